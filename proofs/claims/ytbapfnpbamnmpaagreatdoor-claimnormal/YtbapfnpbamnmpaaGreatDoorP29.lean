/- A part of the proof that the text which Print makes of a parsed text is a normal form -/
import Derived.Test.YtbapfnpbamnmpaaGreatDoorP00
import Derived.Test.YtbapfnpbamnmpaaGreatDoorP21
import Derived.Test.YtbapfnpbamnmpaaGreatDoorP28
import Derived.Test.YtbapfnpbamnmpaaGreatDoorP25
import Derived.Tactics
set_option maxHeartbeats 8000000
set_option maxRecDepth 100000
namespace Go.Proofs.YtbapfnpbamnmpaaGreatDoor
open Go Go.RowKit Go.Dig Go.Deep Go.Eng Go.Proofs.Tryz
variable{t:TypeId}{B b c d e g i k m n o p q sz ty:Nat}{V Y:Array Value}{x y z:Operand}{cs:List Value}{v:Value}{s:ByteArray}{W' w:World}
section
attribute [local irreducible] wpList
def kQ{α:Type}(ts:List aS)(p:Nat->Option (PR α)):Nat->List α->Nat->Option (PR (List α))
 |0,_,_=>none
 |n+1,l,j=>if bF (ar ts j) [44]=true then cf (p (j+1)) λ x k=>kQ ts p n (l++[x]) k else some (.ok l j [])
def mI{α:Type}(ts:List aS)(p:Nat->Option (PR α))(n i:Nat):Option (PR (List α)):=cf (p i) λ x j=>kQ ts p n [x] j
theorem XK:gY 242 (.agg QV) 7 40:=mD (by kernel_rfl)
theorem XL:gY 65 (.agg ZRl) 5 48:=mD (by kernel_rfl)
section
variable{n:Nat}{l:Fm}{ops:Array Oper}{rest:List Oper}{Q:Exit->Act->World->Prop}{oi:Oper}{w:World}{d:Nat}
theorem OU{t:Nat}{ob:Oper}{db:Tmp}(a:V.size=sz)
 (h:∀w',aa w w'->w'.ownsRow w.heap.size t sz (.slice (some ⟨w.heap.size,0,none⟩) 1 1) 1 V.toList->wpList prog ops Q rest (aH n (aC l db (.slice (some ⟨w.heap.size,0,none⟩) 1 1))) w')
 (d:(execOp (ev n l) ob).run prog w= .ok (.value (.slice (some ⟨w.heap.size,0,none⟩) 1 1)) (w.alloc (.cells V t)):=by kernel_rfl)(b:ob.guard=none:=by rfl)(c:ob.dst=some db:=by rfl):
 wpList prog ops Q (ob::rest) (aH n l) w:=by
 refine zv _ (by rw[aO];exact d) b c (h _ ((aa.refl w).alloc _) ⟨by simp[a],.inr ⟨w.heap.size,1,V,rfl,aU _,aD.new w V t,aU _,by unfold maxLen;decide,by omega,?_⟩⟩)
 rw[List.take_of_length_le]
 simp[a]
theorem BP{t D5 st:Nat}{z:Value}{ob oa:Oper}{db da s:Tmp}(f:gY t z sz D5)(j:z.cells.size=sz)(o:0<sz)(D:D5<=1024)(p:prog.underlying st=some (.slice t))
 (q:w.ownsRow B t sz v m cs)(G:B<=w.heap.size)(hm:m+1<=1099511627)(i:V.all (·.oneCell')=true)(F:V.size=sz)
 (h:∀w' v',w'.ownsRow B t sz v' (m+1) (cs++V.toList)->w.grownBy w' v.ownBlock->(v'.ownBlock=v.ownBlock∨∀g,v'.ownBlock=some g->w.heap.size<=g)->wpList prog ops Q rest (aH n (aC (aC l db (.slice (some ⟨w.heap.size,0,none⟩) 1 1)) da v')) w')
 (E:(execOp (ev n l) ob).run prog w= .ok (.value (.slice (some ⟨w.heap.size,0,none⟩) 1 1)) (w.alloc (.cells V t)):=by kernel_rfl)(y:ob.guard=none:=by rfl)(C:ob.dst=some db:=by rfl)
 (d:oa.op= .call {callee:=.builtin .append,args:=#[.tmp s,.tmp db],argTypes:=#[st,st]}/\oa.guard=none/\oa.dst=some da:=by exact⟨rfl,rfl,rfl⟩)
 (hs:bA n l (.tmp s)=some v:=by rfl)(e:s≠db/\db<n:=by decide):wpList prog ops Q (ob::oa::rest) (aH n l) w:=by
 obtain⟨n1,n4⟩:=e;refine zv _ (by rw[aO];exact E) y C ?_;have a:aa w (w.alloc (.cells V t)):=(aa.refl w).alloc _;have I:=aD.new w V t;have es:bA n (aC l db (.slice (some ⟨w.heap.size,0,none⟩) 1 1)) (.tmp s)=some v:=by
  rw[<-hs];simp only[bA,aC,oM n1];rfl
 have H:bA n (aC l db (.slice (some ⟨w.heap.size,0,none⟩) 1 1)) (.tmp db)=some (.slice (some ⟨w.heap.size,0,none⟩) 1 1):=by
  simp only[bA,aC,Nat.beq_refl,cond_true,show Nat.blt db n=true from Nat.ble_eq_true_of_le n4]
 refine dh d.2.1 (.tmp s) (.tmp db) st d.1 f p j o D B (jP G a.size) _ m cs (aE es) (dD q a) ⟨w.heap.size,0,none⟩ 1 1 V.toList (aE H) (by simp[F]) (pR I) (λ u k=> ?_) (by decide) hm (λ v' w' ho c r=> ?_)
 ·rw[Array.all_eq_true] at i;obtain⟨x,hx,rfl⟩:=List.getElem_of_mem k;exact i x (by simpa using hx)
 rw[d.2.2,bX]
 refine h w' v' ho ⟨c.os.trans a.os,c.tape.trans a.tape,c.output.trans a.output,jP a.size c.size,λ b hb e=>(c.block b (jf hb a.size) e).trans (a.old b hb)⟩ (r.imp id λ h g A=>jP a.size (h g A))
end
section
variable{E:Nat->Bool}{W0 W:World}{g:Nat}{ta:Option Addr}{tc:Nat}{ts:List aS}{i:Nat}{ve vi:Value}{ex ix:List Nat}
theorem du.ZO(h:du E W0 W g ta tc ts i ve vi ex ix)(a:W.grownBy W' v.ownBlock)(hv:∀o,v.ownBlock=some o->o≠g/\(ve.ownBlock≠some o/\vi.ownBlock≠some o)/\W0.heap.size<=o):du E W0 W' g ta tc ts i ve vi ex ix:=by
 have ho:∀u:Value,(∀o,v.ownBlock=some o->u.ownBlock≠some o)->u.ownBlock=none∨u.ownBlock≠v.ownBlock:=λ u b=>by
  cases d:u.ownBlock with
  |none=>exact .inl rfl
  |some o=>exact .inr λ he=>b o he.symm d
 exact⟨⟨jP h.kb.size a.size,λ c hc e f=>(a.block c (jf hc h.kb.size) λ he=>by have:=(hv c he.symm).2.2;omega).trans (h.kb.old c hc e f),a.tape.trans h.kb.tape,a.os.trans h.kb.os,a.output.trans h.kb.output⟩,
  (a.block g h.bw.lt λ he=>(hv g he.symm).1 rfl).trans h.bw,World.ownsRow.kept h.oe a (ho ve λ o h1=>(hv o h1).2.1.1),World.ownsRow.kept h.oi a (ho vi λ o h1=>(hv o h1).2.1.2),h.fe,h.fi,h.ne,h.lt,h.TO⟩
theorem af.grow{w1 w2:World}(h:af w w1 g)(k:w1.grownBy w2 v.ownBlock)(hv:∀o,v.ownBlock=some o->w.heap.size<=o):af w w2 g:=
 ⟨jP h.size k.size,λ c hc a=>(k.block c (jf hc h.size) (λ he=>by have:=hv c he.symm;omega)).trans (h.old c hc a),k.tape.trans h.tape,k.os.trans h.os,k.output.trans h.output⟩
theorem qm{B':Nat}(h:w.ownsRow B e sz v m cs)(hb:B'<=B):w.ownsRow B' e sz v m cs:=by
 obtain⟨h1,h2|⟨g,cap,a,hv,b,h3⟩⟩:=h
 ·exact⟨h1,.inl h2⟩
 ·exact⟨h1,.inr ⟨g,cap,a,hv,jP hb b,h3⟩⟩
def jU(l:List cp):List Value:=l.flatMap λ x=>(iY x).toList
theorem FV(c:FM E W0 g ta tc ts)(h:du E W0 W g ta tc ts i ve vi ex ix)(hn:n<=1000000){r:PR (List cp)}(hr:mI ts (lD ts) n i=some r):Calls prog 95 #[.pointer (some ⟨g,0,none⟩)] W λ e W'=>match r with
 | .ok l j _=>(∃v,e= .returned v/\W'.ownsRow W.heap.size 242 7 v l.length (jU l))/\du E W0 W' g ta tc ts j ve vi ex ix/\af W W' g
 | .bad j=>e= .panicked (oZ (ar ts j).at')/\KE E W0 W' g:=by
 have XF:=h.bw.lt;have Su:=h.kb.size;unfold mI at hr;refine ct 16 func95 rfl ntmps95 ?_;refine gz ?_;rcases Cq ts i with⟨x,j,ha⟩|⟨j,ha⟩
 case inr=>
  rw[ha] at hr;obtain rfl:PR.bad j=r:=iG hr;refine jX 177 _ (oB c h ha) ?_;rintro e J ⟨rfl,q⟩
  exact .inr ⟨_,rfl,rfl,rfl,q⟩
 rw[ha,iP] at hr;refine jX 177 _ (oB c h ha) ?_;rintro e w1 ⟨rfl,h1,F⟩
 refine .inl ⟨_,rfl,?_⟩
 have s1:=F.size;refine OU (V:=iY x) (t:=242) (sz:=7) rfl λ w2 D N=> ?_;have fresh:∀b,W.heap.size<=b->ve.ownBlock≠some b/\vi.ownBlock≠some b:=λ b hb=>h.mE hb;refine gz ?_;refine dQ (σ:=Nat×List cp×Nat×Value) n (λ _ s=>[(0,.pointer (some ⟨g,0,none⟩)),(3,s.2.2.2)])
  (λ k s w'=>du E W0 w' g ta tc ts s.1 ve vi ex ix/\af W w' g/\w'.ownsRow W.heap.size 242 7 s.2.2.2 s.2.1.length (jU s.2.1)/\s.2.1.length=k+1/\s.2.2.1=n-k/\kQ ts (lD ts) s.2.2.1 s.2.1 s.1=some r)
  (j,[x],n,_) ⟨rfl,rfl,trivial⟩ ⟨h1.kept D,af.aR F D,qm N s1,rfl,rfl,hr⟩ λ fl wr k ⟨j,p,f,v⟩ hk ⟨I,Z,oj,A,Q,m⟩=> ?_
 replace I:du E W0 wr g ta tc ts j ve vi ex ix:=I;replace oj:wr.ownsRow W.heap.size 242 7 v p.length (jU p):=oj;replace A:p.length=k+1:=A;replace Q:f=n-k:=Q;replace m:kQ ts (lD ts) f p j=some r:=m;clear hr ha h1 N F D s1;cases f with
 |zero=>cases m
 |succ f=>
 rw[kQ] at m;have w:∀o,v.ownBlock=some o->W.heap.size<=o:=λ o ho=>(World.ownsRow.lt oj o ho).1;refine gz ?_;refine zc 94 _ (cI c.toQ4 I ⟨#[44]⟩) ?_;rintro e w3 ⟨u,z,rfl,h3,O⟩
 refine⟨_,rfl,?_⟩
 replace z:u=bF (ar ts j) [44]:=z;rw[<-z] at m;clear z;have M:=bE oj O λ ho=>by have:=w g ho;omega
 have T:=af.cX Z O;cases u
 case false=>
  rw[if_neg iZ] at m;obtain rfl:PR.ok p j []=r:=iG m;refine gz ?_;exact aF ⟨⟨_,rfl,M⟩,h3,T⟩
 rw[if_pos rfl] at m;replace h3:du E W0 w3 g ta tc ts (j+1) ve vi ex ix:=h3;refine gz ?_;rcases Cq ts (j+1) with⟨y,G,ha⟩|⟨G,ha⟩
 case inr=>
  rw[ha] at m;obtain rfl:PR.bad G=r:=iG m;refine jX 177 _ (oB c h3 ha) ?_;rintro e J ⟨rfl,q⟩
  exact .inr ⟨_,rfl,rfl,rfl,q⟩
 rw[ha,iP] at m;refine jX 177 _ (oB c h3 ha) ?_;rintro e J ⟨rfl,h4,q⟩
 refine .inl ⟨_,rfl,?_⟩
 have L:=bE M q λ ho=>by have:=w g ho;omega
 have S:=af.cX T q;have s4:=S.size;refine za QV 242 λ w5 P e5 C b5 q5=> ?_;refine zt b5 (vJ (n:=0) (a:=false) (b:=false) (c:=false) (d:=false) (x:=0) (y:=0)) (ur y) λ w6 B b6=> ?_;have H:=λ o ho=>(World.ownsRow.lt L o ho).2;have Y:=bE (dD L C) B λ ho=>by have:=H P ho;omega
 have h6:=(h4.kept C).other B (by omega) (fresh P (by omega)) (by omega)
 have R:=af.vC (af.aR S C) B (by omega)
 refine gz ?_;refine zl b6.range (ur y) ?_;refine BP (V:=iY y) XK rfl (by decide) (by decide) (by kernel_rfl) Y R.size (by omega) (ur y).2 rfl λ U K X g7 n7=> ?_;have h7:=h6.ZO g7 λ o ho=>⟨by have:=w o ho;omega,fresh o (w o ho),by have:=w o ho;omega⟩
 have K7:=af.grow R g7 w;refine gz ?_;refine⟨_,(G,p++[y],f,K),rfl,by omega,⟨rfl,rfl,trivial⟩,h7,K7,?_,?_,?_,m⟩
 ·show U.ownsRow W.heap.size 242 7 K (p++[y]).length (jU (p++[y]))
  rw[gJ,show jU (p++[y])=jU p++(iY y).toList by unfold jU;simp]
  exact X
 ·show(p++[y]).length=k+1+1;rw[gJ,A];rfl
 ·show f=n-(k+1)
  omega
end
def Re{α:Type}(u:List (Nat×Bool)):PR α->PR α
 | .ok x j v=>.ok x j (u++v)
 | .bad j=>.bad j
theorem AX{α β:Type}{x:α}{u:List (Nat×Bool)}{f:α->Nat->Option (PR β)}{r:PR β}(h:cf (some (.ok x i u)) f=some r):∃r',f x i=some r'/\r=Re u r':=by
 cases hf:f x i with
 |none=>simp only[cf,hf] at h;cases h
 |some y=>
  refine⟨y,rfl,?_⟩
  simp only[cf,hf] at h;cases y with
  |bad j=>exact(iG h).symm
  |ok y j v=>exact(iG h).symm
def ie(l:List cW):List Value:=l.flatMap λ x=>(fG x).toList
section
variable{E:Nat->Bool}{W0 W:World}{g:Nat}{ta:Option Addr}{tc:Nat}{ts:List aS}{i:Nat}{ve vi:Value}{ex ix:List Nat}
theorem XE.add{α:Type}{P:α->Value->World->Prop}{u:List (Nat×Bool)}{r:PR α}{e:Ending}(h:XE E W0 g ta tc ts (ex++gi u false) (ix++gi u true) P r e W'):XE E W0 g ta tc ts ex ix P (Re u r) e W':=by
 cases r with
 |bad j=>exact h
 |ok x j v=>
  obtain⟨h1,ve,vi,h2⟩:=h;refine⟨h1,ve,vi,?_⟩
  rw[iC,iC,<-rU,<-rU]
  exact h2
theorem TV(h:W.ownsRow B e sz v m cs)(k:KE E W W' g)(hv:∀o,v.ownBlock=some o->o≠g/\E o=false):W'.ownsRow B e sz v m cs:=by
 obtain⟨h1,h2|⟨o,cap,a,rfl,b,hc,h3⟩⟩:=h
 ·exact⟨h1,.inl h2⟩
 ·have:=hv o rfl;exact⟨h1,.inr ⟨o,cap,a,rfl,b,(k.old o (Array.getElem?_eq_some_iff.1 hc).1 this.1 this.2).trans hc,h3⟩⟩
theorem AY(x:cW):dY 65 (fG x):=Ep
theorem abF(num:ByteArray->gV)(c:FM E W g ta tc ts)(h:du E W W g ta tc ts i ve vi ex ix)(hn:n<=1000000){r:PR (List cW)}(hr:mI ts (rV num ts m) n i=some r):
 Calls prog 96 #[.pointer (some ⟨g,0,none⟩)] W (XE E W g ta tc ts ex ix (λ l v W'=>W'.ownsRow W.heap.size 65 5 v l.length (ie l)) r):=by
 have XF:=h.bw.lt;unfold mI at hr;refine ct 16 func96 rfl ntmps96 ?_;refine gz ?_;cases ha:rV num ts m i with
 |none=>rw[ha] at hr;cases hr
 |some r1=>
 rw[ha] at hr;refine jX 93 _ (vP num c h ha) ?_;cases r1 with
 |bad j=>
  obtain rfl:PR.bad j=r:=iG hr;rintro e D ⟨rfl,k1⟩
  exact .inr ⟨_,rfl,rfl,rfl,k1⟩
 |ok x j u=>
 obtain⟨r1,mQ,rfl⟩:=AX hr;rintro e D ⟨⟨v,rfl,hv⟩,G,F,h1⟩
 subst hv;refine .inl ⟨_,rfl,?_⟩
 have s1:=h1.kb.size;refine OU (V:=fG x) (t:=65) (sz:=5) rfl λ w2 k2 Y=> ?_;refine gz ?_;refine dQ (σ:=Nat×List cW×Nat×Value×Value×Value×List Nat×List Nat×PR (List cW)) n (λ _ s=>[(0,.pointer (some ⟨g,0,none⟩)),(3,s.2.2.2.1)])
  (λ k s w'=>du E W w' g ta tc ts s.1 s.2.2.2.2.1 s.2.2.2.2.2.1 s.2.2.2.2.2.2.1 s.2.2.2.2.2.2.2.1/\w'.ownsRow W.heap.size 65 5 s.2.2.2.1 s.2.1.length (ie s.2.1)/\(∀o,s.2.2.2.1.ownBlock=some o->o≠g/\s.2.2.2.2.1.ownBlock≠some o/\s.2.2.2.2.2.1.ownBlock≠some o)/\s.2.1.length=k+1/\s.2.2.1=n-k/\
    kQ ts (rV num ts m) s.2.2.1 s.2.1 s.1=some s.2.2.2.2.2.2.2.2/\∀e W',XE E W g ta tc ts s.2.2.2.2.2.2.1 s.2.2.2.2.2.2.2.1 (λ l v W'=>W'.ownsRow W.heap.size 65 5 v l.length (ie l)) s.2.2.2.2.2.2.2.2 e W'->XE E W g ta tc ts ex ix (λ l v W'=>W'.ownsRow W.heap.size 65 5 v l.length (ie l)) (Re u r1) e W')
  (j,[x],n,_,G,F,_,_,r1) ⟨rfl,rfl,trivial⟩ ⟨h1.kept k2,qm Y s1,λ o ho=> ?_,rfl,rfl,mQ,λ e W' h=>h.add⟩ λ fl wr k ⟨j,d,f,v,q,p,C,A,r2⟩ hk ⟨P,oj,vj,M,fj,a,w⟩=> ?_
 ·obtain rfl:D.heap.size=o:=by simpa [Value.ownBlock] using ho
  have:=h1.mE (aU D.heap.size)
  exact⟨by omega,this.1,this.2⟩
 replace P:du E W wr g ta tc ts j q p C A:=P;replace oj:wr.ownsRow W.heap.size 65 5 v d.length (ie d):=oj;replace vj:∀o,v.ownBlock=some o->o≠g/\q.ownBlock≠some o/\p.ownBlock≠some o:=vj;replace M:d.length=k+1:=M;replace fj:f=n-k:=fj;replace a:kQ ts (rV num ts m) f d j=some r2:=a;replace w:∀e W',XE E W g ta tc ts C A (λ l v W'=>W'.ownsRow W.heap.size 65 5 v l.length (ie l)) r2 e W'->XE E W g ta tc ts ex ix (λ l v W'=>W'.ownsRow W.heap.size 65 5 v l.length (ie l)) (Re u r1) e W':=w;clear hr mQ ha h1 Y k2 s1;cases f with
 |zero=>cases a
 |succ f=>
 rw[kQ] at a;refine gz ?_;refine zc 94 _ (cI c.toQ4 P ⟨#[44]⟩) ?_;rintro e w3 ⟨b,hb,rfl,h3,k3⟩
 refine⟨_,rfl,?_⟩
 replace hb:b=bF (ar ts j) [44]:=hb;rw[<-hb] at a;clear hb;have L:=bE oj k3 λ ho=>(vj g ho).1 rfl;cases b
 case false=>
  rw[if_neg iZ] at a;obtain rfl:PR.ok d j []=r2:=iG a;replace h3:du E W w3 g ta tc ts j q p C A:=h3;refine gz ?_;exact aF (w _ _ ⟨⟨_,rfl,L⟩,q,p,by rw[show gi [] false=[] from rfl,show gi [] true=[] from rfl,List.append_nil,List.append_nil];exact h3⟩)
 rw[if_pos rfl] at a;replace h3:du E W w3 g ta tc ts (j+1) q p C A:=h3;refine gz ?_;cases ha:rV num ts m (j+1) with
 |none=>rw[ha] at a;cases a
 |some J=>
 rw[ha] at a;refine jX 93 _ (vP num (c.later h3) h3.later ha) ?_;cases J with
 |bad N=>
  obtain rfl:PR.bad N=r2:=iG a;rintro e w4 ⟨rfl,k4⟩
  exact .inr ⟨_,rfl,rfl,w _ _ ⟨rfl,h3.zM k4⟩⟩
 |ok y N u4=>
 obtain⟨J,I,rfl⟩:=AX a;rintro e w4 ⟨⟨H,rfl,FW⟩,U,T,R⟩
 subst FW;refine .inl ⟨_,rfl,?_⟩
 have S:=h3.back R;have hE:∀o,v.ownBlock=some o->o≠g/\nI q p o=false:=λ o ho=>⟨(vj o ho).1,ff (vj o ho).2⟩
 have K:=TV L R.kb hE;have H:∀o,v.ownBlock=some o->U.ownBlock≠some o/\T.ownBlock≠some o:=λ o ho=>R.re (World.ownsRow.lt L o ho).2 (hE o ho).2;refine za ZRl 65 λ w5 g5 e5 k5 b5 q5=> ?_;have Q:W.heap.size<=g5:=by have:=S.kb.size;omega
 refine zt b5 (by exact Ep) (AY y) λ w6 Z b6=> ?_;have O:=λ o ho=>(World.ownsRow.lt K o ho).2;have o6:=bE (dD K k5) Z λ ho=>by have:=O g5 ho;omega
 have B:=(S.kept k5).other Z (by omega) (S.mE (by omega)) Q;refine gz ?_;refine zl b6.range (AY y) ?_;refine BP (V:=fG y) XL rfl (by decide) (by decide) (by kernel_rfl) o6 B.kb.size (by omega) (AY y).2 rfl λ w7 X o7 g7 z=> ?_;have h7:=B.ZO g7 λ o ho=>⟨(vj o ho).1,H o ho,(World.ownsRow.lt K o ho).1⟩
 refine gz ?_;refine⟨_,(N,d++[y],f,X,U,T,_,_,J),rfl,by omega,⟨rfl,rfl,trivial⟩,h7,?_,λ o ho=> ?_,?_,?_,I,λ e W' h=>w e W' h.add⟩
 ·show w7.ownsRow W.heap.size 65 5 X (d++[y]).length (ie (d++[y]))
  rw[gJ,show ie (d++[y])=ie d++(fG y).toList by unfold ie;simp]
  exact o7
 ·rcases z with z|z
  ·have ho:v.ownBlock=some o:=z▸ho;exact⟨(vj o ho).1,H o ho⟩
  ·have:=B.bw.lt;have:=z o ho;exact⟨by omega,B.mE this⟩
 ·show(d++[y]).length=k+1+1;rw[gJ,M];rfl
 ·show f=n-(k+1)
  omega
end
section
section
variable{ops:Array Oper}{Q:Exit->Act->List Frame->World->Prop}{oi:Oper}{n d i:Nat}{l:Fm}{w:World}{cs:List Frame}{rest:List Nat}
theorem OV{a:Act}(hi:ops[i]? =some oi)(b:oi.guard=none)(h:oi.wp prog a w (λ a' w'=>wpOpsS prog ops Q rest a' cs w') (λ e a' w'=>Q e a' cs w')):wpOpsS prog ops Q (i::rest) a cs w:=by
 simp only[wpOpsS,hi]
 rw[if_pos (by simp[Region.wanted,b])]
 unfold Oper.wp at h;split
 ·rename_i w' he;rw[he] at h;exact h.elim
 ·exact h
theorem abG(v:Value){w':World}(hrun:(execOp (ev n l) oi).run prog w= .ok (.value v) w')(h:wpOpsS prog ops Q rest (aH n (aC l d v)) cs w')(hi:ops[i]? =some oi:=by rfl)(a:oi.guard=none:=by rfl)(hd:oi.dst=some d:=by rfl):wpOpsS prog ops Q (i::rest) (aH n l) cs w:=by
 refine OV hi a ?_;unfold Oper.wp;rw[aO,hrun]
 show wpOpsS prog ops Q rest ((aH n l).put oi.dst v) cs w';rw[hd,bX]
 exact h
theorem ak5{cs':List Frame}(hr:recoverD cs=some (v,cs'))(h:wpOpsS prog ops Q rest (aH n (aC l d v)) cs' w)(hi:ops[i]? =some oi:=by rfl)(a:oi.guard=none:=by rfl)(hd:oi.dst=some d:=by rfl)(hrun:(execOp (ev n l) oi).run prog w= .ok .recover w:=by rfl):wpOpsS prog ops Q (i::rest) (aH n l) cs w:=by
 simp only[wpOpsS,hi]
 rw[if_pos (by simp[Region.wanted,a]),aO,hrun]
 simp only[hr]
 rw[hd,bX]
 exact h
theorem Tl(hr:recoverD cs=none)(h:wpOpsS prog ops Q rest (aH n (aC l d .nilIface)) cs w)(hi:ops[i]? =some oi:=by rfl)(a:oi.guard=none:=by rfl)(hd:oi.dst=some d:=by rfl)(hrun:(execOp (ev n l) oi).run prog w= .ok .recover w:=by rfl):wpOpsS prog ops Q (i::rest) (aH n l) cs w:=by
 simp only[wpOpsS,hi]
 rw[if_pos (by simp[Region.wanted,a]),aO,hrun]
 simp only[hr]
 rw[hd,bX]
 exact h
theorem ZP(h:wpOpsS prog ops Q rest (aH n (aC l d v)) cs w)(hi:ops[i]? =some oi:=by rfl)(hs:rJ n l oi.op=some v:=by rfl)(a:oi.guard=none:=by rfl)(hd:oi.dst=some d:=by rfl):wpOpsS prog ops Q (i::rest) (aH n l) cs w:=
 abG v (by rw[<-aO];exact th hs) h hi a hd
theorem TW(hb:aD w g Y t)(e:dY ty Y)(a:dY ty V)(h:∀w',af w w' g->aD w' g V t->wpOpsS prog ops Q rest (aH n l) cs w')
 (hi:ops[i]? =some oi:=by rfl)(d:oi.guard=none:=by rfl)(hd:oi.dst=none:=by rfl)(c:oi.op= .store ty (.tmp p) (.tmp q):=by rfl)(hx:bA n l (.tmp p)=some (.pointer (some ⟨g,0,none⟩)):=by rfl)(b:bA n l (.tmp q)=some (.agg V):=by rfl):wpOpsS prog ops Q (i::rest) (aH n l) cs w:=
 OV hi d (wp_store_row ty (.tmp p) (.tmp q) c g V (bK hx) (bK b) t Y hb a.1 (e.same a) a.2 (by
  rw[hd]
  exact h _ mS (vQ hb)))
theorem s1{xv:Value}(F:Value->Sem Value)(v:Value)(h:wpOpsS prog ops Q rest (aH n (aC l d v)) cs w)(hrun:(F xv).run prog w= .ok v w)(hi:ops[i]? =some oi:=by rfl)
 (a:∀ρ,execOp ρ oi=(do pure (.value (<-F (ρ x)))):=by intro ρ;rfl)(hx:bA n l x=some xv:=by rfl)(b:oi.guard=none:=by rfl)(hd:oi.dst=some d:=by rfl):wpOpsS prog ops Q (i::rest) (aH n l) cs w:=
 abG v (by rw[<-aO,a,aE hx,Sem.run_bind,hrun];rfl) h hi b hd
theorem TX(A:Array Value)(t:TypeId)(h:∀W g,g=w.heap.size->aa w W->aD W g A t->wpOpsS prog ops Q rest (aH n (aC l d (.pointer (some ⟨g,0,none⟩)))) cs W)(hi:ops[i]? =some oi:=by rfl)
 (hrun:(execOp (ev n l) oi).run prog w= .ok (.value (.pointer (some ⟨w.heap.size,0,none⟩))) (w.alloc (.cells A t)):=by kernel_rfl)(a:oi.guard=none:=by rfl)(hd:oi.dst=some d:=by rfl):wpOpsS prog ops Q (i::rest) (aH n l) cs w:=
 abG _ hrun (h _ _ rfl ((aa.refl w).alloc _) (aD.new w A t)) hi a hd
theorem Xd{a:Act}(h:Q .normal a cs w):wpOpsS prog ops Q [] a cs w:=h
end
attribute [local irreducible] wpOpsS
def TY(a:Nat):List PanicEntry:=[{v:=.iface 157 (.agg #[.int .i64 (a:Int)]),recovered:=true}]
theorem TZ(a:Int)(w:World):(Instr.typeAssert (.iface 157 (.agg #[.int .i64 a])) 20 157 true).run prog w= .ok (.tuple #[.agg #[.int .i64 a],.bool true]) w:=by kernel_rfl
theorem abk{f:FuncId}{fn:Func}{c:Code}{x:Value}{u:FrameMode}{R:Ending->FrameMode->World->Prop}(n:Nat)(hf:prog.funcs[f]? =some fn)(hb:fn.body=some c)(hn:fn.ntmps=n+2)
 (h:∀(c₀:Frame)(cs:List Frame),c₀.mode=u->c.wpS prog (bodyPostS prog fn c₀ cs R) (aH (n+2) (aC (aC Ef 0 v) 1 x)) (c₀::cs) w):CallsD prog f #[v,x] u w R:=by
 refine callsD_of_wpS hf hb λ c₀ cs a=> ?_;have e:(⟨#[v,x]++Array.replicate (fn.ntmps- #[v,x].size) undef,[]⟩:Act)=aH (n+2) (aC (aC Ef 0 v) 1 x):=by
  rw[hn]
  refine congrArg (λ t=>(⟨t,[]⟩:Act)) (?_:#[v,x]++Array.replicate n undef=((List.range (n+2)).map λ i=>(aC (aC Ef 0 v) 1 x i).getD undef).toArray)
  apply Array.ext
  ·simp;omega
  ·intro i h1 h2;rcases i with _|_|i
   ·simp[aC];rfl
   ·simp[aC]
   ·simp[aC,Ef,Nat.beq]
 rw[e]
 exact h c₀ cs a
def XM(p q a:Nat)(w w':World):Prop:=∃w1 w2,aa w w1/\af w1 w2 p/\af w2 w' q/\aD w' p #[.int .i64 (a:Int)] 3/\aD w' q #[.int .i64 3] 32
theorem DT(p q a:Nat)(x y:Int)(w:World)(h1:aD w p #[.int .i64 x] 3)(h2:aD w q #[.int .i64 y] 32)(b:p≠q):
 CallsD prog 92 #[.pointer (some ⟨p,0,none⟩),.pointer (some ⟨q,0,none⟩)] (.panicking (oZ a)) w λ e j w'=>
  (∃v,e= .returned v)/\j= .panicking (TY a)/\XM p q a w w':=by
 refine abk 10 func92 rfl ntmps92 λ c₀ cs o=> ?_;apply wpS_seq;apply wpS_region;refine ak5 (v:=.iface 157 (.agg #[.int .i64 (a:Int)])) (cs':={c₀ with mode:=.panicking (TY a)}::cs) (by unfold recoverD oZ at*;simp only[o];rfl) ?_;refine s1 (xv:=.iface 157 (.agg #[.int .i64 (a:Int)])) (λ x=>Instr.typeAssert x 20 157 true) (.tuple #[.agg #[.int .i64 (a:Int)],.bool true]) ?_ (TZ a w)
 refine ZP ?_;refine ZP ?_;refine ZP ?_;refine TX #[.int .i64 0] 157 λ u g1 e1 n s=> ?_;refine TW (V:=#[.int .i64 (a:Int)]) s (by exact⟨by kernel_rfl,by simp[Value.oneCell']⟩) abA λ d m z=> ?_;refine ZP ?_;refine Xd ?_;have c:aa w d:=n.but m (by omega)
 have l:=h1.kept c;have k:=h2.kept c;refine wpS_of_wp ?_;refine gx ?_;refine fV (i:=0) l (by simp) rfl λ w3 h b3=> ?_;refine fV (i:=0) (k.ai h (Ne.symm b)) (by simp) rfl λ t g r=> ?_;refine gx ?_;refine⟨rfl,.panicking (TY a),rfl,.tuple #[],by simp[results],⟨_,rfl⟩,rfl,d,w3,c,h,g,b3.ai g b,r⟩
theorem Jd(p q:Nat)(w:World):CallsD prog 92 #[.pointer (some ⟨p,0,none⟩),.pointer (some ⟨q,0,none⟩)] .returning w λ e b w'=>(∃v,e= .returned v)/\b= .returning/\aa w w':=by
 refine abk 10 func92 rfl ntmps92 λ c₀ cs a=> ?_;apply wpS_seq;apply wpS_region;refine Tl (by unfold recoverD;simp only[a]) ?_;refine s1 (xv:=.nilIface) (λ x=>Instr.typeAssert x 20 157 true) (.tuple #[.agg #[.int .i64 0],.bool false]) ?_ (by kernel_rfl)
 refine ZP ?_;refine ZP ?_;refine ZP ?_;refine TX #[.int .i64 0] 157 λ h g1 e1 d f=> ?_;refine TW (V:=#[.int .i64 0]) f (by exact⟨by kernel_rfl,by simp[Value.oneCell']⟩) (by exact⟨by kernel_rfl,by simp[Value.oneCell']⟩) λ g c i=> ?_;refine ZP ?_;refine Xd ?_;refine wpS_of_wp ?_;refine gx ?_;refine⟨rfl,.returning,by rw[<-a],.tuple #[],by simp[results],⟨_,rfl⟩,rfl,d.but c (by omega)⟩
end
def dW(ds:List Deferred)(n:Nat)(l:Fm):Act:=⟨(aH n l).tmps,ds⟩
section
variable{ds:List Deferred}{n:Nat}{l:Fm}{ops:Array Oper}{rest:List Oper}{Q:Exit->Act->World->Prop}{oi:Oper}{w:World}{d:Nat}
theorem uu:(dW ds n l).eval=ev n l:=by
 rw[<-aO]
 funext x;cases x<;>rfl
theorem Je:(dW ds n l).put (some d) v=dW ds n (aC l d v):=by
 have:=congrArg Act.tmps (bX (n:=n) (l:=l) (d:=d) (v:=v))
 unfold dW;rw[<-this]
 rfl
theorem Cr:(⟨(dW ds n l).tmps.setIfInBounds d v,(dW ds n l).defers⟩:Act)=dW ds n (aC l d v):=Je
theorem dv{w':World}(v:Value)(hrun:(execOp (ev n l) oi).run prog w= .ok (.value v) w')(a:oi.guard=none)(hd:oi.dst=some d)(h:wpList prog ops Q rest (dW ds n (aC l d v)) w'):wpList prog ops Q (oi::rest) (dW ds n l) w:=
 wpList_plain a λ K hK=>by
  unfold Oper.wp;rw[uu,hrun]
  show K ((dW ds n l).put oi.dst v) w';rw[hd,Je]
  exact hK _ _ h
theorem dz(h:wpList prog ops Q rest (dW ds n (aC l d v)) w)(hs:rJ n l oi.op=some v:=by rfl)(a:oi.guard=none:=by rfl)(hd:oi.dst=some d:=by rfl):wpList prog ops Q (oi::rest) (dW ds n l) w:=
 dv v (by rw[<-aO];exact th hs) a hd h
theorem dr(v:Value)(h:wpList prog ops Q rest (dW ds n (aC l d v)) w)(hrun:(execOp (ev n l) oi).run prog w= .ok (.value v) w:=by kernel_rfl)(a:oi.guard=none:=by rfl)(hd:oi.dst=some d:=by rfl):wpList prog ops Q (oi::rest) (dW ds n l) w:=
 dv v hrun a hd h
theorem db(h:∀W g,g=w.heap.size->aa w W->aD W g V t->W.heap.size=g+1->wpList prog ops Q rest (dW ds n (aC l d (.pointer (some ⟨g,0,none⟩)))) W)
 (a:oi.op= .box t x:=by rfl)(hx:bA n l x=some (.agg V):=by rfl)(hrun:(Instr.box t (.agg V)).run prog w= .ok (.pointer (some ⟨w.heap.size,0,none⟩)) (w.alloc (.cells V t)):=by kernel_rfl)(b:oi.guard=none:=by rfl)(hd:oi.dst=some d:=by rfl):wpList prog ops Q (oi::rest) (dW ds n l) w:=
 dv _ (by unfold execOp;rw[a];simp only[eG hx];rw[Sem.run_bind,hrun];rfl) b hd (h _ _ rfl ((aa.refl w).alloc _) (aD.new w V t) (Array.size_push ..))
theorem XN{s f:Nat}(h:wpList prog ops Q rest (dW ds n (aC l d (.pointer (some ⟨b,o+k,none⟩)))) w)(a:oi.op= .fieldAddr s x f:=by rfl)(hx:bA n l x=some (.pointer (some ⟨b,o,none⟩)):=by rfl)(c:OW s f=some k:=by rfl)
 (e:oi.guard=none:=by rfl)(hd:oi.dst=some d:=by rfl):wpList prog ops Q (oi::rest) (dW ds n l) w:=
 dv _ (by
  unfold execOp;simp only[a,eG hx]
  show(do pure (Next.value (<-Instr.fieldAt s (.pointer (some ⟨b,o,none⟩)) f)):Sem Next).run prog w=_;rw[Sem.run_bind,Er c]
  rfl) e hd h
theorem dcp{R:Ending->World->Prop}(f:FuncId)(args:Array Value)(hc:Calls prog f args w R)(h:∀e w',R e w'->(∃v,e= .returned v/\wpList prog ops Q rest (dW ds n (aC l d v)) w')∨(∃ch,e= .panicked ch/\Q (.panic ch) (dW ds n l) w'))
 (hrun:(execOp (ev n l) oi).run prog w= .ok (.enter f args) w:=by kernel_rfl)(b:oi.guard=none:=by rfl)(hd:oi.dst=some d:=by rfl):wpList prog ops Q (oi::rest) (dW ds n l) w:=
 wpList_plain b λ K hK=>by
  unfold Oper.wp;rw[uu,hrun]
  refine Calls.mono hc λ e w' hR=> ?_;rcases h e w' hR with⟨v,rfl,a⟩|⟨ch,rfl,a⟩
  ·simp only[Act.put,hd]
   rw[<-Cr] at a;exact hK _ _ a
  ·exact a
theorem dl1{x:Value}(hc:w.cell? ⟨b,o,none⟩=some x)(h:wpList prog ops Q rest (dW ds n (aC l d x)) w)
 (e:oi.guard=none:=by rfl)(hd:oi.dst=some d:=by rfl)(c:oi.op= .load ty (.tmp p):=by rfl)(hx:bA n l (.tmp p)=some (.pointer (some ⟨b,o,none⟩)):=by rfl)(a:(prog.underlying ty).map TypeDesc.isRow=some false:=by kernel_rfl):
 wpList prog ops Q (oi::rest) (dW ds n l) w:=ll1 hc (by rw[Cr];exact h) e hd c (bK hx) a
theorem dl(c:w.rangeAt b o V.toList)(g:dY ty V)(h:wpList prog ops Q rest (dW ds n (aC l d (.agg V))) w)
 (f:oi.guard=none:=by rfl)(hd:oi.dst=some d:=by rfl)(e:oi.op= .load ty (.tmp p):=by rfl)(hx:bA n l (.tmp p)=some (.pointer (some ⟨b,o,none⟩)):=by rfl)(a:(prog.underlying ty).map TypeDesc.isRow=some true:=by kernel_rfl):
 wpList prog ops Q (oi::rest) (dW ds n l) w:=ll c g (by rw[Cr];exact h) f hd e (bK hx) a
theorem dt(hb:aD w g Y t)(e:dY ty Y)(a:dY ty V)(h:∀w',af w w' g->aD w' g V t->wpList prog ops Q rest (dW ds n l) w')
 (d:oi.guard=none:=by rfl)(hd:oi.dst=none:=by rfl)(c:oi.op= .store ty (.tmp p) (.tmp q):=by rfl)(hx:bA n l (.tmp p)=some (.pointer (some ⟨g,0,none⟩)):=by rfl)(b:bA n l (.tmp q)=some (.agg V):=by rfl):
 wpList prog ops Q (oi::rest) (dW ds n l) w:=ls hb (e.same a) a h d hd c (bK hx) (bK b)
theorem mZ(h:bA n l x=some v):(dW ds n l).eval x=v:=by
 rw[uu]
 exact eG h
theorem dtp(hb:aD w g Y t)(a:dY ty V)(h:∀w',af w w' g->aD w' g (Y.toList.take o++V.toList++Y.toList.drop (o+V.size)).toArray t->wpList prog ops Q rest (dW ds n l) w')(ho:o+V.size<=Y.size)
 (d:oi.guard=none:=by rfl)(hd:oi.dst=none:=by rfl)(c:oi.op= .store ty (.tmp p) (.tmp q):=by rfl)(hx:bA n l (.tmp p)=some (.pointer (some ⟨g,o,none⟩)):=by rfl)(b:bA n l (.tmp q)=some (.agg V):=by rfl):
 wpList prog ops Q (oi::rest) (dW ds n l) w:=by
 obtain⟨h1,h2⟩:=mR (t:=t) V.toList o w Y.toList (by simpa using hb) (by simpa using ho)
 refine wpList_store_mid d ty (.tmp p) (.tmp q) c g o V (mZ hx) (mZ b) (λ j e=>⟨?_,hb.frozen _⟩) a.1 a.2 ?_
 ·rw[hb.cell (o+j) (Array.getElem?_eq_getElem (by omega))]
  rfl
 ·rw[hd]
  exact h _ h1 (by simpa using h2)
theorem dt1{p:Tmp}{x:Value}(hb:aD w g Y t)(hi:i<Y.size)(c:x.oneCell'=true)(h:∀w',af w w' g->aD w' g (Y.setIfInBounds i x) t->wpList prog ops Q rest (dW ds n l) w')
 (m:oi.guard=none:=by rfl)(hd:oi.dst=none:=by rfl)(k:oi.op= .store ty (.tmp p) y:=by rfl)(hx:bA n l (.tmp p)=some (.pointer (some ⟨g,i,none⟩)):=by rfl)(j:bA n l y=some x:=by rfl)
 (d:(prog.info? ty).map (·.size)=some 1:=by kernel_rfl):wpList prog ops Q (oi::rest) (dW ds n l) w:=
 wpList_plain m λ K hK=>by
  have e:(storeVar ty ⟨g,i,none⟩ x).run prog w= .ok () (w.setCell ⟨g,i,none⟩ x):=by
   have o:=hb.cell i (v:=Y[i]) (by simp[hi])
   have a:=run_store prog w ⟨g,i,none⟩ x .plain c;rw[o] at a;simp only[hb.frozen i] at a;cases b:prog.info? ty with
   |none=>simp[b] at d
   |some q=>
    have f:q.size=1:=by simpa [b] using d
    cases x<;>first
     |(simp[Value.oneCell'] at c;done)
     |(simp[storeVar,sizeOf,typeInfo,b,f,Value.cells,storeCells,Addr.add_mid,a];done)
  unfold Oper.wp execOp;simp only[k,mZ hx,mZ j,Instr.storeAt,Instr.sureAddr,Sem.run_bind,Sem.run_pure,Result.andThen_ok,e]
  show K ((dW ds n l).put oi.dst undef) _;rw[hd]
  exact hK _ _ (h _ ((af.refl w g).setCell rfl x) (hb.set i x))
theorem OX{c:Operand}{t e:Code}(h:t.wp prog Q (dW ds n l) w)(hc:bA n l c=some (.bool true):=by rfl):(Code.cond c t e).wp prog Q (dW ds n l) w:=wp_cond_true (mZ hc) h
theorem Jf{c:Operand}{t e:Code}(h:e.wp prog Q (dW ds n l) w)(hc:bA n l c=some (.bool false):=by rfl):(Code.cond c t e).wp prog Q (dW ds n l) w:=wp_cond_false (mZ hc) h
theorem LO{df:Deferred}(h:wpList prog ops Q rest (dW (df::ds) n l) w)(hrun:(execOp (ev n l) oi).run prog w= .ok (.defer df) w:=by kernel_rfl)(b:oi.guard=none:=by rfl)(hd:oi.dst=none:=by rfl):wpList prog ops Q (oi::rest) (dW ds n l) w:=
 wpList_plain b λ K hK=>by
  unfold Oper.wp;rw[uu,hrun]
  show K (Act.put {dW ds n l with defers:=df::(dW ds n l).defers} oi.dst undef) w;rw[hd]
  exact hK _ _ h
theorem BV:dW [] n l=aH n l:=rfl
end
end
theorem bO(s:ByteArray)(i e:Nat)(he:e<=s.size):(s.extract i e).size=e-i:=by
 rw[ByteArray.size_extract];omega
theorem fD(he:e<=s.size)(a:k<e-i):bt (s.extract i e) k=bt s (i+k):=by
 have h1:k<(s.extract i e).size:=by rw[bO s i e he];exact a
 have h2:i+k<s.size:=by omega
 rw[kD h1,kD h2,ByteArray.getElem_extract]
theorem qG{p:Nat->Bool}{s:ByteArray}{i:Nat}:∀k,i<=k->k<gW p s i->p (bt s k)=true:=by
 intro k h1 h2;rw[gW] at h2;split at h2
 ·rename_i h;by_cases a:k=i
  ·rw[a];exact h.2
  ·exact qG k (by omega) h2
 ·omega
termination_by s.size-i
decreasing_by omega
theorem HU{p:Nat->Bool}{s:ByteArray}{i:Nat}(h:gW p s i<s.size):p (bt s (gW p s i))=false:=by
 rw[gW] at h⊢;split at h
 ·rename_i hc;rw[dif_pos hc]
  exact HU h
 ·rename_i hc;rw[dif_neg hc]
  cases hp:p (bt s i) with
  |false=>rfl
  |true=>exact absurd ⟨h,hp⟩ hc
termination_by s.size-i
decreasing_by omega
theorem tS{p:Nat->Bool}{s:ByteArray}{i e:Nat}(b:i<=e)(he:e<=s.size)(h1:∀k,i<=k->k<e->p (bt s k)=true)(h2:e<s.size->p (bt s e)=false):gW p s i=e:=by
 by_cases hi:i=e
 ·subst hi;exact ir h2
 ·rw[dN (by omega) (h1 i (aU _) (by omega))]
  exact tS (by omega) he (λ k a=>h1 k (by omega)) h2
termination_by e-i
decreasing_by omega
theorem lK(h:aQ c=true):48<=c/\c<=57:=by
 unfold aQ at h;simpa using h
theorem XO{a:Nat}(hi:i<s.size)(_:aQ (bt s i)=true)(hs:s.size<=1000000):
 (s.extract i (dV s i)).size<=1000000/\(∀j<(s.extract i (dV s i)).size,bt (s.extract i (dV s i)) j<128)/\lU (s.extract i (dV s i))= !dZ ⟨0,s.extract i (dV s i),a⟩:=by
 have b:dV s i<=s.size:=wH (Nat.le_of_lt hi)
 have n:i<=aw s i:=dU ..;have o:aw s i<=s.size:=jw (Nat.le_of_lt hi)
 have e:∀k,i<=k->k<aw s i->aQ (bt s k)=true:=qG;have c:=bO s i (dV s i) b;refine⟨by omega,?_⟩
 unfold dV at*;split at c
 ·rename_i hc;rw[if_pos hc] at b⊢;have m:aw s i+1<=aw s (aw s i+1):=dU ..;have l:∀k,aw s i+1<=k->k<aw s (aw s i+1)->aQ (bt s k)=true:=qG;refine⟨λ j d=> ?_,?_⟩
  ·rw[c] at d;rw[fD b d]
   by_cases h1:i+j<aw s i
   ·have:=lK (e (i+j) (by omega) h1);omega
   ·by_cases h2:i+j=aw s i
    ·rw[h2];omega
    ·have:=lK (l (i+j) (by omega) (by omega));omega
  ·have e1:lU (s.extract i (aw s (aw s i+1)))=true:=by
    refine vO (j:=aw s i-i) (by rw[c];omega) ?_;rw[fD b (by omega),show i+(aw s i-i)=aw s i by omega]
    unfold sX;rcases hc.2.1 with h|h<;>rw[h]<;>rfl
   have f:aw (s.extract i (aw s (aw s i+1))) 0=aw s i-i:=by
    refine tS (eo _) (by rw[c];omega) (λ k _ g=> ?_) λ _=> ?_
    ·rw[fD b (by omega)];exact e _ (by omega) (by omega)
    ·rw[fD b (by omega),show i+(aw s i-i)=aw s i by omega]
     rcases hc.2.1 with h|h<;>rw[h]<;>rfl
   rw[e1]
   unfold dZ;simp only[f,c]
   rw[vy (show aw s i-i≠aw s (aw s i+1)-i by omega)]
   rfl
 ·rename_i hc;rw[if_neg hc] at b⊢;have hb:∀j,j<aw s i-i->aQ (bt (s.extract i (aw s i)) j)=true:=λ j d=>by
   rw[fD b d];exact e _ (by omega) (by omega)
  refine⟨λ j d=> ?_,?_⟩
  ·rw[c] at d;have:=lK (hb j d);omega
  ·have e1:lU (s.extract i (aw s i))=false:=yH λ j d=>by
    rw[c] at d;have:=lK (hb j d)
    unfold sX;rw[vy (show bt (s.extract i (aw s i)) j≠46 by omega),vy (show bt (s.extract i (aw s i)) j≠47 by omega)]
    rfl
   have f:aw (s.extract i (aw s i)) 0=aw s i-i:=by
    refine tS (eo _) (by rw[c];omega) (λ k _ g=>hb k (by omega)) λ h=> ?_;rw[c] at h;omega
   rw[e1]
   unfold dZ;simp only[f,c,beq_self_eq_true]
   rfl
theorem Rf(h:fX s=some k):k≠0:=by
 unfold fX at h;intro a;subst a;split at h
 ·cases h
 ·split at h
  ·cases h
  ·split at h<;>cases h
theorem T2(h:gX true s i=some (0,e)):aQ (bt s i)=true/\e=dV s i:=by
 unfold gX at h;split at h
 ·rename_i hd;simp only[Option.some.injEq,Prod.mk.injEq,true_and] at h;exact⟨hd,h.symm⟩
 ·split at h
  ·cases a:fX (s.extract i (dO s i)) with
   |none=>rw[a] at h;cases h
   |some k=>
    rw[a] at h;simp only[Option.map_some,Option.some.injEq,Prod.mk.injEq] at h;exact absurd h.1 (Rf a)
  ·split at h
   ·simp at h
   ·split at h<;>simp at h
theorem Cs{s:ByteArray}(hs:s.size<=1000000)(i:Nat):∀t∈(aP true s i).1,t.kind=0->t.text.size<=1000000/\(∀j<t.text.size,bt t.text j<128)/\lU t.text= !dZ t:=by
 by_cases h:i<s.size;case neg=>
  rw[jQ (by omega)]
  intro t a;cases a
 by_cases hb:bt s i=32
 ·rw[fw h hb]
  exact Cs hs (i+1)
 cases b:gX true s i with
 |none=>
  rw[jD h hb b]
  intro t a;cases a
 |some x=>
  obtain⟨k,e⟩:=x;rw[gp h hb b]
  have d:=jg h b;intro t a c;rcases List.mem_cons.1 a with rfl|a
  ·replace c:k=0:=c;subst c;obtain⟨hd,rfl⟩:=T2 b;exact XO h hd hs
  ·exact Cs hs e t a c
termination_by s.size-i
decreasing_by
 ·omega
 ·omega
theorem xi(s:ByteArray)(i:Nat):(aP true s i).1.length<=s.size-i:=by
 by_cases h:i<s.size;case neg=>
  rw[jQ (by omega)]
  exact eo _
 by_cases hb:bt s i=32
 ·rw[fw h hb]
  have:=xi s (i+1)
  omega
 cases a:gX true s i with
 |none=>
  rw[jD h hb a]
  exact eo _
 |some x=>
  obtain⟨k,e⟩:=x;rw[gp h hb a]
  have b:=jg h a;have:=xi s e;show((aP true s e).1.length+1)<=_;omega
termination_by s.size-i
decreasing_by
 ·omega
 ·omega
theorem T3{W:World}{cap:Nat}{a:Option Addr}(hs:s.size<=4000)(e:g<W.heap.size)
 (d:BC (aB W λ b=>b != g&& !(λ _=>false) b) a ((aP true s 0).1++[ij s]).length cap ((aP true s 0).1++[ij s])):FM (λ _=>false) W g a cap ((aP true s 0).1++[ij s]):=by
 have f:=xi s 0;refine⟨⟨e,d,by rw[gJ,List.length_singleton];omega,λ i hi c=> ?_⟩,λ i c=> ?_⟩
 ·rw[gJ,List.length_singleton] at hi⊢;by_cases he:i=(aP true s 0).1.length
  ·refine absurd ?_ c;unfold ar;rw[he,List.getElem?_append_right (aU _)]
   simp[ij]
  ·omega
 ·unfold ar at c⊢;by_cases hi:i<(aP true s 0).1.length
  ·rw[List.getElem?_append_left hi,nW hi] at c⊢;exact Cs (by omega) 0 _ (List.getElem_mem hi) c
  ·rw[List.getElem?_append_right (by omega)] at c;exfalso;cases hx:i-(aP true s 0).1.length with
   |zero=>rw[hx] at c;cases c
   |succ m=>rw[hx] at c;cases c
section
attribute [local irreducible] wpList
section
variable{n:Nat}{l:Fm}{ops:Array Oper}{rest:List Oper}{Q:Exit->Act->World->Prop}{oi:Oper}{fuel:Nat}{listed:Array Bool}{w w0:World}{d lo up:Nat}{S:World->Prop}
theorem yar(i:Nat)(r:Int){op:BinOp}{k:IntKind}{a b:Int}{xt yt:TypeId}(hS:S w)(hr:arI op a b=r)(hw:k.wrap r=r)(h:wpAnyH prog .any ops Q S fuel (listed.setIfInBounds i true) (aH n (aC l d (.int k r))) w)
 (hi:ops[i]? =some oi:=by rfl)(j:oi.op= .binOp op xt x y yt:=by rfl)(hx:bA n l x=some (.int k a):=by rfl)(f:bA n l y=some (.int k b):=by rfl)(hc:aaX op=true:=by rfl)(e:jh n l ops oi=some true:=by rfl)(hd:oi.dst=some d:=by rfl)
 (hs:Region.noSelect ops=true:=by kernel_rfl)(hf:Region.free .any ops listed i=true:=by kernel_rfl)(g:(Region.ready .any ops listed).contains i=true:=by kernel_rfl)
 (hQ:∀c a w x,Q (.panic c) (a.put oi.dst x) w->Q (.panic c) a w:=by exact λ _ _ _ _ h=>h):wpAnyH prog .any ops Q S (fuel+1) listed (aH n l) w:=
 y2g i (.int k r) hS h hi j hx f (λ _=>Te hc hr hw) e hd hs hf g (λ c a w=>hQ c a w _)
theorem Eb(hi:i<=s.size)(b:oi.op= .slice 9 x (some y) none none)(hx:bA n l x=some (.string s))(a:bA n l y=some (.int .i64 (i:Int))):
 (execOp (ev n l) oi).run prog w= .ok (.value (.string (s.extract i s.size))) w:=by
 unfold execOp;simp only[b,eG hx,Option.map_some,eG a,Option.map_none]
 simp[Instr.slice,Instr.sliceBounds,Instr.sliceBound,go_sem,Sem.run_bind,run_underlying underlying9 w,hi]
theorem D8(c:k<=s.size)(b:oi.op= .slice 9 x none (some z) none)(hx:bA n l x=some (.string s))(a:bA n l z=some (.int .i64 (k:Int))):
 (execOp (ev n l) oi).run prog w= .ok (.value (.string (s.extract 0 k))) w:=by
 unfold execOp;simp only[b,eG hx,Option.map_some,eG a,Option.map_none]
 simp[Instr.slice,Instr.sliceBounds,Instr.sliceBound,go_sem,Sem.run_bind,run_underlying underlying9 w,c]
theorem zsf(hi:i<=s.size)(h:wpList prog ops Q rest (aH n (aC l d (.string (s.extract i s.size)))) w)
 (b:oi.op= .slice 9 x (some y) none none:=by rfl)(hx:bA n l x=some (.string s):=by rfl)(a:bA n l y=some (.int .i64 (i:Int)):=by rfl)(c:oi.guard=none:=by rfl)(hd:oi.dst=some d:=by rfl):wpList prog ops Q (oi::rest) (aH n l) w:=
 zv _ (by rw[aO];exact Eb hi b hx a) c hd h
theorem ysf(j:Nat)(hS:S w)(hi:i<=s.size)(h:wpAnyH prog .any ops Q S fuel (listed.setIfInBounds j true) (aH n (aC l d (.string (s.extract i s.size)))) w)
 (f:ops[j]? =some oi:=by rfl)(e:oi.op= .slice 9 x (some y) none none:=by rfl)(hx:bA n l x=some (.string s):=by rfl)(b:bA n l y=some (.int .i64 (i:Int)):=by rfl)(hw:jh n l ops oi=some true:=by rfl)(hd:oi.dst=some d:=by rfl)
 (hs:Region.noSelect ops=true:=by kernel_rfl)(hf:Region.free .any ops listed j=true:=by kernel_rfl)(hr:(Region.ready .any ops listed).contains j=true:=by kernel_rfl)
 (hQ:∀c a w x,Q (.panic c) (a.put oi.dst x) w->Q (.panic c) a w:=by exact λ _ _ _ _ h=>h):wpAnyH prog .any ops Q S (fuel+1) listed (aH n l) w:=
 Wa j _ hS h f hw hd (λ _ _=>Eb hi e hx b) hs hf hr (λ c a w=>hQ c a w _)
theorem ysu(j:Nat)(hS:S w)(f:k<=s.size)(h:wpAnyH prog .any ops Q S fuel (listed.setIfInBounds j true) (aH n (aC l d (.string (s.extract 0 k)))) w)
 (g:ops[j]? =some oi:=by rfl)(e:oi.op= .slice 9 x none (some z) none:=by rfl)(hx:bA n l x=some (.string s):=by rfl)(b:bA n l z=some (.int .i64 (k:Int)):=by rfl)(hw:jh n l ops oi=some true:=by rfl)(hd:oi.dst=some d:=by rfl)
 (hs:Region.noSelect ops=true:=by kernel_rfl)(hf:Region.free .any ops listed j=true:=by kernel_rfl)(hr:(Region.ready .any ops listed).contains j=true:=by kernel_rfl)
 (hQ:∀c a w x,Q (.panic c) (a.put oi.dst x) w->Q (.panic c) a w:=by exact λ _ _ _ _ h=>h):wpAnyH prog .any ops Q S (fuel+1) listed (aH n l) w:=
 Wa j _ hS h g hw hd (λ _ _=>D8 f e hx b) hs hf hr (λ c a w=>hQ c a w _)
theorem yss(j:Nat)(hS:S w)(hi:i<=k)(g:k<=s.size)(h:wpAnyH prog .any ops Q S fuel (listed.setIfInBounds j true) (aH n (aC l d (.string (s.extract i k)))) w)
 (m:ops[j]? =some oi:=by rfl)(f:oi.op= .slice 9 x (some y) (some z) none:=by rfl)(hx:bA n l x=some (.string s):=by rfl)(e:bA n l y=some (.int .i64 (i:Int)):=by rfl)(b:bA n l z=some (.int .i64 (k:Int)):=by rfl)(hw:jh n l ops oi=some true:=by rfl)(hd:oi.dst=some d:=by rfl)
 (hs:Region.noSelect ops=true:=by kernel_rfl)(hf:Region.free .any ops listed j=true:=by kernel_rfl)(hr:(Region.ready .any ops listed).contains j=true:=by kernel_rfl)
 (hQ:∀c a w x,Q (.panic c) (a.put oi.dst x) w->Q (.panic c) a w:=by exact λ _ _ _ _ h=>h):wpAnyH prog .any ops Q S (fuel+1) listed (aH n l) w:=
 Wa j _ hS h m hw hd (λ _ _=>BN hi g f hx e b) hs hf hr (λ c a w=>hQ c a w _)
end
def dE(t:ByteArray)(i:Nat):Nat->Nat
 |0=>0
 |m+1=>dE t i m*10+(bt t (i+m)-48)
def cw(t:ByteArray):Nat:=dE t 0 t.size
def nu(t:ByteArray):Prop:=∀k,k<t.size->aQ (bt t k)=true
theorem Ir(t:ByteArray)(i a b:Nat):dE t i (a+b)=dE t i a*10^b+dE t (i+a) b:=by
 induction b with
 |zero=>simp[dE]
 |succ b ih=>rw[<-Nat.add_assoc,dE,ih,dE,Nat.pow_succ,Nat.add_mul,Nat.mul_assoc,Nat.add_assoc i a b];omega
theorem AW{t:ByteArray}(h:nu t)(i:Nat):∀m,i+m<=t.size->dE t i m<10^m
 |0,_=>by simp[dE]
 |m+1,hm=>by
  have h1:=AW h i m (by omega)
  have h2:=lK (h (i+m) (by omega))
  rw[dE,Nat.pow_succ]
  omega
theorem Oy:∀m,10^m<=iy 2 (4*m)
 |0=>jt 0
 |m+1=>by
  have h:=Oy m;have e:iy 2 (4*m)*iy 2 4=iy 2 (4*(m+1)):=tT _ _ _ (by omega)
  have a:iy 2 4=16:=by rw[gw]
  rw[<-e,a,Nat.pow_succ]
  omega
theorem tX(h:m<=4000):10^m<eV:=Nat.lt_of_le_of_lt (Oy m) (by
 unfold eV;have e:=tT (4*m) (16384-4*m) 16384 (by omega)
 have h1:=mK (16384-4*m) (by omega)
 have h2:=jt (4*m)
 rw[<-e]
 exact jf (by omega:iy 2 (4*m)<iy 2 (4*m)*2) (Nat.mul_le_mul_left _ h1))
theorem tY{t:ByteArray}(h:nu t)(hi:i+m<=t.size)(hm:m<=4000):dE t i m<eV:=Nat.lt_trans (AW h i m hi) (tX hm)
theorem wN(he:gW aQ s 0=gW aQ s k)(h:k<s.size->aQ (bt s k)=false):aw s 0=k:=by unfold aw;rw[he,ir h]
theorem LK(h:¬48<=c):aQ c=false:=by unfold aQ;simp;omega
theorem LL(h:¬c<=57):aQ c=false:=by unfold aQ;simp;omega
theorem LM(h:48<=c)(h2:c<=57):aQ c=true:=by unfold aQ;simp[h,h2]
theorem BU(w:World)(s:ByteArray)(hs:s.size<=1000000):Calls prog 186 #[.string s] w λ e w'=>e= .returned (.tuple #[.string (s.extract 0 (aw s 0)),.string (s.extract (aw s 0) s.size)])/\aa w w':=by
 refine ct 28 func186 rfl ntmps186 ?_;refine If ?_;refine IF (σ:=Unit) (λ _=>[(0,.string s),(4,.int .i64 (aw s 0:Int))]) (λ _ W=>aa w W) (λ _ _=>False) (λ n f _=> ?_) (λ i g _ d=> ?_) (λ _ _ _ h=>h.elim)
 ·refine gx ?_;refine mi s.size (λ k=>[(0,.string s),(4,.int .i64 (k:Int))]) (λ k W=>aa w W/\k<=s.size/\gW aQ s 0=gW aQ s k) ⟨rfl,rfl,trivial⟩ ⟨aa.refl w,eo _,rfl⟩ λ m wr k l ⟨b,j,he⟩=> ?_;refine gx ?_;by_cases c:k<s.size;case neg=>
   have a:=wN he λ h=>absurd h c;refine gx ?_;exact f _ _ () ⟨rfl,by rw[a];rfl,trivial⟩ b
  refine gx ?_;refine wL c ?_;refine gx ?_;by_cases h1:48<=bt s k;case neg=>
   have a:=wN he λ h=>LK h1;refine gx ?_;exact f _ _ () ⟨rfl,by rw[a];rfl,trivial⟩ b
  refine gx ?_;refine wL c ?_;refine gx ?_;by_cases h2:bt s k<=57;case neg=>
   have a:=wN he λ h=>LL h2;refine gx ?_;exact f _ _ () ⟨rfl,by rw[a];rfl,trivial⟩ b
  refine gx ?_;refine mH ((k+1:Nat):Int) ?_ ?_ ?_
  ·show(k:Int)+1=_;omega
  ·rw[IntKind.wrap_i64];omega
  refine gx ?_;exact⟨_,rfl,by omega,⟨rfl,rfl,trivial⟩,b,by omega,by rw[he,dN c (LM h1 h2)]⟩
 replace d:aa w g:=d;have hd:aw s 0<=s.size:=jw (eo _)
 refine gx ?_;refine eJ 0 0 λ hS=> ?_;refine eL 0 hS ?_;refine eL 1 hS ?_;refine eL 3 hS ?_;refine eL 4 hS ?_;refine ysu 2 hS hd ?_;refine ysf 5 hS hd ?_;refine eL 6 hS ?_;refine eL 7 hS ?_;refine gB ?_;refine gx ?_;exact fa ⟨rfl,d.drew⟩
theorem zmn(r:Int){l:Fm}{ops:Array Oper}{rest:List Oper}{Q:Exit->Act->World->Prop}{oi:Oper}{k:IntKind}{a b:Int}{t1 t2:TypeId}(hr:(if b<a then b else a)=r)(h:wpList prog ops Q rest (aH n (aC l d (.int k r))) w)
 (e:oi.op= .call {callee:=.builtin .min,args:=#[x,y],argTypes:=#[t1,t2]}:=by rfl)(hx:bA n l x=some (.int k a):=by rfl)(c:bA n l y=some (.int k b):=by rfl)(f:oi.guard=none:=by rfl)(hd:oi.dst=some d:=by rfl):wpList prog ops Q (oi::rest) (aH n l) w:=
 zv _ (by
  rw[aO]
  unfold execOp;rw[e]
  subst hr;go_simp;rw[eG hx,eG c,run_min_int2]
  rfl) f hd h
theorem lZ(w:World)(s:ByteArray)(hs:s.size<=4000)(ha:nu s):Calls prog 188 #[.string s] w (eX 4294967296 (cw s) w):=by
 refine ct 39 func188 rfl ntmps188 ?_;refine gz ?_;refine dQ (σ:=Nat×Value) s.size (λ _ σ=>[(0,.string s),(3,σ.2),(4,.int .i64 (σ.1:Int))]) (λ k σ W=>aa w W/\σ.1<=s.size/\k<=σ.1/\Nt 4294967296 W σ.2 (dE s 0 σ.1)) (0,.slice none 0 0) ⟨rfl,rfl,rfl,trivial⟩ ⟨aa.refl w,eo _,aU _,ma _ _ _ _⟩ λ I wr k ⟨i,out⟩ R ⟨l,hi,p,hn⟩=> ?_;replace hi:i<=s.size:=hi;replace p:k<=i:=p;replace hn:Nt 4294967296 wr out (dE s 0 i):=hn;refine gz ?_;by_cases P:i<s.size;case neg=>
  refine cr false ?_ ?_
  ·exact gy (by omega)
  refine gz ?_;obtain rfl:i=s.size:=by omega
  exact aF ⟨_,rfl,hn,l⟩
 refine cr true ?_ ?_
 ·exact cU (by omega)
 refine gz ?_;refine mH ((i+9:Nat):Int) ?_ ?_ ?_
 ·show(i:Int)+9=_;omega
 ·rw[IntKind.wrap_i64];omega
 obtain⟨e,he⟩:∃e,e=min s.size (i+9):=⟨_,rfl⟩
 refine zmn (e:Int) ?_ ?_
 ·rw[he];split<;>omega
 have H:i<e/\e<=s.size/\e<=i+9:=by omega
 refine If ?_;refine Dt (σ:=Unit) (λ _=>[(0,.string s),(3,out),(4,.int .i64 (e:Int)),(6,.int .u64 (dE s i (e-i):Int)),(7,.int .u64 ((10^(e-i):Nat):Int))]) (λ _ W=>aa w W/\Nt 4294967296 W out (dE s 0 i)) (λ U q=> ?_) (λ O h _ ⟨g,B⟩=> ?_)
 ·refine gz ?_;refine mi 9 (λ j=>[(0,.string s),(3,out),(4,.int .i64 ((i+j:Nat):Int)),(5,.int .i64 (e:Int)),(6,.int .u64 (dE s i j:Int)),(7,.int .u64 ((10^j:Nat):Int))]) (λ j W=>(aa w W/\Nt 4294967296 W out (dE s 0 i))/\i+j<=e) ⟨rfl,rfl,rfl,rfl,rfl,rfl,trivial⟩ ⟨⟨l,hn⟩,by omega⟩ λ I J j G ⟨m,E⟩=> ?_;refine gz ?_;by_cases Q:i+j<e;case neg=>
   refine cr false ?_ ?_
   ·exact gy (by omega)
   refine gz ?_;obtain rfl:e=i+j:=by omega
   rw[Nat.add_sub_cancel_left] at q;exact q _ _ () ⟨rfl,rfl,rfl,rfl,rfl,trivial⟩ m
  refine cr true ?_ ?_
  ·exact cU (by omega)
  have hb:=lK (ha (i+j) (by omega))
  have S:dE s i j<10^j:=AW ha i j (by omega)
  have T:10^j<=10^9:=Nat.pow_le_pow_right (by decide) G;refine gz ?_;refine mH ((10*dE s i j:Nat):Int) ?_ ?_ ?_
  ·show(10:Int)*_=_;omega
  ·rw[IntKind.wrap_u64];omega
  refine gz ?_;refine wL (show i+j<s.size by omega) ?_;refine mH ((bt s (i+j)-48:Nat):Int) ?_ ?_ ?_
  ·show(bt s (i+j):Int)-48=_;omega
  ·rw[IntKind.wrap_u8];omega
  refine z1 (F:=convert 5 256) (xv:=.int .u8 ((bt s (i+j)-48:Nat):Int)) (.int .u64 ((bt s (i+j)-48:Nat):Int)) (hrun:=by go_simp;rw[IntKind.wrap_u64];omega) ?_;refine mH ((dE s i (j+1):Nat):Int) ?_ ?_ ?_
  ·rw[dE];show((10*dE s i j:Nat):Int)+((bt s (i+j)-48:Nat):Int)=_;omega
  ·rw[dE,IntKind.wrap_u64];omega
  refine gz ?_;refine mH ((10^(j+1):Nat):Int) ?_ ?_ ?_
  ·rw[Nat.pow_succ];show(10:Int)*((10^j:Nat):Int)=_;omega
  ·rw[Nat.pow_succ,IntKind.wrap_u64];omega
  refine gz ?_;refine mH ((i+(j+1):Nat):Int) ?_ ?_ ?_
  ·show((i+j:Nat):Int)+1=_;omega
  ·rw[IntKind.wrap_i64];omega
  refine gz ?_;exact⟨_,rfl,by omega,⟨rfl,rfl,rfl,rfl,rfl,rfl,trivial⟩,m,by omega⟩
 refine gz ?_;have A:10^(e-i)<=10^9:=Nat.pow_le_pow_right (by decide) (by omega)
 have N:dE s i (e-i)<10^(e-i):=AW ha i (e-i) (by omega)
 have z:dE s 0 i*10^(e-i)+dE s i (e-i)=dE s 0 e:=by
  have:=Ir s 0 i (e-i)
  rw[lp,show i+(e-i)=e by omega] at this;exact this.symm
 have M:dE s 0 e<eV:=tY ha (by omega) (by omega)
 replace g:aa w h:=g;refine zc 189 _ (eQ h (10^(e-i)) (by omega)) ?_;rintro x L ⟨y,rfl,f,o⟩
 refine⟨_,rfl,?_⟩
 refine zc 278 _ (pY (Nt.kept B o) f (tY ha (by omega) (by omega)) (tX (by omega))) ?_;rintro x t ⟨v,rfl,d,D⟩
 refine⟨_,rfl,?_⟩
 refine gz ?_;refine zc 189 _ (eQ t (dE s i (e-i)) (by omega)) ?_;rintro x K ⟨u,rfl,c,n⟩
 refine⟨_,rfl,?_⟩
 refine zc 279 _ (Lq (d.kept n) c (by omega) (by omega)) ?_;rintro x r ⟨b,rfl,a,C⟩
 refine⟨_,rfl,?_⟩
 rw[z] at a;refine gz ?_;exact⟨_,(e,b),rfl,by omega,⟨rfl,rfl,rfl,trivial⟩,(((g.trans o).trans D).trans n).trans C,H.2.1,by show k+1<=e;omega,a⟩
theorem FG(a b:Nat)(ha:a<4611686018427387904)(hb:b<4611686018427387904):bits .and .i64 (a:Int) (b:Int)=((a &&& b:Nat):Int):=by
 have hx:a &&& b<2^62:=Nat.and_lt_two_pow _ (by omega)
 have h1:(BitVec.ofInt 64 (a:Int)).toNat=a:=by
  rw[BitVec.ofInt_natCast,BitVec.toNat_ofNat];exact Nat.mod_eq_of_lt (by omega)
 have h2:(BitVec.ofInt 64 (b:Int)).toNat=b:=by
  rw[BitVec.ofInt_natCast,BitVec.toNat_ofNat];exact Nat.mod_eq_of_lt (by omega)
 show IntKind.i64.wrap ((BitVec.ofInt 64 (a:Int) &&& BitVec.ofInt 64 (b:Int)).toNat:Int)=_;rw[BitVec.toNat_and,h1,h2,IntKind.wrap_i64]
 omega
theorem and_one(h:n<4611686018427387904):bits .and .i64 (n:Int) 1=((n%2:Nat):Int):=by
 have:=FG n 1 h (by decide)
 rw[Nat.and_one_is_mod] at this;exact this
theorem Me{N:Nat}(hv:Nt 4294967296 w v m)(h1:1<=m)(h:N<=1000000)(hb:m^N<eV)(hm:m<eV):Calls prog 190 #[v,.int .i64 (N:Int)] w (eX 4294967296 (m^N) w):=by
 refine dK [_,_] 23 func190 rfl ntmps190 (by simp) ?_;refine gx ?_;refine zc 189 _ (eQ w 1 (by decide)) ?_;rintro x Q ⟨v1,rfl,n1,E⟩
 refine gx ?_;refine dQ (σ:=Nat×Value×Nat×Value×Nat) N (λ _ σ=>[(0,σ.2.1),(1,.int .i64 (σ.1:Int)),(5,σ.2.2.2.1)]) (λ k σ W=>aa w W/\k+σ.1<=N/\Nt 4294967296 W σ.2.1 σ.2.2.1/\Nt 4294967296 W σ.2.2.2.1 σ.2.2.2.2/\1<=σ.2.2.1/\1<=σ.2.2.2.2/\σ.2.2.1<eV/\σ.2.2.2.2*σ.2.2.1^σ.1=m^N)
  (N,v,m,v1,1) ⟨rfl,rfl,rfl,trivial⟩ ⟨E,by simp,hv.kept E,n1,h1,aU _,hm,by simp⟩ λ T wr k ⟨q,a,b,out,o⟩ S ⟨A,F,j,no,e,r,g,he⟩=> ?_
 replace F:k+q<=N:=F;replace j:Nt 4294967296 wr a b:=j;replace no:Nt 4294967296 wr out o:=no;replace e:1<=b:=e;replace r:1<=o:=r;replace g:b<eV:=g;replace he:o*b^q=m^N:=he;refine gx ?_;by_cases R:0<q;case neg=>
  refine gx ?_;obtain rfl:q=0:=by omega
  rw[Nat.pow_zero,Nat.mul_one] at he;exact aF ⟨_,rfl,he▸no,A⟩
 refine gx ?_;refine z2 (.int .i64 ((q%2:Nat):Int)) (hrun:=by go_simp;rw[and_one (by omega)];omega) ?_;have B:o<eV:=by
  have:=Nat.mul_le_mul_left o (Nat.pow_le_pow_right e (eo q))
  rw[Nat.pow_zero] at this;omega
 refine cr (decide (q%2=1)) ?_ ?_
 ·exact Aw (q%2) 1
 refine gx ?_;refine Dt (σ:=Value×Nat) (λ σ=>[(0,a),(1,.int .i64 (q:Int)),(5,σ.1)]) (λ σ W=>aa w W/\Nt 4294967296 W a b/\Nt 4294967296 W σ.1 σ.2/\1<=σ.2/\σ.2*b^(2*(q/2))=m^N) (λ O h=> ?_) (λ H t ⟨n,f⟩ ⟨p,c,d,s,i⟩=> ?_)
 ·by_cases hp:q%2=1
  ·rw[cU hp]
   refine gx ?_;have e1:o*b*b^(2*(q/2))=m^N:=by
    rw[<-he,Nat.mul_assoc,<-Nat.pow_succ',show(2*(q/2)).succ=q by omega]
   have J:o*b<eV:=by
    have:=Nat.mul_le_mul_left (o*b) (Nat.pow_le_pow_right e (eo (2*(q/2))))
    rw[Nat.pow_zero] at this;omega
   refine zc 278 _ (pY no j B g) ?_;rintro x G ⟨v2,rfl,n2,l⟩
   refine gx ?_;exact h _ _ (v2,o*b) ⟨rfl,rfl,rfl,trivial⟩ ⟨A.trans l,j.kept l,n2,Nat.mul_le_mul r e,e1⟩
  ·rw[gy hp]
   refine gx ?_;exact h _ _ (out,o) ⟨rfl,rfl,rfl,trivial⟩ ⟨A,j,no,r,by rw[show 2*(q/2)=q by omega];exact he⟩
 replace p:aa w t:=p;replace c:Nt 4294967296 t a b:=c;replace d:Nt 4294967296 t n f:=d;replace s:1<=f:=s;replace i:f*b^(2*(q/2))=m^N:=i;refine gx ?_;refine cr (decide (1<q)) ?_ ?_
 ·show decide ((1:Int)<(q:Int))=_;rw[decide_eq_decide];omega
 refine gx ?_;refine Dt (σ:=Value×Nat) (λ σ=>[(0,σ.1),(1,.int .i64 (q:Int)),(5,n)]) (λ σ W=>aa w W/\Nt 4294967296 W σ.1 σ.2/\Nt 4294967296 W n f/\1<=σ.2/\σ.2<eV/\f*σ.2^(q/2)=m^N) (λ O h=> ?_) (λ H P ⟨D,z⟩ ⟨I,y,u,K,M,C⟩=> ?_)
 ·by_cases hp:1<q
  ·rw[cU hp]
   refine gx ?_;have e1:b^2<=b^(2*(q/2)):=Nat.pow_le_pow_right e (by omega)
   have U:1*b^(2*(q/2))<=m^N:=by rw[<-i];exact wC _ s
   have L:b*b=b^2:=by rw[Nat.pow_two]
   refine zc 278 _ (pY c c g g) ?_;rintro x G ⟨v2,rfl,n2,l⟩
   refine gx ?_;exact h _ _ (v2,b*b) ⟨rfl,rfl,rfl,trivial⟩ ⟨p.trans l,n2,d.kept l,Nat.mul_le_mul e e,by show b*b<eV;omega,by show f*(b*b)^(q/2)=_;rw[L,<-Nat.pow_mul];exact i⟩
  ·rw[gy hp]
   refine gx ?_;have e0:q/2=0:=by omega
   rw[e0] at i;exact h _ _ (a,b) ⟨rfl,rfl,rfl,trivial⟩ ⟨p,c,d,e,g,by rw[e0];exact i⟩
 refine gx ?_;refine z2 (.int .i64 ((q/2:Nat):Int)) (hrun:=by go_simp) ?_;refine gx ?_;exact⟨_,(q/2,D,z,n,f),rfl,by omega,⟨rfl,rfl,rfl,trivial⟩,I,by show k+1+q/2<=N;omega,y,u,K,s,M,C⟩
theorem Tx{neg:Bool}(h:Fr w v neg n d)(hf:(bn n&&bn d)=false):
 Calls prog 191 #[v] w λ e w'=>e= .returned (.tuple #[.agg ZR,.int .i64 1])/\aa w w':=by
 have b:=λ (w':World) (k:aa w w')=>qW (h.kept k)
 rw[hf] at b;obtain⟨s,t,rfl,a,l⟩:=h;obtain⟨g,f,y,rfl⟩:=Ig a;obtain⟨q1,x,u,rfl⟩:=Ig l;clear a l hf;refine ct 23 func191 rfl ntmps191 ?_;refine gx ?_;refine zb λ r g1 e1 j g s1=> ?_;refine za ZR 24 λ q g2 z c f s2=> ?_;refine gx ?_;refine zl (g.kept c).range lJ ?_;refine zc 249 _ (b _ (j.trans c)) ?_;rintro e w3 ⟨rfl,i⟩
 refine gx ?_;refine zr (.agg ZR) ?_;refine zt (f.kept i) cQ cQ λ p o m=> ?_;refine gx ?_;exact fE m cQ ⟨rfl,((j.trans c).trans i).but o (by omega)⟩
def zK(n d:Nat):gV:=if (bn n&&bn d)=true then⟨n,if d=1 then 0 else d⟩ else⟨0,0⟩
def zJ(n d:Nat):Nat:=if (bn n&&bn d)=true then 0 else 1
def abr(c:Nat)(v:gV)(w:World)(e:Ending)(w':World):Prop:=
 ∃a1 n1 c1 a2 n2 c2,e= .returned (.tuple #[.agg #[.bool false,.slice a1 n1 c1,.slice a2 n2 c2],.int .i64 (c:Int)])/\Rt (aB w' (ab w.heap.size)) (.agg #[.bool false,.slice a1 n1 c1,.slice a2 n2 c2]) false v.n v.d/\aa w w'
theorem Ty(h:Fr w v false n d):Calls prog 191 #[v] w (abr (zJ n d) (zK n d) w):=by
 unfold zJ zK;by_cases hf:(bn n&&bn d)=true
 ·rw[if_pos hf,if_pos hf]
  simp only[fv] at hf;exact vH h hf.1 hf.2
 ·rw[if_neg hf,if_neg hf]
  exact(Tx h (by simpa using hf)).mono λ e w' ⟨h1,h2⟩=>⟨none,0,0,none,0,0,h1,mP _,h2⟩
def zx(t:ByteArray):ByteArray:=t.extract 0 (aw t 0)
def oo(t:ByteArray):ByteArray:=t.extract (aw t 0+1) t.size
structure vv(t:ByteArray):Prop where
 pos:0<aw t 0
 size:t.size<=4000
 form:aw t 0=t.size∨((bt t (aw t 0)=46∨bt t (aw t 0)=47)/\aw t 0+1<t.size/\aw t (aw t 0+1)=t.size)
def sQ(t:ByteArray):Nat×Nat:=
 if aw t 0=t.size then(cw t,1) else if bt t (aw t 0)=46 then(cw (zx t++oo t),10^(oo t).size) else(cw (zx t),cw (oo t))
def Tp(q:Nat×Nat):gV:=zK (q.1/Nat.gcd q.1 q.2) (q.2/Nat.gcd q.1 q.2)
def Xl(q:Nat×Nat):Nat:=zJ (q.1/Nat.gcd q.1 q.2) (q.2/Nat.gcd q.1 q.2)
def iz(t:ByteArray):Nat:=if 1240<t.size then 4 else if (sQ t).2=0 then 10 else Xl (sQ t)
def aN(t:ByteArray):gV:=if iz t=0 then Tp (sQ t) else⟨0,0⟩
theorem AU(t:ByteArray):aw t 0<=t.size:=jw (eo _)
theorem wK(t:ByteArray)(k:Nat)(h:k<aw t 0):aQ (bt t k)=true:=qG k (eo _) h
theorem BE(he:e<=s.size)(h:∀k,i<=k->k<e->aQ (bt s k)=true):nu (s.extract i e):=λ k a=>by
 rw[bO s i e he] at a;rw[fD he a]
 exact h _ (by omega) (by omega)
theorem Ec(h:nu s):aw s 0=s.size:=tS (eo _) (aU _) (λ k _ a=>h k a) λ h=>absurd h (Nat.lt_irrefl _)
theorem wX(t:ByteArray):nu (zx t):=BE (AU t) λ k _ a=>wK t k a
theorem vv.tl{t:ByteArray}(h:vv t)(hn:aw t 0≠t.size):nu (oo t)/\(oo t).size=t.size-(aw t 0+1)/\aw t 0+1<t.size/\(bt t (aw t 0)=46∨bt t (aw t 0)=47):=by
 rcases h.form with h1|⟨h1,h2,h3⟩
 ·exact absurd h1 hn
 ·exact⟨BE (aU _) λ k a b=>qG k a (by show k<aw t (aw t 0+1);omega),bO _ _ _ (aU _),h2,h1⟩
theorem Tz{a b:ByteArray}(ha:nu a)(hb:nu b):nu (a++b):=λ k c=>by
 rw[ByteArray.size_append] at c;have d:k<(a++b).size:=by rw[ByteArray.size_append];exact c
 rw[kD d]
 by_cases h:k<a.size
 ·have:=ha k h;rw[kD h] at this;rw[ByteArray.getElem_append_left h]
  exact this
 ·have h2:k-a.size<b.size:=by omega
  have:=hb _ h2;rw[kD h2] at this;rw[ByteArray.getElem_append_right (by omega)]
  exact this
end
end Go.Proofs.YtbapfnpbamnmpaaGreatDoor
