/- A part of the proof that the text which Print makes of a parsed text is a normal form -/
import Derived.Test.YtbapfnpbamnmpaaGreatDoorP00
import Derived.Test.YtbapfnpbamnmpaaGreatDoorP21
import Derived.Test.YtbapfnpbamnmpaaGreatDoorP31
import Derived.Test.YtbapfnpbamnmpaaGreatDoorP29
import Derived.Test.YtbapfnpbamnmpaaGreatDoorP30
set_option maxHeartbeats 8000000
set_option maxRecDepth 100000
namespace Go.Proofs.YtbapfnpbamnmpaaGreatDoor
open Go Go.RowKit Go.Dig Go.Deep Go.Eng Go.Proofs.Tryz
variable{B b j n:Nat}{cs:List Value}{ts:List aS}{u:List (Nat×Bool)}{l:List aj}
section
attribute [local irreducible] wpList
theorem qO{t:aS}(h:dZ t=true):t.kind=0/\nu t.text:=by
 unfold dZ at h;simp only[fv,beq_iff_eq] at h;exact⟨h.1,λ k a=>wK t.text k (by rw[h.2];exact a)⟩
theorem BO(t:ByteArray)(i:Nat):∀a b,a<=b->dE t i a<=dE t i b:=by
 intro a b c;obtain⟨d,rfl⟩:=Nat.exists_eq_add_of_le c;induction d with
 |zero=>exact aU _
 |succ d ih=>
  have:=ih (by omega)
  rw[<-Nat.add_assoc,dE]
  omega
theorem W7:gY 417 (.agg #[.int .i64 0,.int .i64 0,.int .i64 0,.int .i64 0]) 4 32:=mD (by kernel_rfl)
theorem Tg{w:World}{e sz:Nat}{v:Value}(h:w.ownsRow B e sz v n cs):v.oneCell'=true:=by
 obtain⟨a,cap,rfl,-⟩:=bI h;rfl
theorem aaY(w:World)(x:Nat)(hx:x<256):(convert 5 3 (.int .u8 (x:Int))).run prog w= .ok (.int .i64 (x:Int)) w:=by
 have e:IntKind.i64.wrap (x:Int)=(x:Int):=by rw[IntKind.wrap_i64];omega
 generalize (x:Int)=y at*;go_simp
section
variable{W W1 W2 W':World}{N N' g en i:Nat}{ta:Option Addr}{tc:Nat}{ts:List aS}{vc v1 v2 v:Value}{X Y:Nat->Bool}{t:aj}
theorem wP(c:KV ts)(h:cK W g ta tc ts en i vc)(hw:dZ (ar ts i)=true){lo hi:Nat}(hr:xR lo hi (ar ts i)=true)(Hq:hi<1000):Calls prog 428 #[.pointer (some ⟨g,0,none⟩),.int .i64 (lo:Int),.int .i64 (hi:Int)] W λ e W'=>
 e= .returned (.int .i64 (cw (ar ts i).text:Int))/\∃Ou,cK W' g ta tc ts en (i+1) Ou/\fL W W' g vc Ou:=by
 have S:i<ts.length:=by
  by_cases hi:i<ts.length
  ·exact hi
  ·rw[oq hi] at hw;cases hw
 obtain⟨G,hA⟩:=qO hw;have D:=c.num _ (mN S) G;have fK:=D.size;have hg:=h.bw.lt;have hd:=Ec hA;unfold xR at hr;simp only[fv,oh] at hr;generalize R:ar ts i=t at*;refine dK [_,_,_] 76 func428 rfl ntmps428 (by simp) ?_;refine gx ?_;refine zc 419 _ (Td c h) ?_;rintro e w1 ⟨⟨j,rfl⟩,C⟩
 refine gx ?_;refine zc 435 _ (qM c (h.kept C) (k:=0) (by decide)) ?_;rintro e K ⟨u,Q,h2,O,he⟩
 rw[R,G] at Q;obtain rfl:u=true:=by simpa using Q
 rw[if_pos rfl,R] at he;subst he;refine⟨_,rfl,?_⟩
 replace h2:cK K g ta tc ts en (i+1) vc:=h2;have s1:=C.size;have s2:=O.size;refine gx ?_;refine za QH 410 λ w3 g3 e3 B b3 q3=> ?_;refine zt b3 eh eh λ m A J=> ?_;have s3:=B.size;have s4:=A.size;have K2:af W K g:=af.cX (af.aR (af.refl W g) C) O;have X:af W m g:=af.vC (af.aR K2 B) A (by omega)
 have f3:=h.fresh (b:=g3) (by omega)
 have p4:fL W m g vc vc:=ao X;have h4:=cK.loc h p4 (h2.kept B) A (by omega) f3;refine gx ?_;refine eJ 0 0 λ hS=> ?_;refine eL 0 hS ?_;refine eL 1 hS ?_;refine eL 2 hS ?_;refine jG 3 hS ?_;refine eA 4 (J.cell 1 rfl) (by omega) hS ?_;refine jG 6 hS ?_;refine eA 7 (J.cell 1 rfl) (by omega) hS ?_;refine Lr 8 hS ?_;have z:aa m m.drew:=(aa.refl m).drew;refine ycg 5 416 _ hS (oP _ t.text (by omega)) ?_;rintro e l ⟨rfl,s⟩
 refine⟨s,_,rfl,λ hS=> ?_⟩
 rw[hd] at*;refine BL 9 false hS ?_ ?_
 ·show((t.text.size:Int) !=(t.text.size:Int))=false;simp
 refine eL 10 hS ?_;refine gB ?_;have U:af W l g:=af.aR (af.aR X z) s;have Z:fL W l g vc vc:=ao U;have h5:=(h4.kept z).kept s;have b5:=(J.kept z).kept s;have s5:=s.size;clear hS;refine If ?_;refine Dt (σ:=Unit) (λ _=>[(0,.pointer (some ⟨g,0,none⟩)),(1,.int .i64 (lo:Int)),(2,.int .i64 (hi:Int)),(7,.int .i64 (j:Int)),(10,.int .i64 (cw t.text:Int))]) (λ _ W=>aa l W) (λ Q' hN=> ?_) (λ l' Y _ r=> ?_)
 ·refine gx ?_;refine mi t.text.size (λ k=>[(0,.pointer (some ⟨g,0,none⟩)),(1,.int .i64 (lo:Int)),(2,.int .i64 (hi:Int)),(7,.int .i64 (j:Int)),(8,.pointer (some ⟨g3,0,none⟩)),(10,.int .i64 (dE t.text 0 k:Int)),(11,.int .i64 (k:Int))]) (λ k W=>aa l W/\k<=t.text.size) ⟨rfl,rfl,rfl,rfl,rfl,rfl,rfl,trivial⟩ ⟨aa.refl l,eo _⟩ λ fl wr k G ⟨y,E⟩=> ?_;replace E:k<=t.text.size:=E;have br:=b5.kept y;have Zv:dE t.text 0 k<=cw t.text:=BO t.text 0 _ _ E;refine gx ?_;by_cases v:k<t.text.size;case neg=>
   obtain rfl:k=t.text.size:=by omega
   refine gx ?_;exact hN _ _ () ⟨rfl,rfl,rfl,rfl,rfl,trivial⟩ y
  refine gx ?_;have H:dE t.text 0 (k+1)<=cw t.text:=BO t.text 0 _ _ v;have hb:=lK (hA k v)
  refine gx ?_;refine mH ((10*dE t.text 0 k:Nat):Int) ?_ ?_ ?_
  ·show(10:Int)*_=_;omega
  ·rw[IntKind.wrap_i64];omega
  refine gx ?_;refine wL v ?_;refine mH ((bt t.text k-48:Nat):Int) ?_ ?_ ?_
  ·show(bt t.text k:Int)-48=_;omega
  ·rw[IntKind.wrap_u8];omega
  refine z1 (F:=convert 5 3) (xv:=.int .u8 ((bt t.text k-48:Nat):Int)) (.int .i64 ((bt t.text k-48:Nat):Int)) (hrun:=aaY _ _ (by omega)) ?_;rw[dE,lp] at H;refine mH ((dE t.text 0 (k+1):Nat):Int) ?_ ?_ ?_
  ·rw[dE,lp];show((10*dE t.text 0 k:Nat):Int)+((bt t.text k-48:Nat):Int)=_;omega
  ·rw[dE,lp,IntKind.wrap_i64];omega
  refine gx ?_;refine mH ((k+1:Nat):Int) ?_ ?_ ?_
  ·show(k:Int)+1=_;omega
  ·rw[IntKind.wrap_i64];omega
  refine gx ?_;exact⟨_,rfl,v,⟨rfl,rfl,rfl,rfl,rfl,rfl,rfl,trivial⟩,y,v⟩
 replace r:aa l Y:=r;have T:=h5.kept r;have N:=Z.kept r;obtain⟨cs,o0,jr,Ed⟩:=h.own;have o9:=bE o0 (af.aR U r) h.ng;have d:=T.bw;refine gx ?_;refine zr (.agg #[.int .i64 (j:Int),.int .i64 (lo:Int),.int .i64 (hi:Int),.int .i64 (cw t.text:Int)]) ?_;refine BP (V:=#[.int .i64 (j:Int),.int .i64 (lo:Int),.int .i64 (hi:Int),.int .i64 (cw t.text:Int)]) W7 rfl (by decide) (by decide) (by kernel_rfl) o9 (by have:=h.gl;have:=N.size;omega) (by have:=c.len;have:=h.le;omega) (by simp[Value.oneCell']) rfl λ M a o w q=> ?_;have x:fL W M g vc a:=N.grow w q;have I:aD M g #[.slice ta ts.length tc,.int .i64 ((i+1:Nat):Int),.int .i64 (en:Int),vc] 414:=(w.block g d.lt λ e=>T.ng e.symm).trans d;refine gx ?_;refine fV (i:=3) I (by simp) (Tg o) λ L P f=> ?_;replace f:aD L g #[.slice ta ts.length tc,.int .i64 ((i+1:Nat):Int),.int .i64 (en:Int),a] 414:=f;have p:a.ownBlock≠some g:=by
  rcases q with e|e
  ·rw[e];exact h.ng
  ·exact λ e2=>by have:=e g e2;have:=d.lt;omega
 have n:fL W L g vc a:=x.trans (ao P)
 refine gx ?_;refine aF ⟨rfl,a,⟨f,h.tok.sub n.sub,⟨cs++[⟨j,lo,hi,cw t.text⟩],?_,?_,?_⟩,p,S,h.gl⟩,n⟩
 ·rw[gJ,show BK (cs++[⟨j,lo,hi,cw t.text⟩])=BK cs++(#[.int .i64 (j:Int),.int .i64 (lo:Int),.int .i64 (hi:Int),.int .i64 (cw t.text:Int)]:Array Value).toList by unfold BK;simp]
  exact bE o P p
 ·intro c hc;rcases List.mem_append.1 hc with hc|hc
  ·exact jr c hc
  ·rw[List.mem_singleton] at hc;subst hc;exact hr
 ·rw[gJ]
  exact Nat.succ_le_succ Ed
end
section
variable{ops:Array Oper}{Q:Exit->Act->World->Prop}{oi oj:Oper}{fuel:Nat}{listed:Array Bool}{w w0:World}{lo up n d e':Nat}{l:Fm}
theorem ylc(i j:Nat){p ty:Nat}{t:TypeId}{V:Array Value}{R:Ending->World->Prop}(f:FuncId)(args:Array Value)(hb:aD w b V t)(G:dY ty V)(hS:Lk lo up w0 w)(hc:Calls prog f args w R)
 (h:∀e w',R e w'->Lk lo up w0 w'/\aD w' b V t/\∃v,e= .returned v/\(Lk lo up w0 w'->wpAnyH prog .any ops Q (Lk lo up w0) fuel ((listed.setIfInBounds i true).setIfInBounds j true) (aH n (aC (aC l d (.agg V)) e' v)) w'))
 (hi:ops[i]? =some oi:=by rfl)(z:ops[j]? =some oj:=by rfl)(y:oi.op= .load ty (.tmp p):=by rfl)(k:oi.guard=none:=by rfl)(g:oj.guard=none:=by rfl)(A:oi.dst=some d:=by rfl)(m:oj.dst=some e':=by rfl)
 (hx:bA n l (.tmp p)=some (.pointer (some ⟨b,0,none⟩)):=by rfl)
 (hrun:(execOp (ev n l) oj).run prog w= .ok (.enter f args) w:=by kernel_rfl)(q:(execOp (ev n (aC l d (.agg V))) oj).run prog w= .ok (.enter f args) w:=by kernel_rfl)
 (B:(prog.underlying ty).map TypeDesc.isRow=some true:=by kernel_rfl)(hr:Region.ready .any ops listed=[i,j]:=by kernel_rfl)(D:Region.ready .any ops (listed.setIfInBounds i true)=[j]:=by kernel_rfl)(C:Region.ready .any ops (listed.setIfInBounds j true)=[i]:=by kernel_rfl)
 (E:i≠j:=by decide)(u:d≠e':=by decide)(r:p≠e':=by decide):
 wpAnyH prog .any ops Q (Lk lo up w0) (fuel+1+1) listed (aH n l) w:=by
 have o:∀v,bA n (aC l e' v) (.tmp p)=some (.pointer (some ⟨b,0,none⟩)):=λ v=>by
  rw[<-hx]
  simp only[bA,aC,oM r]
  rfl
 obtain⟨dd,a,hdr⟩:=Option.map_eq_some_iff.1 B;have c:(prog.info? ty).map (·.size)=some V.size:=G.1;refine rd2 i j (λ K hK=> ?_) (λ K hK=> ?_) hi z hr
 ·rw[if_pos (by simp[Region.wanted,k])]
  refine wp_load_row ty (.tmp p) y b (aE hx) t V (0,0) dd hb a (by cases dd<;>first|rfl|cases hdr) c ?_;rw[A]
  simp only[bX]
  refine hK.out _ _ hS λ hS=> ?_;refine Ll j (λ K hK=> ?_) z D;rw[if_pos (by simp[Region.wanted,g])]
  unfold Oper.wp;rw[aO,q]
  refine Calls.mono hc λ e w' hR=> ?_;obtain⟨s,-,v,rfl,x⟩:=h e w' hR;rw[m]
  simp only[bX]
  exact hK.out _ _ s x
 ·rw[if_pos (by simp[Region.wanted,g])]
  unfold Oper.wp;rw[aO,hrun]
  refine Calls.mono hc λ e w' hR=> ?_;obtain⟨s,F,v,rfl,x⟩:=h e w' hR;rw[m]
  simp only[bX]
  refine hK.out _ _ s λ hS=> ?_;refine Ll i (λ K hK=> ?_) hi C;rw[if_pos (by simp[Region.wanted,k])]
  refine wp_load_row ty (.tmp p) y b (aE (o v)) t V (0,0) dd F a (by cases dd<;>first|rfl|cases hdr) c ?_;rw[A]
  simp only[bX]
  refine hK.out _ _ hS λ hS=> ?_;rw[Array.setIfInBounds_comm _ _ (Ne.symm E),<-IA u]
  exact x hS
end
def Fit(ts:List aS)(u:List (Nat×Bool)):Prop:=∀x∈u,xR (if x.2=true then 2 else 0) (if x.2=true then 8 else 32) (ar ts x.1)=true
theorem Fit.left{v:List (Nat×Bool)}(h:Fit ts (u++v)):Fit ts u:=λ x hx=>h x (List.mem_append_left _ hx)
theorem Fit.right{v:List (Nat×Bool)}(h:Fit ts (u++v)):Fit ts v:=λ x hx=>h x (List.mem_append_right _ hx)
theorem aA{α β:Type}{a:Option (PR α)}{f:α->Nat->Option (PR β)}{y:β}{w:List (Nat×Bool)}(h:cf a f=some (.ok y j w)):∃x i u v,a=some (.ok x i u)/\f x i=some (.ok y j v)/\w=u++v:=by
 unfold cf at h;split at h
 ·rename_i x i u;split at h
  ·rename_i y' j' v' hv;cases h
   exact⟨x,i,u,v',rfl,hv,rfl⟩
  ·cases h
  ·cases h
 ·cases h
 ·cases h
theorem bD{α β:Type}{a:Option (PR α)}{f:α->β}{y:β}{w:List (Nat×Bool)}(h:a.map (PR.map f)=some (.ok y j w)):∃x,a=some (.ok x j w)/\y=f x:=by
 cases a with
 |none=>cases h
 |some a=>
  cases a with
  |ok x i u=>cases h;exact⟨x,rfl,rfl⟩
  |bad i=>cases h
theorem bG{b:List UInt8}{i:Nat}{x:Unit}(h:cG ts b i=some (.ok x j u)):bF (ar ts i) b=true/\j=i+1/\u=[]:=by
 unfold cG at h;split at h
 ·cases h;exact⟨by assumption,rfl,rfl⟩
 ·cases h
theorem mA{r:Bool}{i m:Nat}(h:rP ts r i=some (.ok m j u)):dZ (ar ts i)=true/\j=i+1/\u=[(i,r)]/\m=min (jC (ar ts i).text) 1000:=by
 unfold rP at h;split at h
 ·cases h;exact⟨by assumption,rfl,rfl,rfl⟩
 ·cases h
structure Lc(W:World)(b:Nat)(g:Nat)(vc:Value)(A:Array Value)(t:TypeId):Prop where
 bw:aD W b A t
 fr:yw g vc b=true
section
variable{W W1 W2 W':World}{N N' g en i b b':Nat}{ta:Option Addr}{tc:Nat}{ts:List aS}{vc v1 v2 v:Value}{X Y:Nat->Bool}{t:aj}{A:Array Value}{ty:TypeId}
theorem Lc.fo(h:Lc W b g vc A ty)(k:fL W W1 g vc v1):Lc W1 b g v1 A ty:=⟨k.bw h.bw h.fr,k.nx h.bw.lt h.fr⟩
theorem Lc.kept(h:Lc W b g vc A ty)(k:aa W W1):Lc W1 b g vc A ty:=h.fo (fy k)
theorem Lc.loc(h:Lc W b g vc A ty)(k:af W W1 b')(hn:b≠b'):Lc W1 b g vc A ty:=⟨h.bw.ai k hn,h.fr⟩
theorem Lc.new(h:cK W g ta tc ts en i vc)(hb:aD W1 b A ty)(hn:W.heap.size<=b):Lc W1 b g vc A ty:=⟨hb,gC (by have:=h.bw.lt;omega) (h.fresh hn)⟩
theorem Lc.now(h:Lc W b g vc A ty){B:Array Value}{u:TypeId}(hb:aD W1 b B u):Lc W1 b g vc B u:=⟨hb,h.fr⟩
theorem Lc.ng(h:Lc W b g vc A ty):b≠g:=(nB h.fr).1
theorem Lc.own(h:Lc W b g vc A ty):vc.ownBlock≠some b:=(nB h.fr).2
theorem gh.low(h:gh W N' g vc X v t)(a:N<=N'):gh W N g vc X v t:=by
 obtain⟨F,h⟩:=h;exact⟨F,h.sub (iJ λ b hs=>by
  obtain⟨h1,h2,h3⟩:=jx hs;exact ot (jP a h1) h2 h3)⟩
theorem gh.aa0{b:Nat}{C:Array Value}{ty:TypeId}{op arg:Int}(h:gh W N g vc X (.agg C) t)(hb:aD W b C ty)(d:N<=b)(hf:yw g vc b=true)(hx:X b=false):gh W N g vc X (.agg (N7 op arg (some ⟨b,0,none⟩) 1 1)) (bY op arg [t]):=by
 obtain⟨F,h⟩:=h;have a:dY 27 C:=by obtain⟨V,c,o⟩:=h.own;cases c;exact o
 obtain⟨C⟩:=C;exact⟨F+1,Ex.bw (kids:=[t]) rfl (ot d hf hx) hb (IB a.sL h) (by simp)⟩
theorem gh.W8{b:Nat}{C D:Array Value}{ty:TypeId}{op arg:Int}{u:aj}(h:gh W N g vc X (.agg C) t)(k:gh W N g vc X (.agg D) u)(hb:aD W b (C++D) ty)(e:N<=b)(hf:yw g vc b=true)(hx:X b=false):gh W N g vc X (.agg (N7 op arg (some ⟨b,0,none⟩) 2 2)) (bY op arg [t,u]):=by
 obtain⟨F,h⟩:=h;obtain⟨G,k⟩:=k;have d:dY 27 C:=by obtain⟨V,a,o⟩:=h.own;cases a;exact o
 have c:dY 27 D:=by obtain⟨V,a,o⟩:=k.own;cases a;exact o
 obtain⟨C⟩:=C;obtain⟨D⟩:=D;refine⟨F+G+1,Ex.bw (kids:=[t,u]) (cs:=C++D) rfl (ot e hf hx) (by simpa using hb) (IC d.sL (h.Ie (by omega)) c.sL (k.Ie (by omega))) (by simp)⟩
theorem fL.lk{w0:World}(k:fL W W1 g vc v1){up:Nat}(h:Lk 0 up w0 W)(a:w0.heap.size<=up):Lk 0 up w0 W1:=⟨jP h.size k.size,λ b hb hx=>by omega,k.tape.trans h.tape,k.os.trans h.os,k.output.trans h.output⟩
end
def jI(a b:Nat):Nat->Bool:=λ c=>c==a||c==b
theorem vF(a b:Nat):jI a b a=true:=by simp[jI]
theorem qP(a b:Nat):jI a b b=true:=by simp[jI]
theorem kH{a c:Nat}(h1:c≠a)(h2:c≠b):jI a b c=false:=by simp[jI,h1,h2]
theorem wQ{a:Nat}(h1:a<n)(h2:b<n):∀c,jI a b c=true->c<n:=λ c h=>by
 simp only[jI,Bool.or_eq_true,beq_iff_eq] at h;rcases h with rfl|rfl<;>assumption
def Oz(ts:List aS)(f:FuncId)(p:Nat->Option (PR aj)):Prop:=
 ∀W g ta tc en i vc t j u,cK W g ta tc ts en i vc->cL W->p i=some (.ok t j u)->Fit ts u->Calls prog f #[.pointer (some ⟨g,0,none⟩)] W λ e W'=>
  ∃v Ou,e= .returned v/\gh W' W.heap.size g Ou no0 v t/\fL W W' g vc Ou/\cK W' g ta tc ts en j Ou
section
variable{ts:List aS}
theorem LB(c:KV ts)(n:Nat)(ih:∀m,m<n->Oz ts 390 (λ i=>ee aN ts m i)):Oz ts 350 (λ i=>eD aN ts n i):=by
 intro W g ta tc en i vc t j u h hT hr gZ;replace hr:eD aN ts n i=some (.ok t j u):=hr;cases n with
 |zero=>rw[eD] at hr;cases hr
 |succ n=>
 rw[eD] at hr;obtain⟨t0,j0,r0,r1,ha,hf,rfl⟩:=aA hr;have hg:=h.bw.lt;refine ct 22 func350 rfl ntmps350 ?_;refine gz ?_;refine za Z7 27 λ w1 g1 e1 U b1 q1=> ?_;refine gz ?_;refine zc 390 _ (ih n (Nat.lt_succ_self n) _ _ _ _ _ _ _ _ _ _ (h.kept U) (h.laid (fy U) hT) ha gZ.left) ?_;rintro e w2 ⟨v,v2,rfl,Y,Z,h2⟩
 refine⟨_,rfl,?_⟩
 obtain⟨C0,rfl,W9⟩:=Y.agg;have s1:=U.size;have s2:=Z.size;have f:Lc w2 g1 g v2 Z7 27:=(Lc.new h b1 (by omega)).fo Z;have t2':=(Y.low (N:=W.heap.size) s1)
 refine za Z7 27 λ w3 g3 e3 K b3 q3=> ?_;have s3:=K.size;have a:Lc w3 g3 g v2 Z7 27:=Lc.new h2 b3 (by omega)
 refine zt b3 iK W9 λ V J b4=> ?_;have s4:=J.size;have p4:fL W V g vc v2:=(((fy U).trans Z).kept K).loc J (by omega)
 have h4:=cK.loc h p4 (h2.kept K) J a.ng a.own;have Xa:=f.bw.lt;have dL:g1≠g3:=by omega
 have R:gh w2 W.heap.size g v2 (jI g1 g3) (.agg C0) t0:=gh.fo (k:=fy (aa.refl w2)) (by
  have h1:=Y.up (X:=λ b=>b==g1) (N:=W.heap.size) s1 (λ b hb=>by have:=beq_iff_eq.1 hb;omega)
  obtain⟨F,h1⟩:=h1;exact⟨F,h1.sub (au λ b hb hs=>by
   obtain⟨h2,h3,h4⟩:=jx hs;exact⟨ot h2 h3 (kH (by simpa using h4) (by omega)),rfl⟩)⟩)
 have t4:gh V W.heap.size g v2 (jI g1 g3) (.agg C0) t0:=(R.kept K).loc J (qP ..)
 have l14:Lc V g1 g v2 Z7 27:=(f.kept K).loc J dL;have l34:Lc V g3 g v2 C0 27:=a.now b4;have hgN:W.heap.size<=g1/\W.heap.size<=g3:=by omega
 clear R t2' a f Y b3 b4 b1 h2 Z U K J;refine gz ?_;refine dQ (σ:=aj×Nat×Value×Array Value×List (Nat×Bool)) n (λ _ _=>[(0,.pointer (some ⟨g,0,none⟩)),(2,.pointer (some ⟨g1,0,none⟩)),(3,.pointer (some ⟨g3,0,none⟩))])
  (λ k σ W'=>fL W W' g vc σ.2.2.1/\cK W' g ta tc ts en σ.2.1 σ.2.2.1/\Lc W' g1 g σ.2.2.1 Z7 27/\Lc W' g3 g σ.2.2.1 σ.2.2.2.1 27/\dY 27 σ.2.2.2.1/\gh W' W.heap.size g σ.2.2.1 (jI g1 g3) (.agg σ.2.2.2.1) σ.1/\kh aN ts (n-k) σ.1 σ.2.1=some (.ok t j σ.2.2.2.2)/\Fit ts σ.2.2.2.2)
  (t0,j0,v2,C0,r1) ⟨rfl,rfl,rfl,trivial⟩ ⟨p4,h4,l14,l34,W9,t4,hf,gZ.right⟩ λ fl wr k ⟨tt,jj,s,C,r⟩ hk ⟨hp,hs,f,a,w,x,p,L⟩=> ?_
 clear hf ha hr W9 gZ;replace hp:fL W wr g vc s:=hp;replace hs:cK wr g ta tc ts en jj s:=hs;replace f:Lc wr g1 g s Z7 27:=f;replace a:Lc wr g3 g s C 27:=a;replace w:dY 27 C:=w;replace x:gh wr W.heap.size g s (jI g1 g3) (.agg C) tt:=x;replace p:kh aN ts (n-k) tt jj=some (.ok t j r):=p;replace L:Fit ts r:=L;obtain⟨m,hm⟩:∃m,m=n-k:=⟨_,rfl⟩
 rw[<-hm] at p;cases m with
 |zero=>rw[kh] at p;cases p
 |succ m=>
 rw[kh] at p;refine gz ?_;refine zc 391 _ (bZ c hs ⟨#[43]⟩) ?_;rintro e P ⟨b,hb,rfl,ha,ka⟩
 refine⟨_,rfl,?_⟩
 replace hb:b=bF (ar ts jj) [43]:=hb;rw[<-hb] at p;have pa:=hp.trans (ao ka)
 replace f:=f.fo (ao ka)
 replace a:=a.fo (ao ka)
 replace x:=x.fo (ao ka)
 cases b
 case true=>
  replace ha:cK P g ta tc ts en (jj+1) s:=ha;have hq:=ha;rw[if_pos rfl] at p;obtain⟨u,G,r1,Zw,ha,hf,rfl⟩:=aA p;refine gz ?_;refine eJ 0 P.heap.size λ hS=> ?_;refine eL 1 hS ?_;have l:aa P P.drew:=(aa.refl _).drew;have lb3:=a.bw.lt;have lb1:=f.bw.lt;have hh:=hq.kept l;have sd:=l.size;refine ylc 0 2 390 _ (a.kept l).bw w hS (ih m (by omega) _ _ _ _ _ _ _ _ _ _ hh (h.laid ((pa).kept l) hT) ha L.left) ?_;rintro e w5 ⟨v,A,rfl,Q,q,H⟩
  have T:=(a.kept l).fo q;have E:=(f.kept l).fo q;have B:=(x.kept l).fo q;refine⟨q.lk hS (aU _),T.bw,_,rfl,λ hS=> ?_⟩
  obtain⟨D,rfl,oD⟩:=Q.agg;have s5:=q.size;have Xb:=Q.up (X:=jI g1 g3) (N:=W.heap.size) (by have:=hp.size;omega) (wQ (by omega) (by omega))
  refine ybs 3 2 (C++D) 27 hS (BR w oD rfl rfl rfl) λ w6 I e6 o b6 q6 hS=> ?_;have s6:=o.size;refine yc 4 392 _ hS (cN w6 5 0 (some ⟨I,0,none⟩) 2 2) ?_;rintro e w7 ⟨rfl,d⟩
  refine⟨d,_,rfl,λ hS=> ?_⟩
  have s7:=d.size;have b7:=b6.kept d;have h7:=(H.kept o).kept d;have t7:gh w7 W.heap.size g A (jI g1 g3) (.agg (N7 5 0 (some ⟨I,0,none⟩) 2 2)) (bY 5 0 [tt,u]):=
   gh.W8 ((B.kept o).kept d) ((Xb.kept o).kept d) b7 (by have:=hp.size;omega) (gC (by have:=H.bw.lt;omega) (H.fresh (by omega))) (kH (by omega) (by omega))
  have y:=(T.kept o).kept d;refine yt 5 y.bw w (eP ..) (.inl ⟨eo _,by omega⟩) hS λ w8 z b8 hS=> ?_;refine gB ?_;have S:fL W w8 g vc A:=(((((pa).kept l).trans q).kept o).kept d).loc z (by have:=a.bw;omega)
  have h8:=cK.loc h S h7 z y.ng y.own;refine gz ?_;exact⟨_,(_,G,A,N7 5 0 (some ⟨I,0,none⟩) 2 2,Zw),rfl,by omega,⟨rfl,rfl,rfl,trivial⟩,S,h8,((E.kept o).kept d).loc z (by omega),y.now b8,eP ..,t7.loc z (qP ..),by rw[show n-(k+1)=m by omega];exact hf,L.right⟩
 replace ha:cK P g ta tc ts en jj s:=ha;rw[if_neg iZ] at p;refine gz ?_;refine zc 391 _ (bZ c ha ⟨#[45]⟩) ?_;rintro e O ⟨b,fq,rfl,M,kb⟩
 refine⟨_,rfl,?_⟩
 replace fq:b=bF (ar ts jj) [45]:=fq;rw[<-fq] at p;have pb:=pa.trans (ao kb)
 replace f:=f.fo (ao kb)
 replace a:=a.fo (ao kb)
 replace x:=x.fo (ao kb)
 cases b
 case true=>
  replace M:cK O g ta tc ts en (jj+1) s:=M;have hq:=M;rw[if_pos rfl] at p;obtain⟨u,G,r1,Zw,ha,hf,rfl⟩:=aA p;refine gz ?_;refine eJ 0 O.heap.size λ hS=> ?_;refine eL 1 hS ?_;have l:aa O O.drew:=(aa.refl _).drew;have lb3:=a.bw.lt;have lb1:=f.bw.lt;have hh:=hq.kept l;have sd:=l.size;refine ylc 0 2 390 _ (a.kept l).bw w hS (ih m (by omega) _ _ _ _ _ _ _ _ _ _ hh (h.laid ((pb).kept l) hT) ha L.left) ?_;rintro e w5 ⟨v,A,rfl,Q,q,H⟩
  have T:=(a.kept l).fo q;have E:=(f.kept l).fo q;have B:=(x.kept l).fo q;refine⟨q.lk hS (aU _),T.bw,_,rfl,λ hS=> ?_⟩
  obtain⟨D,rfl,oD⟩:=Q.agg;have s5:=q.size;have Xb:=Q.up (X:=jI g1 g3) (N:=W.heap.size) (by have:=hp.size;omega) (wQ (by omega) (by omega))
  refine ybs 3 2 (C++D) 27 hS (BR w oD rfl rfl rfl) λ w6 I e6 o b6 q6 hS=> ?_;have s6:=o.size;refine yc 4 392 _ hS (cN w6 6 0 (some ⟨I,0,none⟩) 2 2) ?_;rintro e w7 ⟨rfl,d⟩
  refine⟨d,_,rfl,λ hS=> ?_⟩
  have s7:=d.size;have b7:=b6.kept d;have h7:=(H.kept o).kept d;have t7:gh w7 W.heap.size g A (jI g1 g3) (.agg (N7 6 0 (some ⟨I,0,none⟩) 2 2)) (bY 6 0 [tt,u]):=
   gh.W8 ((B.kept o).kept d) ((Xb.kept o).kept d) b7 (by have:=hp.size;omega) (gC (by have:=H.bw.lt;omega) (H.fresh (by omega))) (kH (by omega) (by omega))
  have y:=(T.kept o).kept d;refine yt 5 y.bw w (eP ..) (.inl ⟨eo _,by omega⟩) hS λ w8 z b8 hS=> ?_;refine gB ?_;have S:fL W w8 g vc A:=(((((pb).kept l).trans q).kept o).kept d).loc z (by have:=a.bw;omega)
  have h8:=cK.loc h S h7 z y.ng y.own;refine gz ?_;exact⟨_,(_,G,A,N7 6 0 (some ⟨I,0,none⟩) 2 2,Zw),rfl,by omega,⟨rfl,rfl,rfl,trivial⟩,S,h8,((E.kept o).kept d).loc z (by omega),y.now b8,eP ..,t7.loc z (qP ..),by rw[show n-(k+1)=m by omega];exact hf,L.right⟩
 replace M:cK O g ta tc ts en jj s:=M;rw[if_neg iZ] at p;have e3:tt=t/\jj=j:=by injection p with e;injection e with e1 e2;exact⟨e1,e2⟩
 obtain⟨rfl,rfl⟩:=e3;refine gz ?_;refine zl a.bw.range w ?_;refine zt f.bw iK w λ wc kc bc=> ?_;refine gz ?_;have pc:fL W wc g vc s:=pb.loc kc hgN.1;exact ej bc w ⟨_,s,rfl,(x.loc kc (vF ..)).down,pc,cK.loc h pc M kc f.ng f.own⟩
end
section
variable{ts:List aS}
theorem LC(c:KV ts)(n:Nat)(ih:∀m,m<n->Oz ts 418 (λ i=>gm aN ts m i)):Oz ts 390 (λ i=>ee aN ts n i):=by
 intro W g ta tc en i vc t j u h hT hr gZ;replace hr:ee aN ts n i=some (.ok t j u):=hr;cases n with
 |zero=>rw[ee] at hr;cases hr
 |succ n=>
 rw[ee] at hr;obtain⟨t0,j0,r0,r1,ha,hf,rfl⟩:=aA hr;have hg:=h.bw.lt;refine ct 22 func390 rfl ntmps390 ?_;refine gz ?_;refine za Z7 27 λ w1 g1 e1 U b1 q1=> ?_;refine gz ?_;refine zc 418 _ (ih n (Nat.lt_succ_self n) _ _ _ _ _ _ _ _ _ _ (h.kept U) (h.laid (fy U) hT) ha gZ.left) ?_;rintro e w2 ⟨v,v2,rfl,Y,Z,h2⟩
 refine⟨_,rfl,?_⟩
 obtain⟨C0,rfl,W9⟩:=Y.agg;have s1:=U.size;have s2:=Z.size;have f:Lc w2 g1 g v2 Z7 27:=(Lc.new h b1 (by omega)).fo Z;have t2':=(Y.low (N:=W.heap.size) s1)
 refine za Z7 27 λ w3 g3 e3 K b3 q3=> ?_;have s3:=K.size;have a:Lc w3 g3 g v2 Z7 27:=Lc.new h2 b3 (by omega)
 refine zt b3 iK W9 λ V J b4=> ?_;have s4:=J.size;have p4:fL W V g vc v2:=(((fy U).trans Z).kept K).loc J (by omega)
 have h4:=cK.loc h p4 (h2.kept K) J a.ng a.own;have Xa:=f.bw.lt;have dL:g1≠g3:=by omega
 have R:gh w2 W.heap.size g v2 (jI g1 g3) (.agg C0) t0:=gh.fo (k:=fy (aa.refl w2)) (by
  have h1:=Y.up (X:=λ b=>b==g1) (N:=W.heap.size) s1 (λ b hb=>by have:=beq_iff_eq.1 hb;omega)
  obtain⟨F,h1⟩:=h1;exact⟨F,h1.sub (au λ b hb hs=>by
   obtain⟨h2,h3,h4⟩:=jx hs;exact⟨ot h2 h3 (kH (by simpa using h4) (by omega)),rfl⟩)⟩)
 have t4:gh V W.heap.size g v2 (jI g1 g3) (.agg C0) t0:=(R.kept K).loc J (qP ..)
 have l14:Lc V g1 g v2 Z7 27:=(f.kept K).loc J dL;have l34:Lc V g3 g v2 C0 27:=a.now b4;have hgN:W.heap.size<=g1/\W.heap.size<=g3:=by omega
 clear R t2' a f Y b3 b4 b1 h2 Z U K J;refine gz ?_;refine dQ (σ:=aj×Nat×Value×Array Value×List (Nat×Bool)) n (λ _ _=>[(0,.pointer (some ⟨g,0,none⟩)),(2,.pointer (some ⟨g1,0,none⟩)),(3,.pointer (some ⟨g3,0,none⟩))])
  (λ k σ W'=>fL W W' g vc σ.2.2.1/\cK W' g ta tc ts en σ.2.1 σ.2.2.1/\Lc W' g1 g σ.2.2.1 Z7 27/\Lc W' g3 g σ.2.2.1 σ.2.2.2.1 27/\dY 27 σ.2.2.2.1/\gh W' W.heap.size g σ.2.2.1 (jI g1 g3) (.agg σ.2.2.2.1) σ.1/\eY aN ts (n-k) σ.1 σ.2.1=some (.ok t j σ.2.2.2.2)/\Fit ts σ.2.2.2.2)
  (t0,j0,v2,C0,r1) ⟨rfl,rfl,rfl,trivial⟩ ⟨p4,h4,l14,l34,W9,t4,hf,gZ.right⟩ λ fl wr k ⟨tt,jj,s,C,r⟩ hk ⟨hp,hs,f,a,w,x,p,L⟩=> ?_
 clear hf ha hr W9 gZ;replace hp:fL W wr g vc s:=hp;replace hs:cK wr g ta tc ts en jj s:=hs;replace f:Lc wr g1 g s Z7 27:=f;replace a:Lc wr g3 g s C 27:=a;replace w:dY 27 C:=w;replace x:gh wr W.heap.size g s (jI g1 g3) (.agg C) tt:=x;replace p:eY aN ts (n-k) tt jj=some (.ok t j r):=p;replace L:Fit ts r:=L;obtain⟨m,hm⟩:∃m,m=n-k:=⟨_,rfl⟩
 rw[<-hm] at p;cases m with
 |zero=>rw[eY] at p;cases p
 |succ m=>
 rw[eY] at p;refine gz ?_;refine zc 391 _ (bZ c hs ⟨#[42]⟩) ?_;rintro e P ⟨b,hb,rfl,ha,ka⟩
 refine⟨_,rfl,?_⟩
 replace hb:b=bF (ar ts jj) [42]:=hb;rw[<-hb] at p;have pa:=hp.trans (ao ka)
 replace f:=f.fo (ao ka)
 replace a:=a.fo (ao ka)
 replace x:=x.fo (ao ka)
 cases b
 case true=>
  replace ha:cK P g ta tc ts en (jj+1) s:=ha;have hq:=ha;rw[if_pos rfl] at p;obtain⟨u,G,r1,Zw,ha,hf,rfl⟩:=aA p;refine gz ?_;refine eJ 0 P.heap.size λ hS=> ?_;refine eL 1 hS ?_;have l:aa P P.drew:=(aa.refl _).drew;have lb3:=a.bw.lt;have lb1:=f.bw.lt;have hh:=hq.kept l;have sd:=l.size;refine ylc 0 2 418 _ (a.kept l).bw w hS (ih m (by omega) _ _ _ _ _ _ _ _ _ _ hh (h.laid ((pa).kept l) hT) ha L.left) ?_;rintro e w5 ⟨v,A,rfl,Q,q,H⟩
  have T:=(a.kept l).fo q;have E:=(f.kept l).fo q;have B:=(x.kept l).fo q;refine⟨q.lk hS (aU _),T.bw,_,rfl,λ hS=> ?_⟩
  obtain⟨D,rfl,oD⟩:=Q.agg;have s5:=q.size;have Xb:=Q.up (X:=jI g1 g3) (N:=W.heap.size) (by have:=hp.size;omega) (wQ (by omega) (by omega))
  refine ybs 3 2 (C++D) 27 hS (BR w oD rfl rfl rfl) λ w6 I e6 o b6 q6 hS=> ?_;have s6:=o.size;refine yc 4 392 _ hS (cN w6 7 0 (some ⟨I,0,none⟩) 2 2) ?_;rintro e w7 ⟨rfl,d⟩
  refine⟨d,_,rfl,λ hS=> ?_⟩
  have s7:=d.size;have b7:=b6.kept d;have h7:=(H.kept o).kept d;have t7:gh w7 W.heap.size g A (jI g1 g3) (.agg (N7 7 0 (some ⟨I,0,none⟩) 2 2)) (bY 7 0 [tt,u]):=
   gh.W8 ((B.kept o).kept d) ((Xb.kept o).kept d) b7 (by have:=hp.size;omega) (gC (by have:=H.bw.lt;omega) (H.fresh (by omega))) (kH (by omega) (by omega))
  have y:=(T.kept o).kept d;refine yt 5 y.bw w (eP ..) (.inl ⟨eo _,by omega⟩) hS λ w8 z b8 hS=> ?_;refine gB ?_;have S:fL W w8 g vc A:=(((((pa).kept l).trans q).kept o).kept d).loc z (by have:=a.bw;omega)
  have h8:=cK.loc h S h7 z y.ng y.own;refine gz ?_;exact⟨_,(_,G,A,N7 7 0 (some ⟨I,0,none⟩) 2 2,Zw),rfl,by omega,⟨rfl,rfl,rfl,trivial⟩,S,h8,((E.kept o).kept d).loc z (by omega),y.now b8,eP ..,t7.loc z (qP ..),by rw[show n-(k+1)=m by omega];exact hf,L.right⟩
 replace ha:cK P g ta tc ts en jj s:=ha;rw[if_neg iZ] at p;refine gz ?_;refine zc 391 _ (bZ c ha ⟨#[47]⟩) ?_;rintro e O ⟨b,fq,rfl,M,kb⟩
 refine⟨_,rfl,?_⟩
 replace fq:b=bF (ar ts jj) [47]:=fq;rw[<-fq] at p;have pb:=pa.trans (ao kb)
 replace f:=f.fo (ao kb)
 replace a:=a.fo (ao kb)
 replace x:=x.fo (ao kb)
 cases b
 case true=>
  replace M:cK O g ta tc ts en (jj+1) s:=M;have hq:=M;rw[if_pos rfl] at p;obtain⟨u,G,r1,Zw,ha,hf,rfl⟩:=aA p;refine gz ?_;refine eJ 0 O.heap.size λ hS=> ?_;refine eL 1 hS ?_;have l:aa O O.drew:=(aa.refl _).drew;have lb3:=a.bw.lt;have lb1:=f.bw.lt;have hh:=hq.kept l;have sd:=l.size;refine ylc 0 2 418 _ (a.kept l).bw w hS (ih m (by omega) _ _ _ _ _ _ _ _ _ _ hh (h.laid ((pb).kept l) hT) ha L.left) ?_;rintro e w5 ⟨v,A,rfl,Q,q,H⟩
  have T:=(a.kept l).fo q;have E:=(f.kept l).fo q;have B:=(x.kept l).fo q;refine⟨q.lk hS (aU _),T.bw,_,rfl,λ hS=> ?_⟩
  obtain⟨D,rfl,oD⟩:=Q.agg;have s5:=q.size;have Xb:=Q.up (X:=jI g1 g3) (N:=W.heap.size) (by have:=hp.size;omega) (wQ (by omega) (by omega))
  refine ybs 3 2 (C++D) 27 hS (BR w oD rfl rfl rfl) λ w6 I e6 o b6 q6 hS=> ?_;have s6:=o.size;refine yc 4 392 _ hS (cN w6 8 0 (some ⟨I,0,none⟩) 2 2) ?_;rintro e w7 ⟨rfl,d⟩
  refine⟨d,_,rfl,λ hS=> ?_⟩
  have s7:=d.size;have b7:=b6.kept d;have h7:=(H.kept o).kept d;have t7:gh w7 W.heap.size g A (jI g1 g3) (.agg (N7 8 0 (some ⟨I,0,none⟩) 2 2)) (bY 8 0 [tt,u]):=
   gh.W8 ((B.kept o).kept d) ((Xb.kept o).kept d) b7 (by have:=hp.size;omega) (gC (by have:=H.bw.lt;omega) (H.fresh (by omega))) (kH (by omega) (by omega))
  have y:=(T.kept o).kept d;refine yt 5 y.bw w (eP ..) (.inl ⟨eo _,by omega⟩) hS λ w8 z b8 hS=> ?_;refine gB ?_;have S:fL W w8 g vc A:=(((((pb).kept l).trans q).kept o).kept d).loc z (by have:=a.bw;omega)
  have h8:=cK.loc h S h7 z y.ng y.own;refine gz ?_;exact⟨_,(_,G,A,N7 8 0 (some ⟨I,0,none⟩) 2 2,Zw),rfl,by omega,⟨rfl,rfl,rfl,trivial⟩,S,h8,((E.kept o).kept d).loc z (by omega),y.now b8,eP ..,t7.loc z (qP ..),by rw[show n-(k+1)=m by omega];exact hf,L.right⟩
 replace M:cK O g ta tc ts en jj s:=M;rw[if_neg iZ] at p;have e3:tt=t/\jj=j:=by injection p with e;injection e with e1 e2;exact⟨e1,e2⟩
 obtain⟨rfl,rfl⟩:=e3;refine gz ?_;refine zl a.bw.range w ?_;refine zt f.bw iK w λ wc kc bc=> ?_;refine gz ?_;have pc:fL W wc g vc s:=pb.loc kc hgN.1;exact ej bc w ⟨_,s,rfl,(x.loc kc (vF ..)).down,pc,cK.loc h pc M kc f.ng f.own⟩
end
theorem BS(t:ByteArray):∀m,m<=t.size->dE t 0 m<1000->(t.data.toList.take m).foldl (λ n c=>if n<1000 then n*10+(c.toNat-48) else n) 0=dE t 0 m
 |0,_,_=>by simp[dE]
 |m+1,hm,hd=>by
  have h1:=BO t 0 m (m+1) (Nat.le_succ m)
  have a:m<t.data.toList.length:=by have:t.data.toList.length=t.size:=by simp
                                    omega
  have e:bt t m=(t.data.toList[m]).toNat:=(js.1 (nW a)).2;rw[List.take_succ_eq_append_getElem a,List.foldl_append,BS t m (by omega) (by omega),dE,lp,e]
  simp only[List.foldl_cons,List.foldl_nil]
  rw[if_pos (by omega)]
theorem yx{t:ByteArray}(h:cw t<1000):min (jC t) 1000=cw t:=by
 have h1:=BS t t.size (aU _) h;rw[List.take_of_length_le (by simp)] at h1;have e:jC t=cw t:=by unfold jC;rw[ByteArray.toList_eq];exact h1
 omega
theorem aa4{d:Nat}{l:Fm}{ops:Array Oper}{rest:List Oper}{Q:Exit->Act->World->Prop}{oi:Oper}{w:World}{x:Operand}{m:Nat}(hm:m<=1000)(h:wpList prog ops Q rest (aH n (aC l d (.int .i64 (-(m:Int))))) w)
 (a:oi.op= .unOp .neg 3 x:=by rfl)(hx:bA n l x=some (.int .i64 (m:Int)):=by rfl)(b:oi.guard=none:=by rfl)(hd:oi.dst=some d:=by rfl):wpList prog ops Q (oi::rest) (aH n l) w:=by
 have e:IntKind.i64.wrap (-(m:Int))= -(m:Int):=by rw[IntKind.wrap_i64];omega
 refine zv (.int .i64 (-(m:Int))) ?_ b hd h;unfold execOp;rw[a]
 simp only[aE hx]
 generalize (m:Int)=y at*;go_simp
section
variable{ts:List aS}
theorem QM(c:KV ts)(n:Nat)(ih0:∀m,m<n->Oz ts 418 (λ i=>gm aN ts m i))(ih:∀m,m<n->Oz ts 427 (λ i=>dy aN ts m i)):Oz ts 418 (λ i=>gm aN ts n i):=by
 intro W g ta tc en i vc t j u h hT hr gZ;replace hr:gm aN ts n i=some (.ok t j u):=hr;cases n with
 |zero=>rw[gm] at hr;cases hr
 |succ n=>
 rw[gm] at hr;have hg:=h.bw.lt;refine ct 28 func418 rfl ntmps418 ?_;refine gz ?_;refine za Z7 27 λ w1 g1 e1 Z b1 q1=> ?_;refine gz ?_;refine zc 391 _ (bZ c (h.kept Z) ⟨#[45]⟩) ?_;rintro e K ⟨b,hb,rfl,h2,Y⟩
 refine⟨_,rfl,?_⟩
 replace hb:b=bF (ar ts i) [45]:=hb;rw[<-hb] at hr;have s1:=Z.size;have s2:=Y.size;have T:fL W K g vc vc:=(fy Z).trans (ao Y)
 have a:Lc K g1 g vc Z7 27:=(Lc.new h b1 (by omega)).fo (ao Y)
 have Xa:=a.bw.lt;have H:=h.laid T hT;cases b
 case true=>
  replace h2:cK K g ta tc ts en (i+1) vc:=h2;rw[if_pos rfl] at hr;obtain⟨t',rS,rfl⟩:=bD hr;refine gz ?_;refine zc 418 _ (ih0 n (Nat.lt_succ_self n) _ _ _ _ _ _ _ _ _ _ h2 H rS gZ) ?_;rintro e w3 ⟨v,d,rfl,A,s,h3⟩
  refine⟨_,rfl,?_⟩
  obtain⟨C,rfl,p⟩:=A.agg;have s3:=s.size;refine z25 p λ Q g4 e4 l I q4=> ?_;have s4:=l.size;refine zc 392 _ (cN Q 4 0 (some ⟨g4,0,none⟩) 1 1) ?_;rintro e J ⟨rfl,k⟩
  refine⟨_,rfl,?_⟩
  have s5:=k.size;have M:fL W J g vc d:=((T.trans s).kept l).kept k;have h5:=(h3.kept l).kept k;have V:=((a.fo s).kept l).kept k;have o:gh w3 W.heap.size g d (λ b=>b==g1) (.agg C) t':=A.up (by omega) λ b hb=>by have:=beq_iff_eq.1 hb;omega
  have S:gh J W.heap.size g d (λ b=>b==g1) (.agg (N7 4 0 (some ⟨g4,0,none⟩) 1 1)) (bY 4 0 [t']):=
   gh.aa0 ((o.kept l).kept k) (I.kept k) (by omega) (gC (by have:=h3.bw.lt;omega) (h3.fresh (by omega))) (vy (by omega))
  refine zt V.bw iK (eP ..) λ P q b6=> ?_;refine gz ?_;have B:=M.loc q (by omega)
  exact ej b6 (eP ..) ⟨_,d,rfl,(S.loc q (beq_self_eq_true g1)).down,B,cK.loc h B h5 q V.ng V.own⟩
 replace h2:cK K g ta tc ts en i vc:=h2;rw[if_neg iZ] at hr;obtain⟨t0,y,r0,r1,ha,hf,rfl⟩:=aA hr;refine gz ?_;refine zc 427 _ (ih n (Nat.lt_succ_self n) _ _ _ _ _ _ _ _ _ _ h2 H ha gZ.left) ?_;rintro e w3 ⟨v,d,rfl,A,s,h3⟩
 refine⟨_,rfl,?_⟩
 obtain⟨C,rfl,p⟩:=A.agg;have s3:=s.size;have P3:=T.trans s;replace a:=a.fo s;have o:gh w3 W.heap.size g d (λ b=>b==g1) (.agg C) t0:=A.up (by omega) λ b hb=>by have:=beq_iff_eq.1 hb;omega
 have r:gh w3 W.heap.size g d (jI g1 w3.heap.size) (.agg C) t0:=by
  obtain⟨F,h1⟩:=o;exact⟨F,h1.sub (au λ b hb hs=>by
   obtain⟨h2,h3,h4⟩:=jx hs;exact⟨ot h2 h3 (kH (by simpa using h4) (by omega)),rfl⟩)⟩
 refine za Z7 27 λ Q g3 e4 l I q4=> ?_;rw[<-e4] at r;have s4:=l.size;have f:Lc Q g3 g d Z7 27:=Lc.new h3 I (by omega)
 refine zt I iK p λ J k b5=> ?_;have s5:=k.size;have M:fL W J g vc d:=(P3.kept l).loc k (by omega)
 have h5:=cK.loc h M (h3.kept l) k f.ng f.own;have U:=a.bw.lt;replace a:=(a.kept l).loc k (by omega)
 replace f:=f.now b5;have S:=(r.kept l).loc k (qP ..)
 clear r o A I b5 b1;refine gz ?_;refine zc 391 _ (bZ c h5 ⟨#[94]⟩) ?_;rintro e P ⟨b,hb,rfl,D,q⟩
 refine⟨_,rfl,?_⟩
 replace hb:b=bF (ar ts y) [94]:=hb;rw[<-hb] at hf;have B:=M.trans (ao q)
 replace a:=a.fo (ao q)
 replace f:=f.fo (ao q)
 have t6:=S.fo (ao q)
 cases b
 case false=>
  replace D:cK P g ta tc ts en y d:=D;rw[if_neg iZ] at hf;have e3:t0=t/\y=j:=by injection hf with e;injection e with e1 e2;exact⟨e1,e2⟩
  obtain⟨rfl,rfl⟩:=e3;refine gz ?_;refine zl f.bw.range p ?_;refine zt a.bw iK p λ wc w bc=> ?_;refine gz ?_;have E:fL W wc g vc d:=B.loc w (by omega)
  exact ej bc p ⟨_,d,rfl,(t6.loc w (vF ..)).down,E,cK.loc h E D w a.ng a.own⟩
 replace D:cK P g ta tc ts en (y+1) d:=D;rw[if_pos rfl] at hf;have hT6:=h.laid B hT;refine gz ?_;refine zc 391 _ (bZ c D ⟨#[45]⟩) ?_;rintro e w7 ⟨b,Zx,rfl,h7,N⟩
 refine⟨_,rfl,?_⟩
 replace Zx:b=bF (ar ts (y+1)) [45]:=Zx;rw[<-Zx] at hf;have p7:=B.trans (ao N)
 replace a:=a.fo (ao N)
 replace f:=f.fo (ao N)
 have t7:=t6.fo (ao N)
 obtain⟨x,z⟩:∃x,x=if b=true then y+2 else y+1:=⟨_,rfl⟩
 have h7':cK w7 g ta tc ts en x d:=by rw[z];exact h7
 obtain⟨m,W4,ht⟩:∃m:Nat,rP ts false x=some (.ok m j r1)/\t=bY 9 (if b=true then -(m:Int) else(m:Int)) [t0]:=by
  cases b
  ·obtain⟨m,h1,h2⟩:=bD hf;exact⟨m,by rw[z];exact h1,h2⟩
  ·obtain⟨m,h1,h2⟩:=bD hf;exact⟨m,by rw[z];exact h1,h2⟩
 obtain⟨hw,rfl,rfl,hm⟩:=mA W4;have O:xR 0 32 (ar ts x)=true:=gZ.right (x,false) (List.mem_singleton.2 rfl)
 have hle:cw (ar ts x).text<=32:=by
  unfold xR at O;simp only[fv,oh] at O;exact O.2
 rw[yx (by omega)] at hm;refine gz ?_;refine zc 428 _ (wP c h7' hw O (by decide)) ?_;rintro e w8 ⟨rfl,R,h8,L⟩
 refine⟨_,rfl,?_⟩
 rw[<-hm]
 have aqB:m<=32:=by omega
 have P8:=p7.trans L;replace a:=a.fo L;replace f:=f.fo L;have t8:=t7.fo L;have s8:=P8.size;have Xa:=a.bw.lt;have U:=f.bw.lt;refine If ?_;refine Dt (σ:=Unit) (λ _=>[(0,.pointer (some ⟨g,0,none⟩)),(2,.pointer (some ⟨g1,0,none⟩)),(3,.pointer (some ⟨g3,0,none⟩)),(5,.int .i64 (if b=true then -(m:Int) else(m:Int)))]) (λ _ W=>W=w8) (λ Q' hN=> ?_) (λ l' w9 _ X=> ?_)
 ·cases b
  ·refine gz ?_;exact hN _ _ () ⟨rfl,rfl,rfl,rfl,trivial⟩ rfl
  ·refine gz ?_;refine aa4 (m:=m) (by omega) ?_;refine gz ?_;exact hN _ _ () ⟨rfl,rfl,rfl,rfl,trivial⟩ rfl
 replace X:w9=w8:=X;subst X;obtain⟨arg,ajo⟩:∃arg:Int,arg=if b=true then -(m:Int) else(m:Int):=⟨_,rfl⟩
 rw[<-ajo] at ht⊢;refine gz ?_;refine zl f.bw.range p ?_;refine z25 p λ wa ga ea G ba qa=> ?_;have sa:=G.size;refine zc 392 _ (cN wa 9 arg (some ⟨ga,0,none⟩) 1 1) ?_;rintro e wb ⟨rfl,kb⟩
 refine⟨_,rfl,?_⟩
 have sb:=kb.size;have pb:=(P8.kept G).kept kb;have hb:=(h8.kept G).kept kb;replace a:=(a.kept G).kept kb;have tb:gh wb W.heap.size g R (jI g1 g3) (.agg (N7 9 arg (some ⟨ga,0,none⟩) 1 1)) (bY 9 arg [t0]):=
  gh.aa0 ((t8.kept G).kept kb) (ba.kept kb) (by omega) (gC (by have:=h8.bw.lt;omega) (h8.fresh (by omega))) (kH (by omega) (by omega))
 rw[<-ht] at tb;refine zt a.bw iK (eP ..) λ wc w bc=> ?_;refine gz ?_;have E:fL W wc g vc R:=pb.loc w (by omega)
 exact ej bc (eP ..) ⟨_,R,rfl,(tb.loc w (vF ..)).down,E,cK.loc h E hb w a.ng a.own⟩
end
def KI(ts:List aS)(N0 k je:Nat)(l:List aj)(q jj:Nat)(done:List aj):Prop:=
 (q<k/\∃n1 n2 t l' j1 u1 u2,n1<N0/\n2<=N0/\(0<q->bF (ar ts jj) [44]=true)/\eD aN ts n1 (if 0<q then jj+1 else jj)=some (.ok t j1 u1)/\dM aN ts n2 (k-1-q) j1=some (.ok l' je u2)/\Fit ts u1/\Fit ts u2/\l=done++t::l')∨(q=k/\jj=je/\done=l)
theorem KI.next{N0 k je n2 q j1:Nat}{l' done:List aj}(p:q<k)(hn:n2<=N0)(hm:dM aN ts n2 (k-1-q) j1=some (.ok l' je u))(a:Fit ts u)(b:l=done++l'):KI ts N0 k je l (q+1) j1 done:=by
 cases n2 with
 |zero=>rw[dM] at hm;cases hm
 |succ n2=>
 obtain⟨r,hr⟩:∃r,r=k-1-q:=⟨_,rfl⟩
 rw[<-hr] at hm;cases r with
 |zero=>
  rw[dM] at hm;cases hm
  exact .inr ⟨by omega,rfl,by rw[b,List.append_nil]⟩
 |succ r=>
  rw[dM] at hm;obtain⟨j,o,n,m,h1,h2,rfl⟩:=aA hm;obtain⟨i,rfl,rfl⟩:=bG h1;obtain⟨t,f,d,c,h3,h,rfl⟩:=aA h2;obtain⟨e,g,rfl⟩:=bD h;refine .inl ⟨by omega,n2,n2,t,e,f,d,c,by omega,by omega,λ _=>i,?_,?_,a.right.left,a.right.right,b⟩
  ·rw[if_pos (Nat.succ_pos q)];exact h3
  ·rw[show k-1-(q+1)=r by omega];exact g
def QO(v:Value):Nat->Bool:=λ b=>decide (v.ownBlock=some b)
section
variable{W W1 W2 W':World}{N N' g en i b b':Nat}{ta:Option Addr}{tc:Nat}{ts:List aS}{vc v1 v2 v v':Value}{X Y:Nat->Bool}{t:aj}{A:Array Value}{ty:TypeId}{x:Value}
theorem Fu{e sz:Nat}(h:W.ownsRow B e sz v n cs)(k:fL W W1 g vc v1)(hf:∀b,v.ownBlock=some b->yw g vc b=true):W1.ownsRow B e sz v n cs:=by
 obtain⟨c,⟨rfl,rfl⟩|⟨b,cap,a,rfl,hb,d,hr⟩⟩:=h
 ·exact⟨c,.inl ⟨rfl,rfl⟩⟩
 ·have f:aD W b a e:=d;exact⟨c,.inr ⟨b,cap,a,rfl,hb,(k.old b f.lt (hf b rfl)).trans d,hr⟩⟩
theorem gh.push(h:gh W N g vc (QO v) x t)(c:W.grownBy W' v.ownBlock)(hn:v'.ownBlock=v.ownBlock∨∀b,v'.ownBlock=some b->W.heap.size<=b):gh W' N g vc (QO v') x t:=by
 obtain⟨F,h⟩:=h;refine⟨F,h.sub (au λ b hb hs=> ?_)⟩
 obtain⟨h1,h2,h3⟩:=jx hs;have a:v.ownBlock≠some b:=of_decide_eq_false h3;refine⟨ot h1 h2 (gy λ e=> ?_),c.block b hb λ e=>a e.symm⟩
 rcases hn with hn|hn
 ·exact a (hn▸e)
 ·have:=hn b e;omega
theorem Tj(h:cl (λ c t=>gh W N g vc X (.agg c.toArray) t) 7 cs l):∃F,cl (λ c t=>Ex (aB W (sx N g vc X)) F (.agg c.toArray) t) 7 cs l:=by
 obtain⟨h1,h2⟩:=h;have key:∀n,∃F,∀i(hi:i<l.length),i<n->Ex (aB W (sx N g vc X)) F (.agg ((cs.drop (i*7)).take 7).toArray) l[i]:=by
  intro n;induction n with
  |zero=>exact⟨0,λ i _ h=>absurd h (Nat.not_lt_zero i)⟩
  |succ n ih=>
   obtain⟨F,ih⟩:=ih;by_cases hn:n<l.length
   ·obtain⟨G,d⟩:=h2 n hn;refine⟨F+G,λ i hi a=> ?_⟩
    by_cases b:i<n
    ·exact(ih i hi b).Ie (by omega)
    ·obtain rfl:i=n:=by omega
     exact d.Ie (by omega)
   ·exact⟨F,λ i hi a=>ih i hi (by omega)⟩
 obtain⟨F,hF⟩:=key l.length;exact⟨F,h1,λ i hi=>hF i hi hi⟩
theorem gh.row(h:cl (λ c t=>gh W N g vc (QO v) (.agg c.toArray) t) 7 cs l)(ho:W.ownsRow B 27 7 v l.length cs)(e:N<=B)(hf:∀b,v.ownBlock=some b->yw g vc b=true)(j:l.length<1000)(op arg:Int):
 ∃a cap,v= .slice a l.length cap/\gh W N g vc no0 (.agg (N7 op arg a l.length cap)) (bY op arg l):=by
 obtain⟨F,hF⟩:=Tj (h.mono λ _ _ h=>h.down)
 have f:=World.ownsRow.lt ho;obtain⟨a,cap,rfl,hc,k,d⟩:=bI ho;refine⟨a,cap,rfl,F+1,Ex.mk hc (mP _) (by omega) (cs:=cs) (λ i hi=> ?_) hF⟩
 obtain⟨b,hb,rfl,hv⟩:=d i hi;refine⟨b,rfl,?_⟩
 rw[fQ,if_pos (ot (jP e hb) (hf b rfl) rfl)]
 exact hv
theorem fL.aa5{o:Option Nat}(h:fL W W1 g vc v1)(a:W1.grownBy W2 o)(ho:∀b,o=some b->W.heap.size<=b):fL W W2 g vc v1:=
 ⟨jP h.size a.size,λ b hb hf=>(a.block b (jf hb h.size) λ e=>by have:=ho b e.symm;omega).trans (h.old b hb hf),a.tape.trans h.tape,a.os.trans h.os,a.output.trans h.output,h.fr⟩
theorem cK.aa5{i0:Nat}{o:Option Nat}(d:cK W g ta tc ts en i0 vc)(c:fL W W2 g vc v1)(h:cK W1 g ta tc ts en i v1)(a:W1.grownBy W2 o)(ho:∀b,o=some b->yw g v1 b=true):cK W2 g ta tc ts en i v1:=by
 obtain⟨cs,h1,h2,h3⟩:=h.own;refine⟨(a.block g h.bw.lt λ e=>(nB (ho g e.symm)).1 rfl).trans h.bw,d.tok.sub c.sub,⟨cs,World.ownsRow.kept h1 a ?_,h2,h3⟩,h.ng,h.le,h.gl⟩
 cases hv:v1.ownBlock with
 |none=>exact .inl rfl
 |some b=>exact .inr λ e=>(nB (ho b e.symm)).2 hv
theorem lM(c:KV ts)(n:Nat)(ih:∀m,m<n->Oz ts 350 (λ i=>eD aN ts m i)){k je:Nat}(hk:k<=3)(h:cK W g ta tc ts en i vc)(hT:cL W)(hr:gK aN ts n k i=some (.ok l je u))(eZ:0<k)(O:Fit ts u):
 Calls prog 436 #[.pointer (some ⟨g,0,none⟩),.int .i64 (k:Int)] W λ e W'=>∃v Ou,e= .returned v/\fL W W' g vc Ou/\cK W' g ta tc ts en je Ou/\
  ∀op arg:Int,∃a cap,v= .slice a l.length cap/\gh W' W.heap.size g Ou no0 (.agg (N7 op arg a l.length cap)) (bY op arg l):=by
 cases n with
 |zero=>rw[gK] at hr;cases hr
 |succ n=>
 rw[gK] at hr;obtain⟨x0,j1,u1,u2,h1,h2,rfl⟩:=aA hr;obtain⟨QN,rfl,rfl⟩:=bG h1;obtain⟨t0,j2,u3,u4,h3,h4,rfl⟩:=aA h2;obtain⟨s,J,u5,u6,p,E,rfl⟩:=aA h4;obtain⟨x1,h7,rfl⟩:=bD E;obtain⟨R,rfl,rfl⟩:=bG h7;have w:KI ts (n+1) k J (t0::s) 0 (i+1) []:=
  .inl ⟨eZ,n,n,t0,s,j2,u3,u5,by omega,by omega,λ h=>absurd h (Nat.lt_irrefl 0),by rw[if_neg (Nat.lt_irrefl 0)];exact h3,p,O.right.left,O.right.right.left,rfl⟩
 have hg:=h.bw.lt;refine dK [_,_] 26 func436 rfl ntmps436 (by simp) ?_;refine gx ?_;refine zc 437 _ (jH c h ⟨#[40]⟩ QN) ?_;rintro e w1 ⟨⟨xv,rfl⟩,s1,k1⟩
 refine gx ?_;refine dQ (σ:=Nat×Value×Value×List aj×List Value) k (λ q σ=>[(0,.pointer (some ⟨g,0,none⟩)),(5,σ.2.2.1),(9,.int .i64 (k:Int)),(10,.int .i64 (q:Int))])
  (λ q σ W'=>fL W W' g vc σ.2.1/\cK W' g ta tc ts en σ.1 σ.2.1/\KI ts (n+1) k J (t0::s) q σ.1 σ.2.2.2.1/\W'.ownsRow W.heap.size 27 7 σ.2.2.1 q σ.2.2.2.2/\σ.2.2.2.1.length=q/\(∀b,σ.2.2.1.ownBlock=some b->yw g σ.2.1 b=true)/\cl (λ c t=>gh W' W.heap.size g σ.2.1 (QO σ.2.2.1) (.agg c.toArray) t) 7 σ.2.2.2.2 σ.2.2.2.1)
  (i+1,vc,.slice none 0 0,[],[]) ⟨rfl,rfl,rfl,rfl,trivial⟩ ⟨ao k1,s1,w,World.ownsRow_nil ..,rfl,(λ b hb=>by simp[Value.ownBlock] at hb),cl.nil _ _⟩ λ fl wr q ⟨jj,d,rv,done,cs⟩ hq ⟨hp,hs,hK,ho,C,o,A⟩=> ?_
 replace hp:fL W wr g vc d:=hp;replace hs:cK wr g ta tc ts en jj d:=hs;replace hK:KI ts (n+1) k J (t0::s) q jj done:=hK;replace ho:wr.ownsRow W.heap.size 27 7 rv q cs:=ho;replace C:done.length=q:=C;replace o:∀b,rv.ownBlock=some b->yw g d b=true:=o;replace A:cl (λ c t=>gh wr W.heap.size g d (QO rv) (.agg c.toArray) t) 7 cs done:=A;clear w h3 p O hr h2 h4 E;refine gx ?_;rcases hK with⟨K,n1,n2,t,l',jn,ua,ub,tZ,Dw,OA,wR,M,Q,P,hl⟩|⟨rfl,rfl,rfl⟩
 case inr=>
  refine gx ?_;refine zc 437 _ (jH c hs ⟨#[41]⟩ R) ?_;rintro e T ⟨⟨G,rfl⟩,s2,k2⟩
  refine gx ?_;have f:=ao (vc:=d) k2;refine aF ⟨rv,d,rfl,hp.trans f,s2,λ op arg=> ?_⟩
  rw[<-C] at ho;exact gh.row (B:=W.heap.size) (A.mono λ _ _ h=>h.fo f) (Fu ho f o) (aU _) (λ b hb=>f.nx (World.ownsRow.lt ho b hb).2 (o b hb)) (by omega) op arg
 refine gx ?_;obtain⟨z,j⟩:∃z,z=if 0<q then jj+1 else jj:=⟨_,rfl⟩
 rw[<-j] at wR;refine gx ?_;by_cases L:0<q;case' pos=>
  refine gx ?_;refine zc 437 _ (jH c hs ⟨#[44]⟩ (OA L)) ?_;rintro e T ⟨⟨G,rfl⟩,s2,k9⟩
  refine⟨_,rfl,?_⟩
  have X:cK T g ta tc ts en z d:=by rw[j,if_pos L];exact s2
  clear s2
 case' neg=>
  refine gx ?_;have X:cK wr g ta tc ts en z d:=by rw[j,if_neg L];exact hs
  have k9:=af.refl wr g
 all_goals
  have H:=ao (vc:=d) k9;have S:=hp.trans H;have Y:=Fu ho H o;have f9:∀b,rv.ownBlock=some b->yw g d b=true:=o;have r9:=A.mono λ _ _ h=>h.fo H;have z9:=S.size;refine gx ?_;refine zc 350 _ (ih n1 tZ _ _ _ _ _ _ _ _ _ _ X (h.laid S hT) wR Q) ?_;rintro e w5 ⟨v,x,rfl,V,r,p⟩
  refine⟨_,rfl,?_⟩
  obtain⟨D,rfl,y⟩:=V.agg;have s5:=r.size;have aI:=World.ownsRow.lt Y;have f5:∀b,rv.ownBlock=some b->yw g x b=true:=λ b hb=>r.nx (aI b hb).2 (f9 b hb)
  have Z:=Fu Y r f9;have r5:=r9.mono λ _ _ h=>h.fo r;have Xb:gh w5 W.heap.size g x (QO rv) (.agg D) t:=V.up z9 λ b hb=>(aI b (kC hb)).2;have P5:=S.trans r;have N:=World.ownsRow.lt Z;refine BP SX rfl (by decide) (by decide) underlying25 Z (by have:=P5.size;omega) (by omega) y.2 y.sL (λ w6 U o6 F I=> ?_) (aeK y rfl rfl)
  have P6:fL W w6 g vc x:=P5.aa5 F λ b hb=>(N b hb).1;have E:=cK.aa5 h P6 p F f5;have t6:=Xb.push F I;have r6:=r5.mono λ _ _ h=>h.push F I;have e9:=KI.next (done:=done++[t]) (l:=t0::s) K Dw M P (by rw[hl];simp)
  refine gx ?_;refine mH ((q+1:Nat):Int) ?_ ?_ ?_
  ·show(q:Int)+1=_;omega
  ·rw[IntKind.wrap_i64];omega
  refine gx ?_;refine⟨_,(jn,x,U,done++[t],cs++D.toList),rfl,by omega,⟨rfl,rfl,rfl,rfl,trivial⟩,P6,E,e9,o6,by rw[gJ,C];rfl,λ b hb=> ?_,r6.snoc (l:=D.toList) (by simpa using y.sL) (by simpa using t6)⟩
  replace hb:U.ownBlock=some b:=hb;rcases I with e|e
  ·exact f5 b (e▸hb)
  ·have:=e b hb;exact gC (by have:=p.bw.lt;omega) (p.fresh this)
end
end
end Go.Proofs.YtbapfnpbamnmpaaGreatDoor
