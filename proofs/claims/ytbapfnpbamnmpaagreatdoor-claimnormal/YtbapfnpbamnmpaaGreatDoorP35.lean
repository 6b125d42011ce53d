/- A part of the proof that the text which Print makes of a parsed text is a normal form -/
import Derived.Test.YtbapfnpbamnmpaaGreatDoorP00
import Derived.Test.YtbapfnpbamnmpaaGreatDoorP21
import Derived.Test.YtbapfnpbamnmpaaGreatDoorP34
import Derived.Test.YtbapfnpbamnmpaaGreatDoorP33
import Derived.Test.YtbapfnpbamnmpaaGreatDoorP25
import Derived.Test.YtbapfnpbamnmpaaGreatDoorP24
import Derived.Test.YtbapfnpbamnmpaaGreatDoorP29
import Derived.Test.YtbapfnpbamnmpaaGreatDoorP06
import Derived.Test.YtbapfnpbamnmpaaGreatDoorP26
set_option maxHeartbeats 8000000
set_option maxRecDepth 100000
namespace Go.Proofs.YtbapfnpbamnmpaaGreatDoor
open Go Go.RowKit Go.Dig Go.Deep Go.Eng Go.Proofs.Tryz
variable{W w w':World}{D F N b cap d n:Nat}{t:aj}{V:Array Value}{l:List Nat}{v:Value}{s:Bool}{i:im}{a:Option Addr}
section
attribute [local irreducible] wpList
def LV:Array Value:=#[.int .i64 0,.int .i64 0,.bool false,.slice none 0 0,.slice none 0 0,.string ⟨#[]⟩,.slice none 0 0,.bool false]
theorem ja:dY 93 LV:=zH (b:=false) iK
def To:aj->Bool
 | .node op _ _ N D _ _=>decide (op=1)&&aX N D&&decide (rN N D=0)
def sO(p q:aj):aj:=if To q=true then p else bY 6 0 [p,q]
def rT(x:cW):aj:=if bt x.op 0=60 then sO (cR x.e1) (cR x.e0) else sO (cR x.e0) (cR x.e1)
def kK(x:cW):Bool:=x.e0.ok&&x.e1.ok&&(rT x).ok
def nD(x:cW):Bool:=decide (x.op.size=1)
def CV(x:cW)(W:World)(S:Nat->Bool)(C:Array Value)(c:Nat):Prop:=
 if kK x=true then c=0/\∃D F,C=D++#[.bool (nD x)]/\dY 27 D/\Ex (aB W S) F (.agg D) (rT x) else c=4/\C=LV
structure ReT(s:ByteArray)(ts:List aS)(x:cW):Prop where
 a:PaT s ts x.f0 x.t0 x.e0
 b:PaT s ts x.f1 x.t1 x.e1
 op:0<x.op.size
 sz:x.op.size<=1000000
theorem iB{o:Nat}{A:Array Value}{t:TypeId}{V:List Value}(h:aD w b A t)(a:∀j v,V[j]? =some v->A[o+j]? =some v):w.rangeAt b o V:=λ j v hv=>h.cell (o+j) (a j v hv)
def sP(N:Nat)(l:List Nat):Nat->Bool:=λ b=>decide (N<=b)&& !l.contains b
theorem ou:sP N l b=true↔N<=b/\b∉l:=by simp[sP]
theorem Ex.nE(h:Ex (aB w (sP N l)) F v t)(k:af w W b)(hb:b∈l):Ex (aB W (sP N l)) F v t:=h.sub (au λ c hc hs=>⟨hs,k.old c hc λ e=>(ou.1 hs).2 (e▸hb)⟩)
theorem Ex.Sr(h:Ex (aB w (sP N l)) F v t)(k:aa w W):Ex (aB W (sP N l)) F v t:=h.sub (jS k)
theorem Ex.ZB(h:Ex (aB w (sP N l)) F v t)(hb:w.heap.size<=b):Ex (aB w (sP N (b::l))) F v t:=h.sub (au λ c hc hs=>by
 obtain⟨h1,h2⟩:=ou.1 hs;refine⟨ou.2 ⟨h1,λ h3=> ?_⟩,rfl⟩
 rcases List.mem_cons.1 h3 with rfl|h3
 ·omega
 ·exact h2 h3)
theorem Ex.Xg(h:Ex (aB w (sP N l)) F v t):Ex (aB w (ab N)) F v t:=h.sub (iJ λ _ hs=>cU (ou.1 hs).1)
theorem ajH{l:Fm}{ops:Array Oper}{rest:List Oper}{Q:Exit->Act->World->Prop}{oi:Oper}{x y:Operand}{Y Z:Array Value}(f:dY 27 Y)(e:dY 27 Z)(h:∀W g,g=w.heap.size->aa w W->aD W g (Y++Z) 27->W.heap.size=g+1->wpList prog ops Q rest (aH n (aC l d (.slice (some ⟨g,0,none⟩) 2 2))) W)
 (b:oi.op= .buildSlice 25 2 #[(0,x),(1,y)]:=by rfl)(hx:bA n l x=some (.agg Y):=by rfl)(a:bA n l y=some (.agg Z):=by rfl)(c:oi.guard=none:=by rfl)(hd:oi.dst=some d:=by rfl):wpList prog ops Q (oi::rest) (aH n l) w:=
 zv _ (by rw[aO];exact BR f e b hx a) c hd (h _ _ rfl ((aa.refl w).alloc _) (aD.new w _ 27) (Array.size_push ..))
theorem zI{g:Nat}{ta:Option Addr}{tc:Nat}{ts:List aS}(h:Ls W g ta tc ts)(hT:cL W)(h6:6<=W.heap.size){s:ByteArray}{y:cW}{bx cd:Value}(hb:∃a n c,bx= .slice a n c)(hc:∃a n c,cd= .slice a n c){x:cW}(hx:ReT s ts x):
 Calls prog 103 #[.agg (ef g s y bx cd),.agg (fG x)] W λ e W'=>∃C,∃c:Nat,e= .returned (.tuple #[.agg C,.int .i64 (c:Int)])/\dY 93 C/\aa W W'/\CV x W' (ab W.heap.size) C c:=by
 have D9:=qJ (g:=g) (s:=s) (x:=y) hb hc;obtain⟨pa,pb,aV,pQ⟩:=hx;refine dK [_,_] 74 func103 rfl ntmps103 (by simp) ?_;refine gz ?_;refine zb λ w1 g1 e1 k1 b1 q1=> ?_;refine zb (t:=65) λ w2 g2 e2 k2 b2 q2=> ?_;refine za LV 93 λ w3 m e3 k3 b3 q3=> ?_;have K3:=(k1.trans k2).trans k3;have pU:=(b1.kept k2).kept k3;have OE:=b2.kept k3;have z3:=K3.size;obtain⟨fZ,fq⟩:(aD w3 g1 _ 69/\True)/\(aD w3 g2 _ 65/\True):=⟨⟨pU,trivial⟩,⟨OE,trivial⟩⟩
 clear b1 b2 pU OE;refine gz ?_;refine zl fZ.1.range D9 ?_;refine gz ?_;refine zl (V:=#[.int .i64 (x.f0:Int),.int .i64 (x.t0:Int)]) (iB (o:=0) fq.1 λ j v hv=>by
  match j,hv with
  |0,hv=>exact hv
  |1,hv=>exact hv) (by exact⟨by kernel_rfl,by simp[Value.oneCell']⟩) ?_
 refine zc 195 _ (B0 (x:=y) (h.kept K3) (hT.kept K3) (by omega) hb hc pa) ?_;rintro e w4 ⟨D0,c0,rfl,u,k4,l⟩
 refine⟨_,rfl,?_⟩
 have K4:=K3.trans k4;have z4:=k4.size;refine gz ?_;refine za Z7 27 λ w5 d e5 k5 b5 q5=> ?_;refine zt b5 iK u λ w6 k6 b6=> ?_;have L:aa w4 w6:=k5.but k6 (by omega)
 have z6:=L.size;have l6:=b6.lt;have X:=b3.kept (k4.trans L)
 have Hs:=fZ.1.kept (k4.trans L)
 have KX:=fq.1.kept (k4.trans L)
 have h5:aD w6 d D0 27/\True:=⟨b6,trivial⟩
 clear b5 b6;refine gz ?_;by_cases H:x.e0.ok=true;case neg=>
  unfold PV at l;rw[if_neg H] at l;obtain⟨rfl,rfl⟩:=l;refine cr true ?_ ?_
  ·rfl
  refine gz ?_;refine zr (.agg LV) ?_;refine zz ?_;refine zt X ja ja λ w7 k7 b7=> ?_;refine gz ?_;exact fE b7 ja ⟨LV,4,rfl,ja,(K4.trans L).but k7 (by omega),by unfold CV kK;rw[Bool.eq_false_iff.2 H];exact⟨rfl,rfl⟩⟩
 unfold PV at l;rw[if_pos H] at l;obtain⟨rfl,F0,ZC⟩:=l;refine cr false ?_ ?_
 ·rfl
 obtain⟨hh1,hh2⟩:(aD w6 g1 _ 69/\True)/\(aD w6 g2 _ 65/\True):=⟨⟨Hs,trivial⟩,⟨KX,trivial⟩⟩
 clear Hs KX fZ fq b3;refine gz ?_;refine zl hh1.1.range D9 ?_;refine gz ?_;refine zl (V:=#[.int .i64 (x.f1:Int),.int .i64 (x.t1:Int)]) (iB (o:=2) hh2.1 λ j v hv=>by
  match j,hv with
  |0,hv=>exact hv
  |1,hv=>exact hv) (by exact⟨by kernel_rfl,by simp[Value.oneCell']⟩) ?_
 have Z:=K4.trans L;refine zc 195 _ (B0 (x:=y) (h.kept Z) (hT.kept Z) (by omega) hb hc pb) ?_;rintro e w7 ⟨D1,c1,rfl,r,k7,i⟩
 refine⟨_,rfl,?_⟩
 have z7:=k7.size;refine gz ?_;refine za Z7 27 λ w8 g8 e8 k8 b8 q8=> ?_;refine zt b8 iK r λ M k9 b9=> ?_;have Y:aa w7 M:=k8.but k9 (by omega)
 have z9:=Y.size;have f:=k7.trans Y;have K09:=Z.trans f;have l9:=b9.lt;have K:=X.kept f;have J:aD M d D0 27/\True:=⟨h5.1.kept f,trivial⟩
 have h8:aD M g8 D1 27/\True:=⟨b9,trivial⟩
 have ZD:aD M g2 (fG x) 65/\True:=⟨hh2.1.kept f,trivial⟩
 clear b8 b9 X;refine gz ?_;by_cases Au:x.e1.ok=true;case neg=>
  unfold PV at i;rw[if_neg Au] at i;obtain⟨rfl,rfl⟩:=i;refine cr true ?_ ?_
  ·rfl
  refine gz ?_;refine zr (.agg LV) ?_;refine zz ?_;refine zt K ja ja λ wa G ba=> ?_;refine gz ?_;exact fE ba ja ⟨LV,4,rfl,ja,K09.but G (by omega),by unfold CV kK;rw[Bool.eq_false_iff.2 Au,Bool.and_false];exact⟨rfl,rfl⟩⟩
 unfold PV at i;rw[if_pos Au] at i;obtain⟨rfl,F1,Xh⟩:=i;refine cr false ?_ ?_
 ·rfl
 have X0:Ex (aB M (sP W.heap.size [m,d,g8])) F0 (.agg D0) (cR x.e0):=ZC.sub (au λ b hb hs=>by
  have hs4:w3.heap.size<=b:=kC hs;exact⟨ou.2 ⟨by omega,by simp;omega⟩,(f.old b (by omega)).trans (L.old b hb)⟩)
 have X1:Ex (aB M (sP W.heap.size [m,d,g8])) F1 (.agg D1) (cR x.e1):=Xh.sub (au λ b hb hs=>by
  have hs4:w6.heap.size<=b:=kC hs;exact⟨ou.2 ⟨by omega,by simp;omega⟩,Y.old b hb⟩)
 clear ZC Xh;refine gz ?_;refine kB (ZD.1.cell 4 rfl) ?_;refine wL (k:=0) aV ?_;refine cr (decide (bt x.op 0=60)) ?_ ?_
 ·show(((bt x.op 0:Nat):Int)==60)=_;by_cases h:bt x.op 0=60
  ·rw[h];rfl
  ·rw[gy h];exact vy (by omega)
 refine gz ?_;refine Dt (σ:=Array Value×aj×Array Value×aj) (λ _=>[(2,.pointer (some ⟨g1,0,none⟩)),(3,.pointer (some ⟨g2,0,none⟩)),(4,.pointer (some ⟨m,0,none⟩)),(6,.pointer (some ⟨d,0,none⟩)),(8,.pointer (some ⟨g8,0,none⟩))])
  (λ σ W'=>aa w4 W'/\M.heap.size<=W'.heap.size/\(aD W' d σ.1 27/\True)/\(aD W' g8 σ.2.2.1 27/\True)/\(aD W' g2 (fG x) 65/\True)/\aD W' m LV 93/\(∃F,Ex (aB W' (sP W.heap.size [m,d,g8])) F (.agg σ.1) σ.2.1)/\(∃F,Ex (aB W' (sP W.heap.size [m,d,g8])) F (.agg σ.2.2.1) σ.2.2.2)/\rT x=sO σ.2.1 σ.2.2.2)
  (λ Q' hN=> ?_) (λ l' O ⟨P,p,Qa,q⟩ ⟨kj,zj,bP,bQ,b2j,b4j,xP,xQ,hrel⟩=> ?_)
 ·by_cases OI:bt x.op 0=60
  ·rw[cU OI]
   refine gz ?_;refine zl h8.1.range r ?_;refine zl J.1.range u ?_;refine zt J.1 u r λ wa G ba=> ?_;refine zt (h8.1.ai G (by omega)) r u λ wb kb bb=> ?_;refine gz ?_;exact hN _ _ (D1,cR x.e1,D0,cR x.e0) ⟨rfl,rfl,rfl,rfl,rfl,trivial⟩ ⟨((L.trans f).but G (by omega)).but kb (by omega),by have:=G.size;have:=kb.size;omega,⟨ba.ai kb (by omega),trivial⟩,⟨bb,trivial⟩,⟨(ZD.1.ai G (by omega)).ai kb (by omega),trivial⟩,(K.ai G (by omega)).ai kb (by omega),⟨F1,(X1.nE G (by simp)).nE kb (by simp)⟩,⟨F0,(X0.nE G (by simp)).nE kb (by simp)⟩,by unfold rT;rw[if_pos OI]⟩
  ·rw[gy OI]
   refine gz ?_;exact hN _ _ (D0,cR x.e0,D1,cR x.e1) ⟨rfl,rfl,rfl,rfl,rfl,trivial⟩ ⟨L.trans f,aU _,J,h8,ZD,K,⟨F0,X0⟩,⟨F1,X1⟩,by unfold rT;rw[if_neg OI]⟩
 replace kj:aa w4 O:=kj;replace zj:M.heap.size<=O.heap.size:=zj;obtain⟨FP,xP⟩:∃F,Ex (aB O (sP W.heap.size [m,d,g8])) F (.agg P) p:=xP;obtain⟨FQ,xQ⟩:∃F,Ex (aB O (sP W.heap.size [m,d,g8])) F (.agg Qa) q:=xQ;replace bP:aD O d P 27/\True:=bP;replace bQ:aD O g8 Qa 27/\True:=bQ;replace hrel:rT x=sO p q:=hrel;clear X0 X1 J h8 ZD K u r;cases FQ with
 |zero=>exact xQ.elim
 |succ FQ=>
 cases q with
 |node qo qa qs D E qn qks=>
 obtain⟨y1,y2,y3,y4,y5,y6,ya,yc,hQv,-,-,hRt⟩:=xQ.shape;obtain rfl:=Value.agg.inj hQv;obtain⟨po,pg,pz,u1,u2,u3,u4,u5,u6,pn,ua,un,uc,hPv⟩:=xP.Lj;obtain rfl:=Value.agg.inj hPv;clear hQv hPv;refine gz ?_;refine zl bP.1.range nX ?_;refine gz ?_;refine kB (b2j.1.cell 4 rfl) ?_;refine gz ?_;refine cr (nD x) ?_ ?_
 ·show(((x.op.size:Nat):Int)==1)=_;unfold nD;by_cases h:x.op.size=1
  ·rw[h];rfl
  ·rw[gy h];exact vy (by omega)
 obtain⟨st,dp⟩:∃st,st=nD x:=⟨_,rfl⟩
 rw[<-dp]
 refine zr (.agg #[.int .i64 po,.int .i64 pg,.bool pz,.slice u1 u2 u3,.slice u4 u5 u6,.string pn,.slice ua un uc,.bool st]) ?_;refine za LV 93 λ wk A ek kk bk qk=> ?_;refine zt bk ja (zH (b:=st) (nX (o:=po) (g:=pg) (z:=pz) (x1:=u1) (x2:=u2) (x3:=u3) (x4:=u4) (x5:=u5) (x6:=u6) (nm:=pn) (x7:=ua) (x8:=un) (x9:=uc))) λ B kl bl=> ?_;have sk9:=kk.size;have sl9:=kl.size;have w:aa O B:=kk.but kl (by omega)
 have l9':=bl.lt;have XP:Ex (aB B (sP W.heap.size [A,m,d,g8])) FP (.agg #[.int .i64 po,.int .i64 pg,.bool pz,.slice u1 u2 u3,.slice u4 u5 u6,.string pn,.slice ua un uc]) p:=((xP.ZB (b:=A) (by omega)).Sr kk).nE kl (by simp)
 have XQ:=((xQ.ZB (b:=A) (by omega)).Sr kk).nE kl (by simp)
 have Kl:aa w4 B:=kj.trans w;have bPl:=bP.1.kept w;have bQl:=bQ.1.kept w;have b4l:=b4j.kept w;obtain⟨hPl,S⟩:(aD B d _ 27/\True)/\(aD B g8 _ 27/\True):=⟨⟨bPl,trivial⟩,⟨bQl,trivial⟩⟩
 have Ow:aD B A _ 93/\True:=⟨bl,trivial⟩
 clear bPl bQl bP bQ b2j b4j bk bl xP xQ;have lr:B.rangeAt g8 2 [.bool qs,.slice y1 y2 y3,.slice y4 y5 y6]:=iB (o:=2) S.1 λ j v hv=>by
  match j,hv with
  |0,hv=>exact hv
  |1,hv=>exact hv
  |2,hv=>exact hv
 refine gz ?_;refine zl lr ⟨by kernel_rfl,by first|kernel_rfl|simp[Value.oneCell']⟩ ?_;have K0l:aa W B:=K4.trans Kl;have ajM:Rt B (.agg #[.bool qs,.slice y1 y2 y3,.slice y4 y5 y6]) qs D E:=(hRt.sub (dP _ _)).kept w;refine zc 196 _ (IK ajM (hT.kept K0l)) ?_;rintro e wm ⟨rfl,N⟩
 refine⟨_,rfl,?_⟩
 have zm:=N.size;obtain⟨hPm,R⟩:(aD wm d _ 27/\True)/\(aD wm g8 _ 27/\True):=⟨⟨hPl.1.kept N,trivial⟩,⟨S.1.kept N,trivial⟩⟩
 have Xi:aD wm A _ 93/\True:=⟨Ow.1.kept N,trivial⟩
 have U:=b4l.kept N;have XPm:=XP.Sr N;have XQm:=XQ.Sr N;have Km:=Kl.trans N;clear hPl S Ow XP XQ b4l lr;refine gz ?_;refine kB (R.1.cell 0 rfl) ?_;have hsg:∀(h1:aX D E=true),(Tn qs D E=0↔rN D E=0):=λ h1=>by
  unfold Tn lY;rw[if_pos h1]
  by_cases h2:rN D E=0
  ·rw[if_pos h2];exact⟨λ _=>h2,λ _=>rfl⟩
  ·rw[if_neg h2]
   refine⟨λ h3=> ?_,λ h3=>absurd h3 h2⟩
   split at h3<;>cases h3
 have I:(if To (.node qo qa qs D E qn qks)=true then rT x=p else rT x=bY 6 0 [p,.node qo qa qs D E qn qks]):=by
  unfold sO at hrel;split<;>rename_i h<;>simp only[h] at hrel<;>exact hrel
 unfold To at I;by_cases hA:qo=1;case' neg=>
  rw[if_neg (by simp[hA])] at I;refine cr true ?_ ?_
  ·exact bne_iff_ne.2 hA
  refine gz ?_
 case' pos=>
  refine cr false ?_ ?_
  ·rw[hA];rfl
  refine gz ?_;by_cases hB:aX D E=true;case' neg=>
   rw[if_neg (by simp[hB])] at I;rw[if_neg hB]
   refine cr true ?_ ?_
   ·rfl
   refine gz ?_
  case' pos=>
   rw[if_pos hB]
   refine cr false ?_ ?_
   ·rfl
   refine gz ?_;by_cases hC:rN D E=0;case' neg=>
    rw[if_neg (by simp[hC])] at I;refine cr true ?_ ?_
    ·exact bne_iff_ne.2 λ e=>hC ((hsg hB).1 e)
    refine gz ?_
   case' pos=>
    rw[if_pos (by simp[hA,hB,hC])] at I;refine cr false ?_ ?_
    ·rw[(hsg hB).2 hC];rfl
    refine gz ?_;obtain⟨T,FT,bT,Q,xT⟩:∃T FT,(aD wm A (T++#[.bool st]) 93/\True)/\dY 27 T/\Ex (aB wm (sP W.heap.size [A,m,d,g8])) FT (.agg T) (rT x):=⟨_,FP,Xi,nX,by rw[I];exact XPm⟩
    have KT:=Km;have b4T:aD wm m LV 93/\True:=⟨U,trivial⟩
    clear I
 all_goals first
  |(have hk:=bT;clear hk)
  |(
    refine zl hPm.1.range nX ?_;refine zl R.1.range nX ?_;refine ajH nX nX λ wn gs es ks bs qs2=> ?_;have sn:=ks.size;refine zr (.agg (N7 6 0 (some ⟨gs,0,none⟩) 2 2)) ?_;refine gz ?_;refine ztp (o:=0) (Xi.1.kept ks) (eP ..) (λ wo ko bo=> ?_) (by simp[N7])
    have so:=ko.size;have lm:=Xi.1.lt;have l5:=hPm.1.lt;have l8:=R.1.lt;have l4:=U.lt;have XPo:=(XPm.Sr ks).nE ko (by simp)
    have XQo:=(XQm.Sr ks).nE ko (by simp)
    obtain⟨T,FT,bT,Q,xT⟩:∃T FT,(aD wo A (T++#[.bool st]) 93/\True)/\dY 27 T/\Ex (aB wo (sP W.heap.size [A,m,d,g8])) FT (.agg T) (rT x):=
     ⟨N7 6 0 (some ⟨gs,0,none⟩) 2 2,FP+(FQ+1)+1,⟨bo,trivial⟩,eP ..,by
       rw[I]
       exact Ex.bw (kids:=[p,_]) (cs:=[_,_,_,_,_,_,_]++[_,_,_,_,_,_,_]) rfl (ou.2 ⟨by omega,by simp;omega⟩) (bs.ai ko (by omega)) (IC rfl (XPo.Ie (by omega)) rfl (XQo.Ie (by omega))) (by simp)⟩
    have KT:aa w4 wo:=(Km.trans ks).but ko (by omega)
    have b4T:aD wo m LV 93/\True:=⟨(U.kept ks).ai ko (by omega),trivial⟩
    clear I bo bs
   )
 all_goals
  have zw:=KT.size;refine gz ?_;refine zl (V:=T) (iB (o:=0) bT.1 λ j v hv=> ?_) Q ?_
  ·have hj:j<T.size:=by
    rcases Nat.lt_or_ge j T.size with h|h
    ·exact h
    ·rw[List.getElem?_eq_none (by simpa using h)] at hv;cases hv
   rw[lp,Array.getElem?_append_left hj,<-hv,Array.getElem?_toList]
  have KW:=K4.trans KT;refine zc 77 _ (iN (xT.sub (dP _ _)) (hT.kept KW)) ?_;rintro e wp ⟨rfl,kp⟩
  refine⟨_,rfl,?_⟩
  have sp:=kp.size;have b4p:=b4T.1.kept kp;have bTp:aD wp A (T++#[.bool st]) 93/\True:=⟨bT.1.kept kp,trivial⟩
  have xTp:=xT.Sr kp;have KP:=KW.trans kp;by_cases ho:(rT x).ok=true
  ·rw[ho]
   refine gz ?_;refine zl bTp.1.range (zH Q) ?_;refine zt b4p ja (zH Q) λ wq kq bq=> ?_;refine gz ?_;refine fE bq (zH Q) ⟨T++#[.bool st],0,rfl,zH Q,KP.but kq (by omega),?_⟩
   unfold CV;rw[if_pos (by unfold kK;rw[H,Au,ho];rfl)]
   exact⟨rfl,T,FT,by rw[dp],Q,(xTp.nE kq (by simp)).Xg⟩
  ·rw[Bool.eq_false_iff.2 ho]
   refine gz ?_;refine zr (.agg LV) ?_;refine zt b4p ja ja λ wq kq bq=> ?_;refine gz ?_;refine fE bq ja ⟨LV,4,rfl,ja,KP.but kq (by omega),?_⟩
   unfold CV;rw[if_neg (by unfold kK;rw[Bool.eq_false_iff.2 ho,Bool.and_false];exact iZ)]
   exact⟨rfl,rfl⟩
def Xj:Array Value:=#[.bool false,.slice none 0 0,.slice none 0 0]
theorem LW{a1:Option Addr}{n1 c1:Nat}{a2:Option Addr}{n2 c2:Nat}(h:Fr w (.agg #[.bool false,.slice a1 n1 c1,.slice a2 n2 c2]) false n d):
 Calls prog 354 #[.agg #[.bool false,.slice a1 n1 c1,.slice a2 n2 c2]] w λ e w'=>e= .returned (.agg #[.bool (decide (0<n)),.slice a1 n1 c1,.slice a2 n2 c2])/\aa w w':=by
 obtain⟨B,C,r,hn,hd⟩:=h;cases r
 obtain⟨u,a⟩:∃u,u=decide (0<n):=⟨_,rfl⟩
 rw[<-a]
 refine ct 13 func354 rfl ntmps354 ?_;refine gx ?_;refine zb λ A g1 e1 p l q1=> ?_;refine za Xj 217 λ f g2 E j v D=> ?_;have x:=l.kept j;have c:=p.trans j;have k:=hn.kept c;clear l;have y:=c;refine gx ?_;have q:Calls prog 192 #[.slice a1 n1 c1] f λ e w'=>e= .returned (.bool !u)/\f=w':=by
  by_cases s:n=0
  ·subst s;rw[a]
   exact ud k
  ·rw[a,cU (by omega)]
   exact nF k (by omega)
 refine zc 192 _ q ?_;rintro e w3 ⟨rfl,rfl⟩
 refine gx ?_;refine fV (i:=0) x (by simp) rfl λ m g b=> ?_;replace b:aD m g1 #[.bool u,.slice a1 n1 c1,.slice a2 n2 c2] 217:=by
  simpa using b
 refine gx ?_;refine zl b.range ⟨by kernel_rfl,by first|kernel_rfl|simp[Value.oneCell']⟩ ?_;refine zt (v.ai g (by omega)) lJ lJ λ z o t=> ?_;refine gx ?_;exact ej t lJ ⟨rfl,(c.but g (by omega)).but o (by omega)⟩
theorem Xk(h:Rt w (.agg V) false N D)(hs:aX N D=true)(H:cL w):
 Calls prog 353 #[.agg V,.func (.func 354) #[] #[]] w λ e w'=>∃a1 n1 c1 a2 n2 c2,e= .returned (.tuple #[.agg #[.bool (decide (0<N)),.slice a1 n1 c1,.slice a2 n2 c2],.int .i64 0])/\Rt (aB w' (ab w.heap.size)) (.agg #[.bool (decide (0<N)),.slice a1 n1 c1,.slice a2 n2 c2]) (decide (0<N)) (rN N D) (cD N D)/\aa w w':=by
 have hr:=λ (w':World) (k:aa w w')=>lN (h.kept k) (H.kept k)
 unfold ox at hr;rw[hs] at hr;obtain⟨W,X,G,hn,hd⟩:=h;obtain⟨p1,p2,p3,zs,rfl,-⟩:=hn;obtain⟨q1,z,q3,O,rfl,-⟩:=hd;cases G
 have hf:bn (rN N D)=true/\bn (rD N D)=true:=by
  unfold aX at hs;simp only[fv] at hs;exact⟨hs.1.2,hs.2⟩
 have e0:decide (0<rN N D)=decide (0<N):=by
  rw[decide_eq_decide]
  unfold rN;have E:0<Nat.gcd N (dn D):=Nat.gcd_pos_of_pos_right _ (by unfold dn;split<;>omega)
  constructor
  ·intro h;rcases Nat.eq_zero_or_pos N with h0|h0
   ·rw[h0,Nat.zero_div] at h;exact absurd h (Nat.lt_irrefl 0)
   ·exact h0
  ·intro h;exact Nat.div_pos (Nat.le_of_dvd h (Nat.gcd_dvd_left _ _)) E
 refine dK [_,_] 22 func353 rfl ntmps353 (by simp) ?_;refine gx ?_;refine zb λ U g1 e1 C v q1=> ?_;refine za ZR 24 λ y g2 i s u z=> ?_;have M:=v.kept s;have l:=C.trans s;clear v;refine gx ?_;refine zl M.range ⟨by kernel_rfl,by first|kernel_rfl|simp[Value.oneCell']⟩ ?_;refine zc 155 _ (hr y l) ?_;rintro e w3 ⟨p,a,n,c,a',o,t,rfl,g,F⟩
 refine⟨_,rfl,?_⟩
 have hF:=F rfl;obtain rfl:p=false:=by
  obtain⟨_,_,e,-⟩:=hF;have i:=Value.agg.inj e;simp only[Array.mk.injEq,List.cons.injEq,Value.bool.injEq] at i;simpa using i.1
 rw[Bool.false_and] at hF;refine gx ?_;refine za Xj 217 λ T g4 e4 B L q4=> ?_;refine zt (V:=#[.bool false,.slice a n c,.slice a' o t]) L lJ lJ λ x A K=> ?_;have d:aa w3 x:=B.but A (by omega)
 refine gx ?_;refine zl K.range ⟨by kernel_rfl,by first|kernel_rfl|simp[Value.oneCell']⟩ ?_;refine zc 354 _ (LW (hF.kept d)) ?_;rintro e m ⟨rfl,f⟩
 refine⟨_,rfl,?_⟩
 have I:Fr m (.agg #[.bool (decide (0<rN N D)),.slice a n c,.slice a' o t]) (decide (0<rN N D)) (rN N D) (rD N D):=by
  obtain⟨P,Q,hx,h1,h2⟩:=(hF.kept d).kept f;cases hx
  exact⟨_,_,rfl,h1,h2⟩
 refine zc 191 _ (vH I hf.1 hf.2) ?_;rintro e S ⟨a1,n1,c1,a2,n2,c2,rfl,hR,r⟩
 refine⟨_,rfl,?_⟩
 rw[e0] at hR⊢;have s3:=g.size;have Z:=d.size;have Y:=f.size;have j:=((u.kept g).kept d).kept (f.trans r)
 refine gx ?_;refine zt j cQ cQ λ R q J=> ?_;refine gx ?_;refine fE J cQ ⟨a1,n1,c1,a2,n2,c2,rfl,hR.sub (au λ b hb hs=> ?_),(((l.trans g).trans d).trans (f.trans r)).but q (by omega)⟩
 have h0:m.heap.size<=b:=kC hs;have ZE:=l.size;have l2:=u.lt;exact⟨cU (by omega),q.old b hb (by omega)⟩
theorem LX(h:Rt w (.agg V) false N D)(hs:aX N D=true)(n:cL w):
 Calls prog 284 #[.agg V] w λ e w'=>∃a1 n1 c1 a2 n2 c2,e= .returned (.tuple #[.agg #[.bool (decide (0<N)),.slice a1 n1 c1,.slice a2 n2 c2],.int .i64 0])/\Rt (aB w' (ab w.heap.size)) (.agg #[.bool (decide (0<N)),.slice a1 n1 c1,.slice a2 n2 c2]) (decide (0<N)) (rN N D) (cD N D)/\aa w w':=by
 have l:=h;obtain⟨u,v,m,hn,hd⟩:=l;obtain⟨A,z,y,zs,rfl,-⟩:=hn;obtain⟨q1,j,x,r,rfl,-⟩:=hd;cases m
 refine ct 7 func284 rfl ntmps284 ?_;refine gx ?_;refine zb λ t g1 e1 k g q1=> ?_;refine za ZR 24 λ i g2 C f p j=> ?_;have q:=g.kept f;have a:=k.trans f;clear g;refine gx ?_;refine zl q.range ⟨by kernel_rfl,by first|kernel_rfl|simp[Value.oneCell']⟩ ?_;refine zc 353 _ (Xk (h.kept a) hs (n.kept a)) ?_;rintro e w3 ⟨a1,n1,c1,a2,n2,c2,rfl,hR,d⟩
 refine gx ?_;refine zt (p.kept d) cQ cQ λ s c o=> ?_;refine gx ?_;refine fE o cQ ⟨a1,n1,c1,a2,n2,c2,rfl,hR.sub (au λ b hb hs=> ?_),(a.trans d).but c (by omega)⟩
 have B:i.heap.size<=b:=kC hs;exact⟨cU (by omega),c.old b hb (by omega)⟩
def oW(ts:List aS)(x:lQ):Bool:= !x.inf&&(x.neg&&decide (0<(aN (ar ts x.at').text).n))
def mm(ts:List aS)(x:lQ):Nat:=if x.inf=true then 0 else(aN (ar ts x.at').text).n
def nY(ts:List aS)(x:lQ):Nat:=if x.inf=true then 0 else(aN (ar ts x.at').text).d
theorem yz{t:ByteArray}(h:iz t=0):aX (aN t).n (aN t).d=true/\rN (aN t).n (aN t).d=(aN t).n/\cD (aN t).n (aN t).d=(aN t).d:=by
 unfold aN;rw[if_pos h]
 unfold iz at h;split at h
 ·cases h
 split at h
 ·cases h
 rename_i h1 h2;unfold Xl zJ at h;unfold Tp zK;generalize (sQ t).1=a at*;generalize (sQ t).2=b at*;split at h;case isFalse=>cases h
 rename_i hf;rw[if_pos hf]
 simp only[fv] at hf;have i:0<Nat.gcd a b:=Nat.gcd_pos_of_pos_right _ (by omega)
 have c:Nat.gcd (a/Nat.gcd a b) (b/Nat.gcd a b)=1:=Nat.gcd_div_gcd_div_gcd_of_pos_right (by omega)
 have hb:0<b/Nat.gcd a b:=Nat.div_pos (Nat.le_of_dvd (by omega) (Nat.gcd_dvd_right _ _)) i;generalize a/Nat.gcd a b=n at*;generalize b/Nat.gcd a b=d at*;have e:dn (if d=1 then 0 else d)=d:=by
  unfold dn;by_cases h1:d=1
  ·rw[if_pos h1,if_pos rfl,h1]
  ·rw[if_neg h1,if_neg (by omega)]
 have f:rN n (if d=1 then 0 else d)=n:=by unfold rN;rw[e,c,Nat.div_one]
 have g:rD n (if d=1 then 0 else d)=d:=by unfold rD;rw[e,c,Nat.div_one]
 refine⟨?_,f,?_⟩
 ·unfold aX;show(decide (n<_)&&decide ((if d=1 then 0 else d)<_)&&bn (rN n _)&&bn (rD n _))=true;rw[f,g,hf.1,hf.2]
  simp only[Bool.and_true,fv,oh]
  have hp:iy 2 2048<=iy 2 8192:=mB _ _ (by decide)
  have h1:n<iy 2 2048:=kC hf.1;have h2:d<iy 2 2048:=kC hf.2;refine⟨jf h1 hp,jf (Nat.lt_of_le_of_lt ?_ h2) hp⟩
  split<;>omega
 ·show cD n (if d=1 then 0 else d)=if d=1 then 0 else d
  unfold cD;rw[g]
def IL(ts:List aS)(x:lQ):Prop:=x.inf=true∨(x.at'<ts.length/\(ar ts x.at').kind=0/\iz (ar ts x.at').text=0)
theorem Cb{g:Nat}{ta:Option Addr}{tc:Nat}{ts:List aS}(h:Ls W g ta tc ts)(K:cL W){s:ByteArray}{y:cW}{bx cd:Value}(hb:∃a n c,bx= .slice a n c)(hc:∃a n c,cd= .slice a n c){x:lQ}(hx:IL ts x):
 Calls prog 197 #[.agg (ef g s y bx cd),.agg (LY x)] W λ e W'=>∃a1 n1 c1 a2 n2 c2,e= .returned (.tuple #[.agg #[.bool (oW ts x),.slice a1 n1 c1,.slice a2 n2 c2],.int .i64 0])/\Rt (aB W' (ab W.heap.size)) (.agg #[.bool (oW ts x),.slice a1 n1 c1,.slice a2 n2 c2]) (oW ts x) (mm ts x) (nY ts x)/\aa W W':=by
 have D9:=qJ (g:=g) (s:=s) (x:=y) hb hc;obtain⟨l,H⟩:∃l,l=oW ts x:=⟨_,rfl⟩
 rw[<-H]
 refine dK [_,_] 38 func197 rfl ntmps197 (by simp) ?_;refine gx ?_;refine zb λ w1 g1 e1 k1 b1 q1=> ?_;refine zb (t:=240) λ w2 g2 e2 R Z q2=> ?_;refine za ZR 24 λ w3 g4 e3 G b3 q3=> ?_;have k:=(k1.trans R).trans G;have pU:=(b1.kept R).kept G;have Y:=Z.kept G;have z3:=k.size;clear b1 Z;obtain⟨ng,inf,p⟩:=x;cases inf
 case true=>
  have e1:l=false:=H;refine gx ?_;refine zr (.agg ZR) ?_;refine zt b3 cQ cQ λ P r b4=> ?_;refine gx ?_;refine fE b4 cQ ⟨none,0,0,none,0,0,by rw[e1],by rw[e1];exact mP _,k.but r (by omega)⟩
 obtain⟨hp,U,hn⟩:p<ts.length/\(ar ts p).kind=0/\iz (ar ts p).text=0:=by
  rcases hx with hx|hx
  ·cases hx
  ·exact hx
 obtain⟨S,u,w⟩:=yz hn;obtain⟨b,rfl,I⟩:=h.row hp;have nf:vv (ar ts p).text:=by
  have e:ar ts p=ts[p]:=by unfold ar;rw[nW hp];rfl
  rw[e] at U⊢;exact h.num _ (List.getElem_mem hp) U
 obtain⟨x1,x2,x3,V⟩:=h.bw;have Ix:=V.kept k;have T:=h.len;obtain⟨tk,C⟩:∃tk,tk=ar ts p:=⟨_,rfl⟩
 have es:l=(ng&&decide (0<(aN tk.text).n)):=by rw[H,C];rfl
 rw[<-C] at I nf S u w hn;have r1:w3.rangeAt b (0+p*3) (iH tk.kind tk.text tk.at').toList:=λ j v hv=>k.cell (I j v hv)
 have zG:b<w3.heap.size:=World.block_lt_of_cell? w3 _ (r1 0 _ rfl)
 clear V I;refine gx ?_;refine eJ 0 0 λ hS=> ?_;refine jG 0 hS ?_;refine eA 1 (pU.cell 0 rfl) (by omega) hS ?_;refine mO 2 hS ?_;refine jG 3 hS ?_;refine eA 4 (Ix.cell 0 rfl) (by omega) hS ?_;refine jG 5 hS ?_;refine eA 6 (Y.cell 2 rfl) (by omega) hS ?_;refine Tb (s:=3) 7 p hp hS ?_;refine jG 8 hS ?_;refine eA 9 (r1 1 _ rfl) (by omega) hS ?_;have q:aa w3 w3.drew:=(aa.refl w3).drew;have zd:=q.size;refine yco 10 14 100 _ ZR 24 hS (kF nf (K.kept (k.trans q))) (λ e P hR=> ?qa) (λ P z eg m D qg hS=> ?qb)
 case' qa=>
  obtain⟨a1,n1,c1,a2,n2,c2,rfl,hR,r⟩:=hR;refine⟨r,_,rfl,λ hS=> ?_⟩
  refine eL 11 hS ?_;refine eL 12 hS ?_;refine eL 13 hS ?_;refine ya 14 ZR 24 hS λ w5 z eg m D qg hS=> ?_;have z4:=r.size;have J:w3.heap.size<=z:=by omega
  have i:=(q.trans r).trans m;have o:=hR.sub (IJ (g:=z) (M:=w3.heap.size) m (by omega) (by omega))
  clear hR
 case' qb=>
  refine yc 10 100 _ hS (kF nf (K.kept ((k.trans q).trans m))) ?_;rintro e w5 ⟨a1,n1,c1,a2,n2,c2,rfl,hR,F⟩
  refine⟨F,_,rfl,λ hS=> ?_⟩
  refine eL 11 hS ?_;refine eL 12 hS ?_;refine eL 13 hS ?_;have J:w3.heap.size<=z:=by omega
  have i:=(q.trans m).trans F;replace D:=D.kept F;have o:=hR.sub (Ca (g:=z) (M:=w3.heap.size) (by omega) (by have:=m.size;omega))
  clear hR
 all_goals
  rw[hn]
  refine yt 15 D cQ cQ (.inr (by omega)) hS λ O Q E hS=> ?_;refine eL 16 hS ?_;refine gB ?_;replace i:=i.but Q (by omega)
  replace o:=o.sub (OG Q)
  have X:=b3.kept i;have b28:=Y.kept i;have z8:=i.size;have l8:=E.lt;have N:=k.trans i;refine gx ?_;cases ng
  ·refine fx ?_;refine gx ?_;refine zl E.range ⟨by kernel_rfl,by first|kernel_rfl|simp[Value.oneCell']⟩ ?_;refine gz ?_;refine zt X cQ cQ λ w9 f b9=> ?_;refine gx ?_;have A:l=false:=es;refine fE b9 cQ ⟨a1,n1,c1,a2,n2,c2,by rw[A],?_,N.but f (by omega)⟩
   rw[A]
   show Rt _ _ false (aN (ar ts p).text).n (aN (ar ts p).text).d;rw[<-C]
   exact o.sub (au λ b hb hs=>by
    unfold Xf at hs;simp only[fv,oh,bne_iff_ne] at hs;exact⟨cU (by omega),f.old b hb (by omega)⟩)
  ·refine ju ?_;refine gx ?_;refine zl E.range ⟨by kernel_rfl,by first|kernel_rfl|simp[Value.oneCell']⟩ ?_;have L:Rt O (.agg #[.bool false,.slice a1 n1 c1,.slice a2 n2 c2]) false (aN tk.text).n (aN tk.text).d:=o.sub (dP _ _)
   refine zc 284 _ (LX L S (K.kept N)) ?_;rintro e w9 ⟨a1,n1,c1,a2,n2,c2,rfl,hR,f⟩
   refine⟨_,rfl,?_⟩
   rw[u,w] at hR;have z9:=f.size;refine gx ?_;refine zt (E.kept f) cQ cQ λ wa B ba=> ?_;refine gx ?_;refine zl ba.range ⟨by kernel_rfl,by first|kernel_rfl|simp[Value.oneCell']⟩ ?_;refine gz ?_;have sa:=B.size;refine zt ((X.kept f).ai B (by omega)) cQ cQ λ wb kb bb=> ?_;refine gx ?_;have A:l=decide (0<(aN tk.text).n):=by rw[es,Bool.true_and]
   refine fE bb cQ ⟨a1,n1,c1,a2,n2,c2,by rw[A],?_,((N.trans f).but B (by omega)).but kb (by omega)⟩
   rw[A]
   show Rt _ _ _ (aN (ar ts p).text).n (aN (ar ts p).text).d;rw[<-C]
   exact hR.sub (au λ b hb hs=>by
    have h0:O.heap.size<=b:=kC hs;exact⟨cU (by omega),(kb.old b (by omega) (by omega)).trans (B.old b hb (by omega))⟩)
section
variable{n:Nat}{l:Fm}{ops:Array Oper}{Q:Exit->Act->World->Prop}{oa:Oper}{fuel:Nat}{listed:Array Bool}{w w0:World}{lo up:Nat}
end
def wvS(n:Nat)(c:UInt8):Nat:=if n<1000 then n*10+(c.toNat-48) else n
def wvN(t:ByteArray)(k:Nat):Nat:=(t.data.toList.take k).foldl wvS 0
theorem Vd{t:ByteArray}{k:Nat}(h:k<t.size):wvN t (k+1)=wvS (wvN t k) (t[k]):=by
 unfold wvN;have a:k<t.data.toList.length:=by simpa using h
 rw[List.take_succ_eq_append_getElem a,List.foldl_append]
 rfl
theorem PU(t:ByteArray):wvN t t.size=jC t:=by
 unfold wvN jC;rw[List.take_of_length_le (by simp),ByteArray.toList_eq]
 rfl
section
variable{W W1 W2 W':World}{g en i:Nat}{la:Option Addr}{lc:Nat}{l ts:List aS}{vc v1 v2:Value}{bd:Int}{us:List (Nat×Bool)}
end
end
def yA(w:World)(v:Value)(s:Bool)(N D:Nat):Prop:=Fr w v s N D/\Rt w v s N D
theorem yA.sub(h:yA w v s N D)(k:nT w w'):yA w' v s N D:=⟨h.1.sub k,h.2.sub k⟩
theorem Cc(w:World):yA w (.agg #[.bool false,.slice none 0 0,.slice none 0 0]) false 0 0:=⟨⟨_,_,rfl,Cj _,Cj _⟩,mP _⟩
theorem sR{neg:Bool}(h:Fr w v neg n d)(hn:bn n=true)(hd:bn d=true):
 Calls prog 191 #[v] w λ e w'=>∃a1 n1 c1 a2 n2 c2,e= .returned (.tuple #[.agg #[.bool neg,.slice a1 n1 c1,.slice a2 n2 c2],.int .i64 0])/\yA (aB w' (ab w.heap.size)) (.agg #[.bool neg,.slice a1 n1 c1,.slice a2 n2 c2]) neg n (if d=1 then 0 else d)/\aa w w':=
 (zL h hn hd).mono λ e w' ⟨a1,n1,c1,a2,n2,c2,h1,h2,h3⟩=>⟨a1,n1,c1,a2,n2,c2,h1,⟨h2,h2.rt hn (by
   by_cases h1:d=1
   ·rw[if_pos h1];exact cU (jt 2048)
   ·rw[if_neg h1];exact hd)⟩,h3⟩
def KY(w:World)(v:Value)(i:im):Prop:=
 ∃a n c a' n' c' b m e b' m' e',v= .agg #[.bool i.s1,.slice a n c,.slice a' n' c',.bool i.s2,.slice b m e,.slice b' m' e',.bool i.li,.bool i.hi]/\
  yA w (.agg #[.bool i.s1,.slice a n c,.slice a' n' c']) i.s1 i.N1 i.D1/\yA w (.agg #[.bool i.s2,.slice b m e,.slice b' m' e']) i.s2 i.N2 i.D2
theorem KY.sub(h:KY w v i)(k:nT w w'):KY w' v i:=by
 obtain⟨a,n,c,a',d,f,b,m,e,b',m',e',h1,h2,h3⟩:=h;exact⟨a,n,c,a',d,f,b,m,e,b',m',e',h1,h2.sub k,h3.sub k⟩
theorem KY.iv(h:KY w v i):AR w v i:=by
 obtain⟨a,n,c,a',d,f,b,m,e,b',m',e',h1,h2,h3⟩:=h;exact⟨a,n,c,a',d,f,b,m,e,b',m',e',h1,h2.2,h3.2⟩
theorem KY.shape(h:KY w v i):∃a n c a' f g d m e j m' e',v= .agg #[.bool i.s1,.slice a n c,.slice a' f g,.bool i.s2,.slice d m e,.slice j m' e',.bool i.li,.bool i.hi]:=by
 obtain⟨a,n,c,a',f,g,b,m,e,b',m',e',h1,-⟩:=h;exact⟨a,n,c,a',f,g,b,m,e,b',m',e',h1⟩
def qc:World->List Value->aL->Prop:=λ W l d=>∃(s1:Bool)(a1:Option Addr)(n1 c1:Nat)(a2:Option Addr)(n2 c2:Nat)(s2:Bool)(a3:Option Addr)(n3 c3:Nat)(a4:Option Addr)(n4 c4:Nat)(p q:Bool),
 l=[.string d.name,.bool s1,.slice a1 n1 c1,.slice a2 n2 c2,.bool s2,.slice a3 n3 c3,.slice a4 n4 c4,.bool p,.bool q]/\
 KY W (.agg #[.bool s1,.slice a1 n1 c1,.slice a2 n2 c2,.bool s2,.slice a3 n3 c3,.slice a4 n4 c4,.bool p,.bool q]) d.iv
theorem jV:∀w w',nT w w'->∀l t,qc w l t->qc w' l t:=by
 rintro w w' k l t ⟨s1,a1,n1,c1,a2,n2,c2,s2,a3,n3,c3,a4,n4,c4,p,q,e,h⟩
 exact⟨s1,a1,n1,c1,a2,n2,c2,s2,a3,n3,c3,a4,n4,c4,p,q,e,h.sub k⟩
theorem OK{l:List Value}{t:aL}(h:qc w l t):Zn w l t:=by
 obtain⟨s1,a1,n1,c1,a2,n2,c2,s2,a3,n3,c3,a4,n4,c4,p,q,e,h⟩:=h;exact⟨s1,a1,n1,c1,a2,n2,c2,s2,a3,n3,c3,a4,n4,c4,p,q,e,h.iv⟩
def QZ(w:World)(a:Option Addr)(n cap:Nat)(L:List aL):Prop:=n=L.length/\n<=cap/\n<4611686018427387904/\∃cs:List Value,(∀i,i<cs.length->∃b,a=some ⟨b,0,none⟩/\w.cell? ⟨b,i,none⟩=cs[i]?)/\cl (qc w) 9 cs L
theorem QZ.mk{l:List aL}{cs:List Value}(hc:l.length<=cap)(hn:l.length<4611686018427387904)
 (d:∀i,i<cs.length->∃b,a=some ⟨b,0,none⟩/\w.cell? ⟨b,i,none⟩=cs[i]?)(c:cl (qc w) 9 cs l):QZ w a l.length cap l:=⟨rfl,hc,hn,cs,d,c⟩
theorem QZ.bx{L:List aL}(h:QZ w a n cap L):AS w a n cap L:=by
 obtain⟨rfl,h2,h3,cs,c,b⟩:=h;exact AS.mk h2 h3 c (b.mono λ _ _=>OK)
theorem QZ.sub{L:List aL}(h:QZ w a n cap L)(k:nT w w'):QZ w' a n cap L:=by
 obtain⟨h1,h2,h3,cs,d,c⟩:=h;refine⟨h1,h2,h3,cs,λ i hi=> ?_,c.mono (jV _ _ k)⟩
 obtain⟨b,e,hc⟩:=d i hi;refine⟨b,e,?_⟩
 rw[nW hi] at hc⊢;exact k _ _ hc
section
attribute [local irreducible] wpList
def Z39:Array Value:=#[.bool false,.slice none 0 0,.slice none 0 0,.bool false,.slice none 0 0,.slice none 0 0,.bool false,.bool false]
theorem LZ{p q:Bool}{x1:Option Addr}{x2 x3:Nat}{x4:Option Addr}{x5 x6:Nat}{y1:Option Addr}{y2 y3:Nat}{y4:Option Addr}{y5 y6:Nat}{li hi vd:Bool}:dY 302 #[.bool p,.slice x1 x2 x3,.slice x4 x5 x6,.bool q,.slice y1 y2 y3,.slice y4 y5 y6,.bool li,.bool hi,.bool vd]:=⟨by kernel_rfl,by simp[Value.oneCell']⟩
def ajO:Array Value:=#[.bool false,.slice none 0 0,.slice none 0 0,.bool false,.slice none 0 0,.slice none 0 0,.bool false,.bool false,.bool false]
theorem aeS(w:World):Calls prog 376 #[.int .i64 0] w λ e w'=>(∃v,e= .returned v)/\w'=w:=by
 refine ct 6 func376 rfl ntmps376 ?_;refine gx ?_;exact fR λ v=>⟨⟨v,rfl⟩,rfl⟩
theorem vI(w:World)(p:Bool)(a:Option Addr)(n c:Nat)(a':Option Addr)(b f:Nat):
 Calls prog 395 #[.agg #[.bool p,.slice a n c,.slice a' b f],.int .i64 0] w λ e w'=>e= .returned (.agg #[.bool p,.slice a n c,.slice a' b f])/\aa w w':=by
 refine dK [_,_] 8 func395 rfl ntmps395 (by simp) ?_;refine gx ?_;refine zb λ r g1 e1 j g q1=> ?_;refine za ZR 24 λ h g2 t d l s=> ?_;have m:=g.kept d;clear g;refine gx ?_;refine zc 376 _ (aeS h) ?_;rintro e w3 ⟨⟨o,rfl⟩,rfl⟩
 refine gx ?_;refine zl m.range ⟨by kernel_rfl,by first|kernel_rfl|simp[Value.oneCell']⟩ ?_;refine zt l cQ cQ λ q i k=> ?_;refine gx ?_;exact ej k cQ ⟨rfl,(j.trans d).but i (by omega)⟩
theorem L0(w:World):Calls prog 396 #[.int .i64 1] w λ e w'=>∃a n c a' b d,e= .returned (.agg #[.bool false,.slice a n c,.slice a' b d])/\Fr w' (.agg #[.bool false,.slice a n c,.slice a' b d]) false 1 1/\aa w w':=by
 refine ct 15 func396 rfl ntmps396 ?_;refine gx ?_;refine za Xj 217 λ l g1 e1 m j q1=> ?_;refine gx ?_;refine z1 (F:=convert 3 256) (xv:=.int .i64 1) (.int .u64 1) (hrun:=by go_simp;rfl) ?_;refine gx ?_;refine zc 189 _ (eQ l 1 (by decide)) ?_;rintro e k ⟨v1,rfl,h1,h⟩
 refine⟨_,rfl,?_⟩
 refine zc 189 _ (eQ k 1 (by decide)) ?_;rintro e w3 ⟨v2,rfl,h2,f⟩
 refine⟨_,rfl,?_⟩
 obtain⟨a,n,c,rfl⟩:=h1.shape;obtain⟨a',b,d,rfl⟩:=h2.shape;refine zr (.agg #[.bool false,.slice a n c,.slice a' b d]) ?_;refine zt ((j.kept h).kept f) lJ lJ λ r g o=> ?_;refine gx ?_;have q:=(m.trans h).trans f;have i:qT w3 g1:=fS.aZ (p:=false) ((j.kept h).kept f)
 exact ej o lJ ⟨a,n,c,a',b,d,rfl,⟨_,_,rfl,(h1.kept f).ai g i,h2.ai g i⟩,q.but g (by omega)⟩
theorem QT(w:World)(p q:Bool)(x1:Option Addr)(x2 x3:Nat)(x4:Option Addr)(x5 x6:Nat)(g:Option Addr)(f d:Nat)(c:Option Addr)(b a:Nat)(li hi h:Bool):
 Calls prog 286 #[.agg #[.bool p,.slice x1 x2 x3,.slice x4 x5 x6,.bool q,.slice g f d,.slice c b a,.bool li,.bool hi,.bool h]] w λ e w'=>e= .returned (.agg #[.bool p,.slice x1 x2 x3,.slice x4 x5 x6,.bool q,.slice g f d,.slice c b a,.bool li,.bool hi,.bool h])/\aa w w':=by
 refine ct 3 func286 rfl ntmps286 ?_;refine gx ?_;refine zb λ r g1 e1 l j q1=> ?_;refine za ajO 302 λ o g2 t i m s=> ?_;have n:=j.kept i;clear j;refine gx ?_;refine zl n.range ⟨by kernel_rfl,by first|kernel_rfl|simp[Value.oneCell']⟩ ?_;refine zt m LZ LZ λ w3 k b3=> ?_;refine gx ?_;exact ej b3 LZ ⟨rfl,(l.trans i).but k (by omega)⟩
theorem yA.nE(h:yA (aB w (sP N l)) v s n d)(k:af w W b)(hb:b∈l):yA (aB W (sP N l)) v s n d:=h.sub (au λ c hc hs=>⟨hs,k.old c hc λ e=>(ou.1 hs).2 (e▸hb)⟩)
theorem yA.Sr(h:yA (aB w (sP N l)) v s n d)(k:aa w W):yA (aB W (sP N l)) v s n d:=h.sub (jS k)
theorem yA.Xg(h:yA (aB w (sP N l)) v s n d):yA (aB w (ab N)) v s n d:=h.sub (iJ λ _ hs=>cU (ou.1 hs).1)
theorem yA.aeT{M:Nat}(h:yA (aB w (ab M)) v s n d)(c:N<=M)(a:∀b∈l,b<M):yA (aB w (sP N l)) v s n d:=h.sub (iJ λ b hs=>by
 have e:M<=b:=kC hs;exact ou.2 ⟨by omega,λ h1=>by have:=a b h1;omega⟩)
theorem zfk{l:Fm}{ops:Array Oper}{rest:List Oper}{Q:Exit->Act->World->Prop}{oi:Oper}(k:Nat){s f o:Nat}{x:Operand}(h:wpList prog ops Q rest (aH n (aC l d (.pointer (some ⟨b,o+k,none⟩)))) w)
 (a:oi.op= .fieldAddr s x f:=by rfl)(hx:bA n l x=some (.pointer (some ⟨b,o,none⟩)):=by rfl)(c:∀(b o:Nat)(w:World),(Instr.fieldAt s (.pointer (some ⟨b,o,none⟩)) f).run prog w= .ok (.pointer (some ⟨b,o+k,none⟩)) w:=by intro b o w;kernel_rfl)(e:oi.guard=none:=by rfl)(hd:oi.dst=some d:=by rfl):wpList prog ops Q (oi::rest) (aH n l) w:=
 zv _ (by
  unfold execOp;rw[aO]
  simp only[a,eG hx]
  show(do pure (Next.value (<-Instr.fieldAt s (.pointer (some ⟨b,o,none⟩)) f)):Sem Next).run prog w=_;rw[Sem.run_bind,c]
  rfl) e hd h
def hO(i:im):im:=if i.void=true then⟨false,1,0,false,0,0,false,false⟩ else
 ⟨!i.li&&(i.s1&&decide (0<i.N1)),if i.li=true then 0 else rN i.N1 i.D1,if i.li=true then 0 else cD i.N1 i.D1,!i.hi&&(i.s2&&decide (0<i.N2)),if i.hi=true then 0 else rN i.N2 i.D2,if i.hi=true then 0 else cD i.N2 i.D2,i.li,i.hi⟩
theorem IN(h:Sv w v i)(hf:i.fine=true):Calls prog 357 #[v] w λ e w'=>∃V,e= .returned (.agg V)/\dY 39 V/\KY (aB w' (ab w.heap.size)) (.agg V) (hO i)/\aa w w':=by
 obtain⟨x1,x2,x3,x4,x5,x6,y1,y2,y3,y4,y5,y6,rfl,hF1,U⟩:=h;obtain⟨s1,N1,D1,s2,N2,D2,li,hi⟩:=i;obtain⟨vd,oy⟩:∃vd,vd=(⟨s1,N1,D1,s2,N2,D2,li,hi⟩:im).void:=⟨_,rfl⟩
 obtain⟨f,g⟩:∃f,f=hO ⟨s1,N1,D1,s2,N2,D2,li,hi⟩:=⟨_,rfl⟩
 rw[<-oy,<-g]
 unfold hO at g;rw[<-oy] at g;unfold im.fine at hf;simp only[fv] at hf;unfold aX at hf;simp only[fv] at hf;obtain⟨⟨⟨-,f1⟩,f2⟩,⟨⟨-,f3⟩,f4⟩⟩:=hf;dsimp only at*;generalize (s1&&decide (0<N1))=R at*;generalize (s2&&decide (0<N2))=Q at*;refine ct 37 func357 rfl ntmps357 ?_;refine gx ?_;refine zb λ w1 g1 e1 k1 K q1=> ?_;refine za Z39 39 λ C g2 e2 k2 b2 q2=> ?_;have M:=k1.trans k2;have pX:=K.kept k2;have z2:=M.size;clear K;refine gx ?_;refine zfk 8 ?_;refine gx ?_;cases vd
 case true=>
  rw[if_pos rfl] at g;refine ju ?_;refine gx ?_;refine zc 396 _ (L0 C) ?_;rintro e w3 ⟨a,n,c,a',s,u,rfl,hF,G⟩
  refine⟨_,rfl,?_⟩
  have ft:bn 1=true:=by
   unfold bn;exact cU (mK _ (by decide))
  refine zc 191 _ (sR hF ft ft) ?_;rintro e P ⟨K,E,J,B,D,I,rfl,hR,F⟩
  refine⟨_,rfl,?_⟩
  have z3:=G.size;refine gx ?_;refine zc 395 _ (vI P false K E J B D I) ?_;rintro e Z ⟨rfl,p⟩
  refine⟨_,rfl,?_⟩
  refine zr (.agg #[.bool false,.slice K E J,.slice B D I,.bool false,.slice none 0 0,.slice none 0 0,.bool false,.bool false]) ?_;refine zt (((b2.kept G).kept F).kept p) kL kL λ w6 k b6=> ?_;refine gx ?_;have z4:=F.size;have z5:=p.size;refine ej b6 kL ⟨_,rfl,kL,?_,(((M.trans G).trans F).trans p).but k (by omega)⟩
  rw[g]
  exact⟨K,E,J,B,D,I,none,0,0,none,0,0,rfl,hR.sub (au λ b hb hs=>by
   have h0:w3.heap.size<=b:=kC hs;exact⟨cU (by omega),(k.old b (by omega) (by omega)).trans (p.old b hb)⟩),Cc _⟩
 rw[if_neg iZ] at g;refine fx ?_;refine gx ?_;refine zfk 6 ?_;refine gx ?_;refine zfk 7 ?_;refine gx ?_;refine zr (.agg #[.bool false,.slice none 0 0,.slice none 0 0,.bool false,.slice none 0 0,.slice none 0 0,.bool li,.bool hi]) ?_;refine za Z39 39 λ w3 g3 e3 G b3 q3=> ?_;refine zt b3 kL kL λ P F b4=> ?_;have z3:=G.size;have z4:=F.size;have L:aa C P:=G.but F (by omega)
 have S:_/\True:=⟨pX,trivial⟩
 have fq:_/\True:=⟨b2,trivial⟩
 have Du:=pX.kept L;have Zr:=b2.kept L;have G1:=hF1.kept (M.trans L)
 have G2:=U.kept (M.trans L)
 clear pX b3 b2 Zr;refine gx ?_;refine zfk 6 ?_;refine gx ?_;refine Dt (σ:=Bool×Option Addr×Nat×Nat×Option Addr×Nat×Nat) (λ _=>[(1,.pointer (some ⟨g1,0,none⟩)),(2,.pointer (some ⟨g2,0,none⟩)),(3,.pointer (some ⟨g3,0,none⟩))])
  (λ σ W'=>aa C W'/\P.heap.size<=W'.heap.size/\aD W' g3 #[.bool σ.1,.slice σ.2.1 σ.2.2.1 σ.2.2.2.1,.slice σ.2.2.2.2.1 σ.2.2.2.2.2.1 σ.2.2.2.2.2.2,.bool false,.slice none 0 0,.slice none 0 0,.bool li,.bool hi] 39/\σ.1=f.s1/\
    yA (aB W' (sP w.heap.size [g2,g3])) (.agg #[.bool σ.1,.slice σ.2.1 σ.2.2.1 σ.2.2.2.1,.slice σ.2.2.2.2.1 σ.2.2.2.2.2.1 σ.2.2.2.2.2.2]) f.s1 f.N1 f.D1)
  (λ Q' T=> ?_) (λ l' O ⟨q,a,n,c,a',s,u⟩ ⟨x,zj,X,H,hR⟩=> ?_)
 ·cases li
  ·refine gx ?_;refine zfk 0 ?_;refine zl (V:=#[.bool R,.slice x1 x2 x3,.slice x4 x5 x6]) (iB (o:=0) Du λ j v hv=>by
    match j,hv with
    |0,hv=>exact hv
    |1,hv=>exact hv
    |2,hv=>exact hv) lJ ?_
   refine zc 191 _ (sR G1 f1 f2) ?_;rintro e Z ⟨a,n,c,a',s,u,rfl,hR,p⟩
   refine gx ?_;refine zc 395 _ (vI Z R a n c a' s u) ?_;rintro e w6 ⟨rfl,k⟩
   refine gx ?_;have z5:=p.size;have z6:=k.size;refine ztp (o:=0) ((b4.kept p).kept k) cQ (λ w7 y b7=> ?_) (by simp)
   refine gx ?_;refine T _ _ (R,a,n,c,a',s,u) ⟨rfl,rfl,rfl,trivial⟩ ⟨(((L.trans p).trans k).but y (by omega)),by have:=y.size;omega,by simpa using b7,by rw[g];simp,?_⟩
   rw[g]
   show yA _ _ (!false&&R) (if false=true then 0 else rN N1 D1) (if false=true then 0 else cD N1 D1)
   rw[if_neg iZ,if_neg iZ]
   exact((hR.aeT (l:=[g2,g3]) (N:=w.heap.size) (by omega) (by simp;omega)).Sr k).nE y (by simp)
  ·refine gx ?_;refine T _ _ (false,none,0,0,none,0,0) ⟨rfl,rfl,rfl,trivial⟩ ⟨L,aU _,b4,by rw[g];rfl,?_⟩
   rw[g]
   exact Cc _
 replace x:aa C O:=x;replace zj:P.heap.size<=O.heap.size:=zj;replace X:aD O g3 #[.bool q,.slice a n c,.slice a' s u,.bool false,.slice none 0 0,.slice none 0 0,.bool li,.bool hi] 39:=X;replace H:q=f.s1:=H;replace hR:yA (aB O (sP w.heap.size [g2,g3])) (.agg #[.bool q,.slice a n c,.slice a' s u]) f.s1 f.N1 f.D1:=hR;have b1j:aD O g1 #[.bool R,.slice x1 x2 x3,.slice x4 x5 x6,.bool Q,.slice y1 y2 y3,.slice y4 y5 y6,.bool li,.bool hi,.bool false] 302:=S.1.kept x;have b2j:=fq.1.kept x;have H2:=U.kept (M.trans x)
 have lj:=X.lt;have ajP:_/\True:=fq;clear S fq Du;refine gx ?_;refine zfk 7 ?_;refine gx ?_;refine Dt (σ:=Bool×Option Addr×Nat×Nat×Option Addr×Nat×Nat) (λ _=>[(2,.pointer (some ⟨g2,0,none⟩)),(3,.pointer (some ⟨g3,0,none⟩))])
  (λ σ W'=>aa C W'/\aD W' g3 #[.bool q,.slice a n c,.slice a' s u,.bool σ.1,.slice σ.2.1 σ.2.2.1 σ.2.2.2.1,.slice σ.2.2.2.2.1 σ.2.2.2.2.2.1 σ.2.2.2.2.2.2,.bool li,.bool hi] 39/\σ.1=f.s2/\
    yA (aB W' (sP w.heap.size [g2,g3])) (.agg #[.bool q,.slice a n c,.slice a' s u]) f.s1 f.N1 f.D1/\yA (aB W' (sP w.heap.size [g2,g3])) (.agg #[.bool σ.1,.slice σ.2.1 σ.2.2.1 σ.2.2.2.1,.slice σ.2.2.2.2.1 σ.2.2.2.2.2.1 σ.2.2.2.2.2.2]) f.s2 f.N2 f.D2)
  (λ Q' T=> ?_) (λ l' Y ⟨r,e,m,d,e',m',d'⟩ ⟨kk,bk,hr,A,z⟩=> ?_)
 ·cases hi
  ·refine gx ?_;refine zfk 3 ?_;refine zl (V:=#[.bool Q,.slice y1 y2 y3,.slice y4 y5 y6]) (iB (o:=3) b1j λ j v hv=>by
    match j,hv with
    |0,hv=>exact hv
    |1,hv=>exact hv
    |2,hv=>exact hv) lJ ?_
   refine zc 191 _ (sR H2 f3 f4) ?_;rintro e Z ⟨t,E,J,W,D,I,rfl,hRn,p⟩
   refine gx ?_;refine zc 395 _ (vI Z Q t E J W D I) ?_;rintro e w6 ⟨rfl,k⟩
   refine gx ?_;have z5:=p.size;have z6:=k.size;refine ztp (o:=3) ((X.kept p).kept k) cQ (λ w7 y b7=> ?_) (by simp)
   refine gx ?_;refine T _ _ (Q,t,E,J,W,D,I) ⟨rfl,rfl,trivial⟩ ⟨(((x.trans p).trans k).but y (by omega)),by simpa using b7,by rw[g];simp,((hR.Sr p).Sr k).nE y (by simp),?_⟩
   rw[g]
   show yA _ _ (!false&&Q) (if false=true then 0 else rN N2 D2) (if false=true then 0 else cD N2 D2)
   rw[if_neg iZ,if_neg iZ]
   exact((hRn.aeT (l:=[g2,g3]) (N:=w.heap.size) (by omega) (by simp;omega)).Sr k).nE y (by simp)
  ·refine gx ?_;refine T _ _ (false,none,0,0,none,0,0) ⟨rfl,rfl,trivial⟩ ⟨x,X,by rw[g];rfl,hR,?_⟩
   rw[g]
   exact Cc _
 replace kk:aa C Y:=kk;replace bk:aD Y g3 #[.bool q,.slice a n c,.slice a' s u,.bool r,.slice e m d,.slice e' m' d',.bool li,.bool hi] 39:=bk;replace hr:r=f.s2:=hr;replace A:yA (aB Y (sP w.heap.size [g2,g3])) (.agg #[.bool q,.slice a n c,.slice a' s u]) f.s1 f.N1 f.D1:=A;replace z:yA (aB Y (sP w.heap.size [g2,g3])) (.agg #[.bool r,.slice e m d,.slice e' m' d']) f.s2 f.N2 f.D2:=z;have b2k:=ajP.1.kept kk;refine gx ?_;refine zl bk.range ⟨by kernel_rfl,by first|kernel_rfl|simp[Value.oneCell']⟩ ?_;refine zt b2k kL kL λ wl kl bl=> ?_;refine gx ?_;refine ej bl kL ⟨_,rfl,kL,?_,M.trans kk |>.but kl (by omega)⟩
 have t:f.li=li/\f.hi=hi:=by rw[g];exact⟨rfl,rfl⟩
 refine⟨a,n,c,a',s,u,e,m,d,e',m',d',by rw[H,hr,t.1,t.2],?_,?_⟩
 ·rw[<-H];exact(A.nE kl (by simp)).Xg|>λ h=>by rw[H];rw[H] at h;exact h
 ·rw[<-hr];exact(z.nE kl (by simp)).Xg|>λ h=>by rw[hr];rw[hr] at h;exact h
end
section
attribute [local irreducible] wpList wpOpsS
def fnC:Value:=.func (.func 286) #[] #[]
theorem AR.shape(h:AR w v i):∃a n c a' f g d m e j m' e',v= .agg #[.bool i.s1,.slice a n c,.slice a' f g,.bool i.s2,.slice d m e,.slice j m' e',.bool i.li,.bool i.hi]:=by
 obtain⟨a,n,c,a',f,g,b,m,e,b',m',e',h1,-⟩:=h;exact⟨a,n,c,a',f,g,b,m,e,b',m',e',h1⟩
theorem L1{b0 b1:Nat}(q:aD w b0 #[fnC] 327)(hb:aD w b1 V 39)(hv:AR w (.agg V) i)(hf:i.fine=true)(R:cL w):
 Calls prog 356 #[.pointer (some ⟨b0,0,none⟩),.pointer (some ⟨b1,0,none⟩)] w λ e w'=>∃V,e= .returned (.agg V)/\dY 39 V/\KY (aB w' (ab w.heap.size)) (.agg V) (hO i)/\aa w w':=by
 obtain⟨a,n,c,a',Y,c',d,m,e,d',m',e',P⟩:=hv.shape;obtain rfl:=Value.agg.inj P;refine dK [_,_] 8 func356 rfl ntmps356 (by simp) ?_;have l0:=q.lt;have Z:=hb.lt;refine gz ?_;refine za Z39 39 λ k g2 e1 f S q1=> ?_;have f1:=q.kept f;have c1:=hb.kept f;clear q hb;refine gz ?_;refine eJ g2 (g2+1) λ hS=> ?_;have j:aa k k.drew:=(aa.refl k).drew;refine Eh 0 (f1.cell 0 rfl) (by omega) hS ?_;refine yl 1 c1.range (by omega) kL hS ?_;refine yc 2 237 _ hS (Cd (hv.kept (f.trans j)) (R.kept (f.trans j)) hf) ?_;rintro e G ⟨v',rfl,hs,o⟩
 refine⟨o,_,rfl,λ hS=> ?_⟩
 have O:=hs;obtain⟨x1,x2,x3,x4,x5,x6,y,x,v,u,t,s,rfl,-⟩:=O;refine yc 3 286 _ hS (QT G (i.s1&&decide (0<i.N1)) (i.s2&&decide (0<i.N2)) x1 x2 x3 x4 x5 x6 y x v u t s i.li i.hi i.void) ?_;rintro e w3 ⟨rfl,g⟩
 refine⟨g,_,rfl,λ hS=> ?_⟩
 have p:Sv w3 (.agg #[.bool (i.s1&&decide (0<i.N1)),.slice x1 x2 x3,.slice x4 x5 x6,.bool (i.s2&&decide (0<i.N2)),.slice y x v,.slice u t s,.bool i.li,.bool i.hi,.bool i.void]) i:=by
  obtain⟨z1,z2,F,E,D,C,M,L,K,J,I,H,N,r1,r2⟩:=hs;exact⟨z1,z2,F,E,D,C,M,L,K,J,I,H,N,r1.kept g,r2.kept g⟩
 refine yc 4 357 _ hS (IN p hf) ?_;rintro e X ⟨U,rfl,l,Q,A⟩
 refine⟨A,_,rfl,λ hS=> ?_⟩
 have h:=((j.trans o).trans g).trans A;refine yt 5 (S.kept h) kL l (.inl ⟨aU _,Nat.lt_succ_self _⟩) hS λ W z B hS=> ?_;refine gB ?_;have r:_/\True:=⟨B,trivial⟩
 have z1:=f.size;have T:=((j.trans o).trans g).size;clear B;refine gz ?_;refine ej r.1 l ⟨U,rfl,l,Q.sub (au λ b hb hs=> ?_),(f.trans h).but z (by omega)⟩
 have h0:w3.heap.size<=b:=kC hs;exact⟨cU (by omega),z.old b hb (by omega)⟩
theorem IP(p q:Nat)(w:World):CallsD prog 394 #[.pointer (some ⟨p,0,none⟩),.pointer (some ⟨q,0,none⟩)] .returning w λ e b w'=>(∃v,e= .returned v)/\b= .returning/\aa w w':=by
 refine abk 13 func394 rfl ntmps394 λ c₀ cs a=> ?_;apply wpS_seq;apply wpS_region;refine Tl (by unfold recoverD;simp only[a]) ?_;refine Xd ?_;refine wpS_of_wp ?_;refine gz ?_;refine z2 (.bool true) ?_;refine gz ?_;refine⟨rfl,.returning,by rw[<-a],.tuple #[],by simp[results],⟨_,rfl⟩,rfl,aa.refl w⟩
def ajR(p q:Nat):List Deferred:=[⟨.fn (.func 394) #[.pointer (some ⟨p,0,none⟩),.pointer (some ⟨q,0,none⟩)],#[]⟩]
theorem Xn{l:Fm}{R:Ending->World->Prop}{p q:Nat}{c:Int}(i:aD w p V 39)(d:dY 39 V)(h:aD w q #[.int .i64 c] 32)(hx:bA n l (.tmp 2)=some (.pointer (some ⟨p,0,none⟩)))(g:bA n l (.tmp 3)=some (.pointer (some ⟨q,0,none⟩)))
 (hR:∀w',aa w w'->R (.returned (.tuple #[.agg V,.int .i64 c])) w'):bodyPostD prog f355 R .ret (dW (ajR p q) n l) w:=by
 refine leaves_cons (f:=394) (args:=#[.pointer (some ⟨p,0,none⟩),.pointer (some ⟨q,0,none⟩)]) (by simp) (by simp[go_sem]) ?_;refine(IP p q w).mono ?_;rintro e j w' ⟨⟨v,rfl⟩,rfl,a⟩
 show Leaves prog f355 (aH n l).tmps R [] .returning w';refine⟨_,?_,hR w' a⟩
 have e1:=bK hx;have b:=bK g;simp only[Array.getD_eq_getD_getElem?] at e1 b;simp[results,e1,b,asAddr,(i.kept a).loadVar d (by kernel_rfl),L2 (h.kept a) (ty:=32) (o:=0) rfl (by kernel_rfl)]
theorem L3{b0 b1:Nat}(l:aD w b0 #[fnC] 327)(hb:aD w b1 V 39)(hv:AR w (.agg V) i)(hf:i.fine=true)(q:cL w):
 Calls prog 355 #[.func (.func 356) #[] #[.pointer (some ⟨b0,0,none⟩),.pointer (some ⟨b1,0,none⟩)]] w λ e w'=>∃V,e= .returned (.tuple #[.agg V,.int .i64 0])/\dY 39 V/\KY (aB w' (ab w.heap.size)) (.agg V) (hO i)/\aa w w':=by
 have B:=l.lt;have A:=hb.lt;refine Zy 6 func355 rfl ntmps355 ?_;refine gz ?_;refine za Z39 39 λ y g2 e1 o s q1=> ?_;refine za #[.int .i64 0] 32 λ n g3 D k b3 z=> ?_;have a:=o.trans k;refine gz ?_;refine zr (.func (.func 394) #[] #[.pointer (some ⟨g2,0,none⟩),.pointer (some ⟨g3,0,none⟩)]) ?_;rw[<-BV]
 refine LO (df:=⟨.fn (.func 394) #[.pointer (some ⟨g2,0,none⟩),.pointer (some ⟨g3,0,none⟩)],#[]⟩) ?_
 (iterate 5 go_step);refine dz ?_
 refine dc 356 _ (L1 (l.kept a) (hb.kept a) (hv.kept a) hf (q.kept a)) ?_;rintro e w3 ⟨U,rfl,g,p,f⟩
 refine⟨_,rfl,?_⟩
 have z2:=a.size;have t:=f.size;refine dt ((s.kept k).kept f) kL g λ x c m=> ?_;have c4:=(b3.kept f).ai c (by omega)
 have h:_/\True:=⟨m,trivial⟩
 clear m;refine dt1 (i:=0) c4 (by simp) rfl λ v d r=> ?_
 (iterate 5 go_step)
 refine Xn (h.1.ai d (by omega)) g r rfl rfl λ u j=>⟨U,rfl,g,p.sub (au λ b hb hs=> ?_),(((a.trans f).but c (by omega)).but d (by omega)).trans j⟩
 have C:n.heap.size<=b:=kC hs;exact⟨cU (by omega),(j.old b (by have:=c.size;have:=d.size;omega)).trans ((d.old b (by have:=c.size;omega) (by omega)).trans (c.old b hb (by omega)))⟩
theorem Fy(hv:AR w (.agg V) i)(hf:i.fine=true)(G:cL w):
 Calls prog 198 #[.agg V] w λ e w'=>∃V,e= .returned (.tuple #[.agg V,.int .i64 0])/\dY 39 V/\KY (aB w' (ab w.heap.size)) (.agg V) (hO i)/\aa w w':=by
 obtain⟨a,n,c,a',E,K,d,m,e,J,m',e',F⟩:=hv.shape;obtain rfl:=Value.agg.inj F;have C:∀W,aa w W->Calls prog 285 #[.agg #[.bool i.s1,.slice a n c,.slice a' E K,.bool i.s2,.slice d m e,.slice J m' e',.bool i.li,.bool i.hi],fnC] W λ e w'=>∃V,e= .returned (.tuple #[.agg V,.int .i64 0])/\dY 39 V/\KY (aB w' (ab W.heap.size)) (.agg V) (hO i)/\aa W w':=by
  intro W v;refine dK [_,_] 10 func285 rfl ntmps285 (by simp) ?_;refine gz ?_;refine zb λ B g1 e1 p k q1=> ?_;refine za #[fnC] 327 λ o g2 I j t D=> ?_;refine za Z39 39 λ w3 g3 P g b3 O=> ?_;have l:=(p.trans j).trans g;refine gz ?_;refine zr (.func (.func 356) #[] #[.pointer (some ⟨g2,0,none⟩),.pointer (some ⟨g1,0,none⟩)]) ?_;refine zc 355 _ (L3 (t.kept g) ((k.kept j).kept g) (hv.kept (v.trans l)) hf (G.kept (v.trans l))) ?_;rintro e A ⟨U,rfl,f,q,h⟩
  refine⟨_,rfl,?_⟩
  have M:=l.size;refine gz ?_;refine zt (b3.kept h) kL f λ N x y=> ?_;have r:_/\True:=⟨y,trivial⟩
  clear y;refine gz ?_;refine fE r.1 f ⟨U,rfl,f,q.sub (au λ b hb hs=> ?_),(l.trans h).but x (by omega)⟩
  have H:w3.heap.size<=b:=kC hs;exact⟨cU (by omega),x.old b hb (by omega)⟩
 refine ct 7 func198 rfl ntmps198 ?_;refine gz ?_;refine zb λ B g1 e1 p k q1=> ?_;refine za Z39 39 λ o g2 I j t D=> ?_;have u:=p.trans j;have L:=k.kept j;clear k;refine gz ?_;refine zl L.range ⟨by kernel_rfl,by first|kernel_rfl|simp[Value.oneCell']⟩ ?_;refine zc 285 _ (C o u) ?_;rintro e w3 ⟨U,rfl,f,q,g⟩
 refine⟨_,rfl,?_⟩
 have z2:=u.size;refine gz ?_;refine zt (t.kept g) kL f λ A h z=> ?_;have s:_/\True:=⟨z,trivial⟩
 clear z;refine gz ?_;refine fE s.1 f ⟨U,rfl,f,q.sub (au λ b hb hs=> ?_),(u.trans g).but h (by omega)⟩
 have H:o.heap.size<=b:=kC hs;exact⟨cU (by omega),h.old b hb (by omega)⟩
end
end Go.Proofs.YtbapfnpbamnmpaaGreatDoor
