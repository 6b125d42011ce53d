/- A part of the proof that the text which Print makes of a parsed text is a normal form -/
import Derived.Test.YtbapfnpbamnmpaaGreatDoorP00
import Derived.Test.YtbapfnpbamnmpaaGreatDoorP21
import Derived.Test.YtbapfnpbamnmpaaGreatDoorP32
import Derived.Test.YtbapfnpbamnmpaaGreatDoorP26
import Derived.Test.YtbapfnpbamnmpaaGreatDoorP29
set_option maxHeartbeats 8000000
set_option maxRecDepth 100000
namespace Go.Proofs.YtbapfnpbamnmpaaGreatDoor
open Go Go.RowKit Go.Dig Go.Deep Go.Eng Go.Proofs.Tryz
variable{arg op:Int}{ts:List aS}{a t:aS}{b:List UInt8}{i:Nat}
section
attribute [local irreducible] wpList
section
variable{W W1 W2 W':World}{N N' g en i b b':Nat}{ta:Option Addr}{tc:Nat}{ts:List aS}{vc v1 v2 v v':Value}{X Y:Nat->Bool}{t:aj}
theorem gh.leaf{x1 x4:Option Addr}{x2 x3 x5 x6 n d:Nat}{name:ByteArray}(hr:Rt (aB W (sx N g vc X)) (.agg #[.bool false,.slice x1 x2 x3,.slice x4 x5 x6]) false n d):gh W N g vc X (.agg #[.int .i64 op,.int .i64 0,.bool false,.slice x1 x2 x3,.slice x4 x5 x6,.string name,.slice none 0 0]) (.node op 0 false n d name []):=
 ⟨1,Ex.mk (aU _) hr (by decide) (cs:=[]) (λ i hi=>absurd hi (Nat.not_lt_zero i)) (cl.nil _ _)⟩
theorem qQ{t:aS}{b:List UInt8}(h:t.kind≠3):bF t b=false:=gQ h
theorem LG(c:KV ts)(n:Nat)(ih:∀m,m<n->Oz ts 350 (λ i=>eD aN ts m i)):Oz ts 427 (λ i=>dy aN ts n i):=by
 intro W g ta tc en i vc t j u h hT hr gZ;replace hr:dy aN ts n i=some (.ok t j u):=hr;cases n with
 |zero=>rw[dy] at hr;cases hr
 |succ n=>
 rw[dy] at hr;have hg:=h.bw.lt;obtain⟨tk,E⟩:∃tk,tk=ar ts i:=⟨_,rfl⟩
 rw[<-E] at hr;have wD:tk.kind<=4:=by
  by_cases hi:i<ts.length
  ·have:=c.WD _ (mN hi);rw[<-E] at this;omega
  ·rw[E,oq hi];decide
 refine ct 98 func427 rfl ntmps427 ?_;refine gx ?_;refine za Z7 27 λ w1 g1 e1 k1 b1 q1=> ?_;have s1:=k1.size;refine gx ?_;refine zc 435 _ (qM c (h.kept k1) (k:=1) (by decide)) ?_;rintro e w2 ⟨ub,K,h2,k2,he⟩
 rw[<-E] at K he;cases ub
 case true=>
  have bC:tk.kind=1:=by simpa using K.symm
  replace h2:cK w2 g ta tc ts en (i+1) vc:=h2;rw[if_pos rfl] at he;subst he;refine⟨_,rfl,?_⟩
  have y:bM aN tk=some (.node 2 0 false 0 0 tk.text []):=by unfold bM;rw[bC];rfl
  rw[y] at hr;have ez:aj.node 2 0 false 0 0 tk.text []=t/\i+1=j:=by injection hr with e;injection e with e1 e2;exact⟨e1,e2⟩
  have s2:=k2.size;refine gx ?_;refine za QH 410 λ w3 g3 e3 k3 b3 q3=> ?_;refine zt b3 eh eh λ w4 k4 b4=> ?_;have s3:=k3.size;have P4:fL W w4 g vc vc:=(((fy k1).trans (ao k2)).kept k3).loc k4 (by omega)
  have h4:=cK.loc h P4 (h2.kept k3) k4 (by have:=h2.bw.lt;omega) (h2.fresh (by omega))
  have f:Lc w4 g1 g vc Z7 27:=(((Lc.new h b1 (by omega)).fo (ao k2)).kept k3).loc k4 (by have:=b1.lt;omega)
  clear b1;refine gx ?_;refine zr (.agg #[.int .i64 2,.int .i64 0,.bool false,.slice none 0 0,.slice none 0 0,.string tk.text,.slice none 0 0]) ?_;refine zt f.bw iK nX λ w5 k5 b5=> ?_;refine gx ?_;have P5:=P4.loc k5 (by omega)
  rw[<-ez.1,<-ez.2]
  exact ej b5 nX ⟨_,vc,rfl,gh.leaf (mP _),P5,cK.loc h P5 h4 k5 f.ng f.own⟩
 have bC:tk.kind≠1:=by simpa using K.symm
 replace h2:cK w2 g ta tc ts en i vc:=h2;rw[if_neg iZ] at he;subst he;refine⟨_,rfl,?_⟩
 have s2:=k2.size;refine gx ?_;refine za QH 410 λ w3 g3 e3 k3 b3 q3=> ?_;refine zt b3 eh eh λ w4 k4 b4=> ?_;have s3:=k3.size;have s4:=k4.size;have P4:fL W w4 g vc vc:=(((fy k1).trans (ao k2)).kept k3).loc k4 (by omega)
 have h4:=cK.loc h P4 (h2.kept k3) k4 (by have:=h2.bw.lt;omega) (h2.fresh (by omega))
 have f:Lc w4 g1 g vc Z7 27:=(((Lc.new h b1 (by omega)).fo (ao k2)).kept k3).loc k4 (by have:=b1.lt;omega)
 clear b1 b3 b4;refine gx ?_;refine zc 435 _ (qM c h4 (k:=2) (by decide)) ?_;rintro e w5 ⟨ub,K,S,k5,he⟩
 rw[<-E] at K he;have s5:=k5.size;cases ub
 case true=>
  have R:tk.kind=2:=by simpa using K.symm
  have oQ:cg aW tk.text=true:=by
   by_cases hi:i<ts.length
   ·have:=c.fn _ (mN hi);rw[<-E] at this;exact this R
   ·rw[E,oq hi] at R;cases R
  replace S:cK w5 g ta tc ts en (i+1) vc:=S;rw[if_pos rfl] at he;subst he;refine⟨_,rfl,?_⟩
  have y:bM aN tk=none:=by unfold bM bF;rw[R];rfl
  have hp:bF tk [40]=false:=qQ (by omega)
  have M:cm tk=some (1,11,((Ea tk.text+1:Nat):Int)):=by unfold cm;rw[if_pos R];rfl
  simp only[y,hp,M,Bool.false_eq_true,if_false] at hr;obtain⟨l,Y,L⟩:=bD hr;refine gx ?_;refine za QH 410 λ w6 g6 e6 k6 b6 q6=> ?_;refine zt b6 eh eh λ w7 k7 b7=> ?_;have s6:=k6.size;have s7:=k7.size;have P7:fL W w7 g vc vc:=((P4.trans (ao k5)).kept k6).loc k7 (by omega)
  have h7:=cK.loc h P7 (S.kept k6) k7 (by have:=S.bw.lt;omega) (S.fresh (by omega))
  replace f:=((f.fo (ao k5)).kept k6).loc k7 (by have:=f.bw.lt;omega)
  refine gx ?_;refine zc 261 _ (zD w7 tk.text) ?_;rintro e w8 ⟨kk,rfl,DI,k8⟩
  rw[oQ] at*;obtain rfl:=DI rfl;refine⟨_,rfl,?_⟩
  have P8:=P7.kept k8;have h8:=h7.kept k8;replace f:=f.kept k8;refine gx ?_;refine zc 436 _ (lM c n (λ m hm=>ih m (by omega)) (k:=1) (by decide) h8 (h.laid P8 hT) Y (by decide) gZ) ?_;rintro e D ⟨v,z,rfl,p,G,Z⟩
  obtain⟨a,cap,rfl,tn⟩:=Z 11 ((Ea tk.text+1:Nat):Int)
  refine⟨_,rfl,?_⟩
  have sk:=p.size;have H:=(P8).size;have A:=tn.up (N:=W.heap.size) (X:=λ b=>b==g1) H (λ b hb=>by have:=beq_iff_eq.1 hb;have:=f.bw.lt;omega)
  rw[<-L] at A;refine zc 392 _ (cN D 11 ((Ea tk.text+1:Nat):Int) a l.length cap) ?_;rintro e wn ⟨rfl,o⟩
  refine⟨_,rfl,?_⟩
  refine zt ((f.fo p).kept o).bw iK (eP ..) λ wz r B=> ?_;refine gx ?_;have w:=((P8.trans p).kept o).loc r (by omega)
  exact ej B (eP ..) ⟨_,z,rfl,((A.kept o).loc r (beq_self_eq_true g1)).down,w,cK.loc h w (G.kept o) r ((f.fo p).kept o).ng ((f.fo p).kept o).own⟩
 have R:tk.kind≠2:=by simpa using K.symm
 replace S:cK w5 g ta tc ts en i vc:=S;rw[if_neg iZ] at he;subst he;refine gx ?_;refine za QH 410 λ w6 g6 e6 k6 b6 q6=> ?_;refine zt b6 eh eh λ w7 k7 b7=> ?_;have s6:=k6.size;have s7:=k7.size;have P7:fL W w7 g vc vc:=((P4.trans (ao k5)).kept k6).loc k7 (by omega)
 have h7:=cK.loc h P7 (S.kept k6) k7 (by have:=S.bw.lt;omega) (S.fresh (by omega))
 replace f:=((f.fo (ao k5)).kept k6).loc k7 (by have:=f.bw.lt;omega)
 have kp:fL W w7 g vc vc/\cK w7 g ta tc ts en i vc/\Lc w7 g1 g vc Z7 27:=⟨P7,h7,f⟩
 have eF:W.heap.size<=g1:=by omega
 clear P7 h7 f P4 h4 b6 b7 S h2 k2 k3 k4 k5 k6 k7;obtain⟨x,hp,f⟩:=kp;refine gx ?_;refine zc 391 _ (bZ c hp ⟨#[112,105]⟩) ?_;rintro e I ⟨b,O,rfl,hx,s⟩
 refine⟨_,rfl,?_⟩
 replace O:b=bF tk [112,105]:=by rw[E];exact O
 replace O:=O.symm;have q:fL W I g vc vc:=x.trans (ao s)
 replace f:=f.fo (ao s)
 cases b
 case true=>
  replace hx:cK I g ta tc ts en (i+1) vc:=hx;have dF:tk.kind=3:=Classical.byContradiction λ h3=>by rw[qQ h3] at O;cases O
  have y:bM aN tk=some (bY 3 0 []):=by unfold bM;rw[if_neg (by omega),if_neg bC,O];rfl
  rw[y] at hr;have ez:bY 3 0 []=t/\i+1=j:=by injection hr with e;injection e with e1 e2;exact⟨e1,e2⟩
  refine gx ?_;refine zc 392 _ (cN I 3 0 none 0 0) ?_;rintro e wn ⟨rfl,o⟩
  refine⟨_,rfl,?_⟩
  refine zt (f.kept o).bw iK (eP ..) λ wz r B=> ?_;refine gx ?_;have w:=(q.kept o).loc r eF;rw[<-ez.1,<-ez.2]
  exact ej B (eP ..) ⟨_,vc,rfl,gh.nil ..,w,cK.loc h w (hx.kept o) r f.ng f.own⟩
 replace hx:cK I g ta tc ts en i vc:=hx;have kp:fL W I g vc vc/\cK I g ta tc ts en i vc/\Lc I g1 g vc Z7 27:=⟨q,hx,f⟩
 clear q hx f x hp s;obtain⟨x,hp,f⟩:=kp;refine gx ?_;refine zc 391 _ (bZ c hp ⟨#[40]⟩) ?_;rintro e QP ⟨b,P,rfl,hx,s⟩
 refine⟨_,rfl,?_⟩
 replace P:b=bF tk [40]:=by rw[E];exact P
 replace P:=P.symm;have q:fL W QP g vc vc:=x.trans (ao s)
 replace f:=f.fo (ao s)
 cases b
 case true=>
  replace hx:cK QP g ta tc ts en (i+1) vc:=hx;have dF:tk.kind=3:=Classical.byContradiction λ h3=>by rw[qQ h3] at P;cases P
  have y:bM aN tk=none:=by unfold bM;rw[if_neg (by omega),if_neg bC,O];rfl
  simp only[y,P,if_true] at hr;obtain⟨t',j1,u1,u2,h1,h2,rfl⟩:=aA hr;obtain⟨x0,h3,L⟩:=bD h2;obtain⟨h3',rfl,rfl⟩:=bG h3;refine gx ?_;refine zc 350 _ (ih n (by omega) _ _ _ _ _ _ _ _ _ _ hx (h.laid q hT) h1 gZ.left) ?_;rintro e D ⟨v,z,rfl,tn,p,G⟩
  refine⟨_,rfl,?_⟩
  obtain⟨C,rfl,oC⟩:=tn.agg;have sk:=p.size;have H:=q.size;have A:=tn.up (N:=W.heap.size) (X:=λ b=>b==g1) H (λ b hb=>by have:=beq_iff_eq.1 hb;have:=f.bw.lt;omega)
  rw[<-L] at A;replace f:=f.fo p;have Wb:=f.bw.lt;have J:gh D W.heap.size g z (jI g1 D.heap.size) (.agg C) t:=by
   obtain⟨F,h1⟩:=A;exact⟨F,h1.sub (au λ b hb hs=>by
    obtain⟨h2,h3,h4⟩:=jx hs;exact⟨ot h2 h3 (kH (by simpa using h4) (by omega)),rfl⟩)⟩
  refine za Z7 27 λ wa ga ea U ba qa=> ?_;rw[<-ea] at J;have la:Lc wa ga g z Z7 27:=Lc.new G ba (by omega)
  refine zt ba iK oC λ wb kb bb=> ?_;have sa:=U.size;have sb:=kb.size;have PB:=((q.trans p).kept U).loc kb (by omega)
  have hB:=cK.loc h PB (G.kept U) kb la.ng la.own;replace la:=la.now bb;replace f:=(f.kept U).loc kb (by omega)
  have tb:=(J.kept U).loc kb (qP ..)
  clear ba bb J;refine gx ?_;refine zc 437 _ (jH c hB ⟨#[41]⟩ h3') ?_;rintro e wc ⟨⟨xv,rfl⟩,hc,kc⟩
  refine⟨_,rfl,?_⟩
  have pc:=ao (vc:=z) kc;refine gx ?_;refine zl (la.fo pc).bw.range oC ?_;refine zt (f.fo pc).bw iK oC λ wz r B=> ?_;refine gx ?_;have w:=(PB.trans pc).loc r eF;exact ej B oC ⟨_,z,rfl,((tb.fo pc).loc r (vF ..)).down,w,cK.loc h w hc r (f.fo pc).ng (f.fo pc).own⟩
 replace hx:cK QP g ta tc ts en i vc:=hx;have kp:fL W QP g vc vc/\cK QP g ta tc ts en i vc/\Lc QP g1 g vc Z7 27:=⟨q,hx,f⟩
 clear q hx f x hp s;obtain⟨x,hp,f⟩:=kp;refine gx ?_;refine zc 391 _ (bZ c hp ⟨#[97,98,115]⟩) ?_;rintro e QQ ⟨b,T,rfl,hx,s⟩
 refine⟨_,rfl,?_⟩
 replace T:b=bF tk [97,98,115]:=by rw[E];exact T
 replace T:=T.symm;have q:fL W QQ g vc vc:=x.trans (ao s)
 replace f:=f.fo (ao s)
 cases b
 case true=>
  replace hx:cK QQ g ta tc ts en (i+1) vc:=hx;have dF:tk.kind=3:=Classical.byContradiction λ h3=>by rw[qQ h3] at T;cases T
  have y:bM aN tk=none:=by unfold bM;rw[if_neg (by omega),if_neg bC,O];rfl
  have M:cm tk=some (1,12,0):=by unfold cm;rw[if_neg R];simp only[T,if_true]
  simp only[y,P,M,Bool.false_eq_true,if_false] at hr;obtain⟨l,Y,L⟩:=bD hr;refine gx ?_;refine zc 436 _ (lM c n (λ m hm=>ih m (by omega)) (k:=1) (by decide) hx (h.laid q hT) Y (by decide) gZ) ?_;rintro e D ⟨v,z,rfl,p,G,Z⟩
  obtain⟨a,cap,rfl,tn⟩:=Z 12 0;refine⟨_,rfl,?_⟩
  have sk:=p.size;have H:=(q).size;have A:=tn.up (N:=W.heap.size) (X:=λ b=>b==g1) H (λ b hb=>by have:=beq_iff_eq.1 hb;have:=f.bw.lt;omega)
  rw[<-L] at A;refine zc 392 _ (cN D 12 0 a l.length cap) ?_;rintro e wn ⟨rfl,o⟩
  refine⟨_,rfl,?_⟩
  refine zt ((f.fo p).kept o).bw iK (eP ..) λ wz r B=> ?_;refine gx ?_;have w:=((q.trans p).kept o).loc r (by omega)
  exact ej B (eP ..) ⟨_,z,rfl,((A.kept o).loc r (beq_self_eq_true g1)).down,w,cK.loc h w (G.kept o) r ((f.fo p).kept o).ng ((f.fo p).kept o).own⟩
 replace hx:cK QQ g ta tc ts en i vc:=hx;have kp:fL W QQ g vc vc/\cK QQ g ta tc ts en i vc/\Lc QQ g1 g vc Z7 27:=⟨q,hx,f⟩
 clear q hx f x hp s;obtain⟨x,hp,f⟩:=kp;refine gx ?_;refine zc 391 _ (bZ c hp ⟨#[115,113,114,116]⟩) ?_;rintro e Ee ⟨b,V,rfl,hx,s⟩
 refine⟨_,rfl,?_⟩
 replace V:b=bF tk [115,113,114,116]:=by rw[E];exact V
 replace V:=V.symm;have q:fL W Ee g vc vc:=x.trans (ao s)
 replace f:=f.fo (ao s)
 cases b
 case true=>
  replace hx:cK Ee g ta tc ts en (i+1) vc:=hx;have dF:tk.kind=3:=Classical.byContradiction λ h3=>by rw[qQ h3] at V;cases V
  have y:bM aN tk=none:=by unfold bM;rw[if_neg (by omega),if_neg bC,O];rfl
  have M:cm tk=some (1,10,2):=by unfold cm;rw[if_neg R];simp only[T,V,Bool.false_eq_true,if_false,if_true]
  simp only[y,P,M,Bool.false_eq_true,if_false] at hr;obtain⟨l,Y,L⟩:=bD hr;refine gx ?_;refine zc 436 _ (lM c n (λ m hm=>ih m (by omega)) (k:=1) (by decide) hx (h.laid q hT) Y (by decide) gZ) ?_;rintro e D ⟨v,z,rfl,p,G,Z⟩
  obtain⟨a,cap,rfl,tn⟩:=Z 10 2;refine⟨_,rfl,?_⟩
  have sk:=p.size;have H:=(q).size;have A:=tn.up (N:=W.heap.size) (X:=λ b=>b==g1) H (λ b hb=>by have:=beq_iff_eq.1 hb;have:=f.bw.lt;omega)
  rw[<-L] at A;refine zc 392 _ (cN D 10 2 a l.length cap) ?_;rintro e wn ⟨rfl,o⟩
  refine⟨_,rfl,?_⟩
  refine zt ((f.fo p).kept o).bw iK (eP ..) λ wz r B=> ?_;refine gx ?_;have w:=((q.trans p).kept o).loc r (by omega)
  exact ej B (eP ..) ⟨_,z,rfl,((A.kept o).loc r (beq_self_eq_true g1)).down,w,cK.loc h w (G.kept o) r ((f.fo p).kept o).ng ((f.fo p).kept o).own⟩
 replace hx:cK Ee g ta tc ts en i vc:=hx;have kp:fL W Ee g vc vc/\cK Ee g ta tc ts en i vc/\Lc Ee g1 g vc Z7 27:=⟨q,hx,f⟩
 clear q hx f x hp s;obtain⟨x,hp,f⟩:=kp;refine gx ?_;refine zc 391 _ (bZ c hp ⟨#[109,105,110]⟩) ?_;rintro e QR ⟨b,vG,rfl,hx,s⟩
 refine⟨_,rfl,?_⟩
 replace vG:b=bF tk [109,105,110]:=by rw[E];exact vG
 replace vG:=vG.symm;have q:fL W QR g vc vc:=x.trans (ao s)
 replace f:=f.fo (ao s)
 cases b
 case true=>
  replace hx:cK QR g ta tc ts en (i+1) vc:=hx;have dF:tk.kind=3:=Classical.byContradiction λ h3=>by rw[qQ h3] at vG;cases vG
  have y:bM aN tk=none:=by unfold bM;rw[if_neg (by omega),if_neg bC,O];rfl
  have M:cm tk=some (2,13,0):=by unfold cm;rw[if_neg R];simp only[T,V,vG,Bool.false_eq_true,if_false,if_true]
  simp only[y,P,M,Bool.false_eq_true,if_false] at hr;obtain⟨l,Y,L⟩:=bD hr;refine gx ?_;refine zc 436 _ (lM c n (λ m hm=>ih m (by omega)) (k:=2) (by decide) hx (h.laid q hT) Y (by decide) gZ) ?_;rintro e D ⟨v,z,rfl,p,G,Z⟩
  obtain⟨a,cap,rfl,tn⟩:=Z 13 0;refine⟨_,rfl,?_⟩
  have sk:=p.size;have H:=(q).size;have A:=tn.up (N:=W.heap.size) (X:=λ b=>b==g1) H (λ b hb=>by have:=beq_iff_eq.1 hb;have:=f.bw.lt;omega)
  rw[<-L] at A;refine zc 392 _ (cN D 13 0 a l.length cap) ?_;rintro e wn ⟨rfl,o⟩
  refine⟨_,rfl,?_⟩
  refine zt ((f.fo p).kept o).bw iK (eP ..) λ wz r B=> ?_;refine gx ?_;have w:=((q.trans p).kept o).loc r (by omega)
  exact ej B (eP ..) ⟨_,z,rfl,((A.kept o).loc r (beq_self_eq_true g1)).down,w,cK.loc h w (G.kept o) r ((f.fo p).kept o).ng ((f.fo p).kept o).own⟩
 replace hx:cK QR g ta tc ts en i vc:=hx;have kp:fL W QR g vc vc/\cK QR g ta tc ts en i vc/\Lc QR g1 g vc Z7 27:=⟨q,hx,f⟩
 clear q hx f x hp s;obtain⟨x,hp,f⟩:=kp;refine gx ?_;refine zc 391 _ (bZ c hp ⟨#[109,97,120]⟩) ?_;rintro e QS ⟨b,yy,rfl,hx,s⟩
 refine⟨_,rfl,?_⟩
 replace yy:b=bF tk [109,97,120]:=by rw[E];exact yy
 replace yy:=yy.symm;have q:fL W QS g vc vc:=x.trans (ao s)
 replace f:=f.fo (ao s)
 cases b
 case true=>
  replace hx:cK QS g ta tc ts en (i+1) vc:=hx;have dF:tk.kind=3:=Classical.byContradiction λ h3=>by rw[qQ h3] at yy;cases yy
  have y:bM aN tk=none:=by unfold bM;rw[if_neg (by omega),if_neg bC,O];rfl
  have M:cm tk=some (2,14,0):=by unfold cm;rw[if_neg R];simp only[T,V,vG,yy,Bool.false_eq_true,if_false,if_true]
  simp only[y,P,M,Bool.false_eq_true,if_false] at hr;obtain⟨l,Y,L⟩:=bD hr;refine gx ?_;refine zc 436 _ (lM c n (λ m hm=>ih m (by omega)) (k:=2) (by decide) hx (h.laid q hT) Y (by decide) gZ) ?_;rintro e D ⟨v,z,rfl,p,G,Z⟩
  obtain⟨a,cap,rfl,tn⟩:=Z 14 0;refine⟨_,rfl,?_⟩
  have sk:=p.size;have H:=(q).size;have A:=tn.up (N:=W.heap.size) (X:=λ b=>b==g1) H (λ b hb=>by have:=beq_iff_eq.1 hb;have:=f.bw.lt;omega)
  rw[<-L] at A;refine zc 392 _ (cN D 14 0 a l.length cap) ?_;rintro e wn ⟨rfl,o⟩
  refine⟨_,rfl,?_⟩
  refine zt ((f.fo p).kept o).bw iK (eP ..) λ wz r B=> ?_;refine gx ?_;have w:=((q.trans p).kept o).loc r (by omega)
  exact ej B (eP ..) ⟨_,z,rfl,((A.kept o).loc r (beq_self_eq_true g1)).down,w,cK.loc h w (G.kept o) r ((f.fo p).kept o).ng ((f.fo p).kept o).own⟩
 replace hx:cK QS g ta tc ts en i vc:=hx;have kp:fL W QS g vc vc/\cK QS g ta tc ts en i vc/\Lc QS g1 g vc Z7 27:=⟨q,hx,f⟩
 clear q hx f x hp s;obtain⟨x,hp,f⟩:=kp;refine gx ?_;refine zc 391 _ (bZ c hp ⟨#[105,102]⟩) ?_;rintro e Q ⟨b,Tk,rfl,hx,s⟩
 refine⟨_,rfl,?_⟩
 replace Tk:b=bF tk [105,102]:=by rw[E];exact Tk
 replace Tk:=Tk.symm;have q:fL W Q g vc vc:=x.trans (ao s)
 replace f:=f.fo (ao s)
 cases b
 case true=>
  replace hx:cK Q g ta tc ts en (i+1) vc:=hx;have dF:tk.kind=3:=Classical.byContradiction λ h3=>by rw[qQ h3] at Tk;cases Tk
  have y:bM aN tk=none:=by unfold bM;rw[if_neg (by omega),if_neg bC,O];rfl
  have M:cm tk=some (3,15,0):=by unfold cm;rw[if_neg R];simp only[T,V,vG,yy,Tk,Bool.false_eq_true,if_false,if_true]
  simp only[y,P,M,Bool.false_eq_true,if_false] at hr;obtain⟨l,Y,L⟩:=bD hr;refine gx ?_;refine zc 436 _ (lM c n (λ m hm=>ih m (by omega)) (k:=3) (by decide) hx (h.laid q hT) Y (by decide) gZ) ?_;rintro e D ⟨v,z,rfl,p,G,Z⟩
  obtain⟨a,cap,rfl,tn⟩:=Z 15 0;refine⟨_,rfl,?_⟩
  have sk:=p.size;have H:=(q).size;have A:=tn.up (N:=W.heap.size) (X:=λ b=>b==g1) H (λ b hb=>by have:=beq_iff_eq.1 hb;have:=f.bw.lt;omega)
  rw[<-L] at A;refine zc 392 _ (cN D 15 0 a l.length cap) ?_;rintro e wn ⟨rfl,o⟩
  refine⟨_,rfl,?_⟩
  refine zt ((f.fo p).kept o).bw iK (eP ..) λ wz r B=> ?_;refine gx ?_;have w:=((q.trans p).kept o).loc r (by omega)
  exact ej B (eP ..) ⟨_,z,rfl,((A.kept o).loc r (beq_self_eq_true g1)).down,w,cK.loc h w (G.kept o) r ((f.fo p).kept o).ng ((f.fo p).kept o).own⟩
 replace hx:cK Q g ta tc ts en i vc:=hx;have kp:fL W Q g vc vc/\cK Q g ta tc ts en i vc/\Lc Q g1 g vc Z7 27:=⟨q,hx,f⟩
 clear q hx f x hp s;obtain⟨x,hp,f⟩:=kp;refine gx ?_;refine zc 391 _ (bZ c hp ⟨#[114,111,111,116]⟩) ?_;rintro e BT ⟨b,uS,rfl,hx,s⟩
 refine⟨_,rfl,?_⟩
 replace uS:b=bF tk [114,111,111,116]:=by rw[E];exact uS
 replace uS:=uS.symm;have q:fL W BT g vc vc:=x.trans (ao s)
 replace f:=f.fo (ao s)
 cases b
 case true=>
  replace hx:cK BT g ta tc ts en (i+1) vc:=hx;have dF:tk.kind=3:=Classical.byContradiction λ h3=>by rw[qQ h3] at uS;cases uS
  have y:bM aN tk=none:=by unfold bM;rw[if_neg (by omega),if_neg bC,O];rfl
  have M:cm tk=none:=by unfold cm;rw[if_neg R];simp only[T,V,vG,yy,Tk,Bool.false_eq_true,if_false]
  simp only[y,P,M,uS,Bool.false_eq_true,if_false,if_true] at hr;obtain⟨x0,j1,u1,u2,h1,h2,rfl⟩:=aA hr;obtain⟨QN,rfl,rfl⟩:=bG h1;obtain⟨m,j2,u3,u4,h3,h4,rfl⟩:=aA h2;obtain⟨hw,rfl,rfl,hm⟩:=mA h3;obtain⟨x1,j3,u5,u6,S,h6,rfl⟩:=aA h4;obtain⟨h5',rfl,rfl⟩:=bG S;obtain⟨t',j4,u7,u8,h7,h8,rfl⟩:=aA h6;obtain⟨x2,h9,L⟩:=bD h8;obtain⟨h9',rfl,rfl⟩:=bG h9;have oQ:xR 2 8 (ar ts (i+1+1))=true:=gZ.right.left _ (List.mem_singleton.2 rfl)
  have hle:cw (ar ts (i+1+1)).text<=8:=by
   unfold xR at oQ;simp only[fv,oh] at oQ;exact oQ.2
  rw[yx (by omega)] at hm;refine gx ?_;refine zc 437 _ (jH c hx ⟨#[40]⟩ QN) ?_;rintro e wa ⟨⟨xv,rfl⟩,ha,U⟩
  refine⟨_,rfl,?_⟩
  have Pa:=q.trans (ao U)
  replace f:=f.fo (ao U)
  refine gx ?_;refine zc 428 _ (wP c ha hw oQ (by decide)) ?_;rintro e wb ⟨rfl,vb,hb,pb⟩
  refine⟨_,rfl,?_⟩
  rw[<-hm]
  have Pb:=Pa.trans pb;replace f:=f.fo pb;refine gx ?_;refine zc 437 _ (jH c hb ⟨#[44]⟩ h5') ?_;rintro e wc ⟨⟨xv2,rfl⟩,hc,kc⟩
  refine⟨_,rfl,?_⟩
  have Pc:=Pb.trans (ao kc)
  replace f:=f.fo (ao kc)
  refine gx ?_;refine zc 350 _ (ih n (by omega) _ _ _ _ _ _ _ _ _ _ hc (h.laid Pc hT) h7 gZ.right.right.right.left) ?_;rintro e D ⟨v,z,rfl,tn,p,G⟩
  refine⟨_,rfl,?_⟩
  obtain⟨C,rfl,oC⟩:=tn.agg;have sk:=p.size;have H:=Pc.size;have A:=tn.up (N:=W.heap.size) (X:=λ b=>b==g1) H (λ b hb=>by have:=beq_iff_eq.1 hb;have:=f.bw.lt;omega)
  replace f:=f.fo p;have Wb:=f.bw.lt;have J:gh D W.heap.size g z (jI g1 D.heap.size) (.agg C) t':=by
   obtain⟨F,h1⟩:=A;exact⟨F,h1.sub (au λ b hb hs=>by
    obtain⟨h2,h3,h4⟩:=jx hs;exact⟨ot h2 h3 (kH (by simpa using h4) (by omega)),rfl⟩)⟩
  refine za Z7 27 λ wd gd ed kd bd qd=> ?_;rw[<-ed] at J;have ld:Lc wd gd g z Z7 27:=Lc.new G bd (by omega)
  refine zt bd iK oC λ we ke be=> ?_;have sd:=kd.size;have se:=ke.size;have PB:=((Pc.trans p).kept kd).loc ke (by omega)
  have hB:=cK.loc h PB (G.kept kd) ke ld.ng ld.own;replace ld:=ld.now be;replace f:=(f.kept kd).loc ke (by omega)
  have tb:=(J.kept kd).loc ke (qP ..)
  clear bd be J;refine gx ?_;refine zc 437 _ (jH c hB ⟨#[41]⟩ h9') ?_;rintro e wf ⟨⟨xv3,rfl⟩,hf,kf⟩
  refine⟨_,rfl,?_⟩
  have pf:=ao (vc:=z) kf;replace f:=f.fo pf;replace ld:=ld.fo pf;have tf:=tb.fo pf;have Wb:=f.bw.lt;have ID:=ld.bw.lt;refine gx ?_;refine zl ld.bw.range oC ?_;refine z25 oC λ wg gg eg kg bg qg=> ?_;have sg:=kg.size;refine zc 392 _ (cN wg 10 (m:Int) (some ⟨gg,0,none⟩) 1 1) ?_;rintro e wn ⟨rfl,o⟩
  refine⟨_,rfl,?_⟩
  have sn:=o.size;have hn:=(hf.kept kg).kept o;have tq:gh wn W.heap.size g z (jI g1 gd) (.agg (N7 10 (m:Int) (some ⟨gg,0,none⟩) 1 1)) (bY 10 (m:Int) [t']):=
   gh.aa0 ((tf.kept kg).kept o) (bg.kept o) (by have:=PB.size;have:=pf.size;omega) (gC (by have:=hf.bw.lt;omega) (hf.fresh (by omega))) (kH (by omega) (by omega))
  rw[<-L] at tq;refine zt ((f.kept kg).kept o).bw iK (eP ..) λ wz r B=> ?_;refine gx ?_;have w:=(((PB.trans pf).kept kg).kept o).loc r eF;exact ej B (eP ..) ⟨_,z,rfl,(tq.loc r (vF ..)).down,w,cK.loc h w hn r ((f.kept kg).kept o).ng ((f.kept kg).kept o).own⟩
 replace hx:cK BT g ta tc ts en i vc:=hx;have kp:fL W BT g vc vc/\cK BT g ta tc ts en i vc/\Lc BT g1 g vc Z7 27:=⟨q,hx,f⟩
 clear q hx f x hp s;obtain⟨x,hp,f⟩:=kp;have eZ:tk.kind=0:=Classical.byContradiction λ h0=>by
  have y:bM aN tk=none:=by unfold bM;rw[if_neg h0,if_neg bC,O];rfl
  have M:cm tk=none:=by unfold cm;rw[if_neg R];simp only[T,V,vG,yy,Tk,Bool.false_eq_true,if_false]
  simp only[y,P,M,uS,Bool.false_eq_true,if_false] at hr;cases hr
 have y:bM aN tk=some (.node 1 0 false (aN tk.text).n (aN tk.text).d ⟨#[]⟩ []):=by unfold bM;rw[if_pos eZ]
 rw[y] at hr;have ez:aj.node 1 0 false (aN tk.text).n (aN tk.text).d ⟨#[]⟩ []=t/\i+1=j:=by injection hr with e;injection e with e1 e2;exact⟨e1,e2⟩
 refine gx ?_;refine zc 438 _ (LA c hp (by rw[<-E];exact eZ) (h.laid x hT)) ?_;rintro e wa ⟨⟨a1,n1,c1,a2,n2,c2,rfl,hR⟩,ha,U⟩
 refine⟨_,rfl,?_⟩
 rw[<-E] at hR;have sa:=U.size;have za0:=x.size;have Wb:=f.bw.lt;refine zr (.agg #[.int .i64 1,.int .i64 0,.bool false,.slice a1 n1 c1,.slice a2 n2 c2,.string ⟨#[]⟩,.slice none 0 0]) ?_;replace f:=f.fo (ao U)
 refine zt f.bw iK nX λ wz r B=> ?_;refine gx ?_;have w:=(x.trans (ao U)).loc r eF;rw[<-ez.1,<-ez.2]
 refine ej B nX ⟨_,vc,rfl,gh.leaf (hR.sub (au λ b hb hs=> ?_)),w,cK.loc h w ha r f.ng f.own⟩
 have hs4:BT.heap.size<=b:=kC hs;exact⟨ot (by omega) (gC (by have:=hp.bw.lt;omega) (hp.fresh hs4)) rfl,r.old b hb (by omega)⟩
end
structure RqC(l:List aS):Prop where
 len:l.length<=5000
 WD:∀t∈l,t.kind<=3
 num:∀t∈l,t.kind=0->vv t.text
 at':∀t∈l,t.at'<=1000000
 fn:∀t∈l,t.kind=2->cg aW t.text=true
def amf(en:Nat):aS:=⟨4,⟨#[]⟩,en⟩
section
variable{W W1 W2 W':World}{g en i:Nat}{la:Option Addr}{lc:Nat}{l ts:List aS}{vc v1 v2:Value}{bd:Int}{us:List (Nat×Bool)}
end
end
theorem Xc(c:KV ts)(n:Nat):
 Oz ts 350 (λ i=>eD aN ts n i)/\Oz ts 390 (λ i=>ee aN ts n i)/\Oz ts 418 (λ i=>gm aN ts n i)/\Oz ts 427 (λ i=>dy aN ts n i):=by
 induction n using Nat.strongRecOn with
 |ind n ih=>exact⟨LB c n λ m hm=>(ih m hm).2.1,LC c n λ m hm=>(ih m hm).2.2.1,QM c n (λ m hm=>(ih m hm).2.2.1) λ m hm=>(ih m hm).2.2.2,LG c n λ m hm=>(ih m hm).1⟩
def Fa:List (List UInt8):=[[60],[62],[91],[93],[60,61],[62,61]]
def Si(t:aS):Prop:=t.kind<=3/\(t.kind=3->t.text.toList∉Fa)
theorem Bk(h:bF t b=true)(hb:b∉Fa):Si t:=by
 unfold bF at h;simp only[fv,beq_iff_eq] at h;exact⟨by omega,λ _=>by rw[h.2];exact hb⟩
theorem NX(h:t.kind<3):Si t:=⟨by omega,λ h3=>by omega⟩
structure Gd(ts:List aS)(i j:Nat)(u:List (Nat×Bool)):Prop where
 le:i<=j
 tok:∀k,i<=k->k<j->Si (ar ts k)
 use:∀p∈u,i<=p.1/\p.1<j/\dZ (ar ts p.1)=true
 Wx:(u.map (·.1)).Pairwise (· <·)
section
variable{ts:List aS}{i j k:Nat}{u v:List (Nat×Bool)}{num:ByteArray->gV}
theorem Gd.nil(i:Nat):Gd ts i i []:=⟨aU _,λ k h1 h2=>by omega,λ p h=>absurd h nU,List.Pairwise.nil⟩
theorem Gd.one(h:Si (ar ts i)):Gd ts i (i+1) []:=⟨Nat.le_succ _,λ k h1 h2=>by obtain rfl:k=i:=by omega
                                                                              exact h,λ p h=>absurd h nU,List.Pairwise.nil⟩
theorem Gd.dig{r:Bool}(h:dZ (ar ts i)=true):Gd ts i (i+1) [(i,r)]:=⟨Nat.le_succ _,λ k h1 h2=>by
 obtain rfl:k=i:=by omega
 unfold dZ at h;simp only[fv,beq_iff_eq] at h;exact NX (by omega),λ p hp=>by
  obtain rfl:=List.mem_singleton.1 hp;exact⟨aU _,Nat.lt_succ_self _,h⟩,List.pairwise_singleton _ _⟩
theorem Gd.cat(h:Gd ts i j u)(g:Gd ts j k v):Gd ts i k (u++v):=by
 have h1:=h.le;have h2:=g.le;refine⟨by omega,λ m a b=> ?_,λ p hp=> ?_,?_⟩
 ·by_cases hm:m<j
  ·exact h.tok m a hm
  ·exact g.tok m (by omega) b
 ·rcases List.mem_append.1 hp with hp|hp
  ·obtain⟨a,b,c⟩:=h.use p hp;exact⟨a,by omega,c⟩
  ·obtain⟨a,b,c⟩:=g.use p hp;exact⟨by omega,b,c⟩
 ·rw[List.map_append,List.pairwise_append]
  refine⟨h.Wx,g.Wx,λ a ha b hb=> ?_⟩
  obtain⟨p,hp,rfl⟩:=List.mem_map.1 ha;obtain⟨q,d,rfl⟩:=List.mem_map.1 hb;have:=(h.use p hp).2.1;have:=(g.use q d).1;omega
theorem Gd.mz(h:bF (ar ts i) b=true)(hb:b∉Fa):Gd ts i (i+1) []:=Gd.one (Bk h hb)
theorem NY{x:Nat×Int×Int}(h:cm t=some x):Si t:=by
 unfold cm at h;split at h
 ·exact NX (by omega)
 split at h
 ·exact Bk (by assumption) (by decide)
 split at h
 ·exact Bk (by assumption) (by decide)
 split at h
 ·exact Bk (by assumption) (by decide)
 split at h
 ·exact Bk (by assumption) (by decide)
 split at h
 ·exact Bk (by assumption) (by decide)
 ·cases h
theorem Wy{x:aj}(h:bM num t=some x):Si t:=by
 unfold bM at h;split at h
 ·exact NX (by omega)
 split at h
 ·exact NX (by omega)
 split at h
 ·exact Bk (by assumption) (by decide)
 ·cases h
theorem vu(num:ByteArray->gV)(ts:List aS):∀n,
 (∀i t j u,eD num ts n i=some (.ok t j u)->i<j/\Gd ts i j u)/\
 (∀x i t j u,kh num ts n x i=some (.ok t j u)->Gd ts i j u)/\
 (∀i t j u,ee num ts n i=some (.ok t j u)->i<j/\Gd ts i j u)/\
 (∀x i t j u,eY num ts n x i=some (.ok t j u)->Gd ts i j u)/\
 (∀i t j u,gm num ts n i=some (.ok t j u)->i<j/\Gd ts i j u)/\
 (∀i t j u,dy num ts n i=some (.ok t j u)->i<j/\Gd ts i j u)/\
 (∀k i t j u,gK num ts n k i=some (.ok t j u)->i<j/\Gd ts i j u)/\
 (∀k i t j u,dM num ts n k i=some (.ok t j u)->Gd ts i j u):=by
 intro n;induction n with
 |zero=>
  refine⟨?_,?_,?_,?_,?_,?_,?_,?_⟩
  ·intro i t j u h;rw[eD] at h;cases h
  ·intro x i t j u h;rw[kh] at h;cases h
  ·intro i t j u h;rw[ee] at h;cases h
  ·intro x i t j u h;rw[eY] at h;cases h
  ·intro i t j u h;rw[gm] at h;cases h
  ·intro i t j u h;rw[dy] at h;cases h
  ·intro k i t j u h;rw[gK] at h;cases h
  ·intro k i t j u h;rw[dM] at h;cases h
 |succ n ih=>
  obtain⟨iS,s,r,q,p,I,H,F⟩:=ih;refine⟨?_,?_,?_,?_,?_,?_,?_,?_⟩
  ·intro i t j u h;rw[eD] at h;obtain⟨x,m,d,e,h1,h2,rfl⟩:=aA h;obtain⟨a,b⟩:=r _ _ _ _ h1;have c:=s _ _ _ _ _ h2;exact⟨jf a c.le,b.cat c⟩
  ·intro x i t j u h;rw[kh] at h;split at h
   ·rename_i hs;obtain⟨y,m,d,e,h1,h2,rfl⟩:=aA h;exact(Gd.mz hs (by decide)).cat ((r _ _ _ _ h1).2.cat (s _ _ _ _ _ h2))
   split at h
   ·rename_i hs;obtain⟨y,m,d,e,h1,h2,rfl⟩:=aA h;exact(Gd.mz hs (by decide)).cat ((r _ _ _ _ h1).2.cat (s _ _ _ _ _ h2))
   ·cases h;exact Gd.nil _
  ·intro i t j u h;rw[ee] at h;obtain⟨x,m,d,e,h1,h2,rfl⟩:=aA h;obtain⟨a,b⟩:=p _ _ _ _ h1;have c:=q _ _ _ _ _ h2;exact⟨jf a c.le,b.cat c⟩
  ·intro x i t j u h;rw[eY] at h;split at h
   ·rename_i hs;obtain⟨y,m,d,e,h1,h2,rfl⟩:=aA h;exact(Gd.mz hs (by decide)).cat ((p _ _ _ _ h1).2.cat (q _ _ _ _ _ h2))
   split at h
   ·rename_i hs;obtain⟨y,m,d,e,h1,h2,rfl⟩:=aA h;exact(Gd.mz hs (by decide)).cat ((p _ _ _ _ h1).2.cat (q _ _ _ _ _ h2))
   ·cases h;exact Gd.nil _
  ·intro i t j u h;rw[gm] at h;split at h
   ·rename_i hs;obtain⟨x,h1,-⟩:=bD h;obtain⟨a,b⟩:=p _ _ _ _ h1;exact⟨by omega,(Gd.mz hs (by decide)).cat b⟩
   ·obtain⟨x,m,d,e,h1,h2,rfl⟩:=aA h;obtain⟨a,b⟩:=I _ _ _ _ h1;split at h2
    ·rename_i hp;split at h2
     ·rename_i hm;obtain⟨y,h3,-⟩:=bD h2;obtain⟨hw,rfl,rfl,-⟩:=mA h3;exact⟨by omega,b.cat ((Gd.mz hp (by decide)).cat ((Gd.mz hm (by decide)).cat (Gd.dig hw)))⟩
     ·obtain⟨y,h3,-⟩:=bD h2;obtain⟨hw,rfl,rfl,-⟩:=mA h3;exact⟨by omega,b.cat ((Gd.mz hp (by decide)).cat (Gd.dig hw))⟩
    ·cases h2
     rw[List.append_nil]
     exact⟨a,b⟩
  ·intro i t j u h;rw[dy] at h;split at h
   ·rename_i J;cases h
    exact⟨Nat.lt_succ_self _,Gd.one (Wy J)⟩
   split at h
   ·rename_i hs;obtain⟨x,m,d,e,h1,h2,rfl⟩:=aA h;obtain⟨y,h3,-⟩:=bD h2;obtain⟨f,rfl,rfl⟩:=bG h3;obtain⟨a,b⟩:=iS _ _ _ _ h1;exact⟨by omega,(Gd.mz hs (by decide)).cat (b.cat (Gd.mz f (by decide)))⟩
   split at h
   ·rename_i K;obtain⟨y,h3,-⟩:=bD h;obtain⟨a,b⟩:=H _ _ _ _ _ h3;exact⟨by omega,(Gd.one (NY K)).cat b⟩
   split at h
   ·rename_i hs;obtain⟨A,E,C,B,o,l,rfl⟩:=aA h;obtain⟨g0,rfl,rfl⟩:=bG o;obtain⟨x1,D,d,v1,h1,g,rfl⟩:=aA l;obtain⟨g1,rfl,rfl,-⟩:=mA h1;obtain⟨x2,G,e,v2,h2,w,rfl⟩:=aA g;obtain⟨g2,rfl,rfl⟩:=bG h2;obtain⟨x3,N,M,L,h3,v,rfl⟩:=aA w;obtain⟨x4,f,-⟩:=bD v;obtain⟨z,rfl,rfl⟩:=bG f;obtain⟨a,b⟩:=iS _ _ _ _ h3;exact⟨by omega,(Gd.mz hs (by decide)).cat ((Gd.mz g0 (by decide)).cat ((Gd.dig g1).cat ((Gd.mz g2 (by decide)).cat (b.cat (Gd.mz z (by decide))))))⟩
   ·cases h
  ·intro k i t j u h;rw[gK] at h;obtain⟨A,E,C,B,o,l,rfl⟩:=aA h;obtain⟨g0,rfl,rfl⟩:=bG o;obtain⟨x1,D,d,v1,h1,g,rfl⟩:=aA l;obtain⟨x2,G,e,v2,h2,w,rfl⟩:=aA g;obtain⟨x4,f,-⟩:=bD w;obtain⟨z,rfl,rfl⟩:=bG f;obtain⟨a,b⟩:=iS _ _ _ _ h1;have c:=F _ _ _ _ _ h2;have:=c.le;exact⟨by omega,(Gd.mz g0 (by decide)).cat (b.cat (c.cat (Gd.mz z (by decide))))⟩
  ·intro k i t j u h;cases k with
   |zero=>rw[dM] at h;cases h;exact Gd.nil _
   |succ k=>
    rw[dM] at h;obtain⟨A,E,C,B,o,l,rfl⟩:=aA h;obtain⟨g0,rfl,rfl⟩:=bG o;obtain⟨x1,D,d,v1,h1,g,rfl⟩:=aA l;obtain⟨x4,f,-⟩:=bD g;obtain⟨a,b⟩:=iS _ _ _ _ h1;exact(Gd.mz g0 (by decide)).cat (b.cat (F _ _ _ _ _ f))
end
theorem bH{α β:Type}{a:Option (PR α)}{f:α->Nat->Option (PR β)}(ha:a≠none)(hf:∀x i u,a=some (.ok x i u)->f x i≠none):cf a f≠none:=by
 cases a with
 |none=>exact absurd rfl ha
 |some a=>
  cases a with
  |bad i=>exact λ h=>by cases h
  |ok x i u=>
   have:=hf x i u rfl;simp only[cf]
   cases h:f x i with
   |none=>exact absurd h this
   |some y=>cases y<;>exact λ h=>by cases h
theorem fC{α β:Type}{a:Option (PR α)}{f:α->β}(ha:a≠none):a.map (PR.map f)≠none:=by
 cases a with
 |none=>exact absurd rfl ha
 |some a=>exact λ h=>by cases h
theorem eu:cG ts b i≠none:=by unfold cG;split<;>exact λ h=>by cases h
theorem Bm{b:Bool}:rP ts b i≠none:=by unfold rP;split<;>exact λ h=>by cases h
def outT(ts:List aS)(m:Nat):Prop:=∀i,m<=i->(ar ts i).kind=4
theorem outT.bF{m:Nat}(h:outT ts m)(hs:bF (ar ts i) b=true):i<m:=by
 unfold Go.Proofs.YtbapfnpbamnmpaaGreatDoor.bF at hs;simp only[fv,beq_iff_eq] at hs;by_cases hi:i<m
 ·exact hi
 ·have:=h i (by omega);omega
theorem outT.head{m:Nat}{x:Nat×Int×Int}(h:outT ts m)(hs:cm (ar ts i)=some x):i<m:=by
 by_cases hi:i<m
 ·exact hi
 ·have a:=h i (by omega)
  have:=(NY hs).1;omega
theorem SG(num:ByteArray->gV)(ts:List aS)(m:Nat)(ho:outT ts m):∀n,
 (∀i,10*(m-i)+4<=n->eD num ts n i≠none)/\
 (∀x i,10*(m-i)+1<=n->kh num ts n x i≠none)/\
 (∀i,10*(m-i)+3<=n->ee num ts n i≠none)/\
 (∀x i,10*(m-i)+1<=n->eY num ts n x i≠none)/\
 (∀i,10*(m-i)+2<=n->gm num ts n i≠none)/\
 (∀i,10*(m-i)+1<=n->dy num ts n i≠none)/\
 (∀k i,10*(m-i)+2<=n->gK num ts n k i≠none)/\
 (∀k i,10*(m-i)+2<=n->dM num ts n k i≠none):=by
 intro n;induction n with
 |zero=>exact⟨λ i h=>by omega,λ x i h=>by omega,λ i h=>by omega,λ x i h=>by omega,λ i h=>by omega,λ i h=>by omega,λ k i h=>by omega,λ k i h=>by omega⟩
 |succ n ih=>
  obtain⟨iS,d,c,b,a,q,p,l⟩:=ih;obtain⟨o,t,f,s,g,y,w,v⟩:=vu num ts n;refine⟨?_,?_,?_,?_,?_,?_,?_,?_⟩
  ·intro i h;rw[eD]
   refine bH (c _ (by omega)) λ x j u e=>d _ _ ?_;have:=(f _ _ _ _ e).1;omega
  ·intro x i h;rw[kh]
   split
   ·rename_i hs;have:=ho.bF hs;refine bH (c _ (by omega)) λ x j u e=>d _ _ ?_;have:=(f _ _ _ _ e).1;omega
   split
   ·rename_i hs;have:=ho.bF hs;refine bH (c _ (by omega)) λ x j u e=>d _ _ ?_;have:=(f _ _ _ _ e).1;omega
   ·exact λ h=>by cases h
  ·intro i h;rw[ee]
   refine bH (a _ (by omega)) λ x j u e=>b _ _ ?_;have:=(g _ _ _ _ e).1;omega
  ·intro x i h;rw[eY]
   split
   ·rename_i hs;have:=ho.bF hs;refine bH (a _ (by omega)) λ x j u e=>b _ _ ?_;have:=(g _ _ _ _ e).1;omega
   split
   ·rename_i hs;have:=ho.bF hs;refine bH (a _ (by omega)) λ x j u e=>b _ _ ?_;have:=(g _ _ _ _ e).1;omega
   ·exact λ h=>by cases h
  ·intro i h;rw[gm]
   split
   ·rename_i hs;have:=ho.bF hs;exact fC (a _ (by omega))
   ·refine bH (q _ (by omega)) λ x j u e=> ?_;split
    ·split
     ·exact fC Bm
     ·exact fC Bm
    ·exact λ h=>by cases h
  ·intro i h;rw[dy]
   split
   ·exact λ h=>by cases h
   split
   ·rename_i hs;have:=ho.bF hs;exact bH (iS _ (by omega)) λ x j u e=>fC eu
   split
   ·rename_i r;have:=ho.head r;exact fC (p _ _ (by omega))
   split
   ·rename_i hs;have:=ho.bF hs;refine bH eu λ x j u e=> ?_;obtain⟨-,rfl,-⟩:=bG e;refine bH Bm λ x j u e=> ?_;obtain⟨-,rfl,-⟩:=mA e;refine bH eu λ x j u e=> ?_;obtain⟨-,rfl,-⟩:=bG e;exact bH (iS _ (by omega)) λ x j u e=>fC eu
   ·exact λ h=>by cases h
  ·intro k i h;rw[gK]
   refine bH eu λ x j u e=> ?_;obtain⟨hs,rfl,-⟩:=bG e;have:=ho.bF hs;refine bH (iS _ (by omega)) λ x j u e=> ?_;have:=(o _ _ _ _ e).1;exact bH (l _ _ (by omega)) λ x j u e=>fC eu
  ·intro k i h;cases k with
   |zero=>rw[dM];exact λ h=>by cases h
   |succ k=>
    rw[dM]
    refine bH eu λ x j u e=> ?_;obtain⟨hs,rfl,-⟩:=bG e;have:=ho.bF hs;refine bH (iS _ (by omega)) λ x j u e=> ?_;have:=(o _ _ _ _ e).1;exact fC (l _ _ (by omega))
inductive PT:aj->Prop
 |num (x:ByteArray):PT (.node 1 0 false (aN x).n (aN x).d ⟨#[]⟩ [])
 |other (op arg:Int) (name:ByteArray) (kids:List aj):op≠1->(∀k,k∈kids->PT k)->PT (.node op arg false 0 0 name kids)
theorem PT.node{kids:List aj}(h:op≠1)(a:∀k,k∈kids->PT k):PT (bY op arg kids):=PT.other op arg ⟨#[]⟩ kids h a
theorem PT.node1{t:aj}(h:op≠1)(b:PT t):PT (bY op arg [t]):=PT.node h λ k a=>by
 rw[List.mem_singleton] at a;exact a▸b
theorem PT.node2{t u:aj}(h:op≠1)(c:PT t)(b:PT u):PT (bY op arg [t,u]):=PT.node h λ k a=>by
 rcases List.mem_cons.1 a with rfl|a
 ·exact c
 ·rw[List.mem_singleton] at a;exact a▸b
theorem WG{k:Nat}(h:cm t=some (k,op,arg)):op≠1:=by
 unfold cm at h;split at h
 ·cases h;decide
 split at h
 ·cases h;decide
 split at h
 ·cases h;decide
 split at h
 ·cases h;decide
 split at h
 ·cases h;decide
 split at h
 ·cases h;decide
 ·cases h
theorem WH{x:aj}(h:bM aN t=some x):PT x:=by
 unfold bM at h;split at h
 ·cases h;exact PT.num _
 split at h
 ·cases h;exact PT.other _ _ _ _ (by decide) λ k a=>absurd a nU
 split at h
 ·cases h;exact PT.node (by decide) λ k a=>absurd a nU
 ·cases h
theorem SJ(ts:List aS):∀n,
 (∀i t j u,eD aN ts n i=some (.ok t j u)->PT t)/\
 (∀x i t j u,PT x->kh aN ts n x i=some (.ok t j u)->PT t)/\
 (∀i t j u,ee aN ts n i=some (.ok t j u)->PT t)/\
 (∀x i t j u,PT x->eY aN ts n x i=some (.ok t j u)->PT t)/\
 (∀i t j u,gm aN ts n i=some (.ok t j u)->PT t)/\
 (∀i t j u,dy aN ts n i=some (.ok t j u)->PT t)/\
 (∀k i t j u,gK aN ts n k i=some (.ok t j u)->∀x∈t,PT x)/\
 (∀k i t j u,dM aN ts n k i=some (.ok t j u)->∀x∈t,PT x):=by
 intro n;induction n with
 |zero=>
  refine⟨?_,?_,?_,?_,?_,?_,?_,?_⟩
  ·intro i t j u h;rw[eD] at h;cases h
  ·intro x i t j u _ h;rw[kh] at h;cases h
  ·intro i t j u h;rw[ee] at h;cases h
  ·intro x i t j u _ h;rw[eY] at h;cases h
  ·intro i t j u h;rw[gm] at h;cases h
  ·intro i t j u h;rw[dy] at h;cases h
  ·intro k i t j u h;rw[gK] at h;cases h
  ·intro k i t j u h;rw[dM] at h;cases h
 |succ n ih=>
  obtain⟨iS,l,g,f,d,D,C,w⟩:=ih;refine⟨?_,?_,?_,?_,?_,?_,?_,?_⟩
  ·intro i t j u h;rw[eD] at h;obtain⟨x,m,a,b,h1,h2,rfl⟩:=aA h;exact l _ _ _ _ _ (g _ _ _ _ h1) h2
  ·intro x i t j u hx h;rw[kh] at h;split at h
   ·obtain⟨y,m,a,b,h1,h2,rfl⟩:=aA h;exact l _ _ _ _ _ (PT.node2 (by decide) hx (g _ _ _ _ h1)) h2
   split at h
   ·obtain⟨y,m,a,b,h1,h2,rfl⟩:=aA h;exact l _ _ _ _ _ (PT.node2 (by decide) hx (g _ _ _ _ h1)) h2
   ·cases h;exact hx
  ·intro i t j u h;rw[ee] at h;obtain⟨x,m,a,b,h1,h2,rfl⟩:=aA h;exact f _ _ _ _ _ (d _ _ _ _ h1) h2
  ·intro x i t j u hx h;rw[eY] at h;split at h
   ·obtain⟨y,m,a,b,h1,h2,rfl⟩:=aA h;exact f _ _ _ _ _ (PT.node2 (by decide) hx (d _ _ _ _ h1)) h2
   split at h
   ·obtain⟨y,m,a,b,h1,h2,rfl⟩:=aA h;exact f _ _ _ _ _ (PT.node2 (by decide) hx (d _ _ _ _ h1)) h2
   ·cases h;exact hx
  ·intro i t j u h;rw[gm] at h;split at h
   ·obtain⟨x,h1,rfl⟩:=bD h;exact PT.node1 (by decide) (d _ _ _ _ h1)
   ·obtain⟨x,m,a,b,h1,h2,rfl⟩:=aA h;have hx:=D _ _ _ _ h1;split at h2
    ·split at h2
     ·obtain⟨y,h3,rfl⟩:=bD h2;exact PT.node1 (by decide) hx
     ·obtain⟨y,h3,rfl⟩:=bD h2;exact PT.node1 (by decide) hx
    ·cases h2;exact hx
  ·intro i t j u h;rw[dy] at h;split at h
   ·rename_i E;cases h
    exact WH E
   split at h
   ·obtain⟨x,m,a,b,h1,h2,rfl⟩:=aA h;obtain⟨y,h3,rfl⟩:=bD h2;exact iS _ _ _ _ h1
   split at h
   ·rename_i F;obtain⟨y,h3,rfl⟩:=bD h;exact PT.node (WG F) (C _ _ _ _ _ h3)
   split at h
   ·obtain⟨p,v,r,q,z,c,rfl⟩:=aA h;obtain⟨x1,s,a,v1,h1,q1,rfl⟩:=aA c;obtain⟨x2,B,b,v2,h2,e,rfl⟩:=aA q1;obtain⟨x3,I,H,G,h3,A,rfl⟩:=aA e;obtain⟨x4,o,rfl⟩:=bD A;exact PT.node1 (by decide) (iS _ _ _ _ h3)
   ·cases h
  ·intro k i t j u h;rw[gK] at h;obtain⟨p,v,r,q,z,c,rfl⟩:=aA h;obtain⟨x1,s,a,v1,h1,q1,rfl⟩:=aA c;obtain⟨x2,B,b,v2,h2,e,rfl⟩:=aA q1;obtain⟨x4,o,rfl⟩:=bD e;intro x hx;rcases List.mem_cons.1 hx with rfl|hx
   ·exact iS _ _ _ _ h1
   ·exact w _ _ _ _ _ h2 x hx
  ·intro k i t j u h;cases k with
   |zero=>rw[dM] at h;cases h;exact λ x hx=>absurd hx nU
   |succ k=>
    rw[dM] at h;obtain⟨p,v,r,q,z,c,rfl⟩:=aA h;obtain⟨x1,s,a,v1,h1,q1,rfl⟩:=aA c;obtain⟨x4,o,rfl⟩:=bD q1;intro x hx;rcases List.mem_cons.1 hx with rfl|hx
    ·exact iS _ _ _ _ h1
    ·exact w _ _ _ _ _ o x hx
def xZ(a b:aS):Prop:=a.kind=b.kind/\a.text=b.text
theorem xZ.bF{b:aS}(h:xZ a b)(x:List UInt8):bF a x=bF b x:=by unfold Go.Proofs.YtbapfnpbamnmpaaGreatDoor.bF;rw[h.1,h.2]
theorem xZ.whole{b:aS}(h:xZ a b):dZ a=dZ b:=by unfold dZ;rw[h.1,h.2]
theorem xZ.leaf{b:aS}(h:xZ a b)(num:ByteArray->gV):bM num a=bM num b:=by unfold bM;rw[h.bF,h.1,h.2]
theorem xZ.head{b:aS}(h:xZ a b):cm a=cm b:=by unfold cm;simp only[h.bF,h.1,h.2]
structure Lo(ts tR:List aS)(d i j:Nat):Prop where
 eq:∀k,i<=k->k<j->xZ (ar tR k) (ar ts (k+d))
 nx:xZ (ar tR j) (ar ts (j+d))∨∀b,bF (ar tR j) b=false
def LR{α:Type}(d:Nat)(r:Option (PR α))(t:α)(j:Nat)(u:List (Nat×Bool)):Prop:=∃u',r=some (.ok t j u')/\u=u'.map λ p=>(p.1+d,p.2)
section
variable{ts tR:List aS}{d i j m:Nat}{α β:Type}
theorem Lo.left(h:Lo ts tR d i j)(hm:m<=j)(hi:i<=m):Lo ts tR d i m:=by
 refine⟨λ k a b=>h.eq k a (by omega),?_⟩
 by_cases c:m<j
 ·exact .inl (h.eq m hi c)
 ·obtain rfl:m=j:=by omega
  exact h.nx
theorem Lo.right(h:Lo ts tR d i j)(hi:i<=m):Lo ts tR d m j:=⟨λ k a b=>h.eq k (by omega) b,h.nx⟩
theorem Lo.yes(h:Lo ts tR d i j)(hi:i<j)(hs:bF (ar ts (i+d)) b=true):bF (ar tR i) b=true:=by rw[(h.eq i (aU _) hi).bF];exact hs
theorem Lo.no(h:Lo ts tR d i j)(hi:i<=j)(hs:¬bF (ar ts (i+d)) b=true):¬bF (ar tR i) b=true:=by
 by_cases a:i<j
 ·rw[(h.eq i (aU _) a).bF];exact hs
 ·obtain rfl:i=j:=by omega
  rcases h.nx with h1|h1
  ·rw[h1.bF];exact hs
  ·rw[h1];exact iZ
theorem LR.seq{a:Option (PR α)}{f:α->Nat->Option (PR β)}{x:α}{t:β}{u v:List (Nat×Bool)}(h:LR d a x m u)(g:LR d (f x m) t j v):LR d (cf a f) t j (u++v):=by
 obtain⟨b,rfl,rfl⟩:=h;obtain⟨v',h2,rfl⟩:=g;exact⟨b++v',by simp only[cf,h2],by rw[List.map_append]⟩
theorem LR.map{a:Option (PR α)}{f:α->β}{x:α}{u:List (Nat×Bool)}(h:LR d a x j u):LR d (a.map (PR.map f)) (f x) j u:=by
 obtain⟨b,rfl,rfl⟩:=h;exact⟨b,rfl,rfl⟩
theorem LR.mz(h:bF (ar tR i) b=true):LR d (cG tR b i) () (i+1) []:=⟨[],by unfold cG;rw[if_pos h],rfl⟩
theorem LR.dig{r:Bool}(h:xZ (ar tR i) (ar ts (i+d)))(hw:dZ (ar ts (i+d))=true):LR d (rP tR r i) (min (jC (ar ts (i+d)).text) 1000) (i+1) [(i+d,r)]:=
 ⟨[(i,r)],by unfold rP;rw[if_pos (by rw[h.whole];exact hw),h.2],rfl⟩
theorem LR.ret{t:α}:LR d (some (.ok t j [])) t j []:=⟨[],rfl,rfl⟩
theorem Wz(num:ByteArray->gV)(ts tR:List aS)(d:Nat):∀n,
 (∀i t j u,eD num ts n (i+d)=some (.ok t (j+d) u)->Lo ts tR d i j->LR d (eD num tR n i) t j u)/\
 (∀x i t j u,kh num ts n x (i+d)=some (.ok t (j+d) u)->Lo ts tR d i j->LR d (kh num tR n x i) t j u)/\
 (∀i t j u,ee num ts n (i+d)=some (.ok t (j+d) u)->Lo ts tR d i j->LR d (ee num tR n i) t j u)/\
 (∀x i t j u,eY num ts n x (i+d)=some (.ok t (j+d) u)->Lo ts tR d i j->LR d (eY num tR n x i) t j u)/\
 (∀i t j u,gm num ts n (i+d)=some (.ok t (j+d) u)->Lo ts tR d i j->LR d (gm num tR n i) t j u)/\
 (∀i t j u,dy num ts n (i+d)=some (.ok t (j+d) u)->Lo ts tR d i j->LR d (dy num tR n i) t j u)/\
 (∀k i t j u,gK num ts n k (i+d)=some (.ok t (j+d) u)->Lo ts tR d i j->LR d (gK num tR n k i) t j u)/\
 (∀k i t j u,dM num ts n k (i+d)=some (.ok t (j+d) u)->Lo ts tR d i j->LR d (dM num tR n k i) t j u):=by
 intro n;induction n with
 |zero=>
  refine⟨?_,?_,?_,?_,?_,?_,?_,?_⟩
  ·intro i t j u h;rw[eD] at h;cases h
  ·intro x i t j u h;rw[kh] at h;cases h
  ·intro i t j u h;rw[ee] at h;cases h
  ·intro x i t j u h;rw[eY] at h;cases h
  ·intro i t j u h;rw[gm] at h;cases h
  ·intro i t j u h;rw[dy] at h;cases h
  ·intro k i t j u h;rw[gK] at h;cases h
  ·intro k i t j u h;rw[dM] at h;cases h
 |succ n ih=>
  obtain⟨iS,H,G,F,C,I,V,T⟩:=ih;obtain⟨D,s,N,r,E,X,gL,U⟩:=vu num ts n;refine⟨?_,?_,?_,?_,?_,?_,?_,?_⟩
  ·intro i t j u h lo;rw[eD] at h;obtain⟨x,m,g,f,h1,h2,rfl⟩:=aA h;have a:=(N _ _ _ _ h1).1;have b:=(s _ _ _ _ _ h2).le;obtain⟨m,rfl⟩:∃m',m=m'+d:=⟨m-d,by omega⟩
   rw[eD]
   exact(G _ _ _ _ h1 (lo.left (by omega) (by omega))).seq (H _ _ _ _ _ h2 (lo.right (by omega)))
  ·intro x i t j u h lo;have v:=h;rw[kh] at h;rw[kh]
   split at h
   ·rename_i hs;obtain⟨y,m,g,f,h1,h2,rfl⟩:=aA h;have a:=(N _ _ _ _ h1).1;have b:=(s _ _ _ _ _ h2).le;obtain⟨m,rfl⟩:∃m',m=m'+d:=⟨m-d,by omega⟩
    rw[show i+d+1=i+1+d by omega] at h1;rw[if_pos (lo.yes (by omega) hs)]
    exact(G _ _ _ _ h1 ((lo.right (Nat.le_succ i)).left (by omega) (by omega))).seq (H _ _ _ _ _ h2 (lo.right (by omega)))
   rename_i c;split at h
   ·rename_i hs;obtain⟨y,m,g,f,h1,h2,rfl⟩:=aA h;have a:=(N _ _ _ _ h1).1;have b:=(s _ _ _ _ _ h2).le;obtain⟨m,rfl⟩:∃m',m=m'+d:=⟨m-d,by omega⟩
    rw[show i+d+1=i+1+d by omega] at h1;rw[if_neg (lo.no (by omega) c),if_pos (lo.yes (by omega) hs)]
    exact(G _ _ _ _ h1 ((lo.right (Nat.le_succ i)).left (by omega) (by omega))).seq (H _ _ _ _ _ h2 (lo.right (by omega)))
   ·rename_i hs;have e:x=t/\i+d=j+d/\[]=u:=by injection h with e;injection e with e1 o l;exact⟨e1,o,l⟩
    obtain⟨rfl,e,rfl⟩:=e;obtain rfl:i=j:=by omega
    rw[if_neg (lo.no (by omega) c),if_neg (lo.no (by omega) hs)]
    exact LR.ret
  ·intro i t j u h lo;rw[ee] at h;obtain⟨x,m,g,f,h1,h2,rfl⟩:=aA h;have a:=(E _ _ _ _ h1).1;have b:=(r _ _ _ _ _ h2).le;obtain⟨m,rfl⟩:∃m',m=m'+d:=⟨m-d,by omega⟩
   rw[ee]
   exact(C _ _ _ _ h1 (lo.left (by omega) (by omega))).seq (F _ _ _ _ _ h2 (lo.right (by omega)))
  ·intro x i t j u h lo;rw[eY] at h;rw[eY]
   split at h
   ·rename_i hs;obtain⟨y,m,g,f,h1,h2,rfl⟩:=aA h;have a:=(E _ _ _ _ h1).1;have b:=(r _ _ _ _ _ h2).le;obtain⟨m,rfl⟩:∃m',m=m'+d:=⟨m-d,by omega⟩
    rw[show i+d+1=i+1+d by omega] at h1;rw[if_pos (lo.yes (by omega) hs)]
    exact(C _ _ _ _ h1 ((lo.right (Nat.le_succ i)).left (by omega) (by omega))).seq (F _ _ _ _ _ h2 (lo.right (by omega)))
   rename_i c;split at h
   ·rename_i hs;obtain⟨y,m,g,f,h1,h2,rfl⟩:=aA h;have a:=(E _ _ _ _ h1).1;have b:=(r _ _ _ _ _ h2).le;obtain⟨m,rfl⟩:∃m',m=m'+d:=⟨m-d,by omega⟩
    rw[show i+d+1=i+1+d by omega] at h1;rw[if_neg (lo.no (by omega) c),if_pos (lo.yes (by omega) hs)]
    exact(C _ _ _ _ h1 ((lo.right (Nat.le_succ i)).left (by omega) (by omega))).seq (F _ _ _ _ _ h2 (lo.right (by omega)))
   ·rename_i hs;have e:x=t/\i+d=j+d/\[]=u:=by injection h with e;injection e with e1 o l;exact⟨e1,o,l⟩
    obtain⟨rfl,e,rfl⟩:=e;obtain rfl:i=j:=by omega
    rw[if_neg (lo.no (by omega) c),if_neg (lo.no (by omega) hs)]
    exact LR.ret
  ·intro i t j u h lo;rw[gm] at h;rw[gm]
   split at h
   ·rename_i hs;obtain⟨x,h1,rfl⟩:=bD h;have a:=(E _ _ _ _ h1).1;rw[show i+d+1=i+1+d by omega] at h1;rw[if_pos (lo.yes (by omega) hs)]
    exact(C _ _ _ _ h1 (lo.right (by omega))).map
   ·rename_i c;obtain⟨x,m,g,f,h1,h2,rfl⟩:=aA h;have a:=(X _ _ _ _ h1).1;obtain⟨m,rfl⟩:∃m',m=m'+d:=⟨m-d,by omega⟩
    split at h2
    ·rename_i hp;split at h2
     ·rename_i hm;obtain⟨y,h3,rfl⟩:=bD h2;obtain⟨hw,e,rfl,rfl⟩:=mA h3;obtain rfl:j=m+3:=by omega
      rw[if_neg (lo.no (by omega) c)]
      refine(I _ _ _ _ h1 (lo.left (by omega) (by omega))).seq ?_;rw[show m+d+1=m+1+d by omega] at hm;rw[show m+d+2=m+2+d by omega] at hw⊢;rw[if_pos ((lo.right (by omega)).yes (by omega) hp),if_pos ((lo.right (by omega)).yes (by omega) hm)]
      exact(LR.dig (lo.eq _ (by omega) (by omega)) hw).map
     ·rename_i hm;obtain⟨y,h3,rfl⟩:=bD h2;obtain⟨hw,e,rfl,rfl⟩:=mA h3;obtain rfl:j=m+2:=by omega
      rw[if_neg (lo.no (by omega) c)]
      refine(I _ _ _ _ h1 (lo.left (by omega) (by omega))).seq ?_;rw[show m+d+1=m+1+d by omega] at hm hw⊢;rw[if_pos ((lo.right (by omega)).yes (by omega) hp),if_neg ((lo.right (by omega)).no (by omega) hm)]
      exact(LR.dig (lo.eq _ (by omega) (by omega)) hw).map
    ·rename_i hp;have e:x=t/\m+d=j+d/\[]=f:=by injection h2 with e;injection e with e1 o l;exact⟨e1,o,l⟩
     obtain⟨rfl,e,rfl⟩:=e;obtain rfl:m=j:=by omega
     rw[if_neg (lo.no (by omega) c)]
     refine(I _ _ _ _ h1 lo).seq ?_;rw[if_neg ((lo.right (by omega)).no (by omega) hp)]
     exact LR.ret
  ·intro i t j u h lo;have W:=(vu num ts (n+1)).2.2.2.2.2.1 _ _ _ _ h;have e0:xZ (ar tR i) (ar ts (i+d)):=lo.eq i (aU _) (by have:=W.1;omega)
   rw[dy] at h;rw[dy,e0.leaf num]
   split at h
   ·rename_i tl L;have e:tl=t/\i+d+1=j+d/\[]=u:=by injection h with e;injection e with e1 o l;exact⟨e1,o,l⟩
    obtain⟨rfl,e,rfl⟩:=e;obtain rfl:j=i+1:=by omega
    try rw[L]
    exact LR.ret
   rename_i L;try rw[L]
   try simp only[]
   split at h
   ·rename_i hs;obtain⟨x,m,g,f,h1,h2,rfl⟩:=aA h;obtain⟨y,h3,rfl⟩:=bD h2;obtain⟨q,e,rfl⟩:=bG h3;have a:=(D _ _ _ _ h1).1;obtain⟨m,rfl⟩:∃m',m=m'+d:=⟨m-d,by omega⟩
    obtain rfl:j=m+1:=by omega
    rw[show i+d+1=i+1+d by omega] at h1;rw[if_pos (by rw[e0.bF];exact hs)]
    exact(iS _ _ _ _ h1 ((lo.right (by omega)).left (by omega) (by omega))).seq (LR.mz ((lo.right (by omega)).yes (by omega) q)).map
   rename_i c;rw[if_neg (by rw[e0.bF];exact c),e0.head]
   split at h
   ·rename_i M;obtain⟨y,h3,rfl⟩:=bD h;try rw[M]
    rw[show i+d+1=i+1+d by omega] at h3;exact(V _ _ _ _ _ h3 (lo.right (by omega))).map
   rename_i M;try rw[M]
   try simp only[]
   split at h
   ·rename_i hs;obtain⟨P,S,R,Q,v,A,rfl⟩:=aA h;obtain⟨g0,rfl,rfl⟩:=bG v;obtain⟨x1,p,g,v1,h1,z,rfl⟩:=aA A;obtain⟨g1,rfl,rfl,rfl⟩:=mA h1;obtain⟨x2,w,f,v2,h2,K,rfl⟩:=aA z;obtain⟨g2,rfl,rfl⟩:=bG h2;obtain⟨x3,B,Z,Y,h3,J,rfl⟩:=aA K;obtain⟨x4,q,rfl⟩:=bD J;obtain⟨O,e,rfl⟩:=bG q;have a:=(D _ _ _ _ h3).1;obtain⟨B,rfl⟩:∃m',B=m'+d:=⟨B-d,by omega⟩
    obtain rfl:j=B+1:=by omega
    rw[if_pos (by rw[e0.bF];exact hs)]
    rw[show i+d+1=i+1+d by omega] at g0;rw[show i+d+1+1=i+1+1+d by omega] at g1⊢;rw[show i+d+1+1+1=i+1+1+1+d by omega] at g2;rw[show i+d+1+1+1+1=i+1+1+1+1+d by omega] at h3;refine(LR.mz ((lo.right (by omega)).yes (by omega) g0)).seq ?_;refine(LR.dig (lo.eq _ (by omega) (by omega)) g1).seq ?_;refine(LR.mz ((lo.right (by omega)).yes (by omega) g2)).seq ?_;refine(iS _ _ _ _ h3 ((lo.right (by omega)).left (by omega) (by omega))).seq ?_;exact(LR.mz ((lo.right (by omega)).yes (by omega) O)).map
   ·cases h
  ·intro k i t j u h lo;rw[gK] at h;rw[gK]
   obtain⟨P,S,R,Q,v,A,rfl⟩:=aA h;obtain⟨g0,rfl,rfl⟩:=bG v;obtain⟨x1,p,g,v1,h1,z,rfl⟩:=aA A;obtain⟨x2,w,f,v2,h2,K,rfl⟩:=aA z;obtain⟨x4,q,rfl⟩:=bD K;obtain⟨O,e,rfl⟩:=bG q;have a:=(D _ _ _ _ h1).1;have b:=(U _ _ _ _ _ h2).le;obtain⟨p,rfl⟩:∃m',p=m'+d:=⟨p-d,by omega⟩
   obtain⟨w,rfl⟩:∃m',w=m'+d:=⟨w-d,by omega⟩
   obtain rfl:j=w+1:=by omega
   rw[show i+d+1=i+1+d by omega] at h1;refine(LR.mz ((lo.right (by omega)).yes (by omega) g0)).seq ?_;refine(iS _ _ _ _ h1 ((lo.right (by omega)).left (by omega) (by omega))).seq ?_;refine(T _ _ _ _ _ h2 ((lo.right (by omega)).left (by omega) (by omega))).seq ?_;exact(LR.mz ((lo.right (by omega)).yes (by omega) O)).map
  ·intro k i t j u h lo;cases k with
   |zero=>
    rw[dM] at h;rw[dM]
    have e:([]:List aj)=t/\i+d=j+d/\[]=u:=by injection h with e;injection e with e1 o l;exact⟨e1,o,l⟩
    obtain⟨rfl,e,rfl⟩:=e;obtain rfl:j=i:=by omega
    exact LR.ret
   |succ k=>
    rw[dM] at h;rw[dM]
    obtain⟨P,S,R,Q,v,A,rfl⟩:=aA h;obtain⟨g0,rfl,rfl⟩:=bG v;obtain⟨x1,p,g,v1,h1,z,rfl⟩:=aA A;obtain⟨x4,q,rfl⟩:=bD z;have a:=(D _ _ _ _ h1).1;have b:=(U _ _ _ _ _ q).le;obtain⟨p,rfl⟩:∃m',p=m'+d:=⟨p-d,by omega⟩
    rw[show i+d+1=i+1+d by omega] at h1;refine(LR.mz ((lo.right (by omega)).yes (by omega) g0)).seq ?_;refine(iS _ _ _ _ h1 ((lo.right (by omega)).left (by omega) (by omega))).seq ?_;exact(T _ _ _ _ _ q (lo.right (by omega))).map
end
end Go.Proofs.YtbapfnpbamnmpaaGreatDoor
