/- A part of the proof that the text which Print makes of a parsed text is a normal form -/
import Derived.Test.YtbapfnpbamnmpaaGreatDoorP00
import Derived.Test.YtbapfnpbamnmpaaGreatDoorP21
import Derived.Test.YtbapfnpbamnmpaaGreatDoorP27
set_option maxHeartbeats 8000000
set_option maxRecDepth 100000
namespace Go.Proofs.YtbapfnpbamnmpaaGreatDoor
open Go Go.RowKit Go.Dig Go.Deep Go.Eng Go.Proofs.Tryz
variable{b g n:Nat}{l:Fm}{w:World}{Q:Exit->Act->World->Prop}{t:aS}
section
attribute [local irreducible] wpList
theorem Fp{σ:Type}{ops:Array Oper}{rest:List Oper}(L:σ->List (Nat×Value))(I:σ->World->Prop)(c:List PanicEntry->World->Prop)
 (h:∀b:Exit->Act->World->Prop,(∀a w' s,oN a (L s)->I s w'->b .normal (aH n a) w')->(∀ch a w',c ch w'->b (.panic ch) (aH n a) w')->wpList prog ops b rest (aH n l) w)
 (hQ:∀a w' s,I s w'->Q .normal (aH n (look a (L s))) w')(d:∀ch a w',c ch w'->Q (.panic ch) (aH n a) w'):wpList prog ops Q rest (aH n l) w:=
 h Q (λ a w' s hs e=>by have:=hQ a w' s e;rwa [jA hs] at this) d
theorem IF{σ:Type}{c:Code}(L:σ->List (Nat×Value))(I:σ->World->Prop)(d:List PanicEntry->World->Prop)
 (h:∀b:Exit->Act->World->Prop,(∀a w' s,oN a (L s)->I s w'->b .normal (aH n a) w')->(∀ch a w',d ch w'->b (.panic ch) (aH n a) w')->c.wp prog b (aH n l) w)
 (hQ:∀a w' s,I s w'->Q .normal (aH n (look a (L s))) w')(e:∀ch a w',d ch w'->Q (.panic ch) (aH n a) w'):c.wp prog Q (aH n l) w:=
 h Q (λ a w' s hs f=>by have:=hQ a w' s f;rwa [jA hs] at this) e
theorem TS{fn:Func}{R:Ending->World->Prop}(hR:∀v,R (.returned v) w)(h:fn.results=#[]:=by rfl):bodyPost prog fn R .ret (aH n l) w:=
 bodyPost_ret (v:=.tuple #[]) (by simp[results,h]) rfl (hR _)
theorem gQ{x:List UInt8}(h:¬t.kind=3):bF t x=false:=by unfold bF;rw[vy h,Bool.false_and]
theorem nH{x y:List UInt8}(h:bF t x=true)(a:x≠y):bF t y=false:=by
 unfold bF at*;simp only[fv,beq_iff_eq] at h;rw[h.2,vy a,Bool.and_false]
theorem XD{num:ByteArray->gV}(a:¬t.kind=0)(h1:¬t.kind=1):(bM num t).isSome=bF t [112,105]:=by
 unfold bM;rw[if_neg a,if_neg h1]
 cases bF t [112,105]<;>rfl
theorem uj.idx{E:Nat->Bool}{W0 W':World}{ta:Option Addr}{tc:Nat}{ts:List aS}{ex ix:List Nat}{r:PR Unit}{e:Ending}{p:Nat}(h:uj E W0 g ta tc ts ex (ix++[p]) r e W'):uj E W0 g ta tc ts ex ix (Mq [(p,true)] r) e W':=
 uj.add (by rw[show gi [(p,true)] true=[p] from rfl,show gi [(p,true)] false=[] from rfl,List.append_nil];exact h)
section
variable{E:Nat->Bool}{W0:World}{g:Nat}{ta:Option Addr}{tc:Nat}{ts:List aS}
theorem Mu(num:ByteArray->gV)(c:FM E W0 g ta tc ts)(n:Nat)(ih:∀m,m<n->rO E W0 g ta tc ts 174 λ i=>er (eD num ts m i)):rO E W0 g ta tc ts 380 λ i=>er (dy num ts n i):=by
 intro i W ve vi ex ix r h hr;replace hr:er (dy num ts n i)=some r:=hr;cases n with
 |zero=>rw[dy] at hr;cases hr
 |succ n=>
 obtain⟨b,XB,wE⟩:=h.tok c.toQ4;obtain⟨t,J⟩:∃t,t=ar ts i:=⟨_,rfl⟩
 have pH:=Mt num ts hr;have L:(bM num (ar ts i)).isSome=true->r= .ok () (i+1) []:=λ G=>by
  rw[dy] at hr;cases hx:bM num (ar ts i) with
  |none=>rw[hx] at G;cases G
  |some x=>rw[hx] at hr;exact(iG hr).symm
 have M:(ar ts i).kind≠4->i+1<ts.length:=c.last i h.lt;rw[<-J] at wE pH L M;have hb:=h.bw;rw[XB] at hb;refine ct 121 func380 rfl ntmps380 ?_;refine gz ?_;refine eJ 0 0 λ hS=> ?_;refine yr 0 (.pointer (some ⟨g,0,none⟩)) hS ?_;refine yr 1 (.pointer (some ⟨g,0,none⟩)) hS ?_;refine yr 2 (.pointer (some ⟨g,0,none⟩)) hS ?_;refine Eh 3 (hb.cell 0 rfl) (.inr (eo _)) hS ?_;refine yr 4 (.pointer (some ⟨g,0,none⟩)) hS ?_;refine yr 5 (.pointer (some ⟨g,0,none⟩)) hS ?_;refine yr 6 (.pointer (some ⟨g,1,none⟩)) hS ?_;refine Eh 7 (hb.cell 1 rfl) (.inr (eo _)) hS ?_;refine yi 8 3 i h.lt hS ?_;refine yl 9 (V:=iH t.kind t.text t.at') wE (.inr (eo _)) cA hS ?_;have kd:aa W W.drew:=(aa.refl W).drew;refine ya 10 ZT 153 hS λ w1 g1 e1 k1 b1 q1 hS=> ?_;have eF:W.heap.size<=g1:=by rw[e1];exact aU _
 refine yt 11 b1 lC cA (.inr eF) hS λ w2 k2 b2 hS=>gB ?_;have K2:aa W w2:=(kd.trans k1).but k2 eF;have h2:=h.kept K2;have S:g1≠g:=by have:=h.bw.lt;omega
 clear hS hb b1 hr;refine gz ?_;refine Fp (σ:=Unit) (λ _=>[(0,.pointer (some ⟨g,0,none⟩)),(2,.pointer (some ⟨g1,0,none⟩)),(26,.bool (bM num t).isSome)]) (λ _ w'=>aa w2 w') (λ _ _=>False) (λ Q' o _=> ?_) (λ l' w3 _ k3=> ?_) (λ _ _ _ h=>h.elim)
 ·refine kB (b2.cell 0 rfl) ?_;by_cases h0:t.kind=0
  ·refine cr true ?_ ?_
   ·exact(Aw _ 0).trans (cU h0)
   refine gz ?_;exact o _ _ () ⟨rfl,rfl,by unfold bM;rw[if_pos h0];rfl,trivial⟩ (aa.refl w2)
  refine cr false ?_ ?_
  ·exact(Aw _ 0).trans (gy h0)
  refine gz ?_;refine kB (b2.cell 0 rfl) ?_;refine gz ?_;by_cases h1:t.kind=1
  ·refine cr true ?_ ?_
   ·exact(Aw _ 1).trans (cU h1)
   refine gz ?_;exact o _ _ () ⟨rfl,rfl,by unfold bM;rw[if_neg h0,if_pos h1];rfl,trivial⟩ (aa.refl w2)
  refine cr false ?_ ?_
  ·exact(Aw _ 1).trans (gy h1)
  refine gz ?_;refine zc 175 _ (eR c.toQ4 h2 ⟨#[112,105]⟩) ?_;rintro e w3 ⟨rfl,k3⟩
  refine⟨_,rfl,?_⟩
  refine gz ?_;exact o _ _ () ⟨rfl,rfl,by rw[XD h0 h1,J];rfl,trivial⟩ k3
 have h3:=h2.kept k3;have b3:=b2.kept k3;obtain⟨lf,G⟩:∃lf,lf=(bM num t).isSome:=⟨_,rfl⟩
 rw[<-G] at L⊢;cases lf
 case true=>
  have A:t.kind≠4:=λ F=>by
   unfold bM at G;rw[if_neg (by omega),if_neg (by omega),gQ (by omega)] at G;cases G
  refine gz ?_;refine kB (h3.bw.cell 1 rfl) ?_;refine z2 (.int .i64 ((i+1:Nat):Int)) (hrun:=cu (by have:=lens c.toQ4 h;omega)) ?_;refine gz ?_;refine fV (i:=1) h3.bw (by simp) rfl λ w4 R X=> ?_;refine gz ?_;obtain rfl:=L rfl;exact TS λ v=>uj.nil (h3.set c.toQ4 (M A) (Nat.le_succ i) R X)
 have LF:bM num t=none:=by
  cases hx:bM num t with
  |none=>rfl
  |some x=>rw[hx] at G;cases G
 obtain⟨hA,hB,hC,hD⟩:=pH LF;have AH:¬t.kind=0:=λ h=>by unfold bM at LF;rw[if_pos h] at LF;cases LF
 clear pH L G LF;refine If ?_;refine IF (σ:=Nat×Nat) (λ s=>[(0,.pointer (some ⟨g,0,none⟩)),(2,.pointer (some ⟨g1,0,none⟩)),(3,.int .i64 ((s.1+1:Nat):Int))])
  (λ s w'=>s.1<=2/\du E W0 w' g ta tc ts s.2 ve vi ex ix/\aD w' g1 (iH t.kind t.text t.at') 153/\∃m m',m<=n/\m'<=n+1/\er (cf (cG ts [40] s.2) λ _ j=>uU num ts (bF t xg) m m' s.1 j)=some r)
  (λ ch w'=>∃j,r= .bad j/\ch=oZ (ar ts j).at'/\KE E W0 w' g) (λ Q' o hP=> ?_) (λ l' w4 ⟨k,p⟩ ⟨cJ,F,X,m,m',hm,Tt,hs⟩=> ?_) (λ ch l' w4 ⟨j,hj,hch,R⟩=>by subst hj hch;exact⟨rfl,rfl,R⟩)
 ·refine gz ?_;refine zc 175 _ (eR c.toQ4 h3 ⟨#[40]⟩) ?_;rintro e w4 ⟨rfl,R⟩
  refine⟨_,rfl,?_⟩
  have F:=h3.kept R;have X:=b3.kept R;generalize hx:bF (ar ts i) (ByteArray.mk #[40]).data.toList=u;rw[<-J] at hx;replace hx:bF t [40]=u:=hx;cases u
  case true=>
   refine gz ?_;exact o _ _ (0,i) ⟨rfl,rfl,rfl,trivial⟩ ⟨by show(0:Nat)<=2;decide,F,X,n,1,aU _,by omega,by rw[nH hx (by decide)];exact hA hx⟩
  have U:=hx;clear hx;refine gz ?_;refine kB (X.cell 0 rfl) ?_;by_cases D:t.kind=2
  ·have A:t.kind≠4:=by omega
   refine cr true ?_ ?_
   ·exact(Aw _ 2).trans (cU D)
   refine gz ?_;refine kB (F.bw.cell 1 rfl) ?_;refine z2 (.int .i64 ((i+1:Nat):Int)) (hrun:=cu (by have:=lens c.toQ4 h;omega)) ?_;refine gz ?_;refine fV (i:=1) F.bw (by simp) rfl λ Y d B=> ?_;refine gz ?_;exact o _ _ (0,i+1) ⟨rfl,rfl,rfl,trivial⟩ ⟨by show(0:Nat)<=2;decide,F.set c.toQ4 (M A) (Nat.le_succ i) d B,X.ai d S,by obtain⟨m,hm,h⟩:=hB U _ _ _ (by simp only[cm,if_pos D];rfl);exact⟨m,m,by omega,by omega,by rw[gQ (by omega)];exact h⟩⟩
  refine cr false ?_ ?_
  ·exact(Aw _ 2).trans (gy D)
  refine gz ?_;refine zc 175 _ (eR c.toQ4 F ⟨#[97,98,115]⟩) ?_;rintro e w5 ⟨rfl,k5⟩
  refine⟨_,rfl,?_⟩
  have w:=F.kept k5;have b5:=X.kept k5;generalize hx:bF (ar ts i) (ByteArray.mk #[97,98,115]).data.toList=u;rw[<-J] at hx;replace hx:bF t [97,98,115]=u:=hx;cases u
  case true=>
   have A:t.kind≠4:=λ h=>by rw[gQ (by omega)] at hx;cases hx
   refine gz ?_;refine kB (w.bw.cell 1 rfl) ?_;refine z2 (.int .i64 ((i+1:Nat):Int)) (hrun:=cu (by have:=lens c.toQ4 h;omega)) ?_;refine gz ?_;refine fV (i:=1) w.bw (by simp) rfl λ Y d B=> ?_;refine gz ?_;exact o _ _ (0,i+1) ⟨rfl,rfl,rfl,trivial⟩ ⟨by show(0:Nat)<=2;decide,w.set c.toQ4 (M A) (Nat.le_succ i) d B,b5.ai d S,by obtain⟨m,hm,h⟩:=hB U _ _ _ (by simp only[cm,if_neg D,hx,if_true];rfl);exact⟨m,m,by omega,by omega,by rw[nH hx (by decide)];exact h⟩⟩
  have qR:=hx;clear hx;refine gz ?_;refine zc 175 _ (eR c.toQ4 w ⟨#[115,113,114,116]⟩) ?_;rintro e w6 ⟨rfl,k6⟩
  refine⟨_,rfl,?_⟩
  have l:=w.kept k6;have b6:=b5.kept k6;generalize hx:bF (ar ts i) (ByteArray.mk #[115,113,114,116]).data.toList=u;rw[<-J] at hx;replace hx:bF t [115,113,114,116]=u:=hx;cases u
  case true=>
   have A:t.kind≠4:=λ h=>by rw[gQ (by omega)] at hx;cases hx
   refine gz ?_;refine kB (l.bw.cell 1 rfl) ?_;refine z2 (.int .i64 ((i+1:Nat):Int)) (hrun:=cu (by have:=lens c.toQ4 h;omega)) ?_;refine gz ?_;refine fV (i:=1) l.bw (by simp) rfl λ Y d B=> ?_;refine gz ?_;exact o _ _ (0,i+1) ⟨rfl,rfl,rfl,trivial⟩ ⟨by show(0:Nat)<=2;decide,l.set c.toQ4 (M A) (Nat.le_succ i) d B,b6.ai d S,by obtain⟨m,hm,h⟩:=hB U _ _ _ (by simp only[cm,if_neg D,qR,hx,if_true,Bool.false_eq_true,if_false];rfl);exact⟨m,m,by omega,by omega,by rw[nH hx (by decide)];exact h⟩⟩
  have ml:=hx;clear hx;refine gz ?_;refine zc 175 _ (eR c.toQ4 l ⟨#[114,111,111,116]⟩) ?_;rintro e w7 ⟨rfl,k7⟩
  refine⟨_,rfl,?_⟩
  have h7:=l.kept k7;have b7:=b6.kept k7;generalize hx:bF (ar ts i) (ByteArray.mk #[114,111,111,116]).data.toList=u;rw[<-J] at hx;replace hx:bF t [114,111,111,116]=u:=hx;cases u
  case true=>
   have A:t.kind≠4:=λ h=>by rw[gQ (by omega)] at hx;cases hx
   refine gz ?_;refine kB (h7.bw.cell 1 rfl) ?_;refine z2 (.int .i64 ((i+1:Nat):Int)) (hrun:=cu (by have:=lens c.toQ4 h;omega)) ?_;refine gz ?_;refine fV (i:=1) h7.bw (by simp) rfl λ Y d B=> ?_;refine gz ?_;exact o _ _ (0,i+1) ⟨rfl,rfl,rfl,trivial⟩ ⟨by show(0:Nat)<=2;decide,h7.set c.toQ4 (M A) (Nat.le_succ i) d B,b7.ai d S,n,1,aU _,by omega,by rw[show bF t xg=true from hx];exact hC U (by simp only[cm,if_neg D,nH hx (show([114,111,111,116]:List UInt8)≠[97,98,115] by decide),nH hx (show([114,111,111,116]:List UInt8)≠[115,113,114,116] by decide),nH hx (show([114,111,111,116]:List UInt8)≠[109,105,110] by decide),nH hx (show([114,111,111,116]:List UInt8)≠[109,97,120] by decide),nH hx (show([114,111,111,116]:List UInt8)≠[105,102] by decide)];rfl) hx⟩
  have uS:=hx;clear hx;refine gz ?_;refine zc 175 _ (eR c.toQ4 h7 ⟨#[109,105,110]⟩) ?_;rintro e w8 ⟨rfl,k8⟩
  refine⟨_,rfl,?_⟩
  have H:=h7.kept k8;have b8:=b7.kept k8;generalize hx:bF (ar ts i) (ByteArray.mk #[109,105,110]).data.toList=u;rw[<-J] at hx;replace hx:bF t [109,105,110]=u:=hx;cases u
  case true=>
   have A:t.kind≠4:=λ h=>by rw[gQ (by omega)] at hx;cases hx
   refine gz ?_;refine kB (H.bw.cell 1 rfl) ?_;refine z2 (.int .i64 ((i+1:Nat):Int)) (hrun:=cu (by have:=lens c.toQ4 h;omega)) ?_;refine gz ?_;refine fV (i:=1) H.bw (by simp) rfl λ Y d B=> ?_;refine gz ?_;exact o _ _ (1,i+1) ⟨rfl,rfl,rfl,trivial⟩ ⟨by show(1:Nat)<=2;decide,H.set c.toQ4 (M A) (Nat.le_succ i) d B,b8.ai d S,by obtain⟨m,hm,h⟩:=hB U _ _ _ (by simp only[cm,if_neg D,qR,ml,hx,if_true,Bool.false_eq_true,if_false];rfl);exact⟨m,m,by omega,by omega,by rw[nH hx (by decide)];exact h⟩⟩
  have vG:=hx;clear hx;refine gz ?_;refine zc 175 _ (eR c.toQ4 H ⟨#[109,97,120]⟩) ?_;rintro e C ⟨rfl,Q⟩
  refine⟨_,rfl,?_⟩
  have a:=H.kept Q;have b9:=b8.kept Q;generalize hx:bF (ar ts i) (ByteArray.mk #[109,97,120]).data.toList=u;rw[<-J] at hx;replace hx:bF t [109,97,120]=u:=hx;cases u
  case true=>
   have A:t.kind≠4:=λ h=>by rw[gQ (by omega)] at hx;cases hx
   refine gz ?_;refine kB (a.bw.cell 1 rfl) ?_;refine z2 (.int .i64 ((i+1:Nat):Int)) (hrun:=cu (by have:=lens c.toQ4 h;omega)) ?_;refine gz ?_;refine fV (i:=1) a.bw (by simp) rfl λ Y d B=> ?_;refine gz ?_;exact o _ _ (1,i+1) ⟨rfl,rfl,rfl,trivial⟩ ⟨by show(1:Nat)<=2;decide,a.set c.toQ4 (M A) (Nat.le_succ i) d B,b9.ai d S,by obtain⟨m,hm,h⟩:=hB U _ _ _ (by simp only[cm,if_neg D,qR,ml,vG,hx,if_true,Bool.false_eq_true,if_false];rfl);exact⟨m,m,by omega,by omega,by rw[nH hx (by decide)];exact h⟩⟩
  have yy:=hx;clear hx;refine gz ?_;refine zc 175 _ (eR c.toQ4 a ⟨#[105,102]⟩) ?_;rintro e vE ⟨rfl,sS⟩
  refine⟨_,rfl,?_⟩
  have O:=a.kept sS;have Q1:=b9.kept sS;generalize hx:bF (ar ts i) (ByteArray.mk #[105,102]).data.toList=u;rw[<-J] at hx;replace hx:bF t [105,102]=u:=hx;cases u
  case true=>
   have A:t.kind≠4:=λ h=>by rw[gQ (by omega)] at hx;cases hx
   refine gz ?_;refine kB (O.bw.cell 1 rfl) ?_;refine z2 (.int .i64 ((i+1:Nat):Int)) (hrun:=cu (by have:=lens c.toQ4 h;omega)) ?_;refine gz ?_;refine fV (i:=1) O.bw (by simp) rfl λ Y d B=> ?_;refine gz ?_;exact o _ _ (2,i+1) ⟨rfl,rfl,rfl,trivial⟩ ⟨by show(2:Nat)<=2;decide,O.set c.toQ4 (M A) (Nat.le_succ i) d B,Q1.ai d S,by obtain⟨m,hm,h⟩:=hB U _ _ _ (by simp only[cm,if_neg D,qR,ml,vG,yy,hx,if_true,Bool.false_eq_true,if_false];rfl);exact⟨m,m,by omega,by omega,by rw[nH hx (by decide)];exact h⟩⟩
  have Tk:=hx;clear hx;refine gz ?_;refine jX 176 _ (jW c.toQ4 O) ?_;rintro e Y ⟨rfl,d⟩
  exact .inr ⟨_,rfl,hP _ _ _ ⟨i,hD U (by simp only[cm,if_neg D,qR,ml,vG,yy,Tk];rfl) uS,rfl,KE.aR O.kb d⟩⟩
 replace F:du E W0 w4 g ta tc ts p ve vi ex ix:=F;replace cJ:k<=2:=cJ;replace hs:er (cf (cG ts [40] p) λ _ j=>uU num ts (bF t xg) m m' k j)=some r:=hs;clear hA hB hC hD;refine gz ?_;refine jX 265 _ (mn c F ⟨#[40]⟩) ?_;intro e w5 w;replace w:if bF (ar ts p) [40]=true then(∃v,e= .returned v)/\du E W0 w5 g ta tc ts (p+1) ve vi ex ix/\af w4 w5 g else e= .panicked (oZ (ar ts p).at')/\KE E W0 w5 g:=w
 unfold cG at hs;by_cases hp:bF (ar ts p) [40]=true;case neg=>
  rw[if_neg hp] at hs w;obtain⟨rfl,k5⟩:=w;obtain rfl:PR.bad p=r:=iG hs;exact .inr ⟨_,rfl,rfl,rfl,k5⟩
 rw[if_pos hp] at hs w;rw[Cn] at hs;obtain⟨⟨v,rfl⟩,w,k5⟩:=w;have b5:=X.ai k5 S;refine .inl ⟨_,rfl,?_⟩
 refine gz ?_;refine Fp (σ:=Unit) (λ _=>[(0,.pointer (some ⟨g,0,none⟩)),(3,.int .i64 ((k+1:Nat):Int)),(95,.bool (bF t xg))]) (λ _ w'=>w'=w5) (λ _ _=>False) (λ Q' o _=> ?_) (λ l' w5' _ e5=> ?_) (λ _ _ _ h=>h.elim)
 ·refine kB (b5.cell 0 rfl) ?_;by_cases N:t.kind=3
  ·refine cr true ?_ ?_
   ·exact(Aw _ 3).trans (cU N)
   refine gz ?_;refine kB (b5.cell 1 rfl) ?_;refine gz ?_;refine pJ (t.text.toList==xg) ?_ ?_
   ·rfl
   refine gz ?_;exact o _ _ () ⟨rfl,rfl,by unfold bF;rw[N];rfl,trivial⟩ rfl
  ·refine cr false ?_ ?_
   ·exact(Aw _ 3).trans (gy N)
   refine gz ?_;exact o _ _ () ⟨rfl,rfl,by rw[gQ N];rfl,trivial⟩ rfl
 obtain rfl:w5'=w5:=e5;obtain⟨u,hu⟩:∃u,u=bF t xg:=⟨_,rfl⟩
 rw[<-hu] at hs⊢;clear hu;refine gz ?_;refine IF (σ:=Nat×Value×List Nat×PR Unit) (λ _=>[(0,.pointer (some ⟨g,0,none⟩)),(3,.int .i64 ((k+1:Nat):Int))])
  (λ s w'=>du E W0 w' g ta tc ts s.1 ve s.2.1 ex s.2.2.1/\er (cf (eD num ts m s.1) λ _ j=>jY num ts m' k j)=some s.2.2.2/\∀e W',uj E W0 g ta tc ts ex s.2.2.1 s.2.2.2 e W'->uj E W0 g ta tc ts ex ix r e W')
  (λ ch w'=>∃j,r= .bad j/\ch=oZ (ar ts j).at'/\KE E W0 w' g) (λ Q' o hP=> ?_) (λ l' w6 ⟨p6,vi6,ix6,r6⟩ ⟨l,hs6,K⟩=> ?_) (λ ch l' w4 ⟨j,hj,hch,R⟩=>by subst hj hch;exact⟨rfl,rfl,R⟩)
 ·unfold uU at hs;cases u
  case false=>
   rw[if_neg iZ,Eo] at hs;refine gz ?_;exact o _ _ (p+1,vi,ix,r) ⟨rfl,rfl,trivial⟩ ⟨w,hs,λ _ _ h=>h⟩
  rw[if_pos rfl,Eo] at hs;refine gz ?_;refine jX 381 _ (xf c w) ?_;intro e w6 l;unfold rP at hs;by_cases hw:dZ (ar ts (p+1))=true;case neg=>
   rw[if_neg hw] at hs l;obtain⟨rfl,k6⟩:=l;obtain rfl:PR.bad (p+1)=r:=iG hs;exact .inr ⟨_,rfl,hP _ _ _ ⟨_,rfl,rfl,k6⟩⟩
  rw[if_pos hw] at hs l;obtain⟨rfl,l,k6⟩:=l;rcases o8 hs with⟨j,ha,-⟩|⟨x,j,u',r',Sl,ha,hf,rfl⟩
  ·exact absurd (iG ha) (by intro h;cases h)
  cases Sl
  refine .inl ⟨_,rfl,?_⟩
  refine gz ?_;refine kB (l.bw.cell 3 rfl) ?_;refine gz ?_;refine ZL (j:=p+1) l.oi (eo _) ?_ λ C v9 o9 g9 n9=> ?_
  ·have:=w.TO;have:=lens c.toQ4 w;omega
  refine gz ?_;refine fV (i:=3) (l.grown l.fi g9) (by simp) (OT o9) λ vE sS Q1=> ?_;have O:=l.aft c.toQ4 o9 g9 n9 sS Q1 (Nat.succ_le_succ w.TO)
  refine gz ?_;refine jX 265 _ (mn c O ⟨#[44]⟩) ?_;intro e Hr T;replace T:if bF (ar ts (p+1+1)) [44]=true then(∃v,e= .returned v)/\du E W0 Hr g ta tc ts (p+1+1+1) ve v9 ex (ix++[p+1])/\af vE Hr g else e= .panicked (oZ (ar ts (p+1+1)).at')/\KE E W0 Hr g:=T
  unfold cG at hf;by_cases hc:bF (ar ts (p+1+1)) [44]=true;case neg=>
   rw[if_neg hc] at hf T;obtain⟨rfl,Dv⟩:=T;obtain rfl:PR.bad (p+1+1)=r':=iG hf;exact .inr ⟨_,rfl,hP _ _ _ ⟨_,rfl,rfl,Dv⟩⟩
  rw[if_pos hc] at hf T;rw[Cn] at hf;obtain⟨⟨v,rfl⟩,T,Dv⟩:=T;refine .inl ⟨_,rfl,?_⟩
  refine gz ?_;exact o _ _ (p+1+1+1,v9,ix++[p+1],r') ⟨rfl,rfl,trivial⟩ ⟨T,hf,λ _ _ h=>h.idx⟩
 replace l:du E W0 w6 g ta tc ts p6 ve vi6 ex ix6:=l;replace hs6:er (cf (eD num ts m p6) λ _ j=>jY num ts m' k j)=some r6:=hs6;replace K:∀e W',uj E W0 g ta tc ts ex ix6 r6 e W'->uj E W0 g ta tc ts ex ix r e W':=K;refine gz ?_;rcases o8 hs6 with⟨j',ha,rfl⟩|⟨t',j',u',r3,-,ha,hf,rfl⟩
 ·refine jX 174 _ (ih m (by omega) _ w6 _ _ _ _ _ l ha) ?_;rintro e w7 ⟨rfl,k7⟩
  exact .inr ⟨_,rfl,rfl,K _ _ ⟨rfl,k7⟩⟩
 refine jX 174 _ (ih m (by omega) _ w6 _ _ _ _ _ l ha) ?_;rintro e w7 ⟨⟨v,rfl⟩,ve7,vi7,h7⟩
 refine .inl ⟨_,rfl,?_⟩
 rw[qh] at hf;refine gz ?_;refine dQ (σ:=Nat×Nat×Nat×Value×Value×List Nat×List Nat×PR Unit) 2 (λ _ s=>[(0,.pointer (some ⟨g,0,none⟩)),(3,.int .i64 ((s.1+1:Nat):Int))])
  (λ kk s w'=>s.1+kk=k/\s.2.1<=n+1/\du E W0 w' g ta tc ts s.2.2.1 s.2.2.2.1 s.2.2.2.2.1 s.2.2.2.2.2.1 s.2.2.2.2.2.2.1/\jY num ts s.2.1 s.1 s.2.2.1=some s.2.2.2.2.2.2.2/\∀e W',uj E W0 g ta tc ts s.2.2.2.2.2.1 s.2.2.2.2.2.2.1 s.2.2.2.2.2.2.2 e W'->uj E W0 g ta tc ts ex ix r e W')
  (k,m',j',ve7,vi7,_,_,r3) ⟨rfl,rfl,trivial⟩ ⟨rfl,Tt,h7,hf,λ e W' h=>K e W' h.add⟩ λ fl wr kk ⟨q,f,j,ve8,Z,P,I,r8⟩ D ⟨hq,Zt,H,y,z⟩=> ?_
 replace hq:q+kk=k:=hq;replace Zt:f<=n+1:=Zt;replace H:du E W0 wr g ta tc ts j ve8 Z P I:=H;replace y:jY num ts f q j=some r8:=y;replace z:∀e W',uj E W0 g ta tc ts P I r8 e W'->uj E W0 g ta tc ts ex ix r e W':=z;cases f with
 |zero=>rw[jY] at y;cases y
 |succ f=>
 refine gz ?_;cases q with
 |zero=>
  refine cr false ?_ ?_
  ·rfl
  rw[jY] at y;refine gz ?_;refine jX 265 _ (mn c H ⟨#[41]⟩) ?_;intro e C a;replace a:if bF (ar ts j) [41]=true then(∃v,e= .returned v)/\du E W0 C g ta tc ts (j+1) ve8 Z P I/\af wr C g else e= .panicked (oZ (ar ts j).at')/\KE E W0 C g:=a
  unfold cG at y;by_cases hc:bF (ar ts j) [41]=true;case neg=>
   rw[if_neg hc] at y a;obtain⟨rfl,Q⟩:=a;obtain rfl:PR.bad j=r8:=iG y;exact .inr ⟨_,rfl,rfl,z _ _ ⟨rfl,Q⟩⟩
  rw[if_pos hc] at y a;obtain⟨⟨v,rfl⟩,a,Q⟩:=a;obtain rfl:PR.ok () (j+1) []=r8:=iG y;refine .inl ⟨_,rfl,?_⟩
  refine gz ?_;exact fR λ v=>z _ _ (uj.nil a)
 |succ q=>
  refine cr true ?_ ?_
  ·exact cU (by omega)
  rw[jY] at y;refine gz ?_;refine jX 265 _ (mn c H ⟨#[44]⟩) ?_;intro e C a;replace a:if bF (ar ts j) [44]=true then(∃v,e= .returned v)/\du E W0 C g ta tc ts (j+1) ve8 Z P I/\af wr C g else e= .panicked (oZ (ar ts j).at')/\KE E W0 C g:=a
  unfold cG at y;by_cases hc:bF (ar ts j) [44]=true;case neg=>
   rw[if_neg hc] at y a;obtain⟨rfl,Q⟩:=a;obtain rfl:PR.bad j=r8:=iG y;exact .inr ⟨_,rfl,rfl,z _ _ ⟨rfl,Q⟩⟩
  rw[if_pos hc] at y a;rw[Cn] at y;obtain⟨⟨v,rfl⟩,a,Q⟩:=a;refine .inl ⟨_,rfl,?_⟩
  refine gz ?_;rcases o8 y with⟨j',ha,rfl⟩|⟨t',j',u',r3,-,ha,hf,rfl⟩
  ·refine jX 174 _ (ih f (by omega) _ C _ _ _ _ _ a ha) ?_;rintro e w7 ⟨rfl,k7⟩
   exact .inr ⟨_,rfl,rfl,z _ _ ⟨rfl,k7⟩⟩
  refine jX 174 _ (ih f (by omega) _ C _ _ _ _ _ a ha) ?_;rintro e vE ⟨⟨v,rfl⟩,akO,akP,O⟩
  refine .inl ⟨_,rfl,?_⟩
  rw[qh] at hf;refine gz ?_;refine z2 (.int .i64 ((q+1:Nat):Int)) (hrun:=OS (by omega)) ?_;refine gz ?_;exact⟨_,(q,f,j',akO,akP,_,_,r3),rfl,by omega,⟨rfl,rfl,trivial⟩,by show q+(kk+1)=k;omega,by show f<=n+1;omega,O,hf,λ e W' h=>z e W' h.add⟩
end
end
theorem uk{E:Nat->Bool}{W0:World}{ta:Option Addr}{tc:Nat}{ts:List aS}(num:ByteArray->gV)(c:FM E W0 g ta tc ts)(n:Nat):
 rO E W0 g ta tc ts 174 (λ i=>er (eD num ts n i))/\rO E W0 g ta tc ts 264 (λ i=>er (ee num ts n i))/\rO E W0 g ta tc ts 330 (λ i=>er (gm num ts n i))/\rO E W0 g ta tc ts 380 (λ i=>er (dy num ts n i)):=by
 induction n using Nat.strongRecOn with
 |ind n ih=>exact⟨Mr num c n λ m hm=>(ih m hm).2.1,Ms num c n λ m hm=>(ih m hm).2.2.1,Q8 num c n λ m hm=>(ih m hm).2.2.2,Mu num c n λ m hm=>(ih m hm).1⟩
section
attribute [local irreducible] wpList
theorem akQ{ops:Array Oper}{oi:Oper}{fuel:Nat}{listed:Array Bool}{w0:World}{lo up:Nat}(i:Nat){p q:Tmp}{ty o:Nat}{t:TypeId}{Y:Array Value}{x:Value}(hb:aD w g Y t)(ho:o<Y.size)(d:x.oneCell'=true)(r:(lo<=g/\g<up)∨w0.heap.size<=g)(hS:Lk lo up w0 w)
 (h:∀w',af w w' g->aD w' g (Y.setIfInBounds o x) t->Lk lo up w0 w'->wpAnyH prog .any ops Q (Lk lo up w0) fuel (listed.setIfInBounds i true) (aH n l) w')
 (hi:ops[i]? =some oi:=by rfl)(m:oi.op= .store ty (.tmp p) (.tmp q):=by rfl)(hd:oi.dst=none:=by rfl)(s:oi.guard=none:=by rfl)
 (hx:bA n l (.tmp p)=some (.pointer (some ⟨g,o,none⟩)):=by rfl)(k:bA n l (.tmp q)=some x:=by rfl)(e:(prog.info? ty).map (·.size)=some 1:=by kernel_rfl)(hr:Region.ready .any ops listed=[i]:=by kernel_rfl):
 wpAnyH prog .any ops Q (Lk lo up w0) (fuel+1) listed (aH n l) w:=by
 refine Ll i (λ K hK=> ?_) hi hr;rw[if_pos (by simp[Region.wanted,s])]
 have f:(storeVar ty ⟨g,o,none⟩ x).run prog w= .ok () (w.setCell ⟨g,o,none⟩ x):=by
  have u:=hb.cell o (v:=Y[o]) (by simp[ho])
  have a:=run_store prog w ⟨g,o,none⟩ x .plain d;rw[u] at a;simp only[hb.frozen o] at a;cases b:prog.info? ty with
  |none=>simp[b] at e
  |some q=>
   have j:q.size=1:=by simpa [b] using e
   cases x<;>first
    |(simp[Value.oneCell'] at d;done)
    |(simp[storeVar,sizeOf,typeInfo,b,j,Value.cells,storeCells,Addr.add_mid,a];done)
 have kb:af w (w.setCell ⟨g,o,none⟩ x) g:=(af.refl w g).setCell rfl _;unfold Oper.wp execOp;simp only[m,aE hx,aE k,Instr.storeAt,Instr.sureAddr,Sem.run_bind,Sem.run_pure,Result.andThen_ok,f]
 show K ((aH n l).put oi.dst undef) _;rw[hd]
 have c:=hS.but kb r;exact hK.out _ _ c λ _=>h _ kb (hb.set o _) c
def nI(ve vi:Value):Nat->Bool:=λ b=>decide (ve.ownBlock=some b)||decide (vi.ownBlock=some b)
theorem uo{ve vi:Value}(h:nI ve vi b=true):ve.ownBlock=some b∨vi.ownBlock=some b:=by
 unfold nI at h;simpa using h
section
variable{E:Nat->Bool}{W0 W W':World}{g:Nat}{ta:Option Addr}{tc:Nat}{ts:List aS}{i j:Nat}{ve vi ve' vi':Value}{ex ix ex' ix':List Nat}
theorem du.Rb(h:du E W0 W g ta tc ts i ve vi ex ix)(hb:b<W0.heap.size)(a:E b=false):nI ve vi b=false:=by
 cases ho:nI ve vi b with
 |false=>rfl
 |true=>
  rcases uo ho with h1|h1
  ·rcases(h.fe b h1).2 with h2|h2
   ·rw[a] at h2;cases h2
   ·omega
  ·rcases(h.fi b h1).2 with h2|h2
   ·rw[a] at h2;cases h2
   ·omega
theorem KE.refl(E:Nat->Bool)(w:World)(b:Nat):KE E w w b:=⟨aU _,λ _ _ _ _=>rfl,rfl,rfl,rfl⟩
theorem FM.later(c:FM E W0 g ta tc ts)(h:du E W0 W g ta tc ts i ve vi ex ix):FM (nI ve vi) W g ta tc ts:=
 ⟨⟨h.bw.lt,c.aby.sub (au λ b hb hs=>by
   simp only[fv,bne_iff_ne,Bool.not_eq_true'] at hs⊢;exact⟨⟨hs.1,h.Rb hb hs.2⟩,h.kb.old b hb hs.1 hs.2⟩),c.len,c.last⟩,c.whl⟩
theorem du.later(h:du E W0 W g ta tc ts i ve vi ex ix):du (nI ve vi) W W g ta tc ts i ve vi ex ix:=
 ⟨KE.refl _ W g,h.bw,h.oe,h.oi,λ o ho=>⟨(h.fe o ho).1,.inl (by unfold nI;rw[cU ho];rfl)⟩,λ o ho=>⟨(h.fi o ho).1,.inl (by unfold nI;rw[cU ho,Bool.or_true])⟩,h.ne,h.lt,h.TO⟩
theorem du.zM(h:du E W0 W g ta tc ts i ve vi ex ix)(k:KE (nI ve vi) W W' g):KE E W0 W' g:=
 ⟨jP h.kb.size k.size,λ b hb a c=>(k.old b (jf hb h.kb.size) a (h.Rb hb c)).trans (h.kb.old b hb a c),k.tape.trans h.kb.tape,k.os.trans h.kb.os,k.output.trans h.kb.output⟩
theorem du.ZM(h:du E W0 W g ta tc ts i ve vi ex ix){o:Nat}(a:o≠g)(ho:nI ve vi o=true∨W.heap.size<=o):o≠g/\(E o=true∨W0.heap.size<=o):=by
 refine⟨a,?_⟩
 rcases ho with ho|ho
 ·rcases uo ho with h1|h1
  ·exact(h.fe o h1).2
  ·exact(h.fi o h1).2
 ·exact .inr (jP h.kb.size ho)
theorem du.back(h:du E W0 W g ta tc ts i ve vi ex ix)(a:du (nI ve vi) W W' g ta tc ts j ve' vi' ex' ix'):du E W0 W' g ta tc ts j ve' vi' ex' ix':=
 ⟨h.zM a.kb,a.bw,a.oe,a.oi,λ o ho=>h.ZM (a.fe o ho).1 (a.fe o ho).2,λ o ho=>h.ZM (a.fi o ho).1 (a.fi o ho).2,a.ne,a.lt,a.TO⟩
theorem KE.bw{cs:Array Value}{t:TypeId}(k:KE E W W' g)(h:aD W b cs t)(a:b≠g)(c:E b=false):aD W' b cs t:=(k.old b h.lt a c).trans h
end
structure cW where
 f0:Nat
 t0:Nat
 op:ByteArray
 f1:Nat
 t1:Nat
 e0:aj
 e1:aj
def qi(t:aS):Bool:=bF t [62,61]||(bF t [60,61]||(bF t [62]||bF t [60]))
def fG(x:cW):Array Value:=#[.int .i64 (x.f0:Int),.int .i64 (x.t0:Int),.int .i64 (x.f1:Int),.int .i64 (x.t1:Int),.string x.op]
def rV(num:ByteArray->gV)(ts:List aS)(n i:Nat):Option (PR cW):=
 cf (eD num ts n i) λ e0 j=>if qi (ar ts j)=true then cf (eD num ts n (j+1)) λ e1 k=>some (.ok ⟨i,j,(ar ts j).text,j+1,k,e0,e1⟩ k []) else some (.bad j)
def XE{α:Type}(E:Nat->Bool)(W0:World)(g:Nat)(ta:Option Addr)(tc:Nat)(ts:List aS)(ex ix:List Nat)(P:α->Value->World->Prop)(r:PR α)(e:Ending)(W':World):Prop:=match r with
 | .ok x j u=>(∃v,e= .returned v/\P x v W')/\∃ve vi,du E W0 W' g ta tc ts j ve vi (ex++gi u false) (ix++gi u true)
 | .bad j=>e= .panicked (oZ (ar ts j).at')/\KE E W0 W' g
def ZRl:Array Value:=#[.int .i64 0,.int .i64 0,.int .i64 0,.int .i64 0,.string ⟨#[]⟩]
theorem Ep{a b c d:Int}{s:ByteArray}:dY 65 #[.int .i64 a,.int .i64 b,.int .i64 c,.int .i64 d,.string s]:=⟨by kernel_rfl,by simp[Value.oneCell']⟩
theorem uq{α β:Type}{a:Option (PR α)}{f:α->Nat->Option (PR β)}{r:PR β}(h:cf a f=some r):(∃i,a=some (.bad i)/\r= .bad i)∨(∃x i u,a=some (.ok x i u)/\((∃j,f x i=some (.bad j)/\r= .bad j)∨∃y j v,f x i=some (.ok y j v)/\r= .ok y j (u++v))):=by
 cases a with
 |none=>cases h
 |some a=>
  cases a with
  |bad i=>exact .inl ⟨i,rfl,(iG h).symm⟩
  |ok x i u=>
   refine .inr ⟨x,i,u,rfl,?_⟩
   cases hf:f x i with
   |none=>simp only[cf,hf] at h;cases h
   |some y=>
    simp only[cf,hf] at h;cases y with
    |bad j=>exact .inl ⟨j,rfl,(iG h).symm⟩
    |ok y j v=>exact .inr ⟨y,j,v,rfl,(iG h).symm⟩
section
variable{E:Nat->Bool}{W0 W:World}{g:Nat}{ta:Option Addr}{tc:Nat}{ts:List aS}{i:Nat}{ve vi:Value}{ex ix:List Nat}
theorem du.fresh(h:du E W0 W g ta tc ts i ve vi ex ix)(hb:W.heap.size<=b):nI ve vi b=false:=by
 cases ho:nI ve vi b with
 |false=>rfl
 |true=>
  rcases uo ho with h1|h1
  ·have:=(World.ownsRow.lt h.oe b h1).2;omega
  ·have:=(World.ownsRow.lt h.oi b h1).2;omega
theorem du.re(h:du E W0 W g ta tc ts i ve vi ex ix)(hb:b<W0.heap.size)(a:E b=false):ve.ownBlock≠some b/\vi.ownBlock≠some b:=
 ⟨λ h1=>by
   rcases(h.fe b h1).2 with h2|h2
   ·rw[a] at h2;cases h2
   ·omega,λ h1=>by
   rcases(h.fi b h1).2 with h2|h2
   ·rw[a] at h2;cases h2
   ·omega⟩
theorem ff(h:ve.ownBlock≠some b/\vi.ownBlock≠some b):nI ve vi b=false:=by
 cases ho:nI ve vi b with
 |false=>rfl
 |true=>
  rcases uo ho with h1|h1
  ·exact absurd h1 h.1
  ·exact absurd h1 h.2
theorem Q4.akR(c:Q4 E W0 g ta tc ts)(h:i<ts.length)(hb:ta=some ⟨b,0,none⟩):b<W0.heap.size:=by
 obtain⟨b',a,hr⟩:=c.aby.row h;obtain rfl:b=b':=by rw[hb] at a;simpa using a
 exact World.block_lt_of_cell? W0 _ (dP W0 _ _ _ (hr 0 _ rfl))
theorem du.other{W':World}(h:du E W0 W g ta tc ts i ve vi ex ix)(k:af W W' b)(hb:b≠g)(ho:ve.ownBlock≠some b/\vi.ownBlock≠some b)(e:W0.heap.size<=b):du E W0 W' g ta tc ts i ve vi ex ix:=
 ⟨⟨jP h.kb.size k.size,λ c hc a d=>(k.old c (jf hc h.kb.size) (by omega)).trans (h.kb.old c hc a d),k.tape.trans h.kb.tape,k.os.trans h.kb.os,k.output.trans h.kb.output⟩,h.bw.ai k (Ne.symm hb),bE h.oe k ho.1,bE h.oi k ho.2,h.fe,h.fi,h.ne,h.lt,h.TO⟩
theorem Mv(h:qi t=true):t.kind=3:=by
 by_cases a:t.kind=3
 ·exact a
 ·unfold qi at h;simp only[gQ a] at h;cases h
theorem vP(num:ByteArray->gV)(c:FM E W0 g ta tc ts)(h:du E W0 W g ta tc ts i ve vi ex ix){r:PR cW}(hr:rV num ts n i=some r):
 Calls prog 93 #[.pointer (some ⟨g,0,none⟩)] W (XE E W0 g ta tc ts ex ix (λ x v _=>v= .agg (fG x)) r):=by
 have hn:=lens c.toQ4 h;have XF:=h.bw.lt;refine ct 62 func93 rfl ntmps93 ?_;refine gz ?_;refine za ZRl 65 λ w1 g1 e1 M b1 q1=> ?_;refine gz ?_;refine za ZRl 65 λ w2 g2 e2 k2 b2 q2=> ?_;have h2:=h.kept (M.trans k2)
 have s:=b1.kept k2;have O:g1≠g:=by omega
 have l:g2≠g:=by have:=M.size;omega
 have A:g1≠g2:=by omega
 refine gz ?_;refine kB (h2.bw.cell 1 rfl) ?_;refine gz ?_;refine fV (i:=0) b2 (by simp[ZRl]) rfl λ w3 k3 b3=> ?_;replace b3:aD w3 g2 #[.int .i64 (i:Int),.int .i64 0,.int .i64 0,.int .i64 0,.string ⟨#[]⟩] 65:=b3;have C:W.heap.size<=g2:=by have:=M.size;omega
 have akS:W.heap.size<=g1:=by omega
 have h3:=h.kept ((M.trans k2).but k3 C)
 have pU:=s.ai k3 A;have f1:=h.fresh akS;have f2:=h.fresh C;have Wb:=pU.lt;have ID:=b3.lt;have Su:=h.kb.size;refine gz ?_;rcases uq hr with⟨j,ha,rfl⟩|⟨e0,j,u,ha,hf⟩
 ·refine jX 174 _ ((uk num (c.later h3) n).1 i w3 ve vi ex ix (.bad j) h3.later (by simp only[ha];rfl)) ?_;rintro e w4 ⟨rfl,k4⟩
  exact .inr ⟨_,rfl,rfl,rfl,h3.zM k4⟩
 refine jX 174 _ ((uk num (c.later h3) n).1 i w3 ve vi ex ix (.ok () j u) h3.later (by simp only[ha];rfl)) ?_;rintro e w4 ⟨⟨v,rfl⟩,Q6,Q7,D⟩
 refine .inl ⟨_,rfl,?_⟩
 have h4:=h3.back D;have I:=D.kb.bw pU O f1;have Zr:=D.kb.bw b3 l f2;have o1:=D.re Wb f1;have J:=D.re ID f2;refine gz ?_;refine kB (h4.bw.cell 1 rfl) ?_;refine gz ?_;refine fV (i:=1) Zr (by simp) rfl λ Q k5 b5=> ?_;replace b5:aD Q g2 #[.int .i64 (i:Int),.int .i64 (j:Int),.int .i64 0,.int .i64 0,.string ⟨#[]⟩] 65:=b5;have h5:=h4.other k5 l J (by omega)
 have KU:=I.ai k5 A;obtain⟨t,k⟩:∃t,t=ar ts j:=⟨_,rfl⟩
 refine gz ?_;refine zc 175 _ (eR c.toQ4 h5 ⟨#[62,61]⟩) ?_;rintro e w6 ⟨rfl,m⟩
 refine⟨_,rfl,?_⟩
 refine gz ?_;refine IF (σ:=Unit) (λ _=>[(0,.pointer (some ⟨g,0,none⟩)),(2,.pointer (some ⟨g1,0,none⟩)),(3,.pointer (some ⟨g2,0,none⟩)),(20,.bool (qi t))]) (λ _ w'=>aa Q w') (λ _ _=>False) (λ Q' P _=> ?_) (λ l' w _ f=> ?_) (λ _ _ _ h=>h.elim)
 ·have h6:=h5.kept m;generalize p:bF (ar ts j) (ByteArray.mk #[62,61]).data.toList=x1;replace p:bF t [62,61]=x1:=by rw[k];exact p
  cases x1
  case true=>
   refine gz ?_;exact P _ _ () ⟨rfl,rfl,rfl,by unfold qi;rw[p];rfl,trivial⟩ m
  refine gz ?_;refine zc 175 _ (eR c.toQ4 h6 ⟨#[60,61]⟩) ?_;rintro e w7 ⟨rfl,K⟩
  refine⟨_,rfl,?_⟩
  have h7:=h6.kept K;generalize z:bF (ar ts j) (ByteArray.mk #[60,61]).data.toList=x2;replace z:bF t [60,61]=x2:=by rw[k];exact z
  cases x2
  case true=>
   refine gz ?_;exact P _ _ () ⟨rfl,rfl,rfl,by unfold qi;rw[p,z];rfl,trivial⟩ (m.trans K)
  refine gz ?_;refine zc 175 _ (eR c.toQ4 h7 ⟨#[62]⟩) ?_;rintro e w8 ⟨rfl,k8⟩
  refine⟨_,rfl,?_⟩
  have h8:=h7.kept k8;generalize N:bF (ar ts j) (ByteArray.mk #[62]).data.toList=x3;replace N:bF t [62]=x3:=by rw[k];exact N
  cases x3
  case true=>
   refine gz ?_;exact P _ _ () ⟨rfl,rfl,rfl,by unfold qi;rw[p,z,N];rfl,trivial⟩ ((m.trans K).trans k8)
  refine gz ?_;refine zc 175 _ (eR c.toQ4 h8 ⟨#[60]⟩) ?_;rintro e w ⟨rfl,f⟩
  refine⟨_,rfl,?_⟩
  refine gz ?_;exact P _ _ () ⟨rfl,rfl,rfl,by unfold qi;rw[p,z,N,k];rfl,trivial⟩ (((m.trans K).trans k8).trans f)
 replace f:aa Q w:=f;have d:=h5.kept f;have XG:=KU.kept f;have b9:=b5.kept f;clear m;have aV:=Mv (t:=t)
 rw[<-k] at hf;obtain⟨y,hy⟩:∃y,y=qi t:=⟨_,rfl⟩
 rw[<-hy] at hf aV⊢;cases y
 case false=>
  rcases hf with⟨j',hf,rfl⟩|⟨y,j',v',hf,rfl⟩
  ·obtain rfl:j=j':=by simpa using hf
   refine gz ?_;refine jX 176 _ (jW c.toQ4 d) ?_;rintro e vE ⟨rfl,L⟩
   exact .inr ⟨_,rfl,rfl,rfl,d.kb.aR L⟩
  ·rw[if_neg iZ] at hf;exact absurd (iG hf) (by intro h;cases h)
 have hk:=aV rfl;have hj1:j+1<ts.length:=c.last j d.lt (by rw[<-k,hk];decide)
 simp only[if_true] at hf;refine gz ?_;obtain⟨b,XB,wE⟩:=d.tok c.toQ4;rw[<-k] at wE;have hb:=d.bw;rw[XB] at hb;refine eJ g2 (g2+1) λ hS=> ?_;refine yr 0 (.pointer (some ⟨g,0,none⟩)) hS ?_;refine yr 1 (.pointer (some ⟨g,0,none⟩)) hS ?_;refine yr 2 (.pointer (some ⟨g,0,none⟩)) hS ?_;refine Eh 3 (hb.cell 0 rfl) (by omega) hS ?_;refine yr 4 (.pointer (some ⟨g,0,none⟩)) hS ?_;refine yr 5 (.pointer (some ⟨g,0,none⟩)) hS ?_;refine yr 6 (.pointer (some ⟨g,1,none⟩)) hS ?_;refine Eh 7 (hb.cell 1 rfl) (by omega) hS ?_;refine yi 8 3 j d.lt hS ?_;refine yr 9 (.pointer (some ⟨b,0+j*3+1,none⟩)) hS ?_;refine Eh 10 (wE 1 _ rfl) ?_ hS ?_
 ·have:=c.toQ4.akR d.lt XB;omega
 refine yr 11 (.pointer (some ⟨g2,4,none⟩)) hS ?_;have Z:aa w w.drew:=(aa.refl w).drew;refine akQ 12 (b9.kept Z) (o:=4) (by simp) rfl (.inl ⟨aU _,Nat.lt_succ_self _⟩) hS λ vE L Q1 hS=>gB ?_;replace Q1:aD vE g2 #[.int .i64 (i:Int),.int .i64 (j:Int),.int .i64 0,.int .i64 0,.string t.text] 65:=Q1;have lu:=(d.kept Z).other L l J (by omega)
 have yI:=(XG.kept Z).ai L A;refine gz ?_;refine kB (lu.bw.cell 1 rfl) ?_;refine z2 (.int .i64 ((j+1:Nat):Int)) (hrun:=cu (by have:=lens c.toQ4 h4;omega)) ?_;refine gz ?_;refine fV (i:=1) lu.bw (by simp) rfl λ Hr Dv b11=> ?_;have pM:=lu.set c.toQ4 hj1 (Nat.le_succ j) Dv b11;have XH:=Q1.ai Dv l;have FO:=yI.ai Dv O;refine gz ?_;refine kB (pM.bw.cell 1 rfl) ?_;refine gz ?_;refine fV (i:=2) XH (by simp) rfl λ T xV s=> ?_;replace s:aD T g2 #[.int .i64 (i:Int),.int .i64 (j:Int),.int .i64 ((j+1:Nat):Int),.int .i64 0,.string t.text] 65:=s;have q:=pM.other xV l J (by omega)
 have FR:=FO.ai xV A;have G:=ff J;have H:=ff o1;refine gz ?_;have akT:=FR.lt;have akU:=s.lt;rcases hf with⟨j',hf,rfl⟩|⟨y,j',v',hf,rfl⟩
 ·rcases uq hf with⟨j2,a,he⟩|⟨e1,j2,u2,a,⟨j3,B,-⟩|⟨y3,j3,u3,-,he⟩⟩
  ·cases he
   refine jX 174 _ ((uk num (c.later q) n).1 (j+1) T Q6 Q7 _ _ (.bad j') q.later (by simp only[a];rfl)) ?_;rintro e S ⟨rfl,Ss⟩
   exact .inr ⟨_,rfl,rfl,rfl,q.zM Ss⟩
  ·exact absurd (iG B) (by intro h;cases h)
  ·cases he
 rcases uq hf with⟨j2,a,he⟩|⟨e1,j2,u2,a,⟨j3,B,-⟩|⟨y3,j3,u3,B,he⟩⟩
 ·cases he
 ·exact absurd (iG B) (by intro h;cases h)
 cases B
 cases he
 refine jX 174 _ ((uk num (c.later q) n).1 (j+1) T Q6 Q7 _ _ (.ok () j' u2) q.later (by simp only[a];rfl)) ?_;rintro e S ⟨⟨v,rfl⟩,V,U,F⟩
 refine .inl ⟨_,rfl,?_⟩
 have XI:=q.back F;have abC:=F.kb.bw FR O H;have akX:=F.kb.bw s l G;have X:=F.re akU G;have Y:=F.re akT H;refine gz ?_;refine kB (XI.bw.cell 1 rfl) ?_;refine gz ?_;refine fV (i:=3) akX (by simp) rfl λ R ZN I=> ?_;replace I:aD R g2 #[.int .i64 (i:Int),.int .i64 (j:Int),.int .i64 ((j+1:Nat):Int),.int .i64 (j':Int),.string t.text] 65:=I;have h14:=XI.other ZN l X (by omega)
 have akZ:=abC.ai ZN A;refine gz ?_;refine zl I.range Ep ?_;refine zt akZ (by exact Ep) Ep λ w15 k15 KU=> ?_;have h15:=h14.other k15 O Y (by omega)
 refine gz ?_;refine ej KU Ep ⟨⟨_,rfl,rfl⟩,V,U,?_⟩
 rw[List.append_nil,iC,iC,<-rU,<-rU]
 exact h15
end
theorem af.vC{w1 w2:World}(h:af w w1 g)(k:af w1 w2 b)(hb:w.heap.size<=b):af w w2 g:=
 ⟨jP h.size k.size,λ c hc a=>(k.old c (jf hc h.size) (by omega)).trans (h.old c hc a),k.tape.trans h.tape,k.os.trans h.os,k.output.trans h.output⟩
theorem aa.FU{w1 w2:World}(h:aa w w1)(k:af w1 w2 g):af w w2 g:=af.cX (af.aR (af.refl w g) h) k
structure lQ where
 neg:Bool
 inf:Bool
 at':Nat
def LY(x:lQ):Array Value:=#[.bool x.neg,.bool x.inf,.int .i64 (x.at':Int)]
theorem jb{a b:Bool}{c:Int}:dY 240 #[.bool a,.bool b,.int .i64 c]:=⟨by kernel_rfl,by simp[Value.oneCell']⟩
def abE:Array Value:=#[.bool false,.bool false,.int .i64 0]
def nJ(ts:List aS)(k i:Nat):Option (PR Nat):=if ((ar ts i).kind==k)=true then some (.ok i (i+1) []) else some (.bad i)
def ql(ts:List aS)(i:Nat):Option (PR lQ):=
 if bF (ar ts i) [45]=true then(nJ ts 0 (i+1)).map (PR.map λ p=>⟨true,false,p⟩) else(nJ ts 0 i).map (PR.map λ p=>⟨false,false,p⟩)
def Rc:List UInt8:=[105,110,102]
def AK(ts:List aS)(i:Nat):Option (PR lQ):=
 if bF (ar ts i) Rc=true then(cG ts [41] (i+1)).map (PR.map λ _=>⟨false,true,0⟩) else cf (ql ts i) λ x j=>(cG ts [93] j).map (PR.map λ _=>x)
structure cp where
 name:Nat
 lo:lQ
 hi:lQ
def lD(ts:List aS)(i:Nat):Option (PR cp):=
 cf (nJ ts 1 i) λ nm j=>cf (cG ts [105,110] j) λ _ j=>
  cf (if bF (ar ts j) [40]=true then cf (cG ts [45] (j+1)) λ _ j=>(cG ts Rc j).map (PR.map λ _=>(⟨false,true,0⟩:lQ)) else cf (cG ts [91] j) λ _ j=>ql ts j) λ lo j=>
  cf (cG ts [44] j) λ _ j=>(AK ts j).map (PR.map λ hi=>⟨nm,lo,hi⟩)
def iY(x:cp):Array Value:=#[.int .i64 (x.name:Int),.bool x.lo.neg,.bool x.lo.inf,.int .i64 (x.lo.at':Int),.bool x.hi.neg,.bool x.hi.inf,.int .i64 (x.hi.at':Int)]
section
variable{E:Nat->Bool}{W0 W:World}{g:Nat}{ta:Option Addr}{tc:Nat}{ts:List aS}{i:Nat}{ve vi:Value}{ex ix:List Nat}
theorem du.mE(h:du E W0 W g ta tc ts i ve vi ex ix)(hb:W.heap.size<=b):ve.ownBlock≠some b/\vi.ownBlock≠some b:=
 ⟨λ h1=>by have:=(World.ownsRow.lt h.oe b h1).2;omega,λ h1=>by have:=(World.ownsRow.lt h.oi b h1).2;omega⟩
theorem rI(c:FM E W0 g ta tc ts)(h:du E W0 W g ta tc ts i ve vi ex ix)(x:ByteArray){r:PR Unit}(hr:cG ts x.data.toList i=some r):Calls prog 265 #[.pointer (some ⟨g,0,none⟩),.string x] W λ e W'=>match r with
 | .ok _ j _=>(∃v,e= .returned v)/\du E W0 W' g ta tc ts j ve vi ex ix/\af W W' g
 | .bad j=>e= .panicked (oZ (ar ts j).at')/\KE E W0 W' g:=by
 refine Calls.mono (mn c h x) λ e w' h1=> ?_;unfold cG at hr;by_cases a:bF (ar ts i) x.data.toList=true
 ·rw[if_pos a] at h1 hr;obtain rfl:=iG hr;exact h1
 ·rw[if_neg a] at h1 hr;obtain rfl:=iG hr;exact h1
def RdK{α:Type}(E:Nat->Bool)(W0 W:World)(g:Nat)(ta:Option Addr)(tc:Nat)(ts:List aS)(ve vi:Value)(ex ix:List Nat)(ak:α->Value)(r:PR α)(e:Ending)(W':World):Prop:=match r with
 | .ok x j _=>e= .returned (ak x)/\du E W0 W' g ta tc ts j ve vi ex ix/\af W W' g
 | .bad j=>e= .panicked (oZ (ar ts j).at')/\KE E W0 W' g
theorem Mw(c:Q4 E W0 g ta tc ts)(h:du E W0 W g ta tc ts i ve vi ex ix){k:Nat}(b:k≠4){r:PR Nat}(hr:nJ ts k i=some r):Calls prog 97 #[.pointer (some ⟨g,0,none⟩),.int .i64 (k:Int)] W (RdK E W0 W g ta tc ts ve vi ex ix (λ p:Nat=>.int .i64 (p:Int)) r):=by
 refine Calls.mono (sZ c h k) λ e w' h1=> ?_;unfold nJ at hr;by_cases a:((ar ts i).kind==k)=true
 ·rw[if_pos a] at h1 hr;obtain rfl:=iG hr;exact⟨h1.1,h.set c (c.last i h.lt (by rw[eq_of_beq a];exact b)) (Nat.le_succ i) h1.2.1 h1.2.2,h1.2.1⟩
 ·rw[if_neg a] at h1 hr;obtain rfl:=iG hr;exact h1
theorem oA(c:FM E W0 g ta tc ts)(h:du E W0 W g ta tc ts i ve vi ex ix){r:PR lQ}(hr:ql ts i=some r):Calls prog 266 #[.pointer (some ⟨g,0,none⟩)] W (RdK E W0 W g ta tc ts ve vi ex ix (λ x=>.agg (LY x)) r):=by
 have C:=h.bw.lt;refine ct 9 func266 rfl ntmps266 ?_;refine gz ?_;refine za abE 240 λ B g1 e1 l z q1=> ?_;have d:g1≠g:=by omega
 have h1:=h.kept l;refine gz ?_;refine zc 94 _ (cI c.toQ4 h1 ⟨#[45]⟩) ?_;rintro e n ⟨u,b,rfl,h2,k⟩
 refine⟨_,rfl,?_⟩
 replace b:u=bF (ar ts i) [45]:=b;have y:=z.ai k d;obtain⟨p,h3,hr⟩:∃p,du E W0 n g ta tc ts p ve vi ex ix/\(nJ ts 0 p).map (PR.map λ p=>(⟨u,false,p⟩:lQ))=some r:=by
  unfold ql at hr;rw[<-b] at hr;cases u
  ·rw[if_neg iZ] at hr;exact⟨_,h2,hr⟩
  ·rw[if_pos rfl] at hr;exact⟨_,h2,hr⟩
 clear h2 b;refine gz ?_;obtain⟨r',o,rfl⟩:=Option.map_eq_some_iff.1 hr;refine jX 97 _ (Mw c.toQ4 h3 (by decide) o) ?_;cases r' with
 |bad j=>
  rintro e m ⟨rfl,a⟩
  exact .inr ⟨_,rfl,rfl,rfl,a⟩
 |ok q j v=>
  rintro e m ⟨rfl,s,a⟩
  refine .inl ⟨_,rfl,?_⟩
  have w:=y.ai a d;refine zr (.agg #[.bool u,.bool false,.int .i64 (q:Int)]) ?_;refine zt w jb jb λ A f t=> ?_;refine gz ?_;exact ej t jb ⟨rfl,s.other f d (h.mE (by omega)) (by have:=h.kb.size;omega),af.vC (af.cX (aa.FU l k) a) f (by omega)⟩
theorem Mx(c:FM E W0 g ta tc ts)(h:du E W0 W g ta tc ts i ve vi ex ix){r:PR lQ}(hr:AK ts i=some r):Calls prog 267 #[.pointer (some ⟨g,0,none⟩)] W (RdK E W0 W g ta tc ts ve vi ex ix (λ x=>.agg (LY x)) r):=by
 have XF:=h.bw.lt;have Su:=h.kb.size;refine ct 13 func267 rfl ntmps267 ?_;refine gz ?_;refine za abE 240 λ V g1 e1 o K q1=> ?_;have k:g1≠g:=by omega
 have h1:=h.kept o;refine gz ?_;refine zc 94 _ (cI c.toQ4 h1 ⟨#[105,110,102]⟩) ?_;rintro e G ⟨u,s,rfl,h2,n⟩
 refine⟨_,rfl,?_⟩
 replace s:u=bF (ar ts i) Rc:=s;have J:=K.ai n k;unfold AK at hr;rw[<-s] at hr;clear s;cases u
 case true=>
  rw[if_pos rfl] at hr;replace h2:du E W0 G g ta tc ts (i+1) ve vi ex ix:=h2;obtain⟨r',t,rfl⟩:=Option.map_eq_some_iff.1 hr;refine gz ?_;refine jX 265 _ (rI c h2 ⟨#[41]⟩ t) ?_;cases r' with
  |bad j=>
   rintro e w ⟨rfl,d⟩
   exact .inr ⟨_,rfl,rfl,rfl,d⟩
  |ok q j v=>
   rintro e w ⟨⟨v,rfl⟩,B,d⟩
   refine .inl ⟨_,rfl,?_⟩
   have F:=J.ai d k;refine gz ?_;refine zr (.agg #[.bool false,.bool true,.int .i64 0]) ?_;refine zt F jb jb λ N f D=> ?_;refine gz ?_;exact ej D jb ⟨rfl,B.other f k (h.mE (by omega)) (by omega),af.vC (af.cX (aa.FU o n) d) f (by omega)⟩
 rw[if_neg iZ] at hr;replace h2:du E W0 G g ta tc ts i ve vi ex ix:=h2;refine gz ?_;rcases uq hr with⟨j,ha,rfl⟩|⟨x,j,u,ha,hf⟩
 ·refine jX 266 _ (oA c h2 ha) ?_;rintro e w ⟨rfl,d⟩
  exact .inr ⟨_,rfl,rfl,rfl,d⟩
 refine jX 266 _ (oA c h2 ha) ?_;rintro e w ⟨rfl,B,d⟩
 refine .inl ⟨_,rfl,?_⟩
 have F:=J.ai d k;have X:=d.size;have s2:=n.size;have s1:=o.size;have Z:=K.lt;refine za abE 240 λ N I e5 f D Y=> ?_;have m:I≠g:=by omega
 have A:g1≠I:=by omega
 refine zt D (jb (a:=false) (b:=false) (c:=0)) jb λ M z b6=> ?_;have P:=(B.kept f).other z m (h.mE (by omega)) (by omega)
 have S:=(F.kept f).ai z A;have T:af W M g:=af.vC (af.aR (af.cX (aa.FU o n) d) f) z (by omega)
 refine gz ?_;obtain⟨r',t⟩:∃r',cG ts [93] j=some r':=by unfold cG;split<;>exact⟨_,rfl⟩
 rw[t] at hf;refine jX 265 _ (rI c P ⟨#[93]⟩ t) ?_;cases r' with
 |bad j'=>
  rintro e L ⟨rfl,l⟩
  refine .inr ⟨_,rfl,?_⟩
  rcases hf with⟨p,hf,rfl⟩|⟨y,p,v',hf,-⟩
  ·obtain rfl:j'=p:=by simpa [PR.map] using hf
   exact⟨rfl,rfl,l⟩
  ·cases hf
 |ok q j' v=>
  rintro e L ⟨⟨v,rfl⟩,O,l⟩
  refine .inl ⟨_,rfl,?_⟩
  have R:=S.ai l k;have C:=b6.ai l m;refine gz ?_;refine zl C.range jb ?_;refine zt R jb jb λ U H Q=> ?_;refine gz ?_;rcases hf with⟨p,hf,-⟩|⟨y,p,v',hf,rfl⟩
  ·cases hf
  ·cases hf
   exact ej Q jb ⟨rfl,O.other H k (h.mE (by omega)) (by omega),af.vC (af.cX T l) H (by omega)⟩
end
theorem iP{α β:Type}{x:α}{i:Nat}{f:α->Nat->Option (PR β)}:cf (some (.ok x i [])) f=f x i:=by
 simp only[cf]
 cases f x i with
 |none=>rfl
 |some y=>cases y<;>rfl
def Dx{α:Type}(a:Option (PR α)):Prop:=(∃x j,a=some (.ok x j []))∨∃j,a=some (.bad j)
theorem Dx.map{α β:Type}{a:Option (PR α)}(h:Dx a)(f:α->β):Dx (a.map (PR.map f)):=by
 rcases h with⟨x,j,rfl⟩|⟨j,rfl⟩
 ·exact .inl ⟨_,_,rfl⟩
 ·exact .inr ⟨_,rfl⟩
theorem Dx.seq{α β:Type}{a:Option (PR α)}{f:α->Nat->Option (PR β)}(h:Dx a)(hf:∀x j,Dx (f x j)):Dx (cf a f):=by
 rcases h with⟨x,j,rfl⟩|⟨j,rfl⟩
 ·rw[iP];exact hf x j
 ·exact .inr ⟨_,rfl⟩
theorem Dx.ite{α:Type}{c:Prop} [Decidable c]{a b:Option (PR α)}(ha:Dx a)(hb:Dx b):Dx (if c then a else b):=by split<;>assumption
theorem xh(ts:List aS)(k i:Nat):Dx (nJ ts k i):=Dx.ite (.inl ⟨_,_,rfl⟩) (.inr ⟨_,rfl⟩)
theorem gR(ts:List aS)(b:List UInt8)(i:Nat):Dx (cG ts b i):=Dx.ite (.inl ⟨_,_,rfl⟩) (.inr ⟨_,rfl⟩)
theorem Cp(ts:List aS)(i:Nat):Dx (ql ts i):=Dx.ite ((xh ..).map _) ((xh ..).map _)
theorem XJ(ts:List aS)(i:Nat):Dx (AK ts i):=Dx.ite ((gR ..).map _) ((Cp ..).seq λ _ _=>(gR ..).map _)
theorem Cq(ts:List aS)(i:Nat):Dx (lD ts i):=
 (xh ..).seq λ _ _=>(gR ..).seq λ _ _=>Dx.seq (Dx.ite ((gR ..).seq λ _ _=>(gR ..).map _) ((gR ..).seq λ _ _=>Cp ..)) λ _ _=>(gR ..).seq λ _ _=>(XJ ..).map _
theorem vJ{n:Int}{a b c d:Bool}{x y:Int}:dY 242 #[.int .i64 n,.bool a,.bool b,.int .i64 x,.bool c,.bool d,.int .i64 y]:=⟨by kernel_rfl,by simp[Value.oneCell']⟩
theorem ur(x:cp):dY 242 (iY x):=⟨by kernel_rfl,by simp[iY,Value.oneCell']⟩
def QV:Array Value:=#[.int .i64 0,.bool false,.bool false,.int .i64 0,.bool false,.bool false,.int .i64 0]
section
variable{E:Nat->Bool}{W0 W:World}{g:Nat}{ta:Option Addr}{tc:Nat}{ts:List aS}{i:Nat}{ve vi:Value}{ex ix:List Nat}
theorem oB(c:FM E W0 g ta tc ts)(h:du E W0 W g ta tc ts i ve vi ex ix){r:PR cp}(hr:lD ts i=some r):Calls prog 177 #[.pointer (some ⟨g,0,none⟩)] W (RdK E W0 W g ta tc ts ve vi ex ix (λ x=>.agg (iY x)) r):=by
 have XF:=h.bw.lt;have Su:=h.kb.size;unfold lD at hr;refine ct 27 func177 rfl ntmps177 ?_;refine gz ?_;refine za QV 242 λ w1 g1 e1 Q b1 q1=> ?_;have m:g1≠g:=by omega
 have h1:=h.kept Q;refine gz ?_;rcases xh ts 1 i with⟨nm,j,ha⟩|⟨j,ha⟩
 case inr=>
  rw[ha] at hr;obtain rfl:PR.bad j=r:=iG hr;refine jX 97 _ (Mw c.toQ4 h1 (by decide) ha) ?_;rintro e Z ⟨rfl,q⟩
  exact .inr ⟨_,rfl,rfl,rfl,q⟩
 rw[ha,iP] at hr;refine jX 97 _ (Mw c.toQ4 h1 (by decide) ha) ?_;rintro e w2 ⟨rfl,h2,P⟩
 refine .inl ⟨_,rfl,?_⟩
 have H:=b1.ai P m;have s1:=Q.size;have s2:=P.size;have Wb:=b1.lt;refine zr (.agg #[.int .i64 (nm:Int),.bool false,.bool false,.int .i64 0,.bool false,.bool false,.int .i64 0]) ?_;refine za QV 242 λ w3 g3 e3 O b3 q3=> ?_;have f:g3≠g:=by omega
 have S:g1≠g3:=by omega
 refine zt b3 (vJ (n:=0) (a:=false) (b:=false) (c:=false) (d:=false) (x:=0) (y:=0)) vJ λ Z q b4=> ?_;have h4:=(h2.kept O).other q f (h.mE (by omega)) (by omega)
 have Du:=(H.kept O).ai q S;have K4:af W Z g:=af.vC (af.aR (aa.FU Q P) O) q (by omega)
 have B:=h.mE (b:=g3) (by omega)
 have Wj:=h.mE (b:=g1) (by omega)
 have C:W.heap.size<=g3:=by omega
 have hW1:W.heap.size<=g1:=by omega
 clear h1 h2 b1 H Q P b3 O q s1 s2 e3 e1 q1 q3 Wb;refine gz ?_;rcases gR ts [105,110] j with⟨_,A,ha⟩|⟨A,ha⟩
 case inr=>
  rw[ha] at hr;obtain rfl:PR.bad A=r:=iG hr;refine jX 265 _ (rI c h4 ⟨#[105,110]⟩ ha) ?_;rintro e w5 ⟨rfl,F⟩
  exact .inr ⟨_,rfl,rfl,rfl,F⟩
 rw[ha,iP] at hr;refine jX 265 _ (rI c h4 ⟨#[105,110]⟩ ha) ?_;rintro e w5 ⟨⟨v,rfl⟩,h5,F⟩
 refine .inl ⟨_,rfl,?_⟩
 have KU:=Du.ai F m;have b5:=b4.ai F f;have K5:=af.cX K4 F;clear h4 Du b4 K4 F;refine gz ?_;refine zc 94 _ (cI c.toQ4 h5 ⟨#[40]⟩) ?_;rintro e w6 ⟨u,R,rfl,p,N⟩
 refine⟨_,rfl,?_⟩
 replace R:u=bF (ar ts A) [40]:=R;rw[<-R] at hr;clear R;have Hs:=KU.ai N m;have b6:=b5.ai N f;have K6:=af.cX K5 N;clear h5 KU b5 K5 N;refine gz ?_;refine IF (σ:=lQ×Nat) (λ _=>[(0,.pointer (some ⟨g,0,none⟩)),(2,.pointer (some ⟨g1,0,none⟩)),(3,.pointer (some ⟨g3,0,none⟩))])
  (λ s w'=>du E W0 w' g ta tc ts s.2 ve vi ex ix/\aD w' g1 QV 242/\aD w' g3 #[.int .i64 (nm:Int),.bool s.1.neg,.bool s.1.inf,.int .i64 (s.1.at':Int),.bool false,.bool false,.int .i64 0] 242/\af W w' g/\
    (cf (cG ts [44] s.2) λ _ j=>(AK ts j).map (PR.map λ hi=>(⟨nm,s.1,hi⟩:cp)))=some r)
  (λ ch w'=>∃j,r= .bad j/\ch=oZ (ar ts j).at'/\KE E W0 w' g) (λ Q' hN T=> ?_) (λ l' M ⟨lo,j9⟩ ⟨U,XG,D,K9,G⟩=> ?_) (λ ch l' Z ⟨j,hj,hch,q⟩=>by subst hj hch;exact⟨rfl,rfl,q⟩)
 ·cases u
  case true=>
   rw[if_pos rfl] at hr;replace p:du E W0 w6 g ta tc ts (A+1) ve vi ex ix:=p;refine gz ?_;rcases gR ts [45] (A+1) with⟨_,z,ha⟩|⟨z,ha⟩
   case inr=>
    rw[ha] at hr;obtain rfl:PR.bad z=r:=iG hr;refine jX 265 _ (rI c p ⟨#[45]⟩ ha) ?_;rintro e Y ⟨rfl,l⟩
    exact .inr ⟨_,rfl,T _ _ _ ⟨_,rfl,rfl,l⟩⟩
   rw[ha,iP] at hr;refine jX 265 _ (rI c p ⟨#[45]⟩ ha) ?_;rintro e Y ⟨⟨v,rfl⟩,L,l⟩
   refine .inl ⟨_,rfl,?_⟩
   refine gz ?_;rcases gR ts Rc z with⟨_,t,ha⟩|⟨t,ha⟩
   case inr=>
    rw[ha] at hr;obtain rfl:PR.bad t=r:=iG hr;refine jX 265 _ (rI c L ⟨#[105,110,102]⟩ ha) ?_;rintro e X ⟨rfl,k⟩
    exact .inr ⟨_,rfl,T _ _ _ ⟨_,rfl,rfl,k⟩⟩
   rw[ha] at hr;replace hr:cf (some (PR.ok (⟨false,true,0⟩:lQ) t [])) _=some r:=hr;rw[iP] at hr;refine jX 265 _ (rI c L ⟨#[105,110,102]⟩ ha) ?_;rintro e X ⟨⟨v,rfl⟩,h8,k⟩
   refine .inl ⟨_,rfl,?_⟩
   have Tw:=(Hs.ai l m).ai k m;have b8:=(b6.ai l f).ai k f;refine gz ?_;refine fV (i:=2) b8 (by simp) rfl λ M w D=> ?_;refine gz ?_;exact hN _ _ (⟨false,true,0⟩,t) ⟨rfl,rfl,rfl,trivial⟩ ⟨h8.other w f B (by omega),Tw.ai w S,D,af.vC (af.cX (af.cX K6 l) k) w C,hr⟩
  rw[if_neg iZ] at hr;replace p:du E W0 w6 g ta tc ts A ve vi ex ix:=p;refine gz ?_;rcases gR ts [91] A with⟨_,z,ha⟩|⟨z,ha⟩
  case inr=>
   rw[ha] at hr;obtain rfl:PR.bad z=r:=iG hr;refine jX 265 _ (rI c p ⟨#[91]⟩ ha) ?_;rintro e Y ⟨rfl,l⟩
   exact .inr ⟨_,rfl,T _ _ _ ⟨_,rfl,rfl,l⟩⟩
  rw[ha,iP] at hr;refine jX 265 _ (rI c p ⟨#[91]⟩ ha) ?_;rintro e Y ⟨⟨v,rfl⟩,L,l⟩
  refine .inl ⟨_,rfl,?_⟩
  refine gz ?_;rcases Cp ts z with⟨lo,t,ha⟩|⟨t,ha⟩
  case inr=>
   rw[ha] at hr;obtain rfl:PR.bad t=r:=iG hr;refine jX 266 _ (oA c L ha) ?_;rintro e X ⟨rfl,k⟩
   exact .inr ⟨_,rfl,T _ _ _ ⟨_,rfl,rfl,k⟩⟩
  rw[ha,iP] at hr;refine jX 266 _ (oA c L ha) ?_;rintro e X ⟨rfl,h8,k⟩
  refine .inl ⟨_,rfl,?_⟩
  have Tw:=(Hs.ai l m).ai k m;have b8:=(b6.ai l f).ai k f;refine gz ?_;refine ztp (o:=1) b8 (V:=LY lo) jb (λ M w D=> ?_) (by exact Nat.le_of_ble_eq_true rfl)
  refine gz ?_;exact hN _ _ (lo,t) ⟨rfl,rfl,rfl,trivial⟩ ⟨h8.other w f B (by omega),Tw.ai w S,D,af.vC (af.cX (af.cX K6 l) k) w C,hr⟩
 replace U:du E W0 M g ta tc ts j9 ve vi ex ix:=U;replace D:aD M g3 #[.int .i64 (nm:Int),.bool lo.neg,.bool lo.inf,.int .i64 (lo.at':Int),.bool false,.bool false,.int .i64 0] 242:=D;replace G:(cf (cG ts [44] j9) λ _ j=>(AK ts j).map (PR.map λ hi=>(⟨nm,lo,hi⟩:cp)))=some r:=G;clear hr p Hs b6 K6;refine gz ?_;rcases gR ts [44] j9 with⟨_,K,ha⟩|⟨K,ha⟩
 case inr=>
  rw[ha] at G;obtain rfl:PR.bad K=r:=iG G;refine jX 265 _ (rI c U ⟨#[44]⟩ ha) ?_;rintro e vE ⟨rfl,J⟩
  exact .inr ⟨_,rfl,rfl,rfl,J⟩
 rw[ha,iP] at G;refine jX 265 _ (rI c U ⟨#[44]⟩ ha) ?_;rintro e vE ⟨⟨v,rfl⟩,lu,J⟩
 refine .inl ⟨_,rfl,?_⟩
 have yI:=XG.ai J m;have Q1:=D.ai J f;have K10:=af.cX K9 J;refine gz ?_;obtain⟨r',rS,rfl⟩:=Option.map_eq_some_iff.1 G;refine jX 267 _ (Mx c lu rS) ?_;cases r' with
 |bad j=>
  rintro e Hr ⟨rfl,I⟩
  exact .inr ⟨_,rfl,rfl,rfl,I⟩
 |ok hi j v=>
  rintro e Hr ⟨rfl,pM,I⟩
  refine .inl ⟨_,rfl,?_⟩
  have FO:=yI.ai I m;have b11:=Q1.ai I f;have K11:=af.cX K10 I;refine gz ?_;refine ztp (o:=4) b11 (V:=LY hi) jb (λ Wf xV H=> ?_) (by exact Nat.le_of_ble_eq_true rfl)
  replace H:aD Wf g3 (iY ⟨nm,lo,hi⟩) 242:=H;refine gz ?_;refine zl H.range (ur ⟨nm,lo,hi⟩) ?_;refine zt (FO.ai xV S) (vJ (n:=0) (a:=false) (b:=false) (c:=false) (d:=false) (x:=0) (y:=0)) (ur ⟨nm,lo,hi⟩) λ w13 Ss pU=> ?_;refine gz ?_;exact ej pU (ur ⟨nm,lo,hi⟩) ⟨rfl,(pM.other xV f B (by omega)).other Ss m Wj (by omega),af.vC (af.vC K11 xV C) Ss hW1⟩
end
end
end Go.Proofs.YtbapfnpbamnmpaaGreatDoor
