/- A part of the proof that the text which Print makes of a parsed text is a normal form -/
import Derived.Test.YtbapfnpbamnmpaaGreatDoorP00
import Derived.Test.YtbapfnpbamnmpaaGreatDoorP21
import Derived.Test.YtbapfnpbamnmpaaGreatDoorP35
import Derived.Test.YtbapfnpbamnmpaaGreatDoorP29
import Derived.Lib.AppendZeros
import Derived.Deep.Upon
import Derived.Test.YtbapfnpbamnmpaaGreatDoorP07
set_option maxHeartbeats 8000000
set_option maxRecDepth 100000
namespace Go.Proofs.YtbapfnpbamnmpaaGreatDoor
open Go Go.RowKit Go.Dig Go.Deep Go.Eng Go.Proofs.Tryz
variable{ts:List aS}{W w:World}{y:cW}{cd:Value}{l:Fm}{B b cap m n:Nat}{oi:Oper}{cs:List Value}{L:List aL}
section
attribute [local irreducible] wpList
def ia(ts:List aS)(x:cp):im:=⟨oW ts x.lo,mm ts x.lo,nY ts x.lo,oW ts x.hi,mm ts x.hi,nY ts x.hi,x.lo.inf,x.hi.inf⟩
def dR(ts:List aS)(x:cp):aL:=⟨(ar ts x.name).text,hO (ia ts x)⟩
theorem IQ:∀(l:List cp)(k:Nat)(h:k<l.length)(j:Nat)(v:Value),(iY l[k]).toList[j]? =some v->(jU l)[k*7+j]? =some v
 |c::cs,0,_,j,v,hv=>by
  have a:j<7:=by
   rcases Nat.lt_or_ge j 7 with h|h
   ·exact h
   ·rw[List.getElem?_eq_none (by simpa [iY] using h)] at hv;cases hv
  show((iY c).toList++jU cs)[0*7+j]? =_;rw[Nat.zero_mul,lp,List.getElem?_append_left (by simpa [iY] using a)]
  exact hv
 |c::cs,k+1,h,j,v,hv=>by
  have ih:=IQ cs k (Nat.lt_of_succ_lt_succ h) j v hv;show((iY c).toList++jU cs)[(k+1)*7+j]? =_;rw[List.getElem?_append_right (by simp[iY];omega),<-ih]
  congr 1;simp[iY]
  omega
theorem QU(l:List cp):(jU l).length=l.length*7:=by
 induction l with
 |nil=>rfl
 |cons c cs ih=>
  show((iY c).toList++jU cs).length=_;rw[gJ,ih]
  simp[iY]
  omega
theorem wT:bn 1=true:=by
 unfold bn;exact cU (mK _ (by decide))
theorem L4(N D:Nat):decide (0<rN N D)=decide (0<N):=by
 rw[decide_eq_decide]
 unfold rN;have b:0<Nat.gcd N (dn D):=Nat.gcd_pos_of_pos_right _ (by unfold dn;split<;>omega)
 constructor
 ·intro h;rcases Nat.eq_zero_or_pos N with a|a
  ·rw[a,Nat.zero_div] at h;exact absurd h (Nat.lt_irrefl 0)
  ·exact a
 ·intro h;exact Nat.div_pos (Nat.le_of_dvd h (Nat.gcd_dvd_left _ _)) b
theorem jk:aX 0 0=true:=by
 have h1:rN 0 0=0:=by decide
 have h2:rD 0 0=1:=by decide
 have h3:=wT;have b:bn 0=true:=by
  unfold bn;exact cU (jt _)
 have a:(0:Nat)<iy 2 8192:=jt _;unfold aX;rw[h1,h2,h3,b,cU a]
 rfl
theorem IU:aX 1 0=true:=by
 have h1:rN 1 0=1:=by decide
 have h2:rD 1 0=1:=by decide
 have h3:=wT;have b:(0:Nat)<iy 2 8192:=jt _;have a:(1:Nat)<iy 2 8192:=mK _ (by decide)
 unfold aX;rw[h1,h2,h3,cU b,cU a]
 rfl
theorem Ei{i:im}(hf:i.fine=true):(hO i).void=i.void/\(hO i).fine=true:=by
 have a:=hf;unfold im.fine at a;simp only[fv] at a;by_cases hv:i.void=true
 ·have e:hO i=⟨false,1,0,false,0,0,false,false⟩:=by unfold hO;rw[if_pos hv]
  rw[e,hv]
  refine⟨?_,?_⟩
  ·unfold im.void;show(!false&& !false&&decide (0<wU (false&&decide (0<1)) (rN 1 0) (rD 1 0) (false&&decide (0<0)) (rN 0 0) (rD 0 0)))=true;rw[wV]
   decide
  ·show(aX 1 0&&aX 0 0)=true;rw[IU,jk]
   rfl
 ·obtain⟨s1,N1,D1,s2,N2,D2,li,hi⟩:=i;have e:hO ⟨s1,N1,D1,s2,N2,D2,li,hi⟩=⟨!li&&(s1&&decide (0<N1)),if li=true then 0 else rN N1 D1,if li=true then 0 else cD N1 D1,!hi&&(s2&&decide (0<N2)),if hi=true then 0 else rN N2 D2,if hi=true then 0 else cD N2 D2,li,hi⟩:=by unfold hO;rw[if_neg hv]
  rw[e]
  have f1:aX N1 D1=true:=a.1;have b:aX N2 D2=true:=a.2;refine⟨?_,?_⟩
  ·unfold im.void;cases li
   ·cases hi
    ·simp only[Bool.not_false,Bool.true_and,Bool.false_eq_true,if_false]
     rw[Fz,L5,Fz,L5,L4,L4,Bool.and_assoc,Bool.and_self,Bool.and_assoc,Bool.and_self]
    ·simp
   ·simp
  ·show(aX (if li=true then 0 else rN N1 D1) (if li=true then 0 else cD N1 D1)&&aX (if hi=true then 0 else rN N2 D2) (if hi=true then 0 else cD N2 D2))=true;have g1:aX (if li=true then 0 else rN N1 D1) (if li=true then 0 else cD N1 D1)=true:=by
    split
    ·exact jk
    ·exact yB f1
   have g2:aX (if hi=true then 0 else rN N2 D2) (if hi=true then 0 else cD N2 D2)=true:=by
    split
    ·exact jk
    ·exact yB b
   rw[g1,g2]
   rfl
def pZ(ts:List aS)(l:List cp)(k:Nat)(x:cp):Bool:=(ia ts x).void||decide (0<=cH ((l.map (dR ts)).take k) 0 (ar ts x.name).text)||decide (k=6)
def lR(ts:List aS)(l:List cp):Nat->Nat->Option cp
 |0,_=>none
 |n+1,k=>match l[k]? with
  |none=>none
  |some x=>if pZ ts l k x=true then some x else lR ts l n (k+1)
def OJ(ts:List aS)(x:cp):Prop:=x.name<ts.length/\IL ts x.lo/\IL ts x.hi
theorem Ej{x:lQ}(h:IL ts x):aX (mm ts x) (nY ts x)=true:=by
 unfold mm nY;rcases h with h|⟨-,-,h⟩
 ·rw[h];exact jk
 ·split
  ·exact jk
  ·exact(yz h).1
theorem Xo{x:cp}(h:OJ ts x):(ia ts x).fine=true:=by
 show(aX (mm ts x.lo) (nY ts x.lo)&&aX (mm ts x.hi) (nY ts x.hi))=true;rw[Ej h.2.1,Ej h.2.2]
 rfl
theorem L6{g:Nat}{ta:Option Addr}{tc:Nat}(h:Ls W g ta tc ts)(hT:cL W){s:ByteArray}{bx:Value}(hc:∃a n c,cd= .slice a n c){l:List cp}(ho:W.ownsRow 0 242 7 bx l.length (jU l))(hx:∀x∈l,OJ ts x)(_:∀t∈ts,t.at'<=1000000):
 Calls prog 104 #[.agg (ef g s y bx cd)] W λ e W'=>aa W W'/\match lR ts l l.length 0 with
  |some x=>e= .returned (.tuple #[.slice none 0 0,.int .i64 ((ar ts x.name).at':Int),.int .i64 50])
  |none=>∃d a cap cs,e= .returned (.tuple #[.slice a (l.map (dR ts)).length cap,.int .i64 0,.int .i64 0])/\aa W d/\fW d W' d.heap.size 41 9 (.slice a (l.map (dR ts)).length cap) (l.map (dR ts)).length cs qc (l.map (dR ts)):=by
 have pL:∃a n c,bx= .slice a n c:=by
  obtain⟨a,cap,rfl,-⟩:=bI ho;exact⟨_,_,_,rfl⟩
 have D9:=qJ (g:=g) (s:=s) (x:=y) pL hc;have LF:=pT ho;unfold maxLen at LF;obtain⟨la,lc,rfl,hlc,hll,a8⟩:=bI ho;obtain⟨r,hr⟩:∃r,r=lR ts l l.length 0:=⟨_,rfl⟩
 rw[<-hr]
 obtain⟨L,hL⟩:∃L,L=l.map (dR ts):=⟨_,rfl⟩
 have hLn:L.length=l.length:=by rw[hL,List.length_map]
 rw[<-hL]
 refine ct 98 func104 rfl ntmps104 ?_;refine gz ?_;refine zb λ d g1 e1 E b1 q1=> ?_;have z1:=E.size;have fZ:_/\True:=⟨b1,trivial⟩
 refine gz ?_;refine kB (b1.cell 7 rfl) ?_;refine gz ?_;clear b1;refine dQ (σ:=Option Addr×Nat×List Value) l.length (λ k s=>[(1,.pointer (some ⟨g1,0,none⟩)),(5,.slice s.1 k s.2.1),(15,.slice la l.length lc),(16,.int .i64 (l.length:Int)),(17,.int .i64 (k:Int))])
  (λ k s W'=>aa d W'/\fW d W' d.heap.size 41 9 (.slice s.1 k s.2.1) k s.2.2 qc L/\lR ts l (l.length-k) k=r/\k<=6) (none,0,[]) ⟨rfl,rfl,rfl,rfl,rfl,trivial⟩ ⟨aa.refl d,fW.start ..,hr.symm,eo _⟩ λ fl wr k ⟨a3,dx,cs⟩ hk ⟨p,G,m,Ce⟩=> ?_
 replace G:fW d wr d.heap.size 41 9 (.slice a3 k dx) k cs qc L:=G;replace m:lR ts l (l.length-k) k=r:=m;replace p:aa d wr:=p;have zr0:=p.size;have jF:=λ g hg=>World.ownsRow.lt G.own g hg;refine gz ?_;by_cases Q:k<l.length;case neg=>
  refine cr false ?_ ?_
  ·exact gy (by omega)
  have ek:k=L.length:=by omega
  subst ek;refine gz ?_;rw[show l.length-L.length=0 by omega,lR] at m;subst m;refine lX ⟨E.trans p,d,a3,dx,cs,rfl,E,G⟩
 refine cr true ?_ ?_
 ·exact cU (by omega)
 obtain⟨x,lq⟩:∃x,x=l[k]:=⟨_,rfl⟩
 obtain⟨vw,Iv,Hq⟩:=hx x (lq▸List.getElem_mem Q)
 have ZF:(ia ts x).fine=true:=Xo ⟨vw,Iv,Hq⟩
 have hLk:L[k]? =some (dR ts x):=by rw[hL,List.getElem?_map,nW Q,lq];rfl
 obtain⟨lb,Oo,hla,-⟩:=a8 (k*7) (by rw[QU];omega)
 subst hla;have a7:wr.rangeAt lb (0+k*7) (iY x).toList:=λ j v hv=>by
  rw[lq] at hv;have h1:=IQ l k Q j v hv;have hj:k*7+j<(jU l).length:=by
   rcases Nat.lt_or_ge (k*7+j) (jU l).length with h2|h2
   ·exact h2
   ·rw[List.getElem?_eq_none h2] at h1;cases h1
  obtain⟨cb',-,he,h2⟩:=a8 (k*7+j) hj;obtain rfl:lb=cb':=by simpa using he
  rw[lp]
  exact(E.trans p).cell (h2.trans h1)
 refine gz ?_;refine zi (s:=7) k Q ?_;refine zl (V:=iY x) a7 vJ ?_;refine za QV 242 λ w2 g2 e2 k2 b2 q2=> ?_;refine zt b2 vJ vJ λ w3 k3 b3=> ?_;have z2:=k2.size;have z3:=k3.size;have S:aa wr w3:=k2.but k3 (by omega)
 clear b2 a7;obtain⟨tb,rfl,mQ⟩:=h.row vw;obtain⟨x1,x2,x3,uM⟩:=h.bw;have Ix:=uM.kept ((E.trans p).trans S)
 have pU:=fZ.1.kept (p.trans S)
 have hlen:=h.len;obtain⟨tk,P⟩:∃tk,tk=ar ts x.name:=⟨_,rfl⟩
 rw[<-P] at mQ;have r1:w3.rangeAt tb (0+x.name*3) (iH tk.kind tk.text tk.at').toList:=λ j v hv=>((E.trans p).trans S).cell (mQ j v hv)
 have zG:tb<w3.heap.size:=World.block_lt_of_cell? w3 _ (r1 0 _ rfl)
 clear uM mQ;refine gz ?_;refine eJ 0 0 λ hS=> ?_;refine jG 0 hS ?_;refine eA 1 (pU.cell 0 rfl) (by omega) hS ?_;refine mO 2 hS ?_;refine jG 3 hS ?_;refine eA 4 (Ix.cell 0 rfl) (by omega) hS ?_;refine jG 5 hS ?_;refine eA 6 (b3.cell 0 rfl) (by omega) hS ?_;refine Tb (s:=3) 7 x.name vw hS ?_;refine ylg 8 r1 (by omega) ⟨by kernel_rfl,by first|kernel_rfl|simp[Value.oneCell']⟩ hS ?_;refine ya 9 ZT 153 hS λ w4 g4 e4 k4 b4 q4 hS=> ?_;have kd:aa w3 w3.drew:=(aa.refl w3).drew;refine yt 10 b4 lC cA (.inr (by have:=kd.size;omega)) hS λ w5 k5 b5 hS=> ?_;refine gB ?_;have R:aa w3 w5:=(kd.trans k4).but k5 (by have:=kd.size;omega)
 have z5:=R.size;have h7:aD w5 g2 (iY x) 242/\True:=⟨b3.kept R,trivial⟩
 have QN:aD w5 g1 (ef g s y _ cd) 69/\True:=⟨pU.kept R,trivial⟩
 have M:=((E.trans p).trans S).trans R;clear b3 pU b4 Ix r1 fZ hS;refine gz ?_;refine zl QN.1.range D9 ?_;refine gz ?_;refine zl (V:=LY x.lo) (iB (o:=1) h7.1 λ j v hv=>by
  match j,hv with
  |0,hv=>exact hv
  |1,hv=>exact hv
  |2,hv=>exact hv) jb ?_
 refine zc 197 _ (Cb (s:=s) (y:=y) (h.kept M) (hT.kept M) pL hc Iv) ?_;rintro e w6 ⟨a1,n1,c1,a2,n2,c2,rfl,hR1,D⟩
 refine⟨_,rfl,?_⟩
 refine gz ?_;refine za ZR 24 λ w7 g7 e7 k7 b7 q7=> ?_;refine zt b7 cQ cQ λ w8 k8 b8=> ?_;have z6:=D.size;have z7:=k7.size;have B:aa w6 w8:=k7.but k8 (by omega)
 have z8:=B.size;have K:=(M.trans D).trans B;have H:aD w8 g2 (iY x) 242/\True:=⟨(h7.1.kept D).kept B,trivial⟩
 have h1b:aD w8 g1 (ef g s y _ cd) 69/\True:=⟨(QN.1.kept D).kept B,trivial⟩
 have b58:=(b5.kept D).kept B;clear b5 b7 h7 QN;refine gz ?_;refine cr false ?_ ?_
 ·rfl
 refine gz ?_;refine zl h1b.1.range D9 ?_;refine gz ?_;refine zl (V:=LY x.hi) (iB (o:=4) H.1 λ j v hv=>by
  match j,hv with
  |0,hv=>exact hv
  |1,hv=>exact hv
  |2,hv=>exact hv) jb ?_
 refine zc 197 _ (Cb (s:=s) (y:=y) (h.kept K) (hT.kept K) pL hc Hq) ?_;rintro e w9 ⟨J,n3,c3,a4,n4,c4,rfl,hR2,C⟩
 refine⟨_,rfl,?_⟩
 refine gz ?_;refine za ZR 24 λ wa ga ea ka ba qa=> ?_;refine zt ba cQ cQ λ z kb bb=> ?_;have z9:=C.size;have za0:=ka.size;have A:aa w9 z:=ka.but kb (by omega)
 have zb0:=A.size;have K0b:=(K.trans C).trans A;have F:aD z g2 (iY x) 242/\True:=⟨(H.1.kept C).kept A,trivial⟩
 have b8b:=(b8.kept C).kept A;have b5b:=(b58.kept C).kept A;clear ba b8 b58 H;refine gz ?_;refine cr false ?_ ?_
 ·rfl
 refine gz ?_;refine zl b8b.range ⟨by kernel_rfl,by first|kernel_rfl|simp[Value.oneCell']⟩ ?_;refine zl bb.range ⟨by kernel_rfl,by first|kernel_rfl|simp[Value.oneCell']⟩ ?_;refine gz ?_;refine kB (F.1.cell 2 rfl) ?_;refine gz ?_;refine kB (F.1.cell 5 rfl) ?_;refine zr (.agg #[.bool (oW ts x.lo),.slice a1 n1 c1,.slice a2 n2 c2,.bool (oW ts x.hi),.slice J n3 c3,.slice a4 n4 c4,.bool x.lo.inf,.bool x.hi.inf]) ?_;have hIv:AR z (.agg #[.bool (oW ts x.lo),.slice a1 n1 c1,.slice a2 n2 c2,.bool (oW ts x.hi),.slice J n3 c3,.slice a4 n4 c4,.bool x.lo.inf,.bool x.hi.inf]) (ia ts x):=
  ⟨a1,n1,c1,a2,n2,c2,J,n3,c3,a4,n4,c4,rfl,((hR1.sub (dP _ _)).kept (B.trans (C.trans A))),(hR2.sub (dP _ _)).kept A⟩
 refine zc 198 _ (Fy hIv ZF (hT.kept K0b)) ?_;rintro e wc ⟨U,rfl,oU,hU,kc⟩
 refine⟨_,rfl,?_⟩
 obtain⟨v1,m1,d1,v2,m2,d2,v3,m3,d3,v4,m4,d4,hUv⟩:=hU.shape;obtain rfl:=Value.agg.inj hUv;have zc0:=kc.size;refine gz ?_;refine za Z39 39 λ wd gd ed Y bd qd=> ?_;refine zt bd kL kL λ we ke be=> ?_;have zd0:=Y.size;have ze0:=ke.size;have u:aa wc we:=Y.but ke (by omega)
 have K0e:=(K0b.trans kc).trans u;have b5e:=(b5b.kept kc).kept u;have hUe:KY (aB we (sP z.heap.size [gd])) _ (hO (ia ts x)):=hU.sub (au λ b hb hs=>by
  have h0:z.heap.size<=b:=kC hs;exact⟨ou.2 ⟨h0,by simp;omega⟩,u.old b hb⟩)
 clear b5b bd b8b bb F;refine gz ?_;refine cr false ?_ ?_
 ·rfl
 refine gz ?_;refine zl be.range ⟨by kernel_rfl,by first|kernel_rfl|simp[Value.oneCell']⟩ ?_;obtain⟨oy,hcf⟩:=Ei ZF;obtain⟨vd,Z⟩:∃vd,vd=(ia ts x).void:=⟨_,rfl⟩
 rw[<-Z] at oy;refine zc 149 _ (uT (hUe.sub (dP _ _)).iv (hT.kept K0e)) ?_;rintro e wf ⟨rfl,O⟩
 rw[hcf,oy,Bool.true_and,if_pos rfl]
 refine⟨_,rfl,?_⟩
 have zf0:=O.size;have f:=K0e.trans O;have q:=b5e.kept O;have bef:=be.kept O;have hUf:KY (aB wf (sP z.heap.size [gd])) _ (hO (ia ts x)):=hUe.sub (jS O)
 have K1f:aa wr wf:=(((((S.trans R).trans D).trans B).trans (C.trans A)).trans (kc.trans u)).trans O;have Gf:=G.kept jV K1f;clear b5e be;have Xp:pZ ts l k x=(vd||decide (0<=cH (L.take k) 0 tk.text)||decide (k=6)):=by unfold pZ;rw[hL,P,Z]
 have IV:lR ts l (l.length-k) k=if pZ ts l k x=true then some x else lR ts l (l.length-(k+1)) (k+1):=by
  rw[show l.length-k=(l.length-(k+1))+1 by omega,lR,nW Q,<-lq]
 rw[Xp] at IV;rw[IV] at m;refine gz ?_;refine cr false ?_ ?_
 ·rfl
 refine gz ?_;cases vd
 case true=>
  refine gz ?_;have rS:r=some x:=by rw[<-m,if_pos (by simp)]
  refine eJ 0 0 λ hS=> ?_;refine jG 0 hS ?_;refine eA 1 (q.cell 2 rfl) (by omega) hS ?_;refine eL 2 hS ?_;refine eL 3 hS ?_;refine eL 4 hS ?_;refine gB ?_;refine gz ?_;refine lX ⟨(f.trans (aa.refl _).drew),?_⟩
  rw[rS]
  show _=Ending.returned (.tuple #[.slice none 0 0,.int .i64 ((ar ts x.name).at':Int),.int .i64 50])
  rw[<-P]
  rfl
 have hkl:(L.take k).length=k:=by rw[List.length_take];omega
 have hBx:AS wf a3 k dx (L.take k):=by
  obtain⟨ax,cx,hax,hcx,-,ajZ⟩:=bI Gf.own;injection hax with e1 e2 e3
  subst e1;subst e3;have:=AS.mk (w:=wf) (a:=a3) (cap:=dx) (l:=L.take k) (cs:=cs) (by omega) (by omega) (λ i hi=>by
   obtain⟨b,-,hb,hv⟩:=ajZ i hi;exact⟨b,hb,hv⟩) (Gf.rows.mono λ _ _ hh=>OK (jV _ _ (dP _ _) _ _ hh))
  rwa [hkl] at this
 refine gz ?_;refine kB (q.cell 1 rfl) ?_;refine gz ?_;refine zc 134 _ (vK hBx tk.text) ?_;rintro e wg ⟨rfl,N⟩
 refine⟨_,rfl,?_⟩
 replace f:=f.trans N;have Gg:=Gf.kept jV N;have I:=q.kept N;have beg:=bef.kept N;have hUg:KY (aB wg (sP z.heap.size [gd])) _ (hO (ia ts x)):=hUf.sub (jS N)
 have zg0:=N.size;clear q bef;refine gz ?_;refine cr (decide (0<=cH (L.take k) 0 tk.text)) ?_ ?_
 ·rfl
 cases QW:decide (0<=cH (L.take k) 0 tk.text)
 case true=>
  refine gz ?_;have rS:r=some x:=by rw[<-m,if_pos (by rw[QW];rfl)]
  refine eJ 0 0 λ hS=> ?_;refine jG 0 hS ?_;refine eA 1 (I.cell 2 rfl) (by omega) hS ?_;refine eL 2 hS ?_;refine eL 3 hS ?_;refine eL 4 hS ?_;refine gB ?_;refine gz ?_;refine lX ⟨(f.trans (aa.refl _).drew),?_⟩
  rw[rS]
  show _=Ending.returned (.tuple #[.slice none 0 0,.int .i64 ((ar ts x.name).at':Int),.int .i64 50])
  rw[<-P]
  rfl
 refine gz ?_;refine cr (decide (k=6)) ?_ ?_
 ·show((k:Int)==6)=_;by_cases h:k=6
  ·rw[h];rfl
  ·rw[gy h];exact vy (by omega)
 by_cases h6:k=6;case pos=>
  rw[cU h6]
  refine gz ?_;have rS:r=some x:=by rw[<-m,if_pos (by rw[QW,cU h6];rfl)]
  refine eJ 0 0 λ hS=> ?_;refine jG 0 hS ?_;refine eA 1 (I.cell 2 rfl) (by omega) hS ?_;refine eL 2 hS ?_;refine eL 3 hS ?_;refine eL 4 hS ?_;refine gB ?_;refine gz ?_;refine lX ⟨(f.trans (aa.refl _).drew),?_⟩
  rw[rS]
  show _=Ending.returned (.tuple #[.slice none 0 0,.int .i64 ((ar ts x.name).at':Int),.int .i64 50])
  rw[<-P]
  rfl
 rw[gy h6]
 rw[QW,gy h6,if_neg (by simp)] at m;refine gz ?_;refine kB (I.cell 1 rfl) ?_;refine zl beg.range ⟨by kernel_rfl,by first|kernel_rfl|simp[Value.oneCell']⟩ ?_;have hkL:k<L.length:=by omega
 have eLk:L[k]=dR ts x:=by
  rw[nW hkL] at hLk;exact iG hLk
 have eci:(hO (ia ts x)).li=(hO (ia ts x)).li:=rfl;refine zr (.agg #[.string tk.text,.bool (hO (ia ts x)).s1,.slice v1 m1 d1,.slice v2 m2 d2,.bool (hO (ia ts x)).s2,.slice v3 m3 d3,.slice v4 m4 d4,.bool (hO (ia ts x)).li,.bool (hO (ia ts x)).hi]) ?_;refine ZI (V:=#[.string tk.text,.bool (hO (ia ts x)).s1,.slice v1 m1 d1,.slice v2 m2 d2,.bool (hO (ia ts x)).s2,.slice v3 m3 d3,.slice v4 m4 d4,.bool (hO (ia ts x)).li,.bool (hO (ia ts x)).hi]) aaN rfl (by decide) (by decide) underlying28 Gg jV OL.2 rfl hkL (by omega)
  (T:=sP z.heap.size [gd]) ?_ (λ b hb=> ?_) (by kernel_rfl) λ wh a' aK X=> ?_
 ·rw[eLk,P]
  exact⟨_,_,_,_,_,_,_,_,_,_,_,_,_,_,_,_,rfl,hUg⟩
 ·have h0:=(ou.1 hb).1;have hKb:=(((S.trans R).trans D).trans B).size;refine⟨by omega,λ he=> ?_⟩
  have:=(jF b he.symm).2;omega
 refine gz ?_;refine mH ((k+1:Nat):Int) ?_ ?_ ?_
 ·show(k:Int)+1=_;omega
 ·rw[IntKind.wrap_i64];omega
 refine gz ?_;have K1h:aa d wh:=⟨X.kb.size,λ b hb=>X.kb.old b hb (Nat.ne_of_lt hb),X.kb.tape,X.kb.os,X.kb.output⟩
 exact⟨_,(a',aK,_),rfl,Q,⟨rfl,rfl,rfl,rfl,rfl,trivial⟩,K1h,X,m,by omega⟩
section
open Go Go.RowKit Go.Dig Go.Deep Go.Shelf
theorem Tq{x y:Operand}{off:Nat}(c:oi.op= .slice 67 x none (some y) none)(hx:bA n l x=some (.slice (some ⟨b,off,none⟩) m cap))(a:bA n l y=some (.int .i64 0)):
 (execOp (ev n l) oi).run prog w= .ok (.value (.slice (some ⟨b,off,none⟩) 0 cap)) w:=by
 have hi:(0:Int)<=(cap:Int):=by omega
 unfold execOp;rw[c]
 simp only[Option.map_some,Option.map_none,eG hx,eG a]
 go_simp
theorem IW(w:World)(n:Nat)(hn:0<n)(m:n<=100000):Calls prog 287 #[.slice none 0 0,.int .i64 (n:Int)] w λ e w'=>
 ∃v,e= .returned v/\w'.ownsRow w.heap.size 65 5 v 0 []/\aa w w':=by
 obtain⟨i,hi,g,hs,k⟩:gY 65 (.agg #[.int .i64 0,.int .i64 0,.int .i64 0,.int .i64 0,.string .empty]) 5 48:=mD (by kernel_rfl)
 have b:=Lib.run_append_nil_zeros w 67 3 67 65 i _ .i64 .i64 underlying67 underlying3 hi g n hn (by omega) (by omega) (by rw[k];omega)
 refine dK [_,_] 27 func287 rfl ntmps287 (by simp) ?_;refine gx ?_;refine zr (.int .i64 0) ?_;refine gx ?_;refine mH 0 ?_ ?_ ?_
 ·rfl
 ·rfl
 refine mH (n:Int) ?_ ?_ ?_
 ·show(n:Int)-0=_;omega
 ·rw[IntKind.wrap_i64];omega
 refine gx ?_;refine zr (.int .i64 0) ?_;refine zr (.slice none 0 0) ?_;refine gx ?_;refine Lib.wpList_append_run _ rfl (.tmp 20) (.tmp 21) 67 3 rfl _ _ (aE rfl) (aE rfl) _ _ b ?_;show wpList prog _ _ _ ((aH 27 _).put (some 22) _) _;rw[bX]
 obtain⟨cap,d⟩:∃cap,cap=grownCap w n 0 65:=⟨_,rfl⟩
 have o:n<=cap:=d▸grownCap_ge w n 0 65;have c:cap<=maxLen:=d▸grownCap_le_maxLen w n 0 65 (by unfold maxLen;omega)
 rw[<-d]
 generalize j:(Builtin.zeroCells (Value.agg #[Value.int IntKind.i64 0,Value.int IntKind.i64 0,Value.int IntKind.i64 0,Value.int IntKind.i64 0,Value.string ByteArray.empty]).cells n++Builtin.zeroCells (Value.agg #[Value.int IntKind.i64 0,Value.int IntKind.i64 0,Value.int IntKind.i64 0,Value.int IntKind.i64 0,Value.string ByteArray.empty]).cells (cap-n))=a;have h:a.size=cap*5:=by
  rw[<-j,Array.size_append,size_zeroCells,size_zeroCells]
  show n*5+(cap-n)*5=cap*5;omega
 have l:aD (w.drew.alloc (.cells a 65)) w.heap.size a 65:=aD.new w.drew a 65;have f:aa w (w.drew.alloc (.cells a 65)):=((aa.refl w).drew).alloc _;generalize w.drew.alloc (.cells a 65)=W at*;refine gx ?_;refine zv (.slice (some ⟨w.heap.size,0,none⟩) 0 cap) (w':=W) ?_ rfl rfl ?_
 ·rw[aO]
  exact Tq rfl rfl rfl
 refine gx ?_;refine aF ⟨_,rfl,⟨by simp,.inr ⟨w.heap.size,cap,a,rfl,aU _,l,eo _,c,h,by simp⟩⟩,f⟩
end
theorem ZJ{d:Nat}{ops:Array Oper}{rest:List Oper}{Q:Exit->Act->World->Prop}{B2 k:Nat}{v v2:Value}{a:List Value}{p q:Tmp}(ho:w.ownsRow B 65 5 v k cs)(e:w.ownsRow B2 65 5 v2 m a)(D:B<=w.heap.size)(h1:∀u∈a,u.oneCell'=true)(hb:k+m<=1099511627)
 (h:∀w' v',w'.ownsRow B 65 5 v' (k+m) (cs++a)->w.grownBy w' v.ownBlock->(v'.ownBlock=v.ownBlock∨∀g,v'.ownBlock=some g->w.heap.size<=g)->wpList prog ops Q rest (aH n (aC l d v')) w')
 (t:oi.op= .call {callee:=.builtin .append,args:=#[.tmp p,.tmp q],argTypes:=#[67,67]}:=by rfl)(hx:bA n l (.tmp p)=some v:=by rfl)(s:bA n l (.tmp q)=some v2:=by rfl)(x:oi.guard=none:=by rfl)(hd:oi.dst=some d:=by rfl):wpList prog ops Q (oi::rest) (aH n l) w:=by
 have hi:gY 65 (.agg #[.int .i64 0,.int .i64 0,.int .i64 0,.int .i64 0,.string .empty]) 5 48:=mD (by kernel_rfl)
 by_cases hm:0<m
 ·have C:=λ g=>World.ownsRow.cells e (g:=g)
  obtain⟨A,⟨-,K⟩|⟨g,cap,r,rfl,-,H,hn,-,I,F⟩⟩:=e
  ·omega
  refine dh x (.tmp p) (.tmp q) 67 t hi underlying67 rfl (by decide) (by decide) B D v k cs (aE hx) ho ⟨g,0,none⟩ m cap a (aE s) A (λ j u b=>C g rfl j u b) h1 hm hb λ v' w' r1 r2 y=> ?_;rw[hd,bX]
  exact h w' v' r1 r2 y
 ·obtain rfl:m=0:=by omega
  obtain rfl:a=[]:=List.eq_nil_of_length_eq_zero (by rw[e.1])
  have G:=pT ho;obtain⟨ta,tc,rfl,f,-⟩:=bI ho;obtain⟨i,o,E,hs,J⟩:=hi;have z:Src prog i.size 67 v2 0 [] w:=by
   obtain⟨-,⟨rfl,-⟩|⟨g,cap,r,rfl,-⟩⟩:=e
   ·exact Src.ofNil w underlying67 0
   ·exact Src.ofSlice w underlying67 ⟨g,0,none⟩ 0 cap [] (by simp) (λ j u b=>by simp at b) (λ u b=>by simp at b)
  have c:=run_append_nothing (P:=prog) w 67 67 oi.type 65 i underlying67 o ta k tc f v2 z;refine Lib.wpList_append_run w x (.tmp p) (.tmp q) 67 67 t _ _ (aE hx) (aE s) _ _ c ?_;rw[hd,bX]
  refine h w _ (by simpa using ho) ⟨rfl,rfl,rfl,aU _,λ _ _ _=>rfl⟩ (.inl rfl)
theorem IX(l:List cW):∀u∈ie l,u.oneCell'=true:=by
 intro u a;unfold ie at a;obtain⟨x,-,hx⟩:=List.mem_flatMap.1 a;simp only[fG,List.mem_cons,nU,or_false] at hx;rcases hx with rfl|rfl|rfl|rfl|rfl<;>rfl
theorem DN{r0:Nat}{cs:List cW}(hb:aD W b #[.slice (some ⟨r0,0,none⟩) 1 1,cd] 67)(x:aD W r0 (fG y) 65)(hc:W.ownsRow 0 65 5 cd cs.length (ie cs))(hn:cs.length<=50000):
 Calls prog 199 #[.slice (some ⟨b,0,none⟩) 2 2] W λ e W'=>∃v,e= .returned v/\W'.ownsRow W.heap.size 65 5 v (1+cs.length) (ie (y::cs))/\aa W W':=by
 have q:W.ownsRow 0 65 5 (.slice (some ⟨r0,0,none⟩) 1 1) 1 (ie [y]):=⟨by simp[ie,fG],.inr ⟨r0,1,fG y,rfl,eo _,x,aU _,by unfold maxLen;decide,by simp[fG],by simp[ie,fG]⟩⟩
 obtain⟨ca,C,w,-⟩:=bI hc;refine ct 35 func199 rfl ntmps199 ?_;refine gx ?_;refine mi 2 (λ k=>[(0,.slice (some ⟨b,0,none⟩) 2 2),(3,.int .i64 ((if k=0 then 0 else if k=1 then 1 else 1+cs.length:Nat):Int)),(9,.slice (some ⟨b,0,none⟩) 2 2),(10,.int .i64 2),(11,.int .i64 (k:Int))]) (λ k h=>h=W/\k<=2) ⟨rfl,rfl,rfl,rfl,rfl,trivial⟩ ⟨rfl,by omega⟩ λ z wr k u ⟨l,g⟩=> ?_;replace l:wr=W:=l;replace g:k<=2:=g;subst l;refine gx ?_;by_cases j:k<2;case neg=>
  obtain rfl:k=2:=by omega
  refine gx ?_;refine zc 287 _ (IW wr (1+cs.length) (by omega) (by omega)) ?_;rintro e A ⟨n,rfl,i,r⟩
  refine gx ?_;have p:wr.ownsRow 0 65 5 cd cs.length (ie cs):=hc;refine dQ (σ:=Value) 2 (λ k v=>[(6,v),(25,.slice (some ⟨b,0,none⟩) 2 2),(26,.int .i64 2),(27,.int .i64 (k:Int))]) (λ k v h=>aa wr h/\k<=2/\h.ownsRow wr.heap.size 65 5 v (if k=0 then 0 else if k=1 then 1 else 1+cs.length) (if k=0 then [] else if k=1 then ie [y] else ie (y::cs))) n ⟨rfl,rfl,rfl,rfl,trivial⟩ ⟨r,by omega,i⟩ λ z ws k v u ⟨a,g,f⟩=> ?_;replace a:aa wr ws:=a;replace g:k<=2:=g;replace f:ws.ownsRow wr.heap.size 65 5 v (if k=0 then 0 else if k=1 then 1 else 1+cs.length) (if k=0 then [] else if k=1 then ie [y] else ie (y::cs)):=f;have zs:=a.size;refine gx ?_;by_cases j:k<2;case neg=>
   obtain rfl:k=2:=by omega
   refine gx ?_;exact aF ⟨v,rfl,f,a⟩
  refine gx ?_;refine zi (s:=1) k j ?_;have B:=hb.kept a;have hv:∀o,v.ownBlock=some o->wr.heap.size<=o:=λ o ho=>(World.ownsRow.lt f o ho).1;have m:∀{w':World},ws.grownBy w' v.ownBlock->aa wr w':=λ c=>⟨jP zs c.size,λ b hb=>(c.block b (by omega) λ e=>by have:=hv b e.symm;omega).trans (a.old b hb),c.tape.trans a.tape,c.os.trans a.os,c.output.trans a.output⟩
  rcases(show k=0∨k=1 by omega) with rfl|rfl
  ·refine gx ?_;refine ZJ (k:=0) (cs:=[]) f (dD q a) (by omega) (IX _) (by omega) λ w' v' d c t=> ?_;refine gx ?_;refine mH 1 ?_ ?_ ?_
   ·rfl
   ·rfl
   refine gx ?_;exact⟨_,v',rfl,by omega,⟨rfl,rfl,rfl,rfl,trivial⟩,m c,by omega,d⟩
  ·refine gx ?_;refine ZJ (k:=1) (cs:=ie [y]) f (dD p a) (by omega) (IX _) (by omega) λ w' v' d c t=> ?_;refine gx ?_;refine mH 2 ?_ ?_ ?_
   ·rfl
   ·rfl
   refine gx ?_;exact⟨_,v',rfl,by omega,⟨rfl,rfl,rfl,rfl,trivial⟩,m c,by omega,d⟩
 refine gx ?_;refine zi (s:=1) k j ?_;rcases(show k=0∨k=1 by omega) with rfl|rfl
 ·refine gx ?_;refine mH 1 ?_ ?_ ?_
  ·rfl
  ·rfl
  refine gx ?_;refine mH 1 ?_ ?_ ?_
  ·rfl
  ·rfl
  refine gx ?_;exact⟨_,rfl,by omega,⟨rfl,rfl,rfl,rfl,rfl,trivial⟩,by first|rfl|trivial,by omega⟩
 ·refine gx ?_;subst w;refine gx ?_;refine mH ((1+cs.length:Nat):Int) ?_ ?_ ?_
  ·show(1:Int)+(cs.length:Int)=_;omega
  ·rw[IntKind.wrap_i64];omega
  refine gx ?_;refine mH 2 ?_ ?_ ?_
  ·rfl
  ·rfl
  refine gx ?_;exact⟨_,rfl,by omega,⟨rfl,rfl,rfl,rfl,rfl,trivial⟩,by first|rfl|trivial,by omega⟩
def DO(ts:List aS)(L:List aL)(k:Nat):Bool:=decide ((ar ts k).kind=1)&&decide (cH L 0 (ar ts k).text<0)
def AG(ts:List aS)(L:List aL):Nat->Nat->Option Nat
 |0,_=>none
 |n+1,i=>if DO ts L i=true then some i else AG ts L n (i+1)
def nZ(ts:List aS)(L:List aL):List cW->Option Nat
 |[]=>none
 |x::r=>match AG ts L (x.t1-x.f0) x.f0 with
  |some i=>some i
  |none=>nZ ts L r
def aj4(ts:List aS)(o:Option Nat):Int:=match o with
 |some i=>((ar ts i).at':Int)
 |none=> -1
theorem Xq{x y z:Operand}{i j:Nat}(f:oi.op= .slice 58 x (some y) (some z) none)(hx:bA n l x=some (.slice (some ⟨b,0,none⟩) m cap))(d:bA n l y=some (.int .i64 (i:Int)))(c:bA n l z=some (.int .i64 (j:Int)))(q:i<j)(p:j<=m)(hm:m<=cap):
 (execOp (ev n l) oi).run prog w= .ok (.value (.slice (some ⟨b,i*3,none⟩) (j-i) (cap-i))) w:=by
 have h3:¬(cap=i):=by omega
 have k:j<=cap:=by omega
 have h:i<=j:=by omega
 have hs:(prog.info? 153).map (·.size)=some 3:=by kernel_rfl
 obtain⟨o,a,g⟩:=Option.map_eq_some_iff.1 hs;have e:prog.underlying 58=some (.slice 153):=by kernel_rfl
 unfold execOp;rw[f]
 simp only[Option.map_some,Option.map_none,eG hx,eG d,eG c]
 simp[Instr.slice,Instr.sliceBounds,Instr.sliceBound,go_sem,Sem.run_bind,run_underlying e w,h3,k,h,sizeOf,typeInfo,a,g]
theorem OM:∀(l:List cW)(k:Nat)(h:k<l.length)(j:Nat)(v:Value),(fG l[k]).toList[j]? =some v->(ie l)[k*5+j]? =some v
 |c::cs,0,_,j,v,hv=>by
  have a:j<5:=by
   rcases Nat.lt_or_ge j 5 with h|h
   ·exact h
   ·rw[List.getElem?_eq_none (by simpa [fG] using h)] at hv;cases hv
  show((fG c).toList++ie cs)[0*5+j]? =_;rw[Nat.zero_mul,lp,List.getElem?_append_left (by simpa [fG] using a)]
  exact hv
 |c::cs,k+1,h,j,v,hv=>by
  have ih:=OM cs k (Nat.lt_of_succ_lt_succ h) j v hv;show((fG c).toList++ie cs)[(k+1)*5+j]? =_;rw[List.getElem?_append_right (by simp[fG];omega),<-ih]
  congr 1;simp[fG]
  omega
theorem Cf(l:List cW):(ie l).length=l.length*5:=by
 induction l with
 |nil=>rfl
 |cons c cs ih=>
  show((fG c).toList++ie cs).length=_;rw[gJ,ih]
  simp[fG]
  omega
theorem vL{w':World}{a:Option Addr}{l:List cW}(ho:w.ownsRow B 65 5 (.slice a l.length cap) l.length (ie l))(k:aa w w'){i:Nat}(hi:i<l.length):∃b,a=some ⟨b,0,none⟩/\w'.rangeAt b (0+i*5) (fG l[i]).toList:=by
 obtain⟨m,h,c,-,-,d⟩:=bI ho;injection c with e1 g f
 subst e1;obtain⟨b,-,hb,-⟩:=d (i*5) (by rw[Cf];omega)
 refine⟨b,hb,λ j v hv=> ?_⟩
 have h1:=OM l i hi j v hv;have e:i*5+j<(ie l).length:=by
  rcases Nat.lt_or_ge (i*5+j) (ie l).length with h2|h2
  ·exact h2
  ·rw[List.getElem?_eq_none h2] at h1;cases h1
 obtain⟨b',-,he,h2⟩:=d (i*5+j) e;rw[hb] at he;cases he
 rw[lp]
 exact k.cell (h2.trans h1)
def ON(ts:List aS)(x:cW):Prop:=x.f0<x.t1/\x.t1<=ts.length
theorem L7{g:Nat}{ta:Option Addr}{tc:Nat}(h:Ls W g ta tc ts){s:ByteArray}{bx:Value}(pL:∃a n c,bx= .slice a n c){cs:List cW}(ho:W.ownsRow 0 65 5 cd cs.length (ie cs))(hn:cs.length<=50000){ba:Option Addr}{bc:Nat}(hB:AS W ba L.length bc L)(hx:∀x∈y::cs,ON ts x):
 Calls prog 105 #[.agg (ef g s y bx cd),.slice ba L.length bc] W λ e W'=>e= .returned (.int .i64 (aj4 ts (nZ ts L (y::cs))))/\aa W W':=by
 obtain⟨ca,X,rfl,-⟩:=bI ho;have FA:∃a n c,Value.slice ca cs.length X= .slice a n c:=⟨_,_,_,rfl⟩
 have D9:=qJ (g:=g) (s:=s) (x:=y) pL FA;obtain⟨r,hr⟩:∃r,r=nZ ts L (y::cs):=⟨_,rfl⟩
 rw[<-hr]
 refine dK [_,_] 52 func105 rfl ntmps105 (by simp) ?_;refine gx ?_;refine zb λ f g1 e1 k1 b1 q1=> ?_;have z1:=k1.size;have T:_/\True:=⟨b1,trivial⟩
 clear b1;refine gx ?_;refine zl (V:=fG y) (iB (o:=2) T.1 λ j v hv=>by
  match j,hv with
  |0,hv=>exact hv
  |1,hv=>exact hv
  |2,hv=>exact hv
  |3,hv=>exact hv
  |4,hv=>exact hv) (by exact⟨by kernel_rfl,by simp[fG,Value.oneCell']⟩) ?_
 obtain⟨b,G⟩:∃b,b=f.alloc (.cells (fG y) 65):=⟨_,rfl⟩
 have k2:aa f b:=G▸(aa.refl f).alloc _;have b2:aD b f.heap.size (fG y) 65:=G▸aD.new f _ 65;have q2:b.heap.size=f.heap.size+1:=by rw[G];exact Array.size_push ..
 refine zv (.slice (some ⟨f.heap.size,0,none⟩) 1 1) (w':=b) (by rw[G,aO];kernel_rfl) rfl rfl ?_;have pX:=T.1.kept k2;refine gx ?_;obtain⟨w3,q⟩:∃w3,w3=b.alloc (.cells #[.slice (some ⟨f.heap.size,0,none⟩) 1 1,.slice ca cs.length X] 67):=⟨_,rfl⟩
 have F:aa b w3:=q▸(aa.refl b).alloc _;have b3:aD w3 b.heap.size #[.slice (some ⟨f.heap.size,0,none⟩) 1 1,.slice ca cs.length X] 67:=q▸aD.new b _ 67;refine zv (.slice (some ⟨b.heap.size,0,none⟩) 2 2) (w':=w3) (by rw[q,aO];kernel_rfl) rfl rfl ?_;have K3:=(k1.trans k2).trans F;refine zc 199 _ (DN b3 (b2.kept F) (dD ho K3) hn) ?_;rintro e l ⟨v,rfl,E,J⟩
 refine⟨_,rfl,?_⟩
 have w:=K3.trans J;have z4:=w.size;have z3:=F.size;have zk4:=J.size;have B:_/\True:=⟨(pX.kept F).kept J,trivial⟩
 clear T pX b2 b3;obtain⟨R,hR⟩:∃R,R=y::cs:=⟨_,rfl⟩
 have U:R.length=1+cs.length:=by rw[hR];simp;omega
 rw[<-hR] at E hr hx;rw[<-U] at E;obtain⟨va,H,rfl,-⟩:=bI E;refine gx ?_;refine mi R.length (λ k=>[(1,.slice ba L.length bc),(2,.pointer (some ⟨g1,0,none⟩)),(15,.slice va R.length H),(16,.int .i64 (R.length:Int)),(17,.int .i64 (k:Int))]) (λ k Wk=>aa l Wk/\nZ ts L (R.drop k)=r) ⟨rfl,rfl,rfl,rfl,rfl,trivial⟩ ⟨aa.refl l,hr.symm⟩ λ fl wr k hk ⟨p,d⟩=> ?_;replace p:aa l wr:=p;replace d:nZ ts L (R.drop k)=r:=d;have zr0:=p.size;refine gx ?_;by_cases z:k<R.length;case neg=>
  refine gx ?_;rw[List.drop_eq_nil_of_le (by omega),nZ] at d;subst d;exact aF ⟨rfl,w.trans p⟩
 refine gx ?_;obtain⟨x,K⟩:∃x,x=R[k]:=⟨_,rfl⟩
 obtain⟨Q,HO⟩:=hx x (K▸List.getElem_mem z)
 obtain⟨rb,rfl,P⟩:=vL E p z;rw[<-K] at P;rw[List.drop_eq_getElem_cons z,<-K,nZ] at d;refine gx ?_;refine zi (s:=5) k z ?_;refine zl (V:=fG x) P (by exact⟨by kernel_rfl,by simp[fG,Value.oneCell']⟩) ?_;refine za ZRl 65 λ w5 g5 e5 k5 b5 q5=> ?_;refine zt (V:=fG x) b5 (by exact⟨by kernel_rfl,by kernel_rfl⟩) (by exact⟨by kernel_rfl,by simp[fG,Value.oneCell']⟩) λ C k6 b6=> ?_;have z5:=k5.size;have z6:=k6.size;have K6:aa wr C:=k5.but k6 (by omega)
 have K06:=(w.trans p).trans K6;obtain⟨tb,rfl,-⟩:=h.row (show x.f0<ts.length by omega)
 obtain⟨x1,x2,x3,uM⟩:=h.bw;have S:=uM.kept K06;have Hs:=B.1.kept (p.trans K6)
 have O:ts.length<=tc:=h.tok.2.1;have hlen:=h.len;clear P b5 uM;refine gx ?_;refine eJ 0 0 λ hS=> ?_;refine jG 0 hS ?_;refine eA 1 (Hs.cell 0 rfl) (by omega) hS ?_;refine mO 2 hS ?_;refine jG 3 hS ?_;refine eA 4 (S.cell 0 rfl) (by omega) hS ?_;refine jG 5 hS ?_;refine jG 6 hS ?_;refine eA 7 (b6.cell 0 rfl) (by omega) hS ?_;refine jG 8 hS ?_;refine jG 9 hS ?_;refine eA 10 (b6.cell 3 rfl) (by omega) hS ?_;refine eL 13 hS ?_;refine Wa 11 _ hS ?_ rfl rfl rfl (λ _ _=>Xq (i:=x.f0) (j:=x.t1) rfl rfl rfl rfl Q HO O)
 refine Lr 12 hS ?_;refine gB ?_;have K6d:aa C C.drew:=(aa.refl C).drew;clear hS;obtain⟨m,hm⟩:∃m,m=x.t1-x.f0:=⟨_,rfl⟩
 rw[<-hm] at d⊢;have KR:=(p.trans K6).trans K6d;have hbR:=B.1.kept KR;obtain⟨D,QX⟩:∃D,D=AG ts L m x.f0:=⟨_,rfl⟩
 rw[<-QX] at d;refine If ?_;refine zjx (σ:=Unit) (λ _=>[(1,.slice ba L.length bc),(2,.pointer (some ⟨g1,0,none⟩)),(15,.slice (some ⟨rb,0,none⟩) R.length H),(16,.int .i64 (R.length:Int)),(17,.int .i64 (k:Int))]) (λ _ W'=>aa l W'/\nZ ts L (R.drop (k+1))=r) (λ Q' hN hX=> ?_) (λ l' w9 _ ⟨I,t⟩=> ?_)
 ·refine gx ?_;refine mi m (λ j=>[(1,.slice ba L.length bc),(2,.pointer (some ⟨g1,0,none⟩)),(15,.slice (some ⟨rb,0,none⟩) R.length H),(16,.int .i64 (R.length:Int)),(17,.int .i64 (k:Int)),(32,.slice (some ⟨tb,x.f0*3,none⟩) m (tc-x.f0)),(33,.int .i64 (m:Int)),(34,.int .i64 (j:Int))]) (λ j W'=>aa l W'/\AG ts L (m-j) (x.f0+j)=D) ⟨rfl,rfl,rfl,rfl,rfl,rfl,rfl,rfl,trivial⟩ ⟨KR,QX.symm⟩ λ fl ws j hj ⟨u,hS⟩=> ?_;replace u:aa l ws:=u;replace hS:AG ts L (m-j) (x.f0+j)=D:=hS;have Dr:=u.size;refine gx ?_;by_cases A:j<m;case neg=>
   refine gx ?_;rw[show m-j=0 by omega,AG] at hS;subst hS;exact hN _ _ () ⟨rfl,rfl,rfl,rfl,rfl,trivial⟩ ⟨u,d⟩
  refine gx ?_;obtain⟨b',uJ,mQ⟩:=h.row (show x.f0+j<ts.length by omega)
  obtain rfl:tb=b':=by simpa using uJ
  rw[show m-j=(m-(j+1))+1 by omega,AG] at hS;obtain⟨tk,N⟩:∃tk,tk=ar ts (x.f0+j):=⟨_,rfl⟩
  have M:DO ts L (x.f0+j)=(decide (tk.kind=1)&&decide (cH L 0 tk.text<0)):=by unfold DO;rw[N]
  rw[M] at hS;rw[<-N] at mQ;have r1:ws.rangeAt tb (x.f0*3+j*3) (iH tk.kind tk.text tk.at').toList:=λ i v hv=>by
   have:=(w.trans u).cell (mQ i v hv)
   rwa [show 0+(x.f0+j)*3=x.f0*3+j*3 by omega] at this
  refine gx ?_;refine zi (s:=3) j A ?_;refine zl r1 ⟨by kernel_rfl,by first|kernel_rfl|simp[Value.oneCell']⟩ ?_;refine za ZT 153 λ wa ga ea ka Y qa=> ?_;refine zt Y lC cA λ wb kb bb=> ?_;have za0:=ka.size;have Kb:aa l wb:=(u.trans ka).but kb (by omega)
  refine gx ?_;refine cr (decide (tk.kind=1)) ?_ ?_
  ·show((tk.kind:Int)==1)=_;by_cases h1:tk.kind=1
   ·rw[h1];rfl
   ·rw[gy h1];exact vy (by omega)
  by_cases h1:tk.kind=1;case' neg=>
   rw[gy h1]
   rw[gy h1,Bool.false_and,if_neg iZ] at hS;refine gx ?_;have Z:=Kb
  case' pos=>
   rw[cU h1]
   rw[cU h1,Bool.true_and] at hS;refine gx ?_;refine zc 134 _ (vK (hB.kept (w.trans Kb)) tk.text) ?_;rintro e wc ⟨rfl,kc⟩
   refine⟨_,rfl,?_⟩
   have Z:=Kb.trans kc;have bc':=bb.kept kc;refine gx ?_;refine cr (decide (cH L 0 tk.text<0)) ?_ ?_
   ·rfl
   by_cases h2:cH L 0 tk.text<0;case pos=>
    rw[cU h2]
    rw[cU h2,if_pos rfl] at hS;rw[<-hS] at d;refine gx ?_;go_step;refine gz ?_;refine aF ⟨?_,w.trans Z⟩
    rw[<-d]
    show _=Ending.returned (.int .i64 ((ar ts (x.f0+j)).at':Int))
    rw[<-N]
    rfl
   rw[gy h2]
   rw[gy h2,if_neg iZ] at hS;refine gx ?_
  all_goals
   refine mH ((j+1:Nat):Int) ?_ ?_ ?_
   ·show(j:Int)+1=_;omega
   ·rw[IntKind.wrap_i64];omega
   refine gx ?_;exact⟨_,rfl,A,⟨rfl,rfl,rfl,rfl,rfl,rfl,rfl,rfl,trivial⟩,Z,hS⟩
 replace I:aa l w9:=I;replace t:nZ ts L (R.drop (k+1))=r:=t;refine gx ?_;refine mH ((k+1:Nat):Int) ?_ ?_ ?_
 ·show(k:Int)+1=_;omega
 ·rw[IntKind.wrap_i64];omega
 refine gx ?_;exact⟨_,rfl,z,⟨rfl,rfl,rfl,rfl,rfl,trivial⟩,I,t⟩
def fT(x y:ByteArray):Bool:=Op.bytesLess x.toList y.toList
def yC(x y:ByteArray):Int:=if fT x y=true then -1 else if (x.toList==y.toList)=true then 0 else 1
theorem Ek(w:World)(x:ByteArray):Calls prog 202 #[.string x] w λ e w'=>e= .returned (.bool false)/\w'=w:=by
 refine ct 5 func202 rfl ntmps202 ?_;refine gx ?_;refine z2 (.bool false) ?_ (hrun:=by go_simp)
 refine gx ?_;exact aF ⟨rfl,rfl⟩
theorem L8(w:World)(x y:ByteArray):Calls prog 108 #[.string x,.string y] w λ e w'=>e= .returned (.int .i64 (yC x y))/\w'=w:=by
 refine dK [_,_] 20 func108 rfl ntmps108 (by simp) ?_;refine gx ?_;refine zc 202 _ (Ek w x) ?_;rintro e a ⟨rfl,rfl⟩
 refine gx ?_;refine zc 202 _ (Ek a y) ?_;rintro e c ⟨rfl,rfl⟩
 refine gx ?_;refine z2 (.bool (fT x y)) ?_ (hrun:=by unfold fT;go_simp)
 by_cases h1:fT x y=true
 ·have e:yC x y= -1:=by unfold yC;rw[if_pos h1]
  rw[h1]
  refine gx ?_;exact aF ⟨by rw[e],rfl⟩
 have e1:fT x y=false:=Bool.eq_false_iff.2 h1;rw[e1]
 refine gx ?_;refine z2 (.bool (!(x.toList==y.toList))) ?_ (hrun:=by unfold fT at e1;go_simp)
 by_cases h2:(x.toList==y.toList)=true
 ·have e:yC x y=0:=by unfold yC;rw[if_neg h1,if_pos h2]
  rw[h2]
  refine gx ?_;exact aF ⟨by rw[e],rfl⟩
 have b:(x.toList==y.toList)=false:=Bool.eq_false_iff.2 h2;rw[b]
 have e:yC x y=1:=by unfold yC;rw[if_neg h1,if_neg h2]
 refine gx ?_;exact aF ⟨by rw[e],rfl⟩
structure L9 where
 nm:ByteArray
 s1:Bool
 a1:Option Addr
 n1:Nat
 c1:Nat
 a2:Option Addr
 n2:Nat
 c2:Nat
 s2:Bool
 a3:Option Addr
 n3:Nat
 c3:Nat
 a4:Option Addr
 n4:Nat
 c4:Nat
 p:Bool
 q:Bool
instance:Inhabited L9:=⟨⟨⟨#[]⟩,false,none,0,0,none,0,0,false,none,0,0,none,0,0,false,false⟩⟩
def encS(x:L9):List Value:=[.string x.nm,.bool x.s1,.slice x.a1 x.n1 x.c1,.slice x.a2 x.n2 x.c2,.bool x.s2,.slice x.a3 x.n3 x.c3,.slice x.a4 x.n4 x.c4,.bool x.p,.bool x.q]
theorem FD(w:World)(x y:L9):Calls prog 107 #[.agg (encS x).toArray,.agg (encS y).toArray] w λ e w'=>e= .returned (.int .i64 (yC x.nm y.nm))/\w'=(w.alloc (.cells (encS x).toArray 41)).alloc (.cells (encS y).toArray 41):=by
 refine dK [_,_] 10 func107 rfl ntmps107 (by simp) ?_;refine gx ?_;obtain⟨a,d⟩:∃a,a=w.alloc (.cells (encS x).toArray 41):=⟨_,rfl⟩
 refine zv (.pointer (some ⟨w.heap.size,0,none⟩)) (w':=a) (by rw[d,aO];kernel_rfl) rfl rfl ?_;obtain⟨b,c⟩:∃b,b=a.alloc (.cells (encS y).toArray 41):=⟨_,rfl⟩
 refine zv (.pointer (some ⟨a.heap.size,0,none⟩)) (w':=b) (by rw[c,aO];kernel_rfl) rfl rfl ?_;have g:aD b w.heap.size (encS x).toArray 41:=c▸((d▸aD.new w _ 41:aD a w.heap.size (encS x).toArray 41).kept ((aa.refl a).alloc _))
 have f:aD b a.heap.size (encS y).toArray 41:=c▸aD.new a _ 41;refine gx ?_;refine zc 108 _ (L8 b x.nm y.nm) ?_;rintro e w3 ⟨rfl,rfl⟩
 refine gx ?_;exact aF ⟨rfl,by rw[c,d]⟩
theorem IY(n:Nat)(W:World)(hn:n<=12):Calls prog 297 #[.int .u64 (n:Int)] W λ e w'=>(∃l:Int,e= .returned (.int .i64 l))/\w'=W:=by
 rcases(show n=0∨n=1∨n=2∨n=3∨n=4∨n=5∨n=6∨n=7∨n=8∨n=9∨n=10∨n=11∨n=12 by omega) with rfl|rfl|rfl|rfl|rfl|rfl|rfl|rfl|rfl|rfl|rfl|rfl|rfl
 ·refine ct 24 func297 rfl ntmps297 ?_;refine gz ?_;refine cr false rfl ?_;refine gz ?_;refine cr false rfl ?_;refine gz ?_;refine cr false rfl ?_;refine gz ?_;refine zr (.int .u8 0) ?_;refine zr (.int .u8 0) ?_;refine zr (.int .i64 0) ?_;refine zr (.int .i64 0) ?_;refine gz ?_;exact aF ⟨⟨_,rfl⟩,rfl⟩
 ·refine ct 24 func297 rfl ntmps297 ?_;refine gz ?_;refine cr false rfl ?_;refine gz ?_;refine cr false rfl ?_;refine gz ?_;refine cr false rfl ?_;refine gz ?_;refine zr (.int .u8 1) ?_;refine zr (.int .u8 1) ?_;refine zr (.int .i64 1) ?_;refine zr (.int .i64 1) ?_;refine gz ?_;exact aF ⟨⟨_,rfl⟩,rfl⟩
 ·refine ct 24 func297 rfl ntmps297 ?_;refine gz ?_;refine cr false rfl ?_;refine gz ?_;refine cr false rfl ?_;refine gz ?_;refine cr false rfl ?_;refine gz ?_;refine zr (.int .u8 2) ?_;refine zr (.int .u8 2) ?_;refine zr (.int .i64 2) ?_;refine zr (.int .i64 2) ?_;refine gz ?_;exact aF ⟨⟨_,rfl⟩,rfl⟩
 ·refine ct 24 func297 rfl ntmps297 ?_;refine gz ?_;refine cr false rfl ?_;refine gz ?_;refine cr false rfl ?_;refine gz ?_;refine cr false rfl ?_;refine gz ?_;refine zr (.int .u8 3) ?_;refine zr (.int .u8 2) ?_;refine zr (.int .i64 2) ?_;refine zr (.int .i64 2) ?_;refine gz ?_;exact aF ⟨⟨_,rfl⟩,rfl⟩
 ·refine ct 24 func297 rfl ntmps297 ?_;refine gz ?_;refine cr false rfl ?_;refine gz ?_;refine cr false rfl ?_;refine gz ?_;refine cr false rfl ?_;refine gz ?_;refine zr (.int .u8 4) ?_;refine zr (.int .u8 3) ?_;refine zr (.int .i64 3) ?_;refine zr (.int .i64 3) ?_;refine gz ?_;exact aF ⟨⟨_,rfl⟩,rfl⟩
 ·refine ct 24 func297 rfl ntmps297 ?_;refine gz ?_;refine cr false rfl ?_;refine gz ?_;refine cr false rfl ?_;refine gz ?_;refine cr false rfl ?_;refine gz ?_;refine zr (.int .u8 5) ?_;refine zr (.int .u8 3) ?_;refine zr (.int .i64 3) ?_;refine zr (.int .i64 3) ?_;refine gz ?_;exact aF ⟨⟨_,rfl⟩,rfl⟩
 ·refine ct 24 func297 rfl ntmps297 ?_;refine gz ?_;refine cr false rfl ?_;refine gz ?_;refine cr false rfl ?_;refine gz ?_;refine cr false rfl ?_;refine gz ?_;refine zr (.int .u8 6) ?_;refine zr (.int .u8 3) ?_;refine zr (.int .i64 3) ?_;refine zr (.int .i64 3) ?_;refine gz ?_;exact aF ⟨⟨_,rfl⟩,rfl⟩
 ·refine ct 24 func297 rfl ntmps297 ?_;refine gz ?_;refine cr false rfl ?_;refine gz ?_;refine cr false rfl ?_;refine gz ?_;refine cr false rfl ?_;refine gz ?_;refine zr (.int .u8 7) ?_;refine zr (.int .u8 3) ?_;refine zr (.int .i64 3) ?_;refine zr (.int .i64 3) ?_;refine gz ?_;exact aF ⟨⟨_,rfl⟩,rfl⟩
 ·refine ct 24 func297 rfl ntmps297 ?_;refine gz ?_;refine cr false rfl ?_;refine gz ?_;refine cr false rfl ?_;refine gz ?_;refine cr false rfl ?_;refine gz ?_;refine zr (.int .u8 8) ?_;refine zr (.int .u8 4) ?_;refine zr (.int .i64 4) ?_;refine zr (.int .i64 4) ?_;refine gz ?_;exact aF ⟨⟨_,rfl⟩,rfl⟩
 ·refine ct 24 func297 rfl ntmps297 ?_;refine gz ?_;refine cr false rfl ?_;refine gz ?_;refine cr false rfl ?_;refine gz ?_;refine cr false rfl ?_;refine gz ?_;refine zr (.int .u8 9) ?_;refine zr (.int .u8 4) ?_;refine zr (.int .i64 4) ?_;refine zr (.int .i64 4) ?_;refine gz ?_;exact aF ⟨⟨_,rfl⟩,rfl⟩
 ·refine ct 24 func297 rfl ntmps297 ?_;refine gz ?_;refine cr false rfl ?_;refine gz ?_;refine cr false rfl ?_;refine gz ?_;refine cr false rfl ?_;refine gz ?_;refine zr (.int .u8 10) ?_;refine zr (.int .u8 4) ?_;refine zr (.int .i64 4) ?_;refine zr (.int .i64 4) ?_;refine gz ?_;exact aF ⟨⟨_,rfl⟩,rfl⟩
 ·refine ct 24 func297 rfl ntmps297 ?_;refine gz ?_;refine cr false rfl ?_;refine gz ?_;refine cr false rfl ?_;refine gz ?_;refine cr false rfl ?_;refine gz ?_;refine zr (.int .u8 11) ?_;refine zr (.int .u8 4) ?_;refine zr (.int .i64 4) ?_;refine zr (.int .i64 4) ?_;refine gz ?_;exact aF ⟨⟨_,rfl⟩,rfl⟩
 ·refine ct 24 func297 rfl ntmps297 ?_;refine gz ?_;refine cr false rfl ?_;refine gz ?_;refine cr false rfl ?_;refine gz ?_;refine cr false rfl ?_;refine gz ?_;refine zr (.int .u8 12) ?_;refine zr (.int .u8 4) ?_;refine zr (.int .i64 4) ?_;refine zr (.int .i64 4) ?_;refine gz ?_;exact aF ⟨⟨_,rfl⟩,rfl⟩
theorem El(n:Nat)(W:World)(hn:n<=12):Calls prog 201 #[.int .u64 (n:Int)] W λ e w'=>(∃l:Int,e= .returned (.int .i64 l))/\w'=W:=by
 refine ct 7 func201 rfl ntmps201 ?_;refine gx ?_;refine zc 297 _ (IY n W hn) ?_;rintro e a ⟨⟨l,rfl⟩,rfl⟩
 refine gx ?_;exact aF ⟨⟨_,rfl⟩,rfl⟩
theorem Ma(W:World)(f:Value):Calls prog 288 #[.slice none 0 0,.int .i64 0,.int .i64 0,f] W λ e w'=>(∃v,e= .returned v)/\w'=W:=by
 refine dK [_,_,_,_] 53 func288 rfl ntmps288 (by simp) ?_;refine gx ?_;refine mH 1 rfl rfl ?_;refine gx ?_;refine mi 0 (λ _=>[(2,.int .i64 0),(8,.int .i64 1)]) (λ _ b=>b=W) ⟨rfl,rfl,trivial⟩ rfl λ d wr k c a=> ?_;replace a:wr=W:=a;subst a;refine gz ?_;refine cr false rfl ?_;refine gx ?_;exact fR λ v=>⟨⟨v,rfl⟩,rfl⟩
theorem Mb(W:World)(f:Value)(l:Int):Calls prog 200 #[.slice none 0 0,.int .i64 0,.int .i64 0,.int .i64 l,f] W λ e w'=>(∃v,e= .returned v)/\w'=W:=by
 refine dK [_,_,_,_,_] 148 func200 rfl ntmps200 (by simp) ?_;refine gx ?_;refine mi 0 (λ _=>[(0,.slice none 0 0),(1,.int .i64 0),(2,.int .i64 0),(4,f)]) (λ _ c=>c=W) ⟨rfl,rfl,rfl,rfl,trivial⟩ rfl λ g wr k d a=> ?_;replace a:wr=W:=a;subst a;refine gx ?_;refine mH 0 rfl rfl ?_;refine gz ?_;refine cr true rfl ?_;refine gx ?_;refine zc 288 _ (Ma wr f) ?_;rintro e b ⟨⟨v,rfl⟩,rfl⟩
 refine gx ?_;exact fR (R:=λ e w'=>(∃v,e= .returned v)/\w'=b) λ v=>⟨⟨v,rfl⟩,rfl⟩
theorem IZ(W:World)(f:Value):Calls prog 106 #[.slice none 0 0,f] W λ e w'=>(∃v,e= .returned v)/\w'=W:=by
 refine dK [_,_] 14 func106 rfl ntmps106 (by simp) ?_;refine gx ?_;refine zr (.int .u64 0) ?_;refine zc 201 _ (El 0 W (by omega)) ?_;rintro e a ⟨⟨l,rfl⟩,rfl⟩
 refine gx ?_;refine zc 200 _ (Mb a f l) ?_;rintro e b ⟨⟨v,rfl⟩,rfl⟩
 refine gx ?_;exact fR λ v=>⟨⟨v,rfl⟩,rfl⟩
theorem uf(x y:L9):ltOf (λ a b:L9=>yC a.nm b.nm) x y=fT x.nm y.nm:=by
 unfold ltOf;show decide (yC x.nm y.nm<0)=_;unfold yC;by_cases h:fT x.nm y.nm=true
 ·rw[if_pos h,h]
  rfl
 ·rw[if_neg h,Bool.eq_false_iff.2 h]
  split<;>rfl
theorem Cg:Sort.SWO (ltOf (λ a b:L9=>yC a.nm b.nm)):=by
 refine⟨λ x=> ?_,λ x y z h k=> ?_,λ x y z h k=> ?_⟩
 ·rw[uf]
  unfold fT;rw[bytesLess_eq]
  exact gy (List.lt_irrefl _)
 ·rw[uf] at*;unfold fT at*;rw[bytesLess_eq] at*;exact cU (List.lt_trans (kC h) (kC k))
 ·rw[uf] at*;unfold fT at*;rw[bytesLess_eq] at*;have h1:=of_decide_eq_false h;have c:=of_decide_eq_false k;refine gy λ h2=>c ?_;exact List.lt_of_le_of_lt (List.not_lt.1 h1) h2
abbrev Mc:=L9×aL
def oX(x:Mc):List Value:=encS x.1
def cfP(x y:Mc):Int:=yC x.1.nm y.1.nm
theorem aj9:Sort.SWO (ltOf cfP):=⟨λ x=>Cg.irrefl x.1,λ x y z h k=>Cg.trans x.1 y.1 z.1 h k,λ x y z h k=>Cg.ntrans x.1 y.1 z.1 h k⟩
theorem I0(W:World)(b n:Nat)(d:Array Mc)(os:Array Obj):af W (sortWorldK oX 9 W b 0 n d os) b:=by
 unfold sortWorldK Sort.grow Sort.putRowK Sort.putRow Sort.mapBlock Sort.ahead;refine⟨by simp,λ c hc a=> ?_,rfl,rfl,rfl⟩
 show(W.heap.modify b _++os)[c]? =W.heap[c]?;rw[Array.getElem?_append_left (by simpa using hc)]
 simp[Array.getElem?_modify,Ne.symm a]
theorem Tr(W:World)(b size:Nat):CmpLays prog 107 #[] oX 9 cfP b 0 size W:=λ m os a hs x y=>
 (FD _ x.1 y.1).mono λ e w' ⟨h1,h2⟩=>⟨h1,0,#[.cells (encS x.1).toArray 41,.cells (encS y.1).toArray 41],by
   rw[h2,Sort.alloc_eq_grow,Sort.alloc_eq_grow,Sort.grow_grow]
   rfl⟩
theorem Ts(h:cl (qc w) 9 cs L):∃d:Array Mc,d.size=L.length/\(∀(i:Nat)(hi:i<L.length),oX d[i]! =(cs.drop (i*9)).take 9/\d[i]!.2=L[i])/\
 ∀x∈d.toList,x.1.nm=x.2.name/\qc w (oX x) x.2:=by
 have hx:∀i:Fin L.length,∃x:Mc,oX x=(cs.drop (i.1*9)).take 9/\x.2=L[i.1]/\x.1.nm=x.2.name:=λ i=>by
  obtain⟨s1,a1,n1,c1,a2,n2,c2,s2,a3,n3,c3,a4,n4,c4,p,q,e,hv⟩:=h.2 i.1 i.2;exact⟨(⟨L[i.1].name,s1,a1,n1,c1,a2,n2,c2,s2,a3,n3,c3,a4,n4,c4,p,q⟩,L[i.1]),e.symm,rfl,rfl⟩
 obtain⟨f,hf⟩:=Classical.axiomOfChoice hx;have b:∀(i:Nat)(hi:i<L.length),(Array.ofFn f)[i]! =f ⟨i,hi⟩:=λ i hi=>by simp[hi]
 refine⟨Array.ofFn f,by simp,λ i hi=> ?_,λ x a=> ?_⟩
 ·rw[b i hi]
  exact⟨(hf ⟨i,hi⟩).1,(hf ⟨i,hi⟩).2.1⟩
 ·obtain⟨i,hi⟩:∃i:Fin L.length,f i=x:=by simpa using a
  subst hi;obtain⟨h1,h2,h3⟩:=hf i;refine⟨h3,?_⟩
  rw[h1,h2]
  exact h.2 i.1 i.2
theorem Ch(x:Mc):(oX x).length=9:=rfl
theorem QY(ho:W.ownsRow B 41 9 (.slice (some ⟨b,0,none⟩) n cap) n cs){d:Array Mc}(hd:d.size=n)(he:∀(i:Nat),i<n->oX d[i]! =(cs.drop (i*9)).take 9):Sort.HoldsK oX 9 W b 0 d:=by
 have l:=ho.1;obtain⟨w,u,h,-,-,q⟩:=bI ho;obtain⟨-,⟨h1,-⟩|⟨g,v,k,h1,-,p,-⟩⟩:=ho
 ·cases h1
 have o:b=g:=by injection h1 with h1 _ _;injection h1 with h1;injection h1
 subst o;intro j f;have f:j<n*9:=by simpa [hd] using f
 have a:j/9<n:=by omega
 refine⟨?_,?_⟩
 ·rw[Sort.get_flatK _ _ _ _ (by rw[hd];exact f),he _ a]
  obtain⟨b',-,m,hv⟩:=q j (by omega)
  injection h with e1 t s
  rw[<-e1] at m;cases m
  rw[lp,hv]
  have e:j<cs.length:=by omega
  have c:j/9*9+j%9=j:=by omega
  have r:((cs.drop (j/9*9)).take 9)[j%9]? =cs[j]? :=by
   rw[List.getElem?_take,if_pos (by omega),List.getElem?_drop,c]
  simp only[id]
  rw[getElem!_def,r,nW e]
 ·rw[lp]
  exact aD.frozen (show aD W b k 41 from p) j
def wW(x y:aL):Bool:=fT x.name y.name
theorem Md{T:Nat->Bool}(ho:W.ownsRow B 41 9 (.slice (some ⟨b,0,none⟩) L.length cap) L.length cs)(hr:cl (qc (aB W T)) 9 cs L)(hn:L.length<=12)(N:T b=false):
 Calls prog 106 #[.slice (some ⟨b,0,none⟩) L.length cap,.func (.func 107) #[] #[]] W λ e W'=>(∃v,e= .returned v)/\af W W' b/\∃z:List aL,z.Perm L/\z.Pairwise (λ x y=>wW y x=false)/\QZ (aB W' λ c=>T c||c==b) (some ⟨b,0,none⟩) L.length cap z:=by
 obtain⟨d,hd,he,hm⟩:=Ts hr;have E:=QY ho hd λ i hi=>(he i hi).1;have X:L.length<=cap:=by
  obtain⟨-,⟨h1,-⟩|⟨g,Y,U,h1,-,-,h2,-⟩⟩:=ho
  ·cases h1
  ·injection h1 with _ _ h3
   omega
 have D:b<W.heap.size:=(World.ownsRow.lt ho b rfl).2;have hs:=AnyQ.slices_SortFunc_small_sorted (P:=prog) (ρ:=Tryz.Em) Tryz.ae5 9 (by first|exact isAgg41|(intro w;kernel_rfl)) (by first|exact sizeOf41|(intro w;kernel_rfl)) oX Ch (λ x v hv=>by
  simp only[oX,encS,List.mem_cons,nU,or_false] at hv;rcases hv with rfl|rfl|rfl|rfl|rfl|rfl|rfl|rfl|rfl<;>rfl) cfP 107 #[] aj9 b 0 cap d W (λ args w=>by kernel_rfl) (Tr W b d.size) E D (by omega) (λ n W hn=>El n W hn)
 rw[hd] at hs;refine Calls.mono hs ?_;rintro e W' ⟨rfl,f,n,os,hp,q,rfl⟩
 have A:=I0 W b n f os;have I:f.size=d.size:=hp.1;have s:f.size=L.length:=by omega
 have h:f.toList.Perm d.toList:=by
  have h3:=hp.2.2;have e1:f.extract 0 L.length=f:=by rw[<-s];simp
  have S:d.extract 0 L.length=d:=by rw[<-hd];simp
  rwa [e1,S] at h3
 have u:d.toList.map (·.2)=L:=by
  apply List.ext_getElem
  ·simp[hd]
  ·intro i h1 h2;have:=(he i h2).2;rw[List.getElem_map,<-this]
   congr 1;rw[getElem!_pos d i (by omega)]
   simp
 have t:∀x∈f.toList,x.1.nm=x.2.name/\qc (aB W T) (oX x) x.2:=λ x hx=>hm x (h.mem_iff.1 hx)
 have p:(f.toList.map (·.2)).length=L.length:=by simp[s]
 refine⟨⟨_,rfl⟩,A,f.toList.map (·.2),?_,?_,?_⟩
 ·have:=h.map (·.2)
  rwa [u] at this
 ·rw[List.pairwise_map,List.pairwise_iff_getElem]
  intro i j h1 h2 K;have R:i<f.size:=by simpa using h1
  have Q:j<f.size:=by simpa using h2
  have h3:=q i j (eo _) K (by omega)
  rw[getElem!_pos f i R,getElem!_pos f j Q] at h3;have H:=(t f[i] (by simp)).1;have G:=(t f[j] (by simp)).1;have F:fT f[j].1.nm f[i].1.nm=false:=by rw[<-uf];exact h3
  rw[H,G] at F;simpa [wW] using F
 ·have hK:=holdsK_sortWorldK_c oX 9 W b 0 d f n os E D I;have o:(Sort.flatK oX 9 f).size=L.length*9:=by rw[Sort.size_flatK,s]
  have key:=QZ.mk (w:=aB (sortWorldK oX 9 W b 0 n f os) λ c=>T c||c==b) (a:=some ⟨b,0,none⟩) (cap:=cap) (l:=f.toList.map (·.2)) (cs:=(Sort.flatK oX 9 f).toList) (by omega) (by omega) (λ j C=>⟨b,rfl,?_⟩) ⟨by rw[p];simpa using o,λ i hi=> ?_⟩
  ·rwa [p] at key
  ·have k:j<(Sort.flatK oX 9 f).size:=by simpa using C
   have h1:=(hK j k).1;rw[lp] at h1;rw[fQ,if_pos (by simp),h1,nW C,getElem!_pos _ j k]
   simp
  ·have M:i<f.size:=by omega
   have J:((Sort.flatK oX 9 f).toList.drop (i*9)).take 9=oX f[i]:=by
    apply List.ext_getElem
    ·rw[List.length_take,List.length_drop,Ch]
     have:(Sort.flatK oX 9 f).toList.length=L.length*9:=by simpa using o
     omega
    ·intro r h1 h2;have V:r<9:=by rw[Ch] at h2;exact h2
     have m:i*9+r<f.size*9:=by omega
     rw[List.getElem_take,List.getElem_drop,Array.getElem_toList]
     have h3:=Sort.get_flatK oX 9 f (i*9+r) m;rw[getElem!_pos _ _ (by rw[Sort.size_flatK];exact m)] at h3;rw[h3,show(i*9+r)/9=i by omega,show(i*9+r)%9=r by omega,getElem!_pos f i M,getElem!_pos (oX f[i]) r h2]
   rw[J]
   have O:=(t f[i] (by simp)).2;rw[List.getElem_map,Array.getElem_toList]
   exact jV _ _ (au λ c hc hs=>⟨by simp[hs],A.old c hc λ e=>by rw[e,N] at hs;cases hs⟩) _ _ O
end
end Go.Proofs.YtbapfnpbamnmpaaGreatDoor
