/- A part of the proof that the text which Print makes of a parsed text is a normal form -/
import Derived.Test.YtbapfnpbamnmpaaGreatDoorP00
import Derived.Test.YtbapfnpbamnmpaaGreatDoorP21
import Derived.Test.YtbapfnpbamnmpaaGreatDoorP36
import Derived.Test.YtbapfnpbamnmpaaGreatDoorP25
import Derived.Test.YtbapfnpbamnmpaaGreatDoorP26
import Derived.Test.YtbapfnpbamnmpaaGreatDoorP35
import Derived.Test.YtbapfnpbamnmpaaGreatDoorP07
import Derived.Shelf.Strings.BuilderK
import Derived.Lib.OwnBridge
import Derived.Laws.BytesString
import Derived.Test.YtbapfnpbamnmpaaGreatDoorP24
import Derived.Test.YtbapfnpbamnmpaaGreatDoorP22
import Derived.Test.YtbapfnpbamnmpaaGreatDoorP30
set_option maxHeartbeats 8000000
set_option maxRecDepth 100000
namespace Go.Proofs.YtbapfnpbamnmpaaGreatDoor
open Go Go.RowKit Go.Dig Go.Deep Go.Eng Go.Proofs.Tryz
variable{B b c g m n:Nat}{ts:List aS}{l:List UInt8}{W W' w w' w0:World}{v:Value}
section
attribute [local irreducible] wpList
def En(x:cW):eE:=⟨rT x,nD x⟩
def yD:World->List Value->eE->Prop:=λ W l d=>∃F,zn F W l d
theorem jJ:∀w w',nT w w'->∀l t,yD w l t->yD w' l t:=λ w w' k l t ⟨F,h⟩=>⟨F,Qz F w w' k l t h⟩
def cT(a:Option Addr)(n c:Nat):Array Value:=#[.int .i64 0,.int .i64 0,.bool false,.slice none 0 0,.slice none 0 0,.string ⟨#[]⟩,.slice none 0 0,.bool false,.slice none 0 0,.slice a n c]
theorem cB{a:Option Addr}:dY 31 (cT a n c):=⟨by kernel_rfl,by simp[cT,Value.oneCell']⟩
def nG(ts:List aS)(d:ig)(W:World)(e:Ending)(W':World):Prop:=
 if (kK d.goal&&d.conds.all kK)=false then e= .returned (.tuple #[.agg (cT none 0 0),.int .i64 0,.int .i64 4])
 else match lR ts d.box d.box.length 0 with
  |some x=>e= .returned (.tuple #[.agg (cT none 0 0),.int .i64 ((ar ts x.name).at':Int),.int .i64 50])
  |none=>match d.conds[12]? with
   |some x=>e= .returned (.tuple #[.agg (cT none 0 0),.int .i64 ((ar ts x.f0).at':Int),.int .i64 4])
   |none=>match nZ ts (d.box.map (dR ts)) (d.goal::d.conds) with
    |some i=>e= .returned (.tuple #[.agg (cT none 0 0),.int .i64 ((ar ts i).at':Int),.int .i64 51])
    |none=>∃V F L',e= .returned (.tuple #[.agg V,.int .i64 0,.int .i64 0])/\dY 31 V/\L'.Perm (d.box.map (dR ts))/\L'.Pairwise (λ x y=>wW y x=false)/\Sk (aB W' (ab W.heap.size)) F (.agg V) ⟨rT d.goal,nD d.goal,L',d.conds.map En⟩/\∃ba yE,V[8]? =some (.slice ba L'.length yE)/\QZ (aB W' (ab W.heap.size)) ba L'.length yE L'
theorem I1{ts:List aS}{l:List cp}:∀n k,lR ts l n k=none->∀j,k<=j->j<k+n->j<l.length->j≠6
 |0,k,_,j,h1,h2,_=>by omega
 |n+1,k,h,j,h1,h2,h3=>by
  rw[lR] at h;have a:k<l.length:=by omega
  rw[nW a] at h;dsimp only at h;by_cases hb:pZ ts l k l[k]=true
  ·rw[if_pos hb] at h;cases h
  rw[if_neg hb] at h;by_cases b:j=k
  ·subst b;intro c;apply hb;unfold pZ;rw[cU c,Bool.or_true]
  ·exact I1 n (k+1) h j (by omega) (by omega) h3
theorem OO{l:List cp}(h:lR ts l l.length 0=none):l.length<=6:=Classical.byContradiction λ hn=>I1 l.length 0 h 6 (by omega) (by omega) (by omega) rfl
theorem Q0{ba:Option Addr}{d:Nat}{f:List Value}{L:List aL}(G:fW w0 W w0.heap.size 41 9 (.slice ba L.length d) L.length f qc L)(hn:L.length<=12):
 Calls prog 106 #[.slice ba L.length d,.func (.func 107) #[] #[]] W λ e W'=>(∃v,e= .returned v)/\aa w0 W'/\∃a:List aL,a.Perm L/\a.Pairwise (λ x y=>wW y x=false)/\QZ (aB W' (ab w0.heap.size)) ba L.length d a:=by
 have g:aa w0 W:=⟨G.kb.size,λ b hb=>G.kb.old b hb (Nat.ne_of_lt hb),G.kb.tape,G.kb.os,G.kb.output⟩
 have h:=G.rows;rw[List.take_length] at h;have n:=World.ownsRow.lt G.own;have l:=G.own;obtain⟨t,⟨hv,m⟩|⟨b,cap,s,hv,hb,-⟩⟩:=G.own
 ·injection hv with e1 r k
  subst e1;subst k;have p:L=[]:=List.eq_nil_of_length_eq_zero m;subst p;refine(IZ W _).mono ?_;rintro e W' ⟨h1,rfl⟩
  exact⟨h1,g,[],.refl _,.nil,rfl,aU _,by decide,[],λ i hi=>absurd hi (Nat.not_lt_zero i),cl.nil _ _⟩
 ·injection hv with e1 r k
  subst e1;have j:=(n b rfl).1;refine(Md (T:=S1 w0.heap.size (.slice (some ⟨b,0,none⟩) L.length d)) l h hn (by simp[S1,Value.ownBlock])).mono ?_;rintro e W' ⟨h1,o,a,hp,hs,q⟩
  refine⟨h1,g.but o j,a,hp,hs,q.sub (iJ λ c hc=> ?_)⟩
  simp only[Bool.or_eq_true,beq_iff_eq] at hc;rcases hc with hc|rfl
  ·have:w0.heap.size<=c:=by
    unfold S1 at hc;simp at hc;omega
   exact cU this
  ·exact cU j
theorem Ci{f:Nat}{l:List Value}{d:eE}(h:zn f w l d)(b:f<=g):zn g w l d:=by
 obtain⟨o,g',z,x1,x2,x3,x4,x5,x6,nm,a,n,cap,e,h⟩:=h;exact⟨o,g',z,x1,x2,x3,x4,x5,x6,nm,a,n,cap,e,h.Ie b⟩
theorem Tu{cs:List Value}{l:List eE}(h:cl (yD w) 8 cs l):∃F,cl (zn F w) 8 cs l:=by
 obtain⟨h1,h2⟩:=h;have key:∀n,∃F,∀i(hi:i<l.length),i<n->zn F w ((cs.drop (i*8)).take 8) l[i]:=by
  intro n;induction n with
  |zero=>exact⟨0,λ i _ h=>absurd h (Nat.not_lt_zero i)⟩
  |succ n ih=>
   obtain⟨F,ih⟩:=ih;by_cases hn:n<l.length
   ·obtain⟨G,c⟩:=h2 n hn;refine⟨F+G,λ i hi a=> ?_⟩
    by_cases b:i<n
    ·exact Ci (ih i hi b) (by omega)
    ·obtain rfl:i=n:=by omega
     exact Ci c (by omega)
   ·exact⟨F,λ i hi a=>ih i hi (by omega)⟩
 obtain⟨F,hF⟩:=key l.length;exact⟨F,h1,λ i hi=>hF i hi hi⟩
theorem ytp{l:Fm}{ops:Array Oper}{Q:Exit->Act->World->Prop}{oi:Oper}{fuel:Nat}{listed:Array Bool}{lo up:Nat}(i:Nat){p q:Tmp}{ty o:Nat}{t:TypeId}{Y V:Array Value}(hb:aD w g Y t)(a:dY ty V)(ho:o+V.size<=Y.size)(d:(lo<=g/\g<up)∨w0.heap.size<=g)(hS:Lk lo up w0 w)
 (h:∀w',af w w' g->aD w' g (Y.toList.take o++V.toList++Y.toList.drop (o+V.size)).toArray t->Lk lo up w0 w'->wpAnyH prog .any ops Q (Lk lo up w0) fuel (listed.setIfInBounds i true) (aH n l) w')
 (hi:ops[i]? =some oi:=by rfl)(c:oi.op= .store ty (.tmp p) (.tmp q):=by rfl)(hd:oi.dst=none:=by rfl)(e:oi.guard=none:=by rfl)
 (hx:bA n l (.tmp p)=some (.pointer (some ⟨g,o,none⟩)):=by rfl)(b:bA n l (.tmp q)=some (.agg V):=by rfl)(hr:Region.ready .any ops listed=[i]:=by kernel_rfl):
 wpAnyH prog .any ops Q (Lk lo up w0) (fuel+1) listed (aH n l) w:=by
 obtain⟨h1,h2⟩:=mR (t:=t) V.toList o w Y.toList (by simpa using hb) (by simpa using ho)
 refine Ll i (λ K hK=> ?_) hi hr;rw[if_pos (by simp[Region.wanted,e])]
 refine wp_store_mid ty (.tmp p) (.tmp q) c g o V (aE hx) (aE b) (λ j f=>⟨?_,hb.frozen _⟩) a.1 a.2 ?_
 ·rw[hb.cell (o+j) (Array.getElem?_eq_getElem (by omega))]
  rfl
 ·rw[hd]
  exact hK.out _ _ (hS.but h1 d) (h _ h1 (by simpa using h2))
theorem FE{ta:Option Addr}{tc:Nat}(h:Ls W g ta tc ts)(hT:cL W)(h6:6<=W.heap.size){s:ByteArray}{bx cd:Value}{d:ig}(ob:W.ownsRow 0 242 7 bx d.box.length (jU d.box))(oc:W.ownsRow 0 65 5 cd d.conds.length (ie d.conds))
 (hg:ReT s ts d.goal)(jr:∀x∈d.conds,ReT s ts x)(wJ:∀x∈d.box,OJ ts x)(oQ:∀x∈d.goal::d.conds,ON ts x)(hn:d.conds.length<=50000)(hnb:d.box.length<=50000)(zh:∀t∈ts,t.at'<=1000000):
 Calls prog 37 #[.agg (ef g s d.goal bx cd)] W λ e W'=>aa W W'/\nG ts d W e W':=by
 have pL:∃a n c,bx= .slice a n c:=by
  obtain⟨a,cap,rfl,-⟩:=bI ob;exact⟨_,_,_,rfl⟩
 have FA:∃a n c,cd= .slice a n c:=by
  obtain⟨a,cap,rfl,-⟩:=bI oc;exact⟨_,_,_,rfl⟩
 have D9:=qJ (g:=g) (s:=s) (x:=d.goal) pL FA;obtain⟨R,hR⟩:∃R,R=nG ts d W:=⟨_,rfl⟩
 rw[<-hR]
 refine ct 97 func37 rfl ntmps37 ?_;refine gz ?_;refine zb λ w1 g1 e1 k1 b1 q1=> ?_;refine za (cT none 0 0) 31 λ w2 g2 e2 k2 b2 q2=> ?_;have fZ:_/\True:=⟨b1.kept k2,trivial⟩
 clear b1;refine gz ?_;refine za (cT none 0 0) 31 λ w3 l e3 O b5 q3=> ?_;have K3:=(k1.trans k2).trans O;have OE:=b2.kept O;have h1:_/\True:=⟨fZ.1.kept O,trivial⟩
 clear b2 fZ;have z3:=K3.size;refine gz ?_;refine zl h1.1.range D9 ?_;refine gz ?_;refine zl (V:=fG d.goal) (iB (o:=2) h1.1 λ j v hv=>by
  match j,hv with
  |0,hv=>exact hv
  |1,hv=>exact hv
  |2,hv=>exact hv
  |3,hv=>exact hv
  |4,hv=>exact hv) (by exact⟨by kernel_rfl,by simp[fG,Value.oneCell']⟩) ?_
 refine zc 103 _ (zI (s:=s) (y:=d.goal) (h.kept K3) (hT.kept K3) (by omega) pL FA hg) ?_;rintro e w4 ⟨C0,c0,rfl,W9,M,p⟩
 refine⟨_,rfl,?_⟩
 refine gz ?_;refine za LV 93 λ w5 g6 e5 k5 b6 q5=> ?_;refine zt b6 ja W9 λ w6 k6 b6'=> ?_;have z4:=M.size;have z5:=k5.size;have z6:=k6.size;have Xt:aa w4 w6:=k5.but k6 (by omega)
 have K6:=(K3.trans M).trans Xt;have Sq:_/\True:=⟨b6',trivial⟩
 have h16:_/\True:=⟨(h1.1.kept M).kept Xt,trivial⟩
 have KX:=(OE.kept M).kept Xt;have b56:=(b5.kept M).kept Xt;have l6:=b6'.lt;clear b6 b6' OE b5 h1;refine gz ?_;by_cases Q:kK d.goal=true;case neg=>
  unfold CV at p;rw[if_neg Q] at p;obtain⟨rfl,rfl⟩:=p;refine cr true ?_ ?_
  ·rfl
  refine gz ?_;refine zr (.agg (cT none 0 0)) ?_;refine zz ?_;refine zt KX cB cB λ w7 K b7=> ?_;refine gz ?_;refine kJ b7 cB ⟨K6.but K (by omega),?_⟩
  rw[hR]
  unfold nG;rw[Bool.eq_false_iff.2 Q,Bool.false_and,if_pos rfl]
  rfl
 unfold CV at p;rw[if_pos Q] at p;obtain⟨rfl,D0,F0,rfl,oD0,ZC⟩:=p;refine cr false ?_ ?_
 ·rfl
 refine gz ?_;refine kB (h16.1.cell 8 rfl) ?_;obtain⟨ca,cc,rfl,-⟩:=bI oc;obtain⟨L,hL⟩:∃L,L=d.conds.map En:=⟨_,rfl⟩
 have hLn:L.length=d.conds.length:=by rw[hL,List.length_map]
 have ae7:l<w6.heap.size:=by omega
 refine gz ?_;refine dQ (σ:=Option Addr×Nat×List Value) d.conds.length (λ k _=>[(1,.pointer (some ⟨g1,0,none⟩)),(2,.pointer (some ⟨g2,0,none⟩)),(5,.pointer (some ⟨l,0,none⟩)),(6,.pointer (some ⟨g6,0,none⟩)),(27,.slice ca d.conds.length cc),(28,.int .i64 (d.conds.length:Int)),(29,.int .i64 (k:Int))])
  (λ k σ W'=>fW w6 W' l 93 8 (.slice σ.1 k σ.2.1) k σ.2.2 yD L/\aD W' l (cT σ.1 k σ.2.1) 31/\(d.conds.take k).all kK=true) (none,0,[]) ⟨rfl,rfl,rfl,rfl,rfl,rfl,rfl,trivial⟩ ⟨fW.start ..,b56,by simp⟩ λ fl wr k ⟨a3,dx,cs⟩ hk ⟨G,bg,fk⟩=> ?_
 replace G:fW w6 wr l 93 8 (.slice a3 k dx) k cs yD L:=G;replace bg:aD wr l (cT a3 k dx) 31:=bg;replace fk:(d.conds.take k).all kK=true:=fk;have J:=G.kb;have K3r:aa w2 wr:=⟨by have:=J.size;have:=O.size;omega,λ b hb=>(J.old b (by have:=O.size;omega) (by omega)).trans (((O.trans M).trans Xt).old b hb),J.tape.trans ((O.trans M).trans Xt).tape,J.os.trans ((O.trans M).trans Xt).os,J.output.trans ((O.trans M).trans Xt).output⟩
 have Z:=(k1.trans k2).trans K3r;have h1r:_/\True:=⟨h16.1.ai J (by omega),trivial⟩
 have h6r:_/\True:=⟨Sq.1.ai J (by omega),trivial⟩
 have q:=KX.ai J (by omega)
 have zr0:=J.size;have jF:=λ g hg=>World.ownsRow.lt G.own g hg;clear KX b56;refine gz ?_;by_cases aI:k<d.conds.length;case neg=>
  refine cr false ?_ ?_
  ·exact gy (by omega)
  refine gz ?_;obtain rfl:k=d.conds.length:=by omega
  rw[List.take_length] at fk;have iI:(kK d.goal&&d.conds.all kK)=true:=by rw[Q,fk];rfl
  refine zl h1r.1.range D9 ?_;have ob':=dD ob Z;refine zc 104 _ (L6 (s:=s) (y:=d.goal) (h.kept Z) (hT.kept Z) FA ob' wJ zh) ?_;rintro e wq ⟨kq,hq⟩
  have zq:=kq.size;have U:=q.kept kq;have Kq:=Z.trans kq;have h1q:_/\True:=⟨h1r.1.kept kq,trivial⟩
  have Gq:=G.kept jJ kq;have bgq:_/\True:=⟨bg.kept kq,trivial⟩
  have h6q:_/\True:=⟨h6r.1.kept kq,trivial⟩
  have akf:_/\True:=⟨q,trivial⟩
  have akg:_/\True:=⟨bg,trivial⟩
  clear q bg;cases qf:lR ts d.box d.box.length 0 with
  |some x=>
   rw[qf] at hq;subst hq;refine⟨_,rfl,?_⟩
   refine gz ?_;refine cr true ?_ ?_
   ·rfl
   refine gz ?_;refine zr (.agg (cT none 0 0)) ?_;refine gz ?_;refine zt U cB cB λ w7 K b7=> ?_;refine gz ?_;refine kJ b7 cB ⟨Kq.but K (by omega),?_⟩
   rw[hR]
   unfold nG;rw[iI,if_neg (by decide),qf]
  |none=>
   rw[qf] at hq;obtain⟨wb0,ba,yE,csB,rfl,Xu,GB⟩:=hq;refine⟨_,rfl,?_⟩
   refine gz ?_;refine cr false ?_ ?_
   ·rfl
   refine gz ?_;refine kB (h1q.1.cell 8 rfl) ?_;refine gz ?_;have hBx:AS (aB wq (ab W.heap.size)) ba (d.box.map (dR ts)).length yE (d.box.map (dR ts)):=by
    obtain⟨gU,iw,jT⟩:=GB.done jV (N:=W.heap.size) (by have:=Xu.size;have:=Z.size;omega) (λ b _ _=>rfl)
    refine(QZ.mk gU ?_ iw jT).bx;rw[List.length_map]
    omega
   refine cr (decide (12<d.conds.length)) ?_ ?_
   ·show decide ((12:Int)<(d.conds.length:Int))=_;rw[decide_eq_decide]
    omega
   by_cases qU:12<d.conds.length
   ·rw[cU qU]
    refine gz ?_;obtain⟨x,lq⟩:∃x,x=d.conds[12]:=⟨_,rfl⟩
    obtain⟨rb,rfl,a7⟩:=vL oc Kq qU;rw[<-lq] at a7;have Xm:x.f0<ts.length:=by
     have:=oQ x (by rw[lq];simp)
     unfold ON at this;omega
    obtain⟨tb,rfl,mQ⟩:=h.row Xm;obtain⟨x1,x2,x3,uM⟩:=h.bw;have akh:=uM.kept Kq;have b1v:=h1q.1;obtain⟨tk,oO⟩:∃tk,tk=ar ts x.f0:=⟨_,rfl⟩
    rw[<-oO] at mQ;have r1:wq.rangeAt tb (0+x.f0*3) (iH tk.kind tk.text tk.at').toList:=λ j v hv=>Kq.cell (mQ j v hv)
    have r2:wq.rangeAt rb (0+12*5) (fG x).toList:=a7;have Xa:tb<W.heap.size:=World.block_lt_of_cell? W _ (mQ 0 _ rfl)
    have lt2:rb<W.heap.size:=by
     obtain⟨ax,cx,hax,-,-,Ly⟩:=bI oc;obtain⟨b',-,uJ,Wg⟩:=Ly 0 (by rw[Cf];omega)
     injection hax with e1 e2 e3
     rw[<-e1] at uJ;cases uJ
     rw[nW (by rw[Cf];omega)] at Wg;exact World.block_lt_of_cell? W _ Wg
    have lgg:g<W.heap.size:=uM.lt;clear uM mQ a7;refine eJ g2 (g2+1) λ hS=> ?_;refine jG 1 hS ?_;refine eA 2 (b1v.cell 0 rfl) (by omega) hS ?_;refine mO 3 hS ?_;refine jG 4 hS ?_;refine eA 5 (akh.cell 0 rfl) (by omega) hS ?_;refine jG 6 hS ?_;refine eA 7 (b1v.cell 8 rfl) (by omega) hS ?_;refine Tb (s:=5) 8 12 qU hS ?_;refine jG 9 hS ?_;refine jG 10 hS ?_;refine eA 11 (r2 0 _ rfl) (by omega) hS ?_;refine Tb (s:=3) 12 x.f0 Xm hS ?_;refine jG 13 hS ?_;refine eA 14 (r1 2 _ rfl) (by omega) hS ?_;refine yr 0 (.agg (cT none 0 0)) hS ?_;refine yt 15 (U.kept (aa.refl wq).drew) cB cB (.inl ⟨aU _,Nat.lt_succ_self _⟩) hS λ w7 K b7 hS=> ?_;refine eL 16 hS ?_;refine eL 17 hS ?_;refine gB ?_;refine gz ?_;refine kJ b7 cB ⟨(Kq.drew).but K (by omega),?_⟩
    rw[hR]
    unfold nG;rw[iI,if_neg (by decide),qf]
    show match d.conds[12]? with|some x=>_|none=>_
    rw[nW qU,<-lq]
    show _=Ending.returned (.tuple #[.agg (cT none 0 0),.int .i64 ((ar ts x.f0).at':Int),.int .i64 4])
    rw[<-oO]
   rw[gy qU]
   have ae9:d.conds[12]? =none:=List.getElem?_eq_none (by omega)
   refine gz ?_;refine zl h1q.1.range D9 ?_;refine gz ?_;refine zc 105 _ (L7 (s:=s) (y:=d.goal) (h.kept Kq) pL (dD oc Kq) hn (hBx.sub (dP _ _)) oQ) ?_;rintro e wu ⟨rfl,ku⟩
   refine⟨_,rfl,?_⟩
   have zu:=ku.size;have Ku:=Kq.trans ku;have b2u:=U.kept ku;have h6u:_/\True:=⟨h6q.1.kept ku,trivial⟩
   have bgu:_/\True:=⟨bgq.1.kept ku,trivial⟩
   have Gu:=Gq.kept jJ ku;have GBu:=GB.kept jV ku;clear U;cases huE:nZ ts (d.box.map (dR ts)) (d.goal::d.conds) with
   |some i=>
    refine gz ?_;refine cr true ?_ ?_
    ·exact cU (Int.natCast_nonneg (ar ts i).at')
    refine gz ?_;refine zr (.agg (cT none 0 0)) ?_;refine gz ?_;refine zt b2u cB cB λ w7 K b7=> ?_;refine gz ?_;refine kJ b7 cB ⟨Ku.but K (by omega),?_⟩
    rw[hR]
    unfold nG;rw[iI,if_neg (by decide),qf]
    show match d.conds[12]? with|some x=>_|none=>_
    rw[ae9]
    show match nZ ts (d.box.map (dR ts)) (d.goal::d.conds) with|some i=>_|none=>_
    rw[huE]
    rfl
   |none=>
    refine gz ?_;refine cr false ?_ ?_
    ·rfl
    refine gz ?_;have hb6:=OO qf;refine zc 106 _ (Q0 GBu (by rw[List.length_map];omega)) ?_;rintro e wv ⟨⟨xv,rfl⟩,kv,L',hLp,hLs,hBv⟩
    refine⟨_,rfl,?_⟩
    have f:aa wr wv:=Xu.trans kv;have zv:=f.size;have zb0:=Xu.size;have Kv:=Z.trans f;have b2v:=akf.1.kept f;have akj:_/\True:=⟨akg.1.kept f,trivial⟩
    have h6v:_/\True:=⟨h6r.1.kept f,trivial⟩
    have Gv:=G.kept jJ f;clear b2u;obtain⟨F,I,E,D,C,B,A,z,w,H,u,r,uc,hPv⟩:=ZC.Lj;obtain rfl:=Value.agg.inj hPv;refine gz ?_;refine eJ l (l+1) λ hS=> ?_;refine jG 0 hS ?_;refine jG 2 hS ?_;refine eL 4 hS ?_;refine yl 1 (V:=#[.int .i64 F,.int .i64 I,.bool E,.slice D C B,.slice A z w,.string H,.slice u r uc]) (iB (o:=0) h6v.1 λ j v hv=>by
     match j,hv with
     |0,hv=>exact hv
     |1,hv=>exact hv
     |2,hv=>exact hv
     |3,hv=>exact hv
     |4,hv=>exact hv
     |5,hv=>exact hv
     |6,hv=>exact hv) (by omega) nX hS ?_
    refine jG 5 hS ?_;refine Eh 3 (h6v.1.cell 7 rfl) (by omega) hS ?_;refine ytp (o:=0) 6 (akj.1.kept (aa.refl wv).drew) nX (by simp[cT]) (.inl ⟨aU _,Nat.lt_succ_self _⟩) hS λ wx kx bx1 hS=> ?_;have afb:aD wx l #[.int .i64 F,.int .i64 I,.bool E,.slice D C B,.slice A z w,.string H,.slice u r uc,.bool false,.slice none 0 0,.slice a3 d.conds.length dx] 31:=by simpa [cT] using bx1
    refine jG 7 hS ?_;refine yt1 (o:=7) 8 afb (by simp) rfl (.inl ⟨aU _,Nat.lt_succ_self _⟩) hS λ wy ky by1 hS=> ?_;refine jG 9 hS ?_;refine yt1 (o:=8) 10 by1 (by simp) rfl (.inl ⟨aU _,Nat.lt_succ_self _⟩) hS λ wz kz bz1 hS=> ?_;refine gB ?_;have bz2:aD wz l #[.int .i64 F,.int .i64 I,.bool E,.slice D C B,.slice A z w,.string H,.slice u r uc,.bool (nD d.goal),.slice ba (d.box.map (dR ts)).length yE,.slice a3 d.conds.length dx] 31:=by simpa using bz1
    have KZ:af wv wz l:=af.cX (af.cX (af.cX (af.aR (af.refl wv l) (aa.refl wv).drew) kx) ky) kz;have b2z:=b2v.ai KZ (by omega)
    have zz0:=KZ.size;clear bx1 afb by1 bz1 hS b2v;refine gz ?_;refine zl bz2.range ⟨by kernel_rfl,by first|kernel_rfl|simp[Value.oneCell']⟩ ?_;refine zt b2z cB (OP (Y:=#[.int .i64 F,.int .i64 I,.bool E,.slice D C B,.slice A z w,.string H,.slice u r uc]) nX) λ wt kt bt=> ?_;refine gz ?_;have KT0:aa W wt:=(Kv.but KZ (by omega)).but kt (by omega)
    refine kJ bt (OP (Y:=#[.int .i64 F,.int .i64 I,.bool E,.slice D C B,.slice A z w,.string H,.slice u r uc]) nX) ⟨KT0,?_⟩
    have FF:∀b,b<wv.heap.size->b≠l->b≠g2->wt.heap[b]? =wv.heap[b]? :=λ b hb h1 h2=>(kt.old b (by omega) h2).trans (KZ.old b hb h1)
    have Gv':fW w6 wv l 93 8 (.slice a3 L.length dx) L.length cs yD L:=by rw[hLn];exact Gv
    obtain⟨gU,iw,jT⟩:=Gv'.done jJ (N:=W.heap.size) (W':=wt) (by omega) (λ b hb h0=>FF b hb (by omega) (by omega))
    obtain⟨FC,jT⟩:=Tu jT;have hC:=Sj.mk gU (by omega) iw (jT.mono λ _ _ h=>Ci h (show FC<=F0+FC by omega))
    rw[hLn,hL] at hC;have hE:Ex (aB wt (ab W.heap.size)) (F0+FC) (.agg #[.int .i64 F,.int .i64 I,.bool E,.slice D C B,.slice A z w,.string H,.slice u r uc]) (rT d.goal):=(ZC.Ie (show F0<=F0+FC by omega)).sub (au λ b hb hs=>by
     have h0:w3.heap.size<=b:=kC hs;exact⟨cU (by omega),(FF b (by omega) (by omega) (by omega)).trans ((f.old b (by omega)).trans ((J.old b (by omega) (by omega)).trans (Xt.old b hb)))⟩)
    have S:QZ (aB wt (ab W.heap.size)) ba (d.box.map (dR ts)).length yE L':=hBv.sub (au λ b hb hs=>by
     have h0:wb0.heap.size<=b:=kC hs;exact⟨cU (by omega),FF b hb (by omega) (by omega)⟩)
    rw[hR]
    unfold nG;rw[iI,if_neg (by decide),qf]
    show match d.conds[12]? with|some x=>_|none=>_
    rw[ae9]
    show match nZ ts (d.box.map (dR ts)) (d.goal::d.conds) with|some i=>_|none=>_
    rw[huE]
    exact⟨_,F0+FC,L',rfl,OP (Y:=#[.int .i64 F,.int .i64 I,.bool E,.slice D C B,.slice A z w,.string H,.slice u r uc]) nX,hLp,hLs,⟨F,I,E,D,C,B,A,z,w,H,u,r,uc,ba,_,yE,a3,_,dx,rfl,hE,S.bx,hC⟩,ba,yE,by rw[<-S.1];rfl,by rw[<-S.1];exact S⟩
 refine cr true ?_ ?_
 ·exact cU (by omega)
 obtain⟨x,lq⟩:∃x,x=d.conds[k]:=⟨_,rfl⟩
 have hxm:x∈d.conds:=lq▸List.getElem_mem aI;obtain⟨rb,rfl,a7⟩:=vL oc Z aI;rw[<-lq] at a7;refine gz ?_;refine zi (s:=5) k aI ?_;refine zl (V:=fG x) a7 (by exact⟨by kernel_rfl,by simp[fG,Value.oneCell']⟩) ?_;refine za ZRl 65 λ wa ga ea ka ba qa=> ?_;refine zt (V:=fG x) ba (by exact⟨by kernel_rfl,by kernel_rfl⟩) (by exact⟨by kernel_rfl,by simp[fG,Value.oneCell']⟩) λ wb kb bb=> ?_;have za0:=ka.size;have Kb:aa wr wb:=ka.but kb (by omega)
 have zb0:=Kb.size;have h1b:_/\True:=⟨h1r.1.kept Kb,trivial⟩
 have AB:aD wb ga (fG x) 65/\True:=⟨bb,trivial⟩
 clear ba bb a7;refine gz ?_;refine zl h1b.1.range D9 ?_;refine zl AB.1.range (by exact⟨by kernel_rfl,by simp[fG,Value.oneCell']⟩) ?_;have Kwb:=Z.trans Kb;have arG:=Kwb.size;refine zc 103 _ (zI (s:=s) (y:=d.goal) (h.kept Kwb) (hT.kept Kwb) (by omega) pL FA (jr x hxm)) ?_;rintro e wc ⟨C1,c1,rfl,oC1,kc,m⟩
 refine⟨_,rfl,?_⟩
 refine gz ?_;refine za LV 93 λ wd gd ed kd bd qd=> ?_;refine zt bd ja oC1 λ we ke be=> ?_;have zc0:=kc.size;have zd0:=kd.size;have ze0:=ke.size;have Kce:aa wc we:=kd.but ke (by omega)
 have X:=(Kb.trans kc).trans Kce;have hbe:_/\True:=⟨be,trivial⟩
 have b2e:=q.kept X;clear bd be q;refine gz ?_;by_cases P:kK x=true;case neg=>
  unfold CV at m;rw[if_neg P] at m;obtain⟨rfl,rfl⟩:=m;refine cr true ?_ ?_
  ·rfl
  refine gz ?_;refine zr (.agg (cT none 0 0)) ?_;refine zz ?_;refine zt b2e cB cB λ w7 K b7=> ?_;refine gz ?_;refine kJ b7 cB ⟨(Z.trans X).but K (by omega),?_⟩
  rw[hR]
  unfold nG;have hf:d.conds.all kK=false:=Bool.eq_false_iff.2 λ h=>P (List.all_eq_true.1 h x hxm)
  rw[hf,Bool.and_false,if_pos rfl]
  rfl
 unfold CV at m;rw[if_pos P] at m;obtain⟨rfl,D1,F1,rfl,oD1,Xh⟩:=m;obtain⟨F,I,E,D,C,B,A,z,w,H,u,r,uc,hPv⟩:=Xh.Lj;obtain rfl:=Value.agg.inj hPv;have hkL:k<L.length:=by omega
 have eLk:L[k]=En x:=by
  have h1:L[k]? =some (En x):=by rw[hL,List.getElem?_map,nW aI,lq];rfl
  rw[nW hkL] at h1;exact iG h1
 have Ge:=G.kept jJ X;have bge:_/\True:=⟨bg.kept X,trivial⟩
 clear bg;refine cr false ?_ ?_
 ·rfl
 refine gz ?_;refine kB (bge.1.cell 9 rfl) ?_;refine zl hbe.1.range oC1 ?_;refine aaQ (V:=#[.int .i64 F,.int .i64 I,.bool E,.slice D C B,.slice A z w,.string H,.slice u r uc,.bool (nD x)]) (T:=sP wb.heap.size [gd]) aaO rfl (by decide) (by decide) underlying29 Ge jJ bge.1 ae7 (by simp[Value.oneCell']) rfl hkL (by omega) ?_ (λ b hb=> ?_) (by kernel_rfl) λ wh a' aK GG bh=> ?_
 ·rw[eLk]
  refine⟨F1,_,_,_,_,_,_,_,_,_,_,_,_,_,rfl,?_⟩
  exact Xh.sub (au λ b hb hs=>by
   have h0:wb.heap.size<=b:=kC hs;exact⟨ou.2 ⟨h0,by simp;omega⟩,Kce.old b hb⟩)
 ·have h0:=(ou.1 hb).1;refine⟨by omega,λ he=> ?_⟩
  have:=(jF b he.symm).2;omega
 refine gz ?_;refine fV (i:=9) bh (by simp[cT]) rfl λ wi ki bi=> ?_;have GI:=GG.store jJ ki ae7;refine gz ?_;refine mH ((k+1:Nat):Int) ?_ ?_ ?_
 ·show(k:Int)+1=_;omega
 ·rw[IntKind.wrap_i64];omega
 refine gz ?_;exact⟨_,(a',aK,_),rfl,aI,⟨rfl,rfl,rfl,rfl,rfl,rfl,rfl,trivial⟩,GI,bi,by rw[List.take_succ_eq_append_getElem aI,List.all_append,fk,<-lq];simp[P]⟩
def aJ(s:ByteArray):List aS:=(aP true s 0).1++[ij s]
structure OQ(s:ByteArray)(ts:List aS)(d:ig)(u:List (Nat×Bool)):Prop where
 num:∀t∈ts,t.kind=0->vv t.text
 len:ts.length<=5000
 at':∀t∈ts,t.at'<=1000000
 ue:BG ts (gi u false)
 ui:BG ts (gi u true)
 nc:d.conds.length<=50000
 nb:d.box.length<=50000
 inn:∀x∈d.goal::d.conds,ON ts x
 ok:gP ts=none->mj ts (gi u false) (gi u true)=none->ReT s ts d.goal/\(∀x∈d.conds,ReT s ts x)/\∀x∈d.box,OJ ts x
theorem nG.move{d:ig}{W1 W2:World}{e:Ending}(h:nG ts d W1 e W')(k:nT (aB W' (ab W1.heap.size)) (aB W2 (ab W.heap.size))):
 nG ts d W e W2/\∃V,∃a c:Int,e= .returned (.tuple #[.agg V,.int .i64 a,.int .i64 c])/\dY 31 V:=by
 unfold nG at h⊢;split at h
 ·rename_i b;rw[if_pos b]
  exact⟨h,_,_,_,h,cB⟩
 rename_i b;rw[if_neg b]
 cases hb:lR ts d.box d.box.length 0 with
 |some x=>
  rw[hb] at h;exact⟨h,_,_,_,h,cB⟩
 |none=>
  rw[hb] at h;cases g:d.conds[12]? with
  |some x=>
   simp only[g] at h;exact⟨h,_,_,_,h,cB⟩
  |none=>
   simp only[g] at h;cases f:nZ ts (d.box.map (dR ts)) (d.goal::d.conds) with
   |some i=>
    simp only[f] at h;exact⟨h,_,_,_,h,cB⟩
   |none=>
    simp only[f] at h;obtain⟨V,F,q,h1,h2,h3,n,m,p,o,l,j⟩:=h;exact⟨⟨V,F,q,h1,h2,h3,n,m.sub k,p,o,l,j.sub k⟩,V,0,0,h1,h2⟩
def sU(s:ByteArray)(r:PR ig)(W:World)(e:Ending)(W':World):Prop:=
 if 4000<s.size then e= .returned (.tuple #[.agg (cT none 0 0),.int .i64 0,.int .i64 4])
 else match (aP true s 0).2 with
  |some j=>e= .returned (.tuple #[.agg (cT none 0 0),.int .i64 (j:Int),.int .i64 3])
  |none=>match (generalizing:=false) r with
   | .bad j=>e= .returned (.tuple #[.agg (cT none 0 0),.int .i64 ((ar (aJ s) j).at':Int),.int .i64 3])
   | .ok d _ u=>match gP (aJ s) with
     |some (a,c)=>e= .returned (.tuple #[.agg (cT none 0 0),.int .i64 (a:Int),.int .i64 (c:Int)])
     |none=>match mj (aJ s) (gi u false) (gi u true) with
      |some (a,c)=>e= .returned (.tuple #[.agg (cT none 0 0),.int .i64 (a:Int),.int .i64 (c:Int)])
      |none=>nG (aJ s) d W e W'
theorem qV(s:ByteArray)(hT:cL W)(hR:sF W)(h6:6<=W.heap.size){r:PR ig}(hn:n<=1000000)(hr:s.size<=4000->(aP true s 0).2=none->rH aN (aJ s) n=some r)(iI:s.size<=4000->(aP true s 0).2=none->∀d j u,r= .ok d j u->OQ s (aJ s) d u):
 Calls prog 11 #[.string s] W λ e W'=>aa W W'/\sU s r W e W':=by
 obtain⟨R,t⟩:∃R,R=sU s r W:=⟨_,rfl⟩
 rw[<-t]
 refine ct 64 func11 rfl ntmps11 ?_;refine gx ?_;refine za (cT none 0 0) 31 λ w1 g1 e1 k1 b1 q1=> ?_;refine gx ?_;by_cases hs:4000<s.size
 ·refine gx ?_;refine zr (.agg (cT none 0 0)) ?_;refine zt b1 cB cB λ Q E I=> ?_;refine gx ?_;refine kJ I cB ⟨k1.but E (by omega),?_⟩
  rw[t]
  unfold sU;rw[if_pos hs]
 have L:s.size<=4000:=by omega
 refine gx ?_;refine zc 33 _ (I2 w1 s L) ?_;rintro e Q ⟨he,E⟩
 have I:=b1.kept E;have K2:=k1.trans E;clear b1;cases hsc:(aP true s 0).2 with
 |some j=>
  rw[hsc] at he;subst he;refine gx ?_;refine zr (.agg (cT none 0 0)) ?_;refine gx ?_;refine zt I cB cB λ w3 C b3=> ?_;refine gx ?_;refine kJ b3 cB ⟨K2.but C (by omega),?_⟩
  rw[t]
  unfold sU;rw[if_neg hs,hsc]
 |none=>
  rw[hsc] at he;obtain⟨ta,tc,rfl,ht⟩:=he;refine gx ?_;have k:(aJ s).length=(aP true s 0).1.length+1:=by simp[aJ]
  have II:BC Q ta (aJ s).length tc (aJ s):=by
   rw[k]
   exact ht.sub (dP _ _)
  have rS:=hr L hsc;have Tv:=iI L hsc;rw[<-k]
  refine zc 34 _ (I3 aN (w:=Q) L (ts:=aJ s) rfl II hn rS) ?_;rintro e w3 ⟨C,he⟩
  have K3:=K2.trans C;have b3:=I.kept C;have z2:=K2.size;have z3:=C.size;clear I;cases r with
  |bad j=>
   obtain⟨V,K,rfl⟩:=he;refine gx ?_;refine za Z69 69 λ w4 g4 e4 T H q4=> ?_;refine zt H (by exact⟨by kernel_rfl,by simp[Z69,Value.oneCell']⟩) K λ P S G=> ?_;have y:_/\True:=⟨G,trivial⟩
   have m:aa w3 P:=T.but S (by omega)
   have N:=b3.kept m;clear H G b3;refine gx ?_;refine zr (.agg (cT none 0 0)) ?_;refine gx ?_;refine zt N cB cB λ w6 q b6=> ?_;refine gx ?_;refine kJ b6 cB ⟨(K3.trans m).but q (by omega),?_⟩
   rw[t]
   unfold sU;rw[if_neg hs,hsc]
  |ok d j u=>
   obtain⟨g,ve,vi,bx,cd,hg,rfl,l⟩:=he;have hd:=Tv d j u rfl;refine⟨_,rfl,?_⟩
   have Y:∃a n c,bx= .slice a n c:=by
    obtain⟨a,cap,rfl,-⟩:=bI l.ob;exact⟨_,_,_,rfl⟩
   have U:∃a n c,cd= .slice a n c:=by
    obtain⟨a,cap,rfl,-⟩:=bI l.oc;exact⟨_,_,_,rfl⟩
   have M:=qJ (g:=g) (s:=s) (x:=d.goal) Y U;have v:Ls w3 g ta tc (aJ s):=⟨⟨_,_,_,l.bw⟩,II.sub λ _ _ hc=>C.cell hc,hd.num,hd.len⟩
   refine gx ?_;refine za Z69 69 λ w4 g4 e4 T H q4=> ?_;refine zt H (by exact⟨by kernel_rfl,by simp[Z69,Value.oneCell']⟩) M λ P S G=> ?_;have y:_/\True:=⟨G,trivial⟩
   have m:aa w3 P:=T.but S (by omega)
   have N:=b3.kept m;have J:=K3.trans m;have z5:=m.size;clear H G b3;refine gx ?_;refine zl y.1.range M ?_;refine zc 35 _ (Ij (s:=s) (x:=d.goal) (v.kept m) (hT.kept J) Y U) ?_;rintro e w6 ⟨rfl,q⟩
   refine⟨_,rfl,?_⟩
   have Hs:=N.kept q;have z6:=q.size;have A:=J.trans q;have F:_/\True:=⟨y.1.kept q,trivial⟩
   clear N;cases i:gP (aJ s) with
   |some p=>
    obtain⟨a,c⟩:=p;have X:c=10∨c=1:=by
     unfold gP at i;split at i
     ·cases i;exact .inl rfl
     ·split at i
      ·cases i;exact .inr rfl
      ·cases i
    show wpList prog _ _ _ _ _;refine gx ?_;refine cr true ?_ ?_
    ·rcases X with rfl|rfl<;>rfl
    refine gx ?_;refine zr (.agg (cT none 0 0)) ?_;refine gx ?_;refine zt Hs cB cB λ O o b7=> ?_;refine gx ?_;refine kJ b7 cB ⟨A.but o (by omega),?_⟩
    rw[t]
    unfold sU;rw[if_neg hs,hsc]
    show match gP (aJ s) with|some (a,c)=>_|none=>_
    rw[i]
   |none=>
    show wpList prog _ _ _ _ _;refine gx ?_;refine zl F.1.range M ?_;have h:=m.trans q;refine zc 36 _ (Iw (s:=s) (x:=d.goal) (v.kept h) (hR.kept A) Y U (l.bw.kept h) (dD l.oe h) (dD l.oi h) hd.ue hd.ui) ?_;rintro e O ⟨rfl,o⟩
    refine⟨_,rfl,?_⟩
    have LU:=Hs.kept o;have z7:=o.size;have z:=A.trans o;have Z:_/\True:=⟨F.1.kept o,trivial⟩
    have B:=h.trans o;clear Hs;cases f:mj (aJ s) (gi u false) (gi u true) with
    |some p=>
     obtain⟨a,c⟩:=p;have X:c=2:=by
      unfold mj at f;split at f
      ·cases f
      ·cases f;rfl
     subst X;show wpList prog _ _ _ _ _;refine gx ?_;refine zr (.agg (cT none 0 0)) ?_;refine gx ?_;refine zt LU cB cB λ w8 D b8=> ?_;refine gx ?_;refine kJ b8 cB ⟨z.but D (by omega),?_⟩
     rw[t]
     unfold sU;rw[if_neg hs,hsc]
     show match gP (aJ s) with|some (a,c)=>_|none=>_
     rw[i]
     show match mj (aJ s) (gi u false) (gi u true) with|some (a,c)=>_|none=>_
     rw[f]
    |none=>
     obtain⟨DE,jr,wJ⟩:=hd.ok i f;show wpList prog _ _ _ _ _;refine gx ?_;refine zl Z.1.range M ?_;refine zc 37 _ (FE (s:=s) (v.kept B) (hT.kept z) (by omega) (dD l.ob B) (dD l.oc B) DE jr wJ hd.inn hd.nc hd.nb hd.at') ?_;rintro e w8 ⟨D,iw⟩
     have z8:=D.size;have Tw:=LU.kept D;clear LU;obtain⟨-,V,a,c,rfl,K⟩:=iw.move (W:=W) (W2:=w8) (iJ λ b hb=>cU (by have h0:O.heap.size<=b:=kC hb;omega))
     refine gx ?_;refine zt Tw cB K λ w9 k9 b9=> ?_;have b9h:_/\True:=⟨b9,trivial⟩
     clear b9;refine gx ?_;refine kJ b9h.1 K ⟨(z.trans D).but k9 (by omega),?_⟩
     rw[t]
     unfold sU;rw[if_neg hs,hsc]
     show match gP (aJ s) with|some (a,c)=>_|none=>_
     rw[i]
     show match mj (aJ s) (gi u false) (gi u true) with|some (a,c)=>_|none=>_
     rw[f]
     exact(iw.move (W:=W) (W2:=w9) (au λ b hb hs=>by
      have h0:O.heap.size<=b:=kC hs;exact⟨cU (by omega),k9.old b hb (by have:=E.size;omega)⟩)).1
def Ha(ts:List aS)(x:lQ):Nat:=if x.inf=true then 0 else dn (aN (ar ts x.at').text).d
section
variable{β:Type}{ts l:List aS}{r:PR β}{us0 us:List (Nat×Bool)}{bd:Int}{W:World}{g en i hb:Nat}{la:Option Addr}{lc:Nat}{vc rv ev:Value}
end
end
def BW(w0:World)(g:Nat)(l:List UInt8)(W:World):Prop:=aa w0 W/\Lib.IsBuilderF 109 5 w0.heap.size g (Lib.byteCells l) W
structure DV(g:Nat)(W W':World):Prop where
 size:W.heap.size<=W'.heap.size
 rest:Lib.OthersKept 5 (some g) W W'
theorem DV.trans{W1 W2:World}(h:DV g W W1)(k:DV g W1 W2):DV g W W2:=⟨jP h.size k.size,h.rest.trans k.rest⟩
theorem jl(k:aa W W')(g:Nat):DV g W W':=⟨k.size,λ b o h _ _=>by rw[k.old b (Array.getElem?_eq_some_iff.1 h).1];exact h⟩
theorem DV.bw{V:Array Value}{t:TypeId}(h:DV g W W')(hb:aD W b V t)(d:b≠g)(a:t≠5):aD W' b V t:=
 h.rest b _ hb (λ e=>d (iG e)) λ c i e=>by
  injection e with _ f
  exact a f
theorem BW.kept(h:BW w0 g l W)(k:aa W W'):BW w0 g l W':=by
 refine⟨h.1.trans k,?_⟩
 have key:∀p,Lib.BuilderAtF 109 5 w0.heap.size g p (Lib.byteCells l) W->Lib.BuilderAtF 109 5 w0.heap.size g p (Lib.byteCells l) W':=by
  rintro p ⟨h1,v,h2,h3,a⟩
  refine⟨h1,v,?_,h3.kept (row:=none) ⟨k.os,k.tape,k.output,k.size,λ b hb _=>k.old b hb⟩ ?_,a⟩
  ·rw[k.old g (Array.getElem?_eq_some_iff.1 h2).1];exact h2
  ·cases e:v.ownBlock
   ·exact .inl rfl
   ·exact .inr (by simp)
 rcases h.2 with h|h
 ·exact .inl (key _ h)
 ·exact .inr (key _ h)
theorem BW.lt(h:BW w0 g l W):w0.heap.size<=g/\g<W.heap.size:=by
 rcases h.2 with⟨h1,v,h2,-⟩|⟨h1,v,h2,-⟩
 ·exact⟨h1,(Array.getElem?_eq_some_iff.1 h2).1⟩
 ·exact⟨h1,(Array.getElem?_eq_some_iff.1 h2).1⟩
theorem Cv(h:aa w0 W)(k:Below w0.heap.size W W'):aa w0 W':=
 ⟨jP h.size k.size,λ c hc=>(k.block c hc).trans (h.old c hc),k.tape.trans h.tape,k.os.trans h.os,k.output.trans h.output⟩
theorem dG(h:BW w0 g l W)(s:ByteArray)(b:l.length+s.size<=140737488355328):
 Calls prog 50 #[.pointer (some ⟨g,0,none⟩),.string s] W λ e W'=>(∃v,e= .returned v)/\BW w0 g (l++s.data.toList) W'/\DV g W W':=by
 refine(Any.Builder_WriteString_k Tryz.XT Tryz.xl _ g _ s W h.2 (by rw[Lib.byteCells_length];exact b) h.1.size).mono ?_;rintro e W' ⟨rfl,hb,a,ho⟩
 refine⟨⟨_,rfl⟩,⟨Cv h.1 a,.inr ?_⟩,a.size,ho⟩
 have e:Lib.byteCells (l++s.data.toList)=Lib.byteCells l++Lib.strCells s:=by simp[Lib.byteCells,Lib.strCells]
 rw[e]
 exact hb
theorem Cw(h:BW w0 g l W):
 Calls prog 54 #[.pointer (some ⟨g,0,none⟩)] W λ e W'=>e= .returned (.string ⟨l.toArray⟩)/\aa w0 W':=by
 refine(Any.Builder_String_any_k Tryz.XU Tryz.xm _ g l W h.2 h.1.size).mono ?_;rintro e W' ⟨rfl,-,a,-⟩
 exact⟨rfl,Cv h.1 a⟩
theorem MC(h:BW w0 g l W):
 Calls prog 53 #[.pointer (some ⟨g,0,none⟩)] W λ e W'=>e= .returned (.int .i64 (l.length:Int))/\W'=W:=by
 refine(Any.Builder_Len_f Tryz.XV _ g _ W h.2).mono ?_;rintro e W' ⟨rfl,a⟩
 exact⟨by rw[Lib.byteCells_length],a⟩
def tB(w:World):Prop:=6<w.heap.size/\Lib.TabIs prog w "internal/strconv.uint64pow10" .u64 Lib.pow10Tab
theorem tB.kept(h:tB w)(k:aa w w'):tB w':=by
 obtain⟨h1,h2⟩:=h;refine⟨jf h1 k.size,?_⟩
 have e:prog.globalNamed "internal/strconv.uint64pow10" =some 6:=by kernel_rfl
 unfold Lib.TabIs World.var? at h2⊢;rw[e] at h2⊢;have h3:=k.old 6 h1;simp only[Option.bind_some] at h2⊢;rw[h3]
 exact h2
theorem Cx(a:tB w)(n:Int)(c: -1000000<=n)(h1:n<=1000000):
 Calls prog 372 #[.int .i64 n] w λ e w'=>e= .returned (.string ⟨(Lib.itoa n).toArray⟩)/\aa w w':=by
 refine(Tryz.strconv_Itoa n (by omega) (by omega) w a.2).mono ?_;rintro e w' ⟨rfl,k,os,rfl⟩
 exact⟨rfl,⟨by simp[Sort.grow,World.drewN],λ b hb=>by simp[Sort.grow,World.drewN,Array.getElem?_append,hb],rfl,rfl,rfl⟩⟩
theorem MD(h:w.ownsRow B 5 1 v n (Lib.byteCells l))(hn:0<n)(hs:n<=9223372036854775807):
 Calls prog 308 #[v] w λ e w'=>(∃u,e= .returned u)/\w'.ownsRow B 5 1 v n (Lib.byteCells l.reverse)/\w.grownBy w' v.ownBlock:=by
 have hv:v≠.slice none 0 0:=by
  rintro rfl;rcases h.2 with⟨-,a⟩|⟨g,cap,i,a,-⟩
  ·omega
  ·cases a
 obtain⟨g,cap,rfl,o,m,hc,hm,d,f⟩:=Lib.holds_of_ownsRow (enc:=λ b:UInt8=>Value.int .u8 (b.toNat:Int)) (zs:=l) h hv;subst d;refine(AnyE.slices_Reverse Tryz.ald (λ b:UInt8=>Value.int .u8 (b.toNat:Int)) (λ _=>rfl) g 0 cap l w f hs).mono ?_;rintro e w' ⟨rfl,q,rfl⟩
 have h1:=Lib.ownsRow_putRow (enc:=λ b:UInt8=>Value.int .u8 (b.toNat:Int)) (q:=q) (ys:=l.reverse) h (List.length_reverse) (aU _)
 rw[List.take_of_length_le (by simp)] at h1;exact⟨⟨_,rfl⟩,h1,rfl,rfl,rfl,by simp[Sort.putRow,Sort.mapBlock,Sort.ahead],λ k j c=>by simp[Sort.putRow,Sort.mapBlock,Sort.ahead,Array.getElem?_modify];intro e;exact absurd (by rw[e];rfl) c⟩
section
attribute [local irreducible] wpList
theorem MJ(w:World)(a:Option Addr)(cap n d:Nat)(xs:Nat->Nat)(hn:n<=1024)(t:0<d)(hd:d<4294967296)
 (l:∀i,i<n->xs i<4294967296)(hx:Ws w a n xs):
 Calls prog 307 #[.slice a n cap,.int .u32 (d:Int)] w λ e w'=>∃k c,e= .returned (.tuple #[.slice (some ⟨w.heap.size,0,none⟩) k c,.int .u32 ((ak 4294967296 xs n%d:Nat):Int)])/\Nt 4294967296 w' (.slice (some ⟨w.heap.size,0,none⟩) k c) (ak 4294967296 xs n/d)/\aa w w'/\w.heap.size<w'.heap.size:=by
 have s:=λ w=>run_make_row' (P:=prog) 22 191 (.int .u32 0) 4 underlying22 fO rfl .i64 .i64 n (by omega) (by omega) w;have v:=Lib.hid l;clear l;have z:=Lib.hid hx;clear hx;go_enter func307,ntmps307;go_wp2;clear s;go_loopw [7,8] (λ p i wr=>∃(k r:Nat)(zs:Nat->Nat),k<=n/\i= .int .i64 ((k:Int)-1)/\p= .int .u64 (r:Int)/\yg 4294967296 xs n d k zs r/\ly wr w.heap.size n zs/\aa w wr) (λ _ i _=>(intOf i+1).toNat)
 case atStart=>exact⟨n,0,λ _=>0,aU _,rfl,rfl,yg.start (by decide) t,ly.made _ _,(aa.refl _).alloc _⟩
 case round=>
  obtain⟨k,r,zs,C,rfl,rfl,g,f,j⟩:=hrel;cases k with
  |zero=>
   have m:=g.WM;go_wp2_with(go_at_call 248;refine(gO _ _ _ _ zs (by omega) (aU _) (f.ws (aU _))).mono ?_;rintro e w' ⟨rfl,rfl⟩)
   go_ret2;have o:=g.done;refine⟨cC zs n,n,by rw[<-o.2];rfl,?_,j,World.rowIs.lt f⟩
   have:=iX (B:=4294967296) (cap:=n) (aU _) (λ i _=>g.lt i) (f.ws (aU _))
   rw[o.1] at this;exact this
  |succ k=>
   obtain⟨b,off,rfl,hc⟩:=z.out k (by omega)
   have h1:=j.cell hc;have E:=Lib.hid hc;clear hc;have h:=v.out k (by omega)
   have h3:=f.cell (i:=k) (by omega)
   have D:=f.frozen k;have m:=g.WM;have q:=Lib.hid (g.step (by omega) h)
   have A:=A8 (x:=xs k) (y:=r) h (by omega)
   have u:=tU m h;clear g;go_wp2;go_roundw
   case rel=>
    refine⟨k,(r*4294967296+xs k)%d,ep zs k ((r*4294967296+xs k)/d),by omega,rfl,by simp,q.out,?_,j.setCell (aU _) _⟩
    have e1:(((r:Int)*4294967296+(xs k:Int))/(d:Int))%4294967296=(((r*4294967296+xs k)/d:Nat):Int):=by
     have h2:(r*4294967296+xs k)/d<4294967296:=Nat.div_lt_of_lt_mul u;rw[show((r:Int)*4294967296+(xs k:Int))/(d:Int)=(((r*4294967296+xs k)/d:Nat):Int) by simp]
     exact Gl h2
    rw[e1]
    exact f.set _ _
   case measure=>simp[intOf]
theorem Ui(h:Nt B w v m)(k:nT w w'):Nt B w' v m:=by
 obtain⟨a,n,cap,zs,h1,h2,h3,f,d,c⟩:=h;exact⟨a,n,cap,zs,h1,h2,h3,f,d,λ i hi=>by
  obtain⟨b,off,e,hc⟩:=c i hi;exact⟨b,off,e,k _ _ hc⟩⟩
theorem Nt.only{S:Nat->Bool}(h:Nt B w (.slice (some ⟨g,0,none⟩) n c) m)(hS:S g=true):Nt B (aB w S) (.slice (some ⟨g,0,none⟩) n c) m:=by
 obtain⟨a,k,l,zs,e,h2,h3,j,f,d⟩:=h;cases e
 refine⟨_,_,_,zs,rfl,h2,h3,j,f,λ i hi=> ?_⟩
 obtain⟨b,off,e,hc⟩:=d i hi;refine⟨b,off,e,?_⟩
 cases e
 rw[fQ,if_pos hS]
 exact hc
def mU(n:Nat):List UInt8:=if h:n=0 then [] else UInt8.ofNat (48+n%10)::mU (n/10)
termination_by n
decreasing_by omega
theorem ux:mU 0=[]:=by rw[mU,dif_pos rfl]
theorem xB(h:n≠0):mU n=UInt8.ofNat (48+n%10)::mU (n/10):=by rw[mU,dif_neg h]
theorem Jr:∀(n:Nat),0<n->(mU n).reverse=Lib.decDigits n:=by
 intro n;induction n using Nat.strongRecOn with
 |_ n ih=>
  intro h;rw[xB (by omega),Lib.decDigits]
  by_cases a:n<10
  ·rw[dif_pos a,show n/10=0 by omega,ux,Nat.mod_eq_of_lt a]
   rfl
  ·rw[dif_neg a,List.reverse_cons,ih (n/10) (by omega) (by omega)]
theorem Js:∀(n k:Nat),n<10^k->(mU n).length<=k:=by
 intro n;induction n using Nat.strongRecOn with
 |_ n ih=>
  intro k h;by_cases a:n=0
  ·rw[a,ux];exact eo _
  ·rw[xB a]
   cases k with
   |zero=>simp at h;omega
   |succ k=>
    have:=ih (n/10) (by omega) k (by rw[Nat.pow_succ] at h;omega)
    simp only[nK]
    omega
theorem Uj{M K:Nat}(h:M<iy 2 K):(mU M).length<=K:=Js M K (jf h (by rw[gw];exact Nat.pow_le_pow_left (by decide) K))
theorem Jt{d:Nat}(hv:Nt 4294967296 w v m)(hm:m<eV)(f:0<d)(hd:d<4294967296):
 Calls prog 307 #[v,.int .u32 (d:Int)] w λ e w'=>∃k c,e= .returned (.tuple #[.slice (some ⟨w.heap.size,0,none⟩) k c,.int .u32 ((m%d:Nat):Int)])/\Nt 4294967296 w' (.slice (some ⟨w.heap.size,0,none⟩) k c) (m/d)/\aa w w'/\w.heap.size<w'.heap.size:=by
 obtain⟨a,n,cap,xs,rfl,hc,b,hn,rfl,hw⟩:=hv;exact MJ w a cap n d xs (cV (.inr rfl) hn hm) f hd b hw
theorem Nt.bw(h:Nt B w (.slice (some ⟨g,0,none⟩) n c) m)(e:w'.heap[g]? =w.heap[g]?):Nt B w' (.slice (some ⟨g,0,none⟩) n c) m:=by
 obtain⟨a,l,o,zs,e1,h2,h3,k,j,f⟩:=h;cases e1
 refine⟨_,_,_,zs,rfl,h2,h3,k,j,λ i hi=> ?_⟩
 obtain⟨b,off,d,hc⟩:=f i hi;refine⟨b,off,d,?_⟩
 cases d
 rw[World.cell?_of_block (w:=w) e]
 exact hc
theorem zQ:∀(l:List UInt8)(acc:ByteArray),(l.map λ b=>(b.toNat:Int)).foldl (λ r n=>r.push (UInt8.ofNat n.toNat)) acc=⟨(acc.data.toList++l).toArray⟩
 |[],acc=>by simp
 |b::l,acc=>by
  rw[List.map_cons,List.foldl_cons,zQ l]
  simp
theorem ML(h:w.ownsRow B 5 1 v n (Lib.byteCells l))(hn:l≠[]):(convert 107 9 v).run prog w= .ok (.string ⟨l.toArray⟩) w:=by
 obtain⟨a,cap,rfl,hc,f,c⟩:=bI h;rw[Lib.byteCells_length] at f c;obtain⟨b,-,rfl,-⟩:=c 0 (List.length_pos_iff.2 hn)
 have e:l.map (λ b=>Value.int .u8 (b.toNat:Int))=(l.map λ b=>(b.toNat:Int)).map (Value.int .u8):=by simp
 have h1:=run_loadCells_list (P:=prog) (w:=w) ⟨b,0,none⟩ (Lib.byteCells l) λ j v hv=>by
  obtain⟨b',-,e',d⟩:=c j (by
   rcases Nat.lt_or_ge j l.length with h|h
   ·exact h
   ·rw[List.getElem?_eq_none (by rw[Lib.byteCells_length];exact h)] at hv;cases hv)
  cases e'
  rw[<-hv,<-d]
  unfold Addr.add;split
  ·rename_i g;rw[g]
  ·rw[lp]
 rw[Lib.byteCells_length] at h1;unfold Lib.byteCells at h1;rw[e] at h1;have hb:=run_bytesToString w ⟨b,0,none⟩ n cap (l.map λ b=>(b.toNat:Int)) (by rw[show n=l.length by omega];exact h1)
 rw[zQ] at hb;unfold convert;simp only[Sem.run_bind,run_underlying underlying107,run_underlying underlying9,run_underlying underlying5,Result.andThen]
 exact hb
theorem CL{o:Option Nat}(h:aa w W)(g:W.grownBy W' o)(ho:∀k,o=some k->w.heap.size<=k):aa w W':=
 ⟨jP h.size g.size,λ b hb=>(g.block b (jf hb h.size) λ e=>by have:=ho b e.symm;omega).trans (h.old b hb),g.tape.trans h.tape,g.os.trans h.os,g.output.trans h.output⟩
theorem abZ:gY 5 (.int .u8 0) 1 1:=mD (by kernel_rfl)
theorem X9{a:Nat}{xt:TypeId}{x y:Operand}(hb:0<b)(ha:a<4294967296):(do eqGuard .quo xt x y (.int .u32 (a:Int)) (.int .u32 (b:Int));binOp .quo xt (.int .u32 (a:Int)) (.int .u32 (b:Int)):Sem Value).run prog w= .ok (.int .u32 ((a/b:Nat):Int)) w:=by
 have c:(b:Int)≠0:=by omega
 go_simp;have h1:=Nat.div_le_self a b;have h2:((a/b:Nat):Int)%4294967296=((a/b:Nat):Int):=Int.emod_eq_of_lt (Int.natCast_nonneg _) (Int.ofNat_lt.2 (Nat.lt_of_le_of_lt h1 ha))
 rw[if_neg (by omega),IntKind.wrap_u32,<-Int.natCast_ediv,h2]
theorem Ya{a:Nat}{xt:TypeId}{x y:Operand}(hb:0<b)(ha:a<4294967296):(do eqGuard .rem xt x y (.int .u32 (a:Int)) (.int .u32 (b:Int));binOp .rem xt (.int .u32 (a:Int)) (.int .u32 (b:Int)):Sem Value).run prog w= .ok (.int .u32 ((a%b:Nat):Int)) w:=by
 have c:(b:Int)≠0:=by omega
 go_simp;have h1:=Nat.mod_le a b;rw[if_neg (by omega),Int.tmod_eq_emod_of_nonneg (by omega)]
theorem u9{M:Nat}(hv:Nt 4294967296 w v M)(hM:M<eV):
 Calls prog 221 #[v] w λ e w'=>e= .returned (.string ⟨(Lib.decDigits M).toArray⟩)/\aa w w':=by
 have N:(mU M).length<=16384:=Uj hM;obtain⟨a0,n0,c0,rfl⟩:=hv.shape;refine ct 44 func221 rfl ntmps221 ?_;refine gx ?_;have h0:Nt 4294967296 (aB w (λ b=>decide (some b≠(Value.slice none 0 0).ownBlock))) (.slice a0 n0 c0) M:=Ui hv λ a v hc=>by
  rw[fQ,if_pos (cU (λ e=>by cases e))]
  exact hc
 refine dQ (σ:=(Option Addr×Nat×Nat)×(Option Addr×Nat×List UInt8)×Nat) M (λ _ s=>[(0,.slice s.1.1 s.1.2.1 s.1.2.2),(3,.slice s.2.1.1 s.2.1.2.2.length s.2.1.2.1)])
  (λ k s W'=>aa w W'/\W'.ownsRow w.heap.size 5 1 (.slice s.2.1.1 s.2.1.2.2.length s.2.1.2.1) s.2.1.2.2.length (Lib.byteCells s.2.1.2.2)/\Nt 4294967296 (aB W' (λ b=>decide (some b≠(Value.slice s.2.1.1 s.2.1.2.2.length s.2.1.2.1).ownBlock))) (.slice s.1.1 s.1.2.1 s.1.2.2) s.2.2/\s.2.1.2.2++mU s.2.2=mU M/\s.2.2+k<=M)
  ((a0,n0,c0),(none,0,[]),M) ⟨rfl,rfl,trivial⟩ ⟨aa.refl w,World.ownsRow_nil _ _ _ _,h0,rfl,aU _⟩ ?_
 rintro l wr k ⟨⟨a1,n1,c1⟩,⟨a3,c3,cs⟩,m⟩ hk ⟨p,ho,hn,hd,Z⟩
 replace p:aa w wr:=p;replace ho:wr.ownsRow w.heap.size 5 1 (.slice a3 cs.length c3) cs.length (Lib.byteCells cs):=ho;replace hn:Nt 4294967296 (aB wr (λ b=>decide (some b≠(Value.slice a3 cs.length c3).ownBlock))) (.slice a1 n1 c1) m:=hn;replace hd:cs++mU m=mU M:=hd;replace Z:m+k<=M:=Z;have Y:=Ui hn (dP _ _)
 refine gx ?_;refine zc 192 _ (lS (.inr rfl) Y) ?_;rintro e w1 ⟨rfl,rfl⟩
 refine⟨_,rfl,?_⟩
 by_cases K:m=0
 ·rw[cU K]
  rw[K,ux,List.append_nil] at hd;refine gx ?_;by_cases t:cs=[]
  ·refine cr true ?_ ?_
   ·rw[t];rfl
   refine gx ?_;have i:M=0:=by
    by_cases h:M=0
    ·exact h
    ·rw[t,xB h] at hd;cases hd
   refine aF ⟨?_,p⟩
   rw[i,Lib.decDigits,dif_pos (by decide)]
   rfl
  have iw:0<cs.length:=List.length_pos_iff.2 t;refine cr false ?_ ?_
  ·show((cs.length:Int)==0)=false;exact vy (by omega)
  refine gx ?_;have pK:=pT ho;unfold maxLen at pK;refine zc 308 _ (MD ho iw (by omega)) ?_;rintro e B ⟨⟨u,rfl⟩,E,g2⟩
  refine gx ?_;have i:0<M:=by
   by_cases h:M=0
   ·rw[h,ux] at hd;exact absurd hd t
   ·omega
  have hcv:=ML E (by simpa using t)
  rw[show cs.reverse=Lib.decDigits M by rw[hd,Jr M i]] at hcv;refine z1 (F:=convert 107 9) (xv:=.slice a3 cs.length c3) (.string ⟨(Lib.decDigits M).toArray⟩) (hrun:=hcv) ?_;refine gx ?_;exact aF ⟨rfl,CL p g2 λ g q=>(World.ownsRow.lt ho g q).1⟩
 rw[gy K]
 have Is:=Jt (d:=1000000000) Y (by omega) (by decide) (by decide)
 rw[show((1000000000:Nat):Int)=1000000000 from rfl] at Is;refine gx ?_;refine zc 307 _ Is ?_;rintro e B ⟨G,T,rfl,A,I,s2⟩
 refine⟨_,rfl,?_⟩
 obtain⟨c,Gm⟩:∃c,c=wr.heap.size:=⟨_,rfl⟩
 rw[<-Gm] at A s2⊢;obtain⟨Q,L⟩:∃Q,Q=m/1000000000:=⟨_,rfl⟩
 rw[<-L] at A;have k2':=I.size;have E:=dD ho I;have aI:=λ g q=>World.ownsRow.lt ho g q;refine If ?_;refine Dt (σ:=Option Addr×Nat×List UInt8) (λ s=>[(3,.slice s.1 s.2.2.length s.2.1),(4,.slice (some ⟨c,0,none⟩) G T)])
  (λ s W'=>aa w W'/\W'.ownsRow w.heap.size 5 1 (.slice s.1 s.2.2.length s.2.1) s.2.2.length (Lib.byteCells s.2.2)/\W'.heap[c]? =B.heap[c]?/\(Value.slice s.1 s.2.2.length s.2.1).ownBlock≠some c/\s.2.2++mU Q=mU M)
  (λ Q' hN=> ?_) (λ l' W s ⟨H,C,q9,n9,S⟩=> ?_)
 ·refine gx ?_;refine dQ (σ:=(Option Addr×Nat×List UInt8)×Nat) 9 (λ j s=>[(3,.slice s.1.1 s.1.2.2.length s.1.2.1),(4,.slice (some ⟨c,0,none⟩) G T),(5,.int .u32 (s.2:Int)),(6,.int .i64 (j:Int))])
   (λ j s W'=>aa w W'/\W'.ownsRow w.heap.size 5 1 (.slice s.1.1 s.1.2.2.length s.1.2.1) s.1.2.2.length (Lib.byteCells s.1.2.2)/\W'.heap[c]? =B.heap[c]?/\(Value.slice s.1.1 s.1.2.2.length s.1.2.1).ownBlock≠some c/\s.1.2.2++mU (Q*10^(9-j)+s.2)=mU M/\s.2<10^(9-j)/\c<W'.heap.size)
   ((a3,c3,cs),m%1000000000) ⟨rfl,rfl,rfl,rfl,trivial⟩ ⟨p.trans I,E,rfl,λ e=>by have:=(aI c e).2;omega,?_,?_,?_⟩ ?_
  ·rw[L,<-hd]
   show cs++mU (m/1000000000*1000000000+m%1000000000)=_;rw[Nat.div_add_mod']
  ·exact Nat.mod_lt _ (by decide)
  ·exact s2
  rintro l U j ⟨⟨a4,c4,ds⟩,r⟩ hj ⟨o,oj,z,n,dj,y,sj⟩
  replace o:aa w U:=o;replace oj:U.ownsRow w.heap.size 5 1 (.slice a4 ds.length c4) ds.length (Lib.byteCells ds):=oj;replace n:(Value.slice a4 ds.length c4).ownBlock≠some c:=n;replace dj:ds++mU (Q*10^(9-j)+r)=mU M:=dj;replace y:r<10^(9-j):=y;refine gx ?_;by_cases asw:j<9;case neg=>
   refine gx ?_;obtain rfl:j=9:=by omega
   obtain rfl:r=0:=by simpa using y
   exact hN _ _ (a4,c4,ds) ⟨rfl,rfl,trivial⟩ ⟨o,oj,z,n,by simpa using dj⟩
  refine gx ?_;refine zc 192 _ (lS (.inr rfl) (A.bw z)) ?_;rintro e w4 ⟨rfl,rfl⟩
  refine⟨_,rfl,?_⟩
  have lu:(10:Nat)^(9-j)=10*10^(8-j):=by rw[show 9-j=8-j+1 by omega,Nat.pow_succ];omega
  obtain⟨P,x⟩:∃P,P=(10:Nat)^(8-j):=⟨_,rfl⟩
  have hP9:P<=10^8:=x▸Nat.pow_le_pow_right (by decide) (by omega)
  rw[lu,<-x] at dj y;by_cases QF:Q=0/\r=0
  ·obtain⟨f,wE⟩:=QF;rw[cU f]
   refine gx ?_;exact hN _ _ (a4,c4,ds) ⟨rfl,rfl,trivial⟩ ⟨o,oj,z,n,by rw[f,wE,Nat.zero_mul] at dj;rw[f];exact dj⟩
  have J:Q*(10*P)+r≠0:=by
   intro h;rcases Nat.add_eq_zero_iff.1 h with⟨h1,h2⟩
   rcases Nat.mul_eq_zero.1 h1 with h3|h3
   ·exact QF ⟨h3,h2⟩
   ·have:0<P:=x▸Nat.pow_pos (by decide);omega
  have e1:(Q*(10*P)+r)%10=r%10:=by rw[show Q*(10*P)=10*(Q*P) by rw[Nat.mul_left_comm]];omega
  have e2:(Q*(10*P)+r)/10=Q*P+r/10:=by rw[show Q*(10*P)=10*(Q*P) by rw[Nat.mul_left_comm]];omega
  rw[xB J,e1,e2] at dj;have hle:ds.length<=16384:=jP (by rw[<-dj,gJ];omega) N;by_cases f:Q=0;case' pos=>
   rw[cU f]
   refine gx ?_
  case' neg=>rw[gy f]
  all_goals
   refine gx ?_;refine z2 (.int .u32 ((r%10:Nat):Int)) ?_ (hrun:=Ya (b:=10) (by decide) (by omega))
   refine mH ((48+r%10:Nat):Int) ?_ ?_ ?_
   ·show(48:Int)+((r%10:Nat):Int)=_;omega
   ·rw[IntKind.wrap_u32];omega
   refine z1 (F:=convert 191 5) (xv:=.int .u32 ((48+r%10:Nat):Int)) (.int .u8 ((UInt8.ofNat (48+r%10)).toNat:Int)) (hrun:=by go_simp;rw[IntKind.wrap_u8]) ?_;refine BP (V:=#[.int .u8 ((UInt8.ofNat (48+r%10)).toNat:Int)]) abZ rfl (by decide) (by decide) underlying107 oj o.size (by omega) (by simp[Value.oneCell']) rfl λ w5 v5 o5 R X=> ?_;have D:w5.ownsRow w.heap.size 5 1 v5 (ds.length+1) (Lib.byteCells (ds++[UInt8.ofNat (48+r%10)])):=by
    rw[show Lib.byteCells (ds++[UInt8.ofNat (48+r%10)])=Lib.byteCells ds++[.int .u8 ((UInt8.ofNat (48+r%10)).toNat:Int)] by simp[Lib.byteCells]]
    exact o5
   obtain⟨a6,c6,rfl,-⟩:=bI D;rw[show ds.length+1=(ds++[UInt8.ofNat (48+r%10)]).length by simp] at D X⊢;have hg5:=R.size;refine gx ?_;refine z2 (.int .u32 ((r/10:Nat):Int)) ?_ (hrun:=X9 (b:=10) (by decide) (by omega))
   refine gx ?_;refine mH ((j+1:Nat):Int) ?_ ?_ ?_
   ·show(j:Int)+1=_;omega
   ·rw[IntKind.wrap_i64];omega
   refine gx ?_;refine⟨_,((a6,c6,ds++[UInt8.ofNat (48+r%10)]),r/10),rfl,by omega,⟨rfl,rfl,rfl,rfl,trivial⟩,CL o R λ g q=>(World.ownsRow.lt oj g q).1,D,?_,?_,?_,?_,by omega⟩
   ·rw[<-z]
    exact R.block c sj λ e=>n e.symm
   ·intro e;rcases X with O|O
    ·exact n (O.symm.trans e)
    ·have:=O c e;omega
   ·show(ds++[_])++mU _=_;rw[show 9-(j+1)=8-j by omega,<-x,rU]
    exact dj
   ·show r/10<10^(9-(j+1))
    rw[show 9-(j+1)=8-j by omega,<-x]
    omega
 replace H:aa w W:=H;replace C:W.ownsRow w.heap.size 5 1 (.slice s.1 s.2.2.length s.2.1) s.2.2.length (Lib.byteCells s.2.2):=C;replace S:s.2.2++mU Q=mU M:=S;refine gx ?_;have hQm:Q<m:=by rw[L];exact Nat.div_lt_self (by omega) (by decide)
 exact⟨_,((some ⟨c,0,none⟩,G,T),s,Q),rfl,by omega,⟨rfl,rfl,trivial⟩,H,C,(A.bw q9).only (cU λ e=>n9 e.symm),S,by show Q+(k+1)<=M;omega⟩
def kU(x:cW):aj:=if bt x.op 0=60 then sO x.e1 x.e0 else sO x.e0 x.e1
section
variable{W0 W W1 W2 W3:World}{hb g en i i':Nat}{la:Option Addr}{lc:Nat}{l ts:List aS}{vc Ou rv rv' ev ev':Value}{bd bd':Int}{us Fk:List (Nat×Bool)}{GA:List cW}{sides:List cp}
end
theorem Vb{t:aS}(h:qi t=true):t.kind=3/\0<t.text.size/\((t.text.toList==[60])||(t.text.toList==[60,61]))=decide (bt t.text 0=60)/\((t.text.toList==[62])||(t.text.toList==[60]))=decide (t.text.size=1):=by
 have key:∀(b:List UInt8),bF t b=true->t.kind=3/\t.text.toList=b/\t.text.size=b.length/\∀c,b[0]? =some c->bt t.text 0=c.toNat:=λ b hb=>by
  unfold bF at hb;simp only[fv,beq_iff_eq] at hb;refine⟨hb.1,hb.2,?_,λ c hc=> ?_⟩
  ·rw[<-hb.2,ByteArray.toList_eq];simp
  ·rw[<-hb.2,ByteArray.toList_eq] at hc;exact(js.1 hc).2
 unfold qi at h;simp only[Bool.or_eq_true] at h;rcases h with h|h|h|h
 ·obtain⟨h1,h2,h3,a⟩:=key _ h;rw[h2,h3,a 62 rfl]
  exact⟨h1,by decide,by decide,by decide⟩
 ·obtain⟨h1,h2,h3,a⟩:=key _ h;rw[h2,h3,a 60 rfl]
  exact⟨h1,by decide,by decide,by decide⟩
 ·obtain⟨h1,h2,h3,a⟩:=key _ h;rw[h2,h3,a 62 rfl]
  exact⟨h1,by decide,by decide,by decide⟩
 ·obtain⟨h1,h2,h3,a⟩:=key _ h;rw[h2,h3,a 60 rfl]
  exact⟨h1,by decide,by decide,by decide⟩
theorem Vc(t:ByteArray):aX (aN t).n (aN t).d=true/\rN (aN t).n (aN t).d=(aN t).n/\cD (aN t).n (aN t).d=(aN t).d:=by
 by_cases h:iz t=0
 ·exact yz h
 ·have e:aN t=⟨0,0⟩:=by unfold aN;rw[if_neg h]
  rw[e]
  exact⟨jk,by decide,by decide⟩
section
variable{n:Nat}{l:Fm}{ops:Array Oper}{Q:Exit->Act->World->Prop}{oi:Oper}{fuel:Nat}{listed:Array Bool}{w:World}{d L:Nat}{S:World->Prop}
end
section
variable{β:Type}{ts l:List aS}{r:PR β}{us0 us:List (Nat×Bool)}{W0 W:World}{g en i hb:Nat}{la:Option Addr}{lc:Nat}{vc rv ev:Value}{GA:List cW}{sides:List cp}
end
end
def iQ(op:Int):Nat:=if op=5∨op=6 then 1 else if op=7∨op=8 then 2 else if op=4 then 3 else if op=9 then 4 else 5
def il(s:Bool)(N D:Nat):List UInt8:=(if (s&&decide (0<N))=true then [45] else [])++(Lib.decDigits (rN N D)++if rD N D=1 then [] else 47::Lib.decDigits (rD N D))
def r7(k:Nat)(x:Nat×List UInt8):List UInt8:=if k<=x.1 then x.2 else 40::(x.2++[41])
def Sx(op:Int):List UInt8:=if op=5 then [32,43,32] else if op=6 then [32,45,32] else if op=7 then [32,42,32] else [32,47,32]
def O0(arg:Int):List UInt8:=((aW[(arg-1).toNat]?).getD ⟨#[]⟩).data.toList
def tD(op arg:Int):List UInt8:=
 if op=10 then(if arg=2 then [115,113,114,116,40] else [114,111,111,116,40]++(Lib.itoa arg++[44,32])) else if op=11 then O0 arg++[40] else
 if op=12 then [97,98,115,40] else if op=13 then [109,105,110,40] else if op=14 then [109,97,120,40] else [105,102,40]
def CB(i:Nat):List UInt8:=if i=0 then [] else [44,32]
def xW:Nat->List (Nat×List UInt8)->List UInt8
 |_,[]=>[]
 |i,x::r=>CB i++(x.2++xW (i+1) r)
def kX(ks:List (Nat×List UInt8))(i:Nat):Nat×List UInt8:=(ks[i]?).getD (5,[])
def xu(op arg:Int)(s:Bool)(N D:Nat)(name:ByteArray)(ks:List (Nat×List UInt8)):List UInt8:=
 if op=1 then il s N D else if op=2 then name.data.toList else if op=3 then [112,105] else
 if op=4 then 45::r7 3 (kX ks 0) else
 if op=5∨op=6 then r7 1 (kX ks 0)++(Sx op++r7 2 (kX ks 1)) else
 if op=7∨op=8 then r7 2 (kX ks 0)++(Sx op++r7 3 (kX ks 1)) else
 if op=9 then r7 5 (kX ks 0)++(94::Lib.itoa arg) else
 tD op arg++(xW 0 ks++[41])
def qt:aj->Int
 | .node op _ _ _ _ _ _=>op
mutual
def uv:aj->List UInt8
 | .node op arg s N D name kids=>xu op arg s N D name (mF kids)
def mF:List aj->List (Nat×List UInt8)
 |[]=>[]
 |t::ts=>(iQ (qt t),uv t)::mF ts
end
theorem GJ:∀(l:List aj)(i:Nat)(h:i<l.length),(mF l)[i]? =some (iQ (qt l[i]),uv l[i])
 |t::ts,0,_=>by rw[mF];rfl
 |t::ts,i+1,h=>by rw[mF];exact GJ ts i (by simpa using h)
theorem Pu:∀(l:List aj),(mF l).length=l.length
 |[]=>rfl
 |t::ts=>by rw[mF,nK,Pu ts,nK]
theorem Jj{l:List aj}{i:Nat}(h:i<l.length):kX (mF l) i=(iQ (qt l[i]),uv l[i]):=by
 unfold kX;rw[GJ l i h];rfl
theorem yO:∀(l:List (Nat×List UInt8))(k i:Nat)(x:Nat×List UInt8),l[k]? =some x->xW i l=xW i (l.take k)++(CB (i+k)++(x.2++xW (i+k+1) (l.drop (k+1))))
 |[],k,i,x,h=>by simp at h
 |y::r,0,i,x,h=>by
  simp at h;subst h;rfl
 |y::r,k+1,i,x,h=>by
  have ih:=yO r k (i+1) x (by simpa using h)
  rw[xW,ih,List.take_succ_cons,xW,List.drop_succ_cons,show i+1+k=i+(k+1) by omega]
  simp only[rU]
theorem jZ{op arg:Int}{s:Bool}{N D:Nat}{name:ByteArray}(h:bJ op arg s N D name n=true):iq op=(n:Int)/\kT op arg=true:=by
 unfold bJ at h;simp only[fv,oh] at h;exact⟨h.1.1,h.1.2⟩
end Go.Proofs.YtbapfnpbamnmpaaGreatDoor
