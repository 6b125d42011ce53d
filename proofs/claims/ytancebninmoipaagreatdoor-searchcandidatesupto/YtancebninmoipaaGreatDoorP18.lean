/- A part of the proof that SearchCandidates answers true for every input of bulk at most 1048576: conditions: the row's own. -/
import Derived.Test.YtancebninmoipaaGreatDoorP17
namespace Go.Proofs.YtancebninmoipaaGreatDoor
open Go Go.RowKit Go.Dig Go.Deep
open Go.Eng (Kept KW KeptB)
section
set_option maxHeartbeats 8000000
set_option maxRecDepth 100000
theorem sgn_rN(s:Bool)(N D:Nat):((s&&decide (0<N))&&decide (0<rN N D))=(s&&decide (0<N)):=by unfold rN;exact sign_red s N _
theorem cD_if(N D:Nat):(if rD N D≤1 then 0 else rD N D)=cD N D:=by
 unfold cD
 have:=rD_pos N D
 by_cases h:rD N D=1
 ·rw[if_pos h,if_pos (by omega)]
 ·rw[if_neg h,if_neg (by omega)]
theorem iof_fin{w:World}{v:Value}{i:IvD}(h:Ivl w v i)(hf:i.fine=true)(hv:i.void=false)(hli:i.li=false)(hhi:i.hi=false):
 Calls Tryz.prog 17 #[v] w fun e w'=>∃v',e= .returned v'∧Iq w' v' (i.s1&&decide (0<i.N1)) (rN i.N1 i.D1) (rD i.N1 i.D1) (i.s2&&decide (0<i.N2)) (rN i.N2 i.D2) (rD i.N2 i.D2) false false false∧Kept w w':=by
 have:=iof_nv h hf hv
 unfold loS loN loD hiS hiN hiD at this
 rw[hli,hhi] at this
 exact this
theorem ends_fin{i:IvD}(hf:i.fine=true)(hli:i.li=false)(hhi:i.hi=false):rN i.N1 i.D1<Sm∧rD i.N1 i.D1<Sm∧rN i.N2 i.D2<Sm∧rD i.N2 i.D2<Sm:=by
 have:=ends_sm hf
 unfold loN loD hiN hiD at this
 rw[hli,hhi] at this
 exact this
theorem corner18_calls{w:World}{a:Option Addr}{n cap:Nat}{l:List SideD}(h:Bxm w a n cap l)(hok:boxOk l=true)(hfin:∀k(hk:k<l.length),l[k].iv.li=false∧l[k].iv.hi=false){m:Nat}(hm:m<64):
 Calls Tryz.prog 18 #[.slice a n cap,.int .i64 (m:Int)] w (RetPm (cornerL l m) w):=by
 obtain⟨h6,hall⟩:=sides_fine hok
 obtain rfl:n=l.length:=h.1
 have HR:=fun(i:Nat)(hi:i<l.length)=>h.row hi
 have hcl:=cornerL_len l m
 clear h
 refine entL [_,_] 42 Tryz.func18 rfl Tryz.ntmps18 (by simp) ?_
 iterate 2 go_step
 refine zr (.slice none 0 0) ?_
 iterate 5 go_step
 refine zr (.slice none 0 0) ?_
 iterate 6 go_step
 refine zr (.int .i64 0) ?_
 iterate 4 go_step
 refine zloopG (σ:=Option Addr×Nat×List Value) l.length (fun k s=>[(0,.slice a l.length cap),(1,.int .i64 ((m/2^k:Nat):Int)),(5,.slice s.1 k s.2.1),(6,.int .i64 k)])
  (fun k s W=>Grow w W w.heap.size 47 4 (.slice s.1 k s.2.1) k s.2.2 ptR (cornerL l m)) (none,0,[]) ⟨rfl,by rw[Nat.pow_zero,Nat.div_one];rfl,rfl,rfl,trivial⟩ (Grow.start ..) fun fl wr k ⟨a3,cap3,cs⟩ hk G=> ?_
 have kr:Kept w wr:=⟨G.kb.size,fun b hb=>G.kb.old b hb (Nat.ne_of_lt hb),G.kb.tape,G.kb.os,G.kb.output⟩
 have own_lt:=fun g hg=>World.ownsRow.lt G.own g hg
 have hmk:m/2^k<64:=Nat.lt_of_le_of_lt (Nat.div_le_self _ _) hm
 iterate 4 go_step
 refine zr (.int .i64 k) ?_
 refine zr (.slice a l.length cap) ?_
 refine zr (.int .i64 l.length) ?_
 refine z2 (.bool (decide ((k:Int)<(l.length:Int)))) ?_
 iterate 3 go_step
 cases hlt:decide ((k:Int)<(l.length:Int))
 case' true=>
  have hlt:k<l.length:=by have:=of_decide_eq_true hlt;omega
  obtain⟨b,off,a1,n1,c1,a2,n2,c2,a4,n4,c4,a5,n5,c5,rfl,rV,r1,r2⟩:=HR k hlt
  obtain⟨hli,hhi⟩:=hfin k hlt
  have hr:wr.rangeAt b (off+k*9+1) [.bool l[k].iv.s1,.slice a1 n1 c1,.slice a2 n2 c2,.bool l[k].iv.s2,.slice a4 n4 c4,.slice a5 n5 c5,.bool l[k].iv.li,.bool l[k].iv.hi]:=fun j v hv=>by
   have:=kr.cell (rV (j+1) v hv)
   rwa [show off+k*9+(j+1)=off+k*9+1+j by omega] at this
  have hnm:wr.cell? ⟨b,off+k*9,none⟩=some (.string l[k].name):=kr.cell (rV 0 _ rfl)
  have hbw:b<w.heap.size:=World.block_lt_of_cell? _ _ (rV 0 _ rfl)
  have hI:Ivl wr (.agg #[.bool l[k].iv.s1,.slice a1 n1 c1,.slice a2 n2 c2,.bool l[k].iv.s2,.slice a4 n4 c4,.slice a5 n5 c5,.bool l[k].iv.li,.bool l[k].iv.hi]) l[k].iv:=⟨_,_,_,_,_,_,_,_,_,_,_,_,rfl,r1.kept kr,r2.kept kr⟩
  refine zt_true ?_
  iterate 7 go_step
  refine zr (.slice (some ⟨b,off,none⟩) l.length cap) ?_
  refine zr (.int .i64 k) ?_
  refine zi (s:=9) k hlt ?_
  refine zr (.pointer (some ⟨b,off+k*9+1,none⟩)) ?_
  refine zl (V:=#[_,_,_,_,_,_,_,_]) hr own39 ?_
  refine zc 17 _ (iof_fin hI (hall k hlt).1 (hall k hlt).2 hli hhi) ?_
  obtain⟨hs1,hs2,hs3,hs4⟩:=ends_fin (hall k hlt).1 hli hhi
  rintro e w1 ⟨v1,rfl,⟨x1,x2,x3,x4,x5,x6,x7,x8,x9,xa,xb,xc,rfl,y1,y2⟩,k1⟩
  refine⟨_,rfl,?_⟩
  refine za ZQ 57 fun w2 g2 e2 k2 b2 q2=> ?_
  refine zt b2 ownZQ own99 fun w3 k3 b3=> ?_
  iterate 5 go_step
  refine zr (.pointer (some ⟨g2,0,none⟩)) ?_
  refine zl (V:=#[_,_,_]) (b3.part 0) own97 ?_
  refine za ZR 55 fun w4 g4 e4 k4 b4 q4=> ?_
  refine zt b4 own97 own97 fun w5 k5 b5=> ?_
  iterate 6 go_step
  have q1':=k1.size
  have q2':=k2.size
  have q3':=k3.size
  have q4':=k4.size
  have q5':=k5.size
  have K3:Kept w1 w3:=k2.but k3 (by omega)
  have K5:Kept w3 w5:=k4.but k5 (by omega)
  have K:=k1.trans (K3.trans K5)
  replace y1:=y1.kept (K3.trans K5)
  replace y2:=y2.kept (K3.trans K5)
  replace b3:=b3.kept K5
  have hg4:wr.heap.size≤g4:=by omega
  have hg24:g2≠g4:=by omega
  clear k1 k2 k3 k4 k5 b2 b4 K3 K5 q1' q2' q3' q4' q5' q2 q4 e2 e4
  refine zr (.int .i64 ((m/2^k:Nat):Int)) ?_
  refine z2 (.int .i64 ((m/2^k%2:Nat):Int)) (hrun:=run_rem2) ?_
  obtain⟨u,hu⟩:∃u,(m/2^k%2==1)=u:=⟨_,rfl⟩
  have hu2:(((m/2^k%2:Nat):Int)==1)=u:=by
   rw[←hu]
   rcases Nat.mod_two_eq_zero_or_one (m/2^k) with h|h<;>rw[h]<;>rfl
  refine z2 (.bool u) (hrun:=run_eqb hu2) ?_
  iterate 3 go_step
  have hk':k<(cornerL l m).length:=by rw[hcl];exact hlt
  have hpt:(cornerL l m)[k]=cornP l[k] u:=by rw[cornerL_get l m k hlt,hu]
  rename_i K2 hK2
  have rest:∀(fl:Fm)(W:World)(s:Bool)(N D:Nat)(p1:Option Addr)(p2 p3:Nat)(p4:Option Addr)(p5 p6:Nat),sees fl [(0,.slice (some ⟨b,off,none⟩) l.length cap),(1,.int .i64 ((m/2^k:Nat):Int)),(5,.slice a3 k cap3),(6,.int .i64 k),(8,.pointer (some ⟨g4,0,none⟩))]→
   Kept wr W→Blk W g4 #[.bool s,.slice p1 p2 p3,.slice p4 p5 p6] 55→Qv W (.agg #[.bool s,.slice p1 p2 p3,.slice p4 p5 p6]) s N D→N<Sm→D<Sm→
   cornP l[k] u=⟨l[k].name,s&&decide (0<N),N,if D≤1 then 0 else D⟩→K2 (frm 42 fl) W:=by
   intro fl W s N D p1 p2 p3 p4 p5 p6 hse KW bW hQ bN bD hP
   refine hK2 _ _ ?_
   rw[←look_eq hse]
   iterate 2 go_step
   refine zr (.int .i64 ((m/2^k:Nat):Int)) ?_
   refine z2 (.int .i64 ((m/2^k/2:Nat):Int)) (hrun:=run_quo2 hmk) ?_
   refine zr (.int .i64 ((m/2^k/2:Nat):Int)) ?_
   iterate 3 go_step
   obtain⟨lo,up,hob,hin⟩:=own_rng (.slice a3 k cap3)
   have qW:=KW.size
   have hout:∀x,(x<w.heap.size∨wr.heap.size≤x)→x<lo∨up≤x:=fun x hx=>by
    by_cases h1:x<lo
    ·exact .inl h1
    ·by_cases h2:up≤x
     ·exact .inr h2
     ·have:=own_lt x (hin x (by omega) (by omega))
      omega
   refine drawn lo up fun hS=> ?_
   have kd:Kept W W.drew:=(Kept.refl W).drew
   refine yr 0 (.slice a3 k cap3) hS ?_
   refine yr 1 (.slice (some ⟨b,off,none⟩) l.length cap) hS ?_
   refine yr 2 (.int .i64 k) hS ?_
   refine yi 3 9 k hlt hS ?_
   refine yr 4 (.pointer (some ⟨b,off+k*9,none⟩)) hS ?_
   refine yl1 5 (KW.cell hnm) (hout _ (.inl hbw)) hS ?_
   refine yl 6 (V:=#[_,_,_]) bW.range (hout _ (.inr hg4)) own97 hS ?_
   refine yc 7 40 _ hS (rat_calls (hQ.kept kd) bN bD) fun e w6 ⟨d1,d2,d3,d4,d5,d6,he,hR,k6⟩=>⟨k6,_,he,fun hS=> ?_⟩
   refine yr 8 (.agg #[.string l[k].name,.bool (s&&decide (0<N)),.slice d1 d2 d3,.slice d4 d5 d6]) hS ?_
   have q6:=k6.size
   refine yab (R:=ptR) (V:=#[.string l[k].name,.bool (s&&decide (0<N)),.slice d1 d2 d3,.slice d4 d5 d6]) 9 10 info47 rfl (by decide) (by decide) Tryz.underlying39 (G.kept ptR_sub (KW.trans (kd.trans k6))) ptR_sub own47.2 rfl hk' (by omega)
    (T:=ab W.drew.heap.size) (by rw[hpt,hP];exact⟨_,_,_,_,_,_,rfl,hR⟩) (fun x hx=> ?_) hS hob (by kernel_rfl) fun w7 a' cap' G' hS=> ?_
   ·unfold ab at hx
    simp only[decide_eq_true_eq] at hx
    have h1:W.heap.size≤x:=hx
    refine⟨by have:=kr.size;omega,fun he=> ?_⟩
    have:=(own_lt x he.symm).2
    omega
   refine yr 11 (.slice a' (k+1) cap') hS ?_
   refine yend ?_
   iterate 3 go_step
   refine zr (.int .i64 k) ?_
   refine z2 (.int .i64 ((k+1:Nat):Int)) (hrun:=run_inc (by omega)) ?_
   refine zr (.int .i64 ((k+1:Nat):Int)) ?_
   iterate 3 go_step
   exact⟨_,(a',cap',_),rfl,hlt,⟨rfl,by rw[Nat.pow_succ,←Nat.div_div_eq_div_mul];rfl,rfl,rfl,trivial⟩,G'⟩
  cases u
  ·refine zt_false ?_
   iterate 2 go_step
   exact rest _ _ _ _ _ _ _ _ _ _ _ ⟨rfl,rfl,rfl,rfl,rfl,trivial⟩ K b5 y1 hs1 hs2 (by unfold cornP endS endN endD;simp only[Bool.false_eq_true,if_false];rw[sgn_rN,cD_if])
  ·refine zt_true ?_
   go_step
   refine zr (.pointer (some ⟨g2,3,none⟩)) ?_
   refine zl (V:=#[_,_,_]) (b3.part 3) own97 ?_
   have hnw:=Blk.noWords b5 rfl
   refine zt b5 own97 own97 fun w8 k8 b8=> ?_
   iterate 2 go_step
   exact rest _ _ _ _ _ _ _ _ _ _ _ ⟨rfl,rfl,rfl,rfl,rfl,trivial⟩ (K.but k8 (by omega)) b8 (y2.keptB k8 hnw) hs3 hs4 (by unfold cornP endS endN endD;simp only[if_true];rw[sgn_rN,cD_if])
 case' false=>
  obtain rfl:k=l.length:=by have:=of_decide_eq_false hlt;omega
  refine zt_false ?_
  iterate 7 go_step
  refine zr (.slice a3 l.length cap3) ?_
  refine zr (.slice a3 l.length cap3) ?_
  iterate 4 go_step
  have G':Grow w wr w.heap.size 47 4 (.slice a3 (cornerL l m).length cap3) (cornerL l m).length cs ptR (cornerL l m):=by rw[hcl];exact G
  obtain⟨hcap,hcell,hrows⟩:=G'.done ptR_sub (N:=w.heap.size) (Nat.le_refl _) (fun b _ _=>rfl)
  refine zretT (v:=.slice a3 l.length cap3) ⟨kr,a3,cap3,by rw[hcl],rfl,hcap,cs,hcell,hrows⟩
end
section
def finB(l:List SideD):Bool:=l.all fun d=> !d.iv.li&& !d.iv.hi
def candN(l:List SideD):Nat→List (List PtD)
 |0=>[l.map ptOf]
 |k+1=>if sameAny (candN l k) (cornerL l k) then candN l k else candN l k++[cornerL l k]
def candL(l:List SideD):List (List PtD):=if finB l then candN l (2^l.length) else [l.map ptOf]
theorem candN_len(l:List SideD):∀k,0<(candN l k).length∧(candN l k).length≤k+1
 |0=>by simp[candN]
 |k+1=>by
  have:=candN_len l k
  unfold candN
  split
  ·omega
  ·rw[List.length_append,List.length_singleton];omega
theorem candN_take(l:List SideD)(m:Nat):∀M,m≤M→(candN l M).take (candN l m).length=candN l m∧(candN l m).length≤(candN l M).length
 |0,h=>by
  obtain rfl:m=0:=by omega
  exact⟨List.take_length,Nat.le_refl _⟩
 |M+1,h=>by
  rcases Nat.lt_or_ge M m with h2|h2
  ·obtain rfl:m=M+1:=by omega
   exact⟨List.take_length,Nat.le_refl _⟩
  ·obtain⟨h3,h4⟩:=candN_take l m M h2
   conv=>enter [1,1,2];unfold candN
   conv=>enter [2,2,1];unfold candN
   split
   ·exact⟨h3,h4⟩
   ·refine⟨?_,by rw[List.length_append];omega⟩
    rw[List.take_append_of_le_length h4]
    exact h3
theorem candN_new{l:List SideD}{m M:Nat}(h:m<M)(hs:sameAny (candN l m) (cornerL l m)=false):candN l (m+1)=candN l m++[cornerL l m]∧∃h:(candN l m).length<(candN l M).length,(candN l M)[(candN l m).length]=cornerL l m:=by
 have h1:candN l (m+1)=candN l m++[cornerL l m]:=by
  conv=>lhs;unfold candN
  rw[if_neg (by rw[hs];decide)]
 refine⟨h1,?_⟩
 obtain⟨h2,h3⟩:=candN_take l (m+1) M h
 have h4:(candN l m).length<(candN l (m+1)).length:=by rw[h1,List.length_append,List.length_singleton];omega
 refine⟨by omega,?_⟩
 have h5:(candN l (m+1))[(candN l m).length]=cornerL l m:=by simp[h1]
 have e:((candN l M).take (candN l (m+1)).length)[(candN l m).length]? =(candN l (m+1))[(candN l m).length]? :=by rw[h2]
 rw[List.getElem?_take,if_pos h4,List.getElem?_eq_getElem (by omega),List.getElem?_eq_getElem h4,h5] at e
 exact Option.some.inj e
theorem candN_old{l:List SideD}{m:Nat}(hs:sameAny (candN l m) (cornerL l m)=true):candN l (m+1)=candN l m:=by
 conv=>lhs;unfold candN
 rw[if_pos hs]
def goodP(n:Nat)(m:List PtD):Prop:=ptsOk m∧m.length≤n
theorem small_fits{N D:Nat}(h1:fits32 N=true)(h2:fits32 D=true)(h0:0<D):small N (if D=1 then 0 else D)=true:=by
 have hd:dn (if D=1 then 0 else D)=D:=by
  unfold dn
  split<;>split<;>omega
 have p:=pwr_le 2048 8192 (by decide)
 unfold fits32 at h1 h2
 simp only[decide_eq_true_eq] at h1 h2
 unfold small
 have hn:rN N (if D=1 then 0 else D)≤N:=Nat.div_le_self _ _
 have hdd:rD N (if D=1 then 0 else D)≤D:=by unfold rD;rw[hd];exact Nat.div_le_self _ _
 have hle:(if D=1 then 0 else D)≤D:=by split<;>omega
 simp only[Bool.and_eq_true,decide_eq_true_eq,fits32]
 exact⟨⟨⟨by omega,by omega⟩,by omega⟩,by omega⟩
theorem ptOf_small{d:SideD}(h:midOk d.iv=true):small (ptOf d).N (ptOf d).D=true:=by
 unfold midOk at h
 simp only[Bool.and_eq_true] at h
 exact small_fits h.1 h.2 (mid_den d.iv)
theorem cornP_small{d:SideD}(u:Bool)(h:d.iv.fine=true):small (cornP d u).N (cornP d u).D=true:=by
 have hf:small d.iv.N1 d.iv.D1=true∧small d.iv.N2 d.iv.D2=true:=by
  have h:(small d.iv.N1 d.iv.D1&&small d.iv.N2 d.iv.D2)=true:=h
  simpa using h
 cases u
 ·exact small_can hf.1
 ·exact small_can hf.2
theorem good_center{l:List SideD}(h:midsOk l=true):goodP l.length (l.map ptOf):=by
 refine⟨fun i hi=> ?_,by rw[List.length_map];exact Nat.le_refl _⟩
 rw[List.getElem_map]
 unfold midsOk at h
 rw[List.all_eq_true] at h
 exact ptOf_small (h _ (List.getElem_mem _))
theorem good_corner{l:List SideD}(h:∀k(hk:k<l.length),l[k].iv.fine=true)(m:Nat):goodP l.length (cornerL l m):=by
 have hl:=cornerL_len l m
 refine⟨fun i hi=> ?_,by rw[hl];exact Nat.le_refl _⟩
 rw[cornerL_get l m i (by omega)]
 exact cornP_small _ (h _ _)
theorem good_candN{l:List SideD}(h:midsOk l=true)(hf:∀k(hk:k<l.length),l[k].iv.fine=true):∀m,∀x∈candN l m,goodP l.length x
 |0=>fun x hx=>by rw[candN,List.mem_singleton] at hx;subst hx;exact good_center h
 |m+1=>fun x hx=>by
  unfold candN at hx
  split at hx
  ·exact good_candN h hf m x hx
  ·rcases List.mem_append.1 hx with hx|hx
   ·exact good_candN h hf m x hx
   ·rw[List.mem_singleton.1 hx];exact good_corner hf m
theorem ptsOk.num{m:List PtD}(h:ptsOk m):ptsNum m:=fun i hi=>.inr (h i hi)
theorem ptsSame_ref:∀l m:List PtD,ptsSame l m=ptsRef l m
 |[],[]=>rfl
 |[],_::_=>rfl
 |_::_,[]=>rfl
 |p::l,q::m=>by rw[ptsSame,ptsRef,ptsSame_ref l m];rfl
theorem sameAny_found(ls:List (List PtD))(m:List PtD):sameAny ls m=foundB ls m:=by
 unfold sameAny foundB
 congr 1
 funext l
 exact ptsSame_ref l m
theorem ptsRef_refl:∀l:List PtD,ptsRef l l=true
 |[]=>rfl
 |p::l=>by
  rw[ptsRef,ptsRef_refl l,Bool.and_true]
  unfold ptRef
  rw[sameR_refl,Bool.and_true]
  exact beq_self_eq_true _
theorem rowsRef_refl(l:List (List PtD)):rowsRef l l=true:=by
 induction l with
 |nil=>rfl
 |cons p l ih=>rw[rowsRef,ptsRef_refl,ih];rfl
theorem finB_not{l:List SideD}{k:Nat}(hk:k<l.length)(h:(!l[k].iv.li&& !l[k].iv.hi)=false):finB l=false:=by
 unfold finB
 rw[List.all_eq_false]
 exact⟨l[k],List.getElem_mem hk,by rw[h];decide⟩
theorem finB_yes{l:List SideD}(h:∀k(hk:k<l.length),(!l[k].iv.li&& !l[k].iv.hi)=true):finB l=true:=by
 unfold finB
 rw[List.all_eq_true]
 intro d hd
 obtain⟨j,hj,rfl⟩:=List.getElem_of_mem hd
 exact h j hj
def rowR:World→List Value→List PtD→Prop:=fun W l m=>∃(a:Option Addr)(n cap:Nat),l=[.slice a n cap]∧Ptm W a n cap m
theorem rowR_sub:∀w w',Sub w w'→∀l t,rowR w l t→rowR w' l t:=by
 rintro w w' k l t ⟨a,n,cap,rfl,h⟩
 exact⟨a,n,cap,rfl,h.sub k⟩
theorem info39:InfoIs 39 (.slice none 0 0) 1 24:=infoIs (by kernel_rfl)
theorem Grow.one{α:Type}{W0 W:World}{b3 e sz g:Nat}{V:Array Value}{R:World→List Value→α→Prop}{ts:List α}{T:Nat→Bool}(hb:Blk W g V e)(hg:W0.heap.size≤g)(k:KeptB W0 W b3)(hV:V.size=sz)(hk:0<ts.length)
 (hr:R (onlyW W T) V.toList ts[0])(hT:∀b,T b=true→W0.heap.size≤b∧b≠g)(hR:∀w w',Sub w w'→∀l t,R w l t→R w' l t):Grow W0 W b3 e sz (.slice (some ⟨g,0,none⟩) 1 1) 1 V.toList R ts:=by
 refine⟨k,⟨by simp[hV],.inr ⟨g,1,V,rfl,hg,hb,Nat.le_refl _,by unfold maxLen;omega,by simp[hV],by rw[Nat.one_mul,←hV];exact List.take_of_length_le (by simp)⟩⟩,?_⟩
 obtain⟨t,us,rfl⟩:∃t us,ts=t::us:=by
  cases ts with
  |nil=>simp at hk
  |cons t us=>exact⟨t,us,rfl⟩
 refine⟨by simp[hV],fun i hi=> ?_⟩
 obtain rfl:i=0:=by simpa using hi
 rw[Nat.zero_mul,List.drop_zero,List.take_of_length_le (by simp[hV])]
 refine hR _ _ (only_mono fun b hb=> ?_) _ _ hr
 obtain⟨h1,h2⟩:=hT b hb
 unfold S1 Value.ownBlock
 simp[h1,h2]
theorem ptl_of{W:World}{a:Option Addr}{n cap:Nat}{cs:List Value}{ls:List (List PtD)}(hn:n=ls.length)(hc:n≤cap)(hcell:∀i,i<cs.length→∃b,a=some ⟨b,0,none⟩∧W.cell? ⟨b,i,none⟩=cs[i]?)(hrows:RowsIs (rowR W) 1 cs ls):Ptl W a n cap ls:=by
 refine⟨hn,hc,fun i hi=> ?_⟩
 obtain⟨hl,hr⟩:=hrows
 obtain⟨a1,n1,c1,e,hp⟩:=hr i hi
 rw[Nat.mul_one] at hl
 obtain⟨b,ha,hb⟩:=hcell i (by omega)
 refine⟨b,a1,n1,c1,ha,?_,hp⟩
 rw[Nat.zero_add,Nat.mul_one,hb]
 rw[Nat.mul_one] at e
 have h2:((cs.drop i).take 1)[0]? =some (.slice a1 n1 c1):=by rw[e];rfl
 rw[List.getElem?_take,if_pos (by decide),List.getElem?_drop,Nat.add_zero] at h2
 exact h2
theorem Ptl.sub{w w':World}{a:Option Addr}{n cap:Nat}{ls:List (List PtD)}(h:Ptl w a n cap ls)(k:Sub w w'):Ptl w' a n cap ls:=
 ⟨h.1,h.2.1,fun i hi=>by obtain⟨b,a1,n1,c1,e,hc,hp⟩:=h.2.2 i hi;exact⟨b,a1,n1,c1,e,k _ _ hc,hp.sub k⟩⟩
theorem Grow.ptl{W0 W:World}{b3 k cap:Nat}{a:Option Addr}{cs:List Value}{ts ls:List (List PtD)}(G:Grow W0 W b3 39 1 (.slice a k cap) k cs rowR ts)(hk:k=ls.length)(ht:ts.take k=ls):Ptl (onlyW W (ab W0.heap.size)) a k cap ls:=by
 subst hk
 have G':Grow W0 W b3 39 1 (.slice a ls.length cap) ls.length cs rowR ls:=⟨G.kb,G.own,by
  have:=G.rows
  rw[ht] at this
  rwa [List.take_length]⟩
 obtain⟨h1,h2,h3⟩:=G'.done rowR_sub (N:=W0.heap.size) (Nat.le_refl _) (fun b _ _=>rfl)
 exact ptl_of rfl h1 h2 h3
def RetCand(c:ClaimD)(w:World)(e:Ending)(w':World):Prop:=Kept w w'∧((c.ok=false∧e= .returned (.tuple #[.slice none 0 0,.int .i64 60]))∨(c.ok=true∧midsOk c.box=false∧e= .returned (.tuple #[.slice none 0 0,.int .i64 1]))∨
 (c.ok=true∧midsOk c.box=true∧∃a' cap',e= .returned (.tuple #[.slice a' (candL c.box).length cap',.int .i64 0])∧Ptl (onlyW w' (ab w.heap.size)) a' (candL c.box).length cap' (candL c.box)))
theorem own31c{o g:Int}{z:Bool}{x1:Option Addr}{x2 x3:Nat}{x4:Option Addr}{x5 x6:Nat}{nm:ByteArray}{a0:Option Addr}{n0 cap0:Nat}{s:Bool}{a1:Option Addr}{n1 cap1:Nat}{a2:Option Addr}{n2 cap2:Nat}:
 Own 31 #[.int .i64 o,.int .i64 g,.bool z,.slice x1 x2 x3,.slice x4 x5 x6,.string nm,.slice a0 n0 cap0,.bool s,.slice a1 n1 cap1,.slice a2 n2 cap2]:=⟨by kernel_rfl,by simp[Value.oneCell']⟩
section
variable{n:Nat}{l:Fm}{ops:Array Oper}{rest:List Oper}{Q:Exit→Act→World→Prop}{w:World}
theorem zbs{t:Nat}{V:Array Value}{ob:Oper}{db:Tmp}(hbs:(execOp (ev n l) ob).run Tryz.prog w= .ok (.value (.slice (some ⟨w.heap.size,0,none⟩) 1 1)) (w.alloc (.cells V t)))
 (h:∀W g,g=w.heap.size→Kept w W→Blk W g V t→W.heap.size=g+1→wpList Tryz.prog ops Q rest (frm n (upd l db (.slice (some ⟨g,0,none⟩) 1 1))) W)
 (hg1:ob.guard=none:=by rfl)(hd1:ob.dst=some db:=by rfl):wpList Tryz.prog ops Q (ob::rest) (frm n l) w:=by
 refine zv _ (by rw[frm_eval];exact hbs) hg1 hd1 ?_
 have:=h _ _ rfl ((Kept.refl w).alloc (.cells V t)) (Blk.new w V t) (by simp)
 exact this
end
end
section
set_option maxHeartbeats 8000000
set_option maxRecDepth 100000
theorem rcand_calls{f:Nat}{w:World}{v:Value}{c:ClaimD}(h:Clm w f v c)(hT:Laid w):Calls Tryz.prog 5 #[v] w (RetCand c w):=by
 have hv:=fun(W:World)(k:Kept w W)=>r6valid_calls (h.kept k) (hT.kept k)
 obtain⟨o,g,z,x1,x2,x3,x4,x5,x6,nm,a0,n0,cap0,a1,n1,cap1,a2,n2,cap2,rfl,hg,hb,hc⟩:=h
 clear hg hc
 refine ent1 60 Tryz.func5 rfl Tryz.ntmps5 ?_
 iterate 2 go_step
 refine zb fun w1 g1 e1 k1 b1 q1=> ?_
 refine zr (.slice none 0 0) ?_
 refine zr (.int .i64 0) ?_
 iterate 6 go_step
 refine zl b1.range own31c ?_
 refine zc 14 _ (hv _ k1) ?_
 rintro e w2 ⟨rfl,k2⟩
 refine⟨_,rfl,?_⟩
 replace b1:=b1.kept k2
 replace k1:=k1.trans k2
 cases hok:c.ok
 ·refine zr (.bool true) ?_
  iterate 3 go_step
  refine zt_true ?_
  iterate 2 go_step
  refine zr (.slice none 0 0) ?_
  refine zr (.int .i64 60) ?_
  iterate 5 go_step
  exact zretTT ⟨k1,.inl ⟨hok,rfl⟩⟩
 have hbox:boxOk c.box=true:=by
  unfold ClaimD.ok at hok
  simp only[Bool.and_eq_true] at hok
  exact hok.1.1.1.1
 obtain⟨h6,hall⟩:=sides_fine hbox
 refine zr (.bool false) ?_
 iterate 3 go_step
 refine zt_false ?_
 iterate 5 go_step
 refine zr (.pointer (some ⟨g1,8,none⟩)) ?_
 refine zl1 (b1.cell 8 rfl) ?_
 refine zc 15 _ (r5center_calls (hb.kept k1) hbox hall h6) ?_
 obtain rfl:n1=c.box.length:=hb.1
 rintro e w3 ⟨k3,⟨ho,ac,capc,rfl,hp⟩|⟨ho,rfl⟩⟩
 case' inr=>
  refine⟨_,rfl,?_⟩
  refine zr (.tuple #[.slice none 0 0,.int .i64 1]) ?_
  refine zr (.slice none 0 0) ?_
  refine zr (.int .i64 1) ?_
  refine zr (.slice none 0 0) ?_
  refine zr (.int .i64 1) ?_
  iterate 6 go_step
  refine zr (.int .i64 1) ?_
  refine zr (.bool true) ?_
  iterate 3 go_step
  refine zt_true ?_
  iterate 2 go_step
  refine zr (.slice none 0 0) ?_
  refine zr (.int .i64 1) ?_
  iterate 5 go_step
  exact zretTT ⟨k1.trans k3,.inr (.inl ⟨hok,ho,rfl⟩)⟩
 refine⟨_,rfl,?_⟩
 refine zr (.tuple #[.slice ac c.box.length capc,.int .i64 0]) ?_
 refine zr (.slice ac c.box.length capc) ?_
 refine zr (.int .i64 0) ?_
 refine zr (.slice ac c.box.length capc) ?_
 refine zr (.int .i64 0) ?_
 iterate 6 go_step
 refine zr (.int .i64 0) ?_
 refine zr (.bool false) ?_
 iterate 3 go_step
 refine zt_false ?_
 iterate 5 go_step
 refine zr (.slice ac c.box.length capc) ?_
 refine zbs (t:=39) (V:=#[.slice ac c.box.length capc]) (by kernel_rfl) fun w4 g4 e4 k4 b4 q4=> ?_
 refine zr (.slice (some ⟨g4,0,none⟩) 1 1) ?_
 iterate 5 go_step
 refine zr (.int .i64 1) ?_
 iterate 6 go_step
 refine zr (.int .i64 0) ?_
 iterate 4 go_step
 have z1:=k1.size
 have z3:=k3.size
 have z4:=k4.size
 have K4:=(k1.trans k3).trans k4
 have b12:=b1
 replace b1:=(b1.kept k3).kept k4
 have K2:=k3.trans k4
 have hp4:Ptm (onlyW w4 (abx w2.heap.size g4)) ac c.box.length capc (c.box.map ptOf):=hp.sub (abx_late k4 (by omega) (Nat.le_refl _))
 have hgc:=good_center ho
 refine zloopG (σ:=Unit) c.box.length (fun k _=>[(1,.pointer (some ⟨g1,0,none⟩)),(6,.slice (some ⟨g4,0,none⟩) 1 1),(7,.int .i64 ((2^k:Nat):Int)),(8,.int .i64 k)])
  (fun k _ W=>Kept w4 W∧∀j(hj:j<c.box.length),j<k→(!c.box[j].iv.li&& !c.box[j].iv.hi)=true) () ⟨rfl,rfl,rfl,rfl,trivial⟩ ⟨Kept.refl w4,fun j hj h0=>absurd h0 (Nat.not_lt_zero _)⟩ fun fl wr k _ hk ⟨kr,hfin⟩=> ?_
 have b1r:=b1.kept kr
 have Kr:=K4.trans kr
 iterate 4 go_step
 refine zr (.int .i64 k) ?_
 refine zr (.pointer (some ⟨g1,8,none⟩)) ?_
 refine zl1 (b1r.cell 8 rfl) ?_
 refine zr (.int .i64 c.box.length) ?_
 refine z2 (.bool (decide ((k:Int)<(c.box.length:Int)))) ?_
 iterate 3 go_step
 cases hlt:decide ((k:Int)<(c.box.length:Int))
 case' true=>
  have hlt:k<c.box.length:=by have:=of_decide_eq_true hlt;omega
  obtain⟨b,off,u1,u2,u3,u4,u5,u6,t1,t2,t3,t4,t5,t6,rfl,rV,r1,r2⟩:=hb.row hlt
  have hr:wr.rangeAt b (off+k*9+1) [.bool c.box[k].iv.s1,.slice u1 u2 u3,.slice u4 u5 u6,.bool c.box[k].iv.s2,.slice t1 t2 t3,.slice t4 t5 t6,.bool c.box[k].iv.li,.bool c.box[k].iv.hi]:=fun j v hv=>by
   have:=Kr.cell (rV (j+1) v hv)
   rwa [show off+k*9+(j+1)=off+k*9+1+j by omega] at this
  have hI:Ivl wr (.agg #[.bool c.box[k].iv.s1,.slice u1 u2 u3,.slice u4 u5 u6,.bool c.box[k].iv.s2,.slice t1 t2 t3,.slice t4 t5 t6,.bool c.box[k].iv.li,.bool c.box[k].iv.hi]) c.box[k].iv:=⟨_,_,_,_,_,_,_,_,_,_,_,_,rfl,r1.kept Kr,r2.kept Kr⟩
  refine zt_true ?_
  iterate 8 go_step
  refine zr (.pointer (some ⟨g1,8,none⟩)) ?_
  refine zl1 (b1r.cell 8 rfl) ?_
  refine zr (.int .i64 k) ?_
  refine zi (s:=9) k hlt ?_
  refine zr (.pointer (some ⟨b,off+k*9+1,none⟩)) ?_
  refine zl (V:=#[_,_,_,_,_,_,_,_]) hr own39 ?_
  refine zc 17 _ (iof_nv hI (hall k hlt).1 (hall k hlt).2) ?_
  rintro e w5 ⟨v5,rfl,hq,k5⟩
  refine⟨_,rfl,?_⟩
  refine zc 16 _ (rfinite_calls hq) ?_
  rintro e w6 ⟨rfl,k6⟩
  refine⟨_,rfl,?_⟩
  have K6:=kr.trans (k5.trans k6)
  cases hfk:(!c.box[k].iv.li&& !c.box[k].iv.hi)
  ·refine zr (.bool true) ?_
   iterate 3 go_step
   refine zt_true ?_
   iterate 2 go_step
   refine zr (.slice (some ⟨g4,0,none⟩) 1 1) ?_
   refine zr (.slice (some ⟨g4,0,none⟩) 1 1) ?_
   refine zr (.int .i64 0) ?_
   iterate 7 go_step
   have hcand:candL c.box=[c.box.map ptOf]:=by unfold candL;rw[finB_not hlt hfk];rfl
   refine zretTT (v:=.slice (some ⟨g4,0,none⟩) 1 1) (x:=.int .i64 0) ⟨K4.trans K6,.inr (.inr ⟨hok,ho,some ⟨g4,0,none⟩,1,by rw[hcand];rfl,?_⟩)⟩
   rw[hcand]
   have G:Grow w2 _ w2.heap.size 39 1 (.slice (some ⟨g4,0,none⟩) 1 1) 1 _ rowR [c.box.map ptOf]:=Grow.one (T:=abx w2.heap.size g4) (b4.kept K6) (by omega) ⟨(K2.trans K6).size,fun b hb _=>(K2.trans K6).old b hb,(K2.trans K6).tape,(K2.trans K6).os,(K2.trans K6).output⟩ rfl (Nat.succ_pos 0)
    ⟨_,_,_,rfl,hp4.sub (only_move fun b hb hs=>⟨hs,K6.old b hb⟩)⟩ (fun b hb=>by unfold abx at hb;simp only[Bool.and_eq_true,decide_eq_true_eq,bne_iff_ne] at hb;exact hb) rowR_sub
   exact(G.ptl rfl rfl).sub (only_mono fun b hb=>by unfold ab at hb⊢;simp only[decide_eq_true_eq] at hb⊢;omega)
  ·refine zr (.bool false) ?_
   iterate 3 go_step
   refine zt_false ?_
   iterate 4 go_step
   have hp2:2^(k+1)=2*2^k:=by rw[Nat.pow_succ,Nat.mul_comm]
   have hpk:2^k<64:=Nat.lt_of_lt_of_le (Nat.pow_lt_pow_right (by decide) (show k<6 by omega)) (by decide)
   refine zr (.int .i64 ((2^k:Nat):Int)) ?_
   refine z2 (.int .i64 ((2*2^k:Nat):Int)) (hrun:=run_mul2 hpk) ?_
   refine zr (.int .i64 ((2*2^k:Nat):Int)) ?_
   iterate 4 go_step
   refine zr (.int .i64 k) ?_
   refine z2 (.int .i64 ((k+1:Nat):Int)) (hrun:=run_inc (by omega)) ?_
   refine zr (.int .i64 ((k+1:Nat):Int)) ?_
   iterate 3 go_step
   exact⟨_,(),rfl,hlt,⟨rfl,rfl,by rw[hp2];rfl,rfl,trivial⟩,K6,fun j hj h0=>by
    by_cases he:j=k
    ·subst he;exact hfk
    ·exact hfin j hj (by omega)⟩
 obtain rfl:k=c.box.length:=by have:=of_decide_eq_false hlt;omega
 refine zt_false ?_
 iterate 8 go_step
 clear hlt
 have hfinB:finB c.box=true:=finB_yes fun j hj=>hfin j hj hj
 have hfin2:∀j(hj:j<c.box.length),c.box[j].iv.li=false∧c.box[j].iv.hi=false:=fun j hj=>by
  have:=hfin j hj hj
  simpa using this
 have hN:2^c.box.length≤64:=Nat.le_trans (Nat.pow_le_pow_right (by decide) h6) (by decide)
 have hcand:candL c.box=candN c.box (2^c.box.length):=by unfold candL;rw[hfinB];rfl
 obtain⟨N,eN⟩:∃N,N=2^c.box.length:=⟨_,rfl⟩
 rw[←eN] at hN hcand⊢
 have hts:=candN_len c.box N
 have K2r:=K2.trans kr
 have G0:Grow w2 wr w2.heap.size 39 1 (.slice (some ⟨g4,0,none⟩) 1 1) 1 [.slice ac c.box.length capc] rowR (candN c.box N):=Grow.one (T:=abx w2.heap.size g4) (V:=#[.slice ac c.box.length capc]) (b4.kept kr) (by omega) ⟨K2r.size,fun b hb _=>K2r.old b hb,K2r.tape,K2r.os,K2r.output⟩ rfl hts.1
  (by
    have e0:(candN c.box N)[0]'hts.1=c.box.map ptOf:=by
     have e:=(candN_take c.box 0 N (Nat.zero_le _)).1
     have e2:((candN c.box N).take (candN c.box 0).length)[0]? =(candN c.box 0)[0]? :=by rw[e]
     rw[show(candN c.box 0).length=1 from rfl,List.getElem?_take,if_pos (by decide),List.getElem?_eq_getElem hts.1] at e2
     exact Option.some.inj e2
    rw[e0]
    exact⟨_,_,_,rfl,hp4.sub (only_move fun b hb hs=>⟨hs,kr.old b hb⟩)⟩) (fun b hb=>by unfold abx at hb;simp only[Bool.and_eq_true,decide_eq_true_eq,bne_iff_ne] at hb;exact hb) rowR_sub
 refine zr (.int .i64 0) ?_
 iterate 4 go_step
 refine zloopG (σ:=Option Addr×Nat×List Value×Nat) N (fun m s=>[(1,.pointer (some ⟨g1,0,none⟩)),(6,.slice s.1 s.2.2.2 s.2.1),(7,.int .i64 (N:Int)),(9,.int .i64 m)])
  (fun m s W=>s.2.2.2=(candN c.box m).length∧Grow w2 W w2.heap.size 39 1 (.slice s.1 s.2.2.2 s.2.1) s.2.2.2 s.2.2.1 rowR (candN c.box N)) (some ⟨g4,0,none⟩,1,[.slice ac c.box.length capc],1) ⟨rfl,rfl,rfl,rfl,trivial⟩ ⟨rfl,G0⟩ fun fl ws m ⟨a3,cap3,cs,j⟩ hm ⟨hj,G⟩=> ?_
 replace hj:j=(candN c.box m).length:=hj
 replace G:Grow w2 ws w2.heap.size 39 1 (.slice a3 j cap3) j cs rowR (candN c.box N):=G
 have ks2:Kept w2 ws:=⟨G.kb.size,fun b hb=>G.kb.old b hb (Nat.ne_of_lt hb),G.kb.tape,G.kb.os,G.kb.output⟩
 have Ks:=k1.trans ks2
 have b1s:=b12.kept ks2
 have own_lt:=fun g hg=>World.ownsRow.lt G.own g hg
 have hjl:=candN_len c.box m
 obtain⟨htk,hle⟩:=candN_take c.box m N hm
 have hP:=G.ptl hj (by rw[hj];exact htk)
 iterate 4 go_step
 refine zr (.int .i64 m) ?_
 refine zr (.int .i64 N) ?_
 refine z2 (.bool (decide ((m:Int)<(N:Int)))) ?_
 iterate 3 go_step
 cases hlt:decide ((m:Int)<(N:Int))
 case' true=>
  have hlt:m<N:=by have:=of_decide_eq_true hlt;omega
  have hgood:=good_candN ho (fun k hk=>(hall k hk).1) m
  have hgc2:=good_corner (fun k hk=>(hall k hk).1) m
  have hcl:=cornerL_len c.box m
  refine zt_true ?_
  iterate 7 go_step
  refine zr (.pointer (some ⟨g1,8,none⟩)) ?_
  refine zl1 (b1s.cell 8 rfl) ?_
  refine zr (.int .i64 m) ?_
  refine zc 18 _ (corner18_calls (hb.kept Ks) hbox hfin2 (show m<64 by omega)) ?_
  rintro e w7 ⟨k7,a7,cap7,rfl,hp7⟩
  refine⟨_,rfl,?_⟩
  refine zr (.slice a7 (cornerL c.box m).length cap7) ?_
  iterate 5 go_step
  refine zr (.slice a3 j cap3) ?_
  refine zr (.slice a7 (cornerL c.box m).length cap7) ?_
  refine zc 19 _ (found_calls ((hP.sub (only_sub _ _)).kept k7) (hp7.sub (only_sub _ _)) (fun i hi=>⟨(hgood _ (List.getElem_mem hi)).1.num,by have:=(hgood _ (List.getElem_mem hi)).2;omega⟩) hgc2.1.num (by omega)) ?_
  rintro e w8 ⟨rfl,k8⟩
  refine⟨_,rfl,?_⟩
  have k78:=k7.trans k8
  have G8:=G.kept rowR_sub k78
  rw[←sameAny_found]
  cases hsa:sameAny (candN c.box m) (cornerL c.box m)
  ·refine zr (.bool true) ?_
   iterate 3 go_step
   refine zt_true ?_
   go_step
   obtain⟨hnew,hltN,hget⟩:=candN_new hlt hsa
   refine zr (.slice a3 j cap3) ?_
   refine zr (.slice a7 (cornerL c.box m).length cap7) ?_
   refine zgrow (R:=rowR) (V:=#[.slice a7 (cornerL c.box m).length cap7]) info39 rfl (by decide) (by decide) Tryz.underlying32 G8 rowR_sub (by simp[Value.oneCell']) rfl (by omega) (by omega)
    (T:=ab ws.heap.size) (by
      subst hj
      rw[hget]
      exact⟨_,_,_,rfl,hp7.sub (only_move fun b hb hs=>⟨hs,k8.old b hb⟩)⟩) (fun b hb=> ?_) (by kernel_rfl) fun wc a' cap' G'=> ?_
   ·unfold ab at hb
    simp only[decide_eq_true_eq] at hb
    refine⟨by have:=ks2.size;omega,fun he=> ?_⟩
    have:=(own_lt b he.symm).2
    omega
   refine zr (.slice a' (j+1) cap') ?_
   iterate 4 go_step
   refine zr (.int .i64 m) ?_
   refine z2 (.int .i64 ((m+1:Nat):Int)) (hrun:=run_inc (by omega)) ?_
   refine zr (.int .i64 ((m+1:Nat):Int)) ?_
   iterate 3 go_step
   exact⟨_,(a',cap',_,j+1),rfl,hlt,⟨rfl,rfl,rfl,rfl,trivial⟩,by rw[hnew,List.length_append,List.length_singleton,hj],G'⟩
  ·refine zr (.bool false) ?_
   iterate 3 go_step
   refine zt_false ?_
   iterate 4 go_step
   refine zr (.int .i64 m) ?_
   refine z2 (.int .i64 ((m+1:Nat):Int)) (hrun:=run_inc (by omega)) ?_
   refine zr (.int .i64 ((m+1:Nat):Int)) ?_
   iterate 3 go_step
   exact⟨_,(a3,cap3,cs,j),rfl,hlt,⟨rfl,rfl,rfl,rfl,trivial⟩,by rw[candN_old hsa,hj],G8⟩
 obtain rfl:m=N:=by have:=of_decide_eq_false hlt;omega
 refine zt_false ?_
 iterate 7 go_step
 refine zr (.slice a3 j cap3) ?_
 refine zr (.slice a3 j cap3) ?_
 refine zr (.int .i64 0) ?_
 iterate 4 go_step
 subst hj
 refine zretTT (v:=.slice a3 (candN c.box m).length cap3) (x:=.int .i64 0) ⟨Ks,.inr (.inr ⟨hok,ho,a3,cap3,by rw[hcand],?_⟩)⟩
 rw[hcand]
 exact hP.sub (only_mono fun b hb=>by unfold ab at hb⊢;simp only[decide_eq_true_eq] at hb⊢;omega)
end
section
set_option maxHeartbeats 8000000
set_option maxRecDepth 100000
section
variable{n:Nat}{l:Fm}{ops:Array Oper}{Q:Exit→Act→World→Prop}{oi:Oper}{fuel:Nat}{listed:Array Bool}{w:World}{d L:Nat}{S:World→Prop}
theorem e2(i:Nat){op:BinOp}{xt yt:TypeId}{x y:Operand}{xv yv:Value}(v:Value)(hS:S w)(h:wpE Tryz.prog .any ops Q S L fuel (listed.setIfInBounds i true) (frm n (upd l d v)) w)
 (hrun:∀w',(do eqGuard op xt x y xv yv;binOp op xt xv yv:Sem Value).run Tryz.prog w'= .ok v w')
 (hi:ops[i]? =some oi:=by rfl)(hop:oi.op= .binOp op xt x y yt:=by rfl)(hx:opv n l x=some xv:=by rfl)(hy:opv n l y=some yv:=by rfl)(hg:oi.guard=none:=by rfl)(hd:oi.dst=some d:=by rfl)
 (hL:waitsOn .any ops L i=true:=by kernel_rfl)
 (hs:Region.noSelect ops=true:=by kernel_rfl)(hf:Region.free .any ops listed i=true:=by kernel_rfl)(hr:(Region.ready .any ops listed).contains i=true:=by kernel_rfl)
 (hQ:∀c a w,Q (.panic c) (a.put oi.dst v) w→Q (.panic c) a w:=by exact fun _ _ _ h=>h):wpE Tryz.prog .any ops Q S L (fuel+1) listed (frm n l) w:=
 er i v hS h hi hg hd (fun w' _=>by unfold execOp;rw[hop];simp only[ev_of hx,ev_of hy];rw[Sem.run_bind,hrun];rfl) hL hs hf hr hQ
end
theorem cand_calls{f:Nat}{w:World}{v:Value}{c:ClaimD}(h:Clm w f v c)(hT:Laid w):Calls Tryz.prog 4 #[v] w (RetCand c w):=by
 have hv:=fun(W:World)(k:Kept w W)=>cvalid_calls (h.kept k) (hT.kept k)
 have hdr:=fun(W:World)(k:Kept w W)=> @dropped_calls f W v c (h.kept k)
 obtain⟨o,g,z,x1,x2,x3,x4,x5,x6,nm,a0,n0,cap0,a1,n1,cap1,a2,n2,cap2,rfl,hg,hb,hc⟩:=h
 clear hg hc
 refine ent1 81 Tryz.func4 rfl Tryz.ntmps4 ?_
 iterate 2 go_step
 refine zb fun w1 g1 e1 k1 b1 q1=> ?_
 refine zr (.slice none 0 0) ?_
 refine zr (.int .i64 0) ?_
 iterate 6 go_step
 refine zl b1.range own31c ?_
 refine zc 8 _ (hv _ k1) ?_
 rintro e w2 ⟨rfl,k2⟩
 refine⟨_,rfl,?_⟩
 replace b1:=b1.kept k2
 replace k1:=k1.trans k2
 cases hok:c.ok
 ·refine zr (.bool true) ?_
  iterate 3 go_step
  refine zt_true ?_
  iterate 2 go_step
  refine zr (.slice none 0 0) ?_
  refine zr (.int .i64 60) ?_
  iterate 5 go_step
  exact zretTT ⟨k1,.inl ⟨hok,rfl⟩⟩
 have hbox:boxOk c.box=true:=by
  unfold ClaimD.ok at hok
  simp only[Bool.and_eq_true] at hok
  exact hok.1.1.1.1
 obtain⟨h6,hall⟩:=sides_fine hbox
 refine zr (.bool false) ?_
 iterate 3 go_step
 refine zt_false ?_
 iterate 5 go_step
 refine zr (.pointer (some ⟨g1,8,none⟩)) ?_
 refine zl1 (b1.cell 8 rfl) ?_
 refine zc 9 _ (center9_calls (hb.kept k1) hbox (hT.kept k1)) ?_
 obtain rfl:n1=c.box.length:=hb.1
 rintro e w3 ⟨k3,⟨ho,ac,capc,rfl,hp⟩|⟨ho,rfl⟩⟩
 case' inr=>
  refine⟨_,rfl,?_⟩
  refine zr (.tuple #[.slice none 0 0,.int .i64 1]) ?_
  refine zr (.slice none 0 0) ?_
  refine zr (.int .i64 1) ?_
  refine zr (.slice none 0 0) ?_
  refine zr (.int .i64 1) ?_
  iterate 6 go_step
  refine zr (.int .i64 1) ?_
  refine zr (.bool true) ?_
  iterate 3 go_step
  refine zt_true ?_
  iterate 2 go_step
  refine zr (.int .i64 1) ?_
  refine zr (.slice none 0 0) ?_
  refine zr (.int .i64 1) ?_
  iterate 5 go_step
  exact zretTT ⟨k1.trans k3,.inr (.inl ⟨hok,ho,rfl⟩)⟩
 refine⟨_,rfl,?_⟩
 refine zr (.tuple #[.slice ac c.box.length capc,.int .i64 0]) ?_
 refine zr (.slice ac c.box.length capc) ?_
 refine zr (.int .i64 0) ?_
 refine zr (.slice ac c.box.length capc) ?_
 refine zr (.int .i64 0) ?_
 iterate 6 go_step
 refine zr (.int .i64 0) ?_
 refine zr (.bool false) ?_
 iterate 3 go_step
 refine zt_false ?_
 iterate 5 go_step
 refine zr (.slice ac c.box.length capc) ?_
 refine zbs (t:=39) (V:=#[.slice ac c.box.length capc]) (by kernel_rfl) fun w4 g4 e4 k4 b4 q4=> ?_
 refine zr (.slice (some ⟨g4,0,none⟩) 1 1) ?_
 iterate 6 go_step
 have z1:=k1.size
 have z3:=k3.size
 have z4:=k4.size
 have K4:=(k1.trans k3).trans k4
 have b12:=b1
 replace b1:=(b1.kept k3).kept k4
 have K2:=k3.trans k4
 have hp4:Ptm (onlyW w4 (abx w2.heap.size g4)) ac c.box.length capc (c.box.map ptOf):=hp.sub (abx_late k4 (by omega) (Nat.le_refl _))
 refine zr (.pointer (some ⟨g1,8,none⟩)) ?_
 refine zl1 (b1.cell 8 rfl) ?_
 refine zr (.int .i64 c.box.length) ?_
 refine zr (.int .i64 0) ?_
 iterate 4 go_step
 have fin:∀W,Kept w4 W→finB c.box=false→RetCand c w (.returned (.tuple #[.slice (some ⟨g4,0,none⟩) 1 1,.int .i64 0])) W:=by
  intro W K6 hf
  have hcand:candL c.box=[c.box.map ptOf]:=by unfold candL;rw[hf];rfl
  refine⟨K4.trans K6,.inr (.inr ⟨hok,ho,some ⟨g4,0,none⟩,1,by rw[hcand];rfl,?_⟩)⟩
  rw[hcand]
  have G:Grow w2 _ w2.heap.size 39 1 (.slice (some ⟨g4,0,none⟩) 1 1) 1 _ rowR [c.box.map ptOf]:=Grow.one (T:=abx w2.heap.size g4) (b4.kept K6) (by omega) ⟨(K2.trans K6).size,fun b hb _=>(K2.trans K6).old b hb,(K2.trans K6).tape,(K2.trans K6).os,(K2.trans K6).output⟩ rfl (Nat.succ_pos 0)
   ⟨_,_,_,rfl,hp4.sub (only_move fun b hb hs=>⟨hs,K6.old b hb⟩)⟩ (fun b hb=>by unfold abx at hb;simp only[Bool.and_eq_true,decide_eq_true_eq,bne_iff_ne] at hb;exact hb) rowR_sub
  exact(G.ptl rfl rfl).sub (only_mono fun b hb=>by unfold ab at hb⊢;simp only[decide_eq_true_eq] at hb⊢;omega)
 refine zloopG (σ:=Unit) c.box.length (fun k _=>[(1,.pointer (some ⟨g1,0,none⟩)),(6,.slice (some ⟨g4,0,none⟩) 1 1),(28,.slice a1 c.box.length cap1),(29,.int .i64 c.box.length),(30,.int .i64 k)])
  (fun k _ W=>Kept w4 W∧∀j(hj:j<c.box.length),j<k→(!c.box[j].iv.li&& !c.box[j].iv.hi)=true) () ⟨rfl,rfl,rfl,rfl,rfl,trivial⟩ ⟨Kept.refl w4,fun j hj h0=>absurd h0 (Nat.not_lt_zero _)⟩ fun fl wr k _ hk ⟨kr,hfin⟩=> ?_
 have b1r:=b1.kept kr
 have Kr:=K4.trans kr
 iterate 3 go_step
 refine z2 (.bool (decide ((k:Int)<(c.box.length:Int)))) ?_
 iterate 4 go_step
 cases hlt:decide ((k:Int)<(c.box.length:Int))
 case' true=>
  have hlt:k<c.box.length:=by have:=of_decide_eq_true hlt;omega
  obtain⟨b,off,u1,u2,u3,u4,u5,u6,t1,t2,t3,t4,t5,t6,rfl,rV,r1,r2⟩:=hb.row hlt
  refine zt_true ?_
  iterate 7 go_step
  refine zi (s:=9) k hlt ?_
  refine zl (V:=#[_,_,_,_,_,_,_,_,_]) ((Kept.sub Kr).range rV) own41 ?_
  refine za Z9 45 fun w5 g5 e5 k5 b5 q5=> ?_
  refine zt b5 own41 own41 fun w6 k6 b6=> ?_
  iterate 5 go_step
  have K6:=kr.trans (k5.but k6 (by omega))
  refine zr (.pointer (some ⟨g5,1,none⟩)) ?_
  refine zr (.pointer (some ⟨g5,7,none⟩)) ?_
  refine zl1 (b6.cell 7 rfl) ?_
  refine zr (.bool c.box[k].iv.li) ?_
  cases eli:c.box[k].iv.li
  ·refine zwant ?_
   refine zr (.pointer (some ⟨g5,1,none⟩)) ?_
   refine zwant ?_
   refine zr (.pointer (some ⟨g5,8,none⟩)) ?_
   refine zwant ?_
   refine zl1 (b6.cell 8 rfl) ?_
   refine zr (.bool c.box[k].iv.hi) ?_
   iterate 3 go_step
   cases ehi:c.box[k].iv.hi
   ·refine zt_false ?_
    iterate 4 go_step
    refine z2 (.int .i64 ((k+1:Nat):Int)) (hrun:=run_inc (by omega)) ?_
    refine zr (.int .i64 ((k+1:Nat):Int)) ?_
    iterate 3 go_step
    exact⟨_,(),rfl,hlt,⟨rfl,rfl,rfl,rfl,rfl,trivial⟩,K6,fun j hj h0=>by
     by_cases he:j=k
     ·subst he;rw[eli,ehi];rfl
     ·exact hfin j hj (by omega)⟩
   ·refine zt_true ?_
    iterate 2 go_step
    refine zr (.slice (some ⟨g4,0,none⟩) 1 1) ?_
    refine zr (.slice (some ⟨g4,0,none⟩) 1 1) ?_
    refine zr (.int .i64 0) ?_
    iterate 7 go_step
    exact zretTT (v:=.slice (some ⟨g4,0,none⟩) 1 1) (x:=.int .i64 0) (fin _ K6 (finB_not hlt (by rw[ehi,eli];rfl)))
  ·refine zskw ?_
   refine zskw ?_
   refine zskw ?_
   refine zr (.bool true) ?_
   iterate 3 go_step
   refine zt_true ?_
   iterate 2 go_step
   refine zr (.slice (some ⟨g4,0,none⟩) 1 1) ?_
   refine zr (.slice (some ⟨g4,0,none⟩) 1 1) ?_
   refine zr (.int .i64 0) ?_
   iterate 7 go_step
   exact zretTT (v:=.slice (some ⟨g4,0,none⟩) 1 1) (x:=.int .i64 0) (fin _ K6 (finB_not hlt (by rw[eli];rfl)))
 obtain rfl:k=c.box.length:=by have:=of_decide_eq_false hlt;omega
 refine zt_false ?_
 iterate 8 go_step
 clear hlt
 have hfinB:finB c.box=true:=finB_yes fun j hj=>hfin j hj hj
 have hN:2^c.box.length≤64:=Nat.le_trans (Nat.pow_le_pow_right (by decide) h6) (by decide)
 have hcand:candL c.box=candN c.box (2^c.box.length):=by unfold candL;rw[hfinB];rfl
 refine zr (.pointer (some ⟨g1,8,none⟩)) ?_
 refine zl1 (b1r.cell 8 rfl) ?_
 refine zr (.int .i64 c.box.length) ?_
 refine z2 (.int .i64 ((2^c.box.length:Nat):Int)) (hrun:=run_shl1 (by omega)) ?_
 obtain⟨N,eN⟩:∃N,N=2^c.box.length:=⟨_,rfl⟩
 rw[←eN] at hN hcand⊢
 have hts:=candN_len c.box N
 have K2r:=K2.trans kr
 have G0:Grow w2 wr w2.heap.size 39 1 (.slice (some ⟨g4,0,none⟩) 1 1) 1 [.slice ac c.box.length capc] rowR (candN c.box N):=Grow.one (T:=abx w2.heap.size g4) (V:=#[.slice ac c.box.length capc]) (b4.kept kr) (by omega) ⟨K2r.size,fun b hb _=>K2r.old b hb,K2r.tape,K2r.os,K2r.output⟩ rfl hts.1
  (by
    have e0:(candN c.box N)[0]'hts.1=c.box.map ptOf:=by
     have e:=(candN_take c.box 0 N (Nat.zero_le _)).1
     have e2:((candN c.box N).take (candN c.box 0).length)[0]? =(candN c.box 0)[0]? :=by rw[e]
     rw[show(candN c.box 0).length=1 from rfl,List.getElem?_take,if_pos (by decide),List.getElem?_eq_getElem hts.1] at e2
     exact Option.some.inj e2
    rw[e0]
    exact⟨_,_,_,rfl,hp4.sub (only_move fun b hb hs=>⟨hs,kr.old b hb⟩)⟩) (fun b hb=>by unfold abx at hb;simp only[Bool.and_eq_true,decide_eq_true_eq,bne_iff_ne] at hb;exact hb) rowR_sub
 refine zr (.int .i64 0) ?_
 iterate 4 go_step
 refine zloopG (σ:=Option Addr×Nat×List Value×Nat) N (fun m s=>[(1,.pointer (some ⟨g1,0,none⟩)),(6,.slice s.1 s.2.2.2 s.2.1),(47,.int .i64 (N:Int)),(48,.int .i64 m)])
  (fun m s W=>s.2.2.2=(candN c.box m).length∧Grow w2 W w2.heap.size 39 1 (.slice s.1 s.2.2.2 s.2.1) s.2.2.2 s.2.2.1 rowR (candN c.box N)) (some ⟨g4,0,none⟩,1,[.slice ac c.box.length capc],1) ⟨rfl,rfl,rfl,rfl,trivial⟩ ⟨rfl,G0⟩ fun fl ws m ⟨a3,cap3,cs,j⟩ hm ⟨hj,G⟩=> ?_
 replace hj:j=(candN c.box m).length:=hj
 replace G:Grow w2 ws w2.heap.size 39 1 (.slice a3 j cap3) j cs rowR (candN c.box N):=G
 have ks2:Kept w2 ws:=⟨G.kb.size,fun b hb=>G.kb.old b hb (Nat.ne_of_lt hb),G.kb.tape,G.kb.os,G.kb.output⟩
 have Ks:=k1.trans ks2
 have b1s:=b12.kept ks2
 have own_lt:=fun g hg=>World.ownsRow.lt G.own g hg
 have hjl:=candN_len c.box m
 obtain⟨htk,hle⟩:=candN_take c.box m N hm
 have hP:=G.ptl hj (by rw[hj];exact htk)
 have hg1w2:g1<w2.heap.size:=b12.lt
 iterate 3 go_step
 refine z2 (.bool (decide ((m:Int)<(N:Int)))) ?_
 iterate 4 go_step
 cases hlt:decide ((m:Int)<(N:Int))
 case' true=>
  have hlt:m<N:=by have:=of_decide_eq_true hlt;omega
  have hgood:=good_candN ho (fun k hk=>(hall k hk).1) m
  have hgc2:=good_corner (fun k hk=>(hall k hk).1) m
  have hcl:=cornerL_len c.box m
  refine zt_true ?_
  iterate 7 go_step
  refine zr (.int .i64 m) ?_
  refine zr (.int .i64 m) ?_
  iterate 5 go_step
  refine za #[.slice none 0 0] 39 fun wt gt et kt bt qt=> ?_
  iterate 6 go_step
  have b1t:=b1s.kept kt
  refine zr (.pointer (some ⟨g1,8,none⟩)) ?_
  refine zl1 (b1t.cell 8 rfl) ?_
  refine zr (.int .i64 c.box.length) ?_
  refine zr (.int .i64 0) ?_
  iterate 4 go_step
  have Kt:=Ks.trans kt
  refine zloopG (σ:=Option Addr×Nat×List Value) c.box.length (fun i s=>[(1,.pointer (some ⟨g1,0,none⟩)),(6,.slice a3 j cap3),(9,.int .i64 m),(10,.pointer (some ⟨gt,0,none⟩)),(47,.int .i64 (N:Int)),(48,.int .i64 m),(52,.slice a1 c.box.length cap1),(53,.int .i64 c.box.length),(54,.int .i64 i)])
   (fun i s W=>Blk W gt #[.slice s.1 i s.2.1] 39∧Grow wt W gt 47 4 (.slice s.1 i s.2.1) i s.2.2 ptR (cornerL c.box m)) (none,0,[]) ⟨rfl,rfl,rfl,rfl,rfl,rfl,rfl,rfl,rfl,trivial⟩ ⟨bt,Grow.start ..⟩ fun fl2 wi i ⟨a5,cap5,cs5⟩ hi ⟨bti,Gi⟩=> ?_
  replace bti:Blk wi gt #[.slice a5 i cap5] 39:=bti
  replace Gi:Grow wt wi gt 47 4 (.slice a5 i cap5) i cs5 ptR (cornerL c.box m):=Gi
  have own_li:=fun g hg=>World.ownsRow.lt Gi.own g hg
  have qt':=kt.size
  have ksi:Kept ws wi:=kt.but Gi.kb (by omega)
  have Ki:=Ks.trans ksi
  have b1i:=b1s.kept ksi
  have qi:=ksi.size
  have qs2:=ks2.size
  iterate 3 go_step
  refine z2 (.bool (decide ((i:Int)<(c.box.length:Int)))) ?_
  iterate 4 go_step
  cases hli:decide ((i:Int)<(c.box.length:Int))
  case' true=>
   have hli:i<c.box.length:=by have:=of_decide_eq_true hli;omega
   obtain⟨b,off,u1,u2,u3,u4,u5,u6,t1,t2,t3,t4,t5,t6,rfl,rV,r1,r2⟩:=hb.row hli
   refine zt_true ?_
   iterate 7 go_step
   refine zr (.int .i64 i) ?_
   refine zi (s:=9) i hli ?_
   refine zl (V:=#[_,_,_,_,_,_,_,_,_]) ((Kept.sub Ki).range rV) own41 ?_
   refine za Z9 45 fun w5 g5 e5 k5 b5 q5=> ?_
   refine zr (.int .i64 i) ?_
   refine zt b5 own41 own41 fun w6 k6 b6=> ?_
   have q5':=k5.size
   have k56:Kept wi w6:=k5.but k6 (by omega)
   have K6:=Ki.trans k56
   have q6':=k56.size
   have G6:=Gi.kept ptR_sub k56
   have b1x:=b1i.kept k56
   have btx:=bti.kept k56
   iterate 3 go_step
   obtain⟨u,hu⟩:∃u,(m/2^i%2==1)=u:=⟨_,rfl⟩
   have hu2:(((m/2^i%2:Nat):Int)==1)=u:=by
    rw[←hu]
    rcases Nat.mod_two_eq_zero_or_one (m/2^i) with h|h<;>rw[h]<;>rfl
   have hmi:m/2^i<64:=Nat.lt_of_le_of_lt (Nat.div_le_self _ _) (by omega)
   have hpt:(cornerL c.box m)[i]'(by omega)=cornP c.box[i] u:=by rw[cornerL_get c.box m i hli,hu]
   obtain⟨lo,up,hob,hin⟩:=own_rng (.slice a5 i cap5)
   have hout:∀x,(x<wt.heap.size∨wi.heap.size≤x)→x<lo∨up≤x:=fun x hx=>by
    by_cases h1:x<lo
    ·exact .inl h1
    ·by_cases h2:up≤x
     ·exact .inr h2
     ·have:=own_li x (hin x (by omega) (by omega))
      omega
   have hgt:gt<wt.heap.size:=bt.lt
   have hS0:Lk lo up w6 w6.drew:=kept_lk (Kept.refl w6).drew lo up
   refine drawnE 12 (Lk lo up w6) ?_
   refine el1 0 (fun W' k=>k.cell (btx.cell 0 rfl) (hout _ (.inl hgt))) hS0 ?_
   refine el 1 (V:=#[_,_,_,_,_,_,_,_,_,_]) (fun W' k=>k.range b1x.range (hout _ (.inl (show g1<wt.heap.size by omega)))) own31c hS0 ?_
   refine er 2 (.pointer (some ⟨g5,0,none⟩)) hS0 ?_
   refine el1 3 (fun W' k=>k.cell (b6.cell 0 rfl) (hout _ (.inr (show wi.heap.size≤g5 by omega)))) hS0 ?_
   refine er 4 (.int .i64 m) hS0 ?_
   refine er 5 (.int .i64 i) hS0 ?_
   refine e2 6 (.int .i64 ((m/2^i:Nat):Int)) hS0 ?_ fun w'=>run_shr6 (show m<64 by omega) (show i<6 by omega)
   refine e2 7 (.int .i64 ((m/2^i%2:Nat):Int)) hS0 ?_ fun w'=>run_and1 hmi
   refine e2 8 (.bool u) hS0 ?_ fun w'=>run_eqb hu2
   have kd:Kept w6 w6.drew:=(Kept.refl w6).drew
   refine ec 9 10 _ (hdr _ (K6.trans kd) hli (side_self hbox hli) (hall i hli).1 (hT.kept (K6.trans kd)) u) ?_
   rintro e w7 ⟨k7,d1,d2,d3,d4,d5,d6,rfl,hR⟩
   have q7:=k7.size
   have hS7:=hS0.kept k7
   refine⟨hS7,_,rfl,?_⟩
   refine eab (R:=ptR) (V:=#[.string (cornP c.box[i] u).name,.bool (cornP c.box[i] u).s,.slice d1 d2 d3,.slice d4 d5 d6]) 10 11 info47 rfl (by decide) (by decide) Tryz.underlying39 (G6.kept ptR_sub (kd.trans k7)) ptR_sub (btx.kept (kd.trans k7)) rfl hgt own47.2 rfl (by omega) (by omega)
    (T:=ab w6.drew.heap.size) (by rw[hpt];exact⟨_,_,_,_,_,_,rfl,hR⟩) (fun x hx=> ?_) hS7 hob (by kernel_rfl) fun w8 a' cap' G' b'=> ?_
   ·unfold ab at hx
    simp only[decide_eq_true_eq] at hx
    have h1:w6.heap.size≤x:=hx
    have:=Gi.kb.size
    refine⟨by omega,fun he=> ?_⟩
    have:=(own_li x he.symm).2
    omega
   iterate 3 go_step
   refine z2 (.int .i64 ((i+1:Nat):Int)) (hrun:=run_inc (by omega)) ?_
   refine zr (.int .i64 ((i+1:Nat):Int)) ?_
   iterate 3 go_step
   exact⟨_,(a',cap',_),rfl,hli,⟨rfl,rfl,rfl,rfl,rfl,rfl,rfl,rfl,rfl,trivial⟩,b',G'⟩
  obtain rfl:i=c.box.length:=by have:=of_decide_eq_false hli;omega
  refine zt_false ?_
  iterate 7 go_step
  have Gi':Grow wt wi gt 47 4 (.slice a5 (cornerL c.box m).length cap5) (cornerL c.box m).length cs5 ptR (cornerL c.box m):=by rw[hcl];exact Gi
  obtain⟨hcap,hcell,hrows⟩:=Gi'.done ptR_sub (N:=wt.heap.size) (Nat.le_refl _) (fun b _ _=>rfl)
  have hpm:Ptm (onlyW wi (ab wt.heap.size)) a5 c.box.length cap5 (cornerL c.box m):=⟨hcl.symm,by rw[hcl] at hcap;exact hcap,cs5,hcell,hrows⟩
  refine zr (.slice a3 j cap3) ?_
  refine zr (.func (.func 12) #[] #[.pointer (some ⟨gt,0,none⟩)]) ?_
  have Gs:=G.kept rowR_sub ksi
  refine zc 11 _ (candin_calls ((hP.sub (only_sub _ _)).kept ksi) (bti.cell 0 rfl) (hpm.sub (only_sub _ _)) (hT.kept Ki) (fun i hi=>⟨(hgood _ (List.getElem_mem hi)).1,by have:=(hgood _ (List.getElem_mem hi)).2;omega⟩) hgc2.1 (by omega)) ?_
  rintro e w8 ⟨rfl,k8⟩
  refine⟨_,rfl,?_⟩
  have G8:=Gs.kept rowR_sub k8
  cases hsa:sameAny (candN c.box m) (cornerL c.box m)
  ·refine zr (.bool true) ?_
   iterate 3 go_step
   refine zt_true ?_
   go_step
   obtain⟨hnew,hltN,hget⟩:=candN_new hlt hsa
   refine zr (.slice a3 j cap3) ?_
   refine zl1 ((bti.kept k8).cell 0 rfl) ?_
   refine zgrow (R:=rowR) (V:=#[.slice a5 c.box.length cap5]) info39 rfl (by decide) (by decide) Tryz.underlying32 G8 rowR_sub (by simp[Value.oneCell']) rfl (by omega) (by omega)
    (T:=ab wt.heap.size) (by
      subst hj
      rw[hget]
      exact⟨_,_,_,rfl,hpm.sub (only_move fun b hb hs=>⟨hs,k8.old b hb⟩)⟩) (fun b hb=> ?_) (by kernel_rfl) fun wc a' cap' G'=> ?_
   ·unfold ab at hb
    simp only[decide_eq_true_eq] at hb
    refine⟨by omega,fun he=> ?_⟩
    have:=(own_lt b he.symm).2
    omega
   refine zr (.slice a' (j+1) cap') ?_
   iterate 4 go_step
   refine z2 (.int .i64 ((m+1:Nat):Int)) (hrun:=run_inc (by omega)) ?_
   refine zr (.int .i64 ((m+1:Nat):Int)) ?_
   iterate 3 go_step
   exact⟨_,(a',cap',_,j+1),rfl,hlt,⟨rfl,rfl,rfl,rfl,trivial⟩,by rw[hnew,List.length_append,List.length_singleton,hj],G'⟩
  ·refine zr (.bool false) ?_
   iterate 3 go_step
   refine zt_false ?_
   iterate 4 go_step
   refine z2 (.int .i64 ((m+1:Nat):Int)) (hrun:=run_inc (by omega)) ?_
   refine zr (.int .i64 ((m+1:Nat):Int)) ?_
   iterate 3 go_step
   exact⟨_,(a3,cap3,cs,j),rfl,hlt,⟨rfl,rfl,rfl,rfl,trivial⟩,by rw[candN_old hsa,hj],G8⟩
 obtain rfl:m=N:=by have:=of_decide_eq_false hlt;omega
 refine zt_false ?_
 iterate 7 go_step
 refine zr (.slice a3 j cap3) ?_
 refine zr (.slice a3 j cap3) ?_
 refine zr (.int .i64 0) ?_
 iterate 4 go_step
 subst hj
 refine zretTT (v:=.slice a3 (candN c.box m).length cap3) (x:=.int .i64 0) ⟨Ks,.inr (.inr ⟨hok,ho,a3,cap3,by rw[hcand],?_⟩)⟩
 rw[hcand]
 exact hP.sub (only_mono fun b hb=>by unfold ab at hb⊢;simp only[decide_eq_true_eq] at hb⊢;omega)
end
end Go.Proofs.YtancebninmoipaaGreatDoor
