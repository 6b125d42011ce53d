/- A part of the proof that ClaimBranches answers true for every input of bulk at most 1048576: conditions: the row's own. -/
import Derived.Test.YtbapfnpbamnmpaaGreatDoorXe
import Derived.Test.YtbapfnpbamnmpaaGreatDoorXa
import Derived.Test.YtbapfnpbamnmpaaGreatDoorGd
import Derived.Test.YtbapfnpbamnmpaaGreatDoorGz
import Derived.Test.YtbapfnpbamnmpaaGreatDoorGe
import Derived.Test.YtbapfnpbamnmpaaGreatDoorGf
import Derived.Test.YtbapfnpbamnmpaaGreatDoorZa
namespace Go.Proofs.YtbapfnpbamnmpaaGreatDoor
section
open Go Go.RowKit Go.Dig
def negT(t:Tree):Tree:=.node 4 0 false 0 0 ⟨#[]⟩ [t]
def subT(t u:Tree):Tree:=.node 6 0 false 0 0 ⟨#[]⟩ [t,u]
def noT:Tree:=.node 0 0 false 0 0 ⟨#[]⟩ []
mutual
def resT:Tree→Option (Tree×Tree×Tree)
 | .node op arg s N D name kids=>match resL kids (if op=15 then 1 else kids.length) with
   |some (i,c,y,n)=>some (c,.node op arg s N D name (kids.set i y),.node op arg s N D name (kids.set i n))
   |none=>
    if op=12 then some (kids.getD 0 noT,kids.getD 0 noT,negT (kids.getD 0 noT))
    else if op=13 then some (subT (kids.getD 1 noT) (kids.getD 0 noT),kids.getD 0 noT,kids.getD 1 noT)
    else if op=14 then some (subT (kids.getD 0 noT) (kids.getD 1 noT),kids.getD 0 noT,kids.getD 1 noT)
    else if op=15 then some (kids.getD 0 noT,kids.getD 1 noT,kids.getD 2 noT)
    else none
def resL:List Tree→Nat→Option (Nat×Tree×Tree×Tree)
 |[],_=>none
 |_::_,0=>none
 |t::ts,m+1=>match resT t with
  |some r=>some (0,r)
  |none=>match resL ts m with
   |some (i,r)=>some (i+1,r)
   |none=>none
end
theorem resL_some:∀{kids:List Tree}{m k:Nat}{r:Tree×Tree×Tree}(hk:k<kids.length),k<m→(∀j(h:j<kids.length),j<k→resT kids[j]=none)→resT kids[k]=some r→resL kids m=some (k,r)
 |t::ts,m+1,0,r,hk,hm,hn,hr=>by
  rw[resL]
  simp only[List.getElem_cons_zero] at hr
  rw[hr]
 |t::ts,m+1,k+1,r,hk,hm,hn,hr=>by
  have h0:=hn 0 (by simp) (by omega)
  simp only[List.getElem_cons_zero] at h0
  rw[resL,h0]
  have ih:=resL_some (kids:=ts) (m:=m) (k:=k) (r:=r) (by simpa using hk) (by omega) (fun j h hj=>by
   have:=hn (j+1) (by simpa using h) (by omega)
   simpa using this) (by simpa using hr)
  simp only[ih]
theorem resL_none:∀{kids:List Tree}{m:Nat},(∀j(h:j<kids.length),j<m→resT kids[j]=none)→resL kids m=none
 |[],_,_=>by rw[resL]
 |t::ts,0,_=>by rw[resL]
 |t::ts,m+1,hn=>by
  have h0:=hn 0 (by simp) (by omega)
  simp only[List.getElem_cons_zero] at h0
  rw[resL,h0]
  have ih:=resL_none (kids:=ts) (m:=m) (fun j h hj=>by
   have:=hn (j+1) (by simpa using h) (by omega)
   simpa using this)
  simp only[ih]
theorem resL_inv:∀{kids:List Tree}{m i:Nat}{r:Tree×Tree×Tree},resL kids m=some (i,r)→∃h:i<kids.length,resT kids[i]=some r
 |[],m,i,r,h=>by rw[resL] at h;cases h
 |t::ts,0,i,r,h=>by rw[resL] at h;cases h
 |t::ts,m+1,i,r,h=>by
  rw[resL] at h
  cases h1:resT t with
  |some r'=>
   rw[h1] at h
   cases h
   exact⟨by simp,h1⟩
  |none=>
   rw[h1] at h
   simp only at h
   cases h2:resL ts m with
   |none=>rw[h2] at h;cases h
   |some p=>
    obtain⟨i',r'⟩:=p
    rw[h2] at h
    cases h
    obtain⟨hi,hr⟩:=resL_inv h2
    exact⟨by simpa using hi,by simpa using hr⟩
theorem resL_one{kids:List Tree}{m:Nat}{r:Nat×Tree×Tree×Tree}(h:resL kids m=some r):resL kids kids.length≠none:=by
 obtain⟨i,c⟩:=r
 obtain⟨hi,hr⟩:=resL_inv h
 intro h0
 have:∀(ts:List Tree)(i:Nat)(hi:i<ts.length),resL ts ts.length=none→resT ts[i]=none:=by
  intro ts
  induction ts with
  |nil=>intro i hi;exact absurd hi (Nat.not_lt_zero i)
  |cons t ts ih=>
   intro i hi h0
   rw[show(t::ts).length=ts.length+1 from rfl,resL] at h0
   cases h1:resT t with
   |some r'=>rw[h1] at h0;cases h0
   |none=>
    rw[h1] at h0
    simp only at h0
    cases h2:resL ts ts.length with
    |some p=>rw[h2] at h0;cases h0
    |none=>
     cases i with
     |zero=>exact h1
     |succ i=>exact ih i (by simpa using hi) h2
 rw[this kids i hi h0] at hr
 cases hr
theorem varsL_get:∀{ts:List Tree}{i:Nat}(h:i<ts.length){x:ByteArray},x∈varsT ts[i]→x∈varsL ts
 |t::ts,0,h,x,hx=>by rw[varsL];exact List.mem_append_left _ hx
 |t::ts,i+1,h,x,hx=>by rw[varsL];exact List.mem_append_right _ (varsL_get (by simpa using h) (by simpa using hx))
theorem varsL_set:∀{ts:List Tree}{i:Nat}{u:Tree}{x:ByteArray},x∈varsL (ts.set i u)→x∈varsT u∨x∈varsL ts
 |[],i,u,x,h=>by rw[List.set_nil] at h;exact .inr h
 |t::ts,0,u,x,h=>by
  rw[List.set_cons_zero,varsL] at h
  rw[varsL]
  rcases List.mem_append.1 h with h|h
  ·exact .inl h
  ·exact .inr (List.mem_append_right _ h)
 |t::ts,i+1,u,x,h=>by
  rw[List.set_cons_succ,varsL] at h
  rw[varsL]
  rcases List.mem_append.1 h with h|h
  ·exact .inr (List.mem_append_left _ h)
  ·rcases varsL_set h with h|h
   ·exact .inl h
   ·exact .inr (List.mem_append_right _ h)
theorem varsL_getD{ts:List Tree}{i:Nat}{x:ByteArray}(h:x∈varsT (ts.getD i noT)):x∈varsL ts:=by
 by_cases hi:i<ts.length
 ·rw[List.getD_eq_getElem?_getD,List.getElem?_eq_getElem hi] at h
  exact varsL_get hi h
 ·rw[List.getD_eq_getElem?_getD,List.getElem?_eq_none (by omega)] at h
  simp[noT,varsT,varsL] at h
theorem vars_neg{t:Tree}{x:ByteArray}:x∈varsT (negT t)↔x∈varsT t:=by
 unfold negT
 rw[varsT]
 simp[varsL]
theorem vars_sub{t u:Tree}{x:ByteArray}:x∈varsT (subT t u)↔x∈varsT t∨x∈varsT u:=by
 unfold subT
 rw[varsT]
 simp[varsL]
theorem res_vars:∀(t:Tree){c y n:Tree},goodT t→resT t=some (c,y,n)→∀x,(x∈varsT c∨x∈varsT y∨x∈varsT n)→x∈varsT t
 | .node op arg s N D name kids,c,y,n,hg,h,x,hx=>by
   obtain⟨g1,g2,g3⟩:=hg
   rw[resT] at h
   cases hl:resL kids (if op=15 then 1 else kids.length) with
   |some p=>
    obtain⟨i,c',y',n'⟩:=p
    rw[hl] at h
    cases h
    obtain⟨hi,hr⟩:=resL_inv hl
    have hop:op≠2:=fun h2=>by have:=g2 h2;omega
    have hk:=res_vars kids[i] (goodL_get g3 i hi) hr x
    rw[varsT,if_neg hop]
    rw[varsT,if_neg hop,varsT,if_neg hop] at hx
    rcases hx with hx|hx|hx
    ·exact varsL_get hi (hk (.inl hx))
    ·rcases varsL_set hx with hx|hx
     ·exact varsL_get hi (hk (.inr (.inl hx)))
     ·exact hx
    ·rcases varsL_set hx with hx|hx
     ·exact varsL_get hi (hk (.inr (.inr hx)))
     ·exact hx
   |none=>
    rw[hl] at h
    simp only at h
    by_cases h12:op=12
    ·rw[if_pos h12] at h
     cases h
     rw[varsT,if_neg (by omega)]
     rcases hx with hx|hx|hx
     ·exact varsL_getD hx
     ·exact varsL_getD hx
     ·exact varsL_getD (vars_neg.1 hx)
    rw[if_neg h12] at h
    by_cases h13:op=13
    ·rw[if_pos h13] at h
     cases h
     rw[varsT,if_neg (by omega)]
     rcases hx with hx|hx|hx
     ·rcases vars_sub.1 hx with hx|hx<;>exact varsL_getD hx
     ·exact varsL_getD hx
     ·exact varsL_getD hx
    rw[if_neg h13] at h
    by_cases h14:op=14
    ·rw[if_pos h14] at h
     cases h
     rw[varsT,if_neg (by omega)]
     rcases hx with hx|hx|hx
     ·rcases vars_sub.1 hx with hx|hx<;>exact varsL_getD hx
     ·exact varsL_getD hx
     ·exact varsL_getD hx
    rw[if_neg h14] at h
    by_cases h15:op=15
    ·rw[if_pos h15] at h
     cases h
     rw[varsT,if_neg (by omega)]
     rcases hx with hx|hx|hx<;>exact varsL_getD hx
    rw[if_neg h15] at h
    cases h
termination_by t=>SizeOf.sizeOf t
decreasing_by
 have:=List.sizeOf_lt_of_mem (List.getElem_mem hi)
 simp
 omega
mutual
def smoothT:Tree→Bool
 | .node op _ _ _ _ _ kids=> !(decide (12≤op)&&decide (op≤15))&&smoothL kids
def smoothL:List Tree→Bool
 |[]=>true
 |t::ts=>smoothT t&&smoothL ts
end
mutual
theorem res_smooth:∀(t:Tree),smoothT t=(resT t).isNone
 | .node op arg s N D name kids=>by
   rw[smoothT,resT,resl_smooth kids]
   cases hl:resL kids kids.length with
   |none=>
    have hm:resL kids (if op=15 then 1 else kids.length)=none:=by
     cases h1:resL kids (if op=15 then 1 else kids.length) with
     |none=>rfl
     |some r=>exact absurd hl (resL_one h1)
    rw[hm]
    simp only[Option.isNone_none,Bool.and_true]
    by_cases h12:op=12
    ·subst h12;simp
    rw[if_neg h12]
    by_cases h13:op=13
    ·subst h13;simp
    rw[if_neg h13]
    by_cases h14:op=14
    ·subst h14;simp
    rw[if_neg h14]
    by_cases h15:op=15
    ·subst h15;simp
    rw[if_neg h15]
    have:(decide (12≤op)&&decide (op≤15))=false:=by
     simp only[Bool.and_eq_false_iff,decide_eq_false_iff_not]
     omega
    rw[this]
    rfl
   |some r=>
    simp only[Option.isNone_some,Bool.and_false]
    cases h1:resL kids (if op=15 then 1 else kids.length) with
    |some p=>obtain⟨i,c,y,n⟩:=p;rfl
    |none=>
     by_cases h15:op=15
     ·subst h15;simp
     ·rw[if_neg h15,hl] at h1
      cases h1
theorem resl_smooth:∀(ts:List Tree),smoothL ts=(resL ts ts.length).isNone
 |[]=>by rw[smoothL,resL];rfl
 |t::ts=>by
  rw[smoothL,show(t::ts).length=ts.length+1 from rfl,resL,res_smooth t,resl_smooth ts]
  cases resT t with
  |some r=>rfl
  |none=>
   simp only[Option.isNone_none,Bool.true_and]
   cases resL ts ts.length with
   |none=>rfl
   |some p=>rfl
end
end
section
open Go Go.RowKit Go.Dig
def cD(N D:Nat):Nat:=if rD N D=1 then 0 else rD N D
theorem dn_cD(N D:Nat):dn (cD N D)=rD N D:=by
 unfold cD dn
 have h:=rD_pos N D
 split<;>split<;>omega
theorem r_cop(N D:Nat):Nat.gcd (rN N D) (rD N D)=1:=by
 unfold rN rD
 exact Nat.gcd_div_gcd_div_gcd_of_pos_right (dn_pos D)
theorem rN_can(N D:Nat):rN (rN N D) (cD N D)=rN N D:=by
 rw[rN,dn_cD,r_cop,Nat.div_one]
theorem rD_can(N D:Nat):rD (rN N D) (cD N D)=rD N D:=by
 rw[rD,dn_cD,r_cop,Nat.div_one]
theorem small_can{N D:Nat}(h:small N D=true):small (rN N D) (cD N D)=true:=by
 unfold small at h⊢
 rw[rN_can,rD_can]
 simp only[Bool.and_eq_true,decide_eq_true_eq] at h⊢
 obtain⟨⟨-,h3⟩,h4⟩:=h
 have h5:=h3
 have h6:=h4
 unfold fits32 at h5 h6
 have h7:=of_decide_eq_true h5
 have h8:=of_decide_eq_true h6
 have h9:pwr 2 2048≤pwr 2 8192:=pwr_le _ _ (by decide)
 refine⟨⟨⟨Nat.lt_of_lt_of_le h7 h9,?_⟩,h3⟩,h4⟩
 unfold cD
 split
 ·exact pwr_pos _
 ·exact Nat.lt_of_lt_of_le h8 h9
mutual
def canT:Tree→Tree
 | .node op arg _ N D name kids=>.node op arg false (if op=1 then rN N D else 0) (if op=1 then cD N D else 0) name (canTs kids)
def canTs:List Tree→List Tree
 |[]=>[]
 |t::ts=>canT t::canTs ts
end
theorem canTs_map:∀(ts:List Tree),canTs ts=ts.map canT
 |[]=>by rw[canTs];rfl
 |t::ts=>by rw[canTs,canTs_map ts];rfl
theorem canTs_length(ts:List Tree):(canTs ts).length=ts.length:=by rw[canTs_map,List.length_map]
theorem nodeOk_can{op arg:Int}{s:Bool}{N D:Nat}{name:ByteArray}{n:Nat}(h:nodeOk op arg s N D name n=true):
 nodeOk op arg false (if op=1 then rN N D else 0) (if op=1 then cD N D else 0) name n=true:=by
 unfold nodeOk at h⊢
 simp only[Bool.and_eq_true] at h⊢
 refine⟨h.1,?_⟩
 have h2:=h.2
 by_cases h1:op=1
 ·simp only[if_pos h1,Bool.and_eq_true] at h2⊢
  exact⟨⟨small_can h2.1.1,by simp⟩,h2.2⟩
 ·simp only[if_neg h1,Bool.and_eq_true] at h2⊢
  exact⟨by simp,h2.2⟩
mutual
theorem cnt_can:∀(t:Tree)(d m:Nat),wellT t→cnt (canT t) d m=cnt t d m
 | .node op arg s N D name kids,d,m=>by
   intro h
   obtain⟨h1,h2⟩:=h
   rw[canT,cnt,cnt,canTs_length,nodeOk_can h1,h1,cnts_can kids (d+1) (m+1) h2]
theorem cnts_can:∀(ts:List Tree)(d m:Nat),wellTs ts→cnts (canTs ts) d m=cnts ts d m
 |[],d,m=>by intro _;rw[canTs]
 |t::ts,d,m=>by
  intro h
  rw[canTs,cnts,cnts,cnt_can t d m h.1]
  cases cnt t d m with
  |none=>rfl
  |some m'=>exact cnts_can ts d m' h.2
end
theorem can_ok{t:Tree}(h:t.ok=true):(canT t).ok=true:=by
 have hw:=well_of_ok h
 unfold Tree.ok at h⊢
 rw[cnt_can t 1 0 hw]
 exact h
theorem neg_ok(t:Tree)(h:wellT t):(negT (canT t)).ok=(negT t).ok:=by
 unfold Tree.ok negT
 rw[cnt,cnt,cnts,cnts,cnt_can t _ _ h]
 rfl
mutual
theorem vars_can:∀(t:Tree),varsT (canT t)=varsT t
 | .node op arg s N D name kids=>by rw[canT,varsT,varsT,varsL_can kids]
theorem varsL_can:∀(ts:List Tree),varsL (canTs ts)=varsL ts
 |[]=>by rw[canTs]
 |t::ts=>by rw[canTs,varsL,varsL,vars_can t,varsL_can ts]
end
theorem sameR_can{s:Bool}{N D:Nat}(h:(s&&decide (0<N))=false):sameR false (rN N D) (cD N D) s N D=true:=by
 unfold sameR
 rw[rN_can,rD_can,h,Bool.false_and,qcmp_sg,Int.sub_self]
 rfl
mutual
theorem sameT_can:∀(t:Tree),wellT t→sameT (canT t) t=true
 | .node op arg s N D name kids=>by
   intro h
   obtain⟨h1,h2⟩:=h
   rw[canT,sameT,canTs_length,sameTs_can kids h2]
   have h3:sameR false (if op=1 then rN N D else 0) (if op=1 then cD N D else 0) s N D=true:=by
    unfold nodeOk at h1
    simp only[Bool.and_eq_true] at h1
    have h4:=h1.2
    by_cases h5:op=1
    ·simp only[if_pos h5,Bool.and_eq_true] at h4⊢
     have h6:=h4.1.2
     exact sameR_can (by rcases Bool.eq_false_or_eq_true (s&&decide (0<N)) with h7|h7<;>rw[h7] at h6⊢;cases h6)
    ·simp only[if_neg h5,Bool.and_eq_true,decide_eq_true_eq] at h4⊢
     obtain rfl:=h4.1
     unfold sameR
     rw[rN_zero,rN_zero,rD_zero,rD_zero]
     simp only[Nat.lt_irrefl,decide_false,Bool.and_false]
     rw[qcmp_sg,Int.sub_self]
     rfl
   rw[h3]
   simp
theorem sameTs_can:∀(ts:List Tree),wellTs ts→sameTs (canTs ts) ts=true
 |[]=>by intro _;rw[canTs,sameTs]
 |t::ts=>by
  intro h
  rw[canTs,sameTs,sameT_can t h.1,sameTs_can ts h.2]
  rfl
end
end
section
open Go Go.RowKit Go.Dig Go.Deep
open Go.Eng (Kept KW KeptB wp_region_kw kw_call)
def nxt(S:Nat→Bool)(n:Nat):Nat→Bool:=fun b=>S b||decide (n≤b)
theorem nxt_old{S:Nat→Bool}{n b:Nat}(h:S b=true):nxt S n b=true:=by unfold nxt;rw[h];rfl
theorem nxt_new{S:Nat→Bool}{n b:Nat}(h:n≤b):nxt S n b=true:=by unfold nxt;simp[h]
theorem only_nxt{w w':World}{S:Nat→Bool}{n:Nat}(k:Kept w w'):Sub (onlyW w S) (onlyW w' (nxt S n)):=only_move fun b hb hs=>⟨nxt_old hs,k.old b hb⟩
theorem rt_zero(W:World):Rt W (.agg #[.bool false,.slice none 0 0,.slice none 0 0]) false 0 0:=
 ⟨_,_,rfl,⟨none,0,0,fun _=>0,rfl,Nat.le_refl _,by omega,fun i h=>absurd h (Nat.not_lt_zero i),rfl,fun i h=>absurd h (Nat.not_lt_zero i)⟩,⟨none,0,0,fun _=>0,rfl,Nat.le_refl _,by omega,fun i h=>absurd h (Nat.not_lt_zero i),rfl,fun i h=>absurd h (Nat.not_lt_zero i)⟩⟩
theorem rows_one{α:Type}{R:List Value→α→Prop}{sz:Nat}{l:List Value}{t:α}(hl:l.length=sz)(hr:R l t):RowsIs R sz l [t]:=by
 have h:=(RowsIs.nil R sz).snoc hl hr
 simpa using h
theorem rows_two{α:Type}{R:List Value→α→Prop}{sz:Nat}{l l':List Value}{t t':α}(hl:l.length=sz)(hr:R l t)(hl':l'.length=sz)(hr':R l' t'):RowsIs R sz (l++l') [t,t']:=by
 have h:=(rows_one hl hr).snoc hl' hr'
 simpa using h
theorem Ex.blk{W:World}{f b:Nat}{op arg:Int}{cs:List Value}{kids:List Tree}{t:TypeId}{w':World}{S:Nat→Bool}(hW:W=onlyW w' S)(hs:S b=true)(hb:Blk w' b cs.toArray t)
 (hk:RowsIs (fun l t=>Ex W f (.agg l.toArray) t) 7 cs kids)(hn:kids.length<1000):
 Ex W (f+1) (.agg #[.int .i64 op,.int .i64 arg,.bool false,.slice none 0 0,.slice none 0 0,.string ⟨#[]⟩,.slice (some ⟨b,0,none⟩) kids.length kids.length]) (.node op arg false 0 0 ⟨#[]⟩ kids):=by
 refine Ex.mk (Nat.le_refl _) (rt_zero W) (by omega) (fun i hi=>⟨b,rfl,?_⟩) hk
 subst hW
 rw[cell_only,if_pos hs,List.getElem?_eq_getElem hi]
 exact hb.cell i (by simp[hi])
theorem al1{w W:World}{A:Array Value}{t:TypeId}(h:w.alloc (.cells A t)=W):Blk W w.heap.size A t∧Kept w W∧W.heap.size=w.heap.size+1:=by
 subst h
 exact⟨Blk.new ..,(Kept.refl _).alloc _,Array.size_push _⟩
theorem al2{w W:World}{A B:Array Value}{t u:TypeId}(h:(w.alloc (.cells A t)).alloc (.cells B u)=W):Blk W w.heap.size A t∧Blk W (w.heap.size+1) B u∧Kept w W∧W.heap.size=w.heap.size+2:=by
 obtain⟨h1,h2,h3⟩:=al1 (W:=w.alloc (.cells A t)) rfl
 obtain⟨g1,g2,g3⟩:=al1 h
 rw[h3] at g1 g3
 exact⟨h1.kept g2,g1,h2.trans g2,g3⟩
theorem al3{w W:World}{A B C:Array Value}{t u v:TypeId}(h:((w.alloc (.cells A t)).alloc (.cells B u)).alloc (.cells C v)=W):
 Blk W w.heap.size A t∧Blk W (w.heap.size+1) B u∧Blk W (w.heap.size+1+1) C v∧Kept w W∧W.heap.size=w.heap.size+3:=by
 obtain⟨h1,h2,h3,h4⟩:=al2 (W:=(w.alloc (.cells A t)).alloc (.cells B u)) rfl
 obtain⟨g1,g2,g3⟩:=al1 h
 rw[h4] at g1 g3
 exact⟨h1.kept g2,h2.kept g2,g1,h3.trans g2,g3⟩
theorem al4{w W:World}{A B C D:Array Value}{t u v x:TypeId}(h:(((w.alloc (.cells A t)).alloc (.cells B u)).alloc (.cells C v)).alloc (.cells D x)=W):
 Blk W w.heap.size A t∧Blk W (w.heap.size+1) B u∧Blk W (w.heap.size+1+1) C v∧Blk W (w.heap.size+1+1+1) D x∧Kept w W∧W.heap.size=w.heap.size+4:=by
 obtain⟨h1,h2,h3,h4,h5⟩:=al3 (W:=((w.alloc (.cells A t)).alloc (.cells B u)).alloc (.cells C v)) rfl
 obtain⟨g1,g2,g3⟩:=al1 h
 rw[h5] at g1 g3
 exact⟨h1.kept g2,h2.kept g2,h3.kept g2,g1,h4.trans g2,g3⟩
theorem al2k{w w5:World}{A B:Array Value}{t u:TypeId}(k:Kept ((w.alloc (.cells A t)).alloc (.cells B u)) w5):Blk w5 w.heap.size A t∧Blk w5 (w.heap.size+1) B u∧Kept w w5∧w.heap.size+2≤w5.heap.size:=by
 obtain⟨h1,h2,h3,h4⟩:=al2 (w:=w) (A:=A) (t:=t) (B:=B) (u:=u) rfl
 exact⟨h1.kept k,h2.kept k,h3.trans k,by have:=k.size;omega⟩
theorem al3k{w w5:World}{A B C:Array Value}{t u v:TypeId}(k:Kept (((w.alloc (.cells A t)).alloc (.cells B u)).alloc (.cells C v)) w5):
 Blk w5 w.heap.size A t∧Blk w5 (w.heap.size+1) B u∧Blk w5 (w.heap.size+1+1) C v∧Kept w w5∧w.heap.size+3≤w5.heap.size:=by
 obtain⟨h1,h2,h3,h4,h5⟩:=al3 (w:=w) (A:=A) (t:=t) (B:=B) (u:=u) (C:=C) (v:=v) rfl
 exact⟨h1.kept k,h2.kept k,h3.kept k,h4.trans k,by have:=k.size;omega⟩
set_option maxHeartbeats 4000000
set_option maxRecDepth 100000
theorem node_calls'(w:World)(op arg:Int)(a:Option Addr)(n cap:Nat):
 Calls Tryz.prog 250 #[.int .i64 op,.int .i64 arg,.slice a n cap] w fun e w'=>e= .returned (.agg #[.int .i64 op,.int .i64 arg,.bool false,.slice none 0 0,.slice none 0 0,.string ⟨#[]⟩,.slice a n cap])∧Kept w w':=by
 obtain⟨k0,k1,k2,k3,k4,k5,k6,-⟩:=(Blk.new w #[.int .i64 op,.int .i64 arg,.bool false,.slice none 0 0,.slice none 0 0,.string ⟨#[]⟩,.slice a n cap] 27).facts7
 go_enter Tryz.func250,Tryz.ntmps250
 go_wp2
 exact bodyPost_ret (v:=.agg #[.int .i64 op,.int .i64 arg,.bool false,.slice none 0 0,.slice none 0 0,.string ⟨#[]⟩,.slice a n cap]) (by simp[results,Tryz.results250,go_sem,k0,k1,k2,k3,k4,k5,k6]) rfl ⟨rfl,(Kept.refl w).alloc _⟩
theorem rone_calls{w:World}{S:Nat→Bool}{f:Nat}{v:Value}{t:Tree}(h:Ex (onlyW w S) f v t)(op arg:Int):
 Calls Tryz.prog 253 #[.int .i64 op,.int .i64 arg,v] w fun e w'=>∃v',e= .returned v'∧Ex (onlyW w' (nxt S w.heap.size)) (f+1) v' (.node op arg false 0 0 ⟨#[]⟩ [t])∧Kept w w':=by
 obtain⟨o,g,z,x1,x2,x3,x4,x5,x6,nm,a,n,cap,rfl⟩:=h.agg7
 have H:=Lib.hid h;clear h
 go_enter Tryz.func253,Tryz.ntmps253
 go_wp2
 generalize hW:World.alloc (World.alloc (World.alloc w _) _) _=W
 obtain⟨-,hB,hC,hk,-⟩:=al3 hW
 obtain⟨k0,k1,k2,k3,k4,k5,k6,-⟩:=hB.facts7
 exact bodyPost_ret (v:=.agg #[.int .i64 op,.int .i64 arg,.bool false,.slice none 0 0,.slice none 0 0,.string ⟨#[]⟩,.slice (some ⟨w.heap.size+1+1,0,none⟩) 1 1]) (by simp[results,Tryz.results253,go_sem,k0,k1,k2,k3,k4,k5,k6]) rfl
  ⟨_,rfl,Ex.blk (cs:=[.int .i64 o,.int .i64 g,.bool z,.slice x1 x2 x3,.slice x4 x5 x6,.string nm,.slice a n cap]) rfl (nxt_new (by omega)) hC (rows_one rfl (H.out.sub (only_nxt hk))) (by simp),hk⟩
theorem rtwo_calls{w:World}{S:Nat→Bool}{f:Nat}{v v2:Value}{t t2:Tree}(h:Ex (onlyW w S) f v t)(h2:Ex (onlyW w S) f v2 t2)(op:Int):
 Calls Tryz.prog 259 #[.int .i64 op,v,v2] w fun e w'=>∃v',e= .returned v'∧Ex (onlyW w' (nxt S w.heap.size)) (f+1) v' (.node op 0 false 0 0 ⟨#[]⟩ [t,t2])∧Kept w w':=by
 obtain⟨o,g,z,x1,x2,x3,x4,x5,x6,nm,a,n,cap,rfl⟩:=h.agg7
 obtain⟨o',g',z',y1,y2,y3,y4,y5,y6,nm',a',n',cap',rfl⟩:=h2.agg7
 have H:=Lib.hid h;clear h
 have H2:=Lib.hid h2;clear h2
 go_enter Tryz.func259,Tryz.ntmps259
 go_wp2
 generalize hW:World.alloc (World.alloc (World.alloc (World.alloc w _) _) _) _=W
 obtain⟨-,-,hB,hC,hk,-⟩:=al4 hW
 obtain⟨k0,k1,k2,k3,k4,k5,k6,-⟩:=hB.facts7
 exact bodyPost_ret (v:=.agg #[.int .i64 op,.int .i64 0,.bool false,.slice none 0 0,.slice none 0 0,.string ⟨#[]⟩,.slice (some ⟨w.heap.size+1+1+1,0,none⟩) 2 2]) (by simp[results,Tryz.results259,go_sem,k0,k1,k2,k3,k4,k5,k6]) rfl
  ⟨_,rfl,Ex.blk (cs:=[.int .i64 o,.int .i64 g,.bool z,.slice x1 x2 x3,.slice x4 x5 x6,.string nm,.slice a n cap]++[.int .i64 o',.int .i64 g',.bool z',.slice y1 y2 y3,.slice y4 y5 y6,.string nm',.slice a' n' cap']) rfl (nxt_new (by omega)) hC
    (rows_two rfl (H.out.sub (only_nxt hk)) rfl (H2.out.sub (only_nxt hk))) (by simp),hk⟩
theorem rfits4_calls{f:Nat}{w:World}{v:Value}{t:Tree}(h:Ex w f v t)(hT:Laid w):
 Calls Tryz.prog 122 #[v] w fun e w'=>e= .returned (.bool t.ok)∧Kept w w':=by
 have hh:=h
 have hc:Hid (t.ok=(cnt t 1 0).isSome):=Lib.hid rfl
 cases f with
 |zero=>exact h.elim
 |succ f=>
 cases t with
 |node op arg s N D name kids=>
  obtain⟨x1,x2,x3,x4,x5,x6,a,cap,rfl,hcp,hn,hr⟩:=h.shape
  clear h hr
  have hk:Kept w (w.alloc (.cells #[.int .i64 op,.int .i64 arg,.bool s,.slice x1 x2 x3,.slice x4 x5 x6,.string name,.slice a kids.length cap] 27)):=(Kept.refl w).alloc _
  have hcl:=walk_calls (f+1) (hh.kept hk) (hT.kept hk) 1 0 (by omega) (by omega)
  clear hh
  generalize hy:Tree.node op arg s N D name kids=y at*
  cases hcn:cnt y 1 0 with
  |none=>
   rw[hcn] at hc hcl
   go_enter Tryz.func122,Tryz.ntmps122
   go_wp2_with(first|(go_at_call 144;refine hcl.mono ?_;rintro e wa ⟨rfl,hka⟩))
   go_ret
   exact⟨by rw[hc.out];rfl,hk.trans hka⟩
  |some m=>
   rw[hcn] at hc hcl
   have hm:=(cnt_le _ _ _ _ hcn).2
   have e2:wres (some m)=300-(m:Int):=rfl
   rw[e2] at hcl
   clear e2
   have t:decide ((m:Int)≤300)=true:=by simp;omega
   go_enter Tryz.func122,Tryz.ntmps122
   go_wp2_with(first|(go_at_call 144;refine hcl.mono ?_;rintro e wa ⟨rfl,hka⟩))
   go_ret
   exact⟨by rw[hc.out];rfl,hk.trans hka⟩
theorem rfit_calls{f:Nat}{w:World}{v:Value}{t:Tree}(h:Ex w f v t)(hT:Laid w):
 Calls Tryz.prog 165 #[v] w fun e w'=>e= .returned (.bool t.ok)∧Kept w w':=by
 have hf:=fun(w':World)(k:Kept w w')=>rfits4_calls (h.kept k) (hT.kept k)
 obtain⟨o,g,z,x1,x2,x3,x4,x5,x6,nm,a,n,cap,rfl⟩:=h.agg7
 have hk:Kept w (w.alloc (.cells #[.int .i64 o,.int .i64 g,.bool z,.slice x1 x2 x3,.slice x4 x5 x6,.string nm,.slice a n cap] 27)):=(Kept.refl w).alloc _
 have hg:=hf _ hk
 clear h hf
 go_enter Tryz.func165,Tryz.ntmps165
 go_wp2_with(first|(go_at_call 122;refine hg.mono ?_;rintro e wa ⟨rfl,hka⟩))
 go_ret
 exact⟨rfl,hk.trans hka⟩
end
section
open Go Go.RowKit Go.Dig Go.Deep
open Go.Eng (Kept KW KeptB wp_region_kw kw_call)
def Kd(W:World)(f:Nat)(a:Option Addr)(l:List Tree):Prop:=∀(i:Nat)(h:i<l.length),∃(b off:Nat)(cs:List Value),a=some ⟨b,off,none⟩∧cs.length=7∧(∀u∈cs,u.oneCell'=true)∧
 (∀j u,cs[j]? =some u→W.cell? ⟨b,off+7*i+j,none⟩=some u)∧Ex W f (.agg cs.toArray) l[i]
theorem Ex.kd{W:World}{f:Nat}{op arg:Int}{s:Bool}{N D:Nat}{name:ByteArray}{kids:List Tree}{y1 y2 y3 y4 y5 name':Value}{a:Option Addr}{n cap:Nat}
 (h:Ex W (f+1) (.agg #[y1,y2,y3,y4,y5,name',.slice a n cap]) (.node op arg s N D name kids)):Kd W f a kids:=by
 intro i hi
 obtain⟨b,off,o,g,z,x1,x2,x3,x4,x5,x6,nm,a',n',cap',ha,c0,c1,c2,c3,c4,c5,c6,hex⟩:=h.kid hi
 refine⟨b,off,[.int .i64 o,.int .i64 g,.bool z,.slice x1 x2 x3,.slice x4 x5 x6,.string nm,.slice a' n' cap'],ha,rfl,?_,?_,hex⟩
 ·intro u hu
  simp only[List.mem_cons,List.mem_nil_iff,or_false] at hu
  rcases hu with rfl|rfl|rfl|rfl|rfl|rfl|rfl<;>rfl
 ·intro j u hu
  have hj:=(List.getElem?_eq_some_iff.1 hu).1
  rw[Nat.mul_comm 7 i]
  match j,hj with
  |0,_=>cases hu;exact c0
  |1,_=>cases hu;exact c1
  |2,_=>cases hu;exact c2
  |3,_=>cases hu;exact c3
  |4,_=>cases hu;exact c4
  |5,_=>cases hu;exact c5
  |6,_=>cases hu;exact c6
theorem Kd.sub{W W':World}{f:Nat}{a:Option Addr}{l:List Tree}(h:Kd W f a l)(k:Sub W W'):Kd W' f a l:=fun i hi=>by
 obtain⟨b,off,cs,ha,hl,h1,hc,he⟩:=h i hi
 exact⟨b,off,cs,ha,hl,h1,fun j u hu=>k _ _ (hc j u hu),he.sub k⟩
theorem Kd.take{W:World}{f:Nat}{a:Option Addr}{l:List Tree}(h:Kd W f a l)(k:Nat):Kd W f a (l.take k):=fun i hi=>by
 have hi':i<l.length:=by rw[List.length_take] at hi;omega
 obtain⟨b,off,cs,ha,hl,h1,hc,he⟩:=h i hi'
 exact⟨b,off,cs,ha,hl,h1,hc,by rw[List.getElem_take];exact he⟩
theorem Kd.drop{W:World}{f:Nat}{b off:Nat}{l:List Tree}(h:Kd W f (some ⟨b,off,none⟩) l)(k:Nat):Kd W f (some ⟨b,off+k*7,none⟩) (l.drop k):=fun i hi=>by
 have hi':k+i<l.length:=by rw[List.length_drop] at hi;omega
 obtain⟨b',off',cs,ha,hl,h1,hc,he⟩:=h (k+i) hi'
 cases ha
 refine⟨b,off+k*7,cs,rfl,hl,h1,fun j u hu=> ?_,by rw[List.getElem_drop];exact he⟩
 rw[←hc j u hu]
 congr 2
 omega
theorem Kd.cells{W:World}{f b off:Nat}{l:List Tree}(h:Kd W f (some ⟨b,off,none⟩) l):
 ∃cs:List Value,RowsIs (kidR f W) 7 cs l∧(∀(j:Nat)(u:Value),cs[j]? =some u→W.cell? ⟨b,off+j,none⟩=some u)∧∀u∈cs,u.oneCell'=true:=by
 have key:∀k,k≤l.length→∃cs:List Value,RowsIs (kidR f W) 7 cs (l.take k)∧(∀(j:Nat)(u:Value),cs[j]? =some u→W.cell? ⟨b,off+j,none⟩=some u)∧∀u∈cs,u.oneCell'=true:=by
  intro k
  induction k with
  |zero=>exact fun _=>⟨[],RowsIs.nil _ _,fun j u h=>by simp at h,fun u h=>by cases h⟩
  |succ k ih=>
   intro hk
   obtain⟨cs,h1,h2,h3⟩:=ih (by omega)
   obtain⟨b',off',c7,ha,hl7,ho7,hc7,he⟩:=h k (by omega)
   cases ha
   have hlen:cs.length=k*7:=by rw[h1.1,List.length_take];omega
   refine⟨cs++c7,h1.take_succ (by omega) hl7 he,?_,?_⟩
   ·intro j u hu
    by_cases hj:j<cs.length
    ·rw[List.getElem?_append_left hj] at hu
     exact h2 j u hu
    ·rw[List.getElem?_append_right (by omega)] at hu
     have h9:=hc7 _ u hu
     rw[←h9]
     congr 2
     omega
   ·intro u hu
    rcases List.mem_append.1 hu with hu|hu
    ·exact h3 u hu
    ·exact ho7 u hu
 obtain⟨cs,h1,h2,h3⟩:=key l.length (Nat.le_refl _)
 rw[List.take_length] at h1
 exact⟨cs,h1,h2,h3⟩
theorem append_kids{w V:World}{ops:Array Oper}{rest:List Oper}{o:Oper}{act:Act}{Q:Exit→Act→World→Prop}(hgd:o.guard=none)(s x:Operand)
 (ho:o.op= .call {callee:=.builtin .append,args:=#[s,x],argTypes:=#[25,25]})
 (w0:World)(hk:Kept w0 w)(v:Value)(n:Nat)(cs:List Value)(hs:act.eval s=v)(hown:w.ownsRow w0.heap.size 27 7 v n cs){f:Nat}{ts:List Tree}(hts:RowsIs (kidR f V) 7 cs ts)(hn:n≤1000)
 {a:Option Addr}{m c:Nat}{l:List Tree}(hx:act.eval x= .slice a m c)(hml:m=l.length)(hl:Kd V f a l)(hV:Sub V w)(hm:m≤1000)
 (h:∀a' cap' cs' w',w'.ownsRow w0.heap.size 27 7 (.slice a' (n+m) cap') (n+m) cs'→RowsIs (kidR f V) 7 cs' (ts++l)→Kept w0 w'→wpList Tryz.prog ops Q rest (act.put o.dst (.slice a' (n+m) cap')) w'):
 wpList Tryz.prog ops Q (o::rest) act w:=by
 subst hml
 rcases Nat.eq_zero_or_pos l.length with h0|h0
 ·have hl0:l=[]:=List.eq_nil_of_length_eq_zero h0
  subst hl0
  obtain⟨a',cap',rfl,hcap,-,-⟩:=own_open hown
  refine wpList_append_nothing hgd s x 25 ho info27 Tryz.underlying25 a' n cap' c a hs hcap hx (h a' cap' cs w ?_ ?_ hk)
  ·simpa using hown
  ·simpa using hts
 ·obtain⟨b,off,-,rfl,-⟩:=hl 0 h0
  obtain⟨cs',h1,h2,h3⟩:=hl.cells
  refine wpList_append_kept hgd s x 25 ho info27 Tryz.underlying25 rfl (by decide) (by decide) w0 hk v n cs hs hown ⟨b,off,none⟩ l.length c cs' hx h1.1 (fun j u hu=>by rw[add0];exact hV _ _ (h2 j u hu)) h3 (by omega) ?_
  intro v' w' g1 g2
  obtain⟨a',cap',rfl,-,-,-⟩:=own_open g1
  exact h a' cap' _ w' g1 (hts.append h1) g2
theorem Ex.row{W w':World}{S:Nat→Bool}{f base:Nat}{op arg:Int}{s:Bool}{N D:Nat}{name:ByteArray}{kids:List Tree}{x1:Option Addr}{x2 x3:Nat}{x4:Option Addr}{x5 x6:Nat}{a:Option Addr}{n cap:Nat}{cs:List Value}
 (hW:W=onlyW w' S)(hS:∀b,base≤b→S b=true)(hr:Rt W (.agg #[.bool s,.slice x1 x2 x3,.slice x4 x5 x6]) s N D)(ho:w'.ownsRow base 27 7 (.slice a n cap) n cs)(hk:RowsIs (Go.Proofs.YtbapfnpbamnmpaaGreatDoor.kidR f W) 7 cs kids)(hn:n≤1000)(hl:n=kids.length):
 Ex W (f+1) (.agg #[.int .i64 op,.int .i64 arg,.bool s,.slice x1 x2 x3,.slice x4 x5 x6,.string name,.slice a n cap]) (.node op arg s N D name kids):=by
 subst hl
 obtain⟨a',cap',e,hc,-,hcell⟩:=own_open ho
 cases e
 refine Ex.mk hc hr (by omega) (fun i hi=> ?_) hk
 obtain⟨b,hb,ha,hcl⟩:=hcell i hi
 refine⟨b,ha,?_⟩
 subst hW
 rw[List.getElem?_eq_getElem hi] at hcl⊢
 rw[cell_only,if_pos (hS b hb)]
 exact hcl
set_option maxHeartbeats 4000000
set_option maxRecDepth 100000
theorem replaced_calls{w:World}{S:Nat→Bool}{f:Nat}{v k:Value}{op arg:Int}{s:Bool}{N D:Nat}{name:ByteArray}{kids:List Tree}{t:Tree}(h:Ex (onlyW w S) (f+1) v (.node op arg s N D name kids))(h2:Ex (onlyW w S) f k t)
 {i:Nat}(hi:i<kids.length)(hn3:kids.length≤3):
 Calls Tryz.prog 258 #[v,.int .i64 (i:Int),k] w fun e w'=>∃v',e= .returned v'∧Ex (onlyW w' (nxt S w.heap.size)) (f+1) v' (.node op arg s N D name (kids.set i t))∧Kept w w':=by
 obtain⟨o,g,z,y1,y2,y3,y4,y5,y6,nm,a0,n0,cap0,rfl⟩:=h2.agg7
 obtain⟨x1,x2,x3,x4,x5,x6,a,cap,rfl,hcp,hn,hr⟩:=h.shape
 have HKD:=Lib.hid h.kd
 have HK:=Lib.hid h2
 have HR:=Lib.hid hr
 obtain⟨b,off,-,rfl,-⟩:=HKD.out i hi
 clear h h2 hr
 have hml:i=(kids.take i).length:=by rw[List.length_take];omega
 have hml2:kids.length-(i+1)=(kids.drop (i+1)).length:=by rw[List.length_drop]
 have HKT:=Lib.hid (And.intro hml hml2)
 have HB:=Lib.hid (And.intro hi hn3)
 have HKQ:Hid (Kd (onlyW w S) f (if cap=i+1 then some ⟨b,off,none⟩ else some ⟨b,off+(i+1)*7,none⟩) (kids.drop (i+1))):=Lib.hid (by
  split
  ·exact fun j hj=>absurd hj (by rw[List.length_drop];omega)
  ·exact HKD.out.drop (i+1))
 generalize hkl:kids.length=n at*
 have HKL:=Lib.hid hkl;clear hkl hml hml2
 go_enter Tryz.func258,Tryz.ntmps258
 go_wp2_with(first
  |(at_builtin;refine append_kids (V:=onlyW w S) (f:=f) (l:=kids.take i) (ts:=[]) rfl (.tmp 8) (.tmp 12) rfl _ (Kept.refl _) _ 0 [] rfl (World.ownsRow_nil _ _ _ _) (RowsIs.nil _ _) (by decide) rfl HKT.out.1 (HKD.out.take i) ((only_sub w S).trans (Kept.sub ((((Kept.refl w).alloc _).alloc _).alloc _))) (by omega) ?_;intro a5 cap5 cs5 w5 ho5 hr5 hk5
    rw[Nat.zero_add] at ho5
    have HO5:=Lib.hid ho5
    have HR5:=Lib.hid hr5
    obtain⟨hA5,hB5,hC5,hkw5,hsz5⟩:=al3k hk5
    have HS5:=Lib.hid (And.intro hC5 (And.intro hkw5 hsz5))
    have HK5:=Lib.hid hk5
    clear ho5 hr5
    obtain⟨e0,e1,e2,e3,e4,e5,e6,-⟩:=hA5.facts7
    obtain⟨d0,d1,d2,d3,d4,d5,d6,-⟩:=hB5.facts7)
  |(at_builtin;have hg:=HO5;refine wpList_append_kept rfl (.tmp 14) (.tmp 16) 25 rfl info27 Tryz.underlying25 rfl (by decide) (by decide) _ (HK5.out.alloc _) _ i cs5 rfl (own_kept HO5.out ((Kept.refl w5).alloc _)) ⟨w5.heap.size,0,none⟩ 1 1 [.int .i64 o,.int .i64 g,.bool z,.slice y1 y2 y3,.slice y4 y5 y6,.string nm,.slice a0 n0 cap0] rfl rfl (blk_news (Blk.new w5 #[.int .i64 o,.int .i64 g,.bool z,.slice y1 y2 y3,.slice y4 y5 y6,.string nm,.slice a0 n0 cap0] 27)) (by intro u hu;simp only[List.mem_cons,List.mem_nil_iff,or_false] at hu;rcases hu with rfl|rfl|rfl|rfl|rfl|rfl|rfl<;>rfl) (by omega) ?_;intro v6 w6 ho6 hk6;obtain⟨a6,cap6,rfl,-,-,-⟩:=own_open ho6
    have HO6:=Lib.hid ho6
    have HR6:=Lib.hid (RowsIs.snoc (t:=t) HR5.out (l:=[.int .i64 o,.int .i64 g,.bool z,.slice y1 y2 y3,.slice y4 y5 y6,.string nm,.slice a0 n0 cap0]) rfl HK.out)
    obtain⟨hA6,hB6,hC6,hkw6,hsz6⟩:=al3k hk6
    have HK6:=Lib.hid hk6
    clear ho6 e0 e1 e2 e3 e4 e5 e6 d0 d1 d2 d3 d4 d5 d6 hA5 hB5 hC5
    obtain⟨e0,e1,e2,e3,e4,e5,e6,-⟩:=hA6.facts7)
  |(at_builtin;have hg:=HO6
    refine append_kids (V:=onlyW w S) (f:=f) (l:=kids.drop (i+1)) rfl (.tmp 18) (.tmp 23) rfl _ HK6.out _ (i+1) _ rfl HO6.out HR6.out (by have:=HB.out;omega) rfl HKT.out.2 HKQ.out ((only_sub w S).trans (Kept.sub hkw6)) (by have:=HB.out;omega) ?_
    intro a7 cap7 cs7 w7 ho7 hr7 hk7
    have HO7:=Lib.hid ho7
    have HR7:=Lib.hid hr7
    obtain⟨hA7,hB7,hC7,hkw7,hsz7⟩:=al3k hk7
    have HK7:=Lib.hid hk7
    clear ho7 hr7 e0 e1 e2 e3 e4 e5 e6 hA6 hB6 hC6
    obtain⟨e0,e1,e2,e3,e4,e5,e6,-⟩:=hA7.facts7
    obtain⟨k0,k1,k2,k3,k4,k5,k6,j0,j1,j2,j3,j4,j5,j6⟩:=hC7.facts7))
 all_goals
  have hend:=KeptB.st7 w7 (w.heap.size+1+1) (.int .i64 op) (.int .i64 arg) (.bool s) (.slice x1 x2 x3) (.slice x4 x5 x6) (.string name) (.slice a7 (i+1+(n-(i+1))) cap7)
  have hkz:=hkw7.but hend (by omega)
  have hm:=only_move (w:=w) (w':=(((((((w7.setCell ⟨w.heap.size+1+1,0,none⟩ (.int .i64 op)).setCell ⟨w.heap.size+1+1,1,none⟩ (.int .i64 arg)).setCell ⟨w.heap.size+1+1,2,none⟩ (.bool s)).setCell ⟨w.heap.size+1+1,3,none⟩ (.slice x1 x2 x3)).setCell ⟨w.heap.size+1+1,4,none⟩ (.slice x4 x5 x6)).setCell ⟨w.heap.size+1+1,5,none⟩ (.string name)).setCell ⟨w.heap.size+1+1,6,none⟩ (.slice a7 (i+1+(n-(i+1))) cap7))) (S:=S) (S':=nxt S w.heap.size) fun b hb hs=>⟨nxt_old hs,hkz.old b hb⟩
  have hset:(kids.take i++[t])++kids.drop (i+1)=kids.set i t:=by
   rw[List.set_eq_take_append_cons_drop,if_pos (by have:=HKL.out;have:=HB.out;omega)]
   simp
  have hr7:=HR7.out
  rw[List.nil_append,hset] at hr7
  have hln:i+1+(n-(i+1))=n:=by have:=HB.out;omega
  refine bodyPost_ret (v:=.agg #[.int .i64 op,.int .i64 arg,.bool s,.slice x1 x2 x3,.slice x4 x5 x6,.string name,.slice a7 (i+1+(n-(i+1))) cap7]) (by simp[results,Tryz.results258,go_sem,k0,k1,k2,k3,k4,k5,k6]) rfl
   ⟨_,rfl,Ex.row (base:=w.heap.size+1+1+1) rfl (fun b hb=>nxt_new (by omega)) (HR.out.sub hm) (own_keptB (base:=w.heap.size+1+1+1) ?_ hend (by omega)) (hr7.mono (kidR_sub f _ _ hm)) (by omega) (by rw[List.length_set,HKL.out,hln]),hkz⟩
  have ho:=HO7.out
  simpa [go_sem] using ho
end
section
open Go Go.RowKit Go.Dig Go.Deep
open Go.Eng (Kept KW KeptB wp_region_kw kw_call)
theorem own_blk{w:World}{base e sz n:Nat}{a:Option Addr}{cap:Nat}{cs:List Value}(h:w.ownsRow base e sz (.slice a n cap) n cs)(hn:0<n):
 ∃(g:Nat)(cur:Array Value),a=some ⟨g,0,none⟩∧base≤g∧Blk w g cur e∧n≤cap∧cur.size=cap*sz∧cs.length=n*sz∧∀i,i<cs.length→cur[i]? =cs[i]? :=by
 obtain⟨hl,⟨hv,rfl⟩|⟨g,cap',cur,hv,hb,hg,hnc,_,hcs,ht⟩⟩:=h
 ·omega
 ·cases hv
  refine⟨g,cur,rfl,hb,hg,hnc,hcs,hl,fun i hi=> ?_⟩
  rw[←ht,List.getElem?_take,if_pos (by omega),Array.getElem?_toList]
theorem own_new{W:World}{n:Nat}(h:W.heap.size=n):(W.alloc (.cells #[] 27)).ownsRow W.heap.size 27 7 (.slice (some ⟨n,0,none⟩) 0 0) 0 []:=by
 subst h
 exact World.ownsRow_made W #[] 0 (Nat.le_refl _) (Nat.zero_le _) rfl
theorem row_seven{w:World}{g:Nat}{cur:Array Value}{e:TypeId}{cs:List Value}{k:Nat}(hb:Blk w g cur e)(hce:∀i,i<cs.length→cur[i]? =cs[i]?)(h:k+7≤cs.length):
 ∃z0 z1 z2 z3 z4 z5 z6:Value,w.cell? ⟨g,k,none⟩=some z0∧w.cell? ⟨g,k+1,none⟩=some z1∧w.cell? ⟨g,k+2,none⟩=some z2∧w.cell? ⟨g,k+3,none⟩=some z3∧w.cell? ⟨g,k+4,none⟩=some z4∧w.cell? ⟨g,k+5,none⟩=some z5∧w.cell? ⟨g,k+6,none⟩=some z6∧w.frozen? ⟨g,k,none⟩=false∧w.frozen? ⟨g,k+1,none⟩=false∧w.frozen? ⟨g,k+2,none⟩=false∧w.frozen? ⟨g,k+3,none⟩=false∧w.frozen? ⟨g,k+4,none⟩=false∧w.frozen? ⟨g,k+5,none⟩=false∧w.frozen? ⟨g,k+6,none⟩=false:=by
 have hx:∀j,j<7→∃z,w.cell? ⟨g,k+j,none⟩=some z:=fun j hj=>⟨_,hb.cell (k+j) (by rw[hce _ (by omega)];exact List.getElem?_eq_getElem (by omega))⟩
 obtain⟨z0,h0⟩:=hx 0 (by decide)
 obtain⟨z1,h1⟩:=hx 1 (by decide)
 obtain⟨z2,h2⟩:=hx 2 (by decide)
 obtain⟨z3,h3⟩:=hx 3 (by decide)
 obtain⟨z4,h4⟩:=hx 4 (by decide)
 obtain⟨z5,h5⟩:=hx 5 (by decide)
 obtain⟨z6,h6⟩:=hx 6 (by decide)
 exact⟨z0,z1,z2,z3,z4,z5,z6,h0,h1,h2,h3,h4,h5,h6,hb.frozen _,hb.frozen _,hb.frozen _,hb.frozen _,hb.frozen _,hb.frozen _,hb.frozen _⟩
theorem Ex.set_row{W:World}{f g i n cap:Nat}{op arg:Int}{s:Bool}{N D:Nat}{name:ByteArray}{kids:List Tree}{t:Tree}{x1:Option Addr}{x2 x3:Nat}{x4:Option Addr}{x5 x6:Nat}{cs l:List Value}
 (hr:Rt W (.agg #[.bool s,.slice x1 x2 x3,.slice x4 x5 x6]) s N D)(hrow:∀k v,(k<i*7∨i*7+7≤k)→cs[k]? =some v→W.cell? ⟨g,k,none⟩=some v)(hnew:∀j v,l[j]? =some v→W.cell? ⟨g,i*7+j,none⟩=some v)
 (hk:RowsIs (Go.Proofs.YtbapfnpbamnmpaaGreatDoor.kidR f W) 7 cs kids)(hl:l.length=7)(ht:Ex W f (.agg l.toArray) t)(hc:n≤cap)(hn:n≤3)(hkl:kids.length=n):
 Ex W (f+1) (.agg #[.int .i64 op,.int .i64 arg,.bool s,.slice x1 x2 x3,.slice x4 x5 x6,.string name,.slice (some ⟨g,0,none⟩) n cap]) (.node op arg s N D name (kids.set i t)):=by
 refine⟨x1,x2,x3,x4,x5,x6,some ⟨g,0,none⟩,cap,by rw[List.length_set,hkl],by rw[List.length_set];omega,hr,by rw[List.length_set];omega,fun k hk'=> ?_⟩
 rw[List.length_set] at hk'
 by_cases he:k=i
 ·subst he
  refine⟨g,0,l.toArray,rfl,by simpa using hl,fun j hj=> ?_,?_⟩
  ·have h1:=hnew j l[j] (List.getElem?_eq_getElem (by omega))
   rw[show 0+7*k+j=k*7+j by omega,h1]
   simp[show j<l.length by omega]
  ·rw[List.getElem_set_self]
   exact ht
 ·have h7:k*7+7≤cs.length:=by rw[hk.1];omega
  refine⟨g,0,((cs.drop (k*7)).take 7).toArray,rfl,by simp;omega,fun j hj=> ?_,?_⟩
  ·have h1:=hrow (k*7+j) cs[k*7+j] (by omega) (List.getElem?_eq_getElem (by omega))
   rw[show 0+7*k+j=k*7+j by omega,h1]
   simp[hj,show k*7+j<cs.length by omega]
  ·rw[List.getElem_set_ne (by omega)]
   exact hk.2 k hk'
theorem set7{w W:World}{g k:Nat}{cur:Array Value}{e:TypeId}{x0 x1 x2 x3 x4 x5 x6:Value}(hb:Blk w g cur e)(hk:k+7≤cur.size)
 (h:((((((w.setCell ⟨g,k,none⟩ x0).setCell ⟨g,k+1,none⟩ x1).setCell ⟨g,k+2,none⟩ x2).setCell ⟨g,k+3,none⟩ x3).setCell ⟨g,k+4,none⟩ x4).setCell ⟨g,k+5,none⟩ x5).setCell ⟨g,k+6,none⟩ x6=W):
 KeptB w W g∧(∀j v,[x0,x1,x2,x3,x4,x5,x6][j]? =some v→W.cell? ⟨g,k+j,none⟩=some v)∧∀q v,(q<k∨k+7≤q)→cur[q]? =some v→W.cell? ⟨g,q,none⟩=some v:=by
 subst h
 have hB:=((((((hb.set k x0).set (k+1) x1).set (k+2) x2).set (k+3) x3).set (k+4) x4).set (k+5) x5).set (k+6) x6
 refine⟨(((((((KeptB.refl w g).setCell rfl _).setCell rfl _).setCell rfl _).setCell rfl _).setCell rfl _).setCell rfl _).setCell rfl _,fun j v hv=> ?_,fun q v hq hv=> ?_⟩
 ·have hj:=(List.getElem?_eq_some_iff.1 hv).1
  refine hB.cell (k+j) ?_
  match j,hj with
  |0,_=>cases hv;simp[Array.getElem?_setIfInBounds];omega
  |1,_=>cases hv;simp[Array.getElem?_setIfInBounds];omega
  |2,_=>cases hv;simp[Array.getElem?_setIfInBounds];omega
  |3,_=>cases hv;simp[Array.getElem?_setIfInBounds];omega
  |4,_=>cases hv;simp[Array.getElem?_setIfInBounds];omega
  |5,_=>cases hv;simp[Array.getElem?_setIfInBounds];omega
  |6,_=>cases hv;simp[Array.getElem?_setIfInBounds];omega
 ·refine hB.cell q ?_
  rw[Array.getElem?_setIfInBounds_ne (by omega),Array.getElem?_setIfInBounds_ne (by omega),Array.getElem?_setIfInBounds_ne (by omega),Array.getElem?_setIfInBounds_ne (by omega),Array.getElem?_setIfInBounds_ne (by omega),Array.getElem?_setIfInBounds_ne (by omega),Array.getElem?_setIfInBounds_ne (by omega)]
  exact hv
set_option maxHeartbeats 4000000
set_option maxRecDepth 100000
theorem ewith_calls{w:World}{S:Nat→Bool}{f:Nat}{v k:Value}{op arg:Int}{s:Bool}{N D:Nat}{name:ByteArray}{kids:List Tree}{t:Tree}(h:Ex (onlyW w S) (f+1) v (.node op arg s N D name kids))(h2:Ex (onlyW w S) f k t)
 {i:Nat}(hi:i<kids.length)(hn3:kids.length≤3):
 Calls Tryz.prog 257 #[v,.int .i64 (i:Int),k] w fun e w'=>∃v',e= .returned v'∧Ex (onlyW w' (nxt S w.heap.size)) (f+1) v' (.node op arg s N D name (kids.set i t))∧Kept w w':=by
 obtain⟨o,g0,z,y1,y2,y3,y4,y5,y6,nm,a0,n0,cap0,rfl⟩:=h2.agg7
 obtain⟨x1,x2,x3,x4,x5,x6,a,cap,rfl,hcp,hn,hr⟩:=h.shape
 have HKD:=Lib.hid h.kd
 have HK:=Lib.hid h2
 have HR:=Lib.hid hr
 clear h h2 hr
 have HB:=Lib.hid (And.intro hi hn3)
 generalize hkl:kids.length=n at*
 have HKL:=Lib.hid hkl;clear hkl
 go_enter Tryz.func257,Tryz.ntmps257
 go_wp2_with(first
  |(at_builtin;refine append_kids (V:=onlyW w S) (f:=f) (l:=kids) (ts:=[]) rfl (.tmp 8) (.tmp 10) rfl _ ((Kept.refl _).alloc _) _ 0 [] rfl (own_new (n:=w.heap.size+1+1+1) (al3 rfl).2.2.2.2) (RowsIs.nil _ _) (by decide) rfl HKL.out.symm HKD.out ((only_sub w S).trans (Kept.sub (((((Kept.refl w).alloc _).alloc _).alloc _).alloc _))) (by omega) ?_;intro a5 cap5 cs5 w5 ho5 hr5 hk5
    rw[Nat.zero_add] at ho5
    obtain⟨hA5,hB5,hC5,hkw5,hsz5⟩:=al3k hk5
    obtain⟨g,cur,rfl,hgb,hblk,hnc,hcu,hcl,hce⟩:=own_blk ho5 (by omega)
    obtain⟨z0,z1,z2,z3,z4,z5,z6,p0,p1,p2,p3,p4,p5,p6,f0,f1,f2,f3,f4,f5,f6⟩:=row_seven (k:=i*7) hblk hce (by omega)
    have hga:g≠w.heap.size:=by simp[go_sem] at hgb;omega
    have hga':w.heap.size≠g:=fun e=>hga e.symm
    have hgc:g≠w.heap.size+1+1:=by simp[go_sem] at hgb;omega
    have hgc':w.heap.size+1+1≠g:=fun e=>hgc e.symm
    have hgd:g≠w.heap.size+1:=by simp[go_sem] at hgb;omega
    have hgd':w.heap.size+1≠g:=fun e=>hgd e.symm
    have HO5:=Lib.hid (And.intro ho5 hr5)
    have HK5:=Lib.hid (And.intro hkw5 (And.intro hsz5 hgb))
    have HBL:=Lib.hid (And.intro hblk (And.intro hce (And.intro hcl (And.intro hcu hnc))))
    clear ho5 hr5 hk5 hgb hblk hce hcl hcu hnc
    obtain⟨e0,e1,e2,e3,e4,e5,e6,j0,j1,j2,j3,j4,j5,j6⟩:=hA5.facts7
    obtain⟨d0,d1,d2,d3,d4,d5,d6,-⟩:=hB5.facts7
    have HC:=Lib.hid hC5
    obtain⟨k0,k1,k2,k3,k4,k5,k6,l0,l1,l2,l3,l4,l5,l6⟩:=hC5.facts7))
 have hb:=HBL.out.1
 have hce:=HBL.out.2.1
 have hcl:=HBL.out.2.2.1
 have hcu:=HBL.out.2.2.2.1
 have hnc:=HBL.out.2.2.2.2
 have hkw5:=HK5.out.1
 have hsz5:=HK5.out.2.1
 have hgb:w.heap.size+3≤g:=by have h:=HK5.out.2.2;simp[go_sem] at h;omega
 have hin:=HB.out
 have hgc:g<w5.heap.size:=hb.lt
 clear p0 p1 p2 p3 p4 p5 p6 f0 f1 f2 f3 f4 f5 f6
 generalize hW1:World.setCell (World.setCell (World.setCell (World.setCell (World.setCell (World.setCell (World.setCell w5 _ _) _ _) _ _) _ _) _ _) _ _) _ _=W1
 obtain⟨b1,n1,o1⟩:=set7 hb (by rw[hcu];have:i*7+7≤n*7:=by omega
                               have:n*7≤cap5*7:=Nat.mul_le_mul_right 7 hnc
                               omega) hW1
 generalize hW2:W1.setCell _ _=W2
 have b2:KeptB W1 W2 w.heap.size:=by rw[←hW2];exact(KeptB.refl _ _).setCell rfl _
 have k2:Kept w W2:=(hkw5.but b1 (by omega)).but b2 (Nat.le_refl _)
 have hC2:=((HC.out.keptB b1 (by omega)).keptB b2 (by omega))
 obtain⟨k0,k1,k2',k3,k4,k5,k6,l0,l1,l2,l3,l4,l5,l6⟩:=hC2.facts7
 have hend:=KeptB.st7 W2 (w.heap.size+1+1) (.int .i64 op) (.int .i64 arg) (.bool s) (.slice x1 x2 x3) (.slice x4 x5 x6) (.string name) (.slice (some ⟨g,0,none⟩) n cap5)
 have HR5:=HO5.out.2
 rw[List.nil_append] at HR5
 have key:∀W3,KeptB W2 W3 (w.heap.size+1+1)→Ex (onlyW W3 (nxt S w.heap.size)) (f+1) (.agg #[.int .i64 op,.int .i64 arg,.bool s,.slice x1 x2 x3,.slice x4 x5 x6,.string name,.slice (some ⟨g,0,none⟩) n cap5]) (.node op arg s N D name (kids.set i t))∧Kept w W3:=by
  intro W3 hend
  have kz:=k2.but hend (by omega)
  have hm:=only_move (w:=w) (w':=W3) (S:=S) (S':=nxt S w.heap.size) fun b hb hs=>⟨nxt_old hs,kz.old b hb⟩
  have hcell:∀q v,W1.cell? ⟨g,q,none⟩=some v→(onlyW W3 (nxt S w.heap.size)).cell? ⟨g,q,none⟩=some v:=fun q v hc=>by
   rw[cell_only,if_pos (nxt_new (by show _≤g;omega))]
   exact hend.cell (b2.cell hc (by show g≠_;omega)) (by show g≠_;omega)
  exact⟨Ex.set_row (cs:=cs5) (l:=[.int .i64 o,.int .i64 g0,.bool z,.slice y1 y2 y3,.slice y4 y5 y6,.string nm,.slice a0 n0 cap0]) (HR.out.sub hm)
   (fun q v hq hv=>hcell q v (o1 q v hq (by rw[hce q (List.getElem?_eq_some_iff.1 hv).1];exact hv))) (fun j v hv=>hcell _ v (n1 j v hv)) (HR5.mono (kidR_sub f _ _ hm)) rfl (HK.out.sub hm) hnc hin.2 HKL.out,kz⟩
 exact bodyPost_ret (v:=.agg #[.int .i64 op,.int .i64 arg,.bool s,.slice x1 x2 x3,.slice x4 x5 x6,.string name,.slice (some ⟨g,0,none⟩) n cap5]) (by simp[results,Tryz.results257,go_sem,k0,k1,k2',k3,k4,k5,k6]) rfl ⟨_,rfl,(key _ hend).1,(key _ hend).2⟩
end
section
open Go Go.RowKit Go.Dig Go.Deep
open Go.Eng (Kept KW KeptB wp_region_kw kw_call)
theorem loc_out{w:World}{S:Nat→Bool}{n k:Nat}:Sub (onlyW w (loc S n k)) (onlyW w (nxt S n)):=only_mono fun b h=>by
 unfold loc at h
 unfold nxt
 simp only[Bool.or_eq_true,Bool.and_eq_true,decide_eq_true_eq] at h⊢
 rcases h with h|h
 ·exact .inl h.1
 ·exact .inr (by omega)
theorem loc_nxt{w:World}{S:Nat→Bool}{n k m:Nat}(h:n+k≤m):Sub (onlyW w (nxt (loc S n k) m)) (onlyW w (loc S n k)):=only_mono fun b hb=>by
 unfold nxt at hb
 unfold loc at hb⊢
 simp only[Bool.or_eq_true,Bool.and_eq_true,decide_eq_true_eq] at hb⊢
 rcases hb with hb|hb
 ·exact hb
 ·exact .inr (by omega)
theorem Ex.nxt{N n f:Nat}{S:Nat→Bool}{w:World}{v:Value}{t:Tree}(h:Ex (onlyW w (ab N)) f v t)(hN:n≤N):Ex (onlyW w (nxt S n)) f v t:=
 h.sub (only_mono fun b hb=>nxt_new (by unfold ab at hb;simp at hb;omega))
theorem nxt_out{w W:World}{lo hi m n:Nat}(k:Kept w W)(h1:m≤lo)(h2:hi≤n):Sub (onlyW w (nxt (old m) n)) (onlyW W (Go.Proofs.YtbapfnpbamnmpaaGreatDoor.out lo hi)):=only_move fun b hb hs=>⟨out_true (by
 unfold nxt old at hs
 simp only[Bool.or_eq_true,decide_eq_true_eq] at hs
 omega),k.old b hb⟩
def M7(b:Nat):Array Value:=#[.int .i64 4,.int .i64 0,.bool false,.slice none 0 0,.slice none 0 0,.string ⟨#[]⟩,.slice (some ⟨b,0,none⟩) 1 1]
theorem ownM(b:Nat):Own 27 (M7 b):=own7
theorem Ex.neg{w:World}{S:Nat→Bool}{f b:Nat}{C:Array Value}{t:Tree}{ty:TypeId}(h:Ex (onlyW w S) f (.agg C) t)(oC:Own 27 C)(hs:S b=true)(hb:Blk w b C ty):Ex (onlyW w S) (f+1) (.agg (M7 b)) (negT t):=by
 obtain⟨C⟩:=C
 exact Ex.blk (kids:=[t]) rfl hs hb (rows_one oC.size7 h) (by simp)
def S7(b:Nat):Array Value:=#[.int .i64 6,.int .i64 0,.bool false,.slice none 0 0,.slice none 0 0,.string ⟨#[]⟩,.slice (some ⟨b,0,none⟩) 2 2]
theorem ownS(b:Nat):Own 27 (S7 b):=own7
theorem Ex.two{w:World}{S:Nat→Bool}{f b:Nat}{C D:Array Value}{t u:Tree}{ty:TypeId}(h:Ex (onlyW w S) f (.agg C) t)(oC:Own 27 C)(oD:Own 27 D)(k:Ex (onlyW w S) f (.agg D) u)(hs:S b=true)(hb:Blk w b (C++D) ty):Ex (onlyW w S) (f+1) (.agg (S7 b)) (subT t u):=by
 obtain⟨C⟩:=C
 obtain⟨D⟩:=D
 refine Ex.blk (t:=ty) (kids:=[t,u]) (cs:=C++D) rfl hs ?_ (rows_two oC.size7 h oD.size7 k) (by simp)
 simpa using hb
end
end Go.Proofs.YtbapfnpbamnmpaaGreatDoor
