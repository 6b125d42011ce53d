/- A part of the proof that ClaimFaces answers true for every input of bulk at most 1048576: conditions: the row's own. -/
import Derived.Test.YtbapfnpbamnmpaaGreatDoorXe
import Derived.Test.YtbapfnpbamnmpaaGreatDoorXa
import Derived.Test.YtbapfnpbamnmpaaGreatDoorGd
import Derived.Test.YtbapfnpbamnmpaaGreatDoorGz
import Derived.Test.YtbapfnpbamnmpaaGreatDoorGe
import Derived.Test.YtbapfnpbamnmpaaGreatDoorGf
import Derived.Test.YtbapfnpbamnmpaaGreatDoorZa
namespace Go.Proofs.YtbapfnpbamnmpaaGreatDoor
section
open Go Go.RowKit Go.Dig
def negT(t:Tree):Tree:=.node 4 0 false 0 0 ⟨#[]⟩ [t]
def subT(t u:Tree):Tree:=.node 6 0 false 0 0 ⟨#[]⟩ [t,u]
end
section
open Go Go.RowKit Go.Dig
def cD(N D:Nat):Nat:=if rD N D=1 then 0 else rD N D
theorem dn_cD(N D:Nat):dn (cD N D)=rD N D:=by
 unfold cD dn
 have h:=rD_pos N D
 split<;>split<;>omega
theorem r_cop(N D:Nat):Nat.gcd (rN N D) (rD N D)=1:=by
 unfold rN rD
 exact Nat.gcd_div_gcd_div_gcd_of_pos_right (dn_pos D)
theorem rN_can(N D:Nat):rN (rN N D) (cD N D)=rN N D:=by
 rw[rN,dn_cD,r_cop,Nat.div_one]
theorem rD_can(N D:Nat):rD (rN N D) (cD N D)=rD N D:=by
 rw[rD,dn_cD,r_cop,Nat.div_one]
theorem small_can{N D:Nat}(h:small N D=true):small (rN N D) (cD N D)=true:=by
 unfold small at h⊢
 rw[rN_can,rD_can]
 simp only[Bool.and_eq_true,decide_eq_true_eq] at h⊢
 obtain⟨⟨-,h3⟩,h4⟩:=h
 have h5:=h3
 have h6:=h4
 unfold fits32 at h5 h6
 have h7:=of_decide_eq_true h5
 have h8:=of_decide_eq_true h6
 have h9:pwr 2 2048≤pwr 2 8192:=pwr_le _ _ (by decide)
 refine⟨⟨⟨Nat.lt_of_lt_of_le h7 h9,?_⟩,h3⟩,h4⟩
 unfold cD
 split
 ·exact pwr_pos _
 ·exact Nat.lt_of_lt_of_le h8 h9
mutual
def canT:Tree→Tree
 | .node op arg _ N D name kids=>.node op arg false (if op=1 then rN N D else 0) (if op=1 then cD N D else 0) name (canTs kids)
def canTs:List Tree→List Tree
 |[]=>[]
 |t::ts=>canT t::canTs ts
end
theorem canTs_map:∀(ts:List Tree),canTs ts=ts.map canT
 |[]=>by rw[canTs];rfl
 |t::ts=>by rw[canTs,canTs_map ts];rfl
theorem canTs_length(ts:List Tree):(canTs ts).length=ts.length:=by rw[canTs_map,List.length_map]
theorem nodeOk_can{op arg:Int}{s:Bool}{N D:Nat}{name:ByteArray}{n:Nat}(h:nodeOk op arg s N D name n=true):
 nodeOk op arg false (if op=1 then rN N D else 0) (if op=1 then cD N D else 0) name n=true:=by
 unfold nodeOk at h⊢
 simp only[Bool.and_eq_true] at h⊢
 refine⟨h.1,?_⟩
 have h2:=h.2
 by_cases h1:op=1
 ·simp only[if_pos h1,Bool.and_eq_true] at h2⊢
  exact⟨⟨small_can h2.1.1,by simp⟩,h2.2⟩
 ·simp only[if_neg h1,Bool.and_eq_true] at h2⊢
  exact⟨by simp,h2.2⟩
mutual
theorem cnt_can:∀(t:Tree)(d m:Nat),wellT t→cnt (canT t) d m=cnt t d m
 | .node op arg s N D name kids,d,m=>by
   intro h
   obtain⟨h1,h2⟩:=h
   rw[canT,cnt,cnt,canTs_length,nodeOk_can h1,h1,cnts_can kids (d+1) (m+1) h2]
theorem cnts_can:∀(ts:List Tree)(d m:Nat),wellTs ts→cnts (canTs ts) d m=cnts ts d m
 |[],d,m=>by intro _;rw[canTs]
 |t::ts,d,m=>by
  intro h
  rw[canTs,cnts,cnts,cnt_can t d m h.1]
  cases cnt t d m with
  |none=>rfl
  |some m'=>exact cnts_can ts d m' h.2
end
theorem can_ok{t:Tree}(h:t.ok=true):(canT t).ok=true:=by
 have hw:=well_of_ok h
 unfold Tree.ok at h⊢
 rw[cnt_can t 1 0 hw]
 exact h
mutual
theorem vars_can:∀(t:Tree),varsT (canT t)=varsT t
 | .node op arg s N D name kids=>by rw[canT,varsT,varsT,varsL_can kids]
theorem varsL_can:∀(ts:List Tree),varsL (canTs ts)=varsL ts
 |[]=>by rw[canTs]
 |t::ts=>by rw[canTs,varsL,varsL,vars_can t,varsL_can ts]
end
theorem sameR_can{s:Bool}{N D:Nat}(h:(s&&decide (0<N))=false):sameR false (rN N D) (cD N D) s N D=true:=by
 unfold sameR
 rw[rN_can,rD_can,h,Bool.false_and,qcmp_sg,Int.sub_self]
 rfl
mutual
theorem sameT_can:∀(t:Tree),wellT t→sameT (canT t) t=true
 | .node op arg s N D name kids=>by
   intro h
   obtain⟨h1,h2⟩:=h
   rw[canT,sameT,canTs_length,sameTs_can kids h2]
   have h3:sameR false (if op=1 then rN N D else 0) (if op=1 then cD N D else 0) s N D=true:=by
    unfold nodeOk at h1
    simp only[Bool.and_eq_true] at h1
    have h4:=h1.2
    by_cases h5:op=1
    ·simp only[if_pos h5,Bool.and_eq_true] at h4⊢
     have h6:=h4.1.2
     exact sameR_can (by rcases Bool.eq_false_or_eq_true (s&&decide (0<N)) with h7|h7<;>rw[h7] at h6⊢;cases h6)
    ·simp only[if_neg h5,Bool.and_eq_true,decide_eq_true_eq] at h4⊢
     obtain rfl:=h4.1
     unfold sameR
     rw[rN_zero,rN_zero,rD_zero,rD_zero]
     simp only[Nat.lt_irrefl,decide_false,Bool.and_false]
     rw[qcmp_sg,Int.sub_self]
     rfl
   rw[h3]
   simp
theorem sameTs_can:∀(ts:List Tree),wellTs ts→sameTs (canTs ts) ts=true
 |[]=>by intro _;rw[canTs,sameTs]
 |t::ts=>by
  intro h
  rw[canTs,sameTs,sameT_can t h.1,sameTs_can ts h.2]
  rfl
end
end
section
open Go Go.RowKit Go.Dig Go.Deep
open Go.Eng (Kept KW KeptB wp_region_kw kw_call)
def nxt(S:Nat→Bool)(n:Nat):Nat→Bool:=fun b=>S b||decide (n≤b)
theorem nxt_old{S:Nat→Bool}{n b:Nat}(h:S b=true):nxt S n b=true:=by unfold nxt;rw[h];rfl
theorem nxt_new{S:Nat→Bool}{n b:Nat}(h:n≤b):nxt S n b=true:=by unfold nxt;simp[h]
theorem only_nxt{w w':World}{S:Nat→Bool}{n:Nat}(k:Kept w w'):Sub (onlyW w S) (onlyW w' (nxt S n)):=only_move fun b hb hs=>⟨nxt_old hs,k.old b hb⟩
theorem rt_zero(W:World):Rt W (.agg #[.bool false,.slice none 0 0,.slice none 0 0]) false 0 0:=
 ⟨_,_,rfl,⟨none,0,0,fun _=>0,rfl,Nat.le_refl _,by omega,fun i h=>absurd h (Nat.not_lt_zero i),rfl,fun i h=>absurd h (Nat.not_lt_zero i)⟩,⟨none,0,0,fun _=>0,rfl,Nat.le_refl _,by omega,fun i h=>absurd h (Nat.not_lt_zero i),rfl,fun i h=>absurd h (Nat.not_lt_zero i)⟩⟩
theorem rows_one{α:Type}{R:List Value→α→Prop}{sz:Nat}{l:List Value}{t:α}(hl:l.length=sz)(hr:R l t):RowsIs R sz l [t]:=by
 have h:=(RowsIs.nil R sz).snoc hl hr
 simpa using h
theorem rows_two{α:Type}{R:List Value→α→Prop}{sz:Nat}{l l':List Value}{t t':α}(hl:l.length=sz)(hr:R l t)(hl':l'.length=sz)(hr':R l' t'):RowsIs R sz (l++l') [t,t']:=by
 have h:=(rows_one hl hr).snoc hl' hr'
 simpa using h
theorem Ex.blk{W:World}{f b:Nat}{op arg:Int}{cs:List Value}{kids:List Tree}{t:TypeId}{w':World}{S:Nat→Bool}(hW:W=onlyW w' S)(hs:S b=true)(hb:Blk w' b cs.toArray t)
 (hk:RowsIs (fun l t=>Ex W f (.agg l.toArray) t) 7 cs kids)(hn:kids.length<1000):
 Ex W (f+1) (.agg #[.int .i64 op,.int .i64 arg,.bool false,.slice none 0 0,.slice none 0 0,.string ⟨#[]⟩,.slice (some ⟨b,0,none⟩) kids.length kids.length]) (.node op arg false 0 0 ⟨#[]⟩ kids):=by
 refine Ex.mk (Nat.le_refl _) (rt_zero W) (by omega) (fun i hi=>⟨b,rfl,?_⟩) hk
 subst hW
 rw[cell_only,if_pos hs,List.getElem?_eq_getElem hi]
 exact hb.cell i (by simp[hi])
theorem al1{w W:World}{A:Array Value}{t:TypeId}(h:w.alloc (.cells A t)=W):Blk W w.heap.size A t∧Kept w W∧W.heap.size=w.heap.size+1:=by
 subst h
 exact⟨Blk.new ..,(Kept.refl _).alloc _,Array.size_push _⟩
theorem al2{w W:World}{A B:Array Value}{t u:TypeId}(h:(w.alloc (.cells A t)).alloc (.cells B u)=W):Blk W w.heap.size A t∧Blk W (w.heap.size+1) B u∧Kept w W∧W.heap.size=w.heap.size+2:=by
 obtain⟨h1,h2,h3⟩:=al1 (W:=w.alloc (.cells A t)) rfl
 obtain⟨g1,g2,g3⟩:=al1 h
 rw[h3] at g1 g3
 exact⟨h1.kept g2,g1,h2.trans g2,g3⟩
theorem al3{w W:World}{A B C:Array Value}{t u v:TypeId}(h:((w.alloc (.cells A t)).alloc (.cells B u)).alloc (.cells C v)=W):
 Blk W w.heap.size A t∧Blk W (w.heap.size+1) B u∧Blk W (w.heap.size+1+1) C v∧Kept w W∧W.heap.size=w.heap.size+3:=by
 obtain⟨h1,h2,h3,h4⟩:=al2 (W:=(w.alloc (.cells A t)).alloc (.cells B u)) rfl
 obtain⟨g1,g2,g3⟩:=al1 h
 rw[h4] at g1 g3
 exact⟨h1.kept g2,h2.kept g2,g1,h3.trans g2,g3⟩
theorem al2k{w w5:World}{A B:Array Value}{t u:TypeId}(k:Kept ((w.alloc (.cells A t)).alloc (.cells B u)) w5):Blk w5 w.heap.size A t∧Blk w5 (w.heap.size+1) B u∧Kept w w5∧w.heap.size+2≤w5.heap.size:=by
 obtain⟨h1,h2,h3,h4⟩:=al2 (w:=w) (A:=A) (t:=t) (B:=B) (u:=u) rfl
 exact⟨h1.kept k,h2.kept k,h3.trans k,by have:=k.size;omega⟩
set_option maxHeartbeats 4000000
set_option maxRecDepth 100000
theorem node_calls'(w:World)(op arg:Int)(a:Option Addr)(n cap:Nat):
 Calls Tryz.prog 250 #[.int .i64 op,.int .i64 arg,.slice a n cap] w fun e w'=>e= .returned (.agg #[.int .i64 op,.int .i64 arg,.bool false,.slice none 0 0,.slice none 0 0,.string ⟨#[]⟩,.slice a n cap])∧Kept w w':=by
 obtain⟨k0,k1,k2,k3,k4,k5,k6,-⟩:=(Blk.new w #[.int .i64 op,.int .i64 arg,.bool false,.slice none 0 0,.slice none 0 0,.string ⟨#[]⟩,.slice a n cap] 27).facts7
 go_enter Tryz.func250,Tryz.ntmps250
 go_wp2
 exact bodyPost_ret (v:=.agg #[.int .i64 op,.int .i64 arg,.bool false,.slice none 0 0,.slice none 0 0,.string ⟨#[]⟩,.slice a n cap]) (by simp[results,Tryz.results250,go_sem,k0,k1,k2,k3,k4,k5,k6]) rfl ⟨rfl,(Kept.refl w).alloc _⟩
theorem rone_calls{w:World}{S:Nat→Bool}{f:Nat}{v:Value}{t:Tree}(h:Ex (onlyW w S) f v t)(op arg:Int):
 Calls Tryz.prog 253 #[.int .i64 op,.int .i64 arg,v] w fun e w'=>∃v',e= .returned v'∧Ex (onlyW w' (nxt S w.heap.size)) (f+1) v' (.node op arg false 0 0 ⟨#[]⟩ [t])∧Kept w w':=by
 obtain⟨o,g,z,x1,x2,x3,x4,x5,x6,nm,a,n,cap,rfl⟩:=h.agg7
 have H:=Lib.hid h;clear h
 go_enter Tryz.func253,Tryz.ntmps253
 go_wp2
 generalize hW:World.alloc (World.alloc (World.alloc w _) _) _=W
 obtain⟨-,hB,hC,hk,-⟩:=al3 hW
 obtain⟨k0,k1,k2,k3,k4,k5,k6,-⟩:=hB.facts7
 exact bodyPost_ret (v:=.agg #[.int .i64 op,.int .i64 arg,.bool false,.slice none 0 0,.slice none 0 0,.string ⟨#[]⟩,.slice (some ⟨w.heap.size+1+1,0,none⟩) 1 1]) (by simp[results,Tryz.results253,go_sem,k0,k1,k2,k3,k4,k5,k6]) rfl
  ⟨_,rfl,Ex.blk (cs:=[.int .i64 o,.int .i64 g,.bool z,.slice x1 x2 x3,.slice x4 x5 x6,.string nm,.slice a n cap]) rfl (nxt_new (by omega)) hC (rows_one rfl (H.out.sub (only_nxt hk))) (by simp),hk⟩
theorem rfits4_calls{f:Nat}{w:World}{v:Value}{t:Tree}(h:Ex w f v t)(hT:Laid w):
 Calls Tryz.prog 122 #[v] w fun e w'=>e= .returned (.bool t.ok)∧Kept w w':=by
 have hh:=h
 have hc:Hid (t.ok=(cnt t 1 0).isSome):=Lib.hid rfl
 cases f with
 |zero=>exact h.elim
 |succ f=>
 cases t with
 |node op arg s N D name kids=>
  obtain⟨x1,x2,x3,x4,x5,x6,a,cap,rfl,hcp,hn,hr⟩:=h.shape
  clear h hr
  have hk:Kept w (w.alloc (.cells #[.int .i64 op,.int .i64 arg,.bool s,.slice x1 x2 x3,.slice x4 x5 x6,.string name,.slice a kids.length cap] 27)):=(Kept.refl w).alloc _
  have hcl:=walk_calls (f+1) (hh.kept hk) (hT.kept hk) 1 0 (by omega) (by omega)
  clear hh
  generalize hy:Tree.node op arg s N D name kids=y at*
  cases hcn:cnt y 1 0 with
  |none=>
   rw[hcn] at hc hcl
   go_enter Tryz.func122,Tryz.ntmps122
   go_wp2_with(first|(go_at_call 144;refine hcl.mono ?_;rintro e wa ⟨rfl,hka⟩))
   go_ret
   exact⟨by rw[hc.out];rfl,hk.trans hka⟩
  |some m=>
   rw[hcn] at hc hcl
   have hm:=(cnt_le _ _ _ _ hcn).2
   have e2:wres (some m)=300-(m:Int):=rfl
   rw[e2] at hcl
   clear e2
   have t:decide ((m:Int)≤300)=true:=by simp;omega
   go_enter Tryz.func122,Tryz.ntmps122
   go_wp2_with(first|(go_at_call 144;refine hcl.mono ?_;rintro e wa ⟨rfl,hka⟩))
   go_ret
   exact⟨by rw[hc.out];rfl,hk.trans hka⟩
theorem rfit_calls{f:Nat}{w:World}{v:Value}{t:Tree}(h:Ex w f v t)(hT:Laid w):
 Calls Tryz.prog 165 #[v] w fun e w'=>e= .returned (.bool t.ok)∧Kept w w':=by
 have hf:=fun(w':World)(k:Kept w w')=>rfits4_calls (h.kept k) (hT.kept k)
 obtain⟨o,g,z,x1,x2,x3,x4,x5,x6,nm,a,n,cap,rfl⟩:=h.agg7
 have hk:Kept w (w.alloc (.cells #[.int .i64 o,.int .i64 g,.bool z,.slice x1 x2 x3,.slice x4 x5 x6,.string nm,.slice a n cap] 27)):=(Kept.refl w).alloc _
 have hg:=hf _ hk
 clear h hf
 go_enter Tryz.func165,Tryz.ntmps165
 go_wp2_with(first|(go_at_call 122;refine hg.mono ?_;rintro e wa ⟨rfl,hka⟩))
 go_ret
 exact⟨rfl,hk.trans hka⟩
end
section
open Go Go.RowKit Go.Dig Go.Deep
open Go.Eng (Kept KW KeptB wp_region_kw kw_call)
def Kd(W:World)(f:Nat)(a:Option Addr)(l:List Tree):Prop:=∀(i:Nat)(h:i<l.length),∃(b off:Nat)(cs:List Value),a=some ⟨b,off,none⟩∧cs.length=7∧(∀u∈cs,u.oneCell'=true)∧
 (∀j u,cs[j]? =some u→W.cell? ⟨b,off+7*i+j,none⟩=some u)∧Ex W f (.agg cs.toArray) l[i]
theorem Ex.kd{W:World}{f:Nat}{op arg:Int}{s:Bool}{N D:Nat}{name:ByteArray}{kids:List Tree}{y1 y2 y3 y4 y5 name':Value}{a:Option Addr}{n cap:Nat}
 (h:Ex W (f+1) (.agg #[y1,y2,y3,y4,y5,name',.slice a n cap]) (.node op arg s N D name kids)):Kd W f a kids:=by
 intro i hi
 obtain⟨b,off,o,g,z,x1,x2,x3,x4,x5,x6,nm,a',n',cap',ha,c0,c1,c2,c3,c4,c5,c6,hex⟩:=h.kid hi
 refine⟨b,off,[.int .i64 o,.int .i64 g,.bool z,.slice x1 x2 x3,.slice x4 x5 x6,.string nm,.slice a' n' cap'],ha,rfl,?_,?_,hex⟩
 ·intro u hu
  simp only[List.mem_cons,List.mem_nil_iff,or_false] at hu
  rcases hu with rfl|rfl|rfl|rfl|rfl|rfl|rfl<;>rfl
 ·intro j u hu
  have hj:=(List.getElem?_eq_some_iff.1 hu).1
  rw[Nat.mul_comm 7 i]
  match j,hj with
  |0,_=>cases hu;exact c0
  |1,_=>cases hu;exact c1
  |2,_=>cases hu;exact c2
  |3,_=>cases hu;exact c3
  |4,_=>cases hu;exact c4
  |5,_=>cases hu;exact c5
  |6,_=>cases hu;exact c6
theorem Kd.sub{W W':World}{f:Nat}{a:Option Addr}{l:List Tree}(h:Kd W f a l)(k:Sub W W'):Kd W' f a l:=fun i hi=>by
 obtain⟨b,off,cs,ha,hl,h1,hc,he⟩:=h i hi
 exact⟨b,off,cs,ha,hl,h1,fun j u hu=>k _ _ (hc j u hu),he.sub k⟩
theorem Kd.take{W:World}{f:Nat}{a:Option Addr}{l:List Tree}(h:Kd W f a l)(k:Nat):Kd W f a (l.take k):=fun i hi=>by
 have hi':i<l.length:=by rw[List.length_take] at hi;omega
 obtain⟨b,off,cs,ha,hl,h1,hc,he⟩:=h i hi'
 exact⟨b,off,cs,ha,hl,h1,hc,by rw[List.getElem_take];exact he⟩
theorem Kd.drop{W:World}{f:Nat}{b off:Nat}{l:List Tree}(h:Kd W f (some ⟨b,off,none⟩) l)(k:Nat):Kd W f (some ⟨b,off+k*7,none⟩) (l.drop k):=fun i hi=>by
 have hi':k+i<l.length:=by rw[List.length_drop] at hi;omega
 obtain⟨b',off',cs,ha,hl,h1,hc,he⟩:=h (k+i) hi'
 cases ha
 refine⟨b,off+k*7,cs,rfl,hl,h1,fun j u hu=> ?_,by rw[List.getElem_drop];exact he⟩
 rw[←hc j u hu]
 congr 2
 omega
theorem Kd.cells{W:World}{f b off:Nat}{l:List Tree}(h:Kd W f (some ⟨b,off,none⟩) l):
 ∃cs:List Value,RowsIs (kidR f W) 7 cs l∧(∀(j:Nat)(u:Value),cs[j]? =some u→W.cell? ⟨b,off+j,none⟩=some u)∧∀u∈cs,u.oneCell'=true:=by
 have key:∀k,k≤l.length→∃cs:List Value,RowsIs (kidR f W) 7 cs (l.take k)∧(∀(j:Nat)(u:Value),cs[j]? =some u→W.cell? ⟨b,off+j,none⟩=some u)∧∀u∈cs,u.oneCell'=true:=by
  intro k
  induction k with
  |zero=>exact fun _=>⟨[],RowsIs.nil _ _,fun j u h=>by simp at h,fun u h=>by cases h⟩
  |succ k ih=>
   intro hk
   obtain⟨cs,h1,h2,h3⟩:=ih (by omega)
   obtain⟨b',off',c7,ha,hl7,ho7,hc7,he⟩:=h k (by omega)
   cases ha
   have hlen:cs.length=k*7:=by rw[h1.1,List.length_take];omega
   refine⟨cs++c7,h1.take_succ (by omega) hl7 he,?_,?_⟩
   ·intro j u hu
    by_cases hj:j<cs.length
    ·rw[List.getElem?_append_left hj] at hu
     exact h2 j u hu
    ·rw[List.getElem?_append_right (by omega)] at hu
     have h9:=hc7 _ u hu
     rw[←h9]
     congr 2
     omega
   ·intro u hu
    rcases List.mem_append.1 hu with hu|hu
    ·exact h3 u hu
    ·exact ho7 u hu
 obtain⟨cs,h1,h2,h3⟩:=key l.length (Nat.le_refl _)
 rw[List.take_length] at h1
 exact⟨cs,h1,h2,h3⟩
theorem Ex.row{W w':World}{S:Nat→Bool}{f base:Nat}{op arg:Int}{s:Bool}{N D:Nat}{name:ByteArray}{kids:List Tree}{x1:Option Addr}{x2 x3:Nat}{x4:Option Addr}{x5 x6:Nat}{a:Option Addr}{n cap:Nat}{cs:List Value}
 (hW:W=onlyW w' S)(hS:∀b,base≤b→S b=true)(hr:Rt W (.agg #[.bool s,.slice x1 x2 x3,.slice x4 x5 x6]) s N D)(ho:w'.ownsRow base 27 7 (.slice a n cap) n cs)(hk:RowsIs (Go.Proofs.YtbapfnpbamnmpaaGreatDoor.kidR f W) 7 cs kids)(hn:n≤1000)(hl:n=kids.length):
 Ex W (f+1) (.agg #[.int .i64 op,.int .i64 arg,.bool s,.slice x1 x2 x3,.slice x4 x5 x6,.string name,.slice a n cap]) (.node op arg s N D name kids):=by
 subst hl
 obtain⟨a',cap',e,hc,-,hcell⟩:=own_open ho
 cases e
 refine Ex.mk hc hr (by omega) (fun i hi=> ?_) hk
 obtain⟨b,hb,ha,hcl⟩:=hcell i hi
 refine⟨b,ha,?_⟩
 subst hW
 rw[List.getElem?_eq_getElem hi] at hcl⊢
 rw[cell_only,if_pos (hS b hb)]
 exact hcl
set_option maxHeartbeats 4000000
set_option maxRecDepth 100000
end
section
open Go Go.RowKit Go.Dig Go.Deep
open Go.Eng (Kept KW KeptB wp_region_kw kw_call)
set_option maxHeartbeats 4000000
set_option maxRecDepth 100000
end
section
open Go Go.RowKit Go.Dig Go.Deep
open Go.Eng (Kept KW KeptB wp_region_kw kw_call)
theorem Ex.nxt{N n f:Nat}{S:Nat→Bool}{w:World}{v:Value}{t:Tree}(h:Ex (onlyW w (ab N)) f v t)(hN:n≤N):Ex (onlyW w (nxt S n)) f v t:=
 h.sub (only_mono fun b hb=>nxt_new (by unfold ab at hb;simp at hb;omega))
def M7(b:Nat):Array Value:=#[.int .i64 4,.int .i64 0,.bool false,.slice none 0 0,.slice none 0 0,.string ⟨#[]⟩,.slice (some ⟨b,0,none⟩) 1 1]
theorem ownM(b:Nat):Own 27 (M7 b):=own7
theorem Ex.neg{w:World}{S:Nat→Bool}{f b:Nat}{C:Array Value}{t:Tree}{ty:TypeId}(h:Ex (onlyW w S) f (.agg C) t)(oC:Own 27 C)(hs:S b=true)(hb:Blk w b C ty):Ex (onlyW w S) (f+1) (.agg (M7 b)) (negT t):=by
 obtain⟨C⟩:=C
 exact Ex.blk (kids:=[t]) rfl hs hb (rows_one oC.size7 h) (by simp)
def S7(b:Nat):Array Value:=#[.int .i64 6,.int .i64 0,.bool false,.slice none 0 0,.slice none 0 0,.string ⟨#[]⟩,.slice (some ⟨b,0,none⟩) 2 2]
theorem Ex.two{w:World}{S:Nat→Bool}{f b:Nat}{C D:Array Value}{t u:Tree}{ty:TypeId}(h:Ex (onlyW w S) f (.agg C) t)(oC:Own 27 C)(oD:Own 27 D)(k:Ex (onlyW w S) f (.agg D) u)(hs:S b=true)(hb:Blk w b (C++D) ty):Ex (onlyW w S) (f+1) (.agg (S7 b)) (subT t u):=by
 obtain⟨C⟩:=C
 obtain⟨D⟩:=D
 refine Ex.blk (t:=ty) (kids:=[t,u]) (cs:=C++D) rfl hs ?_ (rows_two oC.size7 h oD.size7 k) (by simp)
 simpa using hb
end
end Go.Proofs.YtbapfnpbamnmpaaGreatDoor
