/- A part of the proof that SearchCandidates answers true for every input of bulk at most 1048576: conditions: the row's own. -/
import Derived.Test.YtancebninmoipaaGreatDoorP08
import Derived.Test.YtancebninmoipaaGreatDoorP07
import Derived.RangeFuncNested
import Derived.RangeFuncBound
import Derived.RangeFuncCalls
import Derived.RangeFuncLeaves
import Derived.RangeFuncWrites
import Derived.Shelf.Abstract
import Derived.OwnWalkIn
import Derived.TacticsInMore
import Derived.LoopNIn
import Derived.LoopIn
import Derived.Maps.OwnIn
import Derived.Deep.RegionHeld3
namespace Go.Proofs.YtancebninmoipaaGreatDoor
section
open Go Go.RowKit Go.Dig
open Go.Eng (Kept KW KeptB)
def wres:Option Nat→Int
 |none=> -1
 |some m=>300-(m:Int)
set_option maxHeartbeats 2000000 in
set_option maxRecDepth 100000 in
theorem walk_calls:∀(f:Nat){w:World}{v:Value}{t:Tree},Ex w f v t→Laid w→∀(d m:Nat),d≤31→m≤300→
 Calls Tryz.prog 63 #[v,.int .i64 (d:Int),.int .i64 (300-(m:Int))] w fun e w'=>e= .returned (.int .i64 (wres (cnt t d m)))∧Kept w w'
 |0,_,_,_,h=>h.elim
 |f+1,w,v,.node op arg s N D name kids,h=>by
  intro hT d m hd hm
  obtain⟨x1,x2,x3,x4,x5,x6,a,cap,rfl,hc,hn,hr⟩:=h.shape
  have hkid:=fun(i:Nat)(hi:i<kids.length)=>h.kid hi
  clear h
  have ed:((d+1:Nat):Int)=(d:Int)+1:=by omega
  by_cases h2:30<d
  ·have HC:Hid (cnt (.node op arg s N D name kids) d m=none):=Lib.hid (by rw[cnt,if_pos (.inr (.inl h2))])
   have t2:decide (30<(d:Int))=true:=by simp;omega
   clear hkid hr hn
   go_enter Tryz.func63,Tryz.ntmps63
   go_wp2
   go_ret
   exact⟨by rw[HC.out];rfl,(Kept.refl w).alloc _⟩
  have t2:decide (30<(d:Int))=false:=by simp;omega
  by_cases h1:300<m+1
  ·have HC:Hid (cnt (.node op arg s N D name kids) d m=none):=Lib.hid (by rw[cnt,if_pos (.inl h1)])
   have t1:decide (300-(m:Int)≤0)=true:=by simp;omega
   clear hkid hr hn
   go_enter Tryz.func63,Tryz.ntmps63
   go_wp2
   go_ret
   exact⟨by rw[HC.out];rfl,(Kept.refl w).alloc _⟩
  have t1:decide (300-(m:Int)≤0)=false:=by simp;omega
  have hf:=fun(w':World)(k:Kept w w')=>node_calls (op:=op) (arg:=arg) (name:=name) (a:=a) (n:=kids.length) (cap:=cap) (hr.kept k) hn
  have hk:Kept w (w.alloc (.cells #[.int .i64 op,.int .i64 arg,.bool s,.slice x1 x2 x3,.slice x4 x5 x6,.string name,.slice a kids.length cap] 27)):=(Kept.refl w).alloc _
  have HK:=Lib.hid hk;clear hk
  cases hno:nodeOk op arg s N D name kids.length
  ·have HC:Hid (cnt (.node op arg s N D name kids) d m=none):=Lib.hid (by rw[cnt,if_pos (.inr (.inr hno))])
   rw[hno] at hf
   clear hkid hr hn
   go_enter Tryz.func63,Tryz.ntmps63
   go_wp2_with(first|(go_at_call 137;refine(hf _ HK.out).mono ?_;rintro e wa ⟨rfl,hka⟩))
   go_ret
   exact⟨by rw[HC.out];rfl,HK.out.trans hka⟩
  rw[hno] at hf
  have HC:Hid (cnt (.node op arg s N D name kids) d m=cnts kids (d+1) (m+1)):=Lib.hid (by rw[cnt,if_neg (by simp[hno];omega)])
  clear hr
  have hbx:=Blk.new w #[.int .i64 op,.int .i64 arg,.bool s,.slice x1 x2 x3,.slice x4 x5 x6,.string name,.slice a kids.length cap] 27
  go_enter Tryz.func63,Tryz.ntmps63
  go_wp2_with(first|(go_at_call 137;refine(hf _ HK.out).mono ?_;rintro e wa ⟨rfl,hka⟩;replace hbx:=hbx.kept hka))
  have hkb:=HK.out.trans hka
  clear hka HK hf
  go_loopw [2,7] (fun c i wr=>∃(k m':Nat),k≤kids.length∧i= .int .i64 (k:Int)∧c= .int .i64 (300-(m':Int))∧m'≤300∧cnts (kids.drop k) (d+1) m'=cnts kids (d+1) (m+1)∧Kept w wr∧Kept wa wr) (fun _ i _=>kids.length-(intOf i).toNat)
  case atStart=>exact⟨0,m+1,Nat.zero_le _,rfl,by go_num,by omega,rfl,hkb,Kept.refl _⟩
  case round=>
   obtain⟨k,m',hk,rfl,rfl,hm',hst,hkw,hkwa⟩:=hrel
   have HST:=Lib.hid hst;clear hst
   obtain⟨-,-,-,-,-,-,e6,-⟩:=(hbx.kept hkwa).facts7
   by_cases hlt:k<kids.length
   ·obtain⟨b,off,o,g,z,u1,u2,u3,u4,u5,u6,nm,a',n',cap',rfl,c0,c1,c2,c3,c4,c5,c6,hex⟩:=hkid k hlt
    replace c0:=hkw.cell c0
    replace c1:=hkw.cell c1
    replace c2:=hkw.cell c2
    replace c3:=hkw.cell c3
    replace c4:=hkw.cell c4
    replace c5:=hkw.cell c5
    replace c6:=hkw.cell c6
    have hih:=walk_calls f (hex.kept hkw) (hT.kept hkw) (d+1) m' (by omega) hm'
    rw[ed] at hih
    clear hkid hex
    have hcs:cnts (kids.drop k) (d+1) m'=(cnt kids[k] (d+1) m').bind fun m2=>cnts (kids.drop (k+1)) (d+1) m2:=by
     rw[List.drop_eq_getElem_cons hlt,cnts]
     cases cnt kids[k] (d+1) m'<;>rfl
    rw[HST.out] at hcs
    cases hcn:cnt kids[k] (d+1) m' with
    |none=>
     rw[hcn] at hih hcs
     have HCS:=Lib.hid hcs;clear hcs
     go_wp2_with(first|(go_at_call 63;refine hih.mono ?_;rintro e w2 ⟨rfl,hk2⟩))
     go_ret
     exact⟨by rw[HC.out,HCS.out];rfl,hkw.trans hk2⟩
    |some m2=>
     rw[hcn] at hih hcs
     have hm2:=(cnt_le _ _ _ _ hcn).2
     have HCS:=Lib.hid hcs;clear hcs
     have e2:wres (some m2)=300-(m2:Int):=rfl
     rw[e2] at hih
     clear e2
     go_wp2_with(first|(go_at_call 63;refine hih.mono ?_;rintro e w2 ⟨rfl,hk2⟩))
     go_roundw
     case rel=>exact⟨k+1,m2,by omega,by go_num,rfl,hm2,HCS.out.symm,hkw.trans hk2,hkwa.trans hk2⟩
     case measure=>simp[intOf];omega
   ·obtain rfl:kids.length=k:=by omega
    clear hkid
    go_wp2
    go_ret
    refine⟨?_,hkw⟩
    rw[HC.out,←HST.out]
    simp[cnts,go_sem,wres]
def Tree.ok(t:Tree):Bool:=(cnt t 1 0).isSome
set_option maxHeartbeats 2000000 in
set_option maxRecDepth 100000 in
theorem pvalid_calls{f:Nat}{w:World}{v:Value}{t:Tree}(h:Ex w f v t)(hT:Laid w):
 Calls Tryz.prog 24 #[v] w fun e w'=>e= .returned (.bool t.ok)∧Kept w w':=by
 have hh:=h
 have hc:Hid (t.ok=(cnt t 1 0).isSome):=Lib.hid rfl
 cases f with
 |zero=>exact h.elim
 |succ f=>
 cases t with
 |node op arg s N D name kids=>
  obtain⟨x1,x2,x3,x4,x5,x6,a,cap,rfl,hcp,hn,hr⟩:=h.shape
  clear h hr
  have hk:Kept w (w.alloc (.cells #[.int .i64 op,.int .i64 arg,.bool s,.slice x1 x2 x3,.slice x4 x5 x6,.string name,.slice a kids.length cap] 27)):=(Kept.refl w).alloc _
  have hcl:=count_calls (f+1) (hh.kept hk) (hT.kept hk) 1 0 (by omega) (by omega)
  clear hh
  generalize hy:Tree.node op arg s N D name kids=y at*
  cases hcn:cnt y 1 0 with
  |none=>
   rw[hcn] at hc hcl
   go_enter Tryz.func24,Tryz.ntmps24
   go_wp2_with(first|(go_at_call 51;refine hcl.mono ?_;rintro e wa ⟨rfl,hka⟩))
   go_ret
   exact⟨by rw[hc.out];rfl,hk.trans hka⟩
  |some m=>
   rw[hcn] at hc hcl
   have hm:=(cnt_le _ _ _ _ hcn).2
   have e2:(((some m).getD 301:Nat):Int)=(m:Int):=rfl
   rw[e2] at hcl
   clear e2
   have t:decide ((m:Int)≤300)=true:=by simp;omega
   go_enter Tryz.func24,Tryz.ntmps24
   go_wp2_with(first|(go_at_call 51;refine hcl.mono ?_;rintro e wa ⟨rfl,hka⟩))
   go_ret
   exact⟨by rw[hc.out];rfl,hk.trans hka⟩
set_option maxHeartbeats 2000000 in
set_option maxRecDepth 100000 in
theorem rvalid_calls{f:Nat}{w:World}{v:Value}{t:Tree}(h:Ex w f v t)(hT:Laid w):
 Calls Tryz.prog 33 #[v] w fun e w'=>e= .returned (.bool t.ok)∧Kept w w':=by
 have hh:=h
 have hc:Hid (t.ok=(cnt t 1 0).isSome):=Lib.hid rfl
 cases f with
 |zero=>exact h.elim
 |succ f=>
 cases t with
 |node op arg s N D name kids=>
  obtain⟨x1,x2,x3,x4,x5,x6,a,cap,rfl,hcp,hn,hr⟩:=h.shape
  clear h hr
  have hk:Kept w (w.alloc (.cells #[.int .i64 op,.int .i64 arg,.bool s,.slice x1 x2 x3,.slice x4 x5 x6,.string name,.slice a kids.length cap] 27)):=(Kept.refl w).alloc _
  have hcl:=walk_calls (f+1) (hh.kept hk) (hT.kept hk) 1 0 (by omega) (by omega)
  clear hh
  generalize hy:Tree.node op arg s N D name kids=y at*
  cases hcn:cnt y 1 0 with
  |none=>
   rw[hcn] at hc hcl
   go_enter Tryz.func33,Tryz.ntmps33
   go_wp2_with(first|(go_at_call 63;refine hcl.mono ?_;rintro e wa ⟨rfl,hka⟩))
   go_ret
   exact⟨by rw[hc.out];rfl,hk.trans hka⟩
  |some m=>
   rw[hcn] at hc hcl
   have hm:=(cnt_le _ _ _ _ hcn).2
   have e2:wres (some m)=300-(m:Int):=rfl
   rw[e2] at hcl
   clear e2
   have t:decide ((m:Int)≤300)=true:=by simp;omega
   go_enter Tryz.func33,Tryz.ntmps33
   go_wp2_with(first|(go_at_call 63;refine hcl.mono ?_;rintro e wa ⟨rfl,hka⟩))
   go_ret
   exact⟨by rw[hc.out];rfl,hk.trans hka⟩
end
section
open Go Go.RowKit Go.Dig Go.Deep
open Go.Eng (Kept KW KeptB)
mutual
def nodesT:Tree→Nat
 | .node _ _ _ _ _ _ kids=>nodesL kids+1
def nodesL:List Tree→Nat
 |[]=>0
 |t::ts=>nodesT t+nodesL ts
end
mutual
def varsT:Tree→List ByteArray
 | .node op _ _ _ _ name kids=>if op=2 then [name] else varsL kids
def varsL:List Tree→List ByteArray
 |[]=>[]
 |t::ts=>varsT t++varsL ts
end
mutual
theorem cnt_nodes:∀(t:Tree)(d m m':Nat),cnt t d m=some m'→m'=m+nodesT t
 | .node op arg s N D name kids,d,m,m'=>by
   intro h
   rw[cnt] at h
   split at h
   ·cases h
   ·have:=cnts_nodes kids (d+1) (m+1) m' h
    rw[nodesT];omega
theorem cnts_nodes:∀(ts:List Tree)(d m m':Nat),cnts ts d m=some m'→m'=m+nodesL ts
 |[],d,m,m'=>by
  intro h
  rw[cnts] at h
  cases h
  simp[nodesL]
 |t::ts,d,m,m'=>by
  intro h
  rw[cnts] at h
  cases h1:cnt t d m with
  |none=>rw[h1] at h;cases h
  |some m1=>
   rw[h1] at h
   have h2:=cnt_nodes t d m m1 h1
   have h3:=cnts_nodes ts d m1 m' h
   rw[nodesL];omega
end
theorem Tree.ok_nodes{t:Tree}(h:t.ok=true):nodesT t≤300:=by
 unfold Tree.ok at h
 obtain⟨m,hm⟩:=Option.isSome_iff_exists.1 h
 have h1:=cnt_nodes _ _ _ _ hm
 have h2:=cnt_le _ _ _ _ hm
 omega
def RetNames(ss vs:List ByteArray)(n:Nat)(w:World)(e:Ending)(w':World):Prop:=
 ∃(a:Option Addr)(n' cap:Nat)(ts:List ByteArray),e= .returned (.slice a n' cap)∧SL w' a n' ts∧n'≤cap∧n'≤n∧(∀x,x∈ts↔x∈ss∨x∈vs)∧Kept w w'
theorem varsL_take{kids:List Tree}{k:Nat}(h:k<kids.length)(x:ByteArray):x∈varsL (kids.take (k+1))↔x∈varsL (kids.take k)∨x∈varsT kids[k]:=by
 have app:∀(a b:List Tree),varsL (a++b)=varsL a++varsL b:=by
  intro a b
  induction a with
  |nil=>simp[varsL]
  |cons t ts ih=>simp[varsL,ih]
 rw[List.take_succ_eq_append_getElem h,app]
 simp[varsL]
theorem nodesL_drop{kids:List Tree}{k:Nat}(h:k<kids.length):nodesL (kids.drop k)=nodesT kids[k]+nodesL (kids.drop (k+1)):=by
 rw[List.drop_eq_getElem_cons h,nodesL]
set_option maxHeartbeats 2000000 in
set_option maxRecDepth 100000 in
theorem names04_calls:∀(f:Nat){w:World}{v:Value}{t:Tree},Ex w f v t→∀(a:Option Addr)(n cap:Nat)(ss:List ByteArray),SL w a n ss→n≤cap→n+nodesT t≤100000→
 Calls Tryz.prog 66 #[v,.slice a n cap] w (RetNames ss (varsT t) (n+nodesT t) w)
 |0,_,_,_,h=>h.elim
 |f+1,w,v,.node op arg s N D name kids,h=>by
  intro a n cap ss hsl hcap hb
  obtain⟨x1,x2,x3,x4,x5,x6,a0,cap0,rfl,hc,hn,hr⟩:=h.shape
  have hkid:=fun(i:Nat)(hi:i<kids.length)=>h.kid hi
  clear h hr
  have hk:Kept w (w.alloc (.cells #[.int .i64 op,.int .i64 arg,.bool s,.slice x1 x2 x3,.slice x4 x5 x6,.string name,.slice a0 kids.length cap0] 27)):=(Kept.refl w).alloc _
  have hbx:=Blk.new w #[.int .i64 op,.int .i64 arg,.bool s,.slice x1 x2 x3,.slice x4 x5 x6,.string name,.slice a0 kids.length cap0] 27
  have HNT:Hid (nodesT (.node op arg s N D name kids)=nodesL kids+1):=Lib.hid (by rw[nodesT])
  have HB:=Lib.hid hb;clear hb
  by_cases h2:op=2
  ·subst h2
   have HV:Hid (varsT (.node 2 arg s N D name kids)=[name]):=Lib.hid (by rw[varsT,if_pos rfl])
   have hp:=put_calls (hsl.kept hk) hcap (by have:=HB.out;omega) name
   clear hkid
   go_enter Tryz.func66,Tryz.ntmps66
   go_wp2_with(first|(go_at_call 141;refine hp.mono ?_;rintro e w1 ⟨a1,n1,c1,ts,rfl,hsl1,hc1,hn1,hm1,hk1⟩))
   go_ret
   exact⟨a1,n1,c1,ts,rfl,hsl1,hc1,by rw[HNT.out];omega,fun x=>by rw[hm1,HV.out];simp,hk.trans hk1⟩
  have t2:(op==2)=false:=by simpa using h2
  have HV:Hid (varsT (.node op arg s N D name kids)=varsL kids):=Lib.hid (by rw[varsT,if_neg h2])
  go_enter Tryz.func66,Tryz.ntmps66
  go_wp2
  go_loopw [1,5] (fun c i wr=>∃(k n':Nat)(a':Option Addr)(cap':Nat)(ts:List ByteArray),k≤kids.length∧i= .int .i64 (k:Int)∧c= .slice a' n' cap'∧n'≤cap'∧SL wr a' n' ts∧
   n'+nodesL (kids.drop k)≤n+nodesL kids∧(∀x,x∈ts↔x∈ss∨x∈varsL (kids.take k))∧Kept w wr∧
   Kept (w.alloc (.cells #[.int .i64 op,.int .i64 arg,.bool s,.slice x1 x2 x3,.slice x4 x5 x6,.string name,.slice a0 kids.length cap0] 27)) wr) (fun _ i _=>kids.length-(intOf i).toNat)
  case atStart=>exact⟨0,n,a,cap,ss,Nat.zero_le _,rfl,rfl,hcap,hsl.kept hk,by simp,fun x=>by simp[varsL],hk,Kept.refl _⟩
  case round=>
   obtain⟨k,n',a',cap',ts,hkl,rfl,rfl,hcap',hsl',hnn,hmem,hkw,hkb⟩:=hrel
   have HM:=Lib.hid hmem;clear hmem
   have HNN:=Lib.hid hnn;clear hnn
   obtain⟨-,-,-,-,-,-,e6,-⟩:=(hbx.kept hkb).facts7
   by_cases hlt:k<kids.length
   ·obtain⟨b,off,o,g,z,u1,u2,u3,u4,u5,u6,nm,a',n',cap',rfl,c0,c1,c2,c3,c4,c5,c6,hex⟩:=hkid k hlt
    replace c0:=hkw.cell c0
    replace c1:=hkw.cell c1
    replace c2:=hkw.cell c2
    replace c3:=hkw.cell c3
    replace c4:=hkw.cell c4
    replace c5:=hkw.cell c5
    replace c6:=hkw.cell c6
    have hnd:=nodesL_drop hlt
    have hih:=names04_calls f (hex.kept hkw) _ _ _ _ hsl' hcap' (by have:=HB.out;have:=HNN.out;have:=HNT.out;omega)
    have HND:=Lib.hid hnd;clear hnd
    clear hkid hex
    go_wp2_with(first|(go_at_call 66;refine hih.mono ?_;rintro e w2 ⟨a2,n2,c2',ts2,rfl,hsl2,hc2,hn2,hm2,hk2⟩))
    go_roundw
    case rel=>exact⟨k+1,n2,a2,c2',ts2,by omega,by go_num,rfl,hc2,hsl2,by have:=HND.out;have:=HNN.out;omega,fun x=>by rw[hm2,HM.out,varsL_take hlt,or_assoc],hkw.trans hk2,hkb.trans hk2⟩
    case measure=>simp[intOf];omega
   ·obtain rfl:kids.length=k:=by omega
    clear hkid
    go_wp2
    go_ret
    exact⟨a',n',cap',ts,rfl,hsl',hcap',by have h1:=HNN.out;rw[List.drop_length,nodesL] at h1;have:=HNT.out;omega,fun x=>by rw[HM.out,HV.out,List.take_length],hkw⟩
end
section
open Go Go.RowKit Go.Dig Go.Shelf
open Go.Eng (Kept KW KeptB)
attribute [local go_sem] Oper.semAt_some
structure Nv where
 op:Int
 arg:Int
 s:Bool
 x1:Option Addr
 x2:Nat
 x3:Nat
 x4:Option Addr
 x5:Nat
 x6:Nat
 name:ByteArray
 a:Option Addr
 n:Nat
 cap:Nat
 short:name.size≤8
def Nv.val(x:Nv):Value:=.agg #[.int .i64 x.op,.int .i64 x.arg,.bool x.s,.slice x.x1 x.x2 x.x3,.slice x.x4 x.x5 x.x6,.string x.name,.slice x.a x.n x.cap]
def Nv.At(w:World)(b o:Nat)(x:Nv):Prop:=
 w.cell? ⟨b,o,none⟩=some (.int .i64 x.op)∧w.cell? ⟨b,o+1,none⟩=some (.int .i64 x.arg)∧w.cell? ⟨b,o+2,none⟩=some (.bool x.s)∧w.cell? ⟨b,o+3,none⟩=some (.slice x.x1 x.x2 x.x3)∧
 w.cell? ⟨b,o+4,none⟩=some (.slice x.x4 x.x5 x.x6)∧w.cell? ⟨b,o+5,none⟩=some (.string x.name)∧w.cell? ⟨b,o+6,none⟩=some (.slice x.a x.n x.cap)
theorem Nv.At.kept{w w':World}{b o:Nat}{x:Nv}(h:x.At w b o)(k:Kept w w'):x.At w' b o:=
 ⟨k.cell h.1,k.cell h.2.1,k.cell h.2.2.1,k.cell h.2.2.2.1,k.cell h.2.2.2.2.1,k.cell h.2.2.2.2.2.1,k.cell h.2.2.2.2.2.2⟩
theorem kept_of_below{w w':World}(h:Below w.heap.size w w'):Kept w w':=⟨h.size,h.block,h.tape,h.os,h.output⟩
theorem below_of_kept{w w':World}(h:Kept w w'):Below w.heap.size w w':=⟨h.os,h.tape,h.output,h.size,h.old⟩
def Lst(w:World):Nat→Nv→List Nv→Prop
 |0,_,_=>False
 |f+1,x,L=>∃ls:Nat→List Nv,L=x::(List.range x.n).flatMap ls∧x.n<4611686018427387904∧
   ∀i,i<x.n→∃b off y,x.a=some ⟨b,off,none⟩∧Nv.At w b (off+i*7) y∧Lst w f y (ls i)
theorem flat_step(ls:Nat→List Nv)(k:Nat):(List.range (k+1)).flatMap ls=(List.range k).flatMap ls++ls k:=by
 rw[List.range_succ,List.flatMap_append];simp
theorem flat_prefix(ls:Nat→List Nv):∀{n k:Nat},k≤n→(List.range k).flatMap ls<+:(List.range n).flatMap ls:=by
 intro n k h
 induction n with
 |zero=>obtain rfl:k=0:=by omega
        exact List.prefix_refl _
 |succ n ih=>
  by_cases hk:k=n+1
  ·subst hk;exact List.prefix_refl _
  ·rw[flat_step]
   exact(ih (by omega)).trans (List.prefix_append _ _)
theorem room_none{F:Fence}(hd:F.depth=none)(k:Nat):F.room k:=fun d h=>by rw[hd] at h;cases h
theorem roundIn_any{F:Fence}(hd:F.depth=none){m m':Nat}{P:Program}{l:Nat}{f:FuncId}{tmps:Array Value}{assign body:Code}{w:World}{R:Ending→World→Prop}
 (h:RoundIn F m P l f tmps assign body w R):RoundIn F m' P l f tmps assign body w R:=⟨h.1,fun c cs _=>h.2 c cs (room_none hd _)⟩
theorem yieldAt_any{F:Fence}(hd:F.depth=none){m:Nat}(m':Nat){P:Program}{l:Nat}{args:Array Value}{W:World}{R:Ending→World→Prop}(h:YieldAt F m P l args W R):YieldAt F m' P l args W R:=by
 obtain⟨fn,tmps,assign,body,hy,hR⟩:=h
 exact⟨fn,tmps,assign,body,hy,roundIn_any hd hR⟩
def KC(n₀:Nat)(W W':World):Prop:=Below n₀ W W'∧∀(b:Nat)(o:Obj),W.heap[b]? =some o→o.isCells=true→W'.heap[b]? =some o
theorem KC.refl(n₀:Nat)(W:World):KC n₀ W W:=⟨Below.refl _ _,fun _ _ h _=>h⟩
theorem KC.trans{n₀:Nat}{A B C:World}(h:KC n₀ A B)(k:KC n₀ B C):KC n₀ A C:=⟨h.1.trans k.1,fun b o hb ho=>k.2 b o (h.2 b o hb ho) ho⟩
theorem KC.alloc{n₀:Nat}{A B:World}(h:KC n₀ A B)(hn:n₀≤B.heap.size)(o:Obj):KC n₀ A (B.alloc o):=
 h.trans ⟨(Below.refl _ B).alloc hn o,fun b _ hb _=>(Below.heap_alloc B o b (Array.getElem?_eq_some_iff.1 hb).1).trans hb⟩
theorem KC.blk{n₀:Nat}{A B:World}(h:KC n₀ A B){b:Nat}{cs:Array Value}{t:TypeId}(hb:Blk A b cs t):Blk B b cs t:=h.2 b _ hb rfl
set_option maxRecDepth 100000 in
set_option maxHeartbeats 4000000 in
theorem each_in(F:Fence)(hd:F.depth=none)(hf:F.fn 187)(hro:F.round=none)(l N:Nat)(w0:World)(J Jx:List Nv→World→Prop)(hJ:∀pre W o,J pre W→J pre (W.alloc o))
 (hY:∀m pre x W,J pre W→pre.length<N→YieldAt F m Tryz.prog l #[Nv.val x] W fun e W'=>
   (e= .returned (.bool true)∧J (pre++[x]) W'∧KC w0.heap.size W W')∨(e= .returned (.bool false)∧Jx (pre++[x]) W')):
 ∀(f:Nat)(x:Nv)(L:List Nv),Lst w0 f x L→∀(n:Nat)(pre:List Nv)(W:World),Below w0.heap.size w0 W→J pre W→pre.length+L.length≤N→
  CallsIn F n Tryz.prog 187 #[x.val,.func (.yield l) #[] #[]] W fun e W'=>
   (e= .returned (.bool true)∧J (pre++L) W'∧KC w0.heap.size W W')∨(e= .returned (.bool false)∧∃q,q<+:L∧Jx (pre++q) W')
 |0,_,_,h=>h.elim
 |f+1,x,L,h=>by
  intro n pre W hB hJ0 hN
  obtain⟨ls,rfl,hn,hk⟩:=h
  have hdd:∀k:Nat,(F.depth.isSome=true→1≤k):=fun k h=>by rw[hd] at h;cases h
  have hJ1:=hJ pre W (.cells #[.int .i64 x.op,.int .i64 x.arg,.bool x.s,.slice x.x1 x.x2 x.x3,.slice x.x4 x.x5 x.x6,.string x.name,.slice x.a x.n x.cap] 27) hJ0
  have hB1:Below w0.heap.size W (W.alloc (.cells #[.int .i64 x.op,.int .i64 x.arg,.bool x.s,.slice x.x1 x.x2 x.x3,.slice x.x4 x.x5 x.x6,.string x.name,.slice x.a x.n x.cap] 27)):=(Below.refl _ W).alloc hB.size _
  have hbx:=Blk.new W #[.int .i64 x.op,.int .i64 x.arg,.bool x.s,.slice x.x1 x.x2 x.x3,.slice x.x4 x.x5 x.x6,.string x.name,.slice x.a x.n x.cap] 27
  obtain⟨fn,tmps,assign,body,hy,hR⟩:=hY (n-1) pre x _ hJ1 (by simp at hN;omega)
  dsimp only[Nv.val] at hy⊢
  have HN:=Lib.hid hn;clear hn
  generalize x.a=xa at*
  refine callsIn_of_wp Tryz.func187 rfl hf ?_ hro
  simp only[Tryz.ntmps187,List.size_toArray,List.length_cons,List.length_nil,Nat.reduceAdd,Nat.reduceSub,Array.replicate_succ,Array.replicate_zero,List.push_toArray,List.append_toArray,List.nil_append,List.cons_append]
  have HK:=Lib.hid hk;clear hk
  gi_wp2_with fail
  refine hR.mono ?_
  clear hR hy
  rintro e W2 (⟨rfl,hJ2,hk2⟩|⟨rfl,hx2⟩)
  ·obtain⟨-,-,-,-,-,-,e6,-⟩:=(hk2.blk hbx).facts7
   have hkW2:KC w0.heap.size W W2:=((KC.refl _ W).alloc hB.size _).trans hk2
   gi_wp2
   gi_loopw [14] (fun i wr=>∃k:Nat,k≤x.n∧i= .int .i64 (k:Int)∧J (pre++[x]++(List.range k).flatMap ls) wr∧KC w0.heap.size W wr) (fun i _=>x.n-(intOf i).toNat)
   case atStart=>exact⟨0,Nat.zero_le _,rfl,by simpa using hJ2,hkW2⟩
   case round=>
    obtain⟨k,hkn,rfl,hJk,hkr⟩:=hrel
    by_cases hlt:k<x.n
    ·have hn:=HN.out
     obtain⟨b,off,y,rfl,hat,hly⟩:=HK.out k hlt
     obtain⟨c0,c1,c2,c3,c4,c5,c6⟩:=hat.kept (kept_of_below (hB.trans hkr.1))
     have hlen:(pre++[x]++(List.range k).flatMap ls).length+(ls k).length≤N:=by
      have h1:=(flat_prefix ls (show k+1≤x.n by omega)).length_le
      rw[flat_step] at h1
      simp only[List.length_append,List.length_cons,List.length_nil] at h1 hN⊢
      omega
     have hih:=each_in F hd hf hro l N w0 J Jx hJ hY f y (ls k) hly (n-1) (pre++[x]++(List.range k).flatMap ls)
      (wr.alloc (.cells #[.int .i64 y.op,.int .i64 y.arg,.bool y.s,.slice y.x1 y.x2 y.x3,.slice y.x4 y.x5 y.x6,.string y.name,.slice y.a y.n y.cap] 27)) ((hB.trans hkr.1).alloc (Nat.le_trans hB.size hkr.1.size) _) (hJ _ _ _ hJk) hlen
     have hk3:KC w0.heap.size W (wr.alloc (.cells #[.int .i64 y.op,.int .i64 y.arg,.bool y.s,.slice y.x1 y.x2 y.x3,.slice y.x4 y.x5 y.x6,.string y.name,.slice y.a y.n y.cap] 27)):=hkr.alloc (Nat.le_trans hB.size hkr.1.size) _
     have HP:Hid (∀q,q<+:ls k→x::((List.range k).flatMap ls++q)<+:x::(List.range x.n).flatMap ls):=Lib.hid fun q hq=>by
      have h1:=flat_prefix ls (show k+1≤x.n by omega)
      rw[flat_step] at h1
      exact List.cons_prefix_cons.2 ⟨rfl,(List.prefix_append_right_inj _ |>.2 hq).trans h1⟩
     dsimp only[Nv.val] at hih
     clear hlen hly
     obtain⟨op',arg',s',u1,u2,u3,u4,u5,u6,nm',a',n',cap',sh'⟩:=y
     dsimp only at c0 c1 c2 c3 c4 c5 c6 hih hk3
     gi_wp2_with ((try refine⟨hdd _,?_⟩);gi_at_call 187;refine hih.mono ?_;clear hih;rintro e W3 (⟨rfl,hJ3,hk4⟩|⟨rfl,q,hq,hx3⟩))
     ·go_roundw
      case rel=>exact⟨k+1,by omega,by go_num,by rw[flat_step,←List.append_assoc];exact hJ3,hk3.trans hk4⟩
      case measure=>simp[intOf];omega
     ·go_ret
      exact .inr ⟨rfl,_,HP.out q hq,by simpa [List.append_assoc] using hx3⟩
    ·obtain rfl:k=x.n:=by omega
     have hn:=HN.out
     gi_wp2
     go_ret
     exact .inl ⟨rfl,by simpa [List.append_assoc] using hJk,hkr⟩
  ·gi_wp2
   go_ret
   exact .inr ⟨rfl,[x],⟨(List.range x.n).flatMap ls,rfl⟩,hx2⟩
end
section
open Go Go.RowKit Go.Dig Go.Shelf
open Go.Eng (Kept KW KeptB)
attribute [local go_sem] Oper.semAt_some
set_option maxRecDepth 100000 in
set_option maxHeartbeats 1000000 in
theorem nodes1_in(F:Fence)(hd:F.depth=none)(h311:F.fn 186)(h312:F.fn 187)(hro:F.round=none)(l Bx:Nat)(w0:World)(f:Nat)(x:Nv)(L:List Nv)(hL:Lst w0 f x L)(J Jx:List Nv→World→Prop)
 (hJ:∀pre W o,J pre W→J pre (W.alloc o))(n:Nat)
 (hY:∀pre x W,J pre W→pre.length<L.length→YieldAt F (n-1) Tryz.prog l #[Nv.val x] W fun e W'=>
   (e= .returned (.bool true)∧J (pre++[x]) W'∧KC w0.heap.size W W')∨(e= .returned (.bool false)∧Jx (pre++[x]) W'))
 (W:World)(hB:Below w0.heap.size w0 W)(hbx:Blk W Bx #[.int .i64 x.op,.int .i64 x.arg,.bool x.s,.slice x.x1 x.x2 x.x3,.slice x.x4 x.x5 x.x6,.string x.name,.slice x.a x.n x.cap] 27)(h0:J [] W):
 CallsIn F n Tryz.prog 186 #[.func (.yield l) #[] #[],.pointer (some ⟨Bx,0,none⟩)] W fun e W'=>(∃v,e= .returned v)∧
  ((∃ys,ys=L∧J ys W')∨(∃pre,pre<+:L∧Jx pre W')):=by
 have hdd:∀k:Nat,(F.depth.isSome=true→1≤k):=fun k h=>by rw[hd] at h;cases h
 have hp:=each_in F hd h312 hro l L.length w0 J Jx hJ (fun m pre x W hj hl=>yieldAt_any hd m (hY pre x W hj hl)) f x L hL (n-1) [] W hB h0 (by simp)
 obtain⟨c0,c1,c2,c3,c4,c5,c6,-⟩:=hbx.facts7
 dsimp only[Nv.val] at hp
 refine callsIn_of_wp Tryz.func186 rfl h311 ?_ hro
 simp only[Tryz.ntmps186,List.size_toArray,List.length_cons,List.length_nil,Nat.reduceAdd,Nat.reduceSub,Array.replicate_succ,Array.replicate_zero,List.push_toArray,List.append_toArray,List.nil_append,List.cons_append]
 gi_wp2_with ((try refine⟨hdd _,?_⟩);gi_at_call 187;refine hp.mono ?_;clear hp;rintro e W1 (⟨rfl,hJ1,_⟩|⟨rfl,q,hq,hx⟩))
 ·go_end0
  exact⟨⟨_,rfl⟩,.inl ⟨_,rfl,by simpa using hJ1⟩⟩
 ·go_end0
  exact⟨⟨_,rfl⟩,.inr ⟨q,hq,by simpa using hx⟩⟩
set_option maxHeartbeats 1000000 in
theorem nodes_in(F:Fence)(n:Nat)(h229:F.fn 110)(hro:F.round=none)(x:Nv)(w:World):
 CallsIn F n Tryz.prog 110 #[.agg #[.int .i64 x.op,.int .i64 x.arg,.bool x.s,.slice x.x1 x.x2 x.x3,.slice x.x4 x.x5 x.x6,.string x.name,.slice x.a x.n x.cap]] w fun e w'=>e= .returned (.func (.func 186) #[] #[.pointer (some ⟨w.heap.size,0,none⟩)])∧
  w'=w.alloc (.cells #[.int .i64 x.op,.int .i64 x.arg,.bool x.s,.slice x.x1 x.x2 x.x3,.slice x.x4 x.x5 x.x6,.string x.name,.slice x.a x.n x.cap] 27):=by
 have hmf:∀(fn:Fn)(first cap:Array Value)(w:World),(Instr.makeFunc fn first cap).run Tryz.prog w= .ok (.func fn first cap) w:=fun _ _ _ _=>rfl
 refine callsIn_of_wp Tryz.func110 rfl h229 ?_ hro
 simp only[Tryz.ntmps110,List.size_toArray,List.length_cons,List.length_nil,Nat.reduceAdd,Nat.reduceSub,Array.replicate_succ,Array.replicate_zero,List.push_toArray,List.append_toArray,List.nil_append,List.cons_append]
 gi_wp2
 go_ret
 exact⟨rfl,rfl⟩
theorem nodes_stops(F:Fence)(hd:F.depth=none)(n:Nat)(h311:F.fn 186)(h312:F.fn 187)(hro:F.round=none)(Bx:Nat)(w0:World)(f:Nat)(x:Nv)(L:List Nv)(hL:Lst w0 f x L)(w:World)(hB:Below w0.heap.size w0 w)
 (hbx:Blk w Bx #[.int .i64 x.op,.int .i64 x.arg,.bool x.s,.slice x.x1 x.x2 x.x3,.slice x.x4 x.x5 x.x6,.string x.name,.slice x.a x.n x.cap] 27):
 SeqStopsK F n Tryz.prog 186 #[.pointer (some ⟨Bx,0,none⟩)] (fun x:Nv=>#[x.val]) (KC w0.heap.size) (fun ys=>ys=L) (fun pre=>pre<+:L) L.length w:=fun l J Jx W hW hJ _ hY h0=>
 nodes1_in F hd h311 h312 hro l Bx w0 f x L hL J Jx (fun pre W o h=>hJ pre W _ none h (World.grownBy_alloc W o none) (fun r e=>by cases e)) n hY W (hB.trans (hW.mono hB.size)) ((kept_of_below hW).old _ hbx.lt |>.trans hbx) h0
theorem kc_putObj{n₀:Nat}(W:World)(l:Nat)(o o':Obj)(hn:n₀≤l)(h:W.heap[l]? =some o)(ho:o.isCells=false):KC n₀ W (W.putObj l o'):=
 ⟨(Below.refl n₀ W).grown (grownBy_putObj' W l o') (by have:=(Array.getElem?_eq_some_iff.1 h).1;omega) (fun k e=>by cases e;omega),
  fun b o2 hb hc=>by
   by_cases e:b=l
   ·subst e;rw[h] at hb;cases hb;rw[ho] at hc;cases hc
   ·exact((grownBy_putObj' W l o').block b (Array.getElem?_eq_some_iff.1 hb).1 (fun h=>e (by cases h;rfl))).trans hb⟩
end
section
open Go Go.RowKit Go.Dig
open Go.Eng (Kept KW KeptB wp_region_kw kw_call)
instance:Inhabited SideD:=⟨⟨.empty,⟨false,0,0,false,0,0,false,false⟩⟩⟩
def sideOk(l:List SideD)(k:Nat):Bool:=isName (l.getD k default).name&&(k==0||Op.bytesLess (l.getD (k-1) default).name.toList (l.getD k default).name.toList)&&(l.getD k default).iv.fine&& !(l.getD k default).iv.void
def boxOk(l:List SideD):Bool:=decide (l.length≤6)&&(List.range l.length).all (sideOk l)
theorem boxOk_big{l:List SideD}(h:6<l.length):boxOk l=false:=by unfold boxOk;simp;omega
theorem boxOk_bad{l:List SideD}{k:Nat}(hk:k<l.length)(h:sideOk l k=false):boxOk l=false:=by
 unfold boxOk
 have:(List.range l.length).all (sideOk l)=false:=by
  rw[List.all_eq_false]
  exact⟨k,List.mem_range.2 hk,by simp[h]⟩
 rw[this,Bool.and_false]
theorem boxOk_good{l:List SideD}(h6:l.length≤6)(h:∀k,k<l.length→sideOk l k=true):boxOk l=true:=by
 unfold boxOk
 have:(List.range l.length).all (sideOk l)=true:=by
  rw[List.all_eq_true]
  exact fun k hk=>h k (List.mem_range.1 hk)
 rw[this,Bool.and_true];simpa using h6
theorem getD_at{l:List SideD}{k:Nat}(h:k<l.length):l.getD k default=l[k]:=by simp[List.getD,h]
theorem sideOk_name{l:List SideD}{k:Nat}(h:k<l.length)(hn:isName l[k].name=false):sideOk l k=false:=by
 unfold sideOk;rw[getD_at h,hn];rfl
theorem sideOk_order{l:List SideD}{j:Nat}(h:j+1<l.length)(hn:Op.bytesLess l[j].name.toList l[j+1].name.toList=false):sideOk l (j+1)=false:=by
 unfold sideOk;rw[Nat.add_sub_cancel,getD_at h,getD_at (Nat.lt_of_succ_lt h),hn];simp
theorem sideOk_iv{l:List SideD}{k:Nat}(h:k<l.length)(hn:(l[k].iv.fine&& !l[k].iv.void)=false):sideOk l k=false:=by
 unfold sideOk;rw[getD_at h,Bool.and_assoc,hn,Bool.and_false]
theorem sideOk_zero{l:List SideD}(h:0<l.length)(h1:isName l[0].name=true)(h2:l[0].iv.fine=true)(h3:l[0].iv.void=false):sideOk l 0=true:=by
 unfold sideOk;rw[getD_at h,h1,h2,h3];rfl
theorem sideOk_succ{l:List SideD}{j:Nat}(h:j+1<l.length)(h1:isName l[j+1].name=true)(h2:l[j+1].iv.fine=true)(h3:l[j+1].iv.void=false)
 (hn:Op.bytesLess l[j].name.toList l[j+1].name.toList=true):sideOk l (j+1)=true:=by
 unfold sideOk;rw[Nat.add_sub_cancel,getD_at h,getD_at (Nat.lt_of_succ_lt h),h1,h2,h3,hn];simp
set_option maxHeartbeats 1000000 in
set_option maxRecDepth 100000 in
theorem evalid_calls{w:World}{a:Option Addr}{n cap:Nat}{l:List SideD}(h:Bxm w a n cap l)(hT:Laid w):
 Calls Tryz.prog 23 #[.slice a n cap] w fun e w'=>e= .returned (.bool (boxOk l))∧Kept w w':=by
 obtain⟨rfl,hc,hbd,hi⟩:=h
 by_cases h6:6<l.length
 ·have t6:decide (6<(l.length:Int))=true:=by simp;omega
  go_enter Tryz.func23,Tryz.ntmps23
  go_wp2
  go_ret
  exact⟨by rw[boxOk_big h6];rfl,Kept.refl w⟩
 have t6:decide (6<(l.length:Int))=false:=by simp;omega
 go_enter Tryz.func23,Tryz.ntmps23
 go_wp2
 go_loopw [12] (fun s wr=>∃k:Nat,k≤l.length∧s= .int .i64 (k:Int)∧(∀j,j<k→sideOk l j=true)∧Kept w wr) (fun s _=>l.length-(intOf s).toNat)
 case atStart=>exact⟨0,Nat.zero_le _,rfl,fun j h=>absurd h (Nat.not_lt_zero j),Kept.refl w⟩
 case round=>
  obtain⟨k,hk,rfl,hok,hkw⟩:=hrel
  have HOK:=Lib.hid hok;clear hok
  have H6:Hid (l.length≤6):=Lib.hid (by omega)
  by_cases hlt:k<l.length
  ·obtain⟨b,off,s1,a1,n1,c1,a2,n2,c2,s2,a3,n3,c3,a4,n4,c4,p,q,rfl,h0,h1,h2,h3,h4,h5,h6,h7,h8,hv⟩:=hi k hlt
   have HNK:Hid (∃nk iv,l[k].name=nk∧l[k].iv=iv):=Lib.hid ⟨_,_,rfl,rfl⟩
   have hem:=fun(w':World)(hk':Kept w w')=>isempty_calls (hv.kept hk') (hT.kept hk')
   clear hv
   obtain⟨nk,iv,hnk,hiv⟩:=HNK.out
   clear HNK
   rw[hnk] at h0
   rw[hiv] at hem
   have HNK:=Lib.hid hnk;clear hnk
   have HIV:=Lib.hid hiv;clear hiv
   replace h0:=hkw.cell h0
   replace h1:=hkw.cell h1
   replace h2:=hkw.cell h2
   replace h3:=hkw.cell h3
   replace h4:=hkw.cell h4
   replace h5:=hkw.cell h5
   replace h6:=hkw.cell h6
   replace h7:=hkw.cell h7
   replace h8:=hkw.cell h8
   have hb1:=Blk.new wr #[.string nk,.bool s1,.slice a1 n1 c1,.slice a2 n2 c2,.bool s2,.slice a3 n3 c3,.slice a4 n4 c4,.bool p,.bool q] 45
   have hk1:Kept w (wr.alloc (.cells #[.string nk,.bool s1,.slice a1 n1 c1,.slice a2 n2 c2,.bool s2,.slice a3 n3 c3,.slice a4 n4 c4,.bool p,.bool q] 45)):=hkw.alloc _
   have HI:=Lib.hid hi;clear hi
   have hnm:=fun(w':World)=>eisname_calls w' nk
   go_wp2_with fail
   obtain⟨p0,p1,p2,p3,p4,p5,p6,p7,p8,_⟩:=hb1.facts9
   generalize (wr.alloc (.cells #[.string nk,.bool s1,.slice a1 n1 c1,.slice a2 n2 c2,.bool s2,.slice a3 n3 c3,.slice a4 n4 c4,.bool p,.bool q] 45))=w1 at*
   generalize wr.heap.size=b1 at*
   have a0:=fun(k:KW w1)=>k.kept.cell p0
   have hall:∀w',Kept w1 w'→w'.cell? ⟨b1,1,none⟩=some (.bool s1)∧w'.cell? ⟨b1,2,none⟩=some (.slice a1 n1 c1)∧w'.cell? ⟨b1,3,none⟩=some (.slice a2 n2 c2)∧w'.cell? ⟨b1,4,none⟩=some (.bool s2)∧
    w'.cell? ⟨b1,5,none⟩=some (.slice a3 n3 c3)∧w'.cell? ⟨b1,6,none⟩=some (.slice a4 n4 c4)∧w'.cell? ⟨b1,7,none⟩=some (.bool p)∧w'.cell? ⟨b1,8,none⟩=some (.bool q):=
    fun w' k=>⟨k.cell p1,k.cell p2,k.cell p3,k.cell p4,k.cell p5,k.cell p6,k.cell p7,k.cell p8⟩
   have HALL:=Lib.hid hall;clear hall p1 p2 p3 p4 p5 p6 p7 p8
   cases hin:isName nk
   ·rw[hin] at hnm
    refine wp_region_kw w1 (Kept.refl _) (by kernel_rfl) (by kernel_rfl) ?_
    repeat (go_big_quiet_step (first|(go_at_call 49;exact kw_call (hnm _))))
    refine wpQuiet_nil ?_
    rintro _ ⟨k2,rfl⟩
    go_wp2
    go_ret
    exact⟨by rw[boxOk_bad hlt (sideOk_name hlt (by rw[HNK.out];exact hin))];rfl,hk1.trans k2.kept⟩
   rw[hin] at hnm
   by_cases hk0:k=0
   ·subst hk0
    refine wp_region_kw w1 (Kept.refl _) (by kernel_rfl) (by kernel_rfl) ?_
    repeat (go_big_quiet_step (first|(go_at_call 49;exact kw_call (hnm _))))
    refine wpQuiet_nil ?_
    rintro _ ⟨k2,rfl⟩
    obtain⟨p1,p2,p3,p4,p5,p6,p7,p8⟩:=HALL.out _ k2.kept
    have hem:=hem _ (hk1.trans k2.kept)
    cases hf:iv.fine
    ·rw[hf] at hem
     go_wp2_with(go_at_call 50;refine hem.mono ?_;rintro e w3 ⟨rfl,hk3⟩)
     go_ret
     exact⟨by rw[boxOk_bad hlt (sideOk_iv hlt (by rw[HIV.out,hf];rfl))];rfl,(hk1.trans k2.kept).trans hk3⟩
    cases hvd:iv.void
    ·rw[hf,hvd] at hem
     go_wp2_with(go_at_call 50;refine hem.mono ?_;rintro e w3 ⟨rfl,hk3⟩)
     go_roundw
     case rel=>exact⟨1,by omega,by go_num,fun j hj=>by obtain rfl:j=0:=by omega
                                                       exact sideOk_zero hlt (by rw[HNK.out];exact hin) (by rw[HIV.out];exact hf) (by rw[HIV.out];exact hvd),(hk1.trans k2.kept).trans hk3⟩
     case measure=>simp[intOf];omega
    ·rw[hf,hvd] at hem
     go_wp2_with(go_at_call 50;refine hem.mono ?_;rintro e w3 ⟨rfl,hk3⟩)
     go_ret
     exact⟨by rw[boxOk_bad hlt (sideOk_iv hlt (by rw[HIV.out,hf,hvd];rfl))];rfl,(hk1.trans k2.kept).trans hk3⟩
   obtain⟨j,rfl⟩:∃j,k=j+1:=⟨k-1,by omega⟩
   obtain⟨b',off',s1',a1',n1',c1',a2',n2',c2',s2',a3',n3',c3',a4',n4',c4',p',q',e',h0',-⟩:=HI.out j (by omega)
   cases e'
   generalize hnj:l[j].name=nj at*
   have HNJ:=Lib.hid hnj;clear hnj
   have b1':=fun(k:KW w1)=>k.kept.cell (hk1.cell h0')
   have tk:decide (0<(j:Int)+1)=true:=by simp
   cases hlo:Op.bytesLess nj.toList nk.toList
   ·refine wp_region_kw w1 (Kept.refl _) (by kernel_rfl) (by kernel_rfl) ?_
    repeat (go_big_quiet_step (first|(go_at_call 49;exact kw_call (hnm _))))
    refine wpQuiet_nil ?_
    rintro _ ⟨k2,rfl⟩
    go_wp2
    go_ret
    exact⟨by rw[boxOk_bad hlt (sideOk_order hlt (by rw[HNK.out,HNJ.out];exact hlo))];rfl,hk1.trans k2.kept⟩
   ·refine wp_region_kw w1 (Kept.refl _) (by kernel_rfl) (by kernel_rfl) ?_
    repeat (go_big_quiet_step (first|(go_at_call 49;exact kw_call (hnm _))))
    refine wpQuiet_nil ?_
    rintro _ ⟨k2,rfl⟩
    obtain⟨p1,p2,p3,p4,p5,p6,p7,p8⟩:=HALL.out _ k2.kept
    have hem:=hem _ (hk1.trans k2.kept)
    cases hf:iv.fine
    ·rw[hf] at hem
     go_wp2_with(go_at_call 50;refine hem.mono ?_;rintro e w3 ⟨rfl,hk3⟩)
     go_ret
     exact⟨by rw[boxOk_bad hlt (sideOk_iv hlt (by rw[HIV.out,hf];rfl))];rfl,(hk1.trans k2.kept).trans hk3⟩
    cases hvd:iv.void
    ·rw[hf,hvd] at hem
     go_wp2_with(go_at_call 50;refine hem.mono ?_;rintro e w3 ⟨rfl,hk3⟩)
     go_roundw
     case rel=>exact⟨j+1+1,by omega,by go_num,fun i hi'=>by
                                                     by_cases h:i<j+1
                                                     ·exact HOK.out i h
                                                     ·obtain rfl:i=j+1:=by omega
                                                      exact sideOk_succ hlt (by rw[HNK.out];exact hin) (by rw[HIV.out];exact hf) (by rw[HIV.out];exact hvd) (by rw[HNK.out,HNJ.out];exact hlo),(hk1.trans k2.kept).trans hk3⟩
     case measure=>simp[intOf];omega
    ·rw[hf,hvd] at hem
     go_wp2_with(go_at_call 50;refine hem.mono ?_;rintro e w3 ⟨rfl,hk3⟩)
     go_ret
     exact⟨by rw[boxOk_bad hlt (sideOk_iv hlt (by rw[HIV.out,hf,hvd];rfl))];rfl,(hk1.trans k2.kept).trans hk3⟩
  ·obtain rfl:l.length=k:=by omega
   clear hi
   go_wp2
   go_ret
   exact⟨by rw[boxOk_good H6.out HOK.out];rfl,hkw⟩
end
section
open Go Go.RowKit Go.Dig
open Go.Eng (Kept KW KeptB)
def onlyW(w:World)(S:Nat→Bool):World:={w with heap:=w.heap.mapIdx fun b o=>if S b then o else .cells #[] 0}
theorem cell_only(w:World)(S:Nat→Bool)(a:Addr):(onlyW w S).cell? a=if S a.block then w.cell? a else none:=by
 unfold World.cell? onlyW
 simp only[Array.getElem?_mapIdx]
 cases h:w.heap[a.block]? with
 |none=>simp
 |some o=>
  cases hs:S a.block
  ·simp
  ·simp
def Sub(w w':World):Prop:=∀(a:Addr)(v:Value),w.cell? a=some v→w'.cell? a=some v
theorem Sub.trans{w w1 w2:World}(h:Sub w w1)(k:Sub w1 w2):Sub w w2:=fun a v hc=>k a v (h a v hc)
theorem Kept.sub{w w':World}(k:Kept w w'):Sub w w':=fun _ _ hc=>k.cell hc
theorem only_sub(w:World)(S:Nat→Bool):Sub (onlyW w S) w:=by
 intro a v h
 rw[cell_only] at h
 split at h
 ·exact h
 ·cases h
theorem only_move{w w':World}{S S':Nat→Bool}(h:∀b,b<w.heap.size→S b=true→S' b=true∧w'.heap[b]? =w.heap[b]?):Sub (onlyW w S) (onlyW w' S'):=by
 intro a v hc
 rw[cell_only] at hc⊢
 split at hc
 ·rename_i hs
  have hlt:a.block<w.heap.size:=World.block_lt_of_cell? w a hc
  obtain⟨h1,h2⟩:=h _ hlt hs
  rw[if_pos h1]
  unfold World.cell? at hc⊢
  rw[h2]
  exact hc
 ·cases hc
def ab(n:Nat):Nat→Bool:=fun b=>decide (n≤b)
theorem Ws.sub{w w':World}{a:Option Addr}{n:Nat}{zs:Nat→Nat}(h:Ws w a n zs)(k:Sub w w'):Ws w' a n zs:=fun i hi=>by
 obtain⟨b,off,e,hc⟩:=h i hi
 exact⟨b,off,e,k _ _ hc⟩
theorem Raw.sub{w w':World}{v:Value}{m:Nat}(h:Raw w v m)(k:Sub w w'):Raw w' v m:=by
 obtain⟨a,n,cap,zs,h1,h2,h3,h4,h5,h6⟩:=h
 exact⟨a,n,cap,zs,h1,h2,h3,h4,h5,h6.sub k⟩
theorem Rt.sub{w w':World}{v:Value}{neg:Bool}{N D:Nat}(h:Rt w v neg N D)(k:Sub w w'):Rt w' v neg N D:=by
 obtain⟨vn,vd,h1,h2,h3⟩:=h
 exact⟨vn,vd,h1,h2.sub k,h3.sub k⟩
theorem Ivl.sub{w w':World}{v:Value}{i:IvD}(h:Ivl w v i)(k:Sub w w'):Ivl w' v i:=by
 obtain⟨a,n,c,a',n',c',b,m,e,b',m',e',h1,h2,h3⟩:=h
 exact⟨a,n,c,a',n',c',b,m,e,b',m',e',h1,h2.sub k,h3.sub k⟩
theorem Ex.sub{w w':World}(k:Sub w w'):∀(f:Nat){v:Value}{t:Tree},Ex w f v t→Ex w' f v t
 |0,_,_,h=>h.elim
 |f+1,v,.node op arg s N D name kids,⟨x1,x2,x3,x4,x5,x6,a,cap,hv,hc,hr,hn,hk⟩=>by
  refine⟨x1,x2,x3,x4,x5,x6,a,cap,hv,hc,hr.sub k,hn,fun i h=> ?_⟩
  obtain⟨b,off,cs,ha,hs,hcell,he⟩:=hk i h
  refine⟨b,off,cs,ha,hs,fun j hj=> ?_,Ex.sub k f he⟩
  have h1:=hcell j hj
  rw[Array.getElem?_eq_getElem (by omega)] at h1⊢
  exact k _ _ h1
theorem Bxm.sub{w w':World}{a:Option Addr}{n cap:Nat}{l:List SideD}(h:Bxm w a n cap l)(k:Sub w w'):Bxm w' a n cap l:=by
 obtain⟨hn,hc,hb,hi⟩:=h
 refine⟨hn,hc,hb,fun i h=> ?_⟩
 obtain⟨b,off,s1,a1,n1,c1,a2,n2,c2,s2,a3,n3,c3,a4,n4,c4,p,q,ha,h0,h1,h2,h3,h4,h5,h6,h7,h8,hv⟩:=hi i h
 exact⟨b,off,s1,a1,n1,c1,a2,n2,c2,s2,a3,n3,c3,a4,n4,c4,p,q,ha,k _ _ h0,k _ _ h1,k _ _ h2,k _ _ h3,k _ _ h4,k _ _ h5,k _ _ h6,k _ _ h7,k _ _ h8,hv.sub k⟩
theorem Ex.agg7{w:World}:∀{f:Nat}{v:Value}{t:Tree},Ex w f v t→∃(o g:Int)(z:Bool)(x1:Option Addr)(x2 x3:Nat)(x4:Option Addr)(x5 x6:Nat)(nm:ByteArray)(a:Option Addr)(n cap:Nat),
 v= .agg #[.int .i64 o,.int .i64 g,.bool z,.slice x1 x2 x3,.slice x4 x5 x6,.string nm,.slice a n cap]
 |0,_,_,h=>h.elim
 |f+1,v,.node op arg s N D name kids,h=>by
  obtain⟨x1,x2,x3,x4,x5,x6,a,cap,rfl,-⟩:=h.shape
  exact⟨op,arg,s,x1,x2,x3,x4,x5,x6,name,a,kids.length,cap,rfl⟩
end
section
open Go Go.RowKit Go.Dig Go.Deep
def C7(w:World)(b:Nat)(x0 x1 x2 x3 x4 x5 x6:Value):Prop:=
 w.cell? ⟨b,0,none⟩=some x0∧w.cell? ⟨b,1,none⟩=some x1∧w.cell? ⟨b,2,none⟩=some x2∧w.cell? ⟨b,3,none⟩=some x3∧w.cell? ⟨b,4,none⟩=some x4∧w.cell? ⟨b,5,none⟩=some x5∧w.cell? ⟨b,6,none⟩=some x6
def K7(w:World)(b o:Nat)(x0 x1 x2 x3 x4 x5 x6:Value):Prop:=
 w.cell? ⟨b,o,none⟩=some x0∧w.cell? ⟨b,o+1,none⟩=some x1∧w.cell? ⟨b,o+2,none⟩=some x2∧w.cell? ⟨b,o+3,none⟩=some x3∧w.cell? ⟨b,o+4,none⟩=some x4∧w.cell? ⟨b,o+5,none⟩=some x5∧w.cell? ⟨b,o+6,none⟩=some x6
section
variable{P:Program}{ops:Array Oper}{Q:Exit→Act→World→Prop}{S:World→Prop}{oi:Oper}{v:Value}{fuel:Nat}{listed:Array Bool}{a:Act}{w:World}
theorem tk(i:Nat)(h:wpAnyH P .any ops Q S fuel (listed.setIfInBounds i true) (a.put oi.dst v) w)
 (hi:ops[i]? =some oi:=by rfl)(hs:Region.noSelect ops=true:=by kernel_rfl)(hf:Region.free .any ops listed i=true:=by kernel_rfl)(hr:(Region.ready .any ops listed).contains i=true:=by kernel_rfl)
 (hQ:∀c a w,Q (.panic c) (a.put oi.dst v) w→Q (.panic c) a w:=by exact fun _ _ _ h=>h)
 (hy:YieldsIf P ops S oi v a:=by exact Or.inl ⟨by rfl,by intro w hSw;(try dsimp only at hSw);(try simp only[C7,K7] at hSw);go_simp;first|done|with_reducible rfl⟩)(hS:S w:=by assumption):
 wpAnyH P .any ops Q S (fuel+1) listed a w:=wpAnyH_take hi hs hf hr hQ hy hS h
theorem rd1(i:Nat)(h:∀K':Act→World→Prop,Shut (∀a w,S w→(S w→wpAnyH P .any ops Q S fuel (listed.setIfInBounds i true) a w)→K' a w)→if Region.wanted oi (yielded ops a.tmps)=true then Oper.wp P oi a w K' Q else K' (a.put oi.dst undef) w)
 (hi:ops[i]? =some oi:=by rfl)(hr:Region.ready .any ops listed=[i]:=by kernel_rfl):wpAnyH P .any ops Q S (fuel+1) listed a w:=
 wpAnyH_ready hr (by simp) (AllReadyH.cons hi h AllReadyH.nil)
theorem rd2(i j:Nat){oj:Oper}(h:∀K':Act→World→Prop,Shut (∀a w,S w→(S w→wpAnyH P .any ops Q S fuel (listed.setIfInBounds i true) a w)→K' a w)→if Region.wanted oi (yielded ops a.tmps)=true then Oper.wp P oi a w K' Q else K' (a.put oi.dst undef) w)
 (g:∀K':Act→World→Prop,Shut (∀a w,S w→(S w→wpAnyH P .any ops Q S fuel (listed.setIfInBounds j true) a w)→K' a w)→if Region.wanted oj (yielded ops a.tmps)=true then Oper.wp P oj a w K' Q else K' (a.put oj.dst undef) w)
 (hi:ops[i]? =some oi:=by rfl)(hj:ops[j]? =some oj:=by rfl)(hr:Region.ready .any ops listed=[i,j]:=by kernel_rfl):wpAnyH P .any ops Q S (fuel+1) listed a w:=
 wpAnyH_ready hr (by simp) (AllReadyH.cons hi h (AllReadyH.cons hj g AllReadyH.nil))
end
end
end Go.Proofs.YtancebninmoipaaGreatDoor
