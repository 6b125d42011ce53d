/- A part of the proof that ClaimFaces answers true for every input of bulk at most 1048576: conditions: the row's own. -/
import Derived.Test.YtbapfnpbamnmpaaGreatDoorTb
import Derived.RangeFuncNested
import Derived.RangeFuncBound
import Derived.RangeFuncCalls
import Derived.RangeFuncLeaves
import Derived.RangeFuncWrites
import Derived.Shelf.Abstract
import Derived.OwnWalkIn
import Derived.TacticsInMore
import Derived.LoopNIn
import Derived.LoopIn
import Derived.Maps.OwnIn
namespace Go.Proofs.YtbapfnpbamnmpaaGreatDoor
open Go Go.RowKit Go.Dig Go.Shelf
open Go.Eng (Kept KW KeptB)
attribute [local go_sem] Oper.semAt_some
structure Nv where
 op:Int
 arg:Int
 s:Bool
 x1:Option Addr
 x2:Nat
 x3:Nat
 x4:Option Addr
 x5:Nat
 x6:Nat
 name:ByteArray
 a:Option Addr
 n:Nat
 cap:Nat
 short:name.size≤8
def Nv.val(x:Nv):Value:=.agg #[.int .i64 x.op,.int .i64 x.arg,.bool x.s,.slice x.x1 x.x2 x.x3,.slice x.x4 x.x5 x.x6,.string x.name,.slice x.a x.n x.cap]
def Nv.At(w:World)(b o:Nat)(x:Nv):Prop:=
 w.cell? ⟨b,o,none⟩=some (.int .i64 x.op)∧w.cell? ⟨b,o+1,none⟩=some (.int .i64 x.arg)∧w.cell? ⟨b,o+2,none⟩=some (.bool x.s)∧w.cell? ⟨b,o+3,none⟩=some (.slice x.x1 x.x2 x.x3)∧
 w.cell? ⟨b,o+4,none⟩=some (.slice x.x4 x.x5 x.x6)∧w.cell? ⟨b,o+5,none⟩=some (.string x.name)∧w.cell? ⟨b,o+6,none⟩=some (.slice x.a x.n x.cap)
theorem Nv.At.kept{w w':World}{b o:Nat}{x:Nv}(h:x.At w b o)(k:Kept w w'):x.At w' b o:=
 ⟨k.cell h.1,k.cell h.2.1,k.cell h.2.2.1,k.cell h.2.2.2.1,k.cell h.2.2.2.2.1,k.cell h.2.2.2.2.2.1,k.cell h.2.2.2.2.2.2⟩
theorem kept_of_below{w w':World}(h:Below w.heap.size w w'):Kept w w':=⟨h.size,h.block,h.tape,h.os,h.output⟩
theorem below_of_kept{w w':World}(h:Kept w w'):Below w.heap.size w w':=⟨h.os,h.tape,h.output,h.size,h.old⟩
def Lst(w:World):Nat→Nv→List Nv→Prop
 |0,_,_=>False
 |f+1,x,L=>∃ls:Nat→List Nv,L=x::(List.range x.n).flatMap ls∧x.n<4611686018427387904∧
   ∀i,i<x.n→∃b off y,x.a=some ⟨b,off,none⟩∧Nv.At w b (off+i*7) y∧Lst w f y (ls i)
theorem flat_step(ls:Nat→List Nv)(k:Nat):(List.range (k+1)).flatMap ls=(List.range k).flatMap ls++ls k:=by
 rw[List.range_succ,List.flatMap_append];simp
theorem flat_prefix(ls:Nat→List Nv):∀{n k:Nat},k≤n→(List.range k).flatMap ls<+:(List.range n).flatMap ls:=by
 intro n k h
 induction n with
 |zero=>obtain rfl:k=0:=by omega
        exact List.prefix_refl _
 |succ n ih=>
  by_cases hk:k=n+1
  ·subst hk;exact List.prefix_refl _
  ·rw[flat_step]
   exact(ih (by omega)).trans (List.prefix_append _ _)
theorem room_none{F:Fence}(hd:F.depth=none)(k:Nat):F.room k:=fun d h=>by rw[hd] at h;cases h
theorem roundIn_any{F:Fence}(hd:F.depth=none){m m':Nat}{P:Program}{l:Nat}{f:FuncId}{tmps:Array Value}{assign body:Code}{w:World}{R:Ending→World→Prop}
 (h:RoundIn F m P l f tmps assign body w R):RoundIn F m' P l f tmps assign body w R:=⟨h.1,fun c cs _=>h.2 c cs (room_none hd _)⟩
theorem yieldAt_any{F:Fence}(hd:F.depth=none){m:Nat}(m':Nat){P:Program}{l:Nat}{args:Array Value}{W:World}{R:Ending→World→Prop}(h:YieldAt F m P l args W R):YieldAt F m' P l args W R:=by
 obtain⟨fn,tmps,assign,body,hy,hR⟩:=h
 exact⟨fn,tmps,assign,body,hy,roundIn_any hd hR⟩
def KC(n₀:Nat)(W W':World):Prop:=Below n₀ W W'∧∀(b:Nat)(o:Obj),W.heap[b]? =some o→o.isCells=true→W'.heap[b]? =some o
theorem KC.refl(n₀:Nat)(W:World):KC n₀ W W:=⟨Below.refl _ _,fun _ _ h _=>h⟩
theorem KC.trans{n₀:Nat}{A B C:World}(h:KC n₀ A B)(k:KC n₀ B C):KC n₀ A C:=⟨h.1.trans k.1,fun b o hb ho=>k.2 b o (h.2 b o hb ho) ho⟩
theorem KC.alloc{n₀:Nat}{A B:World}(h:KC n₀ A B)(hn:n₀≤B.heap.size)(o:Obj):KC n₀ A (B.alloc o):=
 h.trans ⟨(Below.refl _ B).alloc hn o,fun b _ hb _=>(Below.heap_alloc B o b (Array.getElem?_eq_some_iff.1 hb).1).trans hb⟩
theorem KC.blk{n₀:Nat}{A B:World}(h:KC n₀ A B){b:Nat}{cs:Array Value}{t:TypeId}(hb:Blk A b cs t):Blk B b cs t:=h.2 b _ hb rfl
set_option maxRecDepth 100000 in
set_option maxHeartbeats 4000000 in
theorem each_in(F:Fence)(hd:F.depth=none)(hf:F.fn 312)(hro:F.round=none)(l N:Nat)(w0:World)(J Jx:List Nv→World→Prop)(hJ:∀pre W o,J pre W→J pre (W.alloc o))
 (hY:∀m pre x W,J pre W→pre.length<N→YieldAt F m Tryz.prog l #[Nv.val x] W fun e W'=>
   (e= .returned (.bool true)∧J (pre++[x]) W'∧KC w0.heap.size W W')∨(e= .returned (.bool false)∧Jx (pre++[x]) W')):
 ∀(f:Nat)(x:Nv)(L:List Nv),Lst w0 f x L→∀(n:Nat)(pre:List Nv)(W:World),Below w0.heap.size w0 W→J pre W→pre.length+L.length≤N→
  CallsIn F n Tryz.prog 312 #[x.val,.func (.yield l) #[] #[]] W fun e W'=>
   (e= .returned (.bool true)∧J (pre++L) W'∧KC w0.heap.size W W')∨(e= .returned (.bool false)∧∃q,q<+:L∧Jx (pre++q) W')
 |0,_,_,h=>h.elim
 |f+1,x,L,h=>by
  intro n pre W hB hJ0 hN
  obtain⟨ls,rfl,hn,hk⟩:=h
  have hdd:∀k:Nat,(F.depth.isSome=true→1≤k):=fun k h=>by rw[hd] at h;cases h
  have hJ1:=hJ pre W (.cells #[.int .i64 x.op,.int .i64 x.arg,.bool x.s,.slice x.x1 x.x2 x.x3,.slice x.x4 x.x5 x.x6,.string x.name,.slice x.a x.n x.cap] 27) hJ0
  have hB1:Below w0.heap.size W (W.alloc (.cells #[.int .i64 x.op,.int .i64 x.arg,.bool x.s,.slice x.x1 x.x2 x.x3,.slice x.x4 x.x5 x.x6,.string x.name,.slice x.a x.n x.cap] 27)):=(Below.refl _ W).alloc hB.size _
  have hbx:=Blk.new W #[.int .i64 x.op,.int .i64 x.arg,.bool x.s,.slice x.x1 x.x2 x.x3,.slice x.x4 x.x5 x.x6,.string x.name,.slice x.a x.n x.cap] 27
  obtain⟨fn,tmps,assign,body,hy,hR⟩:=hY (n-1) pre x _ hJ1 (by simp at hN;omega)
  dsimp only[Nv.val] at hy⊢
  have HN:=Lib.hid hn;clear hn
  generalize x.a=xa at*
  refine callsIn_of_wp Tryz.func312 rfl hf ?_ hro
  simp only[Tryz.ntmps312,List.size_toArray,List.length_cons,List.length_nil,Nat.reduceAdd,Nat.reduceSub,Array.replicate_succ,Array.replicate_zero,List.push_toArray,List.append_toArray,List.nil_append,List.cons_append]
  have HK:=Lib.hid hk;clear hk
  gi_wp2_with fail
  refine hR.mono ?_
  clear hR hy
  rintro e W2 (⟨rfl,hJ2,hk2⟩|⟨rfl,hx2⟩)
  ·obtain⟨-,-,-,-,-,-,e6,-⟩:=(hk2.blk hbx).facts7
   have hkW2:KC w0.heap.size W W2:=((KC.refl _ W).alloc hB.size _).trans hk2
   gi_wp2
   gi_loopw [14] (fun i wr=>∃k:Nat,k≤x.n∧i= .int .i64 (k:Int)∧J (pre++[x]++(List.range k).flatMap ls) wr∧KC w0.heap.size W wr) (fun i _=>x.n-(intOf i).toNat)
   case atStart=>exact⟨0,Nat.zero_le _,rfl,by simpa using hJ2,hkW2⟩
   case round=>
    obtain⟨k,hkn,rfl,hJk,hkr⟩:=hrel
    by_cases hlt:k<x.n
    ·have hn:=HN.out
     obtain⟨b,off,y,rfl,hat,hly⟩:=HK.out k hlt
     obtain⟨c0,c1,c2,c3,c4,c5,c6⟩:=hat.kept (kept_of_below (hB.trans hkr.1))
     have hlen:(pre++[x]++(List.range k).flatMap ls).length+(ls k).length≤N:=by
      have h1:=(flat_prefix ls (show k+1≤x.n by omega)).length_le
      rw[flat_step] at h1
      simp only[List.length_append,List.length_cons,List.length_nil] at h1 hN⊢
      omega
     have hih:=each_in F hd hf hro l N w0 J Jx hJ hY f y (ls k) hly (n-1) (pre++[x]++(List.range k).flatMap ls)
      (wr.alloc (.cells #[.int .i64 y.op,.int .i64 y.arg,.bool y.s,.slice y.x1 y.x2 y.x3,.slice y.x4 y.x5 y.x6,.string y.name,.slice y.a y.n y.cap] 27)) ((hB.trans hkr.1).alloc (Nat.le_trans hB.size hkr.1.size) _) (hJ _ _ _ hJk) hlen
     have hk3:KC w0.heap.size W (wr.alloc (.cells #[.int .i64 y.op,.int .i64 y.arg,.bool y.s,.slice y.x1 y.x2 y.x3,.slice y.x4 y.x5 y.x6,.string y.name,.slice y.a y.n y.cap] 27)):=hkr.alloc (Nat.le_trans hB.size hkr.1.size) _
     have HP:Hid (∀q,q<+:ls k→x::((List.range k).flatMap ls++q)<+:x::(List.range x.n).flatMap ls):=Lib.hid fun q hq=>by
      have h1:=flat_prefix ls (show k+1≤x.n by omega)
      rw[flat_step] at h1
      exact List.cons_prefix_cons.2 ⟨rfl,(List.prefix_append_right_inj _ |>.2 hq).trans h1⟩
     dsimp only[Nv.val] at hih
     clear hlen hly
     obtain⟨op',arg',s',u1,u2,u3,u4,u5,u6,nm',a',n',cap',sh'⟩:=y
     dsimp only at c0 c1 c2 c3 c4 c5 c6 hih hk3
     gi_wp2_with ((try refine⟨hdd _,?_⟩);gi_at_call 312;refine hih.mono ?_;clear hih;rintro e W3 (⟨rfl,hJ3,hk4⟩|⟨rfl,q,hq,hx3⟩))
     ·go_roundw
      case rel=>exact⟨k+1,by omega,by go_num,by rw[flat_step,←List.append_assoc];exact hJ3,hk3.trans hk4⟩
      case measure=>simp[intOf];omega
     ·go_ret
      exact .inr ⟨rfl,_,HP.out q hq,by simpa [List.append_assoc] using hx3⟩
    ·obtain rfl:k=x.n:=by omega
     have hn:=HN.out
     gi_wp2
     go_ret
     exact .inl ⟨rfl,by simpa [List.append_assoc] using hJk,hkr⟩
  ·gi_wp2
   go_ret
   exact .inr ⟨rfl,[x],⟨(List.range x.n).flatMap ls,rfl⟩,hx2⟩
attribute [local go_sem] Oper.semAt_some
set_option maxRecDepth 100000 in
set_option maxHeartbeats 1000000 in
theorem nodes1_in(F:Fence)(hd:F.depth=none)(h311:F.fn 311)(h312:F.fn 312)(hro:F.round=none)(l Bx:Nat)(w0:World)(f:Nat)(x:Nv)(L:List Nv)(hL:Lst w0 f x L)(J Jx:List Nv→World→Prop)
 (hJ:∀pre W o,J pre W→J pre (W.alloc o))(n:Nat)
 (hY:∀pre x W,J pre W→pre.length<L.length→YieldAt F (n-1) Tryz.prog l #[Nv.val x] W fun e W'=>
   (e= .returned (.bool true)∧J (pre++[x]) W'∧KC w0.heap.size W W')∨(e= .returned (.bool false)∧Jx (pre++[x]) W'))
 (W:World)(hB:Below w0.heap.size w0 W)(hbx:Blk W Bx #[.int .i64 x.op,.int .i64 x.arg,.bool x.s,.slice x.x1 x.x2 x.x3,.slice x.x4 x.x5 x.x6,.string x.name,.slice x.a x.n x.cap] 27)(h0:J [] W):
 CallsIn F n Tryz.prog 311 #[.func (.yield l) #[] #[],.pointer (some ⟨Bx,0,none⟩)] W fun e W'=>(∃v,e= .returned v)∧
  ((∃ys,ys=L∧J ys W')∨(∃pre,pre<+:L∧Jx pre W')):=by
 have hdd:∀k:Nat,(F.depth.isSome=true→1≤k):=fun k h=>by rw[hd] at h;cases h
 have hp:=each_in F hd h312 hro l L.length w0 J Jx hJ (fun m pre x W hj hl=>yieldAt_any hd m (hY pre x W hj hl)) f x L hL (n-1) [] W hB h0 (by simp)
 obtain⟨c0,c1,c2,c3,c4,c5,c6,-⟩:=hbx.facts7
 dsimp only[Nv.val] at hp
 refine callsIn_of_wp Tryz.func311 rfl h311 ?_ hro
 simp only[Tryz.ntmps311,List.size_toArray,List.length_cons,List.length_nil,Nat.reduceAdd,Nat.reduceSub,Array.replicate_succ,Array.replicate_zero,List.push_toArray,List.append_toArray,List.nil_append,List.cons_append]
 gi_wp2_with ((try refine⟨hdd _,?_⟩);gi_at_call 312;refine hp.mono ?_;clear hp;rintro e W1 (⟨rfl,hJ1,_⟩|⟨rfl,q,hq,hx⟩))
 ·go_end0
  exact⟨⟨_,rfl⟩,.inl ⟨_,rfl,by simpa using hJ1⟩⟩
 ·go_end0
  exact⟨⟨_,rfl⟩,.inr ⟨q,hq,by simpa using hx⟩⟩
set_option maxHeartbeats 1000000 in
theorem nodes_in(F:Fence)(n:Nat)(h229:F.fn 229)(hro:F.round=none)(x:Nv)(w:World):
 CallsIn F n Tryz.prog 229 #[.agg #[.int .i64 x.op,.int .i64 x.arg,.bool x.s,.slice x.x1 x.x2 x.x3,.slice x.x4 x.x5 x.x6,.string x.name,.slice x.a x.n x.cap]] w fun e w'=>e= .returned (.func (.func 311) #[] #[.pointer (some ⟨w.heap.size,0,none⟩)])∧
  w'=w.alloc (.cells #[.int .i64 x.op,.int .i64 x.arg,.bool x.s,.slice x.x1 x.x2 x.x3,.slice x.x4 x.x5 x.x6,.string x.name,.slice x.a x.n x.cap] 27):=by
 have hmf:∀(fn:Fn)(first cap:Array Value)(w:World),(Instr.makeFunc fn first cap).run Tryz.prog w= .ok (.func fn first cap) w:=fun _ _ _ _=>rfl
 refine callsIn_of_wp Tryz.func229 rfl h229 ?_ hro
 simp only[Tryz.ntmps229,List.size_toArray,List.length_cons,List.length_nil,Nat.reduceAdd,Nat.reduceSub,Array.replicate_succ,Array.replicate_zero,List.push_toArray,List.append_toArray,List.nil_append,List.cons_append]
 gi_wp2
 go_ret
 exact⟨rfl,rfl⟩
theorem nodes_stops(F:Fence)(hd:F.depth=none)(n:Nat)(h311:F.fn 311)(h312:F.fn 312)(hro:F.round=none)(Bx:Nat)(w0:World)(f:Nat)(x:Nv)(L:List Nv)(hL:Lst w0 f x L)(w:World)(hB:Below w0.heap.size w0 w)
 (hbx:Blk w Bx #[.int .i64 x.op,.int .i64 x.arg,.bool x.s,.slice x.x1 x.x2 x.x3,.slice x.x4 x.x5 x.x6,.string x.name,.slice x.a x.n x.cap] 27):
 SeqStopsK F n Tryz.prog 311 #[.pointer (some ⟨Bx,0,none⟩)] (fun x:Nv=>#[x.val]) (KC w0.heap.size) (fun ys=>ys=L) (fun pre=>pre<+:L) L.length w:=fun l J Jx W hW hJ _ hY h0=>
 nodes1_in F hd h311 h312 hro l Bx w0 f x L hL J Jx (fun pre W o h=>hJ pre W _ none h (World.grownBy_alloc W o none) (fun r e=>by cases e)) n hY W (hB.trans (hW.mono hB.size)) ((kept_of_below hW).old _ hbx.lt |>.trans hbx) h0
theorem kc_putObj{n₀:Nat}(W:World)(l:Nat)(o o':Obj)(hn:n₀≤l)(h:W.heap[l]? =some o)(ho:o.isCells=false):KC n₀ W (W.putObj l o'):=
 ⟨(Below.refl n₀ W).grown (grownBy_putObj' W l o') (by have:=(Array.getElem?_eq_some_iff.1 h).1;omega) (fun k e=>by cases e;omega),
  fun b o2 hb hc=>by
   by_cases e:b=l
   ·subst e;rw[h] at hb;cases hb;rw[ho] at hc;cases hc
   ·exact((grownBy_putObj' W l o').block b (Array.getElem?_eq_some_iff.1 hb).1 (fun h=>e (by cases h;rfl))).trans hb⟩
end Go.Proofs.YtbapfnpbamnmpaaGreatDoor
