/- A part of the proof that ClaimFaces answers true for every input of bulk at most 1048576: conditions: the row's own. -/
import Derived.Shelf.Small.Strs
import Derived.Shelf.Strings.Builder1
import Derived.Shelf.Strings.Search1
import Derived.Test.YtbapfnpbamnmpaaGreatDoorProg
import Derived.Test.YtbapfnpbamnmpaaGreatDoorWb
import Derived.Test.YtbapfnpbamnmpaaGreatDoorWd
import Derived.Shelf.Strings.BuilderX
import Derived.Test.YtbapfnpbamnmpaaGreatDoorTb
import Derived.Laws.BytesString
import Derived.Lib.AppendZeros
namespace Go.Proofs
open Go.Shelf
def Tryz.lays217_ren:Go.Shelf.Ren:=⟨fun|217=>263|266=>329|n=>n,fun|9=>9|5=>5|3=>3|n=>n,fun|n=>n⟩
theorem Tryz.lays217:Go.Proofs.Lays.n217 Tryz.prog Tryz.lays217_ren:={
 mixed:=by kernel_rfl
 f217:=Tryz.func263.trans (congrArg some (by kernel_rfl))
 f266:=Tryz.func329.trans (congrArg some (by kernel_rfl))
 t3:=Tryz.underlying3
 a3:=Tryz.isAgg3
 z3:=Tryz.sizeOf3
 v3:=Tryz.zeroValue3
 t5:=Tryz.underlying5
 a5:=Tryz.isAgg5
 z5:=Tryz.sizeOf5
 v5:=Tryz.zeroValue5
 t9:=Tryz.underlying9
 a9:=Tryz.isAgg9
 z9:=Tryz.sizeOf9
 v9:=Tryz.zeroValue9}
open Go.RowKit Go.Lib in
theorem Tryz.stringslite_IndexByte(s:ByteArray)(c:Int)(w:World):
 Calls Tryz.prog 263 #[.string s,.int .u8 c] w fun e w'=>e= .returned (.int .i64 (Lib.indexByte s.data.toList c.toNat.toUInt8))∧w'=w:=Any.stringslite_IndexByte Tryz.lays217 s c w
end Go.Proofs
namespace Go.Proofs.YtbapfnpbamnmpaaGreatDoor
open Go Go.RowKit Go.Dig Go.Shelf
open Go.Eng (Kept KW KeptB)
set_option maxHeartbeats 1000000 in
set_option maxRecDepth 100000 in
theorem copyCheck_used{w:World}{b:Nat}(h0:w.cell? ⟨b,0,none⟩=some (.pointer (some ⟨b,0,none⟩))):
 Calls Tryz.prog 129 #[.pointer (some ⟨b,0,none⟩)] w fun e w'=>e= .returned (.tuple #[])∧w=w':=by
 obtain⟨j,hj,_⟩:=Option.map_eq_some_iff.1 (show(Tryz.prog.info? 109).map (·.size)=some 2 by kernel_rfl)
 go_enter Tryz.func129,Tryz.ntmps129
 go_wp2
 rw[Lib.run_neq_ptr_same w ⟨b,0,none⟩ Tryz.underlying106 hj]
 go_wp2
 go_end0
 exact⟨rfl,rfl⟩
set_option maxHeartbeats 1000000 in
set_option maxRecDepth 100000 in
theorem copyCheck_fresh{w:World}{b:Nat}(h0:w.cell? ⟨b,0,none⟩=some (.pointer none))(hsh:w.shape? b=some (109,2))(hfz:w.frozen? ⟨b,0,none⟩=false):
 Calls Tryz.prog 129 #[.pointer (some ⟨b,0,none⟩)] w fun e w'=>e= .returned (.tuple #[])∧w'=w.setCell ⟨b,0,none⟩ (.pointer (some ⟨b,0,none⟩)):=by
 obtain⟨j,hj,hjs⟩:=Option.map_eq_some_iff.1 (show(Tryz.prog.info? 109).map (·.size)=some 2 by kernel_rfl)
 go_enter Tryz.func129,Tryz.ntmps129
 go_wp2
 rw[Lib.run_to_unsafe w ⟨b,0,none⟩ Tryz.underlying106 Tryz.underlying283 hj (by rw[hjs];decide) hsh (Nat.zero_lt_succ 1)]
 simp only[Result.andThen]
 rw[Oper.upon_value]
 go_wp2
 rw[run_callFunc_extern Tryz.func220 (by kernel_rfl) (by kernel_rfl) (by kernel_rfl) (e:=Extern.AbiNoEscape.same) (by kernel_rfl)]
 rw[Lib.run_noEscape]
 simp only[Result.andThen]
 rw[Oper.upon_value]
 go_wp2
 rw[Lib.run_from_unsafe w ⟨b,0,none⟩ Tryz.underlying283 Tryz.underlying106 hj hsh (by kernel_rfl)]
 simp only[Result.andThen]
 rw[Oper.upon_value]
 go_wp2
 go_end0
 exact⟨rfl,rfl⟩
set_option maxHeartbeats 1000000 in
set_option maxRecDepth 100000 in
theorem bstring_calls{w:World}{b g cap:Nat}{p:Value}{cur:Array Value}{l:List UInt8}(hbk:w.heap[b]? =some (.cells #[p,.slice (some ⟨g,0,none⟩) l.length cap] 109 (0,0)))
 (hg:w.heap[g]? =some (.cells cur 5 (0,0)))(h0:l≠[])(hcap:l.length≤cap)(hlen:l.length≤cur.size)(h63:l.length≤9223372036854775807)(hc:∀(j:Nat)(x:UInt8),l[j]? =some x→cur[j]? =some (Value.int .u8 x.toNat)):
 Calls Tryz.prog 54 #[.pointer (some ⟨b,0,none⟩)] w fun e w'=>e= .returned (.string ⟨l.toArray⟩)∧w'=w.drew.freeze ⟨g,0,none⟩ l.length:=by
 have hl0:l.length≠0:=by simpa using h0
 have c1:w.drew.cell? ⟨b,1,none⟩=some (.slice (some ⟨g,0,none⟩) l.length cap):=by
  have:w.drew.heap[b]? =some (.cells #[p,.slice (some ⟨g,0,none⟩) l.length cap] 109 (0,0)):=hbk
  rw[Lib.cell_of_heap this];rfl
 have hSD:(Builtin.unsafeSliceData_ #[107] 196 #[.slice (some ⟨g,0,none⟩) l.length cap]).run Tryz.prog w.drew= .ok (.pointer (some ⟨g,0,none⟩)) w.drew:=
  Lib.run_unsafeSliceData_row _ _ _ _ _ _ (by omega)
 have hUS:(Builtin.unsafeString_ #[196,3] 9 #[.pointer (some ⟨g,0,none⟩),.int .i64 l.length]).run Tryz.prog w.drew= .ok (.string ⟨l.toArray⟩) (w.drew.freeze ⟨g,0,none⟩ l.length):=by
  refine Lib.run_unsafeString_row w.drew 196 3 9 5 Tryz.underlying196 (by kernel_rfl) g cur.size (by have hg':w.drew.heap[g]? =some (.cells cur 5 (0,0)):=hg;simp[World.shape?,hg']) l h0 hlen h63 ?_
  intro j x hx
  have h1:=hc j x hx
  have hg':w.drew.heap[g]? =some (.cells cur 5 (0,0)):=hg
  rw[show(Addr.add ⟨g,0,none⟩ j)=⟨g,0+j,none⟩ by unfold Addr.add;split<;>simp_all,Nat.zero_add]
  simp[World.cell?,hg',h1]
 go_enter Tryz.func54,Tryz.ntmps54
 go_wp2
 have mixed:Tryz.prog.follows .mixedOrders=true:=by kernel_rfl
 go_region_o
 all_goals (go_wp2;go_ret;exact⟨rfl,rfl⟩)
set_option maxHeartbeats 1000000 in
set_option maxRecDepth 100000 in
theorem reverse_one(w:World)(b off cap:Nat):Calls Tryz.prog 308 #[.slice (some ⟨b,off,none⟩) 1 cap] w fun e w'=>e= .returned (.tuple #[])∧w=w':=by
 go_enter Tryz.func308,Tryz.ntmps308
 go_wp2
 go_loop [2,3] (fun i j=>i= .int .i64 0∧j= .int .i64 0) (fun _ _=>0)
 case atStart=>exact⟨rfl,rfl⟩
 case round=>
  obtain⟨rfl,rfl⟩:=hrel
  go_wp2
  go_end0
  exact⟨rfl,rfl⟩
theorem info5:InfoIs 5 (.int .u8 0) 1 1:=infoIs (by kernel_rfl)
theorem conv_one{w:World}{g cap:Nat}{x:Int}(h:w.cell? ⟨g,0,none⟩=some (.int .u8 x))(_hx:x=49∨x=50):
 (convert 107 9 (.slice (some ⟨g,0,none⟩) 1 cap)).run Tryz.prog w= .ok (.string ⟨#[UInt8.ofNat x.toNat]⟩) w:=by
 have hl:(loadCells ⟨g,0,none⟩ 1).run Tryz.prog w= .ok ([x].map (Value.int .u8)).toArray w:=by
  simp[loadCells,loadCellsFrom,h,go_sem]
 have hb:=run_bytesToString w ⟨g,0,none⟩ 1 cap [x] hl
 have e:convert 107 9 (.slice (some ⟨g,0,none⟩) 1 cap)=convert 107 9 (.slice (some ⟨g,0,none⟩) 1 cap):=rfl
 unfold convert
 simp only[Sem.run_bind,run_underlying Tryz.underlying107,run_underlying Tryz.underlying9,run_underlying Tryz.underlying5,Result.andThen]
 exact hb
set_option maxHeartbeats 4000000 in
set_option maxRecDepth 100000 in
theorem decimal_1{w:World}{v:Value}(hv:Nt 4294967296 w v 1):
 Calls Tryz.prog 221 #[v] w fun e w'=>e= .returned (.string ⟨#[49]⟩)∧Kept w w':=by
 have hz:=zero_calls (.inr rfl) hv
 have hz0:decide ((1:Nat)=0)=false:=by decide
 rw[hz0] at hz
 clear hz0
 have hbig:(2:Nat)^4≤Big:=by rw[←pwr_eq];exact pwr_le 4 16384 (by decide)
 have hd:=divs_calls (d:=1000000000) hv (Nat.lt_of_lt_of_le (show 1<2^4 by decide) hbig) (by decide) (by decide)
 rw[show(1:Nat)/1000000000=0 from rfl,show(1:Nat)%1000000000=1 from rfl,show((1000000000:Nat):Int)=1000000000 from rfl] at hd
 obtain⟨a0,n0,cap0,rfl⟩:=hv.shape
 clear hbig hv
 go_enter Tryz.func221,Tryz.ntmps221
 go_wp2
 go_loopw [0,3] (fun x y wr=>(x= .slice a0 n0 cap0∧y= .slice none 0 0∧wr=w)∨
  ∃(a1:Option Addr)(n1 cap1 g cap:Nat),x= .slice a1 n1 cap1∧y= .slice (some ⟨g,0,none⟩) 1 cap∧Nt 4294967296 wr (.slice a1 n1 cap1) 0∧1≤cap∧wr.cell? ⟨g,0,none⟩=some (.int .u8 49)∧Kept w wr) (fun _ y _=>match y with| .slice _ n _=>1-n|_=>0)
 case atStart=>exact .inl ⟨rfl,rfl,rfl⟩
 case round=>
  rcases hrel with⟨rfl,rfl,hwr⟩|⟨a1,n1,cap1,g,cap,rfl,rfl,hnt,hcap,hcell,hkw⟩
  ·obtain rfl:w=wr:=hwr.symm
   go_wp2_with(first
    |(go_at_call 192;refine hz.mono ?_;rintro e w1 ⟨rfl,rfl⟩)
    |(go_at_call 307;refine hd.mono ?_;rintro e w1 ⟨vq,rfl,hq,hk1⟩;obtain⟨aq,nq,capq,rfl⟩:=hq.shape))
   have hzq:=fun(w':World)(k:Kept w1 w')=>zero_calls (.inr rfl) (hq.kept k)
   rw[show decide ((0:Nat)=0)=true from rfl] at hzq
   go_loopw [3,5,6] (fun x r i wr=>(x= .slice none 0 0∧r= .int .u32 1∧i= .int .i64 0∧wr=w1)∨
    ∃(g cap:Nat),x= .slice (some ⟨g,0,none⟩) 1 cap∧r= .int .u32 0∧i= .int .i64 1∧1≤cap∧wr.cell? ⟨g,0,none⟩=some (.int .u8 49)∧Kept w1 wr) (fun _ _ i _=>1-(intOf i).toNat)
   case atStart=>exact .inl ⟨rfl,rfl,rfl,rfl⟩
   case round=>
    rcases hrel with⟨rfl,rfl,rfl,hwr⟩|⟨g,cap,rfl,rfl,rfl,hcap,hcell,hkw1⟩
    ·obtain rfl:w1=wr:=hwr.symm
     have hz1:=hzq _ (Kept.refl _)
     have hcn:=(Blk.new w1 #[.int .u8 49] 5).facts1.1
     go_wp2_with(first
      |(go_at_call 192;refine hz1.mono ?_;rintro e w2 ⟨rfl,rfl⟩)
      |(at_builtin;refine wpList_append_kept rfl (.tmp 28) (.tmp 33) 107 rfl info5 Tryz.underlying107 rfl (by decide) (by decide) w1 ((Kept.refl w1).alloc _) _ 0 [] rfl (World.ownsRow_nil _ _ _ _) ⟨w1.heap.size,0,none⟩ 1 1 [.int .u8 49] rfl rfl (by intro j u hu;cases j with|zero=>(cases hu;exact hcn)|succ j=>cases hu) (by intro u hu;simp at hu;subst hu;rfl) (by decide) ?_;intro v2 w3 hown hk3;obtain⟨av,cv,rfl,hcv,_,hcells⟩:=own_open hown;obtain⟨gb,_,rfl,hc0⟩:=hcells 0 (by decide)))
     go_roundw
     case rel=>exact .inr ⟨gb,cv,rfl,rfl,rfl,hcv,hc0,hk3⟩
     case measure=>simp[intOf]
    ·have hz1:=hzq _ hkw1
     go_wp2_with(go_at_call 192;refine hz1.mono ?_;rintro e w2 ⟨rfl,rfl⟩)
     go_roundw
     case rel=>exact .inr ⟨aq,nq,capq,g,cap,rfl,rfl,hq.kept hkw1,hcap,hcell,hk1.trans hkw1⟩
     case measure=>simp
  ·have hz1:=zero_calls (.inr rfl) hnt
   rw[show decide ((0:Nat)=0)=true from rfl] at hz1
   go_wp2_with(first
    |(go_at_call 192;refine hz1.mono ?_;rintro e w1 ⟨rfl,rfl⟩)
    |(go_at_call 308;refine(reverse_one _ g 0 cap).mono ?_;rintro e w2 ⟨rfl,rfl⟩))
   rw[conv_one hcell (.inl rfl)]
   simp only[Result.andThen]
   rw[Oper.upon_value]
   go_wp2
   go_ret
   exact⟨rfl,hkw⟩
set_option maxHeartbeats 4000000 in
set_option maxRecDepth 100000 in
theorem decimal_2{w:World}{v:Value}(hv:Nt 4294967296 w v 2):
 Calls Tryz.prog 221 #[v] w fun e w'=>e= .returned (.string ⟨#[50]⟩)∧Kept w w':=by
 have hz:=zero_calls (.inr rfl) hv
 have hz0:decide ((2:Nat)=0)=false:=by decide
 rw[hz0] at hz
 clear hz0
 have hbig:(2:Nat)^4≤Big:=by rw[←pwr_eq];exact pwr_le 4 16384 (by decide)
 have hd:=divs_calls (d:=1000000000) hv (Nat.lt_of_lt_of_le (show 2<2^4 by decide) hbig) (by decide) (by decide)
 rw[show(2:Nat)/1000000000=0 from rfl,show(2:Nat)%1000000000=2 from rfl,show((1000000000:Nat):Int)=1000000000 from rfl] at hd
 obtain⟨a0,n0,cap0,rfl⟩:=hv.shape
 clear hbig hv
 go_enter Tryz.func221,Tryz.ntmps221
 go_wp2
 go_loopw [0,3] (fun x y wr=>(x= .slice a0 n0 cap0∧y= .slice none 0 0∧wr=w)∨
  ∃(a1:Option Addr)(n1 cap1 g cap:Nat),x= .slice a1 n1 cap1∧y= .slice (some ⟨g,0,none⟩) 1 cap∧Nt 4294967296 wr (.slice a1 n1 cap1) 0∧1≤cap∧wr.cell? ⟨g,0,none⟩=some (.int .u8 50)∧Kept w wr) (fun _ y _=>match y with| .slice _ n _=>1-n|_=>0)
 case atStart=>exact .inl ⟨rfl,rfl,rfl⟩
 case round=>
  rcases hrel with⟨rfl,rfl,hwr⟩|⟨a1,n1,cap1,g,cap,rfl,rfl,hnt,hcap,hcell,hkw⟩
  ·obtain rfl:w=wr:=hwr.symm
   go_wp2_with(first
    |(go_at_call 192;refine hz.mono ?_;rintro e w1 ⟨rfl,rfl⟩)
    |(go_at_call 307;refine hd.mono ?_;rintro e w1 ⟨vq,rfl,hq,hk1⟩;obtain⟨aq,nq,capq,rfl⟩:=hq.shape))
   have hzq:=fun(w':World)(k:Kept w1 w')=>zero_calls (.inr rfl) (hq.kept k)
   rw[show decide ((0:Nat)=0)=true from rfl] at hzq
   go_loopw [3,5,6] (fun x r i wr=>(x= .slice none 0 0∧r= .int .u32 2∧i= .int .i64 0∧wr=w1)∨
    ∃(g cap:Nat),x= .slice (some ⟨g,0,none⟩) 1 cap∧r= .int .u32 0∧i= .int .i64 1∧1≤cap∧wr.cell? ⟨g,0,none⟩=some (.int .u8 50)∧Kept w1 wr) (fun _ _ i _=>1-(intOf i).toNat)
   case atStart=>exact .inl ⟨rfl,rfl,rfl,rfl⟩
   case round=>
    rcases hrel with⟨rfl,rfl,rfl,hwr⟩|⟨g,cap,rfl,rfl,rfl,hcap,hcell,hkw1⟩
    ·obtain rfl:w1=wr:=hwr.symm
     have hz1:=hzq _ (Kept.refl _)
     have hcn:=(Blk.new w1 #[.int .u8 50] 5).facts1.1
     go_wp2_with(first
      |(go_at_call 192;refine hz1.mono ?_;rintro e w2 ⟨rfl,rfl⟩)
      |(at_builtin;refine wpList_append_kept rfl (.tmp 28) (.tmp 33) 107 rfl info5 Tryz.underlying107 rfl (by decide) (by decide) w1 ((Kept.refl w1).alloc _) _ 0 [] rfl (World.ownsRow_nil _ _ _ _) ⟨w1.heap.size,0,none⟩ 1 1 [.int .u8 50] rfl rfl (by intro j u hu;cases j with|zero=>(cases hu;exact hcn)|succ j=>cases hu) (by intro u hu;simp at hu;subst hu;rfl) (by decide) ?_;intro v2 w3 hown hk3;obtain⟨av,cv,rfl,hcv,_,hcells⟩:=own_open hown;obtain⟨gb,_,rfl,hc0⟩:=hcells 0 (by decide)))
     go_roundw
     case rel=>exact .inr ⟨gb,cv,rfl,rfl,rfl,hcv,hc0,hk3⟩
     case measure=>simp[intOf]
    ·have hz1:=hzq _ hkw1
     go_wp2_with(go_at_call 192;refine hz1.mono ?_;rintro e w2 ⟨rfl,rfl⟩)
     go_roundw
     case rel=>exact .inr ⟨aq,nq,capq,g,cap,rfl,rfl,hq.kept hkw1,hcap,hcell,hk1.trans hkw1⟩
     case measure=>simp
  ·have hz1:=zero_calls (.inr rfl) hnt
   rw[show decide ((0:Nat)=0)=true from rfl] at hz1
   go_wp2_with(first
    |(go_at_call 192;refine hz1.mono ?_;rintro e w1 ⟨rfl,rfl⟩)
    |(go_at_call 308;refine(reverse_one _ g 0 cap).mono ?_;rintro e w2 ⟨rfl,rfl⟩))
   rw[conv_one hcell (.inr rfl)]
   simp only[Result.andThen]
   rw[Oper.upon_value]
   go_wp2
   go_ret
   exact⟨rfl,hkw⟩
theorem info65:InfoIs 65 (.agg #[.int .i64 0,.int .i64 0,.int .i64 0,.int .i64 0,.string .empty]) 5 48:=infoIs (by kernel_rfl)
set_option maxHeartbeats 1000000 in
set_option maxRecDepth 100000 in
theorem grow_calls(w:World):Calls Tryz.prog 287 #[.slice none 0 0,.int .i64 1] w fun e w'=>
 ∃(cap:Nat)(cs:Array Value),e= .returned (.slice (some ⟨w.heap.size,0,none⟩) 0 cap)∧w'=w.drew.alloc (.cells cs 65)∧cap*5≤cs.size:=by
 obtain⟨i,hi,hz,hs,hby⟩:=info65
 have hrun:=Lib.run_append_nil_zeros w 67 3 67 65 i _ .i64 .i64 Tryz.underlying67 Tryz.underlying3 hi hz 1 (by decide) (by omega) (by decide) (by omega)
 go_enter Tryz.func287,Tryz.ntmps287
 go_wp2_with(at_builtin;refine Lib.wpList_append_run _ rfl (.tmp 20) (.tmp 21) 67 3 rfl _ _ rfl rfl _ _ hrun ?_)
 go_ret
 refine⟨_,_,rfl,rfl,?_⟩
 have h1:=grownCap_ge w 1 0 65
 rw[Array.size_append,size_zeroCells,size_zeroCells]
 simp only[List.size_toArray,List.length_cons,List.length_nil]
 omega
end Go.Proofs.YtbapfnpbamnmpaaGreatDoor
