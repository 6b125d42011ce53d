/- A part of the proof that SearchValid answers true for every input: conditions: the row's own. -/
import Derived.Test.YthdgoelpabcgpaaGreatDoorEntSane2
import Derived.WalkKit
import Derived.Deep.QuietTactic
section
namespace Go.Proofs.YthdgoelpabcgpaaGreatDoor.validLaw
open Go.Eng (Kept LaidAt)

theorem kept_alloc (w : World) (o : Obj) : Kept w (w.alloc o) := by
  refine ⟨?_, ?_, rfl, rfl, rfl⟩
  · show w.heap.size ≤ (w.heap.push o).size
    simp
  · intro b hb
    show (w.heap.push o)[b]? = _
    simp [Array.getElem?_push, Nat.ne_of_lt hb]

/-- which plans are valid -/
def ok (a b c : Int) : Bool := decide (1 ≤ a) && decide (a ≤ 1500) && decide (0 ≤ b) && decide (b ≤ 128) && decide (0 ≤ c) && decide (c ≤ 40)

theorem v5 (a b c : Int) (w : World) : Calls Tryz.prog 5 #[.agg #[.int .i64 a, .int .i64 b, .int .i64 c]] w (fun e w' => e = .returned (.bool (ok a b c)) ∧ Kept w w') := by
  by_cases h1 : 1 ≤ a
  case neg => go_enter Tryz.func5, Tryz.ntmps5; go_wp2; go_ret; exact ⟨by simp [ok]; omega, kept_alloc _ _⟩
  by_cases h2 : a ≤ 1500
  case neg => go_enter Tryz.func5, Tryz.ntmps5; go_wp2; go_ret; exact ⟨by simp [ok]; omega, kept_alloc _ _⟩
  by_cases h3 : 0 ≤ b
  case neg => go_enter Tryz.func5, Tryz.ntmps5; go_wp2; go_ret; exact ⟨by simp [ok]; omega, kept_alloc _ _⟩
  by_cases h4 : b ≤ 128
  case neg => go_enter Tryz.func5, Tryz.ntmps5; go_wp2; go_ret; exact ⟨by simp [ok]; omega, kept_alloc _ _⟩
  by_cases h5 : 0 ≤ c
  case neg => go_enter Tryz.func5, Tryz.ntmps5; go_wp2; go_ret; exact ⟨by simp [ok]; omega, kept_alloc _ _⟩
  by_cases h6 : c ≤ 40
  case neg => go_enter Tryz.func5, Tryz.ntmps5; go_wp2; go_ret; exact ⟨by simp [ok]; omega, kept_alloc _ _⟩
  go_enter Tryz.func5, Tryz.ntmps5; go_wp2; go_ret; exact ⟨by simp [ok, h1, h2, h3, h4, h5, h6], kept_alloc _ _⟩

theorem v6 (a b c : Int) (w : World) : Calls Tryz.prog 6 #[.agg #[.int .i64 a, .int .i64 b, .int .i64 c]] w (fun e w' => e = .returned (.bool (ok a b c)) ∧ Kept w w') := by
  by_cases h1 : 1 ≤ a
  case neg => go_enter Tryz.func6, Tryz.ntmps6; go_wp2; go_ret; exact ⟨by simp [ok]; omega, kept_alloc _ _⟩
  by_cases h2 : a ≤ 1500
  case neg => go_enter Tryz.func6, Tryz.ntmps6; go_wp2; go_ret; exact ⟨by simp [ok]; omega, kept_alloc _ _⟩
  by_cases h3 : 0 ≤ b
  case neg => go_enter Tryz.func6, Tryz.ntmps6; go_wp2; go_ret; exact ⟨by simp [ok]; omega, kept_alloc _ _⟩
  by_cases h4 : b ≤ 128
  case neg => go_enter Tryz.func6, Tryz.ntmps6; go_wp2; go_ret; exact ⟨by simp [ok]; omega, kept_alloc _ _⟩
  by_cases h5 : 0 ≤ c
  case neg => go_enter Tryz.func6, Tryz.ntmps6; go_wp2; go_ret; exact ⟨by simp [ok]; omega, kept_alloc _ _⟩
  by_cases h6 : c ≤ 40
  case neg => go_enter Tryz.func6, Tryz.ntmps6; go_wp2; go_ret; exact ⟨by simp [ok]; omega, kept_alloc _ _⟩
  go_enter Tryz.func6, Tryz.ntmps6; go_wp2; go_ret; exact ⟨by simp [ok, h1, h2, h3, h4, h5, h6], kept_alloc _ _⟩

theorem kept_trans {w w1 w2 : World} (h : Kept w w1) (k : Kept w1 w2) : Kept w w2 :=
  ⟨Nat.le_trans h.size k.size, fun b hb => (k.old b (Nat.lt_of_lt_of_le hb h.size)).trans (h.old b hb), k.tape.trans h.tape, k.os.trans h.os, k.output.trans h.output⟩
theorem kept_laid {w w' : World} (h : Kept w w') (hl : LaidAt w) : LaidAt w' := by
  obtain ⟨arr, fz, h1, h2, h3⟩ := hl
  have : 0 < w.heap.size := (Array.getElem?_eq_some_iff.1 h1).1
  exact ⟨arr, fz, (h.old 0 this).trans h1, h2, h3⟩
theorem kept_cell {w w' : World} (h : Kept w w') {b off : Nat} {v : Value} (hc : w.cell? ⟨b, off, none⟩ = some v) (hb : b < w.heap.size) : w'.cell? ⟨b, off, none⟩ = some v := by
  unfold World.cell? at hc ⊢
  simp only [h.old b hb]
  exact hc

theorem qstep {P : Program} {ops : Array Oper} {C : World → Prop} {Q : Act → Prop} {a : Act} {o : Oper} {rest : List Oper} (v : Value) (hw : Region.wanted o (yielded ops a.tmps) = true)
    (h1 : ∀ w', C w' → o.quietAt P a C w' v) (h2 : wpQuiet P ops C Q rest (a.put o.dst v)) : wpQuiet P ops C Q (o :: rest) a := by
  unfold wpQuiet
  rw [if_pos hw]
  exact ⟨v, h1, h2⟩

theorem v3 (a b c : Int) (w : World) (hw : LaidAt w) : Calls Tryz.prog 3 #[.agg #[.int .i64 a, .int .i64 b, .int .i64 c]] w (fun e w' => e = .returned (.bool true) ∧ Kept w w') := by
  have k5 := v5 a b c
  have k6 := v6 a b c
  generalize ok a b c = x at k5 k6
  have hk : Kept w (w.alloc (Obj.cells #[Value.int IntKind.i64 a, Value.int IntKind.i64 b, Value.int IntKind.i64 c] 23)) := kept_alloc _ _
  have hs : w.heap.size < (w.alloc (Obj.cells #[Value.int IntKind.i64 a, Value.int IntKind.i64 b, Value.int IntKind.i64 c] 23)).heap.size := by
    show w.heap.size < (w.heap.push _).size
    simp
  have c0 : (w.alloc (Obj.cells #[Value.int IntKind.i64 a, Value.int IntKind.i64 b, Value.int IntKind.i64 c] 23)).cell? ⟨w.heap.size, 0, none⟩ = some (.int .i64 a) := by go_simp
  have c1 : (w.alloc (Obj.cells #[Value.int IntKind.i64 a, Value.int IntKind.i64 b, Value.int IntKind.i64 c] 23)).cell? ⟨w.heap.size, 1, none⟩ = some (.int .i64 b) := by go_simp
  have c2 : (w.alloc (Obj.cells #[Value.int IntKind.i64 a, Value.int IntKind.i64 b, Value.int IntKind.i64 c] 23)).cell? ⟨w.heap.size, 2, none⟩ = some (.int .i64 c) := by go_simp
  go_enter Tryz.func3, Tryz.ntmps3
  go_wp2_with fail
  generalize w.alloc (Obj.cells #[Value.int IntKind.i64 a, Value.int IntKind.i64 b, Value.int IntKind.i64 c] 23) = w1 at *
  generalize w.heap.size = n at *
  have k7 : ∀ w', Kept w1 w' → Calls Tryz.prog 7 #[] w' (fun e w'' => e = .returned (.bool true) ∧ Kept w1 w'') := fun w' h' =>
    (callsIn_wide.1 (sane_calls 0 w' (kept_laid (kept_trans hk h') hw))).mono fun e w'' ⟨he, h⟩ => ⟨he, kept_trans h' h⟩
  refine wp_region_quiet (C := Kept w1) (by kernel_rfl) (by kernel_rfl) ⟨Nat.le_refl _, fun _ _ => rfl, rfl, rfl, rfl⟩ ?_
  have e0 : ∀ w', Kept w1 w' → w'.cell? ⟨n, 0, none⟩ = some (.int .i64 a) := fun w' h => kept_cell h c0 hs
  have e1 : ∀ w', Kept w1 w' → w'.cell? ⟨n, 1, none⟩ = some (.int .i64 b) := fun w' h => kept_cell h c1 hs
  have e2 : ∀ w', Kept w1 w' → w'.cell? ⟨n, 2, none⟩ = some (.int .i64 c) := fun w' h => kept_cell h c2 hs
  have l5 : ∀ w', Kept w1 w' → Calls Tryz.prog 5 #[.agg #[.int .i64 a, .int .i64 b, .int .i64 c]] w' (fun e w'' => e = .returned (.bool x) ∧ Kept w1 w'') := fun w' h' => (k5 w').mono fun e w'' ⟨he, h⟩ => ⟨he, kept_trans h' h⟩
  have l6 : ∀ w', Kept w1 w' → Calls Tryz.prog 6 #[.agg #[.int .i64 a, .int .i64 b, .int .i64 c]] w' (fun e w'' => e = .returned (.bool x) ∧ Kept w1 w'') := fun w' h' => (k6 w').mono fun e w'' ⟨he, h⟩ => ⟨he, kept_trans h' h⟩
  clear k5 k6 c0 c1 c2
  refine qstep (.agg #[.int .i64 a, .int .i64 b, .int .i64 c]) (by first | rfl | go_simp) (fun w' hw' => ?_) ?_
  · have f0 := e0 w' hw'; have f1 := e1 w' hw'; have f2 := e2 w' hw'; clear e0 e1 e2 l5 l6 k7; go_simp
  refine qstep (.bool x) (by first | rfl | go_simp) (fun w' hw' => ?_) ?_
  · have f0 := l5 w' hw'; clear e0 e1 e2 l5 l6 k7; go_simp
  refine qstep (.agg #[.int .i64 a, .int .i64 b, .int .i64 c]) (by first | rfl | go_simp) (fun w' hw' => ?_) ?_
  · have f0 := e0 w' hw'; have f1 := e1 w' hw'; have f2 := e2 w' hw'; clear e0 e1 e2 l5 l6 k7; go_simp
  refine qstep (.bool x) (by first | rfl | go_simp) (fun w' hw' => ?_) ?_
  · have f0 := l6 w' hw'; clear e0 e1 e2 l5 l6 k7; go_simp
  refine qstep (.bool true) (by first | rfl | go_simp) (fun w' hw' => ?_) ?_
  · clear e0 e1 e2 l5 l6 k7; go_simp
  refine qstep (.bool true) (by first | rfl | go_simp) (fun w' hw' => ?_) ?_
  · clear e0 e1 e2 l5 l6 k7; go_simp
  refine qstep (.bool true) (by first | rfl | go_simp) (fun w' hw' => ?_) ?_
  · have f0 := k7 w' hw'; clear e0 e1 e2 l5 l6 k7; go_simp
  refine qstep (.bool true) (by first | rfl | go_simp) (fun w' hw' => ?_) ?_
  · clear e0 e1 e2 l5 l6 k7; go_simp
  refine qstep (.bool true) (by first | rfl | go_simp) (fun w' hw' => ?_) ?_
  · clear e0 e1 e2 l5 l6 k7; go_simp
  refine wpQuiet_nil (fun w' hw' => ?_)
  clear e0 e1 e2 l5 l6 k7
  rename_i hKb
  have hk2 := kept_trans hk hw'
  clear hk hw' hs
  go_simp
  refine hKb _ _ ?_
  go_wp2
  go_ret
  exact ⟨rfl, hk2⟩
end Go.Proofs.YthdgoelpabcgpaaGreatDoor.validLaw
end
