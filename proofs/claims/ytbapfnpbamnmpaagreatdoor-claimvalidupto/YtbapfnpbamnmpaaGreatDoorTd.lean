/- A part of the proof that ClaimValid answers true for every input of bulk at most 1048576: conditions: the row's own. -/
import Derived.Test.YtbapfnpbamnmpaaGreatDoorTc
section
namespace Go.Proofs.YtbapfnpbamnmpaaGreatDoor
open Go Go.RowKit Go.Dig
open Go.Eng (Kept KW KeptB)
theorem sgn_ge (s : Bool) (N D : Nat) : decide (0 ≤ sgn (s && decide (0 < N)) (rN N D)) = !(s && decide (0 < N)) := by
  cases h : (s && decide (0 < N))
  · unfold sgn; split <;> simp
  · have hN : 0 < N := by simp at h; exact h.2
    have : rN N D ≠ 0 := by
      unfold rN
      exact Nat.ne_of_gt (Nat.div_pos (Nat.gcd_le_left _ hN) (Nat.gcd_pos_of_pos_left _ hN))
    unfold sgn; rw [if_neg this]; simp
/-! ### expr.fields -/
set_option maxHeartbeats 8000000 in
set_option maxRecDepth 100000 in
theorem fields_calls {w : World} {op arg : Int} {s : Bool} {N D : Nat} {name : ByteArray} {x1 : Option Addr} {x2 x3 : Nat} {x4 : Option Addr} {x5 x6 : Nat} {a : Option Addr} {n cap : Nat}
    (hr : Rt w (.agg #[.bool s, .slice x1 x2 x3, .slice x4 x5 x6]) s N D) (hT : Laid w) :
    Calls Tryz.prog 244 #[.agg #[.int .i64 op, .int .i64 arg, .bool s, .slice x1 x2 x3, .slice x4 x5 x6, .string name, .slice a n cap]] w fun e w' => e = .returned (.bool (nodeOk op arg s N D name n)) ∧ Kept w w' := by
  have hkid := fun w => pkids_calls w op
  have hread := fun (w' : World) (k : Kept w w') => read_calls (hr.kept k) (hT.kept k)
  have hof : ∃ t c, (∀ w', Kept w w' → Calls Tryz.prog 248 #[.slice x1 x2 x3] w' fun e w2 => e = .returned (.slice x1 t c) ∧ w' = w2) ∧ (∀ w', Kept w w' → Calls Tryz.prog 192 #[.slice x1 t c] w' fun e w2 => e = .returned (.bool (decide (N = 0))) ∧ w' = w2) := by
    obtain ⟨vn, vd, he, hn, hd⟩ := hr
    obtain ⟨a, n, cap, xs, rfl, hc1, hn1, hxl, rfl, hxw⟩ := hn
    injection he with he
    simp only [Array.mk.injEq, List.cons.injEq, Value.slice.injEq] at he
    obtain ⟨-, ⟨rfl, rfl, rfl⟩, -⟩ := he
    refine ⟨trimN xs x2, x3, fun w' k => ?_, fun w' k => ?_⟩
    · exact of_calls w' _ _ _ xs (by omega) hc1 (hxw.kept k)
    · exact zero_calls (Or.inr rfl) (nt_of hc1 hxl (hxw.kept k))
  obtain ⟨tz, tc, hof, hzero⟩ := hof
  have hname := fun w => eisname_calls w name
  have hn1 : (name.toList == []) = decide (name.size = 0) := toList_beq name
  have hn2 : name.toList.isEmpty = decide (name.size = 0) := toList_isEmpty name
  have hk : Kept w (w.alloc (.cells #[.int .i64 op, .int .i64 arg, .bool s, .slice x1 x2 x3, .slice x4 x5 x6, .string name, .slice a n cap] 27)) := (Kept.refl w).alloc _
  have HK := Lib.hid hk; clear hk
  have HB := Lib.hid (Blk.new w #[.int .i64 op, .int .i64 arg, .bool s, .slice x1 x2 x3, .slice x4 x5 x6, .string name, .slice a n cap] 27)
  have HSG := Lib.hid (sgn_ge s N D)
  clear hr hT
  generalize hKE : kidsI op = ki at *
  have HKE := Lib.hid hKE; clear hKE
  by_cases h9 : op = 9
  · subst h9
    by_cases hkn : ki < 0
    · rw [if_pos hkn, show decide (0 ≤ ki) = false by simp; omega] at hkid
      have HR : Hid (nodeOk 9 arg s N D name n = false) := Lib.hid (by have hke := HKE.out; unfold nodeOk; simp [show ¬ (kidsI 9 = (n : Int)) by omega])
      clear hn1 hn2
      go_enter Tryz.func244, Tryz.ntmps244
      go_wp2_with (first | (go_at_call 326; refine (hkid _).mono ?_; rintro e wa ⟨rfl, rfl⟩))
      go_ret
      exact ⟨by rw [HR.out]; rfl, HK.out⟩
    rw [if_neg hkn, show decide (0 ≤ ki) = true by simp; omega] at hkid
    by_cases hki : (n : Int) = ki
    · have tk : ((n : Int) != ki) = false := by simpa using hki
      by_cases hlo : arg < -32
      · have tl : decide (arg < -32) = true := by simpa using hlo
        have hao : argOk 9 arg = false := by unfold argOk; simp; omega
        have HR : Hid (nodeOk 9 arg s N D name n = false) := Lib.hid (by have hke := HKE.out; unfold nodeOk; simp [hao])
        clear hn1 hn2
        go_enter Tryz.func244, Tryz.ntmps244
        go_wp2_with (first | (go_at_call 326; refine (hkid _).mono ?_; rintro e wa ⟨rfl, rfl⟩))
        go_ret
        exact ⟨by rw [HR.out]; rfl, HK.out⟩
      have tl : decide (arg < -32) = false := by simpa using hlo
      by_cases hhi : 32 < arg
      · have tr : decide (32 < arg) = true := by simpa using hhi
        have hao : argOk 9 arg = false := by unfold argOk; simp; omega
        have HR : Hid (nodeOk 9 arg s N D name n = false) := Lib.hid (by have hke := HKE.out; unfold nodeOk; simp [hao])
        clear hn1 hn2
        go_enter Tryz.func244, Tryz.ntmps244
        go_wp2_with (first | (go_at_call 326; refine (hkid _).mono ?_; rintro e wa ⟨rfl, rfl⟩))
        go_ret
        exact ⟨by rw [HR.out]; rfl, HK.out⟩
      have tr : decide (32 < arg) = false := by simpa using hhi
      have hao : argOk 9 arg = true := by unfold argOk; simp; omega
      clear hlo hhi
      by_cases hnz : name.size = 0
      · rw [show decide (name.size = 0) = true by simpa using hnz] at hn1 hn2
        have HR : Hid (nodeOk 9 arg s N D name n = decide (N = 0)) := Lib.hid (by have hke := HKE.out; unfold nodeOk; simp [hke, hki, hao, hnz])
        go_enter Tryz.func244, Tryz.ntmps244
        go_wp2_with (first | (go_at_call 326; refine (hkid _).mono ?_; rintro e wa ⟨rfl, rfl⟩) | (go_at_call 248; refine (hof _ HK.out).mono ?_; rintro e wc ⟨rfl, rfl⟩) | (go_at_call 192; refine (hzero _ HK.out).mono ?_; rintro e wd ⟨rfl, rfl⟩))
        go_ret
        exact ⟨by rw [HR.out]; rfl, HK.out⟩
      · rw [show decide (name.size = 0) = false by simpa using hnz] at hn1 hn2
        have HR : Hid (nodeOk 9 arg s N D name n = false) := Lib.hid (by have hke := HKE.out; unfold nodeOk; simp [hnz])
        go_enter Tryz.func244, Tryz.ntmps244
        go_wp2_with (first | (go_at_call 326; refine (hkid _).mono ?_; rintro e wa ⟨rfl, rfl⟩))
        go_ret
        exact ⟨by rw [HR.out]; rfl, HK.out⟩
    · have tk : ((n : Int) != ki) = true := by simpa using hki
      have HR : Hid (nodeOk 9 arg s N D name n = false) := Lib.hid (by have hke := HKE.out; unfold nodeOk; simp [show ¬ (kidsI 9 = (n : Int)) by omega])
      clear hn1 hn2
      go_enter Tryz.func244, Tryz.ntmps244
      go_wp2_with (first | (go_at_call 326; refine (hkid _).mono ?_; rintro e wa ⟨rfl, rfl⟩))
      go_ret
      exact ⟨by rw [HR.out]; rfl, HK.out⟩
  by_cases h10 : op = 10
  · subst h10
    by_cases hkn : ki < 0
    · rw [if_pos hkn, show decide (0 ≤ ki) = false by simp; omega] at hkid
      have HR : Hid (nodeOk 10 arg s N D name n = false) := Lib.hid (by have hke := HKE.out; unfold nodeOk; simp [show ¬ (kidsI 10 = (n : Int)) by omega])
      clear hn1 hn2
      go_enter Tryz.func244, Tryz.ntmps244
      go_wp2_with (first | (go_at_call 326; refine (hkid _).mono ?_; rintro e wa ⟨rfl, rfl⟩))
      go_ret
      exact ⟨by rw [HR.out]; rfl, HK.out⟩
    rw [if_neg hkn, show decide (0 ≤ ki) = true by simp; omega] at hkid
    by_cases hki : (n : Int) = ki
    · have tk : ((n : Int) != ki) = false := by simpa using hki
      by_cases hlo : arg < 2
      · have tl : decide (arg < 2) = true := by simpa using hlo
        have hao : argOk 10 arg = false := by unfold argOk; simp; omega
        have HR : Hid (nodeOk 10 arg s N D name n = false) := Lib.hid (by have hke := HKE.out; unfold nodeOk; simp [hao])
        clear hn1 hn2
        go_enter Tryz.func244, Tryz.ntmps244
        go_wp2_with (first | (go_at_call 326; refine (hkid _).mono ?_; rintro e wa ⟨rfl, rfl⟩))
        go_ret
        exact ⟨by rw [HR.out]; rfl, HK.out⟩
      have tl : decide (arg < 2) = false := by simpa using hlo
      by_cases hhi : 8 < arg
      · have tr : decide (8 < arg) = true := by simpa using hhi
        have hao : argOk 10 arg = false := by unfold argOk; simp; omega
        have HR : Hid (nodeOk 10 arg s N D name n = false) := Lib.hid (by have hke := HKE.out; unfold nodeOk; simp [hao])
        clear hn1 hn2
        go_enter Tryz.func244, Tryz.ntmps244
        go_wp2_with (first | (go_at_call 326; refine (hkid _).mono ?_; rintro e wa ⟨rfl, rfl⟩))
        go_ret
        exact ⟨by rw [HR.out]; rfl, HK.out⟩
      have tr : decide (8 < arg) = false := by simpa using hhi
      have hao : argOk 10 arg = true := by unfold argOk; simp; omega
      clear hlo hhi
      by_cases hnz : name.size = 0
      · rw [show decide (name.size = 0) = true by simpa using hnz] at hn1 hn2
        have HR : Hid (nodeOk 10 arg s N D name n = decide (N = 0)) := Lib.hid (by have hke := HKE.out; unfold nodeOk; simp [hke, hki, hao, hnz])
        go_enter Tryz.func244, Tryz.ntmps244
        go_wp2_with (first | (go_at_call 326; refine (hkid _).mono ?_; rintro e wa ⟨rfl, rfl⟩) | (go_at_call 248; refine (hof _ HK.out).mono ?_; rintro e wc ⟨rfl, rfl⟩) | (go_at_call 192; refine (hzero _ HK.out).mono ?_; rintro e wd ⟨rfl, rfl⟩))
        go_ret
        exact ⟨by rw [HR.out]; rfl, HK.out⟩
      · rw [show decide (name.size = 0) = false by simpa using hnz] at hn1 hn2
        have HR : Hid (nodeOk 10 arg s N D name n = false) := Lib.hid (by have hke := HKE.out; unfold nodeOk; simp [hnz])
        go_enter Tryz.func244, Tryz.ntmps244
        go_wp2_with (first | (go_at_call 326; refine (hkid _).mono ?_; rintro e wa ⟨rfl, rfl⟩))
        go_ret
        exact ⟨by rw [HR.out]; rfl, HK.out⟩
    · have tk : ((n : Int) != ki) = true := by simpa using hki
      have HR : Hid (nodeOk 10 arg s N D name n = false) := Lib.hid (by have hke := HKE.out; unfold nodeOk; simp [show ¬ (kidsI 10 = (n : Int)) by omega])
      clear hn1 hn2
      go_enter Tryz.func244, Tryz.ntmps244
      go_wp2_with (first | (go_at_call 326; refine (hkid _).mono ?_; rintro e wa ⟨rfl, rfl⟩))
      go_ret
      exact ⟨by rw [HR.out]; rfl, HK.out⟩
  by_cases h11 : op = 11
  · subst h11
    by_cases hkn : ki < 0
    · rw [if_pos hkn, show decide (0 ≤ ki) = false by simp; omega] at hkid
      have HR : Hid (nodeOk 11 arg s N D name n = false) := Lib.hid (by have hke := HKE.out; unfold nodeOk; simp [show ¬ (kidsI 11 = (n : Int)) by omega])
      clear hn1 hn2
      go_enter Tryz.func244, Tryz.ntmps244
      go_wp2_with (first | (go_at_call 326; refine (hkid _).mono ?_; rintro e wa ⟨rfl, rfl⟩))
      go_ret
      exact ⟨by rw [HR.out]; rfl, HK.out⟩
    rw [if_neg hkn, show decide (0 ≤ ki) = true by simp; omega] at hkid
    by_cases hki : (n : Int) = ki
    · have tk : ((n : Int) != ki) = false := by simpa using hki
      by_cases hlo : arg < 1
      · have tl : decide (arg < 1) = true := by simpa using hlo
        have hao : argOk 11 arg = false := by unfold argOk; simp; omega
        have HR : Hid (nodeOk 11 arg s N D name n = false) := Lib.hid (by have hke := HKE.out; unfold nodeOk; simp [hao])
        clear hn1 hn2
        go_enter Tryz.func244, Tryz.ntmps244
        go_wp2_with (first | (go_at_call 326; refine (hkid _).mono ?_; rintro e wa ⟨rfl, rfl⟩))
        go_ret
        exact ⟨by rw [HR.out]; rfl, HK.out⟩
      have tl : decide (arg < 1) = false := by simpa using hlo
      by_cases hhi : 8 < arg
      · have tr : decide (8 < arg) = true := by simpa using hhi
        have hao : argOk 11 arg = false := by unfold argOk; simp; omega
        have HR : Hid (nodeOk 11 arg s N D name n = false) := Lib.hid (by have hke := HKE.out; unfold nodeOk; simp [hao])
        clear hn1 hn2
        go_enter Tryz.func244, Tryz.ntmps244
        go_wp2_with (first | (go_at_call 326; refine (hkid _).mono ?_; rintro e wa ⟨rfl, rfl⟩))
        go_ret
        exact ⟨by rw [HR.out]; rfl, HK.out⟩
      have tr : decide (8 < arg) = false := by simpa using hhi
      have hao : argOk 11 arg = true := by unfold argOk; simp; omega
      clear hlo hhi
      by_cases hnz : name.size = 0
      · rw [show decide (name.size = 0) = true by simpa using hnz] at hn1 hn2
        have HR : Hid (nodeOk 11 arg s N D name n = decide (N = 0)) := Lib.hid (by have hke := HKE.out; unfold nodeOk; simp [hke, hki, hao, hnz])
        go_enter Tryz.func244, Tryz.ntmps244
        go_wp2_with (first | (go_at_call 326; refine (hkid _).mono ?_; rintro e wa ⟨rfl, rfl⟩) | (go_at_call 248; refine (hof _ HK.out).mono ?_; rintro e wc ⟨rfl, rfl⟩) | (go_at_call 192; refine (hzero _ HK.out).mono ?_; rintro e wd ⟨rfl, rfl⟩))
        go_ret
        exact ⟨by rw [HR.out]; rfl, HK.out⟩
      · rw [show decide (name.size = 0) = false by simpa using hnz] at hn1 hn2
        have HR : Hid (nodeOk 11 arg s N D name n = false) := Lib.hid (by have hke := HKE.out; unfold nodeOk; simp [hnz])
        go_enter Tryz.func244, Tryz.ntmps244
        go_wp2_with (first | (go_at_call 326; refine (hkid _).mono ?_; rintro e wa ⟨rfl, rfl⟩))
        go_ret
        exact ⟨by rw [HR.out]; rfl, HK.out⟩
    · have tk : ((n : Int) != ki) = true := by simpa using hki
      have HR : Hid (nodeOk 11 arg s N D name n = false) := Lib.hid (by have hke := HKE.out; unfold nodeOk; simp [show ¬ (kidsI 11 = (n : Int)) by omega])
      clear hn1 hn2
      go_enter Tryz.func244, Tryz.ntmps244
      go_wp2_with (first | (go_at_call 326; refine (hkid _).mono ?_; rintro e wa ⟨rfl, rfl⟩))
      go_ret
      exact ⟨by rw [HR.out]; rfl, HK.out⟩
  have q9 : (op == 9) = false := by simpa using h9
  have q10 : (op == 10) = false := by simpa using h10
  have q11 : (op == 11) = false := by simpa using h11
  clear h9 h10 h11
  by_cases hkn : ki < 0
  · rw [if_pos hkn, show decide (0 ≤ ki) = false by simp; omega] at hkid
    have HR : Hid (nodeOk op arg s N D name n = false) := Lib.hid (by have hke := HKE.out; unfold nodeOk; simp [show ¬ (kidsI op = (n : Int)) by omega])
    clear hn1 hn2
    go_enter Tryz.func244, Tryz.ntmps244
    go_wp2_with (first | (go_at_call 326; refine (hkid _).mono ?_; rintro e wa ⟨rfl, rfl⟩))
    go_ret
    exact ⟨by rw [HR.out]; rfl, HK.out⟩
  rw [if_neg hkn, show decide (0 ≤ ki) = true by simp; omega] at hkid
  by_cases hki : (n : Int) = ki
  · have tk : ((n : Int) != ki) = false := by simpa using hki
    by_cases hlo : arg < 0
    · have tl : decide (arg < 0) = true := by simpa using hlo
      have hao : argOk op arg = false := by unfold argOk; simp at q9 q10 q11; rw [if_neg q9, if_neg q10, if_neg q11]; simp; omega
      have HR : Hid (nodeOk op arg s N D name n = false) := Lib.hid (by have hke := HKE.out; unfold nodeOk; simp [hao])
      clear hn1 hn2
      go_enter Tryz.func244, Tryz.ntmps244
      go_wp2_with (first | (go_at_call 326; refine (hkid _).mono ?_; rintro e wa ⟨rfl, rfl⟩))
      go_ret
      exact ⟨by rw [HR.out]; rfl, HK.out⟩
    have tl : decide (arg < 0) = false := by simpa using hlo
    by_cases hhi : 0 < arg
    · have tr : decide (0 < arg) = true := by simpa using hhi
      have hao : argOk op arg = false := by unfold argOk; simp at q9 q10 q11; rw [if_neg q9, if_neg q10, if_neg q11]; simp; omega
      have HR : Hid (nodeOk op arg s N D name n = false) := Lib.hid (by have hke := HKE.out; unfold nodeOk; simp [hao])
      clear hn1 hn2
      go_enter Tryz.func244, Tryz.ntmps244
      go_wp2_with (first | (go_at_call 326; refine (hkid _).mono ?_; rintro e wa ⟨rfl, rfl⟩))
      go_ret
      exact ⟨by rw [HR.out]; rfl, HK.out⟩
    have tr : decide (0 < arg) = false := by simpa using hhi
    have hao : argOk op arg = true := by unfold argOk; simp at q9 q10 q11; rw [if_neg q9, if_neg q10, if_neg q11]; simp; omega
    clear hlo hhi
    by_cases h1 : op = 1
    · subst h1
      by_cases hnz : name.size = 0
      · rw [show decide (name.size = 0) = true by simpa using hnz] at hn1 hn2
        cases hsm : small N D with
        | false =>

          have HR : Hid (nodeOk 1 arg s N D name n = false) := Lib.hid (by have hke := HKE.out; unfold nodeOk; simp [hsm])
          go_enter Tryz.func244, Tryz.ntmps244
          go_wp2_with (first | (go_at_call 326; refine (hkid _).mono ?_; rintro e wa ⟨rfl, rfl⟩) | (go_at_call 155; refine (hread _ HK.out).mono ?_; rintro e wr ⟨p, a1, n1, c1, a2, n2, c2, rfl, hkr, hfr⟩; have hS2 := HK.out.trans hkr))
          go_ret
          exact ⟨by rw [HR.out]; rfl, (by first | exact hS2 | exact hS2.alloc _ | exact (hS2.alloc _).trans hkq)⟩
        | true =>
          have HR : Hid (nodeOk 1 arg s N D name n = decide (0 ≤ sgn (s && decide (0 < N)) (rN N D))) := Lib.hid (by have hke := HKE.out; unfold nodeOk; rw [HSG.out]; simp [hsm, hke, hki, hao, hnz])
          go_enter Tryz.func244, Tryz.ntmps244
          go_wp2_with (first | (go_at_call 326; refine (hkid _).mono ?_; rintro e wa ⟨rfl, rfl⟩) | (go_at_call 155; refine (hread _ HK.out).mono ?_; rintro e wr ⟨p, a1, n1, c1, a2, n2, c2, rfl, hkr, hfr⟩; have hS2 := HK.out.trans hkr) | (go_at_call 283; refine (sign_calls ((hfr hsm).kept ((Kept.refl _).alloc _))).mono ?_; rintro e we ⟨rfl, hkq⟩))
          go_ret
          exact ⟨by rw [HR.out]; rfl, (by first | exact hS2 | exact hS2.alloc _ | exact (hS2.alloc _).trans hkq)⟩
      · rw [show decide (name.size = 0) = false by simpa using hnz] at hn1 hn2
        have HR : Hid (nodeOk 1 arg s N D name n = false) := Lib.hid (by have hke := HKE.out; unfold nodeOk; simp [hnz])
        go_enter Tryz.func244, Tryz.ntmps244
        go_wp2_with (first | (go_at_call 326; refine (hkid _).mono ?_; rintro e wa ⟨rfl, rfl⟩))
        go_ret
        exact ⟨by rw [HR.out]; rfl, HK.out⟩
    by_cases h2 : op = 2
    · subst h2
      cases hin : isName name with
      | false =>
        rw [hin] at hname
        have HR : Hid (nodeOk 2 arg s N D name n = false) := Lib.hid (by have hke := HKE.out; unfold nodeOk; simp [hin])
        clear hn1 hn2
        go_enter Tryz.func244, Tryz.ntmps244
        go_wp2_with (first | (go_at_call 326; refine (hkid _).mono ?_; rintro e wa ⟨rfl, rfl⟩) | (go_at_call 148; refine (hname _).mono ?_; rintro e wb ⟨rfl, hkb⟩; have hS1 := HK.out.trans hkb; obtain ⟨p0, p1, p2, p3, p4, p5, p6, _⟩ := (HB.out.kept hkb).facts7))
        go_ret
        exact ⟨by rw [HR.out]; rfl, hS1⟩
      | true =>
        rw [hin] at hname
        have HR : Hid (nodeOk 2 arg s N D name n = decide (N = 0)) := Lib.hid (by have hke := HKE.out; unfold nodeOk; simp [hin, hke, hki, hao])
        clear hn1 hn2
        go_enter Tryz.func244, Tryz.ntmps244
        go_wp2_with (first | (go_at_call 326; refine (hkid _).mono ?_; rintro e wa ⟨rfl, rfl⟩) | (go_at_call 148; refine (hname _).mono ?_; rintro e wb ⟨rfl, hkb⟩; have hS1 := HK.out.trans hkb; obtain ⟨p0, p1, p2, p3, p4, p5, p6, _⟩ := (HB.out.kept hkb).facts7) | (go_at_call 248; refine (hof _ hS1).mono ?_; rintro e wc ⟨rfl, rfl⟩) | (go_at_call 192; refine (hzero _ hS1).mono ?_; rintro e wd ⟨rfl, rfl⟩))
        go_ret
        exact ⟨by rw [HR.out]; rfl, hS1⟩
    have q1 : (op == 1) = false := by simpa using h1
    have q2 : (op == 2) = false := by simpa using h2
    have q3 : (op != 1) = true := by simpa using h1
    have q4 : (op != 2) = true := by simpa using h2
    have q1' := h1
    have q2' := h2
    clear h1 h2
    by_cases hnz : name.size = 0
    · rw [show decide (name.size = 0) = true by simpa using hnz] at hn1 hn2
      have HR : Hid (nodeOk op arg s N D name n = decide (N = 0)) := Lib.hid (by have hke := HKE.out; unfold nodeOk; simp [hke, hki, hao, hnz, q1', q2'])
      go_enter Tryz.func244, Tryz.ntmps244
      go_wp2_with (first | (go_at_call 326; refine (hkid _).mono ?_; rintro e wa ⟨rfl, rfl⟩) | (go_at_call 248; refine (hof _ HK.out).mono ?_; rintro e wc ⟨rfl, rfl⟩) | (go_at_call 192; refine (hzero _ HK.out).mono ?_; rintro e wd ⟨rfl, rfl⟩))
      go_ret
      exact ⟨by rw [HR.out]; rfl, HK.out⟩
    · rw [show decide (name.size = 0) = false by simpa using hnz] at hn1 hn2
      have HR : Hid (nodeOk op arg s N D name n = false) := Lib.hid (by have hke := HKE.out; unfold nodeOk; simp [hnz, q1', q2'])
      go_enter Tryz.func244, Tryz.ntmps244
      go_wp2_with (first | (go_at_call 326; refine (hkid _).mono ?_; rintro e wa ⟨rfl, rfl⟩))
      go_ret
      exact ⟨by rw [HR.out]; rfl, HK.out⟩
  · have tk : ((n : Int) != ki) = true := by simpa using hki
    have HR : Hid (nodeOk op arg s N D name n = false) := Lib.hid (by have hke := HKE.out; unfold nodeOk; simp [show ¬ (kidsI op = (n : Int)) by omega])
    clear hn1 hn2
    go_enter Tryz.func244, Tryz.ntmps244
    go_wp2_with (first | (go_at_call 326; refine (hkid _).mono ?_; rintro e wa ⟨rfl, rfl⟩))
    go_ret
    exact ⟨by rw [HR.out]; rfl, HK.out⟩
end Go.Proofs.YtbapfnpbamnmpaaGreatDoor
end
