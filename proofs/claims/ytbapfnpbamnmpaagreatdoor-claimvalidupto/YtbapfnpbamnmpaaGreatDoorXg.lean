/- A part of the proof that ClaimValid answers true for every input of bulk at most 1048576: conditions: the row's own. -/
import Derived.Test.YtbapfnpbamnmpaaGreatDoorXc
import Derived.Test.YtbapfnpbamnmpaaGreatDoorXf
section
namespace Go.Proofs.YtbapfnpbamnmpaaGreatDoor
open Go Go.RowKit Go.Dig
open Go.Eng (Kept KW KeptB wp_region_kw kw_call)
/-! ### interval.Inside, claim.sameInterval over intervals that are right -/
def cmpLo (i j : IvD) : Int := qcmp (i.s1 && decide (0 < i.N1)) (rN i.N1 i.D1) (rD i.N1 i.D1) (j.s1 && decide (0 < j.N1)) (rN j.N1 j.D1) (rD j.N1 j.D1)
def cmpHi (i j : IvD) : Int := qcmp (i.s2 && decide (0 < i.N2)) (rN i.N2 i.D2) (rD i.N2 i.D2) (j.s2 && decide (0 < j.N2)) (rN j.N2 j.D2) (rD j.N2 j.D2)
def insideB (i j : IvD) : Bool := (j.li || (!i.li && decide (0 ≤ cmpLo i j))) && (j.hi || (!i.hi && decide (cmpHi i j ≤ 0)))
theorem sg_neg (x : Int) : sg (-x) = - sg x := by
  unfold sg
  repeat' split
  all_goals omega
theorem qcmp_anti (s : Bool) (n d : Nat) (s' : Bool) (n' d' : Nat) : qcmp s' n' d' s n d = - qcmp s n d s' n' d' := by
  rw [qcmp_sg, qcmp_sg, ← sg_neg]
  congr 1
  omega
theorem both_lo (x : Int) : (decide (0 ≤ x) && decide (0 ≤ -x)) = (x == 0) := by
  rw [Bool.eq_iff_iff]
  simp only [Bool.and_eq_true, decide_eq_true_eq, beq_iff_eq]
  omega
theorem both_hi (x : Int) : (decide (x ≤ 0) && decide (-x ≤ 0)) = (x == 0) := by
  rw [Bool.eq_iff_iff]
  simp only [Bool.and_eq_true, decide_eq_true_eq, beq_iff_eq]
  omega
theorem qcmp_none : qcmp false 0 0 false 0 0 = 0 := by
  rw [qcmp_sg]
  simp [sI, sg]
theorem inside_same (i j : IvD) : (insideB i j && insideB j i) = sameI i j := by
  have h1 : cmpLo j i = - cmpLo i j := qcmp_anti ..
  have h2 : cmpHi j i = - cmpHi i j := qcmp_anti ..
  have b1 := both_lo (cmpLo i j)
  have b2 := both_hi (cmpHi i j)
  have e1 : (qcmp (loS i) (loN i) (loD i) (loS j) (loN j) (loD j) == 0 && i.li == j.li) = ((j.li || (!i.li && decide (0 ≤ cmpLo i j))) && (i.li || (!j.li && decide (0 ≤ cmpLo j i)))) := by
    rw [h1]
    unfold loS loN loD
    cases hl : i.li <;> cases hm : j.li
    · simp only [Bool.false_eq_true, if_false, Bool.not_false, Bool.true_and, Bool.false_or, beq_self_eq_true, Bool.and_true]
      rw [b1]; rfl
    · simp
    · simp
    · simp [qcmp_none]
  have e2 : (qcmp (hiS i) (hiN i) (hiD i) (hiS j) (hiN j) (hiD j) == 0 && i.hi == j.hi) = ((j.hi || (!i.hi && decide (cmpHi i j ≤ 0))) && (i.hi || (!j.hi && decide (cmpHi j i ≤ 0)))) := by
    rw [h2]
    unfold hiS hiN hiD
    cases hl : i.hi <;> cases hm : j.hi
    · simp only [Bool.false_eq_true, if_false, Bool.not_false, Bool.true_and, Bool.false_or, beq_self_eq_true, Bool.and_true]
      rw [b2]; rfl
    · simp
    · simp
    · simp [qcmp_none]
  have e3 : (insideB i j && insideB j i) = (((j.li || (!i.li && decide (0 ≤ cmpLo i j))) && (i.li || (!j.li && decide (0 ≤ cmpLo j i)))) && ((j.hi || (!i.hi && decide (cmpHi i j ≤ 0))) && (i.hi || (!j.hi && decide (cmpHi j i ≤ 0))))) := by
    unfold insideB
    generalize (j.li || (!i.li && decide (0 ≤ cmpLo i j))) = A
    generalize (i.li || (!j.li && decide (0 ≤ cmpLo j i))) = B
    generalize (j.hi || (!i.hi && decide (cmpHi i j ≤ 0))) = C
    generalize (i.hi || (!j.hi && decide (cmpHi j i ≤ 0))) = D
    cases A <;> cases B <;> cases C <;> cases D <;> rfl
  rw [e3, ← e1, ← e2]
  unfold sameI
  generalize (qcmp (loS i) (loN i) (loD i) (loS j) (loN j) (loD j) == 0) = A
  generalize (qcmp (hiS i) (hiN i) (hiD i) (hiS j) (hiN j) (hiD j) == 0) = B
  generalize (i.li == j.li) = C
  generalize (i.hi == j.hi) = D
  cases A <;> cases B <;> cases C <;> cases D <;> rfl
/-- what interval.read hands back, of an interval that is not empty -/
theorem iread_nv {w : World} {v : Value} {i : IvD} (h : Ivl w v i) (hT : Laid w) (hf : i.fine = true) (hv : i.void = false) :
    Calls Tryz.prog 237 #[v] w fun e w' => ∃ x1 x2 x3 x4 x5 x6 x7 x8 x9 xa xb xc, e = .returned (.agg #[.bool (i.s1 && decide (0 < i.N1)), .slice x1 x2 x3, .slice x4 x5 x6, .bool (i.s2 && decide (0 < i.N2)), .slice x7 x8 x9, .slice xa xb xc, .bool i.li, .bool i.hi, .bool false]) ∧
      Fr w' (.agg #[.bool (i.s1 && decide (0 < i.N1)), .slice x1 x2 x3, .slice x4 x5 x6]) (i.s1 && decide (0 < i.N1)) (rN i.N1 i.D1) (rD i.N1 i.D1) ∧ Fr w' (.agg #[.bool (i.s2 && decide (0 < i.N2)), .slice x7 x8 x9, .slice xa xb xc]) (i.s2 && decide (0 < i.N2)) (rN i.N2 i.D2) (rD i.N2 i.D2) ∧ Kept w w' := by
  refine (iread_good h hT hf).mono ?_
  rintro e w' ⟨v', rfl, ⟨x1, x2, x3, x4, x5, x6, x7, x8, x9, xa, xb, xc, rfl, h1, h2⟩, hk⟩
  rw [hv]
  exact ⟨x1, x2, x3, x4, x5, x6, x7, x8, x9, xa, xb, xc, rfl, h1, h2, hk⟩
set_option maxHeartbeats 4000000 in
set_option maxRecDepth 100000 in
theorem inside_fn {w : World} {b b' : Nat} {i j : IvD} (hi : IvB w b i) (hj : IvB w b' j) (hT : Laid w) (hf : i.fine = true) (hf' : j.fine = true) (hv : i.void = false) (hv' : j.void = false) :
    Calls Tryz.prog 236 #[.pointer (some ⟨b, 0, none⟩), .pointer (some ⟨b', 0, none⟩)] w fun e w' => e = .returned (.bool (insideB i j)) ∧ Kept w w' := by
  obtain ⟨a, n, c, a', n', c', d, m, e, d', m', e', hb, h⟩ := hi
  obtain ⟨ja, jn, jc, ja', jn', jc', jd, jm, je, jd', jm', je', hb', h'⟩ := hj
  have hr1 := iread_nv h hT hf hv
  have hr2 := fun (w' : World) (k : Kept w w') => iread_nv (h'.kept k) (hT.kept k) hf' hv'
  have HF1 : Hid (∀ (w' : World) (x y : Value), Fr w' x (i.s1 && decide (0 < i.N1)) (rN i.N1 i.D1) (rD i.N1 i.D1) → Fr w' y (j.s1 && decide (0 < j.N1)) (rN j.N1 j.D1) (rD j.N1 j.D1) → Calls Tryz.prog 238 #[x, y] w' fun e w'' => e = .returned (.int .i64 (cmpLo i j)) ∧ Kept w' w'') := by
    have s1 : small i.N1 i.D1 = true := by have hf : (small i.N1 i.D1 && small i.N2 i.D2) = true := hf; simp only [Bool.and_eq_true] at hf; exact hf.1
    have s2 : small j.N1 j.D1 = true := by have hf : (small j.N1 j.D1 && small j.N2 j.D2) = true := hf'; simp only [Bool.and_eq_true] at hf; exact hf.1
    obtain ⟨g1, g2, g3, g4, g5, g6⟩ := small_bounds s1
    obtain ⟨g7, g8, g9, g10, g11, g12⟩ := small_bounds s2
    refine Lib.hid fun w' x y q q' => ?_
    unfold cmpLo
    rw [← fcmp_qcmp _ _ _ _ _ _ (rD_pos _ _) (rD_pos _ _)]
    exact fcmp_calls q q' (sm_big g3) (sm_big g4) (sm_big g9) (sm_big g10) (mid_big (p14_mid (sm_mul g3 g10)))
  have HF2 : Hid (∀ (w' : World) (x y : Value), Fr w' x (i.s2 && decide (0 < i.N2)) (rN i.N2 i.D2) (rD i.N2 i.D2) → Fr w' y (j.s2 && decide (0 < j.N2)) (rN j.N2 j.D2) (rD j.N2 j.D2) → Calls Tryz.prog 238 #[x, y] w' fun e w'' => e = .returned (.int .i64 (cmpHi i j)) ∧ Kept w' w'') := by
    have s1 : small i.N2 i.D2 = true := by have hf : (small i.N1 i.D1 && small i.N2 i.D2) = true := hf; simp only [Bool.and_eq_true] at hf; exact hf.2
    have s2 : small j.N2 j.D2 = true := by have hf : (small j.N1 j.D1 && small j.N2 j.D2) = true := hf'; simp only [Bool.and_eq_true] at hf; exact hf.2
    obtain ⟨g1, g2, g3, g4, g5, g6⟩ := small_bounds s1
    obtain ⟨g7, g8, g9, g10, g11, g12⟩ := small_bounds s2
    refine Lib.hid fun w' x y q q' => ?_
    unfold cmpHi
    rw [← fcmp_qcmp _ _ _ _ _ _ (rD_pos _ _) (rD_pos _ _)]
    exact fcmp_calls q q' (sm_big g3) (sm_big g4) (sm_big g9) (sm_big g10) (mid_big (p14_mid (sm_mul g3 g10)))
  have HR : Hid (insideB i j = ((j.li || (!i.li && decide (0 ≤ cmpLo i j))) && (j.hi || (!i.hi && decide (cmpHi i j ≤ 0))))) := Lib.hid rfl
  clear h h' hT hf hf' hv hv'
  obtain ⟨c0, c1, c2, c3, c4, c5, c6, c7, -⟩ := hb.facts8
  generalize insideB i j = res at *
  generalize cmpLo i j = r1 at *
  generalize cmpHi i j = r2 at *
  generalize (i.s1 && decide (0 < i.N1)) = p1 at *
  generalize (i.s2 && decide (0 < i.N2)) = p2 at *
  generalize (j.s1 && decide (0 < j.N1)) = q1 at *
  generalize (j.s2 && decide (0 < j.N2)) = q2 at *
  generalize i.li = li at *
  generalize i.hi = hi at *
  generalize j.li = lj at *
  generalize j.hi = hj at *
  go_enter Tryz.func236, Tryz.ntmps236
  go_wp2_with fail
  refine hr1.mono ?_
  rintro _ w2 ⟨x1, x2, x3, x4, x5, x6, x7, x8, x9, xa, xb, xc, rfl, hx1, hx2, hk2⟩
  have hP := Blk.new w2 #[.bool p1, .slice x1 x2 x3, .slice x4 x5 x6, .bool p2, .slice x7 x8 x9, .slice xa xb xc, .bool li, .bool hi, .bool false] 302
  have hkP : Kept w2 (w2.alloc (.cells #[.bool p1, .slice x1 x2 x3, .slice x4 x5 x6, .bool p2, .slice x7 x8 x9, .slice xa xb xc, .bool li, .bool hi, .bool false] 302)) := (Kept.refl w2).alloc _
  have hk3 := hk2.trans hkP
  obtain ⟨d0, d1, d2, d3, d4, d5, d6, d7, -⟩ := (hb'.kept hk3).facts8
  clear c0 c1 c2 c3 c4 c5 c6 c7
  go_wp2_with fail
  refine (hr2 _ hk3).mono ?_
  rintro _ w4 ⟨y1, y2, y3, y4, y5, y6, y7, y8, y9, ya, yb, yc, rfl, hy1, hy2, hk4⟩
  clear d0 d1 d2 d3 d4 d5 d6 d7
  replace hP := hP.kept hk4
  have hQ := Blk.new w4 #[.bool q1, .slice y1 y2 y3, .slice y4 y5 y6, .bool q2, .slice y7 y8 y9, .slice ya yb yc, .bool lj, .bool hj, .bool false] 302
  have hkQ : Kept w4 (w4.alloc (.cells #[.bool q1, .slice y1 y2 y3, .slice y4 y5 y6, .bool q2, .slice y7 y8 y9, .slice ya yb yc, .bool lj, .bool hj, .bool false] 302)) := (Kept.refl w4).alloc _
  replace hP := hP.kept hkQ
  replace hx1 := hx1.kept ((hkP.trans hk4).trans hkQ)
  replace hx2 := hx2.kept ((hkP.trans hk4).trans hkQ)
  replace hy1 := hy1.kept hkQ
  replace hy2 := hy2.kept hkQ
  have hkz := (hk3.trans hk4).trans hkQ
  clear hr1 hr2 hk2 hkP hk3 hk4 hkQ hb hb'
  obtain ⟨e0, e1, e2, e3, e4, e5, e6, e7, e8, -⟩ := hP.facts9
  obtain ⟨d0, d1, d2, d3, d4, d5, d6, d7, d8, -⟩ := hQ.facts9
  have hlo : lj = true ∨ (lj = false ∧ li = true) ∨ (lj = false ∧ li = false ∧ decide (0 ≤ r1) = true) ∨ (lj = false ∧ li = false ∧ decide (0 ≤ r1) = false) := by
    cases lj <;> cases li <;> cases decide (0 ≤ r1) <;> simp
  have hhi : hj = true ∨ (hj = false ∧ hi = true) ∨ (hj = false ∧ hi = false ∧ decide (r2 ≤ 0) = true) ∨ (hj = false ∧ hi = false ∧ decide (r2 ≤ 0) = false) := by
    cases hj <;> cases hi <;> cases decide (r2 ≤ 0) <;> simp
  rcases hlo with rfl | ⟨rfl, rfl⟩ | ⟨rfl, rfl, t1⟩ | ⟨rfl, rfl, t1⟩ <;> rcases hhi with rfl | ⟨rfl, rfl⟩ | ⟨rfl, rfl, t2⟩ | ⟨rfl, rfl, t2⟩
  all_goals
    first | rw [t1] at HR | skip
    first | rw [t2] at HR | skip
    go_wp2_with (first
      | (go_at_call_of 238 (Value.agg #[.bool p1, .slice x1 x2 x3, .slice x4 x5 x6]); refine (HF1.out _ _ _ hx1 hy1).mono ?_; rintro e w5 ⟨rfl, hk5⟩; replace hP := hP.kept hk5; replace hQ := hQ.kept hk5; replace hx2 := hx2.kept hk5; replace hy2 := hy2.kept hk5; replace hkz := hkz.trans hk5; clear e0 e1 e2 e3 e4 e5 e6 e7 e8 d0 d1 d2 d3 d4 d5 d6 d7 d8; obtain ⟨e0, e1, e2, e3, e4, e5, e6, e7, e8, -⟩ := hP.facts9; obtain ⟨d0, d1, d2, d3, d4, d5, d6, d7, d8, -⟩ := hQ.facts9)
      | (go_at_call_of 238 (Value.agg #[.bool p2, .slice x7 x8 x9, .slice xa xb xc]); refine (HF2.out _ _ _ hx2 hy2).mono ?_; rintro e w6 ⟨rfl, hk6⟩; replace hkz := hkz.trans hk6; replace hP := hP.kept hk6; replace hQ := hQ.kept hk6; clear e0 e1 e2 e3 e4 e5 e6 e7 e8 d0 d1 d2 d3 d4 d5 d6 d7 d8; obtain ⟨e0, e1, e2, e3, e4, e5, e6, e7, e8, -⟩ := hP.facts9; obtain ⟨d0, d1, d2, d3, d4, d5, d6, d7, d8, -⟩ := hQ.facts9))
    go_ret
    exact ⟨by rw [HR.out]; rfl, hkz⟩
set_option maxHeartbeats 2000000 in
set_option maxRecDepth 100000 in
theorem try_inside {w : World} {b b' : Nat} {i j : IvD} (hi : IvB w b i) (hj : IvB w b' j) (hT : Laid w) (hf : i.fine = true) (hf' : j.fine = true) (hv : i.void = false) (hv' : j.void = false) :
    Calls Tryz.prog 235 #[.func (.func 236) #[] #[.pointer (some ⟨b, 0, none⟩), .pointer (some ⟨b', 0, none⟩)]] w fun e w' => e = .returned (.tuple #[.bool (insideB i j), .int .i64 0]) ∧ Kept w w' := by
  have hmf : ∀ (fn : Fn) (first cap : Array Value) (w : World), (Instr.makeFunc fn first cap).run Tryz.prog w = .ok (.func fn first cap) w := fun _ _ _ _ => rfl
  have hk : Kept w ((w.alloc (.cells #[.bool false] 4)).alloc (.cells #[.int .i64 0] 32)) := ((Kept.refl w).alloc _).alloc _
  have e1 : (w.alloc (.cells #[.bool false] 4)).heap.size = w.heap.size + 1 := by simp [go_sem]
  have hb1 := (Blk.new w #[.bool false] 4).kept ((Kept.refl _).alloc (.cells #[.int .i64 0] 32))
  have hb2 := Blk.new (w.alloc (.cells #[.bool false] 4)) #[.int .i64 0] 32
  rw [e1] at hb2
  clear e1
  have hcall := inside_fn (hi.kept hk) (hj.kept hk) (hT.kept hk) hf hf' hv hv'
  clear hi hj hT hf hf' hv hv'
  generalize insideB i j = vd at *
  go_enter_defers Tryz.func235, Tryz.ntmps235
  go_wp2_with fail
  generalize (w.alloc (.cells #[.bool false] 4)).alloc (.cells #[.int .i64 0] 32) = w1 at *
  generalize hbE : w.heap.size = b0 at hb1 hb2 ⊢
  have HBE := Lib.hid hbE; clear hbE
  refine hcall.mono ?_
  rintro _ w2 ⟨rfl, hk2⟩
  have hb1 := hb1.kept hk2
  have hb2 := hb2.kept hk2
  obtain ⟨c1, f1⟩ := hb1.facts1
  obtain ⟨c2, f2⟩ := hb2.facts1
  go_wp2
  refine leaves_cons (f := 318) (args := #[.pointer (some ⟨b0, 0, none⟩), .pointer (some ⟨b0 + 1, 0, none⟩)]) (by simp) (by simp [go_sem]) ?_
  refine (catch_idle b0 (b0 + 1) _).mono ?_
  rintro e u' w'' ⟨rfl, rfl, rfl⟩
  simp [Leaves, settle, results, Tryz.results235, go_sem, c1, c2]
  exact ((hk.trans hk2).but (st1 ..) (by have := HBE.out; omega)).but (st1 ..) (by have := HBE.out; omega)
set_option maxHeartbeats 2000000 in
set_option maxRecDepth 100000 in
theorem inside_calls {w : World} {v u : Value} {i j : IvD} (h : Ivl w v i) (h' : Ivl w u j) (hT : Laid w) (hf : i.fine = true) (hf' : j.fine = true) (hv : i.void = false) (hv' : j.void = false) :
    Calls Tryz.prog 143 #[v, u] w fun e w' => e = .returned (.tuple #[.bool (insideB i j), .int .i64 0]) ∧ Kept w w' := by
  have hmf : ∀ (fn : Fn) (first cap : Array Value) (w : World), (Instr.makeFunc fn first cap).run Tryz.prog w = .ok (.func fn first cap) w := fun _ _ _ _ => rfl
  have hh := h
  have hh' := h'
  obtain ⟨a, n, c, a2, n2, c2, a3, n3, c3, a4, n4, c4, rfl, -⟩ := h
  obtain ⟨b, m, d, b2, m2, d2, b3, m3, d3, b4, m4, d4, rfl, -⟩ := h'
  have hA := Blk.new w #[.bool i.s1, .slice a n c, .slice a2 n2 c2, .bool i.s2, .slice a3 n3 c3, .slice a4 n4 c4, .bool i.li, .bool i.hi] 39
  have hB := Blk.new (w.alloc (.cells #[.bool i.s1, .slice a n c, .slice a2 n2 c2, .bool i.s2, .slice a3 n3 c3, .slice a4 n4 c4, .bool i.li, .bool i.hi] 39)) #[.bool j.s1, .slice b m d, .slice b2 m2 d2, .bool j.s2, .slice b3 m3 d3, .slice b4 m4 d4, .bool j.li, .bool j.hi] 39
  have hsz : (w.alloc (.cells #[.bool i.s1, .slice a n c, .slice a2 n2 c2, .bool i.s2, .slice a3 n3 c3, .slice a4 n4 c4, .bool i.li, .bool i.hi] 39)).heap.size = w.heap.size + 1 := Array.size_push _
  have hk1 : Kept w (w.alloc (.cells #[.bool i.s1, .slice a n c, .slice a2 n2 c2, .bool i.s2, .slice a3 n3 c3, .slice a4 n4 c4, .bool i.li, .bool i.hi] 39)) := (Kept.refl w).alloc _
  have hk2 : Kept (w.alloc (.cells #[.bool i.s1, .slice a n c, .slice a2 n2 c2, .bool i.s2, .slice a3 n3 c3, .slice a4 n4 c4, .bool i.li, .bool i.hi] 39)) ((w.alloc (.cells #[.bool i.s1, .slice a n c, .slice a2 n2 c2, .bool i.s2, .slice a3 n3 c3, .slice a4 n4 c4, .bool i.li, .bool i.hi] 39)).alloc (.cells #[.bool j.s1, .slice b m d, .slice b2 m2 d2, .bool j.s2, .slice b3 m3 d3, .slice b4 m4 d4, .bool j.li, .bool j.hi] 39)) := (Kept.refl _).alloc _
  replace hA := hA.kept hk2
  have hk := hk1.trans hk2
  clear hk1 hk2
  have hib : IvB ((w.alloc (.cells #[.bool i.s1, .slice a n c, .slice a2 n2 c2, .bool i.s2, .slice a3 n3 c3, .slice a4 n4 c4, .bool i.li, .bool i.hi] 39)).alloc (.cells #[.bool j.s1, .slice b m d, .slice b2 m2 d2, .bool j.s2, .slice b3 m3 d3, .slice b4 m4 d4, .bool j.li, .bool j.hi] 39)) w.heap.size i := ⟨a, n, c, a2, n2, c2, a3, n3, c3, a4, n4, c4, hA, hh.kept hk⟩
  rw [hsz] at hB
  have hjb : IvB ((w.alloc (.cells #[.bool i.s1, .slice a n c, .slice a2 n2 c2, .bool i.s2, .slice a3 n3 c3, .slice a4 n4 c4, .bool i.li, .bool i.hi] 39)).alloc (.cells #[.bool j.s1, .slice b m d, .slice b2 m2 d2, .bool j.s2, .slice b3 m3 d3, .slice b4 m4 d4, .bool j.li, .bool j.hi] 39)) (w.heap.size + 1) j := ⟨b, m, d, b2, m2, d2, b3, m3, d3, b4, m4, d4, hB, hh'.kept hk⟩
  have ht := try_inside hib hjb (hT.kept hk) hf hf' hv hv'
  clear hib hjb hh hh' hT hA hB hf hf' hv hv' hsz
  go_enter Tryz.func143, Tryz.ntmps143
  go_wp2_with (go_at_call 235; refine ht.mono ?_; rintro e w1 ⟨rfl, hk1⟩)
  go_ret2
  exact ⟨rfl, hk.trans hk1⟩
set_option maxHeartbeats 2000000 in
set_option maxRecDepth 100000 in
theorem sameint_calls {w : World} {v u : Value} {i j : IvD} (h : Ivl w v i) (h' : Ivl w u j) (hT : Laid w) (hf : i.fine = true) (hf' : j.fine = true) (hv : i.void = false) (hv' : j.void = false) :
    Calls Tryz.prog 72 #[v, u] w fun e w' => e = .returned (.bool (sameI i j)) ∧ Kept w w' := by
  have h1 := fun (w' : World) (k : Kept w w') => inside_calls (h.kept k) (h'.kept k) (hT.kept k) hf hf' hv hv'
  have h2 := fun (w' : World) (k : Kept w w') => inside_calls (h'.kept k) (h.kept k) (hT.kept k) hf' hf hv' hv
  have HR : Hid (sameI i j = (insideB i j && insideB j i)) := Lib.hid (inside_same i j).symm
  obtain ⟨a, n, c, a2, n2, c2, a3, n3, c3, a4, n4, c4, rfl, -⟩ := h
  obtain ⟨b, m, d, b2, m2, d2, b3, m3, d3, b4, m4, d4, rfl, -⟩ := h'
  have hA := Blk.new w #[.bool i.s1, .slice a n c, .slice a2 n2 c2, .bool i.s2, .slice a3 n3 c3, .slice a4 n4 c4, .bool i.li, .bool i.hi] 39
  have hB := Blk.new (w.alloc (.cells #[.bool i.s1, .slice a n c, .slice a2 n2 c2, .bool i.s2, .slice a3 n3 c3, .slice a4 n4 c4, .bool i.li, .bool i.hi] 39)) #[.bool j.s1, .slice b m d, .slice b2 m2 d2, .bool j.s2, .slice b3 m3 d3, .slice b4 m4 d4, .bool j.li, .bool j.hi] 39
  have hsz : (w.alloc (.cells #[.bool i.s1, .slice a n c, .slice a2 n2 c2, .bool i.s2, .slice a3 n3 c3, .slice a4 n4 c4, .bool i.li, .bool i.hi] 39)).heap.size = w.heap.size + 1 := Array.size_push _
  have hk1 : Kept w (w.alloc (.cells #[.bool i.s1, .slice a n c, .slice a2 n2 c2, .bool i.s2, .slice a3 n3 c3, .slice a4 n4 c4, .bool i.li, .bool i.hi] 39)) := (Kept.refl w).alloc _
  have hk2 : Kept (w.alloc (.cells #[.bool i.s1, .slice a n c, .slice a2 n2 c2, .bool i.s2, .slice a3 n3 c3, .slice a4 n4 c4, .bool i.li, .bool i.hi] 39)) ((w.alloc (.cells #[.bool i.s1, .slice a n c, .slice a2 n2 c2, .bool i.s2, .slice a3 n3 c3, .slice a4 n4 c4, .bool i.li, .bool i.hi] 39)).alloc (.cells #[.bool j.s1, .slice b m d, .slice b2 m2 d2, .bool j.s2, .slice b3 m3 d3, .slice b4 m4 d4, .bool j.li, .bool j.hi] 39)) := (Kept.refl _).alloc _
  replace hA := hA.kept hk2
  have hk := hk1.trans hk2
  clear hk1 hk2
  rw [hsz] at hB
  clear hT hf hf' hv hv' hsz
  generalize sameI i j = res at *
  generalize insideB i j = r1 at *
  generalize insideB j i = r2 at *
  obtain ⟨e0, e1, e2, e3, e4, e5, e6, e7, -⟩ := hA.facts8
  obtain ⟨d0, d1, d2', d3', d4', d5, d6, d7, -⟩ := hB.facts8
  cases r1
  · go_enter Tryz.func72, Tryz.ntmps72
    go_wp2_with (first | (go_at_call_of 143 (Value.agg #[.bool i.s1, .slice a n c, .slice a2 n2 c2, .bool i.s2, .slice a3 n3 c3, .slice a4 n4 c4, .bool i.li, .bool i.hi]); refine (h1 _ hk).mono ?_; rintro e w1 ⟨rfl, hk1⟩))
    go_ret
    exact ⟨by rw [HR.out]; rfl, hk.trans hk1⟩
  · go_enter Tryz.func72, Tryz.ntmps72
    go_wp2_with (first | (go_at_call_of 143 (Value.agg #[.bool i.s1, .slice a n c, .slice a2 n2 c2, .bool i.s2, .slice a3 n3 c3, .slice a4 n4 c4, .bool i.li, .bool i.hi]); refine (h1 _ hk).mono ?_; rintro e w1 ⟨rfl, hk1⟩; replace hA := hA.kept hk1; replace hB := hB.kept hk1; clear e0 e1 e2 e3 e4 e5 e6 e7 d0 d1 d2' d3' d4' d5 d6 d7; obtain ⟨e0, e1, e2, e3, e4, e5, e6, e7, -⟩ := hA.facts8; obtain ⟨d0, d1, d2', d3', d4', d5, d6, d7, -⟩ := hB.facts8) | (go_at_call_of 143 (Value.agg #[.bool j.s1, .slice b m d, .slice b2 m2 d2, .bool j.s2, .slice b3 m3 d3, .slice b4 m4 d4, .bool j.li, .bool j.hi]); refine (h2 _ (hk.trans hk1)).mono ?_; rintro e w2 ⟨rfl, hk2⟩))
    go_ret
    exact ⟨by rw [HR.out]; rfl, (hk.trans hk1).trans hk2⟩
end Go.Proofs.YtbapfnpbamnmpaaGreatDoor
end
