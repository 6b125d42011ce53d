/- A part of the proof that ClaimValid answers true for every input of bulk at most 1048576: conditions: the row's own. -/
import Derived.Test.YtbapfnpbamnmpaaGreatDoorRh
import Derived.Laws.Tables
section
namespace Go.Proofs.YtbapfnpbamnmpaaGreatDoor
open Go Go.RowKit Go.Dig
open Go.Eng (Kept KW KeptB)

/-- v is a set of the interval layer -/
def Sv (w : World) (v : Value) (i : IvD) : Prop :=
  ∃ a n c a' n' c' b m e b' m' e', v = .agg #[.bool (i.s1 && decide (0 < i.N1)), .slice a n c, .slice a' n' c', .bool (i.s2 && decide (0 < i.N2)), .slice b m e, .slice b' m' e', .bool i.li, .bool i.hi, .bool i.void] ∧
    Fr w (.agg #[.bool (i.s1 && decide (0 < i.N1)), .slice a n c, .slice a' n' c']) (i.s1 && decide (0 < i.N1)) (rN i.N1 i.D1) (rD i.N1 i.D1) ∧
    Fr w (.agg #[.bool (i.s2 && decide (0 < i.N2)), .slice b m e, .slice b' m' e']) (i.s2 && decide (0 < i.N2)) (rN i.N2 i.D2) (rD i.N2 i.D2)
theorem rD_pos (N D : Nat) : 0 < rD N D := Nat.div_pos (Nat.le_of_dvd (dn_pos D) (Nat.gcd_dvd_right N (dn D))) (Nat.gcd_pos_of_pos_right _ (dn_pos D))
theorem Blk.newD (w : World) (cs : Array Value) (t : TypeId) : Blk (w.alloc (.cells cs t)).drew w.heap.size cs t := Blk.new w cs t
theorem Fr.shape {w : World} {v : Value} {p : Bool} {n d : Nat} (h : Fr w v p n d) : ∃ a n c a' n' c', v = .agg #[.bool p, .slice a n c, .slice a' n' c'] := by
  obtain ⟨x, y, h1, h2, h3⟩ := h
  obtain ⟨a, n, c, rfl⟩ := h2.shape
  obtain ⟨a', n', c', rfl⟩ := h3.shape
  exact ⟨_, _, _, _, _, _, h1⟩
theorem Fr.keptB {w w' : World} {v : Value} {p : Bool} {n d b : Nat} (h : Fr w v p n d) (k : KeptB w w' b) (hb : NoWords w b) : Fr w' v p n d := by
  obtain ⟨x, y, h1, h2, h3⟩ := h
  exact ⟨x, y, h1, h2.keptB k hb, h3.keptB k hb⟩
set_option maxHeartbeats 4000000 in
set_option maxRecDepth 100000 in
theorem iread_ok {w : World} {v : Value} {s1 s2 li hi : Bool} {N1 D1 N2 D2 : Nat} (h : Ivl w v ⟨s1, N1, D1, s2, N2, D2, li, hi⟩) (hT : Laid w) (hf : small N1 D1 = true ∧ small N2 D2 = true) :
    Calls Tryz.prog 237 #[v] w fun e w' => ∃ v', e = .returned v' ∧ Sv w' v' ⟨s1, N1, D1, s2, N2, D2, li, hi⟩ ∧ Kept w w' := by
  obtain ⟨a, n, c, a', n', c', b, m, e, b', m', e', rfl, h1, h2⟩ := h
  have hr1 := fun (w' : World) (k : Kept w w') => number_ok (h1.kept k) (hT.kept k) hf.1
  have hr2 := fun (w' : World) (k : Kept w w') => number_ok (h2.kept k) (hT.kept k) hf.2
  generalize hpE : (s1 && decide (0 < N1)) = q1 at hr1
  generalize hpE2 : (s2 && decide (0 < N2)) = q2 at hr2
  have HPE := Lib.hid hpE; clear hpE
  have HPE2 := Lib.hid hpE2; clear hpE2
  have hb1 := Blk.new w #[.bool s1, .slice a n c, .slice a' n' c', .bool s2, .slice b m e, .slice b' m' e', .bool li, .bool hi] 39
  have hk1 : Kept w (w.alloc (.cells #[.bool s1, .slice a n c, .slice a' n' c', .bool s2, .slice b m e, .slice b' m' e', .bool li, .bool hi] 39)) := (Kept.refl _).alloc _
  have e1 : (w.alloc (.cells #[.bool s1, .slice a n c, .slice a' n' c', .bool s2, .slice b m e, .slice b' m' e', .bool li, .bool hi] 39)).heap.size = w.heap.size + 1 := by simp [go_sem]
  have hb2 := Blk.new (w.alloc (.cells #[.bool s1, .slice a n c, .slice a' n' c', .bool s2, .slice b m e, .slice b' m' e', .bool li, .bool hi] 39)) #[.bool false, .slice none 0 0, .slice none 0 0, .bool false, .slice none 0 0, .slice none 0 0, .bool false, .bool false, .bool false] 302
  have hk2 : Kept (w.alloc (.cells #[.bool s1, .slice a n c, .slice a' n' c', .bool s2, .slice b m e, .slice b' m' e', .bool li, .bool hi] 39)) ((w.alloc (.cells #[.bool s1, .slice a n c, .slice a' n' c', .bool s2, .slice b m e, .slice b' m' e', .bool li, .bool hi] 39)).alloc (.cells #[.bool false, .slice none 0 0, .slice none 0 0, .bool false, .slice none 0 0, .slice none 0 0, .bool false, .bool false, .bool false] 302)) := (Kept.refl _).alloc _
  rw [e1] at hb2
  have hb1 := hb1.kept hk2
  have hk := hk1.trans hk2
  clear hk1 hk2 e1 h1 h2
  go_enter Tryz.func237, Tryz.ntmps237
  go_wp2_with fail
  rename_i Q' K hK
  generalize ((w.alloc (.cells #[.bool s1, .slice a n c, .slice a' n' c', .bool s2, .slice b m e, .slice b' m' e', .bool li, .bool hi] 39)).alloc (.cells #[.bool false, .slice none 0 0, .slice none 0 0, .bool false, .slice none 0 0, .slice none 0 0, .bool false, .bool false, .bool false] 302)) = w1 at *
  generalize hbE : w.heap.size = b0 at hb1 hb2 ⊢
  have HBE := Lib.hid hbE; clear hbE
  obtain ⟨p0, p1, p2, p3, p4, p5, p6, p7, _⟩ := hb1.facts8
  have hall : ∀ w', Kept w1 w' → Kept w1 w' ∧ w'.cell? ⟨b0, 0, none⟩ = some (.bool s1) ∧ w'.cell? ⟨b0, 1, none⟩ = some (.slice a n c) ∧ w'.cell? ⟨b0, 2, none⟩ = some (.slice a' n' c') ∧ w'.cell? ⟨b0, 3, none⟩ = some (.bool s2) ∧ w'.cell? ⟨b0, 4, none⟩ = some (.slice b m e) ∧ w'.cell? ⟨b0, 5, none⟩ = some (.slice b' m' e') ∧ w'.cell? ⟨b0, 6, none⟩ = some (.bool li) ∧ w'.cell? ⟨b0, 7, none⟩ = some (.bool hi) :=
    fun w' k => ⟨k, k.cell p0, k.cell p1, k.cell p2, k.cell p3, k.cell p4, k.cell p5, k.cell p6, k.cell p7⟩
  have HALL := Lib.hid hall; clear hall
  have hrest : ∀ (bt : Nat) (W : World) (x1 : Option Addr) (x2 x3 : Nat) (x4 : Option Addr) (x5 x6 : Nat) (y1 : Option Addr) (y2 y3 : Nat) (y4 : Option Addr) (y5 y6 : Nat), Kept w1 W → Blk W bt #[.bool q1, .slice x1 x2 x3, .slice x4 x5 x6, .bool q2, .slice y1 y2 y3, .slice y4 y5 y6, .bool li, .bool hi, .bool false] 302 → Fr W (.agg #[.bool q1, .slice x1 x2 x3, .slice x4 x5 x6]) q1 (rN N1 D1) (rD N1 D1) → Fr W (.agg #[.bool q2, .slice y1 y2 y3, .slice y4 y5 y6]) q2 (rN N2 D2) (rD N2 D2) → w1.heap.size ≤ bt → Exit.then K Q' Exit.normal { tmps := #[Value.agg #[.bool s1, .slice a n c, .slice a' n' c', .bool s2, .slice b m e, .slice b' m' e', .bool li, .bool hi], Value.pointer (some ⟨b0, 0, none⟩), Value.pointer (some ⟨b0 + 1, 0, none⟩), Value.pointer (some ⟨bt, 0, none⟩), Value.pointer (some ⟨b0, 0, none⟩), Value.agg #[.bool s1, .slice a n c, .slice a' n' c'], Value.agg #[.bool q1, .slice x1 x2 x3, .slice x4 x5 x6], Value.pointer (some ⟨b0, 3, none⟩), Value.agg #[.bool s2, .slice b m e, .slice b' m' e'], Value.agg #[.bool q2, .slice y1 y2 y3, .slice y4 y5 y6], Value.pointer (some ⟨b0, 6, none⟩), Value.bool li, Value.pointer (some ⟨b0, 7, none⟩), Value.bool hi, Value.agg #[.bool q1, .slice x1 x2 x3, .slice x4 x5 x6, .bool q2, .slice y1 y2 y3, .slice y4 y5 y6, .bool li, .bool hi, .bool false], undef, undef, undef, undef, undef, undef, undef, undef, undef, undef, undef, undef, undef, undef, undef, undef, undef, undef], defers := [] } W := by
    intro bt W x1 x2 x3 x4 x5 x6 y1 y2 y3 y4 y5 y6 hKW hB hF2 hF3 hbt
    have HNE : Hid (bt ≠ b0 + 1) := Lib.hid (by have := hb2.lt; omega)
    have hne := HNE.out
    have hne2 : b0 + 1 ≠ bt := fun h => hne h.symm
    have HBW : Hid (w.heap.size ≤ bt) := Lib.hid (Nat.le_trans hk.size hbt)
    have hb2 := hb2.kept hKW
    have hkW := hk.trans hKW
    clear hr1 hr2 HALL p0 p1 p2 p3 p4 p5 p6 p7 hbt hKW hk hb1
    obtain ⟨d0, d1, d2, d3, d4, d5, d6, d7, d8, f0, f1, f2, f3, f4, f5, f6, f7, f8⟩ := hB.facts9
    obtain ⟨k0, k1, k2, k3, k4, k5, k6, k7, k8, j0, j1, j2, j3, j4, j5, j6, j7, j8⟩ := hb2.facts9
    cases li
    · cases hi
      · obtain ⟨g1, g2, g3, g4, g5, g6⟩ := small_bounds hf.1
        obtain ⟨g7, g8, g9, g10, g11, g12⟩ := small_bounds hf.2
        have hvd : (IvD.void ⟨s1, N1, D1, s2, N2, D2, false, false⟩) = decide (0 < fcmp q1 (rN N1 D1) (rD N1 D1) q2 (rN N2 D2) (rD N2 D2)) := by
          unfold IvD.void
          simp only [HPE.out, HPE2.out]
          rw [fcmp_qcmp _ _ _ _ _ _ (rD_pos N1 D1) (rD_pos N2 D2)]
          rfl
        have hfc := fcmp_calls hF2 hF3 (sm_big g3) (sm_big g4) (sm_big g9) (sm_big g10) (mid_big (p14_mid (sm_mul g3 g10)))
        generalize fcmp q1 (rN N1 D1) (rD N1 D1) q2 (rN N2 D2) (rD N2 D2) = cc at *
        have HVD0 := Lib.hid hvd
        clear hvd g1 g2 g3 g4 g5 g6 g7 g8 g9 g10 g11 g12 d0 d1 d2 d3 d4 d5 d6 d7 d8 f0 f1 f2 f3 f4 f5 f6 f7 f8 k0 k1 k2 k3 k4 k5 k6 k7 k8 j0 j1 j2 j3 j4 j5 j6 j7 j8
        obtain ⟨d0, d1, d2, d3, d4, d5, d6, d7, d8, _⟩ := hB.facts9
        go_wp2_with fail
        refine hfc.mono ?_
        rintro _ W2 ⟨rfl, hk2⟩
        clear d0 d1 d2 d3 d4 d5 d6 d7 d8
        have hB := hB.kept hk2
        have hb2 := hb2.kept hk2
        have hF2 := hF2.kept hk2
        have hF3 := hF3.kept hk2
        have hkW := hkW.trans hk2
        obtain ⟨d0, d1, d2, d3, d4, d5, d6, d7, d8, f0, f1, f2, f3, f4, f5, f6, f7, f8⟩ := hB.facts9
        obtain ⟨k0, k1, k2, k3, k4, k5, k6, k7, k8, j0, j1, j2, j3, j4, j5, j6, j7, j8⟩ := hb2.facts9
        generalize hVE : decide (0 < cc) = vd at *
        have HVD : Hid ((IvD.void ⟨s1, N1, D1, s2, N2, D2, false, false⟩) = vd) := HVD0
        go_wp2
        have hkb := st1 W2 bt 8 (.bool vd)
        have hF2b := hF2.keptB hkb (hB.noWords rfl)
        have hF3b := hF3.keptB hkb (hB.noWords rfl)
        have hb2b := hb2.keptB hkb (fun h => HNE.out h.symm)
        have hkWb := hkW.but hkb HBW.out
        refine bodyPost_ret (v := .agg #[.bool q1, .slice x1 x2 x3, .slice x4 x5 x6, .bool q2, .slice y1 y2 y3, .slice y4 y5 y6, .bool false, .bool false, .bool vd]) (by simp [results, Tryz.results237, go_sem, k0, k1, k2, k3, k4, k5, k6, k7, k8]) rfl ⟨_, rfl, ?_, hkWb.but (st9 _ (b0 + 1) ..) (by have := HBE.out; omega)⟩
        refine ⟨x1, x2, x3, x4, x5, x6, y1, y2, y3, y4, y5, y6, ?_, ?_, ?_⟩
        · show Value.agg #[.bool q1, .slice x1 x2 x3, .slice x4 x5 x6, .bool q2, .slice y1 y2 y3, .slice y4 y5 y6, .bool false, .bool false, .bool vd] = Value.agg #[.bool (s1 && decide (0 < N1)), .slice x1 x2 x3, .slice x4 x5 x6, .bool (s2 && decide (0 < N2)), .slice y1 y2 y3, .slice y4 y5 y6, .bool false, .bool false, .bool (IvD.void ⟨s1, N1, D1, s2, N2, D2, false, false⟩)]
          rw [HPE.out, HPE2.out, HVD.out]
        · show Fr _ (.agg #[.bool (s1 && decide (0 < N1)), .slice x1 x2 x3, .slice x4 x5 x6]) (s1 && decide (0 < N1)) (rN N1 D1) (rD N1 D1)
          rw [HPE.out]; exact hF2b.keptB (st9 ..) (hb2b.noWords rfl)
        · show Fr _ (.agg #[.bool (s2 && decide (0 < N2)), .slice y1 y2 y3, .slice y4 y5 y6]) (s2 && decide (0 < N2)) (rN N2 D2) (rD N2 D2)
          rw [HPE2.out]; exact hF3b.keptB (st9 ..) (hb2b.noWords rfl)
      · have HVD : Hid ((IvD.void ⟨s1, N1, D1, s2, N2, D2, false, true⟩) = false) := Lib.hid (by simp [IvD.void])
        go_wp2
        have hkb := st1 W bt 8 (.bool false)
        have hF2b := hF2.keptB hkb (hB.noWords rfl)
        have hF3b := hF3.keptB hkb (hB.noWords rfl)
        have hb2b := hb2.keptB hkb (fun h => HNE.out h.symm)
        have hkWb := hkW.but hkb HBW.out
        refine bodyPost_ret (v := .agg #[.bool q1, .slice x1 x2 x3, .slice x4 x5 x6, .bool q2, .slice y1 y2 y3, .slice y4 y5 y6, .bool false, .bool true, .bool false]) (by simp [results, Tryz.results237, go_sem, k0, k1, k2, k3, k4, k5, k6, k7, k8]) rfl ⟨_, rfl, ?_, hkWb.but (st9 _ (b0 + 1) ..) (by have := HBE.out; omega)⟩
        refine ⟨x1, x2, x3, x4, x5, x6, y1, y2, y3, y4, y5, y6, ?_, ?_, ?_⟩
        · show Value.agg #[.bool q1, .slice x1 x2 x3, .slice x4 x5 x6, .bool q2, .slice y1 y2 y3, .slice y4 y5 y6, .bool false, .bool true, .bool false] = Value.agg #[.bool (s1 && decide (0 < N1)), .slice x1 x2 x3, .slice x4 x5 x6, .bool (s2 && decide (0 < N2)), .slice y1 y2 y3, .slice y4 y5 y6, .bool false, .bool true, .bool (IvD.void ⟨s1, N1, D1, s2, N2, D2, false, true⟩)]
          rw [HPE.out, HPE2.out, HVD.out]
        · show Fr _ (.agg #[.bool (s1 && decide (0 < N1)), .slice x1 x2 x3, .slice x4 x5 x6]) (s1 && decide (0 < N1)) (rN N1 D1) (rD N1 D1)
          rw [HPE.out]; exact hF2b.keptB (st9 ..) (hb2b.noWords rfl)
        · show Fr _ (.agg #[.bool (s2 && decide (0 < N2)), .slice y1 y2 y3, .slice y4 y5 y6]) (s2 && decide (0 < N2)) (rN N2 D2) (rD N2 D2)
          rw [HPE2.out]; exact hF3b.keptB (st9 ..) (hb2b.noWords rfl)
    · cases hi
      · have HVD : Hid ((IvD.void ⟨s1, N1, D1, s2, N2, D2, true, false⟩) = false) := Lib.hid (by simp [IvD.void])
        go_wp2
        have hkb := st1 W bt 8 (.bool false)
        have hF2b := hF2.keptB hkb (hB.noWords rfl)
        have hF3b := hF3.keptB hkb (hB.noWords rfl)
        have hb2b := hb2.keptB hkb (fun h => HNE.out h.symm)
        have hkWb := hkW.but hkb HBW.out
        refine bodyPost_ret (v := .agg #[.bool q1, .slice x1 x2 x3, .slice x4 x5 x6, .bool q2, .slice y1 y2 y3, .slice y4 y5 y6, .bool true, .bool false, .bool false]) (by simp [results, Tryz.results237, go_sem, k0, k1, k2, k3, k4, k5, k6, k7, k8]) rfl ⟨_, rfl, ?_, hkWb.but (st9 _ (b0 + 1) ..) (by have := HBE.out; omega)⟩
        refine ⟨x1, x2, x3, x4, x5, x6, y1, y2, y3, y4, y5, y6, ?_, ?_, ?_⟩
        · show Value.agg #[.bool q1, .slice x1 x2 x3, .slice x4 x5 x6, .bool q2, .slice y1 y2 y3, .slice y4 y5 y6, .bool true, .bool false, .bool false] = Value.agg #[.bool (s1 && decide (0 < N1)), .slice x1 x2 x3, .slice x4 x5 x6, .bool (s2 && decide (0 < N2)), .slice y1 y2 y3, .slice y4 y5 y6, .bool true, .bool false, .bool (IvD.void ⟨s1, N1, D1, s2, N2, D2, true, false⟩)]
          rw [HPE.out, HPE2.out, HVD.out]
        · show Fr _ (.agg #[.bool (s1 && decide (0 < N1)), .slice x1 x2 x3, .slice x4 x5 x6]) (s1 && decide (0 < N1)) (rN N1 D1) (rD N1 D1)
          rw [HPE.out]; exact hF2b.keptB (st9 ..) (hb2b.noWords rfl)
        · show Fr _ (.agg #[.bool (s2 && decide (0 < N2)), .slice y1 y2 y3, .slice y4 y5 y6]) (s2 && decide (0 < N2)) (rN N2 D2) (rD N2 D2)
          rw [HPE2.out]; exact hF3b.keptB (st9 ..) (hb2b.noWords rfl)
      · have HVD : Hid ((IvD.void ⟨s1, N1, D1, s2, N2, D2, true, true⟩) = false) := Lib.hid (by simp [IvD.void])
        go_wp2
        have hkb := st1 W bt 8 (.bool false)
        have hF2b := hF2.keptB hkb (hB.noWords rfl)
        have hF3b := hF3.keptB hkb (hB.noWords rfl)
        have hb2b := hb2.keptB hkb (fun h => HNE.out h.symm)
        have hkWb := hkW.but hkb HBW.out
        refine bodyPost_ret (v := .agg #[.bool q1, .slice x1 x2 x3, .slice x4 x5 x6, .bool q2, .slice y1 y2 y3, .slice y4 y5 y6, .bool true, .bool true, .bool false]) (by simp [results, Tryz.results237, go_sem, k0, k1, k2, k3, k4, k5, k6, k7, k8]) rfl ⟨_, rfl, ?_, hkWb.but (st9 _ (b0 + 1) ..) (by have := HBE.out; omega)⟩
        refine ⟨x1, x2, x3, x4, x5, x6, y1, y2, y3, y4, y5, y6, ?_, ?_, ?_⟩
        · show Value.agg #[.bool q1, .slice x1 x2 x3, .slice x4 x5 x6, .bool q2, .slice y1 y2 y3, .slice y4 y5 y6, .bool true, .bool true, .bool false] = Value.agg #[.bool (s1 && decide (0 < N1)), .slice x1 x2 x3, .slice x4 x5 x6, .bool (s2 && decide (0 < N2)), .slice y1 y2 y3, .slice y4 y5 y6, .bool true, .bool true, .bool (IvD.void ⟨s1, N1, D1, s2, N2, D2, true, true⟩)]
          rw [HPE.out, HPE2.out, HVD.out]
        · show Fr _ (.agg #[.bool (s1 && decide (0 < N1)), .slice x1 x2 x3, .slice x4 x5 x6]) (s1 && decide (0 < N1)) (rN N1 D1) (rD N1 D1)
          rw [HPE.out]; exact hF2b.keptB (st9 ..) (hb2b.noWords rfl)
        · show Fr _ (.agg #[.bool (s2 && decide (0 < N2)), .slice y1 y2 y3, .slice y4 y5 y6]) (s2 && decide (0 < N2)) (rN N2 D2) (rD N2 D2)
          rw [HPE2.out]; exact hF3b.keptB (st9 ..) (hb2b.noWords rfl)
  have HREST := Lib.hid hrest
  clear hrest hK
  go_region_held3 (fun w' => Kept w1 w' ∧ w'.cell? ⟨b0, 0, none⟩ = some (.bool s1) ∧ w'.cell? ⟨b0, 1, none⟩ = some (.slice a n c) ∧ w'.cell? ⟨b0, 2, none⟩ = some (.slice a' n' c') ∧ w'.cell? ⟨b0, 3, none⟩ = some (.bool s2) ∧ w'.cell? ⟨b0, 4, none⟩ = some (.slice b m e) ∧ w'.cell? ⟨b0, 5, none⟩ = some (.slice b' m' e') ∧ w'.cell? ⟨b0, 6, none⟩ = some (.bool li) ∧ w'.cell? ⟨b0, 7, none⟩ = some (.bool hi))
    (first | (have hg := hS3; refine HALL.out _ ?_; first | with_reducible exact hS3 | with_reducible exact Kept.alloc hS3 _ | with_reducible exact Kept.but hS3 (st9 _ _ _ _ _ _ _ _ _ _ _) (Nat.le_refl _) | with_reducible exact Kept.but hS3 (st9 _ _ _ _ _ _ _ _ _ _ _) hS2.size) | (have hg := hS2; refine HALL.out _ ?_; first | with_reducible exact hS2 | with_reducible exact Kept.alloc hS2 _) | (refine HALL.out _ ?_; first | with_reducible exact (Kept.refl w1).drew | with_reducible exact ((Kept.refl w1).alloc _).drew))
    (first | (have hg := hS2; go_at_call 319; refine (hr2 _ (hk.trans (by first | with_reducible exact hS2 | with_reducible exact hS2.alloc _))).mono ?_; rintro e w3 ⟨v3, rfl, hv3, hk3⟩; obtain ⟨y1, y2, y3, y4, y5, y6, rfl⟩ := hv3.shape; have hS3 : Kept w1 w3 := (by first | with_reducible exact hS2.trans hk3 | with_reducible exact (hS2.alloc _).trans hk3); first | (have hbB : Blk w3 w1.heap.size #[.bool false, .slice none 0 0, .slice none 0 0, .bool false, .slice none 0 0, .slice none 0 0, .bool false, .bool false, .bool false] 302 := (by with_reducible exact Blk.kept hbA hk3); obtain ⟨k0, k1, k2, k3, k4, k5, k6, k7, k8, j0, j1, j2, j3, j4, j5, j6, j7, j8⟩ := hbB.facts9) | (have hbB : Blk w3 w2.heap.size #[.bool false, .slice none 0 0, .slice none 0 0, .bool false, .slice none 0 0, .slice none 0 0, .bool false, .bool false, .bool false] 302 := (by with_reducible exact (Blk.new w2 #[.bool false, .slice none 0 0, .slice none 0 0, .bool false, .slice none 0 0, .slice none 0 0, .bool false, .bool false, .bool false] 302).kept hk3); obtain ⟨k0, k1, k2, k3, k4, k5, k6, k7, k8, j0, j1, j2, j3, j4, j5, j6, j7, j8⟩ := hbB.facts9) | skip) | (go_at_call 319; refine (hr1 _ (hk.trans (by first | with_reducible exact (Kept.refl w1).drew | with_reducible exact ((Kept.refl w1).alloc _).drew))).mono ?_; rintro e w2 ⟨v2, rfl, hv2, hk2⟩; obtain ⟨x1, x2, x3, x4, x5, x6, rfl⟩ := hv2.shape; have hS2 : Kept w1 w2 := (by first | with_reducible exact (Kept.refl w1).drew.trans hk2 | with_reducible exact (((Kept.refl w1).alloc _).drew).trans hk2); try (have hbA : Blk w2 w1.heap.size #[.bool false, .slice none 0 0, .slice none 0 0, .bool false, .slice none 0 0, .slice none 0 0, .bool false, .bool false, .bool false] 302 := (by with_reducible exact (Blk.newD w1 #[.bool false, .slice none 0 0, .slice none 0 0, .bool false, .slice none 0 0, .slice none 0 0, .bool false, .bool false, .bool false] 302).kept hk2))))
  all_goals first
    | (have hbC : Blk w3 w1.heap.size #[.bool false, .slice none 0 0, .slice none 0 0, .bool false, .slice none 0 0, .slice none 0 0, .bool false, .bool false, .bool false] 302 := by with_reducible exact hbB
       have hkb : KeptB w3 (((((((((w3.setCell ⟨w1.heap.size, 0, none⟩ (.bool q1)).setCell ⟨w1.heap.size, 1, none⟩ (.slice x1 x2 x3)).setCell ⟨w1.heap.size, 2, none⟩ (.slice x4 x5 x6)).setCell ⟨w1.heap.size, 3, none⟩ (.bool q2)).setCell ⟨w1.heap.size, 4, none⟩ (.slice y1 y2 y3)).setCell ⟨w1.heap.size, 5, none⟩ (.slice y4 y5 y6)).setCell ⟨w1.heap.size, 6, none⟩ (.bool li)).setCell ⟨w1.heap.size, 7, none⟩ (.bool hi)).setCell ⟨w1.heap.size, 8, none⟩ (.bool false)) w1.heap.size := st9 ..
       have hB : Blk (((((((((w3.setCell ⟨w1.heap.size, 0, none⟩ (.bool q1)).setCell ⟨w1.heap.size, 1, none⟩ (.slice x1 x2 x3)).setCell ⟨w1.heap.size, 2, none⟩ (.slice x4 x5 x6)).setCell ⟨w1.heap.size, 3, none⟩ (.bool q2)).setCell ⟨w1.heap.size, 4, none⟩ (.slice y1 y2 y3)).setCell ⟨w1.heap.size, 5, none⟩ (.slice y4 y5 y6)).setCell ⟨w1.heap.size, 6, none⟩ (.bool li)).setCell ⟨w1.heap.size, 7, none⟩ (.bool hi)).setCell ⟨w1.heap.size, 8, none⟩ (.bool false)) w1.heap.size #[.bool q1, .slice x1 x2 x3, .slice x4 x5 x6, .bool q2, .slice y1 y2 y3, .slice y4 y5 y6, .bool li, .bool hi, .bool false] 302 := by have h9 := (((((((((hbB.set 0 (.bool q1)).set 1 (.slice x1 x2 x3)).set 2 (.slice x4 x5 x6)).set 3 (.bool q2)).set 4 (.slice y1 y2 y3)).set 5 (.slice y4 y5 y6)).set 6 (.bool li)).set 7 (.bool hi)).set 8 (.bool false)); simpa using h9
       exact HREST.out w1.heap.size _ x1 x2 x3 x4 x5 x6 y1 y2 y3 y4 y5 y6 (Kept.but hS3 hkb (Nat.le_refl _)) hB ((hv2.kept hk3).keptB hkb (hbC.noWords rfl)) (hv3.keptB hkb (hbC.noWords rfl)) (Nat.le_refl _))
    | (have hbC : Blk w3 w2.heap.size #[.bool false, .slice none 0 0, .slice none 0 0, .bool false, .slice none 0 0, .slice none 0 0, .bool false, .bool false, .bool false] 302 := by with_reducible exact hbB
       have hkb : KeptB w3 (((((((((w3.setCell ⟨w2.heap.size, 0, none⟩ (.bool q1)).setCell ⟨w2.heap.size, 1, none⟩ (.slice x1 x2 x3)).setCell ⟨w2.heap.size, 2, none⟩ (.slice x4 x5 x6)).setCell ⟨w2.heap.size, 3, none⟩ (.bool q2)).setCell ⟨w2.heap.size, 4, none⟩ (.slice y1 y2 y3)).setCell ⟨w2.heap.size, 5, none⟩ (.slice y4 y5 y6)).setCell ⟨w2.heap.size, 6, none⟩ (.bool li)).setCell ⟨w2.heap.size, 7, none⟩ (.bool hi)).setCell ⟨w2.heap.size, 8, none⟩ (.bool false)) w2.heap.size := st9 ..
       have hB : Blk (((((((((w3.setCell ⟨w2.heap.size, 0, none⟩ (.bool q1)).setCell ⟨w2.heap.size, 1, none⟩ (.slice x1 x2 x3)).setCell ⟨w2.heap.size, 2, none⟩ (.slice x4 x5 x6)).setCell ⟨w2.heap.size, 3, none⟩ (.bool q2)).setCell ⟨w2.heap.size, 4, none⟩ (.slice y1 y2 y3)).setCell ⟨w2.heap.size, 5, none⟩ (.slice y4 y5 y6)).setCell ⟨w2.heap.size, 6, none⟩ (.bool li)).setCell ⟨w2.heap.size, 7, none⟩ (.bool hi)).setCell ⟨w2.heap.size, 8, none⟩ (.bool false)) w2.heap.size #[.bool q1, .slice x1 x2 x3, .slice x4 x5 x6, .bool q2, .slice y1 y2 y3, .slice y4 y5 y6, .bool li, .bool hi, .bool false] 302 := by have h9 := (((((((((hbB.set 0 (.bool q1)).set 1 (.slice x1 x2 x3)).set 2 (.slice x4 x5 x6)).set 3 (.bool q2)).set 4 (.slice y1 y2 y3)).set 5 (.slice y4 y5 y6)).set 6 (.bool li)).set 7 (.bool hi)).set 8 (.bool false)); simpa using h9
       exact HREST.out w2.heap.size _ x1 x2 x3 x4 x5 x6 y1 y2 y3 y4 y5 y6 (Kept.but hS3 hkb hS2.size) hB ((hv2.kept (((Kept.refl w2).alloc _).trans hk3)).keptB hkb (hbC.noWords rfl)) (hv3.keptB hkb (hbC.noWords rfl)) hS2.size)
    | (exact HREST.out w3.heap.size _ x1 x2 x3 x4 x5 x6 y1 y2 y3 y4 y5 y6 (hS3.alloc _) (Blk.new ..) ((hv2.kept hk3).kept ((Kept.refl w3).alloc _)) (hv3.kept ((Kept.refl w3).alloc _)) hS3.size)
end Go.Proofs.YtbapfnpbamnmpaaGreatDoor
end
