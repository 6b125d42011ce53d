/- A part of the proof that ClaimValid answers true for every input of bulk at most 1048576: conditions: the row's own. -/
import Derived.Test.YtbapfnpbamnmpaaGreatDoorXe
import Derived.Test.YtbapfnpbamnmpaaGreatDoorXg
section
namespace Go.Proofs.YtbapfnpbamnmpaaGreatDoor
open Go Go.RowKit Go.Dig
open Go.Eng (Kept KW KeptB wp_region_kw kw_call)
/-! ### claim.Equal -/
set_option maxHeartbeats 16000000 in
set_option maxRecDepth 100000 in
theorem cequal_calls {f f' : Nat} {w : World} {v u : Value} {c d : ClaimD} (h : Clm w f v c) (h' : Clm w f' u d) (hT : Laid w) :
    Calls Tryz.prog 25 #[v, u] w fun e w' => e = .returned (.tuple #[.bool (c.ok && d.ok && sameC c d), .int .i64 (if (c.ok && d.ok) = true then 0 else 60)]) ∧ Kept w w' := by
  have hv := fun (w' : World) (k : Kept w w') => cvalid_calls (h.kept k) (hT.kept k)
  have hv' := fun (w' : World) (k : Kept w w') => cvalid_calls (h'.kept k) (hT.kept k)
  obtain ⟨o, g, z, x1, x2, x3, x4, x5, x6, nm, a0, n0, cap0, a1, n1, cap1, a2, n2, cap2, rfl, hg, hb, hc⟩ := h
  obtain ⟨o', g', z', x1', x2', x3', x4', x5', x6', nm', a0', n0', cap0', a1', n1', cap1', a2', n2', cap2', rfl, hg', hb', hc'⟩ := h'
  have HGS := Lib.hid (fun (p : c.ok = true) (q : d.ok = true) (w' : World) (k : Kept w w') => sameexpr_calls (hg.kept k) (hg'.kept k) (hT.kept k) (ok_parts p).2.1 (ok_parts q).2.1)
  have HOK := Lib.hid (fun (p : c.ok = true) => ok_parts p)
  have HOK' := Lib.hid (fun (p : d.ok = true) => ok_parts p)
  have HS : Hid (sameC c d = (sameT c.goal d.goal && (c.strict == d.strict) && (((n1 : Int) == (n1' : Int)) && sameBs c.box d.box) && ((n2 : Int) == (n2' : Int)) && sameCs c.conds d.conds)) := Lib.hid (by rw [hb.1, hb'.1, hc.1, hc'.1]; rfl)
  have HT := Lib.hid hT; clear hT
  have HB := Lib.hid hb
  have HB' := Lib.hid hb'
  have HC := Lib.hid hc
  have HC' := Lib.hid hc'
  have hn1 := hb.2.2.1
  have hn1' := hb'.2.2.1
  have hn2 := hc.2.2.1
  have hn2' := hc'.2.2.1
  clear hb hb' hc hc' hg hg'
  generalize sameC c d = res at *
  generalize hstE : c.strict = st at *
  generalize hstE' : d.strict = st' at *
  clear hstE hstE'
  have hA0 := Blk.new w #[.int .i64 o, .int .i64 g, .bool z, .slice x1 x2 x3, .slice x4 x5 x6, .string nm, .slice a0 n0 cap0, .bool st, .slice a1 n1 cap1, .slice a2 n2 cap2] 31
  have hB0 := Blk.new (w.alloc (.cells #[.int .i64 o, .int .i64 g, .bool z, .slice x1 x2 x3, .slice x4 x5 x6, .string nm, .slice a0 n0 cap0, .bool st, .slice a1 n1 cap1, .slice a2 n2 cap2] 31)) #[.int .i64 o', .int .i64 g', .bool z', .slice x1' x2' x3', .slice x4' x5' x6', .string nm', .slice a0' n0' cap0', .bool st', .slice a1' n1' cap1', .slice a2' n2' cap2'] 31
  rw [show (w.alloc (.cells #[.int .i64 o, .int .i64 g, .bool z, .slice x1 x2 x3, .slice x4 x5 x6, .string nm, .slice a0 n0 cap0, .bool st, .slice a1 n1 cap1, .slice a2 n2 cap2] 31)).heap.size = w.heap.size + 1 from Array.size_push _] at hB0
  have hk1 : Kept w (w.alloc (.cells #[.int .i64 o, .int .i64 g, .bool z, .slice x1 x2 x3, .slice x4 x5 x6, .string nm, .slice a0 n0 cap0, .bool st, .slice a1 n1 cap1, .slice a2 n2 cap2] 31)) := (Kept.refl w).alloc _
  have hk2 : Kept (w.alloc (.cells #[.int .i64 o, .int .i64 g, .bool z, .slice x1 x2 x3, .slice x4 x5 x6, .string nm, .slice a0 n0 cap0, .bool st, .slice a1 n1 cap1, .slice a2 n2 cap2] 31)) ((w.alloc (.cells #[.int .i64 o, .int .i64 g, .bool z, .slice x1 x2 x3, .slice x4 x5 x6, .string nm, .slice a0 n0 cap0, .bool st, .slice a1 n1 cap1, .slice a2 n2 cap2] 31)).alloc (.cells #[.int .i64 o', .int .i64 g', .bool z', .slice x1' x2' x3', .slice x4' x5' x6', .string nm', .slice a0' n0' cap0', .bool st', .slice a1' n1' cap1', .slice a2' n2' cap2'] 31)) := (Kept.refl _).alloc _
  replace hA0 := hA0.kept hk2
  have hk := hk1.trans hk2
  clear hk1 hk2
  have hA := hA0
  have hB := hB0
  obtain ⟨e0, e1, e2, e3, e4, e5, e6, e7, e8, e9, -⟩ := hA.facts10
  obtain ⟨d0, d1, d2, d3, d4, d5, d6, d7, d8, d9, -⟩ := hB.facts10
  cases hco : c.ok
  · rw [hco] at hv
    clear hv'
    go_enter Tryz.func25, Tryz.ntmps25
    go_wp2_with (first | (go_at_call 28; refine (hv _ hk).mono ?_; rintro e w1 ⟨rfl, hk1⟩; replace hA := hA.kept hk1; replace hB := hB.kept hk1; clear e0 e1 e2 e3 e4 e5 e6 e7 e8 e9 d0 d1 d2 d3 d4 d5 d6 d7 d8 d9; obtain ⟨e0, e1, e2, e3, e4, e5, e6, e7, e8, e9, -⟩ := hA.facts10; obtain ⟨d0, d1, d2, d3, d4, d5, d6, d7, d8, d9, -⟩ := hB.facts10))
    go_ret2
    exact ⟨rfl, hk.trans hk1⟩
  cases hdo : d.ok
  · rw [hco] at hv
    rw [hdo] at hv'
    go_enter Tryz.func25, Tryz.ntmps25
    go_wp2_with (first | (go_at_call 28; have hg := hk1; refine (hv' _ (hk.trans hk1)).mono ?_; rintro e w2 ⟨rfl, hk2⟩; replace hk2 := hk1.trans hk2; replace hA := hA0.kept hk2; replace hB := hB0.kept hk2; clear e0 e1 e2 e3 e4 e5 e6 e7 e8 e9 d0 d1 d2 d3 d4 d5 d6 d7 d8 d9; obtain ⟨e0, e1, e2, e3, e4, e5, e6, e7, e8, e9, -⟩ := hA.facts10; obtain ⟨d0, d1, d2, d3, d4, d5, d6, d7, d8, d9, -⟩ := hB.facts10) | (go_at_call 28; refine (hv _ hk).mono ?_; rintro e w1 ⟨rfl, hk1⟩; replace hA := hA.kept hk1; replace hB := hB.kept hk1; clear e0 e1 e2 e3 e4 e5 e6 e7 e8 e9 d0 d1 d2 d3 d4 d5 d6 d7 d8 d9; obtain ⟨e0, e1, e2, e3, e4, e5, e6, e7, e8, e9, -⟩ := hA.facts10; obtain ⟨d0, d1, d2, d3, d4, d5, d6, d7, d8, d9, -⟩ := hB.facts10))
    go_ret2
    exact ⟨rfl, hk.trans hk2⟩
  rw [hco] at hv
  rw [hdo] at hv'
  have hgs := HGS.out hco hdo
  have HOKc := Lib.hid (HOK.out hco)
  have HOKd := Lib.hid (HOK'.out hdo)
  clear HGS HOK HOK' hco hdo
  by_cases hst : st = st'
  rotate_left
  · have HR : Hid (res = false) := Lib.hid (by rw [HS.out, beq_false_of_ne hst]; simp)
    clear hgs HS
    cases st <;> cases st' <;> first | exact absurd rfl hst | (clear hst; go_enter Tryz.func25, Tryz.ntmps25
                                                               go_wp2_with (first | (go_at_call 28; have hg := hk1; refine (hv' _ (hk.trans hk1)).mono ?_; rintro e w2 ⟨rfl, hk2⟩; replace hk2 := hk1.trans hk2; replace hA := hA0.kept hk2; replace hB := hB0.kept hk2; clear e0 e1 e2 e3 e4 e5 e6 e7 e8 e9 d0 d1 d2 d3 d4 d5 d6 d7 d8 d9; obtain ⟨e0, e1, e2, e3, e4, e5, e6, e7, e8, e9, -⟩ := hA.facts10; obtain ⟨d0, d1, d2, d3, d4, d5, d6, d7, d8, d9, -⟩ := hB.facts10) | (go_at_call 28; refine (hv _ hk).mono ?_; rintro e w1 ⟨rfl, hk1⟩; replace hA := hA.kept hk1; replace hB := hB.kept hk1; clear e0 e1 e2 e3 e4 e5 e6 e7 e8 e9 d0 d1 d2 d3 d4 d5 d6 d7 d8 d9; obtain ⟨e0, e1, e2, e3, e4, e5, e6, e7, e8, e9, -⟩ := hA.facts10; obtain ⟨d0, d1, d2, d3, d4, d5, d6, d7, d8, d9, -⟩ := hB.facts10))
                                                               go_ret2
                                                               exact ⟨by rw [HR.out]; rfl, hk.trans hk2⟩)
  subst hst
  rw [beq_self_eq_true] at HS
  rcases Bool.eq_false_or_eq_true ((n1 : Int) != (n1' : Int)) with b3 | b3
  · have c3 : ((n1 : Int) == (n1' : Int)) = false := by rw [← Bool.not_eq_true', ← bne]; exact b3
    have HR : Hid (res = false) := Lib.hid (by rw [HS.out, c3]; simp)
    clear HS c3 hgs
    go_enter Tryz.func25, Tryz.ntmps25
    go_wp2_with (first | (go_at_call 28; have hg := hk1; refine (hv' _ (hk.trans hk1)).mono ?_; rintro e w2 ⟨rfl, hk2⟩; replace hk2 := hk1.trans hk2; replace hA := hA0.kept hk2; replace hB := hB0.kept hk2; clear e0 e1 e2 e3 e4 e5 e6 e7 e8 e9 d0 d1 d2 d3 d4 d5 d6 d7 d8 d9; obtain ⟨e0, e1, e2, e3, e4, e5, e6, e7, e8, e9, -⟩ := hA.facts10; obtain ⟨d0, d1, d2, d3, d4, d5, d6, d7, d8, d9, -⟩ := hB.facts10) | (go_at_call 28; refine (hv _ hk).mono ?_; rintro e w1 ⟨rfl, hk1⟩; replace hA := hA.kept hk1; replace hB := hB.kept hk1; clear e0 e1 e2 e3 e4 e5 e6 e7 e8 e9 d0 d1 d2 d3 d4 d5 d6 d7 d8 d9; obtain ⟨e0, e1, e2, e3, e4, e5, e6, e7, e8, e9, -⟩ := hA.facts10; obtain ⟨d0, d1, d2, d3, d4, d5, d6, d7, d8, d9, -⟩ := hB.facts10))
    go_ret2
    exact ⟨by rw [HR.out]; rfl, hk.trans hk2⟩
  have c3 : ((n1 : Int) == (n1' : Int)) = true := by rw [← Bool.not_eq_false', ← bne]; exact b3
  rw [c3] at HS
  have HL1 := Lib.hid (show n1 = n1' by have := c3; simp at this; omega)
  clear c3
  rcases Bool.eq_false_or_eq_true ((n2 : Int) != (n2' : Int)) with b4 | b4
  · have c4 : ((n2 : Int) == (n2' : Int)) = false := by rw [← Bool.not_eq_true', ← bne]; exact b4
    have HR : Hid (res = false) := Lib.hid (by rw [HS.out, c4]; simp)
    clear HS c4 hgs
    go_enter Tryz.func25, Tryz.ntmps25
    go_wp2_with (first | (go_at_call 28; have hg := hk1; refine (hv' _ (hk.trans hk1)).mono ?_; rintro e w2 ⟨rfl, hk2⟩; replace hk2 := hk1.trans hk2; replace hA := hA0.kept hk2; replace hB := hB0.kept hk2; clear e0 e1 e2 e3 e4 e5 e6 e7 e8 e9 d0 d1 d2 d3 d4 d5 d6 d7 d8 d9; obtain ⟨e0, e1, e2, e3, e4, e5, e6, e7, e8, e9, -⟩ := hA.facts10; obtain ⟨d0, d1, d2, d3, d4, d5, d6, d7, d8, d9, -⟩ := hB.facts10) | (go_at_call 28; refine (hv _ hk).mono ?_; rintro e w1 ⟨rfl, hk1⟩; replace hA := hA.kept hk1; replace hB := hB.kept hk1; clear e0 e1 e2 e3 e4 e5 e6 e7 e8 e9 d0 d1 d2 d3 d4 d5 d6 d7 d8 d9; obtain ⟨e0, e1, e2, e3, e4, e5, e6, e7, e8, e9, -⟩ := hA.facts10; obtain ⟨d0, d1, d2, d3, d4, d5, d6, d7, d8, d9, -⟩ := hB.facts10))
    go_ret2
    exact ⟨by rw [HR.out]; rfl, hk.trans hk2⟩
  have c4 : ((n2 : Int) == (n2' : Int)) = true := by rw [← Bool.not_eq_false', ← bne]; exact b4
  rw [c4] at HS
  have HL2 := Lib.hid (show n2 = n2' by have := c4; simp at this; omega)
  clear c4
  cases s1 : sameT c.goal d.goal
  · rw [s1] at hgs
    have HR : Hid (res = false) := Lib.hid (by rw [HS.out, s1]; rfl)
    clear HS
    go_enter Tryz.func25, Tryz.ntmps25
    go_wp2_with (first | (go_at_call 28; have hg := hk1; refine (hv' _ (hk.trans hk1)).mono ?_; rintro e w2 ⟨rfl, hk2⟩; replace hk2 := hk1.trans hk2; replace hA := hA0.kept hk2; replace hB := hB0.kept hk2; clear e0 e1 e2 e3 e4 e5 e6 e7 e8 e9 d0 d1 d2 d3 d4 d5 d6 d7 d8 d9; obtain ⟨e0, e1, e2, e3, e4, e5, e6, e7, e8, e9, -⟩ := hA.facts10; obtain ⟨d0, d1, d2, d3, d4, d5, d6, d7, d8, d9, -⟩ := hB.facts10) | (go_at_call 28; refine (hv _ hk).mono ?_; rintro e w1 ⟨rfl, hk1⟩; replace hA := hA.kept hk1; replace hB := hB.kept hk1; clear e0 e1 e2 e3 e4 e5 e6 e7 e8 e9 d0 d1 d2 d3 d4 d5 d6 d7 d8 d9; obtain ⟨e0, e1, e2, e3, e4, e5, e6, e7, e8, e9, -⟩ := hA.facts10; obtain ⟨d0, d1, d2, d3, d4, d5, d6, d7, d8, d9, -⟩ := hB.facts10) | (go_at_call 71; refine (hgs _ (hk.trans hk2)).mono ?_; rintro e w3 ⟨rfl, hk3⟩; replace hA := hA.kept hk3; replace hB := hB.kept hk3; clear e0 e1 e2 e3 e4 e5 e6 e7 e8 e9 d0 d1 d2 d3 d4 d5 d6 d7 d8 d9; obtain ⟨e0, e1, e2, e3, e4, e5, e6, e7, e8, e9, -⟩ := hA.facts10; obtain ⟨d0, d1, d2, d3, d4, d5, d6, d7, d8, d9, -⟩ := hB.facts10))
    go_ret2
    exact ⟨by rw [HR.out]; rfl, (hk.trans hk2).trans hk3⟩
  rw [s1] at hgs
  have HR : Hid (res = (sameBs c.box d.box && sameCs c.conds d.conds)) := Lib.hid (by rw [HS.out, s1]; simp)
  clear HS s1
  go_enter Tryz.func25, Tryz.ntmps25
  go_wp2_with (first | (go_at_call 28; have hg := hk1; refine (hv' _ (hk.trans hk1)).mono ?_; rintro e w2 ⟨rfl, hk2⟩; replace hk2 := hk1.trans hk2; replace hA := hA0.kept hk2; replace hB := hB0.kept hk2; clear e0 e1 e2 e3 e4 e5 e6 e7 e8 e9 d0 d1 d2 d3 d4 d5 d6 d7 d8 d9; obtain ⟨e0, e1, e2, e3, e4, e5, e6, e7, e8, e9, -⟩ := hA.facts10; obtain ⟨d0, d1, d2, d3, d4, d5, d6, d7, d8, d9, -⟩ := hB.facts10) | (go_at_call 28; refine (hv _ hk).mono ?_; rintro e w1 ⟨rfl, hk1⟩; replace hA := hA.kept hk1; replace hB := hB.kept hk1; clear e0 e1 e2 e3 e4 e5 e6 e7 e8 e9 d0 d1 d2 d3 d4 d5 d6 d7 d8 d9; obtain ⟨e0, e1, e2, e3, e4, e5, e6, e7, e8, e9, -⟩ := hA.facts10; obtain ⟨d0, d1, d2, d3, d4, d5, d6, d7, d8, d9, -⟩ := hB.facts10) | (go_at_call 71; refine (hgs _ (hk.trans hk2)).mono ?_; rintro e w3 ⟨rfl, hk3⟩; replace hA := hA.kept hk3; replace hB := hB.kept hk3; clear e0 e1 e2 e3 e4 e5 e6 e7 e8 e9 d0 d1 d2 d3 d4 d5 d6 d7 d8 d9; obtain ⟨e0, e1, e2, e3, e4, e5, e6, e7, e8, e9, -⟩ := hA.facts10; obtain ⟨d0, d1, d2, d3, d4, d5, d6, d7, d8, d9, -⟩ := hB.facts10))
  have hkb := (hk.trans hk2).trans hk3
  clear hgs hv hv' hk hk1 hk2 hk3 e0 e1 e2 e3 e4 e5 e6 e7 e8 e9 d0 d1 d2 d3 d4 d5 d6 d7 d8 d9 hA0 hB0 b3 b4
  go_loopw [52] (fun i wr => ∃ (k : Nat), k ≤ n1 ∧ i = .int .i64 (k : Int) ∧ Hid (sameBs (c.box.drop k) (d.box.drop k) = sameBs c.box d.box) ∧ Kept w wr ∧ Kept w3 wr) (fun i _ => n1 - (intOf i).toNat)
  case atStart => exact ⟨0, Nat.zero_le _, rfl, Lib.hid rfl, hkb, Kept.refl _⟩
  case round =>
    obtain ⟨k, hkk, rfl, HST, hkw, hkw3⟩ := hrel
    obtain ⟨e0, e1, e2, e3, e4, e5, e6, e7, e8, e9, -⟩ := (hA.kept hkw3).facts10
    obtain ⟨d0, d1, d2, d3, d4, d5, d6, d7, d8, d9, -⟩ := (hB.kept hkw3).facts10
    by_cases hlt : k < n1
    · have hlt' : k < n1' := by have := HL1.out; omega
      have hl : k < c.box.length := by have := HB.out.1; omega
      have hl' : k < d.box.length := by have := HB'.out.1; omega
      obtain ⟨b, off, r1, a3, n3, c3, a4, n4, c4, r2, a5, n5, c5, a6, n6, c6, p, q, rfl, h0, h1, h2, h3, h4, h5, h6, h7, h8, hvv⟩ := HB.out.2.2.2 k hl
      obtain ⟨b', off', t1, i3, m3, j3, i4, m4, j4, t2, i5, m5, j5, i6, m6, j6, p', q', rfl, g0, g1, g2, g3, g4, g5, g6, g7, g8, hvv'⟩ := HB'.out.2.2.2 k hl'
      have hcl := fun (w' : World) (k' : Kept w w') => sameint_calls (hvv.kept k') (hvv'.kept k') (HT.out.kept k') (ivs_of_ok HOKc.out.1 k hl).1 (ivs_of_ok HOKd.out.1 k hl').1 (ivs_of_ok HOKc.out.1 k hl).2 (ivs_of_ok HOKd.out.1 k hl').2
      have hcs := sameBs_drop hl hl'
      rw [HST.out] at hcs
      clear hvv hvv'
      generalize c.box[k].name = nk at *
      generalize d.box[k].name = nk' at *
      generalize sameI c.box[k].iv d.box[k].iv = si at *
      replace h0 := hkw.cell h0
      replace h1 := hkw.cell h1
      replace h2 := hkw.cell h2
      replace h3 := hkw.cell h3
      replace h4 := hkw.cell h4
      replace h5 := hkw.cell h5
      replace h6 := hkw.cell h6
      replace h7 := hkw.cell h7
      replace h8 := hkw.cell h8
      have hP := Blk.new wr #[.string nk, .bool r1, .slice a3 n3 c3, .slice a4 n4 c4, .bool r2, .slice a5 n5 c5, .slice a6 n6 c6, .bool p, .bool q] 41
      have hka : Kept wr (wr.alloc (.cells #[.string nk, .bool r1, .slice a3 n3 c3, .slice a4 n4 c4, .bool r2, .slice a5 n5 c5, .slice a6 n6 c6, .bool p, .bool q] 41)) := (Kept.refl wr).alloc _
      go_wp2_with fail
      have y0 := fun (k : KW (wr.alloc (.cells #[.string nk, .bool r1, .slice a3 n3 c3, .slice a4 n4 c4, .bool r2, .slice a5 n5 c5, .slice a6 n6 c6, .bool p, .bool q] 41))) => k.kept.cell ((hkw.trans hka).cell g0)
      have y1 := fun (k : KW (wr.alloc (.cells #[.string nk, .bool r1, .slice a3 n3 c3, .slice a4 n4 c4, .bool r2, .slice a5 n5 c5, .slice a6 n6 c6, .bool p, .bool q] 41))) => k.kept.cell ((hkw.trans hka).cell g1)
      have y2 := fun (k : KW (wr.alloc (.cells #[.string nk, .bool r1, .slice a3 n3 c3, .slice a4 n4 c4, .bool r2, .slice a5 n5 c5, .slice a6 n6 c6, .bool p, .bool q] 41))) => k.kept.cell ((hkw.trans hka).cell g2)
      have y3 := fun (k : KW (wr.alloc (.cells #[.string nk, .bool r1, .slice a3 n3 c3, .slice a4 n4 c4, .bool r2, .slice a5 n5 c5, .slice a6 n6 c6, .bool p, .bool q] 41))) => k.kept.cell ((hkw.trans hka).cell g3)
      have y4 := fun (k : KW (wr.alloc (.cells #[.string nk, .bool r1, .slice a3 n3 c3, .slice a4 n4 c4, .bool r2, .slice a5 n5 c5, .slice a6 n6 c6, .bool p, .bool q] 41))) => k.kept.cell ((hkw.trans hka).cell g4)
      have y5 := fun (k : KW (wr.alloc (.cells #[.string nk, .bool r1, .slice a3 n3 c3, .slice a4 n4 c4, .bool r2, .slice a5 n5 c5, .slice a6 n6 c6, .bool p, .bool q] 41))) => k.kept.cell ((hkw.trans hka).cell g5)
      have y6 := fun (k : KW (wr.alloc (.cells #[.string nk, .bool r1, .slice a3 n3 c3, .slice a4 n4 c4, .bool r2, .slice a5 n5 c5, .slice a6 n6 c6, .bool p, .bool q] 41))) => k.kept.cell ((hkw.trans hka).cell g6)
      have y7 := fun (k : KW (wr.alloc (.cells #[.string nk, .bool r1, .slice a3 n3 c3, .slice a4 n4 c4, .bool r2, .slice a5 n5 c5, .slice a6 n6 c6, .bool p, .bool q] 41))) => k.kept.cell ((hkw.trans hka).cell g7)
      have y8 := fun (k : KW (wr.alloc (.cells #[.string nk, .bool r1, .slice a3 n3 c3, .slice a4 n4 c4, .bool r2, .slice a5 n5 c5, .slice a6 n6 c6, .bool p, .bool q] 41))) => k.kept.cell ((hkw.trans hka).cell g8)
      have z0 := fun (k : KW (wr.alloc (.cells #[.string nk, .bool r1, .slice a3 n3 c3, .slice a4 n4 c4, .bool r2, .slice a5 n5 c5, .slice a6 n6 c6, .bool p, .bool q] 41))) => (hP.kept k.kept).cell 0 rfl
      have z1 := fun (k : KW (wr.alloc (.cells #[.string nk, .bool r1, .slice a3 n3 c3, .slice a4 n4 c4, .bool r2, .slice a5 n5 c5, .slice a6 n6 c6, .bool p, .bool q] 41))) => (hP.kept k.kept).cell 1 rfl
      have z2 := fun (k : KW (wr.alloc (.cells #[.string nk, .bool r1, .slice a3 n3 c3, .slice a4 n4 c4, .bool r2, .slice a5 n5 c5, .slice a6 n6 c6, .bool p, .bool q] 41))) => (hP.kept k.kept).cell 2 rfl
      have z3 := fun (k : KW (wr.alloc (.cells #[.string nk, .bool r1, .slice a3 n3 c3, .slice a4 n4 c4, .bool r2, .slice a5 n5 c5, .slice a6 n6 c6, .bool p, .bool q] 41))) => (hP.kept k.kept).cell 3 rfl
      have z4 := fun (k : KW (wr.alloc (.cells #[.string nk, .bool r1, .slice a3 n3 c3, .slice a4 n4 c4, .bool r2, .slice a5 n5 c5, .slice a6 n6 c6, .bool p, .bool q] 41))) => (hP.kept k.kept).cell 4 rfl
      have z5 := fun (k : KW (wr.alloc (.cells #[.string nk, .bool r1, .slice a3 n3 c3, .slice a4 n4 c4, .bool r2, .slice a5 n5 c5, .slice a6 n6 c6, .bool p, .bool q] 41))) => (hP.kept k.kept).cell 5 rfl
      have z6 := fun (k : KW (wr.alloc (.cells #[.string nk, .bool r1, .slice a3 n3 c3, .slice a4 n4 c4, .bool r2, .slice a5 n5 c5, .slice a6 n6 c6, .bool p, .bool q] 41))) => (hP.kept k.kept).cell 6 rfl
      have z7 := fun (k : KW (wr.alloc (.cells #[.string nk, .bool r1, .slice a3 n3 c3, .slice a4 n4 c4, .bool r2, .slice a5 n5 c5, .slice a6 n6 c6, .bool p, .bool q] 41))) => (hP.kept k.kept).cell 7 rfl
      have z8 := fun (k : KW (wr.alloc (.cells #[.string nk, .bool r1, .slice a3 n3 c3, .slice a4 n4 c4, .bool r2, .slice a5 n5 c5, .slice a6 n6 c6, .bool p, .bool q] 41))) => (hP.kept k.kept).cell 8 rfl
      have z9 := fun (k : KW (wr.alloc (.cells #[.string nk, .bool r1, .slice a3 n3 c3, .slice a4 n4 c4, .bool r2, .slice a5 n5 c5, .slice a6 n6 c6, .bool p, .bool q] 41))) => k.kept.cell (hka.cell d8)
      clear h0 h1 h2 h3 h4 h5 h6 h7 h8 g0 g1 g2 g3 g4 g5 g6 g7 g8 e0 e1 e2 e3 e4 e5 e6 e7 e8 e9 d0 d1 d2 d3 d4 d5 d6 d7 d8 d9 hP
      have hcl := fun (k : KW (wr.alloc (.cells #[.string nk, .bool r1, .slice a3 n3 c3, .slice a4 n4 c4, .bool r2, .slice a5 n5 c5, .slice a6 n6 c6, .bool p, .bool q] 41))) => hcl k.w ((hkw.trans hka).trans k.kept)
      cases hq : (nk.toList == nk'.toList)
      · rw [hq] at hcs
        have HR2 : Hid (res = false) := Lib.hid (by rw [HR.out, hcs]; rfl)
        clear hcs
        refine wp_region_kw _ (Kept.refl _) (by kernel_rfl) (by kernel_rfl) ?_
        repeat (go_big_quiet_step (first | (go_at_call 72; exact kw_call (hcl _))))
        refine wpQuiet_nil ?_
        rintro _ ⟨k2, rfl⟩
        clear hcl
        go_wp2
        go_ret2
        exact ⟨by rw [HR2.out]; rfl, (hkw.trans hka).trans k2.kept⟩
      rw [hq] at hcs
      cases si
      · have HR2 : Hid (res = false) := Lib.hid (by rw [HR.out, hcs]; rfl)
        clear hcs
        refine wp_region_kw _ (Kept.refl _) (by kernel_rfl) (by kernel_rfl) ?_
        repeat (go_big_quiet_step (first | (go_at_call 72; exact kw_call (hcl _))))
        refine wpQuiet_nil ?_
        rintro _ ⟨k2, rfl⟩
        clear hcl
        go_wp2
        go_ret2
        exact ⟨by rw [HR2.out]; rfl, (hkw.trans hka).trans k2.kept⟩
      · have HCS := Lib.hid hcs; clear hcs
        refine wp_region_kw _ (Kept.refl _) (by kernel_rfl) (by kernel_rfl) ?_
        repeat (go_big_quiet_step (first | (go_at_call 72; exact kw_call (hcl _))))
        refine wpQuiet_nil ?_
        rintro _ ⟨k2, rfl⟩
        clear hcl
        go_wp2
        go_roundw
        case rel => exact ⟨k + 1, by omega, by go_num, Lib.hid HCS.out.symm, (hkw.trans hka).trans k2.kept, (hkw3.trans hka).trans k2.kept⟩
        case measure => simp [intOf]; omega
    · obtain rfl : n1 = k := by omega
      have HR2 : Hid (res = sameCs c.conds d.conds) := Lib.hid (by
        have e1 : sameBs c.box d.box = true := by rw [← HST.out]; exact sameBs_end (Nat.le_of_eq HB.out.1.symm)
        rw [HR.out, e1]; rfl)
      clear HR HST HL1
      have HKW := Lib.hid hkw
      replace hA := hA.kept hkw3
      replace hB := hB.kept hkw3
      clear hkw3 hkb hlt hkk
      go_wp2
      clear e0 e1 e2 e3 e4 e5 e6 e7 e8 e9 d0 d1 d2 d3 d4 d5 d6 d7 d8 d9
      rename World => wq
      have hkw := HKW.out
      go_loopw [82] (fun i ws => ∃ (k : Nat), k ≤ n2 ∧ i = .int .i64 (k : Int) ∧ Hid (sameCs (c.conds.drop k) (d.conds.drop k) = sameCs c.conds d.conds) ∧ Kept wq ws) (fun i _ => n2 - (intOf i).toNat)
      case atStart => exact ⟨0, Nat.zero_le _, rfl, Lib.hid rfl, Kept.refl _⟩
      case round =>
        obtain ⟨k, hkk, rfl, HST, hkw4⟩ := hrel
        replace hkw := hkw.trans hkw4
        obtain ⟨e0, e1, e2, e3, e4, e5, e6, e7, e8, e9, -⟩ := (hA.kept hkw4).facts10
        obtain ⟨d0, d1, d2, d3, d4, d5, d6, d7, d8, d9, -⟩ := (hB.kept hkw4).facts10
        have hkw4' := hkw4
        clear hA hB hkw4
        by_cases hlt : k < n2
        · have hlt' : k < n2' := by have := HL2.out; omega
          have hl : k < c.conds.length := by have := HC.out.1; omega
          have hl' : k < d.conds.length := by have := HC'.out.1; omega
          obtain ⟨b, off, r0, r1, r2, u1, u2, u3, u4, u5, u6, um, ua, un, ucap, rfl, q0, q1, q2, q3, q4, q5, q6, q7, hex⟩ := HC.out.2.2.2 k hl
          obtain ⟨b', off', r0', r1', r2', v1, v2, v3, v4, v5, v6, vm, va, vn, vcap, rfl, m0, m1, m2, m3, m4, m5, m6, m7, hex'⟩ := HC'.out.2.2.2 k hl'
          have hcl := fun (w' : World) (k' : Kept w w') => sameexpr_calls (hex.kept k') (hex'.kept k') (HT.out.kept k') (HOKc.out.2.2.2 k hl) (HOKd.out.2.2.2 k hl')
          have hcs := sameCs_drop hl hl'
          rw [HST.out] at hcs
          clear hex hex'
          generalize c.conds[k].strict = tt at *
          generalize d.conds[k].strict = tt' at *
          generalize sameT c.conds[k].t d.conds[k].t = si at *
          replace q0 := hkw.cell q0
          replace q1 := hkw.cell q1
          replace q2 := hkw.cell q2
          replace q3 := hkw.cell q3
          replace q4 := hkw.cell q4
          replace q5 := hkw.cell q5
          replace q6 := hkw.cell q6
          replace q7 := hkw.cell q7
          have hP := Blk.new wr #[.int .i64 r0, .int .i64 r1, .bool r2, .slice u1 u2 u3, .slice u4 u5 u6, .string um, .slice ua un ucap, .bool tt] 93
          have hka : Kept wr (wr.alloc (.cells #[.int .i64 r0, .int .i64 r1, .bool r2, .slice u1 u2 u3, .slice u4 u5 u6, .string um, .slice ua un ucap, .bool tt] 93)) := (Kept.refl wr).alloc _
          go_wp2_with fail
          have y0 := fun (k : KW (wr.alloc (.cells #[.int .i64 r0, .int .i64 r1, .bool r2, .slice u1 u2 u3, .slice u4 u5 u6, .string um, .slice ua un ucap, .bool tt] 93))) => k.kept.cell ((hkw.trans hka).cell m0)
          have y1 := fun (k : KW (wr.alloc (.cells #[.int .i64 r0, .int .i64 r1, .bool r2, .slice u1 u2 u3, .slice u4 u5 u6, .string um, .slice ua un ucap, .bool tt] 93))) => k.kept.cell ((hkw.trans hka).cell m1)
          have y2 := fun (k : KW (wr.alloc (.cells #[.int .i64 r0, .int .i64 r1, .bool r2, .slice u1 u2 u3, .slice u4 u5 u6, .string um, .slice ua un ucap, .bool tt] 93))) => k.kept.cell ((hkw.trans hka).cell m2)
          have y3 := fun (k : KW (wr.alloc (.cells #[.int .i64 r0, .int .i64 r1, .bool r2, .slice u1 u2 u3, .slice u4 u5 u6, .string um, .slice ua un ucap, .bool tt] 93))) => k.kept.cell ((hkw.trans hka).cell m3)
          have y4 := fun (k : KW (wr.alloc (.cells #[.int .i64 r0, .int .i64 r1, .bool r2, .slice u1 u2 u3, .slice u4 u5 u6, .string um, .slice ua un ucap, .bool tt] 93))) => k.kept.cell ((hkw.trans hka).cell m4)
          have y5 := fun (k : KW (wr.alloc (.cells #[.int .i64 r0, .int .i64 r1, .bool r2, .slice u1 u2 u3, .slice u4 u5 u6, .string um, .slice ua un ucap, .bool tt] 93))) => k.kept.cell ((hkw.trans hka).cell m5)
          have y6 := fun (k : KW (wr.alloc (.cells #[.int .i64 r0, .int .i64 r1, .bool r2, .slice u1 u2 u3, .slice u4 u5 u6, .string um, .slice ua un ucap, .bool tt] 93))) => k.kept.cell ((hkw.trans hka).cell m6)
          have y7 := fun (k : KW (wr.alloc (.cells #[.int .i64 r0, .int .i64 r1, .bool r2, .slice u1 u2 u3, .slice u4 u5 u6, .string um, .slice ua un ucap, .bool tt] 93))) => k.kept.cell ((hkw.trans hka).cell m7)
          have z0 := fun (k : KW (wr.alloc (.cells #[.int .i64 r0, .int .i64 r1, .bool r2, .slice u1 u2 u3, .slice u4 u5 u6, .string um, .slice ua un ucap, .bool tt] 93))) => (hP.kept k.kept).cell 0 rfl
          have z1 := fun (k : KW (wr.alloc (.cells #[.int .i64 r0, .int .i64 r1, .bool r2, .slice u1 u2 u3, .slice u4 u5 u6, .string um, .slice ua un ucap, .bool tt] 93))) => (hP.kept k.kept).cell 1 rfl
          have z2 := fun (k : KW (wr.alloc (.cells #[.int .i64 r0, .int .i64 r1, .bool r2, .slice u1 u2 u3, .slice u4 u5 u6, .string um, .slice ua un ucap, .bool tt] 93))) => (hP.kept k.kept).cell 2 rfl
          have z3 := fun (k : KW (wr.alloc (.cells #[.int .i64 r0, .int .i64 r1, .bool r2, .slice u1 u2 u3, .slice u4 u5 u6, .string um, .slice ua un ucap, .bool tt] 93))) => (hP.kept k.kept).cell 3 rfl
          have z4 := fun (k : KW (wr.alloc (.cells #[.int .i64 r0, .int .i64 r1, .bool r2, .slice u1 u2 u3, .slice u4 u5 u6, .string um, .slice ua un ucap, .bool tt] 93))) => (hP.kept k.kept).cell 4 rfl
          have z5 := fun (k : KW (wr.alloc (.cells #[.int .i64 r0, .int .i64 r1, .bool r2, .slice u1 u2 u3, .slice u4 u5 u6, .string um, .slice ua un ucap, .bool tt] 93))) => (hP.kept k.kept).cell 5 rfl
          have z6 := fun (k : KW (wr.alloc (.cells #[.int .i64 r0, .int .i64 r1, .bool r2, .slice u1 u2 u3, .slice u4 u5 u6, .string um, .slice ua un ucap, .bool tt] 93))) => (hP.kept k.kept).cell 6 rfl
          have z7 := fun (k : KW (wr.alloc (.cells #[.int .i64 r0, .int .i64 r1, .bool r2, .slice u1 u2 u3, .slice u4 u5 u6, .string um, .slice ua un ucap, .bool tt] 93))) => (hP.kept k.kept).cell 7 rfl
          have z9 := fun (k : KW (wr.alloc (.cells #[.int .i64 r0, .int .i64 r1, .bool r2, .slice u1 u2 u3, .slice u4 u5 u6, .string um, .slice ua un ucap, .bool tt] 93))) => k.kept.cell (hka.cell d9)
          clear q0 q1 q2 q3 q4 q5 q6 q7 m0 m1 m2 m3 m4 m5 m6 m7 e0 e1 e2 e3 e4 e5 e6 e7 e8 e9 d0 d1 d2 d3 d4 d5 d6 d7 d8 d9 hP
          have hcl := fun (k : KW (wr.alloc (.cells #[.int .i64 r0, .int .i64 r1, .bool r2, .slice u1 u2 u3, .slice u4 u5 u6, .string um, .slice ua un ucap, .bool tt] 93))) => hcl k.w ((hkw.trans hka).trans k.kept)
          by_cases htt : tt = tt'
          rotate_left
          · rw [beq_false_of_ne htt, Bool.and_false, Bool.false_and] at hcs
            have HR3 : Hid (res = false) := Lib.hid (by rw [HR2.out, hcs])
            clear hcs
            cases tt <;> cases tt' <;> first | exact absurd rfl htt | (clear htt
                                                                       refine wp_region_kw _ (Kept.refl _) (by kernel_rfl) (by kernel_rfl) ?_
                                                                       repeat (go_big_quiet_step (first | (go_at_call 71; exact kw_call (hcl _))))
                                                                       refine wpQuiet_nil ?_
                                                                       rintro _ ⟨k2, rfl⟩
                                                                       clear hcl
                                                                       go_wp2
                                                                       go_ret2
                                                                       exact ⟨by rw [HR3.out]; rfl, (hkw.trans hka).trans k2.kept⟩)
          subst htt
          rw [beq_self_eq_true, Bool.and_true] at hcs
          cases si
          · have HR3 : Hid (res = false) := Lib.hid (by rw [HR2.out, hcs]; rfl)
            clear hcs
            refine wp_region_kw _ (Kept.refl _) (by kernel_rfl) (by kernel_rfl) ?_
            repeat (go_big_quiet_step (first | (go_at_call 71; exact kw_call (hcl _))))
            refine wpQuiet_nil ?_
            rintro _ ⟨k2, rfl⟩
            clear hcl
            go_wp2
            go_ret2
            exact ⟨by rw [HR3.out]; rfl, (hkw.trans hka).trans k2.kept⟩
          · have HCS := Lib.hid hcs; clear hcs
            refine wp_region_kw _ (Kept.refl _) (by kernel_rfl) (by kernel_rfl) ?_
            repeat (go_big_quiet_step (first | (go_at_call 71; exact kw_call (hcl _))))
            refine wpQuiet_nil ?_
            rintro _ ⟨k2, rfl⟩
            clear hcl
            go_wp2
            go_roundw
            case rel => exact ⟨k + 1, by omega, by go_num, Lib.hid HCS.out.symm, (hkw4'.trans hka).trans k2.kept⟩
            case measure => simp [intOf]; omega
        · obtain rfl : n2 = k := by omega
          have HR3 : Hid (res = true) := Lib.hid (by
            rw [HR2.out, ← HST.out]
            exact sameCs_end (Nat.le_of_eq HC.out.1.symm))
          go_wp2
          go_ret2
          exact ⟨by rw [HR3.out]; rfl, hkw⟩
end Go.Proofs.YtbapfnpbamnmpaaGreatDoor
end
