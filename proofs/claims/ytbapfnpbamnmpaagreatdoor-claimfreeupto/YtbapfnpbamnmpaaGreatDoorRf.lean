/- A part of the proof that ClaimFree answers true for every input of bulk at most 1048576: conditions: the row's own. -/
import Derived.Test.YtbapfnpbamnmpaaGreatDoorRe
section
namespace Go.Proofs.YtbapfnpbamnmpaaGreatDoor
open Go Go.RowKit Go.Dig
open Go.Eng (Kept KW KeptB)

theorem _root_.Go.Eng.KeptB.st3 {w w1 : World} {b : Nat} (h : Kept w w1) (x y z : Value) : KeptB w (((w1.setCell ⟨b, 0, none⟩ x).setCell ⟨b, 1, none⟩ y).setCell ⟨b, 2, none⟩ z) b := (((h.toB b).setCell rfl _).setCell rfl _).setCell rfl _
/-! ### Opp -/
set_option maxHeartbeats 1000000 in
set_option maxRecDepth 100000 in
theorem opp_calls {w : World} {v : Value} {neg : Bool} {n d : Nat} (h : Qv w v neg n d) :
    Calls Tryz.prog 255 #[v] w (RetQ (!neg && decide (0 < n)) n d w) := by
  obtain ⟨vn, vd, rfl, hn, hd⟩ := h
  obtain ⟨a, nn, capn, rfl⟩ := hn.shape
  obtain ⟨ad, nd, capd, rfl⟩ := hd.shape
  have hz := (nt_len hn).1
  have e0 : decide (0 < n) = decide (0 < nn) := by rw [Bool.eq_iff_iff]; simp only [decide_eq_true_eq]; omega
  rw [e0]
  clear hz e0
  have fin : ∀ p, RetQ p n d w (.returned (.agg #[.bool p, .slice a nn capn, .slice ad nd capd])) ((w.alloc (.cells #[.bool neg, .slice a nn capn, .slice ad nd capd] 97)).alloc (.cells #[.bool p, .slice a nn capn, .slice ad nd capd] 97)) := fun p => by
    have hk1 : Kept w ((w.alloc (.cells #[.bool neg, .slice a nn capn, .slice ad nd capd] 97)).alloc (.cells #[.bool p, .slice a nn capn, .slice ad nd capd] 97)) := ((Kept.refl _).alloc _).alloc _
    exact ⟨_, rfl, ⟨_, _, rfl, hn.kept hk1, hd.kept hk1⟩, hk1⟩
  have FIN := Lib.hid fin; clear fin
  cases neg
  · by_cases h0 : 0 < nn
    · have t : decide (0 < (nn : Int)) = true := by simp; omega
      have HD : decide (0 < nn) = true := by simp; omega
      rw [HD]
      clear hn hd HD
      go_enter Tryz.func255, Tryz.ntmps255
      go_wp2
      exact bodyPost_ret (v := .agg #[.bool true, .slice a nn capn, .slice ad nd capd]) (by simp [results, Tryz.results255, go_sem]) rfl (FIN.out true)
    · have t : decide (0 < (nn : Int)) = false := by simp; omega
      have HD : decide (0 < nn) = false := by simp; omega
      rw [HD]
      clear hn hd HD
      go_enter Tryz.func255, Tryz.ntmps255
      go_wp2
      exact bodyPost_ret (v := .agg #[.bool false, .slice a nn capn, .slice ad nd capd]) (by simp [results, Tryz.results255, go_sem]) rfl (FIN.out false)
  · clear hn hd
    go_enter Tryz.func255, Tryz.ntmps255
    go_wp2
    exact bodyPost_ret (v := .agg #[.bool false, .slice a nn capn, .slice ad nd capd]) (by simp [results, Tryz.results255, go_sem]) rfl (FIN.out false)
/-! ### Of -/
theorem Nt.shape2 {B : Nat} {w : World} {v : Value} {m : Nat} (h : Nt B w v m) : ∃ a n cap, v = .slice a n cap ∧ (m = 0 ↔ n = 0) := by
  obtain ⟨a', n', cap', xs, e, hc, hd, hn, rfl, hw⟩ := h
  refine ⟨_, _, _, e, fun h => ?_, fun h => by subst h; rfl⟩
  by_cases h1 : n' = 0
  · exact h1
  · rcases hn with h2 | h2
    · exact absurd h2 h1
    · exfalso
      obtain ⟨k, rfl⟩ : ∃ k, n' = k + 1 := ⟨n' - 1, by omega⟩
      simp only [Nat.add_sub_cancel] at h2
      simp only [val] at h
      have hB : 0 < B := by have := hd k (by omega); omega
      have : 0 < xs k * B ^ k := Nat.mul_pos (by omega) (Nat.pow_pos hB)
      omega
theorem rN_dn (N D : Nat) : rN N D = N / Nat.gcd N (dn D) := rfl
set_option maxHeartbeats 2000000 in
set_option maxRecDepth 100000 in
theorem of_qcalls {w : World} {v : Value} {neg : Bool} {N D : Nat} (h : Rt w v neg N D) (hb : N = 0 ∨ N < Mid ∧ D < Mid) :
    Calls Tryz.prog 125 #[v] w (RetQ (neg && decide (0 < N)) (rN N D) (rD N D) w) := by
  obtain ⟨vn, vd, rfl, hn, hd⟩ := h
  obtain ⟨a, n, cap, xs, rfl, _⟩ := hn.shape'
  obtain ⟨ad, nd, capd, ys, rfl, _⟩ := hd.shape'
  have hb1 := Blk3.new w (.bool neg) (.slice a n cap) (.slice ad nd capd) 24
  have hb2 := Blk3.new (w.alloc (.cells #[.bool neg, .slice a n cap, .slice ad nd capd] 24)) (.bool false) (.slice none 0 0) (.slice none 0 0) 97
  have hk1 : Kept w ((w.alloc (.cells #[.bool neg, .slice a n cap, .slice ad nd capd] 24)).alloc (.cells #[.bool false, .slice none 0 0, .slice none 0 0] 97)) := ((Kept.refl _).alloc _).alloc _
  have hb1' := hb1.kept ((Kept.refl _).alloc (.cells #[.bool false, .slice none 0 0, .slice none 0 0] 97))
  clear hb1
  have esz : (w.alloc (.cells #[.bool neg, .slice a n cap, .slice ad nd capd] 24)).heap.size = w.heap.size + 1 := by simp [go_sem]
  rw [esz] at hb2
  clear esz
  have hn1 := hn.kept hk1
  have hd1 := hd.kept hk1
  clear hn hd
  go_enter Tryz.func125, Tryz.ntmps125
  go_wp2_with fail
  generalize (w.alloc (.cells #[.bool neg, .slice a n cap, .slice ad nd capd] 24)).alloc (.cells #[.bool false, .slice none 0 0, .slice none 0 0] 97) = w1 at *
  generalize hbE : w.heap.size = b0 at hb2 hb1' ⊢
  have HBE := Lib.hid hbE; clear hbE
  have hdp : 0 < dn D := by unfold dn; split <;> omega
  have hb : N = 0 ∨ N < Mid ∧ dn D < Mid := by
    rcases hb with h | h
    · exact .inl h
    · refine .inr ⟨h.1, ?_⟩
      unfold dn; split
      · exact pwr_one 16000 (by decide)
      · exact h.2
  by_cases hD : D = 0
  · subst hD
    refine (wordsn_calls hd1).mono ?_
    rintro e w2 ⟨vD, rfl, hvD, hk2⟩
    obtain ⟨a2, n2, c2, rfl, hz⟩ := hvD.shape2
    obtain rfl : n2 = 0 := hz.1 rfl
    have hof := natof_calls w2 1 (by decide)
    go_wp2_with (go_at_call 214; refine hof.mono ?_; rintro e w3 ⟨v3, rfl, hv3, hk3⟩)
    have hkw3 := hk2.trans hk3
    have hv3 : Nt 65536 w3 v3 (dn 0) := hv3

    have hb13 := hb1'.kept hkw3
    have hb23 := hb2.kept hkw3
    obtain ⟨p0, p1, _, _, _, _⟩ := hb13.facts
    have hall : ∀ w', KeptB w3 w' (b0 + 1) → KeptB w3 w' (b0 + 1) ∧ w'.cell? ⟨b0, 0, none⟩ = some (.bool neg) ∧ w'.cell? ⟨b0, 1, none⟩ = some (.slice a n cap) := fun w' k => ⟨k, k.cell p0 (by simp), k.cell p1 (by simp)⟩
    have HALL := Lib.hid hall; clear hall
    go_region_held3 (fun w' => KeptB w3 w' (b0 + 1) ∧ w'.cell? ⟨b0, 0, none⟩ = some (.bool neg) ∧ w'.cell? ⟨b0, 1, none⟩ = some (.slice a n cap))
      (first | exact HALL.out _ (Kept.toB (Kept.refl w3).drew _) | exact HALL.out _ (KeptB.st3 ‹Kept w3 _› _ _ _) | exact HALL.out _ (Kept.toB ‹Kept w3 _› _))
      (first | (go_at_call 216; refine (wordsn_calls (hn1.kept (hkw3.trans (Kept.refl w3).drew))).mono ?_; rintro e w4 ⟨vN, rfl, hvN, hk4⟩; have hS4 : Kept w3 w4 := (Kept.refl w3).drew.trans hk4; have hv4 := hv3.kept hS4) | (go_at_call 212; refine (make_calls neg hvN hv4 hdp hb).mono ?_; rintro e w5 ⟨vq, rfl, hq, hk5⟩; have hS5 : Kept w3 w5 := hS4.trans hk5; obtain ⟨qn, qd, rfl, hqn, hqd⟩ := hq; obtain ⟨aq, nq, cq, rfl⟩ := hqn.shape; obtain ⟨ae, ne, ce, rfl⟩ := hqd.shape; obtain ⟨r0, r1, r2, f0, f1, f2⟩ := (hb23.kept hS5).facts))
    have hkb := KeptB.store3 w5 (b0 + 1) (.bool (neg && decide (0 < N))) (.slice aq nq cq) (.slice ae ne ce)
    have hnw := (hb23.kept hS5).noWords
    go_wp2
    exact bodyPost_ret (v := .agg #[.bool (neg && decide (0 < N)), .slice aq nq cq, .slice ae ne ce]) (by simp [results, Tryz.results125, go_sem, r0, r1, r2]) rfl ⟨_, rfl, ⟨_, _, rfl, hqn.keptB hkb hnw, hqd.keptB hkb hnw⟩, ((hk1.trans hkw3).trans hS5).but hkb (by have := HBE.out; omega)⟩

  · refine (wordsn_calls hd1).mono ?_
    rintro e w3 ⟨v3, rfl, hv3, hkw3⟩
    obtain ⟨a2, n2, c2, rfl, hz⟩ := hv3.shape2
    have q0 : ((n2 : Int) == 0) = false := by simp; omega
    go_wp2_with fail
    have hdD : dn D = D := by unfold dn; rw [if_neg hD]
    have hv3 : Nt 65536 w3 (.slice a2 n2 c2) (dn D) := by rw [hdD]; exact hv3
    clear hdD

    have hb13 := hb1'.kept hkw3
    have hb23 := hb2.kept hkw3
    obtain ⟨p0, p1, _, _, _, _⟩ := hb13.facts
    have hall : ∀ w', KeptB w3 w' (b0 + 1) → KeptB w3 w' (b0 + 1) ∧ w'.cell? ⟨b0, 0, none⟩ = some (.bool neg) ∧ w'.cell? ⟨b0, 1, none⟩ = some (.slice a n cap) := fun w' k => ⟨k, k.cell p0 (by simp), k.cell p1 (by simp)⟩
    have HALL := Lib.hid hall; clear hall
    go_region_held3 (fun w' => KeptB w3 w' (b0 + 1) ∧ w'.cell? ⟨b0, 0, none⟩ = some (.bool neg) ∧ w'.cell? ⟨b0, 1, none⟩ = some (.slice a n cap))
      (first | exact HALL.out _ (Kept.toB (Kept.refl w3).drew _) | exact HALL.out _ (KeptB.st3 ‹Kept w3 _› _ _ _) | exact HALL.out _ (Kept.toB ‹Kept w3 _› _))
      (first | (go_at_call 216; refine (wordsn_calls (hn1.kept (hkw3.trans (Kept.refl w3).drew))).mono ?_; rintro e w4 ⟨vN, rfl, hvN, hk4⟩; have hS4 : Kept w3 w4 := (Kept.refl w3).drew.trans hk4; have hv4 := hv3.kept hS4) | (go_at_call 212; refine (make_calls neg hvN hv4 hdp hb).mono ?_; rintro e w5 ⟨vq, rfl, hq, hk5⟩; have hS5 : Kept w3 w5 := hS4.trans hk5; obtain ⟨qn, qd, rfl, hqn, hqd⟩ := hq; obtain ⟨aq, nq, cq, rfl⟩ := hqn.shape; obtain ⟨ae, ne, ce, rfl⟩ := hqd.shape; obtain ⟨r0, r1, r2, f0, f1, f2⟩ := (hb23.kept hS5).facts))
    have hkb := KeptB.store3 w5 (b0 + 1) (.bool (neg && decide (0 < N))) (.slice aq nq cq) (.slice ae ne ce)
    have hnw := (hb23.kept hS5).noWords
    go_wp2
    exact bodyPost_ret (v := .agg #[.bool (neg && decide (0 < N)), .slice aq nq cq, .slice ae ne ce]) (by simp [results, Tryz.results125, go_sem, r0, r1, r2]) rfl ⟨_, rfl, ⟨_, _, rfl, hqn.keptB hkb hnw, hqd.keptB hkb hnw⟩, ((hk1.trans hkw3).trans hS5).but hkb (by have := HBE.out; omega)⟩

end Go.Proofs.YtbapfnpbamnmpaaGreatDoor
end

section
namespace Go.Proofs.YtbapfnpbamnmpaaGreatDoor
open Go Go.RowKit Go.Dig
open Go.Eng (Kept KW KeptB)

/-! ### Large -/
theorem mid8 {N : Nat} (h : N < pwr 2 8192) : N < Mid := Nat.lt_of_lt_of_le h (pwr_le 8192 16000 (by decide))
set_option maxHeartbeats 2000000 in
set_option maxRecDepth 100000 in
theorem large_calls {w : World} {v : Value} {neg : Bool} {N D : Nat} (h : Rt w v neg N D) :
    Calls Tryz.prog 120 #[v] w fun e w' => e = .returned (.bool (!(small N D))) ∧ Kept w w' := by
  have hq := fun (w' : World) (k : Kept w w') (hN : N < pwr 2 8192) (hD : D < pwr 2 8192) => of_qcalls (h.kept k) (.inr ⟨mid8 hN, mid8 hD⟩)
  have HQ := Lib.hid hq; clear hq
  obtain ⟨vn, vd, rfl, hn, hd⟩ := h
  obtain ⟨a, n, cap, xs, rfl, _⟩ := hn.shape'
  obtain ⟨ad, nd, capd, ys, rfl, _⟩ := hd.shape'
  have hb1 := Blk3.new w (.bool neg) (.slice a n cap) (.slice ad nd capd) 24
  have hk1 : Kept w (w.alloc (.cells #[.bool neg, .slice a n cap, .slice ad nd capd] 24)) := (Kept.refl _).alloc _
  have hn1 := hn.kept hk1
  have hd1 := hd.kept hk1
  clear hn hd
  by_cases hN : N < pwr 2 8192
  · have hl1 : ∀ (w : World) (a : Option Addr) (n cap : Nat), Nt 65536 w (.slice a n cap) N → decide (512 < (n : Int)) = false   := fun _ _ _ _ h => by
      obtain ⟨L, hL⟩ : ∃ L, L = 512 := ⟨512, rfl⟩; have := ((nt_len h).2 L).2 (by rw [p8192' hL]; exact hN)
      simp; omega
    by_cases hD : D < pwr 2 8192
    · have hl2 : ∀ (w : World) (a : Option Addr) (n cap : Nat), Nt 65536 w (.slice a n cap) D → decide (512 < (n : Int)) = false   := fun _ _ _ _ h => by
        obtain ⟨L, hL⟩ : ∃ L, L = 512 := ⟨512, rfl⟩; have := ((nt_len h).2 L).2 (by rw [p8192' hL]; exact hD)
        simp; omega
      have hsm : small N D = (fits32 (rN N D) && fits32 (rD N D)) := by unfold small; simp [hN, hD]
      rw [hsm]
      have HQ2 := Lib.hid (fun (w' : World) (k : Kept w w') => HQ.out w' k hN hD)
      have HL1 := Lib.hid hl1
      have HL2 := Lib.hid hl2
      clear hsm hl1 hl2 hN hD HQ
      go_enter Tryz.func120, Tryz.ntmps120
      go_wp2_with fail
      generalize w.alloc (.cells #[.bool neg, .slice a n cap, .slice ad nd capd] 24) = w1 at *
      generalize hbE : w.heap.size = b0 at hb1 ⊢
      refine (wordsn_calls hn1).mono ?_
      rintro e w2 ⟨v2, rfl, hv2, hk2⟩
      obtain ⟨a2, n2, c2, rfl⟩ := hv2.shape
      have t1 := HL1.out _ _ _ _ hv2
      obtain ⟨p0, p1, p2, _, _, _⟩ := (hb1.kept hk2).facts
      go_wp2_with fail
      refine (wordsn_calls (hd1.kept hk2)).mono ?_
      rintro e w3 ⟨v3, rfl, hv3, hk3⟩
      obtain ⟨a3, n3, c3, rfl⟩ := hv3.shape
      have t2 := HL2.out _ _ _ _ hv3
      clear p0 p1 p2
      obtain ⟨p0, p1, p2, _, _, _⟩ := (hb1.kept (hk2.trans hk3)).facts
      go_wp2_with fail
      have hk13 := (hk1.trans hk2).trans hk3
      refine (HQ2.out _ hk13).mono ?_
      rintro e w4 ⟨v4, rfl, hq4, hk4⟩
      go_wp2_with (go_at_call 217; refine (over_calls hq4).mono ?_; rintro e w5 ⟨rfl, hk5⟩)
      go_ret
      exact ⟨by rw [Bool.not_and]; rfl, (hk13.trans hk4).trans hk5⟩
    · have hl2 : ∀ (w : World) (a : Option Addr) (n cap : Nat), Nt 65536 w (.slice a n cap) D → decide (512 < (n : Int)) = true   := fun _ _ _ _ h => by
        obtain ⟨L, hL⟩ : ∃ L, L = 512 := ⟨512, rfl⟩; have := fun h2 => ((nt_len h).2 L).1 h2
        rw [p8192' hL] at this
        have h3 : ¬ _ ≤ L := fun h4 => hD (this h4)
        simp; omega
      have hsm : small N D = false := by unfold small; simp [hD]
      rw [hsm]
      have HL1 := Lib.hid hl1
      have HL2 := Lib.hid hl2
      clear hsm hl1 hl2 hN hD HQ
      go_enter Tryz.func120, Tryz.ntmps120
      go_wp2_with fail
      generalize w.alloc (.cells #[.bool neg, .slice a n cap, .slice ad nd capd] 24) = w1 at *
      generalize hbE : w.heap.size = b0 at hb1 ⊢
      refine (wordsn_calls hn1).mono ?_
      rintro e w2 ⟨v2, rfl, hv2, hk2⟩
      obtain ⟨a2, n2, c2, rfl⟩ := hv2.shape
      have t1 := HL1.out _ _ _ _ hv2
      obtain ⟨p0, p1, p2, _, _, _⟩ := (hb1.kept hk2).facts
      go_wp2_with fail
      refine (wordsn_calls (hd1.kept hk2)).mono ?_
      rintro e w3 ⟨v3, rfl, hv3, hk3⟩
      obtain ⟨a3, n3, c3, rfl⟩ := hv3.shape
      have t2 := HL2.out _ _ _ _ hv3
      go_wp2
      go_ret
      exact ⟨rfl, (hk1.trans hk2).trans hk3⟩
  · have hl1 : ∀ (w : World) (a : Option Addr) (n cap : Nat), Nt 65536 w (.slice a n cap) N → decide (512 < (n : Int)) = true   := fun _ _ _ _ h => by
      obtain ⟨L, hL⟩ : ∃ L, L = 512 := ⟨512, rfl⟩; have := fun h2 => ((nt_len h).2 L).1 h2
      rw [p8192' hL] at this
      have h3 : ¬ _ ≤ L := fun h4 => hN (this h4)
      simp; omega
    have hsm : small N D = false := by unfold small; simp [hN]
    rw [hsm]
    have HL1 := Lib.hid hl1
    clear hsm hl1 hN HQ
    go_enter Tryz.func120, Tryz.ntmps120
    go_wp2_with fail
    generalize w.alloc (.cells #[.bool neg, .slice a n cap, .slice ad nd capd] 24) = w1 at *
    generalize hbE : w.heap.size = b0 at hb1 ⊢
    refine (wordsn_calls hn1).mono ?_
    rintro e w2 ⟨v2, rfl, hv2, hk2⟩
    obtain ⟨a2, n2, c2, rfl⟩ := hv2.shape
    have t1 := HL1.out _ _ _ _ hv2
    go_wp2
    go_ret
    exact ⟨rfl, hk1.trans hk2⟩
end Go.Proofs.YtbapfnpbamnmpaaGreatDoor
end
