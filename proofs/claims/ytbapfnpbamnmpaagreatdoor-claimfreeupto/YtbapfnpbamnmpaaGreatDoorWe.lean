/- A part of the proof that ClaimFree answers true for every input of bulk at most 1048576: conditions: the row's own. -/
import Derived.Test.YtbapfnpbamnmpaaGreatDoorWd
section
namespace Go.Proofs.YtbapfnpbamnmpaaGreatDoor
open Go Go.RowKit Go.Dig
open Go.Eng (Kept KW KeptB)

/-- v is a fraction in memory -/
def Fr (w : World) (v : Value) (neg : Bool) (n d : Nat) : Prop := ∃ vn vd, v = .agg #[.bool neg, vn, vd] ∧ Nt 4294967296 w vn n ∧ Nt 4294967296 w vd d
theorem Fr.kept {w w' : World} {v : Value} {neg : Bool} {n d : Nat} (h : Fr w v neg n d) (k : Kept w w') : Fr w' v neg n d := by
  obtain ⟨vn, vd, h1, h2, h3⟩ := h
  exact ⟨vn, vd, h1, h2.kept k, h3.kept k⟩
def RetFr (neg : Bool) (n d : Nat) (w : World) (e : Ending) (w' : World) : Prop := ∃ v, e = .returned v ∧ Fr w' v neg n d ∧ Kept w w'

/-- a block of three cells of the call's own -/
def Blk3 (w : World) (b : Nat) (x y z : Value) (t : TypeId) : Prop := w.heap[b]? = some (.cells #[x, y, z] t)
theorem Blk3.new (w : World) (x y z : Value) (t : TypeId) : Blk3 (w.alloc (.cells #[x, y, z] t)) w.heap.size x y z t := Go.Deep.blk_alloc_new _ _
theorem Blk3.kept {w w' : World} {b : Nat} {x y z : Value} {t : TypeId} (h : Blk3 w b x y z t) (k : Kept w w') : Blk3 w' b x y z t := (k.old b (Array.getElem?_eq_some_iff.1 h).1).trans h
theorem Blk3.facts {w : World} {b : Nat} {x y z : Value} {t : TypeId} (h : Blk3 w b x y z t) :
    w.cell? ⟨b, 0, none⟩ = some x ∧ w.cell? ⟨b, 1, none⟩ = some y ∧ w.cell? ⟨b, 2, none⟩ = some z ∧ w.frozen? ⟨b, 0, none⟩ = false ∧ w.frozen? ⟨b, 1, none⟩ = false ∧ w.frozen? ⟨b, 2, none⟩ = false := by
  unfold Blk3 at h
  refine ⟨?_, ?_, ?_, ?_, ?_, ?_⟩ <;> simp [World.cell?, World.frozen?, h]
theorem Nt.shape {B : Nat} {w : World} {v : Value} {m : Nat} (h : Nt B w v m) : ∃ a n cap, v = .slice a n cap := by
  obtain ⟨a, n, cap, _, h, _⟩ := h
  exact ⟨a, n, cap, h⟩
/-- a block without words -/
def NoWords (w : World) (b : Nat) : Prop := ∀ off n, w.cell? ⟨b, off, none⟩ ≠ some (.int .u32 n)
theorem Blk3.noWords {w : World} {b : Nat} {p : Bool} {a a' : Option Addr} {n n' c c' : Nat} {t : TypeId} (h : Blk3 w b (.bool p) (.slice a n c) (.slice a' n' c') t) : NoWords w b := by
  intro off k hc
  unfold Blk3 at h
  simp only [World.cell?, h] at hc
  match off with
  | 0 => simp at hc
  | 1 => simp at hc
  | 2 => simp at hc
  | off + 3 => simp at hc
theorem Nt.keptB {B : Nat} {w w' : World} {v : Value} {m b : Nat} (h : Nt B w v m) (k : KeptB w w' b) (hb : NoWords w b) : Nt B w' v m := by
  obtain ⟨a, n, cap, zs, h1, h2, h3, h4, h5, h6⟩ := h
  refine ⟨a, n, cap, zs, h1, h2, h3, h4, h5, fun i hi => ?_⟩
  obtain ⟨b', off, e, hc⟩ := h6 i hi
  exact ⟨b', off, e, k.cell hc (by rintro rfl; exact hb _ _ hc)⟩
theorem KeptB.store3 (w : World) (b : Nat) (x y z : Value) : KeptB w (((w.setCell ⟨b, 0, none⟩ x).setCell ⟨b, 1, none⟩ y).setCell ⟨b, 2, none⟩ z) b :=
  (((Go.Eng.KeptB.refl w b).setCell rfl _).setCell rfl _).setCell rfl _
theorem zero_true {w : World} {v : Value} (hv : Nt 4294967296 w v 0) : Calls Tryz.prog 192 #[v] w fun e w' => e = .returned (.bool true) ∧ w = w' := zero_calls (.inr rfl) hv
theorem zero_false {w : World} {v : Value} {m : Nat} (hv : Nt 4294967296 w v m) (h : 0 < m) : Calls Tryz.prog 192 #[v] w fun e w' => e = .returned (.bool false) ∧ w = w' :=
  (zero_calls (.inr rfl) hv).mono fun e w' ⟨h1, h2⟩ => ⟨by rw [h1]; congr 2; simp; omega, h2⟩
set_option maxHeartbeats 1000000 in
set_option maxRecDepth 100000 in
theorem reduce_zero {w : World} {vn vd : Value} (neg : Bool) (hn : Nt 4294967296 w vn 0) :
    Calls Tryz.prog 187 #[.bool neg, vn, vd] w (RetFr false 0 1 w) := by
  have hb0 := Blk3.new w (.bool false) (.slice none 0 0) (.slice none 0 0) 217
  have hk0 : Kept w (w.alloc (.cells #[.bool false, .slice none 0 0, .slice none 0 0] 217)) := (Kept.refl _).alloc _
  have hz := zero_true (hn.kept hk0)
  go_enter Tryz.func187, Tryz.ntmps187
  go_wp2_with fail
  generalize w.alloc (.cells #[.bool false, .slice none 0 0, .slice none 0 0] 217) = w1 at *
  have hsz : w.heap.size ≤ w.heap.size := Nat.le_refl _
  generalize hbE : w.heap.size = b0 at hb0 ⊢
  refine hz.mono ?_
  rintro e w' ⟨rfl, rfl⟩
  have hsm := small_calls w1 1 (by decide)
  go_wp2_with (go_at_call 189; refine hsm.mono ?_; rintro e w2 ⟨v2, rfl, hv2, hk2⟩; obtain ⟨c0, c1, c2, f0, f1, f2⟩ := (hb0.kept hk2).facts; obtain ⟨a2, n2, cap2, rfl⟩ := hv2.shape)
  have hkb := KeptB.store3 w2 b0 (.bool false) (.slice none 0 0) (.slice a2 n2 cap2)
  refine bodyPost_ret (v := .agg #[.bool false, .slice none 0 0, .slice a2 n2 cap2]) (by simp [results, Tryz.results187, go_sem, c0, c1, c2]) rfl ⟨_, rfl, ⟨_, _, rfl, nt_zero _ _ _ _, hv2.keptB hkb (hb0.kept hk2).noWords⟩, (hk0.trans hk2).but hkb (by omega)⟩
end Go.Proofs.YtbapfnpbamnmpaaGreatDoor
end

section
namespace Go.Proofs.YtbapfnpbamnmpaaGreatDoor
open Go Go.RowKit Go.Dig
open Go.Eng (Kept KW KeptB)
set_option maxHeartbeats 4000000 in
set_option maxRecDepth 100000 in
theorem reduce_same {w : World} {vn vd : Value} {m k : Nat} (neg : Bool) (hn : Nt 4294967296 w vn m) (hd : Nt 4294967296 w vd k) (hm : m < Big) (hk : k < Big) (hm0 : 0 < m) (hk0 : 0 < k) (hT : Laid w)
    (ht : v2 m = 0 ∨ v2 k = 0) :
    Calls Tryz.prog 187 #[.bool neg, vn, vd] w (RetFr neg (m / Nat.gcd m k) (k / Nat.gcd m k) w) := by
  have hb0 := Blk3.new w (.bool false) (.slice none 0 0) (.slice none 0 0) 217
  have hw0 : Kept w (w.alloc (.cells #[.bool false, .slice none 0 0, .slice none 0 0] 217)) := (Kept.refl _).alloc _
  have hn1 := hn.kept hw0
  have hd1 := hd.kept hw0
  have hT1 := hT.kept hw0
  clear hn hd hT
  go_enter Tryz.func187, Tryz.ntmps187
  go_wp2_with fail
  generalize w.alloc (.cells #[.bool false, .slice none 0 0, .slice none 0 0] 217) = w1 at *
  generalize hbE : w.heap.size = b0 at hb0 ⊢
  have HBE := Lib.hid hbE; clear hbE
  refine (zero_false hn1 hm0).mono ?_
  rintro e w' ⟨rfl, rfl⟩
  have htn := twos_calls hn1 hm hm0 hT1
  have htd := twos_calls hd1 hk hk0 hT1
  have hoddm := Lib.hid (v2_zero_odd hm0)
  obtain ⟨t1, ht1⟩ : ∃ t, v2 m = t := ⟨_, rfl⟩
  obtain ⟨t2, ht2⟩ : ∃ t, v2 k = t := ⟨_, rfl⟩
  rw [ht1] at htn ht
  rw [ht2] at htd ht
  have HT1 := Lib.hid ht1; clear ht1
  have HT2 := Lib.hid ht2; clear ht2
  go_wp2_with fail
  refine htn.mono ?_
  rintro e w' ⟨rfl, rfl⟩
  go_wp2_with fail
  refine htd.mono ?_
  rintro e w' ⟨rfl, rfl⟩
  go_wp2_with fail

  have hbits := bits_calls hd1 hk hk0
  refine (htd).mono ?_
  rintro e w' ⟨rfl, rfl⟩
  go_wp2_with fail
  refine hbits.mono ?_
  rintro e w' ⟨b, rfl, rfl, hb40, hb1, hb2, hb3⟩
  have hiff := Lib.hid (pow2_iff hb1 hb2 hb3)
  have hgp : 0 < Nat.gcd m k := Nat.gcd_pos_of_pos_left _ hm0
  by_cases hpw : t2 = b - 1
  · -- the denominator is a power of 2
    have hg1 : Nat.gcd m k = 1 := by
      have e1 := hiff.out.1 (by rw [HT2.out]; exact hpw)
      rw [e1]
      exact gcd_one_of_pow2 (by rcases ht with h | h; exact .inr (hoddm.out (HT1.out.trans h)); exact .inl (by omega))
    have tst : ((t2 : Int) != (b : Int) - 1) = false := by simp; omega
    obtain ⟨c0, c1, c2, f0, f1, f2⟩ := hb0.facts
    obtain ⟨an, nn, capn, rfl⟩ := hn1.shape
    obtain ⟨ad, nd, capd, rfl⟩ := hd1.shape
    have hkb := KeptB.store3 w1 b0 (.bool neg) (.slice an nn capn) (.slice ad nd capd)
    go_wp2
    refine bodyPost_ret (v := .agg #[.bool neg, .slice an nn capn, .slice ad nd capd]) (by simp [results, Tryz.results187, go_sem, c0, c1, c2]) rfl ⟨_, rfl, ⟨_, _, rfl, ?_, ?_⟩, hw0.but hkb (by have := HBE.out; omega)⟩
    · rw [hg1, Nat.div_one]; exact hn1.keptB hkb hb0.noWords
    · rw [hg1, Nat.div_one]; exact hd1.keptB hkb hb0.noWords
  · have tst : ((t2 : Int) != (b : Int) - 1) = true := by simp; omega
    have hgc := gcd_calls hn1 hd1 hm hk
    rw [Nat.gcd_comm] at hgc
    go_wp2_with fail
    refine hgc.mono ?_
    rintro e w3 ⟨vg, rfl, hvg, hk3⟩
    have hone := one_calls hvg
    have hBlk3 := hb0.kept hk3
    by_cases hg1 : Nat.gcd m k = 1
    · have hone' : Calls Tryz.prog 222 #[vg] w3 fun e w' => e = .returned (.bool true) ∧ w3 = w' := hone.mono fun e w' ⟨h1, h2⟩ => ⟨by rw [h1]; simp [hg1], h2⟩
      obtain ⟨c0, c1, c2, f0, f1, f2⟩ := hBlk3.facts
      have hn3 := hn1.kept hk3
      have hd3 := hd1.kept hk3
      obtain ⟨an, nn, capn, rfl⟩ := hn1.shape
      obtain ⟨ad, nd, capd, rfl⟩ := hd1.shape
      have hkb := KeptB.store3 w3 b0 (.bool neg) (.slice an nn capn) (.slice ad nd capd)
      go_wp2_with (go_at_call 222; refine hone'.mono ?_; rintro e w' ⟨rfl, rfl⟩)
      refine bodyPost_ret (v := .agg #[.bool neg, .slice an nn capn, .slice ad nd capd]) (by simp [results, Tryz.results187, go_sem, c0, c1, c2]) rfl ⟨_, rfl, ⟨_, _, rfl, ?_, ?_⟩, (hw0.trans hk3).but hkb (by have := HBE.out; omega)⟩
      · rw [hg1, Nat.div_one]; exact hn3.keptB hkb hBlk3.noWords
      · rw [hg1, Nat.div_one]; exact hd3.keptB hkb hBlk3.noWords
    · have hone' : Calls Tryz.prog 222 #[vg] w3 fun e w' => e = .returned (.bool false) ∧ w3 = w' := hone.mono fun e w' ⟨h1, h2⟩ => ⟨by rw [h1]; simp [hg1], h2⟩
      have hgB : Nat.gcd m k < Big := Nat.lt_of_le_of_lt (Nat.gcd_le_left _ hm0) hm
      have hdq1 := div_calls (hn1.kept hk3) hvg hm hgB hgp
      go_wp2_with (go_at_call 222; refine hone'.mono ?_; rintro e w' ⟨rfl, rfl⟩)
      refine hdq1.mono ?_
      rintro e w4 ⟨vq, vr, rfl, hvq, _, hk4⟩
      have hdq2 := div_calls ((hd1.kept hk3).kept hk4) (hvg.kept hk4) hk hgB hgp
      go_wp2_with fail
      refine hdq2.mono ?_
      rintro e w5 ⟨vq2, vr2, rfl, hvq2, _, hk5⟩
      have hBlk5 := (hBlk3.kept hk4).kept hk5
      obtain ⟨c0, c1, c2, f0, f1, f2⟩ := hBlk5.facts
      have hn5 := hvq.kept hk5
      obtain ⟨an, nn, capn, rfl⟩ := hvq.shape
      obtain ⟨ad, nd, capd, rfl⟩ := hvq2.shape
      have hkb := KeptB.store3 w5 b0 (.bool neg) (.slice an nn capn) (.slice ad nd capd)
      go_wp2
      refine bodyPost_ret (v := .agg #[.bool neg, .slice an nn capn, .slice ad nd capd]) (by simp [results, Tryz.results187, go_sem, c0, c1, c2]) rfl ⟨_, rfl, ⟨_, _, rfl, ?_, ?_⟩, (((hw0.trans hk3).trans hk4).trans hk5).but hkb (by have := HBE.out; omega)⟩
      · exact hn5.keptB hkb hBlk5.noWords
      · exact hvq2.keptB hkb hBlk5.noWords

set_option maxHeartbeats 4000000 in
set_option maxRecDepth 100000 in
theorem reduce_shift {w : World} {vn vd : Value} {m k : Nat} (neg : Bool) (hn : Nt 4294967296 w vn m) (hd : Nt 4294967296 w vd k) (hm : m < Big) (hk : k < Big) (hm0 : 0 < m) (hk0 : 0 < k) (hT : Laid w)
    (ht : 0 < v2 m ∧ 0 < v2 k) (ht5 : v2 m ≤ 100000 ∧ v2 k ≤ 100000) :
    Calls Tryz.prog 187 #[.bool neg, vn, vd] w (RetFr neg (m / Nat.gcd m k) (k / Nat.gcd m k) w) := by
  have hb0 := Blk3.new w (.bool false) (.slice none 0 0) (.slice none 0 0) 217
  have hw0 : Kept w (w.alloc (.cells #[.bool false, .slice none 0 0, .slice none 0 0] 217)) := (Kept.refl _).alloc _
  have hn1 := hn.kept hw0
  have hd1 := hd.kept hw0
  have hT1 := hT.kept hw0
  clear hn hd hT
  go_enter Tryz.func187, Tryz.ntmps187
  go_wp2_with fail
  generalize w.alloc (.cells #[.bool false, .slice none 0 0, .slice none 0 0] 217) = w1 at *
  generalize hbE : w.heap.size = b0 at hb0 ⊢
  have HBE := Lib.hid hbE; clear hbE
  refine (zero_false hn1 hm0).mono ?_
  rintro e w' ⟨rfl, rfl⟩
  have htn := twos_calls hn1 hm hm0 hT1
  have htd := twos_calls hd1 hk hk0 hT1
  obtain ⟨t1, ht1⟩ : ∃ t, v2 m = t := ⟨_, rfl⟩
  obtain ⟨t2, ht2⟩ : ∃ t, v2 k = t := ⟨_, rfl⟩
  rw [ht1] at htn ht ht5
  rw [ht2] at htd ht ht5
  obtain ⟨t, htE⟩ : ∃ t, t = min t1 t2 := ⟨_, rfl⟩
  have ht0 : 0 < t := by omega
  have htle1 : t ≤ t1 := by omega
  have htle2 : t ≤ t2 := by omega
  have hteq : t = t1 ∨ t = t2 := by omega
  have hmin : min (t1 : Int) (t2 : Int) = (t : Int) := by omega
  have hdm : 2 ^ t ∣ m := v2_dvd hm0 (by rw [ht1]; exact htle1)
  have hdk : 2 ^ t ∣ k := v2_dvd hk0 (by rw [ht2]; exact htle2)
  have hpt : 0 < 2 ^ t := Nat.pow_pos (by decide)
  have hm0' : 0 < m / 2 ^ t := Nat.div_pos (Nat.le_of_dvd hm0 hdm) hpt
  have hk0' : 0 < k / 2 ^ t := Nat.div_pos (Nat.le_of_dvd hk0 hdk) hpt
  have hmB : m / 2 ^ t < Big := Nat.lt_of_le_of_lt (Nat.div_le_self _ _) hm
  have hkB : k / 2 ^ t < Big := Nat.lt_of_le_of_lt (Nat.div_le_self _ _) hk
  have HV1 : Hid (v2 (m / 2 ^ t) = t1 - t) := Lib.hid (by rw [v2_div hm0 (by rw [ht1]; exact htle1), ht1])
  have HV2 : Hid (v2 (k / 2 ^ t) = t2 - t) := Lib.hid (by rw [v2_div hk0 (by rw [ht2]; exact htle2), ht2])
  have HQN : Hid (m / Nat.gcd m k = m / 2 ^ t / Nat.gcd (m / 2 ^ t) (k / 2 ^ t)) := Lib.hid (by rw [gcd_pow2 hdm hdk, reduce_div hdm (Nat.dvd_gcd hdm hdk)])
  have HQD : Hid (k / Nat.gcd m k = k / 2 ^ t / Nat.gcd (m / 2 ^ t) (k / 2 ^ t)) := Lib.hid (by rw [gcd_pow2 hdm hdk, reduce_div hdk (Nat.dvd_gcd hdm hdk)])
  have hoddm := Lib.hid (v2_zero_odd hm0')
  have hsh1 := shr_calls hn1 hm (show t ≤ 100000 by omega)
  have hsh2 := fun (w' : World) (kk : Kept w1 w') => shr_calls (hd1.kept kk) hk (show t ≤ 100000 by omega)
  have HTE := Lib.hid htE; clear htE ht1 ht2 hdm hdk hpt
  go_wp2_with fail
  refine htn.mono ?_
  rintro e w' ⟨rfl, rfl⟩
  go_wp2_with fail
  refine htd.mono ?_
  rintro e w' ⟨rfl, rfl⟩
  clear htn htd
  go_wp2_with fail
  clear hmin
  generalize m / 2 ^ t = m' at *
  generalize k / 2 ^ t = k' at *
  refine hsh1.mono ?_
  rintro e w6 ⟨vn', rfl, hn6, hk6⟩
  go_wp2_with fail
  refine (hsh2 _ hk6).mono ?_
  rintro e w7 ⟨vd', rfl, hd7, hk7⟩
  have hn7 := hn6.kept hk7
  have hT7 := (hT1.kept hk6).kept hk7
  have hb7 := (hb0.kept hk6).kept hk7
  have hw7 := (hw0.trans hk6).trans hk7
  have htd7 := twos_calls hd7 hkB hk0' hT7
  rw [HV2.out] at htd7
  clear hsh1 hsh2 hn6
  obtain ⟨t3, ht3⟩ : ∃ t3, t3 = t2 - t := ⟨_, rfl⟩
  rw [← ht3] at htd7
  have HT3 := Lib.hid ht3; clear ht3
  go_wp2_with fail

  have hbits := bits_calls hd7 hkB hk0'
  refine (htd7).mono ?_
  rintro e w' ⟨rfl, rfl⟩
  go_wp2_with fail
  refine hbits.mono ?_
  rintro e w' ⟨b, rfl, rfl, hb40, hb1, hb2, hb3⟩
  have hiff := Lib.hid (pow2_iff hb1 hb2 hb3)
  have hgp : 0 < Nat.gcd m' k' := Nat.gcd_pos_of_pos_left _ hm0'
  by_cases hpw : t3 = b - 1
  · -- the denominator is a power of 2
    have hg1 : Nat.gcd m' k' = 1 := by
      have e1 := hiff.out.1 (by rw [HV2.out, ← HT3.out]; exact hpw)
      rw [e1]
      exact gcd_one_of_pow2 (by have h1 := HV1.out; have h3 := HT3.out; rcases hteq with h | h; exact .inr (hoddm.out (by omega)); exact .inl (by omega))
    have tst : ((t3 : Int) != (b : Int) - 1) = false := by simp; omega
    obtain ⟨c0, c1, c2, f0, f1, f2⟩ := hb7.facts
    obtain ⟨an, nn, capn, rfl⟩ := hn7.shape
    obtain ⟨ad, nd, capd, rfl⟩ := hd7.shape
    have hkb := KeptB.store3 w7 b0 (.bool neg) (.slice an nn capn) (.slice ad nd capd)
    go_wp2
    refine bodyPost_ret (v := .agg #[.bool neg, .slice an nn capn, .slice ad nd capd]) (by simp [results, Tryz.results187, go_sem, c0, c1, c2]) rfl ⟨_, rfl, ⟨_, _, rfl, ?_, ?_⟩, hw7.but hkb (by have := HBE.out; omega)⟩
    · rw [HQN.out, hg1, Nat.div_one]; exact hn7.keptB hkb hb7.noWords
    · rw [HQD.out, hg1, Nat.div_one]; exact hd7.keptB hkb hb7.noWords
  · have tst : ((t3 : Int) != (b : Int) - 1) = true := by simp; omega
    have hgc := gcd_calls hn7 hd7 hmB hkB
    rw [Nat.gcd_comm] at hgc
    go_wp2_with fail
    refine hgc.mono ?_
    rintro e w3 ⟨vg, rfl, hvg, hk3⟩
    have hone := one_calls hvg
    have hBlk3 := hb7.kept hk3
    by_cases hg1 : Nat.gcd m' k' = 1
    · have hone' : Calls Tryz.prog 222 #[vg] w3 fun e w' => e = .returned (.bool true) ∧ w3 = w' := hone.mono fun e w' ⟨h1, h2⟩ => ⟨by rw [h1]; simp [hg1], h2⟩
      obtain ⟨c0, c1, c2, f0, f1, f2⟩ := hBlk3.facts
      have hn3 := hn7.kept hk3
      have hd3 := hd7.kept hk3
      obtain ⟨an, nn, capn, rfl⟩ := hn7.shape
      obtain ⟨ad, nd, capd, rfl⟩ := hd7.shape
      have hkb := KeptB.store3 w3 b0 (.bool neg) (.slice an nn capn) (.slice ad nd capd)
      go_wp2_with (go_at_call 222; refine hone'.mono ?_; rintro e w' ⟨rfl, rfl⟩)
      refine bodyPost_ret (v := .agg #[.bool neg, .slice an nn capn, .slice ad nd capd]) (by simp [results, Tryz.results187, go_sem, c0, c1, c2]) rfl ⟨_, rfl, ⟨_, _, rfl, ?_, ?_⟩, (hw7.trans hk3).but hkb (by have := HBE.out; omega)⟩
      · rw [HQN.out, hg1, Nat.div_one]; exact hn3.keptB hkb hBlk3.noWords
      · rw [HQD.out, hg1, Nat.div_one]; exact hd3.keptB hkb hBlk3.noWords
    · have hone' : Calls Tryz.prog 222 #[vg] w3 fun e w' => e = .returned (.bool false) ∧ w3 = w' := hone.mono fun e w' ⟨h1, h2⟩ => ⟨by rw [h1]; simp [hg1], h2⟩
      have hgB : Nat.gcd m' k' < Big := Nat.lt_of_le_of_lt (Nat.gcd_le_left _ hm0') hmB
      have hdq1 := div_calls (hn7.kept hk3) hvg hmB hgB hgp
      go_wp2_with (go_at_call 222; refine hone'.mono ?_; rintro e w' ⟨rfl, rfl⟩)
      refine hdq1.mono ?_
      rintro e w4 ⟨vq, vr, rfl, hvq, _, hk4⟩
      have hdq2 := div_calls ((hd7.kept hk3).kept hk4) (hvg.kept hk4) hkB hgB hgp
      go_wp2_with fail
      refine hdq2.mono ?_
      rintro e w5 ⟨vq2, vr2, rfl, hvq2, _, hk5⟩
      have hBlk5 := (hBlk3.kept hk4).kept hk5
      obtain ⟨c0, c1, c2, f0, f1, f2⟩ := hBlk5.facts
      have hn5 := hvq.kept hk5
      obtain ⟨an, nn, capn, rfl⟩ := hvq.shape
      obtain ⟨ad, nd, capd, rfl⟩ := hvq2.shape
      have hkb := KeptB.store3 w5 b0 (.bool neg) (.slice an nn capn) (.slice ad nd capd)
      go_wp2
      refine bodyPost_ret (v := .agg #[.bool neg, .slice an nn capn, .slice ad nd capd]) (by simp [results, Tryz.results187, go_sem, c0, c1, c2]) rfl ⟨_, rfl, ⟨_, _, rfl, ?_, ?_⟩, (((hw7.trans hk3).trans hk4).trans hk5).but hkb (by have := HBE.out; omega)⟩
      · rw [HQN.out]; exact hn5.keptB hkb hBlk5.noWords
      · rw [HQD.out]; exact hvq2.keptB hkb hBlk5.noWords

theorem reduce_calls {w : World} {vn vd : Value} {m k : Nat} (neg : Bool) (hn : Nt 4294967296 w vn m) (hd : Nt 4294967296 w vd k) (hm : m < Big) (hk : k < Big) (hk0 : 0 < k) (hT : Laid w) :
    Calls Tryz.prog 187 #[.bool neg, vn, vd] w (RetFr (neg && decide (0 < m)) (m / Nat.gcd m k) (k / Nat.gcd m k) w) := by
  by_cases hm0 : m = 0
  · subst hm0
    rw [Nat.gcd_zero_left, Nat.zero_div, Nat.div_self hk0]
    simpa using reduce_zero neg hn
  · have hp : decide (0 < m) = true := by simp; omega
    rw [hp, Bool.and_true]
    have hbd : ∀ x, 0 < x → x < Big → v2 x ≤ 100000 := fun x h0 hx => by
      have h1 := v2_le h0
      have h2 : 2 ^ v2 x < pwr 2 16384 := Nat.lt_of_le_of_lt h1 hx
      have := pwr_lt h2
      omega
    by_cases h : 0 < v2 m ∧ 0 < v2 k
    · exact reduce_shift neg hn hd hm hk (by omega) hk0 hT h ⟨hbd m (by omega) hm, hbd k hk0 hk⟩
    · exact reduce_same neg hn hd hm hk (by omega) hk0 hT (by omega)
end Go.Proofs.YtbapfnpbamnmpaaGreatDoor
end
