/- A part of the proof that ClaimFree answers true for every input of bulk at most 1048576: conditions: the row's own. -/
import Derived.Test.YtbapfnpbamnmpaaGreatDoorWf
section
namespace Go.Proofs.YtbapfnpbamnmpaaGreatDoor
open Go Go.RowKit Go.Dig
open Go.Eng (Kept KW KeptB wp_region_kw kw_call)

set_option maxHeartbeats 4000000 in
set_option maxRecDepth 100000 in
theorem read_pos {w : World} {v : Value} {neg : Bool} {N D : Nat} (h : Rt w v neg N D) (hN : N < pwr 2 8192) (hD : D < pwr 2 8192) (hD0 : 0 < D) (hT : Laid w) :
    Calls Tryz.prog 155 #[v] w (RetRead neg N D w) := by
  have hsm : small N D = (fits32 (rN N D) && fits32 (rD N D)) := by unfold small; simp [hN, hD]
  have HSM := Lib.hid hsm; clear hsm
  have h8 : pwr 2 8192 ≤ Big := pwr_le 8192 16384 (by decide)
  have hNB : N < Big := Nat.lt_of_lt_of_le hN h8
  have hDB : dn D < Big := by
    unfold dn; split
    · exact Nat.lt_of_lt_of_le (pwr_one 8192 (by decide)) h8
    · exact Nat.lt_of_lt_of_le hD h8
  obtain ⟨vn, vd, rfl, hn, hd⟩ := h
  obtain ⟨a, n, cap, xs, rfl, hc1, hn1, hxl, rfl, hxw⟩ := hn
  obtain ⟨a', n', cap', ys, rfl, hc2, hn2, hyl, rfl, hyw⟩ := hd
  have ht1 : trimN xs n ≤ 256 := by rw [trim_len_iff hxl, p8192]; exact hN
  have ht2 : trimN ys n' ≤ 256 := by rw [trim_len_iff hyl, p8192]; exact hD
  have hNn : Nt 4294967296 w (.slice a (trimN xs n) cap) (val 4294967296 xs n) := nt_of hc1 hxl hxw
  have hNd : Nt 4294967296 w (.slice a' (trimN ys n') cap') (val 4294967296 ys n') := nt_of hc2 hyl hyw
  have hb1 := Blk3.new w (.bool neg) (.slice a n cap) (.slice a' n' cap') 24
  have hb2 := Blk3.new (w.alloc (.cells #[.bool neg, .slice a n cap, .slice a' n' cap'] 24)) (.bool false) (.slice none 0 0) (.slice none 0 0) 217
  have hk1 : Kept w ((w.alloc (.cells #[.bool neg, .slice a n cap, .slice a' n' cap'] 24)).alloc (.cells #[.bool false, .slice none 0 0, .slice none 0 0] 217)) := ((Kept.refl _).alloc _).alloc _
  have hb1' := hb1.kept ((Kept.refl _).alloc (.cells #[.bool false, .slice none 0 0, .slice none 0 0] 217))
  clear hb1
  have esz : (w.alloc (.cells #[.bool neg, .slice a n cap, .slice a' n' cap'] 24)).heap.size = w.heap.size + 1 := by simp [go_sem]
  rw [esz] at hb2
  clear esz
  have ho1 := fun (w' : World) (k : Kept w w') => of_raw hc1 hn1 (hxw.kept k)
  have ho2 := fun (w' : World) (k : Kept w w') => of_raw hc2 hn2 (hyw.kept k)
  generalize hE1 : val 4294967296 xs n = N at *
  generalize hE2 : val 4294967296 ys n' = D at *
  clear hxl hyl hxw hyw hE1 hE2
  have t1 : decide (256 < (trimN xs n : Int)) = false := by simp; omega
  have t2 : decide (256 < (trimN ys n' : Int)) = false := by simp; omega
  generalize trimN xs n = tn at *
  generalize trimN ys n' = td at *
  go_enter Tryz.func155, Tryz.ntmps155
  go_wp2_with fail
  generalize (w.alloc (.cells #[.bool neg, .slice a n cap, .slice a' n' cap'] 24)).alloc (.cells #[.bool false, .slice none 0 0, .slice none 0 0] 217) = w1 at *
  generalize hbE : w.heap.size = b0 at hb2 hb1' ⊢
  have HBE := Lib.hid hbE; clear hbE
  obtain ⟨p0, p1, p2⟩ := hb1'.all
  refine wp_region_kw w1 (Kept.refl _) (by kernel_rfl) (by kernel_rfl) ?_
  repeat (go_big_quiet_step (first | (go_at_call_of 248 (Value.slice a n cap); exact kw_call (ho1 _ (hk1.trans (KW.kept _)))) | (go_at_call 248; exact kw_call (ho2 _ (hk1.trans (KW.kept _))))))
  refine wpQuiet_nil ?_
  rintro _ ⟨k2, rfl⟩
  clear p0 p1 p2 ho1 ho2
  have hk2 := k2.kept
  generalize k2.w = w2 at *
  have hkw2 := hk1.trans hk2
  have hN2 := hNn.kept hkw2
  have hD2 := hNd.kept hkw2
  obtain ⟨c0, _, _, _, _, _⟩ := (hb1'.kept hk2).facts
  have hzf := zero_false hD2 hD0
  have edn : dn D = D := by unfold dn; rw [if_neg (by omega)]
  rw [← edn] at hD2
  have HEDN := Lib.hid edn; clear edn
  go_wp2_with (go_at_call 192; refine hzf.mono ?_; rintro e w' ⟨rfl, rfl⟩)
  have hred := reduce_calls neg hN2 hD2 hNB hDB (by rw [HEDN.out]; exact hD0) (hT.kept hkw2)
  go_wp2_with fail
  refine hred.mono ?_
  rintro e w4 ⟨vf, rfl, hfr, hk4⟩
  have hfr0 := hfr
  obtain ⟨xn, xd, rfl, hxn, hxd⟩ := hfr
  obtain ⟨an, nn, cn, rfl⟩ := hxn.shape
  obtain ⟨ad, nd, cd, rfl⟩ := hxd.shape
  have hkw4 := hkw2.trans hk4
  have hbR := (hb2.kept hk2).kept hk4
  go_wp2_with fail
  have hbF := Blk3.new w4 (.bool (neg && decide (0 < N))) (.slice an nn cn) (.slice ad nd cd) 217
  have hkF : Kept w4 (w4.alloc (.cells #[.bool (neg && decide (0 < N)), .slice an nn cn, .slice ad nd cd] 217)) := (Kept.refl _).alloc _
  have hneb : b0 + 1 ≠ w4.heap.size := Nat.ne_of_lt (Array.getElem?_eq_some_iff.1 hbR).1
  have hbR1 := hbR.kept hkF
  have hfr1 := hfr0.kept hkF
  have hkw5 := hkw4.trans hkF
  generalize w4.alloc (.cells #[.bool (neg && decide (0 < N)), .slice an nn cn, .slice ad nd cd] 217) = W5 at *
  generalize w4.heap.size = bf at *
  have hall : ∀ w', Kept W5 w' → w'.cell? ⟨bf, 0, none⟩ = some (.bool (neg && decide (0 < N))) ∧ w'.cell? ⟨bf, 1, none⟩ = some (.slice an nn cn) ∧ w'.cell? ⟨bf, 2, none⟩ = some (.slice ad nd cd) :=
    fun w' k => ⟨(hbF.kept k).facts.1, (hbF.kept k).facts.2.1, (hbF.kept k).facts.2.2.1⟩
  have HALL := Lib.hid hall; clear hall
  generalize hpE : (neg && decide (0 < N)) = p at *
  have HPE := Lib.hid hpE; clear hpE
  go_region_held3 (fun w' => w'.cell? ⟨bf, 0, none⟩ = some (.bool p) ∧ w'.cell? ⟨bf, 1, none⟩ = some (.slice an nn cn) ∧ w'.cell? ⟨bf, 2, none⟩ = some (.slice ad nd cd))
    (first | exact HALL.out _ (Kept.refl _).drew | exact HALL.out _ ‹Kept W5 _› | go_keep)
    (first | (go_at_call 249; refine (fits_calls (hfr1.kept (Kept.refl W5).drew)).mono ?_; rintro e w6 ⟨rfl, hk6⟩; have hS6 : Kept W5 w6 := (Kept.refl W5).drew.trans hk6; obtain ⟨d0, d1, d2, g0, g1, g2⟩ := (hbR1.kept hS6).facts))
  have hkb := KeptB.store3 w6 (b0 + 1) (.bool p) (.slice an nn cn) (.slice ad nd cd)
  have hfrE := hfr1.kept hS6
  go_wp2
  refine bodyPost_ret (v := .tuple #[.agg #[.bool p, .slice an nn cn, .slice ad nd cd], .bool (small N D)]) (by rw [HSM.out]; simp [results, Tryz.results155, go_sem, d0, d1, d2, rN, rD]) rfl ⟨p, an, nn, cn, ad, nd, cd, rfl, (hkw5.trans hS6).but hkb (by have := HBE.out; omega), fun _ => ?_⟩
  rw [HPE.out]
  obtain ⟨yn, yd, ye, hyn, hyd⟩ := hfrE
  cases ye
  exact ⟨_, _, rfl, hyn.keptB hkb (hbR1.kept hS6).noWords, hyd.keptB hkb (hbR1.kept hS6).noWords⟩

set_option maxHeartbeats 4000000 in
set_option maxRecDepth 100000 in
theorem read_zero {w : World} {v : Value} {neg : Bool} {N D : Nat} (h : Rt w v neg N D) (hN : N < pwr 2 8192) (hD : D < pwr 2 8192) (hD0 : D = 0) (hT : Laid w) :
    Calls Tryz.prog 155 #[v] w (RetRead neg N D w) := by
  have hsm : small N D = (fits32 (rN N D) && fits32 (rD N D)) := by unfold small; simp [hN, hD]
  have HSM := Lib.hid hsm; clear hsm
  have HD0 := Lib.hid hD0; clear hD0
  have h8 : pwr 2 8192 ≤ Big := pwr_le 8192 16384 (by decide)
  have hNB : N < Big := Nat.lt_of_lt_of_le hN h8
  have hDB : dn D < Big := by
    unfold dn; split
    · exact Nat.lt_of_lt_of_le (pwr_one 8192 (by decide)) h8
    · exact Nat.lt_of_lt_of_le hD h8
  obtain ⟨vn, vd, rfl, hn, hd⟩ := h
  obtain ⟨a, n, cap, xs, rfl, hc1, hn1, hxl, rfl, hxw⟩ := hn
  obtain ⟨a', n', cap', ys, rfl, hc2, hn2, hyl, rfl, hyw⟩ := hd
  have ht1 : trimN xs n ≤ 256 := by rw [trim_len_iff hxl, p8192]; exact hN
  have ht2 : trimN ys n' ≤ 256 := by rw [trim_len_iff hyl, p8192]; exact hD
  have hNn : Nt 4294967296 w (.slice a (trimN xs n) cap) (val 4294967296 xs n) := nt_of hc1 hxl hxw
  have hNd : Nt 4294967296 w (.slice a' (trimN ys n') cap') (val 4294967296 ys n') := nt_of hc2 hyl hyw
  have hb1 := Blk3.new w (.bool neg) (.slice a n cap) (.slice a' n' cap') 24
  have hb2 := Blk3.new (w.alloc (.cells #[.bool neg, .slice a n cap, .slice a' n' cap'] 24)) (.bool false) (.slice none 0 0) (.slice none 0 0) 217
  have hk1 : Kept w ((w.alloc (.cells #[.bool neg, .slice a n cap, .slice a' n' cap'] 24)).alloc (.cells #[.bool false, .slice none 0 0, .slice none 0 0] 217)) := ((Kept.refl _).alloc _).alloc _
  have hb1' := hb1.kept ((Kept.refl _).alloc (.cells #[.bool false, .slice none 0 0, .slice none 0 0] 217))
  clear hb1
  have esz : (w.alloc (.cells #[.bool neg, .slice a n cap, .slice a' n' cap'] 24)).heap.size = w.heap.size + 1 := by simp [go_sem]
  rw [esz] at hb2
  clear esz
  have ho1 := fun (w' : World) (k : Kept w w') => of_raw hc1 hn1 (hxw.kept k)
  have ho2 := fun (w' : World) (k : Kept w w') => of_raw hc2 hn2 (hyw.kept k)
  generalize hE1 : val 4294967296 xs n = N at *
  generalize hE2 : val 4294967296 ys n' = D at *
  clear hxl hyl hxw hyw hE1 hE2
  have t1 : decide (256 < (trimN xs n : Int)) = false := by simp; omega
  have t2 : decide (256 < (trimN ys n' : Int)) = false := by simp; omega
  generalize trimN xs n = tn at *
  generalize trimN ys n' = td at *
  go_enter Tryz.func155, Tryz.ntmps155
  go_wp2_with fail
  generalize (w.alloc (.cells #[.bool neg, .slice a n cap, .slice a' n' cap'] 24)).alloc (.cells #[.bool false, .slice none 0 0, .slice none 0 0] 217) = w1 at *
  generalize hbE : w.heap.size = b0 at hb2 hb1' ⊢
  have HBE := Lib.hid hbE; clear hbE
  obtain ⟨p0, p1, p2⟩ := hb1'.all
  refine wp_region_kw w1 (Kept.refl _) (by kernel_rfl) (by kernel_rfl) ?_
  repeat (go_big_quiet_step (first | (go_at_call_of 248 (Value.slice a n cap); exact kw_call (ho1 _ (hk1.trans (KW.kept _)))) | (go_at_call 248; exact kw_call (ho2 _ (hk1.trans (KW.kept _))))))
  refine wpQuiet_nil ?_
  rintro _ ⟨k2, rfl⟩
  clear p0 p1 p2 ho1 ho2
  have hk2 := k2.kept
  generalize k2.w = w2 at *
  have hkw2 := hk1.trans hk2
  have hN2 := hNn.kept hkw2
  have hD2 := hNd.kept hkw2
  obtain ⟨c0, _, _, _, _, _⟩ := (hb1'.kept hk2).facts
  have hD2z : Nt 4294967296 w2 (.slice a' td cap') 0 := by rw [← HD0.out]; exact hD2
  have hzt := zero_true hD2z
  have hsm1 := small_calls w2 1 (by decide)
  go_wp2_with (first | (go_at_call 192; refine hzt.mono ?_; rintro e w' ⟨rfl, rfl⟩) | (go_at_call 189; refine hsm1.mono ?_; rintro e w3 ⟨v3, rfl, hv3, hk3⟩; have c0' := hk3.cell c0))
  have hkw3 := hkw2.trans hk3
  have hk23 := hk2.trans hk3
  have hN3 := hN2.kept hk3
  have edn : dn D = 1 := by unfold dn; rw [if_pos HD0.out]
  rw [← edn] at hv3
  have HEDN := Lib.hid edn; clear edn
  have hred := reduce_calls neg hN3 hv3 hNB hDB (by rw [HEDN.out]; exact Nat.one_pos) (hT.kept hkw3)
  go_wp2_with fail
  refine hred.mono ?_
  rintro e w4 ⟨vf, rfl, hfr, hk4⟩
  have hfr0 := hfr
  obtain ⟨xn, xd, rfl, hxn, hxd⟩ := hfr
  obtain ⟨an, nn, cn, rfl⟩ := hxn.shape
  obtain ⟨ad, nd, cd, rfl⟩ := hxd.shape
  have hkw4 := hkw3.trans hk4
  have hbR := (hb2.kept hk23).kept hk4
  go_wp2_with fail
  have hbF := Blk3.new w4 (.bool (neg && decide (0 < N))) (.slice an nn cn) (.slice ad nd cd) 217
  have hkF : Kept w4 (w4.alloc (.cells #[.bool (neg && decide (0 < N)), .slice an nn cn, .slice ad nd cd] 217)) := (Kept.refl _).alloc _
  have hneb : b0 + 1 ≠ w4.heap.size := Nat.ne_of_lt (Array.getElem?_eq_some_iff.1 hbR).1
  have hbR1 := hbR.kept hkF
  have hfr1 := hfr0.kept hkF
  have hkw5 := hkw4.trans hkF
  generalize w4.alloc (.cells #[.bool (neg && decide (0 < N)), .slice an nn cn, .slice ad nd cd] 217) = W5 at *
  generalize w4.heap.size = bf at *
  have hall : ∀ w', Kept W5 w' → w'.cell? ⟨bf, 0, none⟩ = some (.bool (neg && decide (0 < N))) ∧ w'.cell? ⟨bf, 1, none⟩ = some (.slice an nn cn) ∧ w'.cell? ⟨bf, 2, none⟩ = some (.slice ad nd cd) :=
    fun w' k => ⟨(hbF.kept k).facts.1, (hbF.kept k).facts.2.1, (hbF.kept k).facts.2.2.1⟩
  have HALL := Lib.hid hall; clear hall
  generalize hpE : (neg && decide (0 < N)) = p at *
  have HPE := Lib.hid hpE; clear hpE
  go_region_held3 (fun w' => w'.cell? ⟨bf, 0, none⟩ = some (.bool p) ∧ w'.cell? ⟨bf, 1, none⟩ = some (.slice an nn cn) ∧ w'.cell? ⟨bf, 2, none⟩ = some (.slice ad nd cd))
    (first | exact HALL.out _ (Kept.refl _).drew | exact HALL.out _ ‹Kept W5 _› | go_keep)
    (first | (go_at_call 249; refine (fits_calls (hfr1.kept (Kept.refl W5).drew)).mono ?_; rintro e w6 ⟨rfl, hk6⟩; have hS6 : Kept W5 w6 := (Kept.refl W5).drew.trans hk6; obtain ⟨d0, d1, d2, g0, g1, g2⟩ := (hbR1.kept hS6).facts))
  have hkb := KeptB.store3 w6 (b0 + 1) (.bool p) (.slice an nn cn) (.slice ad nd cd)
  have hfrE := hfr1.kept hS6
  go_wp2
  refine bodyPost_ret (v := .tuple #[.agg #[.bool p, .slice an nn cn, .slice ad nd cd], .bool (small N D)]) (by rw [HSM.out]; simp [results, Tryz.results155, go_sem, d0, d1, d2, rN, rD]) rfl ⟨p, an, nn, cn, ad, nd, cd, rfl, (hkw5.trans hS6).but hkb (by have := HBE.out; omega), fun _ => ?_⟩
  rw [HPE.out]
  obtain ⟨yn, yd, ye, hyn, hyd⟩ := hfrE
  cases ye
  exact ⟨_, _, rfl, hyn.keptB hkb (hbR1.kept hS6).noWords, hyd.keptB hkb (hbR1.kept hS6).noWords⟩

theorem read_calls {w : World} {v : Value} {neg : Bool} {N D : Nat} (h : Rt w v neg N D) (hT : Laid w) : Calls Tryz.prog 155 #[v] w (RetRead neg N D w) := by
  by_cases hl : N < pwr 2 8192 ∧ D < pwr 2 8192
  · by_cases h0 : D = 0
    · exact read_zero h hl.1 hl.2 h0 hT
    · exact read_pos h hl.1 hl.2 (by omega) hT
  · exact read_large h hl
end Go.Proofs.YtbapfnpbamnmpaaGreatDoor
end
