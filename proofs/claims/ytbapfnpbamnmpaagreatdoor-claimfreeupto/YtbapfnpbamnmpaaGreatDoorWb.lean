/- A part of the proof that ClaimFree answers true for every input of bulk at most 1048576: conditions: the row's own. -/
import Derived.Test.YtbapfnpbamnmpaaGreatDoorWa
import Derived.Laws.BitsAllLaws
section
/- Plain arithmetic: shifts. -/
namespace Go.Dig

theorem pow32 (k : Nat) : (4294967296 : Nat) ^ k = 2 ^ (32 * k) := by rw [Nat.pow_mul]
theorem pow_cut {r : Nat} (h : r ≤ 32) : 2 ^ r * 2 ^ (32 - r) = 4294967296 := by rw [← Nat.pow_add, Nat.add_sub_cancel' h]

/-- the loop of a shift to the left -/
structure ShlI (xs : Nat → Nat) (wd r k : Nat) (zs : Nat → Nat) : Prop where
  lt : ∀ j, zs j < 4294967296
  top : zs (wd + k) < 2 ^ r
  zero : ∀ j, wd + k < j → zs j = 0
  eq : val 4294967296 zs (wd + k + 1) = val 4294967296 xs k * 2 ^ (32 * wd + r)
theorem ShlI.start {xs : Nat → Nat} {wd r : Nat} : ShlI xs wd r 0 (fun _ => 0) :=
  ⟨fun _ => by decide, Nat.pow_pos (by decide), fun _ _ => rfl, by rw [val_zeros _ _ _ (fun _ _ => rfl)]; simp [val]⟩
theorem shl_bound {x r : Nat} (hx : x < 4294967296) (hr : r < 32) : x * 2 ^ r < 18446744073709551616 := by
  have h1 : 2 ^ r ≤ 2 ^ 31 := Nat.pow_le_pow_right (by decide) (by omega)
  have h2 : x * 2 ^ r ≤ 4294967295 * 2 ^ 31 := Nat.mul_le_mul (by omega) h1
  have h3 : 4294967295 * 2 ^ 31 < 18446744073709551616 := by decide
  omega
theorem shl_hi {x r : Nat} (hx : x < 4294967296) : x * 2 ^ r / 4294967296 < 2 ^ r := by
  refine Nat.div_lt_of_lt_mul ?_
  exact Nat.mul_lt_mul_of_pos_right hx (Nat.pow_pos (by decide))
theorem shl_or {z t r : Nat} (hz : z < 2 ^ r) (hr : r < 32) (ht : t % 2 ^ r = 0) : z ||| t % 4294967296 = z + t % 4294967296 ∧ z + t % 4294967296 < 4294967296 := by
  have hp := pow_cut (Nat.le_of_lt hr)
  have hm : t % 4294967296 % 2 ^ r = 0 := by
    rw [Nat.mod_mod_of_dvd _ ⟨_, hp.symm⟩]; exact ht
  refine ⟨?_, ?_⟩
  · rw [Nat.or_comm, nat_join r _ _ hm hz, Nat.add_comm]
  · have hl : t % 4294967296 < 4294967296 := Nat.mod_lt _ (by decide)
    generalize t % 4294967296 = l at *
    obtain ⟨q, rfl⟩ : ∃ q, l = 2 ^ r * q := ⟨l / 2 ^ r, by have := Nat.mod_add_div l (2 ^ r); omega⟩
    rw [← hp] at hl ⊢
    have hq : q < 2 ^ (32 - r) := Nat.lt_of_mul_lt_mul_left hl
    have : 2 ^ r * (q + 1) ≤ 2 ^ r * 2 ^ (32 - r) := Nat.mul_le_mul_left _ hq
    rw [Nat.mul_add] at this
    omega
theorem ShlI.step {xs zs : Nat → Nat} {wd r k : Nat} (h : ShlI xs wd r k zs) (hx : xs k < 4294967296) (hr : r < 32) :
    ShlI xs wd r (k + 1) (upd (upd zs (wd + k) (zs (wd + k) ||| xs k * 2 ^ r % 4294967296)) (wd + k + 1) (xs k * 2 ^ r / 4294967296)) := by
  have ho := shl_or h.top hr (Nat.mul_mod_left (xs k) (2 ^ r))
  have hh := shl_hi (r := r) hx
  refine ⟨fun j => ?_, ?_, fun j hj => ?_, ?_⟩
  · unfold upd
    split
    · have : 2 ^ r ≤ 2 ^ 32 := Nat.pow_le_pow_right (by decide) (by omega)
      have h3 : (2 : Nat) ^ 32 = 4294967296 := by decide
      omega
    · split
      · rw [ho.1]; exact ho.2
      · exact h.lt j
  · rw [show wd + (k + 1) = wd + k + 1 by omega, upd_same]; exact hh
  · rw [upd_other _ (by omega), upd_other _ (by omega)]; exact h.zero j (by omega)
  · have e := h.eq
    rw [show wd + (k + 1) + 1 = (wd + k + 1) + 1 by omega, val_upd_top, val_upd_top, ho.1]
    simp only [val] at e ⊢
    rw [Nat.add_mul (val 4294967296 xs k), ← e]
    have hd := Nat.mod_add_div (xs k * 2 ^ r) 4294967296
    have hp : xs k * 4294967296 ^ k * 2 ^ (32 * wd + r) = (xs k * 2 ^ r) * 4294967296 ^ (wd + k) := by
      rw [Nat.pow_add 2, ← pow32, Nat.pow_add]; grind
    rw [hp]
    generalize xs k * 2 ^ r = t at *
    rw [Nat.pow_succ]
    generalize (4294967296 : Nat) ^ (wd + k) = P at *
    generalize val 4294967296 zs (wd + k) = V at *
    generalize zs (wd + k) = z at *
    generalize t % 4294967296 = l at *
    generalize t / 4294967296 = d at *
    subst hd
    grind

/-- a digit of a shift to the right -/
def shrD (x y r : Nat) : Nat := (x + y * 4294967296) / 2 ^ r % 4294967296
theorem shrD_eq {x y r : Nat} (hx : x < 4294967296) (hr : r < 32) : shrD x y r * 2 ^ r + x % 2 ^ r = x + y % 2 ^ r * 4294967296 := by
  unfold shrD
  have hp := pow_cut (Nat.le_of_lt hr)
  have hpos : 0 < 2 ^ r := Nat.pow_pos (by decide)
  have hpos' : 0 < 2 ^ (32 - r) := Nat.pow_pos (by decide)
  generalize 2 ^ r = R at *
  generalize 2 ^ (32 - r) = S at *
  have hx1 := Nat.mod_add_div x R
  have hxd : x / R < S := Nat.div_lt_of_lt_mul (by rw [hp]; exact hx)
  have e1 : (x + y * 4294967296) / R = x / R + y * S := by
    rw [show y * 4294967296 = (y * S) * R by rw [← hp]; grind, Nat.add_mul_div_right _ _ hpos]
  rw [e1]
  have hy1 := Nat.mod_add_div y R
  have e2 : (x / R + y * S) % 4294967296 = x / R + y % R * S := by
    have hlt : x / R + y % R * S < 4294967296 := by
      have : y % R < R := Nat.mod_lt _ hpos
      have : (y % R + 1) * S ≤ R * S := Nat.mul_le_mul_right _ (by omega)
      rw [Nat.add_mul] at this
      omega
    have h2 : x / R + y * S = x / R + y % R * S + (y / R) * 4294967296 := by
      have h3 : y * S = (y % R + R * (y / R)) * S := by rw [hy1]
      rw [h3, ← hp]; grind
    rw [h2, Nat.add_mul_mod_self_right, Nat.mod_eq_of_lt hlt]
  rw [e2]
  generalize y % R = yr at *
  generalize x / R = xq at *
  generalize x % R = xr at *
  subst hx1
  rw [← hp]
  grind
theorem shr_inv {zs os : Nat → Nat} {r : Nat} (hr : r < 32) : ∀ {k : Nat}, (∀ i, i < k → zs i < 4294967296) → (∀ i, i < k → os i = shrD (zs i) (zs (i + 1)) r) →
    val 4294967296 os k * 2 ^ r + zs 0 % 2 ^ r = val 4294967296 zs k + zs k % 2 ^ r * 4294967296 ^ k
  | 0, _, _ => by simp [val]
  | k + 1, hz, ho => by
    have ih := shr_inv hr (k := k) (fun i hi => hz i (by omega)) (fun i hi => ho i (by omega))
    have e := shrD_eq (y := zs (k + 1)) (hz k (by omega)) hr
    rw [← ho k (by omega)] at e
    simp only [val]
    rw [Nat.pow_succ]
    generalize (4294967296 : Nat) ^ k = P at *
    generalize zs 0 % 2 ^ r = a at *
    generalize zs k % 2 ^ r = b at *
    generalize zs (k + 1) % 2 ^ r = c at *
    generalize 2 ^ r = R at *
    have : os k * R * P + b * P = zs k * P + c * 4294967296 * P := by rw [← Nat.add_mul, e, Nat.add_mul]
    grind
theorem shr_val {zs os : Nat → Nat} {r m : Nat} (hr : r < 32) (hz : ∀ i, i < m → zs i < 4294967296) (h0 : zs m = 0) (ho : ∀ i, i < m → os i = shrD (zs i) (zs (i + 1)) r) :
    val 4294967296 os m = val 4294967296 zs m / 2 ^ r := by
  have h := shr_inv hr hz ho
  rw [h0] at h
  have hpos : 0 < 2 ^ r := Nat.pow_pos (by decide)
  have hlt : zs 0 % 2 ^ r < 2 ^ r := Nat.mod_lt _ hpos
  simp only [Nat.zero_mod, Nat.zero_mul, Nat.add_zero] at h
  rw [← h, Nat.add_comm, Nat.add_mul_div_right _ _ hpos, Nat.div_eq_of_lt hlt, Nat.zero_add]
theorem val_split (B : Nat) (xs : Nat → Nat) (a : Nat) : ∀ m, val B xs (a + m) = val B xs a + val B (fun i => xs (a + i)) m * B ^ a
  | 0 => by simp [val]
  | m + 1 => by
    rw [show a + (m + 1) = a + m + 1 by omega]
    simp only [val]
    rw [val_split B xs a m, Nat.pow_add]
    grind
theorem val_drop {B : Nat} {xs : Nat → Nat} {a m : Nat} (hB : 0 < B) (hx : ∀ i, i < a → xs i < B) : val B (fun i => xs (a + i)) m = val B xs (a + m) / B ^ a := by
  have h := val_lt hx
  rw [val_split, Nat.add_mul_div_right _ _ (Nat.pow_pos hB), Nat.div_eq_of_lt h, Nat.zero_add]
end Go.Dig
end

section
namespace Go.Proofs.YtbapfnpbamnmpaaGreatDoor
open Go Go.RowKit Go.Dig
open Go.Eng (Kept KW)

theorem nt_zero (B : Nat) (w : World) (a : Option Addr) (cap : Nat) : Nt B w (.slice a 0 cap) 0 :=
  ⟨a, 0, cap, fun _ => 0, rfl, Nat.zero_le _, fun _ h => by omega, .inl rfl, rfl, fun _ h => by omega⟩
theorem wrap_u64_id {n : Nat} (h : n < 18446744073709551616) : IntKind.u64.wrap (n : Int) = n := by rw [IntKind.wrap_u64]; omega

/-! ### Shl -/
set_option maxHeartbeats 4000000 in
set_option maxRecDepth 100000 in
theorem shl_some (w : World) (b off cap n s : Nat) (xs : Nat → Nat) (hn : n ≤ 1024) (h0 : 0 < n) (hs : s ≤ 100000)
    (hxl : ∀ i, i < n → xs i < 4294967296)
    (hx : ∀ i, i < n → w.cell? ⟨b, off + i, none⟩ = some (.int .u32 (xs i : Nat))) :
    Calls Tryz.prog 339 #[.slice (some ⟨b, off, none⟩) n cap, .int .i64 (s : Int)] w (RetNt 4294967296 (val 4294967296 xs n * 2 ^ s) w) := by
  have hmk := fun w => run_make_row' (P := Tryz.prog) 22 191 (.int .u32 0) 4 Tryz.underlying22 info191 rfl .i64 .i64 (n + s / 32 + 1) (by omega) (by omega) w
  have ec : ((n + s / 32 + 1 : Nat) : Int) = (n : Int) + (s : Int) / 32 + 1 := by omega
  rw [ec] at hmk
  clear ec
  have HXL := Lib.hid hxl; clear hxl
  have HX := Lib.hid hx; clear hx
  have q1 : ((n : Int) == 0) = false := by simp; omega
  go_enter Tryz.func339, Tryz.ntmps339
  go_wp2
  clear hmk
  go_loopw [27] (fun i wr => ∃ (k : Nat) (zs : Nat → Nat), k ≤ n ∧ i = .int .i64 (k : Int) ∧ ShlI xs (s / 32) (s % 32) k zs ∧ Row wr w.heap.size (n + s / 32 + 1) zs ∧ Kept w wr) (fun i _ => n - (intOf i).toNat)
  case atStart => exact ⟨0, fun _ => 0, Nat.zero_le _, rfl, ShlI.start, Row.made _ _, (Kept.refl _).alloc _⟩
  case round =>
    obtain ⟨k, zs, hk, rfl, hsi, hrow, hkw⟩ := hrel
    by_cases hlt : k < n
    · have h1 := hkw.cell (HX.out k hlt)
      have hxk := HXL.out k hlt
      have h3 := hrow.cell (i := s / 32 + k) (by omega)
      have h4 := hrow.frozen (s / 32 + k)
      have h5 := (hrow.cell (i := s / 32 + k + 1) (by omega))
      have h6 := hrow.frozen (s / 32 + k + 1)
      have hzk := hsi.lt (s / 32 + k)
      have hst := Lib.hid (hsi.step hxk (Nat.mod_lt _ (by decide)))
      have hb1 := Lib.hid (shl_bound (r := s % 32) hxk (Nat.mod_lt _ (by decide)))
      clear hsi
      go_wp2
      go_roundw
      case rel =>
        refine ⟨k + 1, _, by omega, by go_num, hst.out, ?_, (hkw.setCell (Nat.le_refl _) _).setCell (Nat.le_refl _) _⟩
        have e1 : IntKind.u64.wrap ((xs k : Int) * 2 ^ (s % 32)) = ((xs k * 2 ^ (s % 32) : Nat) : Int) := by
          rw [← wrap_u64_id hb1.out]; congr 1
        have e2 : (((xs k * 2 ^ (s % 32) : Nat) : Int) % 4294967296) = ((xs k * 2 ^ (s % 32) % 4294967296 : Nat) : Int) := by omega
        have e3 : (((xs k * 2 ^ (s % 32) : Nat) : Int) / 4294967296 % 4294967296) = ((xs k * 2 ^ (s % 32) / 4294967296 : Nat) : Int) := by have := hb1.out; omega
        rw [e1, e2, e3, u32_or_nat _ _ hzk (Nat.mod_lt _ (by decide))]
        exact (hrow.set _ _).set _ _
      case measure => simp [intOf]; omega
    · obtain rfl : n = k := by omega
      go_wp2_with (go_at_call 248; refine (of_calls _ _ _ _ zs (by omega) (Nat.le_refl _) (hrow.ws (Nat.le_refl _))).mono ?_; rintro e w' ⟨rfl, rfl⟩)
      go_ret
      refine ⟨_, rfl, ?_, hkw⟩
      have := nt_of (B := 4294967296) (cap := n + s / 32 + 1) (Nat.le_refl _) (fun i _ => hsi.lt i) (hrow.ws (Nat.le_refl _))
      rw [Nat.add_comm n, hsi.eq, Nat.div_add_mod] at this
      rw [Nat.add_comm n]
      exact this
theorem shl_zero (w : World) (a : Option Addr) (cap : Nat) (v : Value) :
    Calls Tryz.prog 339 #[.slice a 0 cap, v] w (RetNt 4294967296 0 w) := by
  go_enter Tryz.func339, Tryz.ntmps339
  go_wp2
  go_ret
  exact ⟨_, rfl, nt_zero _ _ _ _, Kept.refl _⟩
theorem shl_calls {w : World} {v : Value} {m s : Nat} (hv : Nt 4294967296 w v m) (hm : m < Big) (hs : s ≤ 100000) :
    Calls Tryz.prog 339 #[v, .int .i64 (s : Int)] w (RetNt 4294967296 (m * 2 ^ s) w) := by
  obtain ⟨a, n, cap, xs, rfl, hc, hd, hn, rfl, hw⟩ := hv
  have hl := len_big (.inr rfl) hn hm
  rcases hw.open with rfl | ⟨h0, b, off, rfl, hx⟩
  · have := shl_zero w a cap (.int .i64 (s : Int))
    simpa [val] using this
  · exact shl_some w b off cap n s xs hl h0 hs hd hx

/-! ### Shr -/
theorem or_u64 {x y : Nat} (hx : x < 4294967296) (hy : y < 4294967296) : bits BinOp.or IntKind.u64 (x : Int) ((y : Int) * 4294967296) = ((x + y * 4294967296 : Nat) : Int) := by
  have h := u64_or_nat x (y * 4294967296) (by omega) (by omega)
  rw [Nat.or_comm, nat_join 32 _ _ (by simp) (by simpa using hx), Nat.add_comm] at h
  rw [← h]
  congr 1
theorem shr_cell {x y r : Nat} : (((x + y * 4294967296 : Nat) : Int) / 2 ^ r % 4294967296) = (shrD x y r : Nat) := by
  unfold shrD
  simp
theorem shrD_lt (x y r : Nat) : shrD x y r < 4294967296 := Nat.mod_lt _ (by decide)
/-- the words from wd on -/
def from' (xs : Nat → Nat) (n wd : Nat) : Nat → Nat := fun i => if wd + i < n then xs (wd + i) else 0
set_option maxHeartbeats 4000000 in
set_option maxRecDepth 100000 in
theorem shr_some (w : World) (b off cap n s : Nat) (xs : Nat → Nat) (hn : n ≤ 1024) (h0 : s / 32 < n) (hs : s ≤ 100000)
    (hxl : ∀ i, i < n → xs i < 4294967296)
    (hx : ∀ i, i < n → w.cell? ⟨b, off + i, none⟩ = some (.int .u32 (xs i : Nat))) :
    Calls Tryz.prog 274 #[.slice (some ⟨b, off, none⟩) n cap, .int .i64 (s : Int)] w (RetNt 4294967296 (val 4294967296 xs n / 2 ^ s) w) := by
  have hmk := fun w => run_make_row' (P := Tryz.prog) 22 191 (.int .u32 0) 4 Tryz.underlying22 info191 rfl .i64 .i64 (n - s / 32) (by omega) (by omega) w
  have ec : ((n - s / 32 : Nat) : Int) = (n : Int) - (s : Int) / 32 := by omega
  rw [ec] at hmk
  clear ec
  have HXL := Lib.hid hxl; clear hxl
  have HX := Lib.hid hx; clear hx
  have hge : decide ((n : Int) ≤ (s : Int) / 32) = false := by simp; omega
  go_enter Tryz.func274, Tryz.ntmps274
  go_wp2
  clear hmk
  go_loopw [26] (fun i wr => ∃ (k : Nat) (zs : Nat → Nat), k ≤ n - s / 32 ∧ i = .int .i64 (k : Int) ∧ (∀ j, zs j < 4294967296) ∧ (∀ j, j < k → zs j = shrD (from' xs n (s / 32) j) (from' xs n (s / 32) (j + 1)) (s % 32)) ∧ Row wr w.heap.size (n - s / 32) zs ∧ Kept w wr) (fun i _ => n - s / 32 - (intOf i).toNat)
  case atStart => exact ⟨0, fun _ => 0, Nat.zero_le _, rfl, fun _ => (by decide : (0 : Nat) < 4294967296), fun _ h => by omega, Row.made _ _, (Kept.refl _).alloc _⟩
  case round =>
    obtain ⟨k, zs, hk, rfl, hz1, hz2, hrow, hkw⟩ := hrel
    have HZ1 := Lib.hid hz1; clear hz1
    have HZ2 := Lib.hid hz2; clear hz2
    by_cases hlt : k < n - s / 32
    · have h1 := hkw.cell (HX.out (s / 32 + k) (by omega))
      have hxk := HXL.out (s / 32 + k) (by omega)
      have h3 := hrow.cell (i := k) (by omega)
      have h4 := hrow.frozen k
      by_cases hlt2 : s / 32 + k + 1 < n
      · have h5 := hkw.cell (HX.out (s / 32 + k + 1) hlt2)
        have hxk2 := HXL.out (s / 32 + k + 1) hlt2
        go_wp2
        go_roundw
        case rel =>
          refine ⟨k + 1, upd zs k (shrD (xs (s / 32 + k)) (xs (s / 32 + k + 1)) (s % 32)), by omega, by go_num, fun j => ?_, fun j hj => ?_, ?_, hkw.setCell (Nat.le_refl _) _⟩
          · unfold upd; split
            · exact shrD_lt _ _ _
            · exact HZ1.out j
          · unfold upd; split
            · subst j; simp only [from']; rw [if_pos (by omega), if_pos (by omega), ← Nat.add_assoc]
            · exact HZ2.out j (by omega)
          · rw [or_u64 hxk hxk2, shr_cell]; exact hrow.set _ _
        case measure => simp [intOf]; omega
      · go_wp2
        go_roundw
        case rel =>
          refine ⟨k + 1, upd zs k (shrD (xs (s / 32 + k)) 0 (s % 32)), by omega, by go_num, fun j => ?_, fun j hj => ?_, ?_, hkw.setCell (Nat.le_refl _) _⟩
          · unfold upd; split
            · exact shrD_lt _ _ _
            · exact HZ1.out j
          · unfold upd; split
            · subst j; simp only [from']; rw [if_pos (by omega), if_neg (by omega)]
            · exact HZ2.out j (by omega)
          · have e := shr_cell (x := xs (s / 32 + k)) (y := 0) (r := s % 32)
            simp only [Nat.zero_mul, Nat.add_zero] at e
            rw [e]; exact hrow.set _ _
        case measure => simp [intOf]; omega
    · obtain rfl : k = n - s / 32 := by omega
      go_wp2_with (go_at_call 248; refine (of_calls _ _ _ _ zs (by omega) (Nat.le_refl _) (hrow.ws (Nat.le_refl _))).mono ?_; rintro e w' ⟨rfl, rfl⟩)
      go_ret
      refine ⟨_, rfl, ?_, hkw⟩
      have := nt_of (B := 4294967296) (cap := n - s / 32) (Nat.le_refl _) (fun i _ => HZ1.out i) (hrow.ws (Nat.le_refl _))
      rw [shr_val (zs := from' xs n (s / 32)) (r := s % 32) (Nat.mod_lt _ (by decide)) (fun i hi => ?_) ?_ HZ2.out] at this
      · have e : val 4294967296 (from' xs n (s / 32)) (n - s / 32) = val 4294967296 xs n / 4294967296 ^ (s / 32) := by
          have h1 := val_drop (B := 4294967296) (xs := xs) (a := s / 32) (m := n - s / 32) (by decide) (fun i hi => HXL.out i (by omega))
          rw [show s / 32 + (n - s / 32) = n by omega] at h1
          rw [← h1]
          exact val_congr fun i hi => by simp only [from']; rw [if_pos (by omega)]
        rw [e, pow32, Nat.div_div_eq_div_mul, ← Nat.pow_add, Nat.div_add_mod] at this
        exact this
      · simp only [from']; rw [if_neg (by omega)]
      · simp only [from']; rw [if_pos (by omega)]; exact HXL.out _ (by omega)
theorem shr_zero (w : World) (a : Option Addr) (n cap s : Nat) (hs : s ≤ 100000) (hn : n ≤ 1024) (h : n ≤ s / 32) :
    Calls Tryz.prog 274 #[.slice a n cap, .int .i64 (s : Int)] w (RetNt 4294967296 0 w) := by
  have hge : decide ((n : Int) ≤ (s : Int) / 32) = true := by simp; omega
  go_enter Tryz.func274, Tryz.ntmps274
  go_wp2
  go_ret
  exact ⟨_, rfl, nt_zero _ _ _ _, Kept.refl _⟩
theorem shr_calls {w : World} {v : Value} {m s : Nat} (hv : Nt 4294967296 w v m) (hm : m < Big) (hs : s ≤ 100000) :
    Calls Tryz.prog 274 #[v, .int .i64 (s : Int)] w (RetNt 4294967296 (m / 2 ^ s) w) := by
  obtain ⟨a, n, cap, xs, rfl, hc, hd, hn, rfl, hw⟩ := hv
  have hl := len_big (.inr rfl) hn hm
  by_cases h : s / 32 < n
  · rcases hw.open with rfl | ⟨h0, b, off, rfl, hx⟩
    · omega
    · exact shr_some w b off cap n s xs hl h hs hd hx
  · have := shr_zero w a n cap s hs hl (by omega)
    have h1 := val_lt hd
    rw [pow32] at h1
    have h2 : 2 ^ (32 * n) ≤ 2 ^ s := Nat.pow_le_pow_right (by decide) (by omega)
    rw [Nat.div_eq_of_lt (by omega)]
    exact this
end Go.Proofs.YtbapfnpbamnmpaaGreatDoor
end

section
/- Plain arithmetic: division by one digit. -/
namespace Go.Dig
theorem val_upd_mid {B : Nat} {zs : Nat → Nat} {p x : Nat} : ∀ {n : Nat}, p < n → val B (upd zs p x) n + zs p * B ^ p = val B zs n + x * B ^ p
  | 0, h => by omega
  | n + 1, h => by
    by_cases hp : p = n
    · subst hp
      rw [val_upd_top]; simp only [val]; omega
    · have ih := val_upd_mid (B := B) (zs := zs) (x := x) (show p < n by omega)
      simp only [val]
      rw [upd_other zs (by omega)]
      omega
/-- the loop of a division by one digit; k digits are left -/
structure DivI (B : Nat) (xs : Nat → Nat) (n d k : Nat) (zs : Nat → Nat) (r : Nat) : Prop where
  lt : ∀ j, zs j < B
  rlt : r < d
  zero : ∀ j, j < k → zs j = 0
  eq : ∃ Q, val B zs n = Q * B ^ k ∧ val B xs n = val B xs k + (d * Q + r) * B ^ k
theorem DivI.start {B : Nat} {xs : Nat → Nat} {n d : Nat} (hB : 0 < B) (hd : 0 < d) : DivI B xs n d n (fun _ => 0) 0 :=
  ⟨fun _ => hB, hd, fun _ _ => rfl, 0, by rw [val_zeros _ _ _ (fun _ _ => rfl)]; simp, by simp⟩
theorem div_bound {B r d x : Nat} (hr : r < d) (hx : x < B) : r * B + x < d * B := by
  have : (r + 1) * B ≤ d * B := Nat.mul_le_mul_right _ hr
  rw [Nat.add_mul] at this
  omega
theorem DivI.step {B : Nat} {xs zs : Nat → Nat} {n d k r : Nat} (h : DivI B xs n d (k + 1) zs r) (hk : k < n) (hx : xs k < B) :
    DivI B xs n d k (upd zs k ((r * B + xs k) / d)) ((r * B + xs k) % d) := by
  have hb := div_bound h.rlt hx
  have hd : 0 < d := by have := h.rlt; omega
  obtain ⟨Q, e1, e2⟩ := h.eq
  refine ⟨fun j => ?_, Nat.mod_lt _ hd, fun j hj => ?_, Q * B + (r * B + xs k) / d, ?_, ?_⟩
  · unfold upd; split
    · exact Nat.div_lt_of_lt_mul hb
    · exact h.lt j
  · rw [upd_other _ (by omega)]; exact h.zero j (by omega)
  · have := val_upd_mid (B := B) (zs := zs) (x := (r * B + xs k) / d) hk
    rw [h.zero k (by omega), Nat.zero_mul, Nat.add_zero, e1, Nat.pow_succ] at this
    rw [this]; grind
  · rw [e2]
    simp only [val]
    rw [Nat.pow_succ]
    have hm := Nat.mod_add_div (r * B + xs k) d
    generalize (r * B + xs k) / d = q at *
    generalize hs : (r * B + xs k) % d = r' at *
    generalize B ^ k = P at *
    have : (d * (Q * B + q) + r') * P = (d * Q * B + (r' + d * q)) * P := by grind
    rw [this, hm]
    grind
theorem DivI.done {B : Nat} {xs zs : Nat → Nat} {n d r : Nat} (h : DivI B xs n d 0 zs r) : val B zs n = val B xs n / d ∧ r = val B xs n % d := by
  obtain ⟨Q, e1, e2⟩ := h.eq
  have hr := h.rlt
  simp only [Nat.pow_zero, Nat.mul_one, val, Nat.zero_add] at e1 e2
  rw [e1, e2]
  constructor
  · rw [Nat.mul_add_div (by omega), Nat.div_eq_of_lt hr, Nat.add_zero]
  · rw [Nat.mul_add_mod, Nat.mod_eq_of_lt hr]
end Go.Dig
end

section
namespace Go.Proofs.YtbapfnpbamnmpaaGreatDoor
open Go Go.RowKit Go.Dig
open Go.Eng (Kept KW)

/-- a number and a remainder are handed back -/
def RetNtR (B m : Nat) (r : Nat) (w : World) (e : Ending) (w' : World) : Prop := ∃ v, e = .returned (.tuple #[v, .int .u32 (r : Int)]) ∧ Nt B w' v m ∧ Kept w w'

/-! ### DivSmall -/
theorem or_u64' {x y : Nat} (hx : x < 4294967296) (hy : y < 4294967296) : bits BinOp.or IntKind.u64 ((y : Int) * 4294967296) (x : Int) = ((y * 4294967296 + x : Nat) : Int) := by
  have h := u64_or_nat (y * 4294967296) x (by omega) (by omega)
  rw [nat_join 32 _ _ (by simp) (by simpa using hx)] at h
  rw [← h]
  congr 1
theorem mod_id {q : Nat} (h : q < 4294967296) : ((q : Int) % 4294967296) = (q : Int) := by omega
set_option maxHeartbeats 4000000 in
set_option maxRecDepth 100000 in
theorem divs_some (w : World) (a : Option Addr) (cap n d : Nat) (xs : Nat → Nat) (hn : n ≤ 1024) (hd0 : 0 < d) (hd : d < 4294967296)
    (hxl : ∀ i, i < n → xs i < 4294967296) (hx : Ws w a n xs) :
    Calls Tryz.prog 307 #[.slice a n cap, .int .u32 (d : Int)] w (RetNtR 4294967296 (val 4294967296 xs n / d) (val 4294967296 xs n % d) w) := by
  have hmk := fun w => run_make_row' (P := Tryz.prog) 22 191 (.int .u32 0) 4 Tryz.underlying22 info191 rfl .i64 .i64 n (by omega) (by omega) w
  have HXL := Lib.hid hxl; clear hxl
  have HX := Lib.hid hx; clear hx
  go_enter Tryz.func307, Tryz.ntmps307
  go_wp2
  clear hmk
  go_loopw [7, 8] (fun rr i wr => ∃ (k r : Nat) (zs : Nat → Nat), k ≤ n ∧ i = .int .i64 ((k : Int) - 1) ∧ rr = .int .u64 (r : Int) ∧ DivI 4294967296 xs n d k zs r ∧ Row wr w.heap.size n zs ∧ Kept w wr) (fun _ i _ => (intOf i + 1).toNat)
  case atStart => exact ⟨n, 0, fun _ => 0, Nat.le_refl _, rfl, rfl, DivI.start (by decide) hd0, Row.made _ _, (Kept.refl _).alloc _⟩
  case round =>
    obtain ⟨k, r, zs, hk, rfl, rfl, hdi, hrow, hkw⟩ := hrel
    cases k with
    | zero =>
      have hrl := hdi.rlt
      go_wp2_with (go_at_call 248; refine (of_calls _ _ _ _ zs (by omega) (Nat.le_refl _) (hrow.ws (Nat.le_refl _))).mono ?_; rintro e w' ⟨rfl, rfl⟩)
      go_ret2
      have hdn := hdi.done
      refine ⟨.slice (some ⟨w.heap.size, 0, none⟩) (trimN zs n) n, by rw [← hdn.2]; rfl, ?_, hkw⟩
      have := nt_of (B := 4294967296) (cap := n) (Nat.le_refl _) (fun i _ => hdi.lt i) (hrow.ws (Nat.le_refl _))
      rw [hdn.1] at this
      exact this
    | succ k =>
      obtain ⟨b, off, rfl, hc⟩ := HX.out k (by omega)
      have h1 := hkw.cell hc
      have HC := Lib.hid hc; clear hc
      have hxk := HXL.out k (by omega)
      have h3 := hrow.cell (i := k) (by omega)
      have h4 := hrow.frozen k
      have hrl := hdi.rlt
      have hst := Lib.hid (hdi.step (by omega) hxk)
      have horr := or_u64' (x := xs k) (y := r) hxk (by omega)
      have hbd := div_bound hrl hxk
      clear hdi
      go_wp2
      go_roundw
      case rel =>
        refine ⟨k, (r * 4294967296 + xs k) % d, upd zs k ((r * 4294967296 + xs k) / d), by omega, rfl, by simp, hst.out, ?_, hkw.setCell (Nat.le_refl _) _⟩
        have e1 : (((r : Int) * 4294967296 + (xs k : Int)) / (d : Int)) % 4294967296 = (((r * 4294967296 + xs k) / d : Nat) : Int) := by
          have h2 : (r * 4294967296 + xs k) / d < 4294967296 := Nat.div_lt_of_lt_mul hbd
          rw [show ((r : Int) * 4294967296 + (xs k : Int)) / (d : Int) = (((r * 4294967296 + xs k) / d : Nat) : Int) by simp]
          exact mod_id h2
        rw [e1]
        exact hrow.set _ _
      case measure => simp [intOf]
theorem divs_calls {w : World} {v : Value} {m d : Nat} (hv : Nt 4294967296 w v m) (hm : m < Big) (hd0 : 0 < d) (hd : d < 4294967296) :
    Calls Tryz.prog 307 #[v, .int .u32 (d : Int)] w (RetNtR 4294967296 (m / d) (m % d) w) := by
  obtain ⟨a, n, cap, xs, rfl, hc, hxd, hn, rfl, hw⟩ := hv
  exact divs_some w a cap n d xs (len_big (.inr rfl) hn hm) hd0 hd hxd hw

/-! ### Small -/
def two (x y : Nat) : Nat → Nat := fun j => if j = 0 then x else y
theorem ws_two (w : World) (x y : Nat) : Ws (w.alloc (Obj.cells #[Value.int IntKind.u32 (x : Int), Value.int IntKind.u32 (y : Int)] 191)) (some ⟨w.heap.size, 0, none⟩) 2 (two x y) := by
  have h : (w.alloc (Obj.cells #[Value.int IntKind.u32 (x : Int), Value.int IntKind.u32 (y : Int)] 191)).rowIs w.heap.size 191 2 (fun j => .int .u32 (two x y j : Nat)) :=
    World.rowIs_alloc w _ 191 _ fun i hi => by
      match i, hi with
      | 0, _ => rfl
      | 1, _ => rfl
  exact Row.ws h (Nat.le_refl _)
set_option maxHeartbeats 400000 in
theorem small_calls (w : World) (m : Nat) (hm : m < 18446744073709551616) : Calls Tryz.prog 189 #[.int .u64 (m : Int)] w (RetNt 4294967296 m w) := by
  have hws := ws_two w (m % 4294967296) (m / 4294967296)
  have e1 : ((m % 4294967296 : Nat) : Int) = (m : Int) % 4294967296 := by omega
  have e2 : ((m / 4294967296 : Nat) : Int) = (m : Int) / 4294967296 := by omega
  rw [e1, e2] at hws
  clear e1 e2
  go_enter Tryz.func189, Tryz.ntmps189
  go_wp2_with (go_at_call 248; refine (of_calls _ _ _ _ (two (m % 4294967296) (m / 4294967296)) (by omega) (Nat.le_refl _) hws).mono ?_; rintro e w' ⟨rfl, rfl⟩)
  go_ret
  refine ⟨_, rfl, ?_, (Kept.refl _).alloc _⟩
  have := nt_of (B := 4294967296) (cap := 2) (Nat.le_refl _) (fun i _ => ?_) hws
  · have ev : val 4294967296 (two (m % 4294967296) (m / 4294967296)) 2 = m := by simp [val, two]; omega
    rw [ev] at this
    exact this
  · unfold two; split <;> omega

/-! ### Zero, One, Fits -/
theorem zero_calls {B : Nat} (hB : Bs B) {w : World} {v : Value} {m : Nat} (hv : Nt B w v m) :
    Calls Tryz.prog 192 #[v] w fun e w' => e = .returned (.bool (decide (m = 0))) ∧ w = w' := by
  obtain ⟨a, n, cap, xs, rfl, hc, hxd, hn, rfl, hw⟩ := hv
  have hz := Lib.hid (val_eq_zero hB.pos hn)
  go_enter Tryz.func192, Tryz.ntmps192
  go_wp2
  go_ret
  exact ⟨ret_bool (by rw [Bool.eq_iff_iff]; simp [hz.out]), rfl⟩
set_option maxHeartbeats 400000 in
theorem one_calls {w : World} {v : Value} {m : Nat} (hv : Nt 4294967296 w v m) :
    Calls Tryz.prog 222 #[v] w fun e w' => e = .returned (.bool (decide (m = 1))) ∧ w = w' := by
  obtain ⟨a, n, cap, xs, rfl, hc, hxd, hn, rfl, hw⟩ := hv
  by_cases h1 : n = 1
  · subst h1
    obtain ⟨b, off, rfl, hcell⟩ := hw 0 (by omega)
    have hcell0 : w.cell? ⟨b, off, none⟩ = some (.int .u32 (xs 0 : Nat)) := hcell
    have ev : val 4294967296 xs 1 = xs 0 := by simp [val]
    rw [ev]
    clear hcell hxd hn hw ev
    go_enter Tryz.func222, Tryz.ntmps222
    go_wp2
    go_ret
    exact ⟨ret_bool (by rw [Bool.eq_iff_iff]; simp; try omega), rfl⟩
  · have hne : val 4294967296 xs n ≠ 1 := by
      intro e
      have := len_le_of_lt (B := 4294967296) (L := 1) (by decide) hn (by rw [e]; decide)
      have h0 : n = 0 := by omega
      subst h0
      simp [val] at e
    have q1 : ((n : Int) == 1) = false := by simp; omega
    clear hxd hn hw
    go_enter Tryz.func222, Tryz.ntmps222
    go_wp2
    go_ret
    exact ⟨ret_bool (by simp [hne]), rfl⟩
end Go.Proofs.YtbapfnpbamnmpaaGreatDoor
end
