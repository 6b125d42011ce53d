/- A part of the proof that ClaimFree answers true for every input of bulk at most 1048576: conditions: the row's own. -/
import Derived.Test.YtbapfnpbamnmpaaGreatDoorWa
import Derived.Test.YtbapfnpbamnmpaaGreatDoorWg
import Derived.Lib.JoinLaws
section
namespace Go.Proofs.YtbapfnpbamnmpaaGreatDoor
open Go Go.RowKit Go.Dig
open Go.Eng (Kept KW KeptB)

/-! ### trim -/
set_option maxHeartbeats 400000 in
theorem trim_some (w : World) (b off n cap : Nat) (zs : Nat → Nat) (hn : n ≤ 4611686018427387904) (hcap : n ≤ cap)
    (hc : ∀ i, i < n → w.cell? ⟨b, off + i, none⟩ = some (.int .u32 (zs i : Nat))) :
    Calls Tryz.prog 304 #[.slice (some ⟨b, off, none⟩) n cap] w fun e w' => e = .returned (.slice (some ⟨b, off, none⟩) (trimN zs n) cap) ∧ w = w' := by
  have hle := trimN_le zs n
  go_enter Tryz.func304, Tryz.ntmps304
  go_wp2
  go_loop [3] (fun s => ∃ k : Nat, k ≤ n ∧ s = .int .i64 (k : Int) ∧ trimN zs k = trimN zs n) (fun s => (intOf s).toNat)
  case atStart => exact ⟨n, Nat.le_refl _, rfl, rfl⟩
  case round =>
    obtain ⟨k, hk, rfl, ht⟩ := hrel
    have HT := Lib.hid ht; clear ht
    by_cases hk0 : k = 0
    · subst hk0
      have h0 := HT.out
      simp only [trimN] at h0
      have H0 := Lib.hid h0; clear h0
      go_wp2
      go_ret
      exact ⟨by rw [← H0.out]; rfl, rfl⟩
    · obtain ⟨j, rfl⟩ : ∃ j, k = j + 1 := ⟨k - 1, by omega⟩
      have h1 := hc j (by omega)
      have HC := Lib.hid hc; clear hc
      by_cases h0 : zs j = 0
      · have HH := Lib.hid h0
        rw [h0] at h1
        clear h0
        go_wp2
        go_round
        case rel => exact ⟨j, by omega, by go_num, by rw [← HT.out]; simp [trimN, HH.out]⟩
        case measure => simp [intOf]
      · have h0' : ((zs j : Int) == 0) = false := by simpa using h0
        have HH := Lib.hid h0; clear h0
        go_wp2
        go_ret
        exact ⟨by rw [← HT.out]; simp [trimN, HH.out], rfl⟩
theorem trim_zero (w : World) (a : Option Addr) (cap : Nat) :
    Calls Tryz.prog 304 #[.slice a 0 cap] w fun e w' => e = .returned (.slice a 0 cap) ∧ w = w' := by
  cases a with
  | none =>
    go_enter Tryz.func304, Tryz.ntmps304
    go_wp2
    go_loop [3] (fun s => s = .int .i64 0) (fun s => 0)
    case atStart => rfl
    case round =>
      subst hrel
      go_wp2
      go_ret
      exact ⟨rfl, rfl⟩
  | some a =>
    go_enter Tryz.func304, Tryz.ntmps304
    go_wp2
    go_loop [3] (fun s => s = .int .i64 0) (fun s => 0)
    case atStart => rfl
    case round =>
      subst hrel
      go_wp2
      go_ret
      exact ⟨rfl, rfl⟩

theorem trim_calls (w : World) (a : Option Addr) (n cap : Nat) (zs : Nat → Nat) (hn : n ≤ 4611686018427387904) (hcap : n ≤ cap) (h : Ws w a n zs) :
    Calls Tryz.prog 304 #[.slice a n cap] w fun e w' => e = .returned (.slice a (trimN zs n) cap) ∧ w = w' := by
  rcases h.open with rfl | ⟨_, b, off, rfl, hc⟩
  · exact trim_zero w a cap
  · exact trim_some w b off n cap zs hn hcap hc

/-! ### NatOf -/
theorem ws_one (w : World) (x : Nat) : Ws (w.alloc (Obj.cells #[Value.int IntKind.u32 (x : Int)] 191)) (some ⟨w.heap.size, 0, none⟩) 1 (fun _ => x) := by
  have h : (w.alloc (Obj.cells #[Value.int IntKind.u32 (x : Int)] 191)).rowIs w.heap.size 191 1 (fun j => .int .u32 (((fun _ => x) j : Nat))) :=
    World.rowIs_alloc w _ 191 _ fun i hi => by
      match i, hi with
      | 0, _ => rfl
  exact Row.ws h (Nat.le_refl _)
/-- the loop of NatOf: x is left -/
structure OfI (m x n : Nat) (zs : Nat → Nat) : Prop where
  lt : ∀ i, i < n → zs i < 65536
  eq : val 65536 zs n + x * 65536 ^ n = m
theorem OfI.step {m x n : Nat} {zs : Nat → Nat} (h : OfI m x n zs) : OfI m (x / 65536) (n + 1) (cat zs n fun _ => x % 65536) := by
  have e0 : val 65536 (cat zs n fun _ => x % 65536) n = val 65536 zs n := val_congr fun i hi => by simp [cat, hi]
  refine ⟨fun i hi => ?_, ?_⟩
  · unfold cat; split
    · exact h.lt i ‹_›
    · exact Nat.mod_lt _ (by decide)
  · have e := h.eq
    simp only [val]
    rw [e0, Nat.pow_succ]
    have e1 : cat zs n (fun _ => x % 65536) n = x % 65536 := by simp [cat]
    rw [e1]
    have hm := Nat.mod_add_div x 65536
    generalize x % 65536 = r at *
    generalize x / 65536 = q at *
    generalize 65536 ^ n = P at *
    subst hm
    grind
set_option maxHeartbeats 1000000 in
theorem natof_calls (w : World) (m : Nat) (hm : m < 18446744073709551616) : Calls Tryz.prog 214 #[.int .u64 (m : Int)] w (RetNt 65536 m w) := by
  go_enter Tryz.func214, Tryz.ntmps214
  go_wp2
  go_loopw [0, 3] (fun xv v wr => ∃ (x n : Nat) (zs : Nat → Nat), xv = .int .u64 (x : Int) ∧ x ≤ m ∧ n ≤ 4 ∧ x < 65536 ^ (4 - n) ∧ OfI m x n zs ∧ (norm zs n ∨ 0 < x) ∧ Ap wr w.heap.size v n zs ∧ Kept w wr) (fun xv _ _ => (intOf xv).toNat)
  case atStart => exact ⟨m, 0, fun _ => 0, rfl, Nat.le_refl _, by omega, by simpa using hm, ⟨fun _ h => by omega, by simp [val]⟩, .inl (.inl rfl), Ap.nil _ _ _, Kept.refl _⟩
  case round =>
    obtain ⟨x, n, zs, rfl, hxm, hn4, hxb, hof, hnm, hap, hkw⟩ := hrel
    have HXB := Lib.hid hxb; clear hxb
    by_cases h0 : x = 0
    · subst h0
      obtain ⟨a, cap, rfl, hcap, hws⟩ := hap.ws
      go_wp2
      go_ret
      refine ⟨_, rfl, ⟨a, n, cap, zs, rfl, hcap, hof.lt, ?_, ?_, hws⟩, hkw⟩
      · rcases hnm with h | h
        · exact h
        · omega
      · have := hof.eq; simpa using this
    · have t1 : 0 < x := by omega
      have hn3 : n < 4 := by
        by_cases e : n = 4
        · have := HXB.out; rw [e] at this; simp at this; omega
        · omega
      have hap1 := hap.alloc (Obj.cells #[Value.int IntKind.u32 ((x % 65536 : Nat) : Int)] 191)
      have hkw1 := hkw.alloc (Obj.cells #[Value.int IntKind.u32 ((x % 65536 : Nat) : Int)] 191)
      have hws1 := ws_one wr (x % 65536)
      have e1 : ((x % 65536 : Nat) : Int) = (x : Int) % 65536 := by omega
      rw [e1] at hap1 hkw1 hws1
      clear e1
      go_wp2_with (at_builtin; refine wpList_append_words rfl (.tmp 6) (.tmp 10) 95 rfl Tryz.underlying95 w hkw1 _ n zs rfl hap1 ⟨wr.heap.size, 0, none⟩ 1 1 (fun _ => x % 65536) rfl hws1 (by omega) ?_; intro v' w1 hap2 hkw2)
      go_roundw
      case rel =>
        refine ⟨x / 65536, n + 1, _, by simp, by omega, by omega, ?_, hof.step, ?_, hap2, hkw2⟩
        · have := HXB.out
          rw [show 4 - n = 4 - (n + 1) + 1 by omega, Nat.pow_succ] at this
          exact Nat.div_lt_of_lt_mul (by rw [Nat.mul_comm]; exact this)
        · by_cases hq : x / 65536 = 0
          · exact .inl (.inr (by simp [cat]; omega))
          · exact .inr (by omega)
      case measure => simp [intOf]; omega
end Go.Proofs.YtbapfnpbamnmpaaGreatDoor
end

section
namespace Go.Proofs.YtbapfnpbamnmpaaGreatDoor
open Go Go.RowKit Go.Dig
open Go.Eng (Kept KW KeptB)

/-! ### Cmp -/
set_option maxHeartbeats 1000000 in
theorem ncmp_eq (w : World) (b off cap b' off' cap' n : Nat) (xs ys : Nat → Nat) (hn : n ≤ 4611686018427387904)
    (hx : ∀ i, i < n → w.cell? ⟨b, off + i, none⟩ = some (.int .u32 (xs i : Nat)))
    (hy : ∀ i, i < n → w.cell? ⟨b', off' + i, none⟩ = some (.int .u32 (ys i : Nat))) :
    Calls Tryz.prog 364 #[.slice (some ⟨b, off, none⟩) n cap, .slice (some ⟨b', off', none⟩) n cap'] w fun e w' => e = .returned (.int .i64 (cmpFrom xs ys n)) ∧ Kept w w' := by
  go_enter Tryz.func364, Tryz.ntmps364
  go_wp2
  go_loopw [5] (fun i wr => ∃ k : Nat, k ≤ n ∧ i = .int .i64 ((k : Int) - 1) ∧ cmpFrom xs ys k = cmpFrom xs ys n ∧ Kept w wr) (fun i _ => (intOf i + 1).toNat)
  case atStart => exact ⟨n, Nat.le_refl _, rfl, rfl, Kept.refl _⟩
  case round =>
    obtain ⟨k, hk, rfl, ht, hkw⟩ := hrel
    have HT := Lib.hid ht; clear ht
    cases k with
    | zero =>
      go_wp2
      go_ret
      exact ⟨by rw [← HT.out]; rfl, hkw⟩
    | succ k =>
      have h1 := hkw.cell (hx k (by omega))
      have h2 := hkw.cell (hy k (by omega))
      have HX := Lib.hid hx; clear hx
      have HY := Lib.hid hy; clear hy
      by_cases hlt : xs k < ys k
      · go_wp2
        go_quiet (fail)
        go_wp2
        go_ret
        exact ⟨by rw [← HT.out]; simp [cmpFrom, hlt], hkw.drewN _⟩
      · by_cases hgt : ys k < xs k
        · go_wp2
          go_quiet (fail)
          go_wp2
          go_quiet (fail)
          go_wp2
          go_ret
          exact ⟨by rw [← HT.out]; simp [cmpFrom, hlt, hgt], by first | exact (hkw.drewN _).drewN _ | exact hkw.drewN _⟩
        · go_wp2
          go_quiet (fail)
          go_wp2
          go_quiet (fail)
          go_wp2
          go_roundw
          case rel => exact ⟨k, by omega, by go_num, by rw [← HT.out]; simp [cmpFrom, hlt, hgt], by first | exact (hkw.drewN _).drewN _ | exact hkw.drewN _⟩
          case measure => simp [intOf]

theorem ncmp_zero (w : World) (a a' : Option Addr) (cap cap' : Nat) :
    Calls Tryz.prog 364 #[.slice a 0 cap, .slice a' 0 cap'] w fun e w' => e = .returned (.int .i64 0) ∧ w = w' := by
  go_enter Tryz.func364, Tryz.ntmps364
  go_wp2
  go_loop [5] (fun i => i = .int .i64 (-1)) (fun _ => 0)
  case atStart => rfl
  case round =>
    subst hrel
    go_wp2
    go_ret
    exact ⟨rfl, rfl⟩
theorem ncmp_ne (w : World) (a a' : Option Addr) (n n' cap cap' : Nat) (h : n < n' ∨ n' < n) :
    Calls Tryz.prog 364 #[.slice a n cap, .slice a' n' cap'] w fun e w' => e = .returned (.int .i64 (if n < n' then -1 else 1)) ∧ w = w' := by
  by_cases h1 : n < n'
  · have h2 : n ≠ n' := by omega
    go_enter Tryz.func364, Tryz.ntmps364
    go_wp2
    go_ret
    simp
  · have h2 : n ≠ n' := by omega
    go_enter Tryz.func364, Tryz.ntmps364
    go_wp2
    go_ret
    simp
theorem ncmp_calls {B : Nat} (hB : Bs B) {w : World} {v u : Value} {m k : Nat} (hv : Nt B w v m) (hu : Nt B w u k) (hm : m < Big) :
    Calls Tryz.prog 364 #[v, u] w fun e w' => e = .returned (.int .i64 (cmpInt m k)) ∧ Kept w w' := by
  obtain ⟨a, n, cap, xs, rfl, hc, hd, hn, rfl, hw⟩ := hv
  obtain ⟨a', n', cap', ys, rfl, hc', hd', hn', rfl, hw'⟩ := hu
  have hl := len_big hB hn hm
  by_cases h1 : n < n'
  · refine (ncmp_ne w a a' n n' cap cap' (.inl h1)).mono fun e w' ⟨he, hk⟩ => ?_
    have := val_len_lt hB.pos hd hn' h1
    subst hk
    exact ⟨by rw [he, if_pos h1, cmpInt, if_pos this], Kept.refl _⟩
  · by_cases h2 : n' < n
    · refine (ncmp_ne w a a' n n' cap cap' (.inr h2)).mono fun e w' ⟨he, hk⟩ => ?_
      have := val_len_lt hB.pos hd' hn h2
      subst hk
      exact ⟨by rw [he, if_neg h1, cmpInt, if_neg (by omega), if_pos this], Kept.refl _⟩
    · obtain rfl : n = n' := by omega
      rw [← cmpFrom_val hd hd']
      rcases hw.open with rfl | ⟨h0, b, off, rfl, hx⟩
      · refine (ncmp_zero w a a' cap cap').mono fun e w' ⟨he, hk⟩ => ?_
        subst hk
        exact ⟨he, Kept.refl _⟩
      · rcases hw'.open with rfl | ⟨_, b', off', rfl, hy⟩
        · omega
        · exact ncmp_eq w b off cap b' off' cap' n xs ys (by omega) hx hy
/-! ### Mul -/
set_option maxHeartbeats 4000000 in
set_option maxRecDepth 100000 in
theorem nmul_some (w : World) (b off cap b' off' cap' n n' : Nat) (xs ys : Nat → Nat) (hn : n ≤ 1024) (hn' : n' ≤ 1024) (h0 : 0 < n) (h0' : 0 < n')
    (hxl : ∀ i, i < n → xs i < 65536) (hyl : ∀ i, i < n' → ys i < 65536)
    (hx : ∀ i, i < n → w.cell? ⟨b, off + i, none⟩ = some (.int .u32 (xs i : Nat)))
    (hy : ∀ i, i < n' → w.cell? ⟨b', off' + i, none⟩ = some (.int .u32 (ys i : Nat))) :
    Calls Tryz.prog 303 #[.slice (some ⟨b, off, none⟩) n cap, .slice (some ⟨b', off', none⟩) n' cap'] w (RetNt 65536 (val 65536 xs n * val 65536 ys n') w) := by
  have hmk := fun w => run_make_row' (P := Tryz.prog) 95 191 (.int .u32 0) 4 Tryz.underlying95 info191 rfl .i64 .i64 (n + n') (by omega) (by omega) w
  have ec : ((n + n' : Nat) : Int) = (n : Int) + (n' : Int) := by omega
  rw [ec] at hmk
  clear ec
  have HXL := Lib.hid hxl; clear hxl
  have HYL := Lib.hid hyl; clear hyl
  have HX := Lib.hid hx; clear hx
  have HY := Lib.hid hy; clear hy
  have q1 : ((n : Int) == 0) = false := by simp; omega
  have q2 : ((n' : Int) == 0) = false := by simp; omega
  go_enter Tryz.func303, Tryz.ntmps303
  go_wp2
  clear hmk
  go_loopw [28] (fun i wr => ∃ (k : Nat) (zs : Nat → Nat), k ≤ n ∧ i = .int .i64 (k : Int) ∧ MulOut 65536 xs ys n' k zs ∧ Row wr w.heap.size (n + n') zs ∧ Kept w wr) (fun i _ => n - (intOf i).toNat)
  case atStart => exact ⟨0, fun _ => 0, Nat.zero_le _, rfl, MulOut.start (by decide), Row.made _ _, (Kept.refl _).alloc _⟩
  case round =>
    obtain ⟨k, zs0, hk, rfl, hmo, hrow, hkw⟩ := hrel
    by_cases hlt : k < n
    · have h1 := hkw.cell (HX.out k hlt)
      have hxk := HXL.out k hlt
      go_wp2
      obtain ⟨wo, rfl⟩ : ∃ wo : World, wo = wr := ⟨_, rfl⟩
      go_loopw [8, 35] (fun c j wr => ∃ (l cn : Nat) (zs : Nat → Nat), l ≤ n' ∧ j = .int .i64 (l : Int) ∧ c = .int .u64 (cn : Int) ∧ MulIn 65536 xs ys zs0 k l zs cn ∧ Row wr w.heap.size (n + n') zs ∧ Kept w wr) (fun _ j _ => n' - (intOf j).toNat)
      case atStart => exact ⟨0, 0, zs0, Nat.zero_le _, rfl, rfl, MulIn.start (by decide) hmo.lt, hrow, hkw⟩
      case round =>
        obtain ⟨l, cn, zs, hl, rfl, rfl, hmi, hrow1, hkw1⟩ := hrel
        by_cases hlt2 : l < n'
        · have h2 := hkw1.cell (HY.out l hlt2)
          have hyl := HYL.out l hlt2
          have h3 := hrow1.cell (i := k + l) (by omega)
          have h4 := hrow1.frozen (k + l)
          have hzl := hmi.lt (k + l)
          have hcl := hmi.clt
          have hbd := mul_bound hxk hyl hzl hcl
          have e9 : zs (k + l) + xs k * ys l + cn = xs k * ys l + zs (k + l) + cn := by omega
          have hbd2 : xs k * ys l < 65536 * 65536 := by omega
          have hst := Lib.hid (hmi.step hxk hyl)
          clear hmi
          go_wp2
          go_roundw
          case rel =>
            refine ⟨l + 1, (xs k * ys l + zs (k + l) + cn) / 65536, upd zs (k + l) ((xs k * ys l + zs (k + l) + cn) % 65536), by omega, by go_num, by rw [← e9]; simp, hst.out, ?_, hkw1.setCell (Nat.le_refl _) _⟩
            have := hrow1.set (k + l) ((xs k * ys l + zs (k + l) + cn) % 65536)
            rw [← e9] at this ⊢
            simpa using this
          case measure => simp [intOf]; omega
        · obtain rfl : n' = l := by omega
          have h4 := hrow1.frozen (k + n')
          have h3 := hrow1.cell (i := k + n') (by omega)
          have hcl := hmi.clt
          have hst := Lib.hid (hmo.step hmi)
          clear hmi hmo
          go_wp2
          go_roundw
          case rel =>
            refine ⟨k + 1, upd zs (k + n') cn, by omega, by go_num, hst.out, ?_, hkw1.setCell (Nat.le_refl _) _⟩
            exact hrow1.set (k + n') cn
          case measure => simp [intOf]; omega
    · obtain rfl : n = k := by omega
      go_wp2_with (go_at_call 304; refine (trim_calls _ _ _ _ zs0 (by omega) (Nat.le_refl _) (hrow.ws (Nat.le_refl _))).mono ?_; rintro e w' ⟨rfl, rfl⟩)
      go_ret
      refine ⟨_, rfl, ?_, hkw⟩
      have := nt_of (B := 65536) (cap := n + n') (Nat.le_refl _) (fun i _ => hmo.lt i) (hrow.ws (Nat.le_refl _))
      rw [hmo.eq] at this
      exact this
theorem nmul_zero (w : World) (a a' : Option Addr) (n n' cap cap' : Nat) (h : n = 0 ∨ n' = 0) :
    Calls Tryz.prog 303 #[.slice a n cap, .slice a' n' cap'] w (RetNt 65536 0 w) := by
  by_cases h1 : n = 0
  · subst h1
    go_enter Tryz.func303, Tryz.ntmps303
    go_wp2
    go_ret
    exact ⟨_, rfl, ⟨none, 0, 0, fun _ => 0, rfl, Nat.le_refl _, fun _ h => by omega, .inl rfl, rfl, fun _ h => by omega⟩, Kept.refl _⟩
  · obtain rfl : n' = 0 := by omega
    have q1 : ((n : Int) == 0) = false := by simp; omega
    go_enter Tryz.func303, Tryz.ntmps303
    go_wp2
    go_ret
    exact ⟨_, rfl, ⟨none, 0, 0, fun _ => 0, rfl, Nat.le_refl _, fun _ h => by omega, .inl rfl, rfl, fun _ h => by omega⟩, Kept.refl _⟩
theorem nmul_calls {w : World} {v u : Value} {m k : Nat} (hv : Nt 65536 w v m) (hu : Nt 65536 w u k) (hm : m < Big) (hk : k < Big) :
    Calls Tryz.prog 303 #[v, u] w (RetNt 65536 (m * k) w) := by
  obtain ⟨a, n, cap, xs, rfl, hc, hd, hn, rfl, hw⟩ := hv
  obtain ⟨a', n', cap', ys, rfl, hc', hd', hn', rfl, hw'⟩ := hu
  have hl := len_big (.inl rfl) hn hm
  have hl' := len_big (.inl rfl) hn' hk
  rcases hw.open with rfl | ⟨h0, b, off, rfl, hx⟩
  · have := nmul_zero w a a' 0 n' cap cap' (.inl rfl)
    simpa [val] using this
  · rcases hw'.open with rfl | ⟨h0', b', off', rfl, hy⟩
    · have := nmul_zero w (some ⟨b, off, none⟩) a' n 0 cap cap' (.inr rfl)
      simpa [val] using this
    · exact nmul_some w b off cap b' off' cap' n n' xs ys hl hl' h0 h0' hd hd' hx hy

/-! ### small -/
set_option maxHeartbeats 4000000 in
set_option maxRecDepth 100000 in
theorem nsmall_some (w : World) (a : Option Addr) (cap n d : Nat) (xs : Nat → Nat) (hn : n ≤ 1024) (hd0 : 0 < d) (hd : d < 65536)
    (hxl : ∀ i, i < n → xs i < 65536) (hx : Ws w a n xs) :
    Calls Tryz.prog 310 #[.slice a n cap, .int .u32 (d : Int)] w (RetNtR 65536 (val 65536 xs n / d) (val 65536 xs n % d) w) := by
  have hmk := fun w => run_make_row' (P := Tryz.prog) 95 191 (.int .u32 0) 4 Tryz.underlying95 info191 rfl .i64 .i64 n (by omega) (by omega) w
  have HXL := Lib.hid hxl; clear hxl
  have HX := Lib.hid hx; clear hx
  go_enter Tryz.func310, Tryz.ntmps310
  go_wp2
  clear hmk
  go_loopw [7, 8] (fun rr i wr => ∃ (k r : Nat) (zs : Nat → Nat), k ≤ n ∧ i = .int .i64 ((k : Int) - 1) ∧ rr = .int .u32 (r : Int) ∧ DivI 65536 xs n d k zs r ∧ Row wr w.heap.size n zs ∧ Kept w wr) (fun _ i _ => (intOf i + 1).toNat)
  case atStart => exact ⟨n, 0, fun _ => 0, Nat.le_refl _, rfl, rfl, DivI.start (by decide) hd0, Row.made _ _, (Kept.refl _).alloc _⟩
  case round =>
    obtain ⟨k, r, zs, hk, rfl, rfl, hdi, hrow, hkw⟩ := hrel
    cases k with
    | zero =>
      have hrl := hdi.rlt
      go_wp2_with (go_at_call 304; refine (trim_calls _ _ _ _ zs (by omega) (Nat.le_refl _) (hrow.ws (Nat.le_refl _))).mono ?_; rintro e w' ⟨rfl, rfl⟩)
      go_ret2
      have hdn := hdi.done
      refine ⟨.slice (some ⟨w.heap.size, 0, none⟩) (trimN zs n) n, by rw [← hdn.2]; rfl, ?_, hkw⟩
      have := nt_of (B := 65536) (cap := n) (Nat.le_refl _) (fun i _ => hdi.lt i) (hrow.ws (Nat.le_refl _))
      rw [hdn.1] at this
      exact this
    | succ k =>
      obtain ⟨b, off, rfl, hc⟩ := HX.out k (by omega)
      have h1 := hkw.cell hc
      have HC := Lib.hid hc; clear hc
      have hxk := HXL.out k (by omega)
      have h3 := hrow.cell (i := k) (by omega)
      have h4 := hrow.frozen k
      have hrl := hdi.rlt
      have hst := Lib.hid (hdi.step (by omega) hxk)
      have hbd := div_bound hrl hxk
      clear hdi
      go_wp2
      go_roundw
      case rel =>
        refine ⟨k, (r * 65536 + xs k) % d, upd zs k ((r * 65536 + xs k) / d), by omega, rfl, by simp, hst.out, ?_, hkw.setCell (Nat.le_refl _) _⟩
        have e1 : (((r : Int) * 65536 + (xs k : Int)) / (d : Int)) = (((r * 65536 + xs k) / d : Nat) : Int) := by simp
        rw [e1]
        exact hrow.set _ _
      case measure => simp [intOf]
theorem nsmall_calls {w : World} {v : Value} {m d : Nat} (hv : Nt 65536 w v m) (hm : m < Big) (hd0 : 0 < d) (hd : d < 65536) :
    Calls Tryz.prog 310 #[v, .int .u32 (d : Int)] w (RetNtR 65536 (m / d) (m % d) w) := by
  obtain ⟨a, n, cap, xs, rfl, hc, hxd, hn, rfl, hw⟩ := hv
  exact nsmall_some w a cap n d xs (len_big (.inl rfl) hn hm) hd0 hd hxd hw

end Go.Proofs.YtbapfnpbamnmpaaGreatDoor
end

section
namespace Go.Proofs.YtbapfnpbamnmpaaGreatDoor
open Go Go.RowKit Go.Dig
open Go.Eng (Kept KW KeptB)

theorem norm_of_val {B : Nat} {zs : Nat → Nat} {n : Nat} (hz : ∀ i, i < n → zs i < B) (h : n = 0 ∨ B ^ (n - 1) ≤ val B zs n) : norm zs n := by
  rcases h with h | h
  · exact .inl h
  · by_cases h0 : n = 0
    · exact .inl h0
    · obtain ⟨k, rfl⟩ : ∃ k, n = k + 1 := ⟨n - 1, by omega⟩
      refine .inr ?_
      simp only [Nat.add_sub_cancel] at *
      intro e
      have := val_lt (B := B) (n := k) fun i hi => hz i (by omega)
      simp only [val, e] at h
      omega
theorem Ap.made (w : World) (base c : Nat) (zs : Nat → Nat) (hb : base ≤ w.heap.size) (hc : c ≤ 1000000) :
    Ap (w.alloc (.cells (madeCells #[.int .u32 0] c) 191)) base (.slice (some ⟨w.heap.size, 0, none⟩) 0 c) 0 zs :=
  World.ownsRow_made w _ c hb (by unfold maxLen; omega) (by simp [size_madeCells])
theorem cat_val (B : Nat) (zs : Nat → Nat) (n x : Nat) : val B (cat zs n fun _ => x) (n + 1) = val B zs n + x * B ^ n := by
  simp only [val]
  rw [val_congr (ys := zs) fun i hi => by simp [cat, hi]]
  simp [cat]
theorem cat_lt {B : Nat} {zs : Nat → Nat} {n x : Nat} (h : ∀ i, i < n → zs i < B) (hx : x < B) : ∀ i, i < n + 1 → cat zs n (fun _ => x) i < B := fun i _ => by
  unfold cat; split
  · exact h i ‹_›
  · exact hx
/-- the list followed by zeros -/
def ext (ys : Nat → Nat) (n : Nat) : Nat → Nat := fun i => if i < n then ys i else 0
theorem val_ext {B : Nat} {ys : Nat → Nat} {n m : Nat} (h : n ≤ m) : val B (ext ys n) m = val B ys n := val_over_zero h

/-! ### NatAdd -/
structure AdI (xs ys : Nat → Nat) (i : Nat) (zs : Nat → Nat) (c : Nat) : Prop where
  lt : ∀ k, k < i → zs k < 65536
  clt : c ≤ 1
  eq : val 65536 zs i + c * 65536 ^ i = val 65536 xs i + val 65536 ys i
theorem AdI.step {xs ys zs : Nat → Nat} {i c : Nat} (h : AdI xs ys i zs c) (hx : xs i < 65536) (hy : ys i < 65536) :
    AdI xs ys (i + 1) (cat zs i fun _ => (xs i + c + ys i) % 65536) ((xs i + c + ys i) / 65536) := by
  have hc := h.clt
  refine ⟨cat_lt h.lt (Nat.mod_lt _ (by decide)), by omega, ?_⟩
  have e := h.eq
  have hm := Nat.mod_add_div (xs i + c + ys i) 65536
  rw [cat_val]
  simp only [val]
  rw [Nat.pow_succ]
  generalize (xs i + c + ys i) / 65536 = c' at *
  generalize (xs i + c + ys i) % 65536 = l at *
  generalize 65536 ^ i = P at *
  have e2 : (xs i + c + ys i) * P = (l + 65536 * c') * P := by rw [hm]
  grind
set_option maxHeartbeats 4000000 in
set_option maxRecDepth 100000 in
theorem nadd_ge (w : World) (a a' : Option Addr) (n n' cap cap' : Nat) (xs ys : Nat → Nat) (hn : n ≤ 2000) (hnn : n' ≤ n)
    (hxl : ∀ i, i < n → xs i < 65536) (hyl : ∀ i, i < n' → ys i < 65536) (hxn : norm xs n) (hx : Ws w a n xs) (hy : Ws w a' n' ys) (v u : Value)
    (hcase : (v = .slice a n cap ∧ u = .slice a' n' cap') ∨ (n' < n ∧ v = .slice a' n' cap' ∧ u = .slice a n cap)) :
    Calls Tryz.prog 302 #[v, u] w (RetNt 65536 (val 65536 xs n + val 65536 ys n') w) := by
  have hmk := fun w => run_make_room (P := Tryz.prog) 95 191 (.int .u32 0) 4 Tryz.underlying95 info191 rfl .i64 .i64 (n + 1) (by omega) (by omega) w
  have ec : ((n + 1 : Nat) : Int) = (n : Int) + 1 := by omega
  rw [ec] at hmk
  clear ec
  have HXL := Lib.hid hxl; clear hxl
  have HYL := Lib.hid hyl; clear hyl
  have HX := Lib.hid hx; clear hx
  have HY := Lib.hid hy; clear hy
  rcases hcase with ⟨rfl, rfl⟩ | ⟨hlt0, rfl, rfl⟩
  · have tlt : decide (n < n') = false := by simp; omega
    go_enter Tryz.func302, Tryz.ntmps302
    go_wp2
    clear hmk
    go_loopw [5, 6, 22] (fun ov cv iv wr => ∃ (k c : Nat) (zs : Nat → Nat), k ≤ n ∧ iv = .int .i64 (k : Int) ∧ cv = .int .u32 (c : Int) ∧ AdI xs (ext ys n') k zs c ∧ Ap wr w.heap.size ov k zs ∧ Kept w wr) (fun _ _ iv _ => n - (intOf iv).toNat)
    case atStart => exact ⟨0, 0, fun _ => 0, Nat.zero_le _, rfl, rfl, ⟨fun _ h => by omega, by omega, by simp [val]⟩, Ap.made _ _ _ _ (Nat.le_refl _) (by omega), (Kept.refl _).alloc _⟩
    case round =>
      obtain ⟨k, c, zs, hk, rfl, rfl, hai, hap, hkw⟩ := hrel
      have hcl := hai.clt
      by_cases hlt : k < n
      · obtain ⟨b, off, rfl, hcx⟩ := (HX.out.kept hkw) k hlt
        have hxk := HXL.out k hlt
        by_cases hlt2 : k < n'
        · obtain ⟨b', off', rfl, hcy⟩ := (HY.out.kept hkw) k hlt2
          have hyk := HYL.out k hlt2
          have hst := Lib.hid (hai.step hxk (by simp only [ext, if_pos hlt2]; exact hyk))
          simp only [ext, if_pos hlt2] at hst
          clear hai
          have hap1 := hap.alloc (Obj.cells #[Value.int IntKind.u32 (((xs k + c + ys k) % 65536 : Nat) : Int)] 191)
          have hkw1 := hkw.alloc (Obj.cells #[Value.int IntKind.u32 (((xs k + c + ys k) % 65536 : Nat) : Int)] 191)
          have hws1 := ws_one wr ((xs k + c + ys k) % 65536)
          have e1 : (((xs k + c + ys k) % 65536 : Nat) : Int) = ((xs k : Int) + (c : Int) + (ys k : Int)) % 65536 := by omega
          rw [e1] at hap1 hkw1 hws1
          clear e1
          go_wp2_with (at_builtin; refine wpList_append_words rfl (.tmp 41) (.tmp 44) 95 rfl Tryz.underlying95 w hkw1 _ k zs rfl hap1 ⟨wr.heap.size, 0, none⟩ 1 1 (fun _ => (xs k + c + ys k) % 65536) rfl hws1 (by omega) ?_; intro v' w1 hap2 hkw2)
          go_roundw
          case rel => exact ⟨k + 1, (xs k + c + ys k) / 65536, _, by omega, by go_num, by simp, hst.out, hap2, hkw2⟩
          case measure => simp [intOf]; omega
        · have hst := Lib.hid (hai.step hxk (by simp only [ext, if_neg hlt2]; decide))
          simp only [ext, if_neg hlt2, Nat.add_zero] at hst
          clear hai
          have hap1 := hap.alloc (Obj.cells #[Value.int IntKind.u32 (((xs k + c) % 65536 : Nat) : Int)] 191)
          have hkw1 := hkw.alloc (Obj.cells #[Value.int IntKind.u32 (((xs k + c) % 65536 : Nat) : Int)] 191)
          have hws1 := ws_one wr ((xs k + c) % 65536)
          have e1 : (((xs k + c) % 65536 : Nat) : Int) = ((xs k : Int) + (c : Int)) % 65536 := by omega
          rw [e1] at hap1 hkw1 hws1
          clear e1
          go_wp2_with (at_builtin; refine wpList_append_words rfl (.tmp 41) (.tmp 44) 95 rfl Tryz.underlying95 w hkw1 _ k zs rfl hap1 ⟨wr.heap.size, 0, none⟩ 1 1 (fun _ => (xs k + c) % 65536) rfl hws1 (by omega) ?_; intro v' w1 hap2 hkw2)
          go_roundw
          case rel => exact ⟨k + 1, (xs k + c) / 65536, _, by omega, by go_num, by simp, hst.out, hap2, hkw2⟩
          case measure => simp [intOf]; omega
      · obtain rfl : n = k := by omega
        have heq := hai.eq
        rw [val_ext hnn] at heq
        have HEQ := Lib.hid heq; clear heq
        by_cases hc0 : c = 0
        · subst hc0
          obtain ⟨av, capv, rfl, hcapv, hwsv⟩ := hap.ws
          go_wp2
          go_ret
          have he : val 65536 zs n = val 65536 xs n + val 65536 ys n' := by have := HEQ.out; simpa using this
          refine ⟨_, rfl, ⟨av, n, capv, zs, rfl, hcapv, hai.lt, norm_of_val hai.lt ?_, he, hwsv⟩, hkw⟩
          by_cases h0 : n = 0
          · exact .inl h0
          · refine .inr ?_
            have := val_ge (B := 65536) (zs := xs) (n := n) (by omega) (by rcases hxn with h | h; omega; exact h)
            omega
        · obtain rfl : c = 1 := by omega
          have hap1 := hap.alloc (Obj.cells #[Value.int IntKind.u32 ((1 : Nat) : Int)] 191)
          have hkw1 := hkw.alloc (Obj.cells #[Value.int IntKind.u32 ((1 : Nat) : Int)] 191)
          have hws1 := ws_one wr 1
          go_wp2_with (at_builtin; refine wpList_append_words rfl (.tmp 51) (.tmp 53) 95 rfl Tryz.underlying95 w hkw1 _ n zs rfl hap1 ⟨wr.heap.size, 0, none⟩ 1 1 (fun _ => 1) rfl hws1 (by omega) ?_; intro v' w1 hap2 hkw2)
          obtain ⟨av, capv, rfl, hcapv, hwsv⟩ := hap2.ws
          go_ret
          have he : val 65536 (cat zs n fun _ => 1) (n + 1) = val 65536 xs n + val 65536 ys n' := by rw [cat_val]; exact HEQ.out
          exact ⟨_, rfl, ⟨av, n + 1, capv, _, rfl, hcapv, cat_lt hai.lt (by decide), .inr (by simp [cat]), he, hwsv⟩, hkw2⟩
  · have tlt : decide (n' < n) = true := by simp; omega
    go_enter Tryz.func302, Tryz.ntmps302
    go_wp2
    clear hmk
    go_loopw [5, 6, 22] (fun ov cv iv wr => ∃ (k c : Nat) (zs : Nat → Nat), k ≤ n ∧ iv = .int .i64 (k : Int) ∧ cv = .int .u32 (c : Int) ∧ AdI xs (ext ys n') k zs c ∧ Ap wr w.heap.size ov k zs ∧ Kept w wr) (fun _ _ iv _ => n - (intOf iv).toNat)
    case atStart => exact ⟨0, 0, fun _ => 0, Nat.zero_le _, rfl, rfl, ⟨fun _ h => by omega, by omega, by simp [val]⟩, Ap.made _ _ _ _ (Nat.le_refl _) (by omega), (Kept.refl _).alloc _⟩
    case round =>
      obtain ⟨k, c, zs, hk, rfl, rfl, hai, hap, hkw⟩ := hrel
      have hcl := hai.clt
      by_cases hlt : k < n
      · obtain ⟨b, off, rfl, hcx⟩ := (HX.out.kept hkw) k hlt
        have hxk := HXL.out k hlt
        by_cases hlt2 : k < n'
        · obtain ⟨b', off', rfl, hcy⟩ := (HY.out.kept hkw) k hlt2
          have hyk := HYL.out k hlt2
          have hst := Lib.hid (hai.step hxk (by simp only [ext, if_pos hlt2]; exact hyk))
          simp only [ext, if_pos hlt2] at hst
          clear hai
          have hap1 := hap.alloc (Obj.cells #[Value.int IntKind.u32 (((xs k + c + ys k) % 65536 : Nat) : Int)] 191)
          have hkw1 := hkw.alloc (Obj.cells #[Value.int IntKind.u32 (((xs k + c + ys k) % 65536 : Nat) : Int)] 191)
          have hws1 := ws_one wr ((xs k + c + ys k) % 65536)
          have e1 : (((xs k + c + ys k) % 65536 : Nat) : Int) = ((xs k : Int) + (c : Int) + (ys k : Int)) % 65536 := by omega
          rw [e1] at hap1 hkw1 hws1
          clear e1
          go_wp2_with (at_builtin; refine wpList_append_words rfl (.tmp 41) (.tmp 44) 95 rfl Tryz.underlying95 w hkw1 _ k zs rfl hap1 ⟨wr.heap.size, 0, none⟩ 1 1 (fun _ => (xs k + c + ys k) % 65536) rfl hws1 (by omega) ?_; intro v' w1 hap2 hkw2)
          go_roundw
          case rel => exact ⟨k + 1, (xs k + c + ys k) / 65536, _, by omega, by go_num, by simp, hst.out, hap2, hkw2⟩
          case measure => simp [intOf]; omega
        · have hst := Lib.hid (hai.step hxk (by simp only [ext, if_neg hlt2]; decide))
          simp only [ext, if_neg hlt2, Nat.add_zero] at hst
          clear hai
          have hap1 := hap.alloc (Obj.cells #[Value.int IntKind.u32 (((xs k + c) % 65536 : Nat) : Int)] 191)
          have hkw1 := hkw.alloc (Obj.cells #[Value.int IntKind.u32 (((xs k + c) % 65536 : Nat) : Int)] 191)
          have hws1 := ws_one wr ((xs k + c) % 65536)
          have e1 : (((xs k + c) % 65536 : Nat) : Int) = ((xs k : Int) + (c : Int)) % 65536 := by omega
          rw [e1] at hap1 hkw1 hws1
          clear e1
          go_wp2_with (at_builtin; refine wpList_append_words rfl (.tmp 41) (.tmp 44) 95 rfl Tryz.underlying95 w hkw1 _ k zs rfl hap1 ⟨wr.heap.size, 0, none⟩ 1 1 (fun _ => (xs k + c) % 65536) rfl hws1 (by omega) ?_; intro v' w1 hap2 hkw2)
          go_roundw
          case rel => exact ⟨k + 1, (xs k + c) / 65536, _, by omega, by go_num, by simp, hst.out, hap2, hkw2⟩
          case measure => simp [intOf]; omega
      · obtain rfl : n = k := by omega
        have heq := hai.eq
        rw [val_ext hnn] at heq
        have HEQ := Lib.hid heq; clear heq
        by_cases hc0 : c = 0
        · subst hc0
          obtain ⟨av, capv, rfl, hcapv, hwsv⟩ := hap.ws
          go_wp2
          go_ret
          have he : val 65536 zs n = val 65536 xs n + val 65536 ys n' := by have := HEQ.out; simpa using this
          refine ⟨_, rfl, ⟨av, n, capv, zs, rfl, hcapv, hai.lt, norm_of_val hai.lt ?_, he, hwsv⟩, hkw⟩
          by_cases h0 : n = 0
          · exact .inl h0
          · refine .inr ?_
            have := val_ge (B := 65536) (zs := xs) (n := n) (by omega) (by rcases hxn with h | h; omega; exact h)
            omega
        · obtain rfl : c = 1 := by omega
          have hap1 := hap.alloc (Obj.cells #[Value.int IntKind.u32 ((1 : Nat) : Int)] 191)
          have hkw1 := hkw.alloc (Obj.cells #[Value.int IntKind.u32 ((1 : Nat) : Int)] 191)
          have hws1 := ws_one wr 1
          go_wp2_with (at_builtin; refine wpList_append_words rfl (.tmp 51) (.tmp 53) 95 rfl Tryz.underlying95 w hkw1 _ n zs rfl hap1 ⟨wr.heap.size, 0, none⟩ 1 1 (fun _ => 1) rfl hws1 (by omega) ?_; intro v' w1 hap2 hkw2)
          obtain ⟨av, capv, rfl, hcapv, hwsv⟩ := hap2.ws
          go_ret
          have he : val 65536 (cat zs n fun _ => 1) (n + 1) = val 65536 xs n + val 65536 ys n' := by rw [cat_val]; exact HEQ.out
          exact ⟨_, rfl, ⟨av, n + 1, capv, _, rfl, hcapv, cat_lt hai.lt (by decide), .inr (by simp [cat]), he, hwsv⟩, hkw2⟩

theorem nadd_calls {w : World} {v u : Value} {m k : Nat} (hv : Nt 65536 w v m) (hu : Nt 65536 w u k) (hm : m < Big) (hk : k < Big) :
    Calls Tryz.prog 302 #[v, u] w (RetNt 65536 (m + k) w) := by
  obtain ⟨a, n, cap, xs, rfl, hc, hd, hn, rfl, hw⟩ := hv
  obtain ⟨a', n', cap', ys, rfl, hc', hd', hn', rfl, hw'⟩ := hu
  have hl := len_big (.inl rfl) hn hm
  have hl' := len_big (.inl rfl) hn' hk
  by_cases h : n < n'
  · rw [Nat.add_comm]
    exact nadd_ge w a' a n' n cap' cap ys xs (by omega) (by omega) hd' hd hn' hw' hw _ _ (.inr ⟨h, rfl, rfl⟩)
  · exact nadd_ge w a a' n n' cap cap' xs ys (by omega) (by omega) hd hd' hn hw hw' _ _ (.inl ⟨rfl, rfl⟩)
end Go.Proofs.YtbapfnpbamnmpaaGreatDoor
end
