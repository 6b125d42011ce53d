/- A part of the proof that ClaimFree answers true for every input of bulk at most 1048576: conditions: the row's own. -/
import Derived.Test.YtbapfnpbamnmpaaGreatDoorVc
section
namespace Go.Proofs.YtbapfnpbamnmpaaGreatDoor
open Go Go.RowKit Go.Dig
open Go.Eng (Kept KW KeptB wp_region_kw kw_call)
theorem Clm.shape {w : World} {f : Nat} {v : Value} {c : ClaimD} (h : Clm w f v c) : ∃ (o g : Int) (z : Bool) (x1 : Option Addr) (x2 x3 : Nat) (x4 : Option Addr) (x5 x6 : Nat) (nm : ByteArray) (a0 : Option Addr) (n0 cap0 : Nat) (a1 : Option Addr) (n1 cap1 : Nat) (a2 : Option Addr) (n2 cap2 : Nat),
    v = .agg #[.int .i64 o, .int .i64 g, .bool z, .slice x1 x2 x3, .slice x4 x5 x6, .string nm, .slice a0 n0 cap0, .bool c.strict, .slice a1 n1 cap1, .slice a2 n2 cap2] ∧ Bxm w a1 n1 cap1 c.box ∧ Cnm w f a2 n2 cap2 c.conds := by
  obtain ⟨o, g, z, x1, x2, x3, x4, x5, x6, nm, a0, n0, cap0, a1, n1, cap1, a2, n2, cap2, rfl, -, hb, hc⟩ := h
  exact ⟨_, _, _, _, _, _, _, _, _, _, _, _, _, _, _, _, _, _, _, rfl, hb, hc⟩
/-- the error of a claim and a name -/
def namedE (c : ClaimD) (nm : ByteArray) : Int := if c.ok = true then (if sideAt c.box 0 nm < 0 then 51 else 0) else 60
set_option maxHeartbeats 2000000 in
set_option maxRecDepth 100000 in
theorem named_calls {f : Nat} {w : World} {v : Value} {c : ClaimD} (h : Clm w f v c) (hT : Laid w) {b off cap : Nat} {nm : ByteArray} (hc : w.cell? ⟨b, off, none⟩ = some (.string nm)) :
    Calls Tryz.prog 59 #[v, .slice (some ⟨b, off, none⟩) 1 cap] w fun e w' => e = .returned (.int .i64 (namedE c nm)) ∧ Kept w w' := by
  have hh := h
  obtain ⟨o, g, z, x1, x2, x3, x4, x5, x6, nm', a0, n0, cap0, a1, n1, cap1, a2, n2, cap2, rfl, hb, -⟩ := h.shape
  have hk : Kept w (w.alloc (.cells #[.int .i64 o, .int .i64 g, .bool z, .slice x1 x2 x3, .slice x4 x5 x6, .string nm', .slice a0 n0 cap0, .bool c.strict, .slice a1 n1 cap1, .slice a2 n2 cap2] 31)) := (Kept.refl w).alloc _
  have hbx := Blk.new w #[.int .i64 o, .int .i64 g, .bool z, .slice x1 x2 x3, .slice x4 x5 x6, .string nm', .slice a0 n0 cap0, .bool c.strict, .slice a1 n1 cap1, .slice a2 n2 cap2] 31
  have hv := cvalid_calls (hh.kept hk) (hT.kept hk)
  have hs := fun (w' : World) (k : Kept w w') => side_calls (hb.kept k) nm
  clear hh h hb hT
  cases ho : c.ok
  · have HR : Hid (namedE c nm = 60) := Lib.hid (by unfold namedE; rw [ho]; rfl)
    rw [ho] at hv
    clear hs
    go_enter Tryz.func59, Tryz.ntmps59
    go_wp2_with (first | (go_at_call 28; refine hv.mono ?_; rintro e w1 ⟨rfl, hk1⟩))
    go_ret
    exact ⟨by rw [HR.out]; rfl, hk.trans hk1⟩
  rw [ho] at hv
  have HY : Hid (∃ y, sideAt c.box 0 nm = y) := Lib.hid ⟨_, rfl⟩
  obtain ⟨y, hy⟩ := HY.out
  clear HY
  have HR : Hid (namedE c nm = if y < 0 then 51 else 0) := Lib.hid (by unfold namedE; rw [ho, hy, if_pos rfl])
  rw [hy] at hs
  clear hy ho
  have c1 := fun (w' : World) (k : Kept w w') => k.cell hc
  go_enter Tryz.func59, Tryz.ntmps59
  go_wp2_with (first | (go_at_call 28; refine hv.mono ?_; rintro e w1 ⟨rfl, hk1⟩))
  have hkw := hk.trans hk1
  obtain ⟨e0, e1, e2, e3, e4, e5, e6, e7, e8, e9, -⟩ := (hbx.kept hk1).facts10
  have hc1 := hkw.cell hc
  have hs1 := hs _ hkw
  clear c1 hs
  go_loopw [12] (fun s wr => (s = .int .i64 0 ∧ wr = w1) ∨ (s = .int .i64 1 ∧ Kept w1 wr ∧ Hid (0 ≤ y))) (fun s _ => 1 - (intOf s).toNat)
  case atStart => exact .inl ⟨rfl, rfl⟩
  case round =>
    rcases hrel with ⟨rfl, rfl⟩ | ⟨rfl, hk2, HN⟩
    · by_cases hlt : y < 0
      · have t1 : decide (y < 0) = true := by simpa using hlt
        rw [if_pos hlt] at HR
        clear hlt
        go_wp2_with (first | (go_at_call 134; refine hs1.mono ?_; rintro e w2 ⟨rfl, hk2⟩))
        go_ret
        exact ⟨by rw [HR.out]; rfl, hkw.trans hk2⟩
      · have t1 : decide (y < 0) = false := by simpa using hlt
        have HN : Hid (0 ≤ y) := Lib.hid (by omega)
        clear hlt
        go_wp2_with (first | (go_at_call 134; refine hs1.mono ?_; rintro e w2 ⟨rfl, hk2⟩))
        go_roundw
        case rel => exact .inr ⟨rfl, hk2, HN⟩
        case measure => simp [intOf]
    · rw [if_neg (by have := HN.out; omega)] at HR
      clear hs1
      go_wp2
      go_ret
      exact ⟨by rw [HR.out]; rfl, hkw.trans hk2⟩
set_option maxHeartbeats 2000000 in
set_option maxRecDepth 100000 in
theorem rnamed_calls {f : Nat} {w : World} {v : Value} {c : ClaimD} (h : Clm w f v c) (hT : Laid w) (nm : ByteArray) :
    Calls Tryz.prog 63 #[v, .string nm] w fun e w' => e = .returned (.int .i64 (namedE c nm)) ∧ Kept w w' := by
  have hh := h
  obtain ⟨o, g, z, x1, x2, x3, x4, x5, x6, nm', a0, n0, cap0, a1, n1, cap1, a2, n2, cap2, rfl, hb, -⟩ := h.shape
  have hk : Kept w (w.alloc (.cells #[.int .i64 o, .int .i64 g, .bool z, .slice x1 x2 x3, .slice x4 x5 x6, .string nm', .slice a0 n0 cap0, .bool c.strict, .slice a1 n1 cap1, .slice a2 n2 cap2] 31)) := (Kept.refl w).alloc _
  have hbx := Blk.new w #[.int .i64 o, .int .i64 g, .bool z, .slice x1 x2 x3, .slice x4 x5 x6, .string nm', .slice a0 n0 cap0, .bool c.strict, .slice a1 n1 cap1, .slice a2 n2 cap2] 31
  have hv := r6valid_calls (hh.kept hk) (hT.kept hk)
  have hs := fun (w' : World) (k : Kept w w') => rside_calls (hb.kept k) nm
  clear hh h hb hT
  cases ho : c.ok
  · have HR : Hid (namedE c nm = 60) := Lib.hid (by unfold namedE; rw [ho]; rfl)
    rw [ho] at hv
    clear hs
    go_enter Tryz.func63, Tryz.ntmps63
    go_wp2_with (first | (go_at_call 27; refine hv.mono ?_; rintro e w1 ⟨rfl, hk1⟩))
    go_ret
    exact ⟨by rw [HR.out]; rfl, hk.trans hk1⟩
  rw [ho] at hv
  have HY : Hid (∃ y, sideAt c.box 0 nm = y) := Lib.hid ⟨_, rfl⟩
  obtain ⟨y, hy⟩ := HY.out
  clear HY
  have HR : Hid (namedE c nm = if y < 0 then 51 else 0) := Lib.hid (by unfold namedE; rw [ho, hy, if_pos rfl])
  rw [hy] at hs
  clear hy ho
  by_cases hlt : y < 0
  · have t1 : decide (y < 0) = true := by simpa using hlt
    rw [if_pos hlt] at HR
    clear hlt
    go_enter Tryz.func63, Tryz.ntmps63
    go_wp2_with (first | (go_at_call 27; refine hv.mono ?_; rintro e w1 ⟨rfl, hk1⟩; obtain ⟨e0, e1, e2, e3, e4, e5, e6, e7, e8, e9, -⟩ := (hbx.kept hk1).facts10) | (go_at_call 83; refine (hs _ (hk.trans hk1)).mono ?_; rintro e w2 ⟨rfl, rfl⟩))
    go_ret
    exact ⟨by rw [HR.out]; rfl, hk.trans hk1⟩
  · have t1 : decide (y < 0) = false := by simpa using hlt
    rw [if_neg hlt] at HR
    clear hlt
    go_enter Tryz.func63, Tryz.ntmps63
    go_wp2_with (first | (go_at_call 27; refine hv.mono ?_; rintro e w1 ⟨rfl, hk1⟩; obtain ⟨e0, e1, e2, e3, e4, e5, e6, e7, e8, e9, -⟩ := (hbx.kept hk1).facts10) | (go_at_call 83; refine (hs _ (hk.trans hk1)).mono ?_; rintro e w2 ⟨rfl, rfl⟩))
    go_ret
    exact ⟨by rw [HR.out]; rfl, hk.trans hk1⟩
/-! ### free -/
/-- the condition contains the variable -/
def hasC (nm : ByteArray) (k : CondD) : Bool := hasB (varsT k.t) nm
def cixOf (p : CondD → Bool) : List CondD → Nat → Int
  | [], _ => -1
  | s :: r, k => if p s = true then (k : Int) else cixOf p r (k + 1)
theorem cixOf_any (p : CondD → Bool) : ∀ (l : List CondD) (k : Nat), decide (0 ≤ cixOf p l k) = l.any p
  | [], _ => by simp [cixOf]
  | s :: r, k => by
    rw [cixOf, List.any_cons]
    cases h : p s
    · rw [if_neg (by simp), cixOf_any p r (k + 1), Bool.false_or]
    · rw [if_pos rfl, Bool.true_or]; simp
theorem cixOf_drop (p : CondD → Bool) {l : List CondD} {k : Nat} (h : k < l.length) : cixOf p (l.drop k) k = if p l[k] = true then (k : Int) else cixOf p (l.drop (k + 1)) (k + 1) := by
  rw [List.drop_eq_getElem_cons h, cixOf]
theorem cixOf_end (p : CondD → Bool) (l : List CondD) : cixOf p (l.drop l.length) l.length = -1 := by simp [cixOf]
set_option maxHeartbeats 1000000 in
set_option maxRecDepth 100000 in
theorem rfree_calls {f : Nat} {w : World} {v : Value} {c : ClaimD} (h : Clm w f v c) (nm : ByteArray) :
    Calls Tryz.prog 64 #[v, .string nm] w fun e w' => e = .returned (.bool (!c.conds.any (hasC nm))) ∧ Kept w w' := by
  obtain ⟨o, g, z, x1, x2, x3, x4, x5, x6, nm', a0, n0, cap0, a1, n1, cap1, a2, n2, cap2, rfl, -, hc⟩ := h.shape
  clear h
  have hk : Kept w (w.alloc (.cells #[.int .i64 o, .int .i64 g, .bool z, .slice x1 x2 x3, .slice x4 x5 x6, .string nm', .slice a0 n0 cap0, .bool c.strict, .slice a1 n1 cap1, .slice a2 n2 cap2] 31)) := (Kept.refl w).alloc _
  have hbx := Blk.new w #[.int .i64 o, .int .i64 g, .bool z, .slice x1 x2 x3, .slice x4 x5 x6, .string nm', .slice a0 n0 cap0, .bool c.strict, .slice a1 n1 cap1, .slice a2 n2 cap2] 31
  rw [← cixOf_any (hasC nm) c.conds 0]
  have hn2 := hc.2.2.1
  have HCE := Lib.hid hc.1
  have HC := Lib.hid hc; clear hc
  go_enter Tryz.func64, Tryz.ntmps64
  go_wp2
  go_loopw [5] (fun s wr => ∃ k : Nat, k ≤ n2 ∧ s = .int .i64 (k : Int) ∧ Hid (cixOf (hasC nm) (c.conds.drop k) k = cixOf (hasC nm) c.conds 0) ∧ Kept w wr ∧ Kept (w.alloc (.cells #[.int .i64 o, .int .i64 g, .bool z, .slice x1 x2 x3, .slice x4 x5 x6, .string nm', .slice a0 n0 cap0, .bool c.strict, .slice a1 n1 cap1, .slice a2 n2 cap2] 31)) wr) (fun s _ => n2 - (intOf s).toNat)
  case atStart => exact ⟨0, Nat.zero_le _, rfl, Lib.hid rfl, hk, Kept.refl _⟩
  case round =>
    obtain ⟨k, hkn, rfl, HT, hkw, hkb⟩ := hrel
    obtain ⟨-, -, -, -, -, -, -, -, -, e9, -⟩ := (hbx.kept hkb).facts10
    by_cases hlt : k < n2
    · have hlt' : k < c.conds.length := by have := HCE.out; omega
      obtain ⟨b, off, o', g', z', u1, u2, u3, u4, u5, u6, nm2, a', n', cap', rfl, q0, q1, q2, q3, q4, q5, q6, q7, hex⟩ := HC.out.2.2.2 k hlt'
      replace q0 := hkw.cell q0
      replace q1 := hkw.cell q1
      replace q2 := hkw.cell q2
      replace q3 := hkw.cell q3
      replace q4 := hkw.cell q4
      replace q5 := hkw.cell q5
      replace q6 := hkw.cell q6
      clear q7
      have hs := Lib.hid (cixOf_drop (hasC nm) hlt')
      have hh := has04_calls f (hex.kept hkw) nm
      clear hex
      have HH : Hid (hasC nm c.conds[k] = hasB (varsT c.conds[k].t) nm) := Lib.hid rfl
      cases hq : hasB (varsT c.conds[k].t) nm
      · rw [hq] at hh HH
        clear hq
        go_wp2_with (first | (go_at_call 138; refine hh.mono ?_; rintro e w2 ⟨rfl, hk2⟩))
        go_roundw
        case rel => exact ⟨k + 1, by omega, by go_num, Lib.hid (by rw [← HT.out, hs.out, HH.out]; rfl), hkw.trans hk2, hkb.trans hk2⟩
        case measure => simp [intOf]; omega
      · rw [hq] at hh HH
        have HR : Hid ((!decide (0 ≤ cixOf (hasC nm) c.conds 0)) = false) := Lib.hid (by rw [← HT.out, hs.out, HH.out]; simp)
        clear hq
        go_wp2_with (first | (go_at_call 138; refine hh.mono ?_; rintro e w2 ⟨rfl, hk2⟩))
        go_ret
        exact ⟨by rw [HR.out]; rfl, hkw.trans hk2⟩
    · obtain rfl : n2 = k := by omega
      have HR : Hid ((!decide (0 ≤ cixOf (hasC nm) c.conds 0)) = true) := Lib.hid (by rw [← HT.out, HCE.out, cixOf_end]; rfl)
      go_wp2
      go_ret
      exact ⟨by rw [HR.out]; rfl, hkw⟩
end Go.Proofs.YtbapfnpbamnmpaaGreatDoor
end

section
namespace Go.Proofs.YtbapfnpbamnmpaaGreatDoor
open Go Go.RowKit Go.Dig
open Go.Eng (Kept KW KeptB wp_region_kw kw_call)
set_option maxHeartbeats 1000000 in
set_option maxRecDepth 100000 in
theorem free1_calls {f : Nat} {w : World} {t : Tree} {bx : Nat} {nm : ByteArray} {o g : Int} {z : Bool} {x1 : Option Addr} {x2 x3 : Nat} {x4 : Option Addr} {x5 x6 : Nat} {nm' : ByteArray} {a' : Option Addr} {n' cap' : Nat} {st : Bool}
    (h : Ex w f (.agg #[.int .i64 o, .int .i64 g, .bool z, .slice x1 x2 x3, .slice x4 x5 x6, .string nm', .slice a' n' cap']) t) (hT : Laid w) (hok : t.ok = true) (hc : w.cell? ⟨bx, 0, none⟩ = some (.string nm)) :
    Calls Tryz.prog 61 #[.agg #[.int .i64 o, .int .i64 g, .bool z, .slice x1 x2 x3, .slice x4 x5 x6, .string nm', .slice a' n' cap', .bool st], .pointer (some ⟨bx, 0, none⟩)] w fun e w' => e = .returned (.bool (hasB (varsT t) nm)) ∧ Kept w w' := by
  have hk : Kept w (w.alloc (.cells #[.int .i64 o, .int .i64 g, .bool z, .slice x1 x2 x3, .slice x4 x5 x6, .string nm', .slice a' n' cap', .bool st] 93)) := (Kept.refl w).alloc _
  have hm := mentions_calls (h.kept hk) (hT.kept hk) hok nm
  have hc1 := hk.cell hc
  clear h hT hok
  go_enter Tryz.func61, Tryz.ntmps61
  go_wp2_with (first | (go_at_call 62; refine hm.mono ?_; rintro e w1 ⟨rfl, hk1⟩))
  go_ret
  exact ⟨rfl, hk.trans hk1⟩
set_option maxHeartbeats 1000000 in
set_option maxRecDepth 100000 in
theorem index135_calls {f : Nat} {w : World} {a : Option Addr} {n cap : Nat} {l : List CondD} (h : Cnm w f a n cap l) (hT : Laid w) (hok : ∀ k, (hk : k < l.length) → l[k].t.ok = true) {bx : Nat} {nm : ByteArray} (hc : w.cell? ⟨bx, 0, none⟩ = some (.string nm)) :
    Calls Tryz.prog 135 #[.slice a n cap, .func (.func 61) #[] #[.pointer (some ⟨bx, 0, none⟩)]] w fun e w' => e = .returned (.int .i64 (cixOf (hasC nm) l 0)) ∧ Kept w w' := by
  have hn2 := h.2.2.1
  have HCE := Lib.hid h.1
  have HC := Lib.hid h; clear h
  have HTT := Lib.hid hT; clear hT
  have HO := Lib.hid hok; clear hok
  go_enter Tryz.func135, Tryz.ntmps135
  go_wp2
  go_loopw [8] (fun s wr => ∃ k : Nat, k ≤ n ∧ s = .int .i64 (k : Int) ∧ Hid (cixOf (hasC nm) (l.drop k) k = cixOf (hasC nm) l 0) ∧ Kept w wr) (fun s _ => n - (intOf s).toNat)
  case atStart => exact ⟨0, Nat.zero_le _, rfl, Lib.hid rfl, Kept.refl w⟩
  case round =>
    obtain ⟨k, hkn, rfl, HT, hkw⟩ := hrel
    by_cases hlt : k < n
    · have hlt' : k < l.length := by have := HCE.out; omega
      obtain ⟨b, off, o', g', z', u1, u2, u3, u4, u5, u6, nm2, a', n', cap', rfl, q0, q1, q2, q3, q4, q5, q6, q7, hex⟩ := HC.out.2.2.2 k hlt'
      replace q0 := hkw.cell q0
      replace q1 := hkw.cell q1
      replace q2 := hkw.cell q2
      replace q3 := hkw.cell q3
      replace q4 := hkw.cell q4
      replace q5 := hkw.cell q5
      replace q6 := hkw.cell q6
      replace q7 := hkw.cell q7
      have hcl := free1_calls (st := l[k].strict) (hex.kept hkw) (HTT.out.kept hkw) (HO.out k hlt') (hkw.cell hc)
      clear hex
      have hs := Lib.hid (cixOf_drop (hasC nm) hlt')
      have HH : Hid (hasC nm l[k] = hasB (varsT l[k].t) nm) := Lib.hid rfl
      generalize l[k].strict = st at *
      cases hq : hasB (varsT l[k].t) nm
      · rw [hq] at hcl HH
        clear hq
        go_wp2_with (go_at_call 61; refine hcl.mono ?_; rintro e w1 ⟨rfl, hk1⟩)
        go_roundw
        case rel => exact ⟨k + 1, by omega, by go_num, Lib.hid (by rw [← HT.out, hs.out, HH.out]; rfl), hkw.trans hk1⟩
        case measure => simp [intOf]; omega
      · rw [hq] at hcl HH
        have HR : Hid (cixOf (hasC nm) l 0 = (k : Int)) := Lib.hid (by rw [← HT.out, hs.out, HH.out]; rfl)
        clear hq
        go_wp2_with (go_at_call 61; refine hcl.mono ?_; rintro e w1 ⟨rfl, hk1⟩)
        go_ret
        exact ⟨by rw [HR.out]; rfl, hkw.trans hk1⟩
    · obtain rfl : n = k := by omega
      have HR : Hid (cixOf (hasC nm) l 0 = -1) := Lib.hid (by rw [← HT.out, HCE.out, cixOf_end])
      go_wp2
      go_ret
      exact ⟨by rw [HR.out]; rfl, hkw⟩
set_option maxHeartbeats 1000000 in
theorem contains60_calls {f : Nat} {w : World} {a : Option Addr} {n cap : Nat} {l : List CondD} (h : Cnm w f a n cap l) (hT : Laid w) (hok : ∀ k, (hk : k < l.length) → l[k].t.ok = true) {bx : Nat} {nm : ByteArray} (hc : w.cell? ⟨bx, 0, none⟩ = some (.string nm)) :
    Calls Tryz.prog 60 #[.slice a n cap, .func (.func 61) #[] #[.pointer (some ⟨bx, 0, none⟩)]] w fun e w' => e = .returned (.bool (l.any (hasC nm))) ∧ Kept w w' := by
  have hi := index135_calls h hT hok hc
  clear h hT hok hc
  rw [← cixOf_any (hasC nm) l 0]
  generalize cixOf (hasC nm) l 0 = y at *
  go_enter Tryz.func60, Tryz.ntmps60
  go_wp2_with (go_at_call 135; refine hi.mono ?_; rintro e w1 ⟨rfl, hk1⟩)
  go_ret
  exact ⟨rfl, hk1⟩
theorem ok_conds {c : ClaimD} (h : c.ok = true) (k : Nat) (hk : k < c.conds.length) : c.conds[k].t.ok = true := by
  cases ho : c.conds[k].t.ok
  · rw [ok_bad hk (by unfold condOk; rw [ho]; rfl)] at h; cases h
  · rfl
/-- what Free answers -/
def freeB (c : ClaimD) (nm : ByteArray) : Bool := decide (namedE c nm = 0) && !c.conds.any (hasC nm)
theorem namedE_ok {c : ClaimD} {nm : ByteArray} (h : namedE c nm = 0) : c.ok = true := by
  unfold namedE at h
  cases ho : c.ok
  · rw [ho] at h; simp at h
  · rfl
set_option maxHeartbeats 2000000 in
set_option maxRecDepth 100000 in
theorem free_calls {f : Nat} {w : World} {v : Value} {c : ClaimD} (h : Clm w f v c) (hT : Laid w) (nm : ByteArray) :
    Calls Tryz.prog 19 #[v, .string nm] w fun e w' => e = .returned (.tuple #[.bool (freeB c nm), .int .i64 (namedE c nm)]) ∧ Kept w w' := by
  have hh := h
  obtain ⟨o, g, z, x1, x2, x3, x4, x5, x6, nm', a0, n0, cap0, a1, n1, cap1, a2, n2, cap2, rfl, -, hc⟩ := h.shape
  have hbx := Blk.new w #[.int .i64 o, .int .i64 g, .bool z, .slice x1 x2 x3, .slice x4 x5 x6, .string nm', .slice a0 n0 cap0, .bool c.strict, .slice a1 n1 cap1, .slice a2 n2 cap2] 31
  have hbn := Blk.new (w.alloc (.cells #[.int .i64 o, .int .i64 g, .bool z, .slice x1 x2 x3, .slice x4 x5 x6, .string nm', .slice a0 n0 cap0, .bool c.strict, .slice a1 n1 cap1, .slice a2 n2 cap2] 31)) #[.string nm] 9
  have hbs := Blk.new ((w.alloc (.cells #[.int .i64 o, .int .i64 g, .bool z, .slice x1 x2 x3, .slice x4 x5 x6, .string nm', .slice a0 n0 cap0, .bool c.strict, .slice a1 n1 cap1, .slice a2 n2 cap2] 31)).alloc (.cells #[.string nm] 9)) #[.string nm] 9
  have hk3 : Kept w (((w.alloc (.cells #[.int .i64 o, .int .i64 g, .bool z, .slice x1 x2 x3, .slice x4 x5 x6, .string nm', .slice a0 n0 cap0, .bool c.strict, .slice a1 n1 cap1, .slice a2 n2 cap2] 31)).alloc (.cells #[.string nm] 9)).alloc (.cells #[.string nm] 9)) := (((Kept.refl w).alloc _).alloc _).alloc _
  have hbx := (hbx.kept ((Kept.refl _).alloc (.cells #[.string nm] 9))).kept ((Kept.refl _).alloc (.cells #[.string nm] 9))
  have hbn := hbn.kept ((Kept.refl _).alloc (.cells #[.string nm] 9))
  have e1 : (w.alloc (.cells #[.int .i64 o, .int .i64 g, .bool z, .slice x1 x2 x3, .slice x4 x5 x6, .string nm', .slice a0 n0 cap0, .bool c.strict, .slice a1 n1 cap1, .slice a2 n2 cap2] 31)).heap.size = w.heap.size + 1 := by simp [go_sem]
  have e2 : ((w.alloc (.cells #[.int .i64 o, .int .i64 g, .bool z, .slice x1 x2 x3, .slice x4 x5 x6, .string nm', .slice a0 n0 cap0, .bool c.strict, .slice a1 n1 cap1, .slice a2 n2 cap2] 31)).alloc (.cells #[.string nm] 9)).heap.size = w.heap.size + 1 + 1 := by simp [go_sem]
  rw [e1] at hbn
  rw [e2] at hbs
  clear e1 e2
  have hnm := named_calls (hh.kept hk3) (hT.kept hk3) (b := w.heap.size + 1 + 1) (off := 0) (cap := 1) hbs.facts1.1
  have hmf : ∀ (fn : Fn) (first cap : Array Value) (w : World), (Instr.makeFunc fn first cap).run Tryz.prog w = .ok (.func fn first cap) w := fun _ _ _ _ => rfl
  have hct := fun (w' : World) (k : Kept w w') (ho : c.ok = true) (hx : w'.cell? ⟨w.heap.size + 1, 0, none⟩ = some (.string nm)) => contains60_calls (hc.kept k) (hT.kept k) (ok_conds ho) hx
  clear hh h hc hT
  have HFB : Hid (freeB c nm = (decide (namedE c nm = 0) && !c.conds.any (hasC nm))) := Lib.hid rfl
  have HOK : Hid (namedE c nm = 0 → c.ok = true) := Lib.hid namedE_ok
  generalize c.conds.any (hasC nm) = q at *
  generalize freeB c nm = fb at *
  generalize namedE c nm = y at *
  by_cases h0 : y = 0
  · subst h0
    have HFB2 : Hid (fb = !q) := Lib.hid (by rw [HFB.out]; simp)
    have hct := fun (w' : World) (k : Kept w w') => hct w' k (HOK.out rfl)
    go_enter Tryz.func19, Tryz.ntmps19
    go_wp2_with (first
      | (go_at_call 59; refine hnm.mono ?_; rintro e w1 ⟨rfl, hk1⟩; obtain ⟨-, -, -, -, -, -, -, -, -, e9, -⟩ := (hbx.kept hk1).facts10; have hcc := hct _ (hk3.trans hk1) (hbn.kept hk1).facts1.1)
      | (go_at_call 60; refine hcc.mono ?_; rintro e w2 ⟨rfl, hk2⟩))
    exact bodyPost_ret (v := .tuple #[.bool (!q), .int .i64 0]) (by simp [results, Tryz.results19, go_sem]) rfl ⟨by rw [HFB2.out], (hk3.trans hk1).trans hk2⟩
  · have HFB2 : Hid (fb = false) := Lib.hid (by rw [HFB.out]; simp [h0])
    have t1 : (y != 0) = true := by simpa using h0
    go_enter Tryz.func19, Tryz.ntmps19
    go_wp2_with (first | (go_at_call 59; refine hnm.mono ?_; rintro e w1 ⟨rfl, hk1⟩))
    exact bodyPost_ret (v := .tuple #[.bool false, .int .i64 y]) (by simp [results, Tryz.results19, go_sem]) rfl ⟨by rw [HFB2.out], hk3.trans hk1⟩
set_option maxHeartbeats 2000000 in
set_option maxRecDepth 100000 in
theorem r6free_calls {f : Nat} {w : World} {v : Value} {c : ClaimD} (h : Clm w f v c) (hT : Laid w) (nm : ByteArray) :
    Calls Tryz.prog 20 #[v, .string nm] w fun e w' => e = .returned (.tuple #[.bool (freeB c nm), .int .i64 (namedE c nm)]) ∧ Kept w w' := by
  have hh := h
  obtain ⟨o, g, z, x1, x2, x3, x4, x5, x6, nm', a0, n0, cap0, a1, n1, cap1, a2, n2, cap2, rfl, -, -⟩ := h.shape
  have hk : Kept w (w.alloc (.cells #[.int .i64 o, .int .i64 g, .bool z, .slice x1 x2 x3, .slice x4 x5 x6, .string nm', .slice a0 n0 cap0, .bool c.strict, .slice a1 n1 cap1, .slice a2 n2 cap2] 31)) := (Kept.refl w).alloc _
  have hbx := Blk.new w #[.int .i64 o, .int .i64 g, .bool z, .slice x1 x2 x3, .slice x4 x5 x6, .string nm', .slice a0 n0 cap0, .bool c.strict, .slice a1 n1 cap1, .slice a2 n2 cap2] 31
  have hnm := rnamed_calls (hh.kept hk) (hT.kept hk) nm
  have hct := fun (w' : World) (k : Kept w w') => rfree_calls (hh.kept k) nm
  clear hh h hT
  have HFB : Hid (freeB c nm = (decide (namedE c nm = 0) && !c.conds.any (hasC nm))) := Lib.hid rfl
  generalize c.conds.any (hasC nm) = q at *
  generalize freeB c nm = fb at *
  generalize namedE c nm = y at *
  by_cases h0 : y = 0
  · subst h0
    have HFB2 : Hid (fb = !q) := Lib.hid (by rw [HFB.out]; simp)
    go_enter Tryz.func20, Tryz.ntmps20
    go_wp2_with (first
      | (go_at_call 63; refine hnm.mono ?_; rintro e w1 ⟨rfl, hk1⟩; obtain ⟨e0, e1, e2, e3, e4, e5, e6, e7, e8, e9, -⟩ := (hbx.kept hk1).facts10; have hcc := hct _ (hk.trans hk1))
      | (go_at_call 64; refine hcc.mono ?_; rintro e w2 ⟨rfl, hk2⟩))
    exact bodyPost_ret (v := .tuple #[.bool (!q), .int .i64 0]) (by simp [results, Tryz.results20, go_sem]) rfl ⟨by rw [HFB2.out], (hk.trans hk1).trans hk2⟩
  · have HFB2 : Hid (fb = false) := Lib.hid (by rw [HFB.out]; simp [h0])
    have t1 : (y == 0) = false := by simpa using h0
    go_enter Tryz.func20, Tryz.ntmps20
    go_wp2_with (first | (go_at_call 63; refine hnm.mono ?_; rintro e w1 ⟨rfl, hk1⟩; obtain ⟨e0, e1, e2, e3, e4, e5, e6, e7, e8, e9, -⟩ := (hbx.kept hk1).facts10))
    exact bodyPost_ret (v := .tuple #[.bool false, .int .i64 y]) (by simp [results, Tryz.results20, go_sem]) rfl ⟨by rw [HFB2.out], hk.trans hk1⟩
end Go.Proofs.YtbapfnpbamnmpaaGreatDoor
end
