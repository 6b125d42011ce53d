/- A part of the proof that ClaimValid answers true for every input of bulk at most 1048576: conditions: the row's own. -/
import Derived.Test.YtbapfnpbamnmpaaGreatDoorTb
import Derived.Test.YtbapfnpbamnmpaaGreatDoorTe
section
namespace Go.Proofs.YtbapfnpbamnmpaaGreatDoor
open Go Go.RowKit Go.Dig Go.Deep
open Go.Eng (Kept KW KeptB)
mutual
/-- how many nodes a tree has -/
def nodesT : Tree → Nat
  | .node _ _ _ _ _ _ kids => nodesL kids + 1
def nodesL : List Tree → Nat
  | [] => 0
  | t :: ts => nodesT t + nodesL ts
end
mutual
/-- the names of the variables, as the reference goes -/
def varsT : Tree → List ByteArray
  | .node op _ _ _ _ name kids => if op = 2 then [name] else varsL kids
def varsL : List Tree → List ByteArray
  | [] => []
  | t :: ts => varsT t ++ varsL ts
end
mutual
theorem cnt_nodes : ∀ (t : Tree) (d m m' : Nat), cnt t d m = some m' → m' = m + nodesT t
  | .node op arg s N D name kids, d, m, m' => by
    intro h
    rw [cnt] at h
    split at h
    · cases h
    · have := cnts_nodes kids (d + 1) (m + 1) m' h
      rw [nodesT]; omega
theorem cnts_nodes : ∀ (ts : List Tree) (d m m' : Nat), cnts ts d m = some m' → m' = m + nodesL ts
  | [], d, m, m' => by
    intro h
    rw [cnts] at h
    cases h
    simp [nodesL]
  | t :: ts, d, m, m' => by
    intro h
    rw [cnts] at h
    cases h1 : cnt t d m with
    | none => rw [h1] at h; cases h
    | some m1 =>
      rw [h1] at h
      have h2 := cnt_nodes t d m m1 h1
      have h3 := cnts_nodes ts d m1 m' h
      rw [nodesL]; omega
end
theorem Tree.ok_nodes {t : Tree} (h : t.ok = true) : nodesT t ≤ 300 := by
  unfold Tree.ok at h
  obtain ⟨m, hm⟩ := Option.isSome_iff_exists.1 h
  have h1 := cnt_nodes _ _ _ _ hm
  have h2 := cnt_le _ _ _ _ hm
  omega
/-- a slice of strings comes back that holds just the old ones and those of vs -/
def RetNames (ss vs : List ByteArray) (n : Nat) (w : World) (e : Ending) (w' : World) : Prop :=
  ∃ (a : Option Addr) (n' cap : Nat) (ts : List ByteArray), e = .returned (.slice a n' cap) ∧ SL w' a n' ts ∧ n' ≤ cap ∧ n' ≤ n ∧ (∀ x, x ∈ ts ↔ x ∈ ss ∨ x ∈ vs) ∧ Kept w w'
theorem varsL_take {kids : List Tree} {k : Nat} (h : k < kids.length) (x : ByteArray) : x ∈ varsL (kids.take (k + 1)) ↔ x ∈ varsL (kids.take k) ∨ x ∈ varsT kids[k] := by
  have app : ∀ (a b : List Tree), varsL (a ++ b) = varsL a ++ varsL b := by
    intro a b
    induction a with
    | nil => simp [varsL]
    | cons t ts ih => simp [varsL, ih]
  rw [List.take_succ_eq_append_getElem h, app]
  simp [varsL]
theorem nodesL_drop {kids : List Tree} {k : Nat} (h : k < kids.length) : nodesL (kids.drop k) = nodesT kids[k] + nodesL (kids.drop (k + 1)) := by
  rw [List.drop_eq_getElem_cons h, nodesL]
/-! ### the reference's Names -/
set_option maxHeartbeats 2000000 in
set_option maxRecDepth 100000 in
theorem names04_calls : ∀ (f : Nat) {w : World} {v : Value} {t : Tree}, Ex w f v t → ∀ (a : Option Addr) (n cap : Nat) (ss : List ByteArray), SL w a n ss → n ≤ cap → n + nodesT t ≤ 100000 →
    Calls Tryz.prog 147 #[v, .slice a n cap] w (RetNames ss (varsT t) (n + nodesT t) w)
  | 0, _, _, _, h => h.elim
  | f + 1, w, v, .node op arg s N D name kids, h => by
    intro a n cap ss hsl hcap hb
    obtain ⟨x1, x2, x3, x4, x5, x6, a0, cap0, rfl, hc, hn, hr⟩ := h.shape
    have hkid := fun (i : Nat) (hi : i < kids.length) => h.kid hi
    clear h hr
    have hk : Kept w (w.alloc (.cells #[.int .i64 op, .int .i64 arg, .bool s, .slice x1 x2 x3, .slice x4 x5 x6, .string name, .slice a0 kids.length cap0] 27)) := (Kept.refl w).alloc _
    have hbx := Blk.new w #[.int .i64 op, .int .i64 arg, .bool s, .slice x1 x2 x3, .slice x4 x5 x6, .string name, .slice a0 kids.length cap0] 27
    have HNT : Hid (nodesT (.node op arg s N D name kids) = nodesL kids + 1) := Lib.hid (by rw [nodesT])
    have HB := Lib.hid hb; clear hb
    by_cases h2 : op = 2
    · subst h2
      have HV : Hid (varsT (.node 2 arg s N D name kids) = [name]) := Lib.hid (by rw [varsT, if_pos rfl])
      have hp := put_calls (hsl.kept hk) hcap (by have := HB.out; omega) name
      clear hkid
      go_enter Tryz.func147, Tryz.ntmps147
      go_wp2_with (first | (go_at_call 241; refine hp.mono ?_; rintro e w1 ⟨a1, n1, c1, ts, rfl, hsl1, hc1, hn1, hm1, hk1⟩))
      go_ret
      exact ⟨a1, n1, c1, ts, rfl, hsl1, hc1, by rw [HNT.out]; omega, fun x => by rw [hm1, HV.out]; simp, hk.trans hk1⟩
    have t2 : (op == 2) = false := by simpa using h2
    have HV : Hid (varsT (.node op arg s N D name kids) = varsL kids) := Lib.hid (by rw [varsT, if_neg h2])
    go_enter Tryz.func147, Tryz.ntmps147
    go_wp2
    go_loopw [1, 5] (fun c i wr => ∃ (k n' : Nat) (a' : Option Addr) (cap' : Nat) (ts : List ByteArray), k ≤ kids.length ∧ i = .int .i64 (k : Int) ∧ c = .slice a' n' cap' ∧ n' ≤ cap' ∧ SL wr a' n' ts ∧
      n' + nodesL (kids.drop k) ≤ n + nodesL kids ∧ (∀ x, x ∈ ts ↔ x ∈ ss ∨ x ∈ varsL (kids.take k)) ∧ Kept w wr ∧
      Kept (w.alloc (.cells #[.int .i64 op, .int .i64 arg, .bool s, .slice x1 x2 x3, .slice x4 x5 x6, .string name, .slice a0 kids.length cap0] 27)) wr) (fun _ i _ => kids.length - (intOf i).toNat)
    case atStart => exact ⟨0, n, a, cap, ss, Nat.zero_le _, rfl, rfl, hcap, hsl.kept hk, by simp, fun x => by simp [varsL], hk, Kept.refl _⟩
    case round =>
      obtain ⟨k, n', a', cap', ts, hkl, rfl, rfl, hcap', hsl', hnn, hmem, hkw, hkb⟩ := hrel
      have HM := Lib.hid hmem; clear hmem
      have HNN := Lib.hid hnn; clear hnn
      obtain ⟨-, -, -, -, -, -, e6, -⟩ := (hbx.kept hkb).facts7
      by_cases hlt : k < kids.length
      · obtain ⟨b, off, o, g, z, u1, u2, u3, u4, u5, u6, nm, a', n', cap', rfl, c0, c1, c2, c3, c4, c5, c6, hex⟩ := hkid k hlt
        replace c0 := hkw.cell c0
        replace c1 := hkw.cell c1
        replace c2 := hkw.cell c2
        replace c3 := hkw.cell c3
        replace c4 := hkw.cell c4
        replace c5 := hkw.cell c5
        replace c6 := hkw.cell c6
        have hnd := nodesL_drop hlt
        have hih := names04_calls f (hex.kept hkw) _ _ _ _ hsl' hcap' (by have := HB.out; have := HNN.out; have := HNT.out; omega)
        have HND := Lib.hid hnd; clear hnd
        clear hkid hex
        go_wp2_with (first | (go_at_call 147; refine hih.mono ?_; rintro e w2 ⟨a2, n2, c2', ts2, rfl, hsl2, hc2, hn2, hm2, hk2⟩))
        go_roundw
        case rel => exact ⟨k + 1, n2, a2, c2', ts2, by omega, by go_num, rfl, hc2, hsl2, by have := HND.out; have := HNN.out; omega, fun x => by rw [hm2, HM.out, varsL_take hlt, or_assoc], hkw.trans hk2, hkb.trans hk2⟩
        case measure => simp [intOf]; omega
      · obtain rfl : kids.length = k := by omega
        clear hkid
        go_wp2
        go_ret
        exact ⟨a', n', cap', ts, rfl, hsl', hcap', by have h1 := HNN.out; rw [List.drop_length, nodesL] at h1; have := HNT.out; omega, fun x => by rw [HM.out, HV.out, List.take_length], hkw⟩
/-! ### the reference's Has -/
theorem varsL_drop {kids : List Tree} {k : Nat} (h : k < kids.length) (x : ByteArray) : x ∈ varsL (kids.drop k) ↔ x ∈ varsT kids[k] ∨ x ∈ varsL (kids.drop (k + 1)) := by
  rw [List.drop_eq_getElem_cons h, varsL, List.mem_append]
/-- the name is among them -/
def hasB (l : List ByteArray) (nm : ByteArray) : Bool := l.any fun s => s.toList == nm.toList
theorem hasB_iff {l : List ByteArray} {nm : ByteArray} : hasB l nm = true ↔ nm ∈ l := by
  unfold hasB
  rw [List.any_eq_true]
  constructor
  · rintro ⟨x, hx, e⟩
    rw [← bytes_eq e]; exact hx
  · intro h
    exact ⟨nm, h, by simp⟩
theorem hasB_append (l r : List ByteArray) (nm : ByteArray) : hasB (l ++ r) nm = (hasB l nm || hasB r nm) := by simp [hasB]
theorem hasB_drop {kids : List Tree} {k : Nat} (h : k < kids.length) (nm : ByteArray) : hasB (varsL (kids.drop k)) nm = (hasB (varsT kids[k]) nm || hasB (varsL (kids.drop (k + 1))) nm) := by
  rw [List.drop_eq_getElem_cons h, varsL, hasB_append]
set_option maxHeartbeats 2000000 in
set_option maxRecDepth 100000 in
theorem has04_calls : ∀ (f : Nat) {w : World} {v : Value} {t : Tree}, Ex w f v t → ∀ (nm : ByteArray),
    Calls Tryz.prog 138 #[v, .string nm] w fun e w' => e = .returned (.bool (hasB (varsT t) nm)) ∧ Kept w w'
  | 0, _, _, _, h => h.elim
  | f + 1, w, v, .node op arg s N D name kids, h => by
    intro nm
    obtain ⟨x1, x2, x3, x4, x5, x6, a0, cap0, rfl, hc, hn, hr⟩ := h.shape
    have hkid := fun (i : Nat) (hi : i < kids.length) => h.kid hi
    clear h hr
    have hk : Kept w (w.alloc (.cells #[.int .i64 op, .int .i64 arg, .bool s, .slice x1 x2 x3, .slice x4 x5 x6, .string name, .slice a0 kids.length cap0] 27)) := (Kept.refl w).alloc _
    have hbx := Blk.new w #[.int .i64 op, .int .i64 arg, .bool s, .slice x1 x2 x3, .slice x4 x5 x6, .string name, .slice a0 kids.length cap0] 27
    by_cases h2 : op = 2
    · subst h2
      have HV : Hid (hasB (varsT (.node 2 arg s N D name kids)) nm = (name.toList == nm.toList)) := Lib.hid (by rw [varsT, if_pos rfl]; simp [hasB])
      clear hkid
      go_enter Tryz.func138, Tryz.ntmps138
      go_wp2
      go_ret
      exact ⟨by rw [HV.out]; rfl, hk⟩
    have t2 : (op == 2) = false := by simpa using h2
    have HV : Hid (hasB (varsT (.node op arg s N D name kids)) nm = hasB (varsL kids) nm) := Lib.hid (by rw [varsT, if_neg h2])
    go_enter Tryz.func138, Tryz.ntmps138
    go_wp2
    go_loopw [5] (fun i wr => ∃ (k : Nat), k ≤ kids.length ∧ i = .int .i64 (k : Int) ∧ hasB (varsL kids) nm = hasB (varsL (kids.drop k)) nm ∧ Kept w wr ∧
      Kept (w.alloc (.cells #[.int .i64 op, .int .i64 arg, .bool s, .slice x1 x2 x3, .slice x4 x5 x6, .string name, .slice a0 kids.length cap0] 27)) wr) (fun i _ => kids.length - (intOf i).toNat)
    case atStart => exact ⟨0, Nat.zero_le _, rfl, rfl, hk, Kept.refl _⟩
    case round =>
      obtain ⟨k, hkl, rfl, hmem, hkw, hkb⟩ := hrel
      have HM := Lib.hid hmem; clear hmem
      obtain ⟨-, -, -, -, -, -, e6, -⟩ := (hbx.kept hkb).facts7
      by_cases hlt : k < kids.length
      · obtain ⟨b, off, o, g, z, u1, u2, u3, u4, u5, u6, nm', a', n', cap', rfl, c0, c1, c2, c3, c4, c5, c6, hex⟩ := hkid k hlt
        replace c0 := hkw.cell c0
        replace c1 := hkw.cell c1
        replace c2 := hkw.cell c2
        replace c3 := hkw.cell c3
        replace c4 := hkw.cell c4
        replace c5 := hkw.cell c5
        replace c6 := hkw.cell c6
        have hih := has04_calls f (hex.kept hkw) nm
        have HD := Lib.hid (hasB_drop hlt nm)
        clear hkid hex
        cases hq : hasB (varsT kids[k]) nm
        · rw [hq] at hih
          go_wp2_with (first | (go_at_call 138; refine hih.mono ?_; rintro e w2 ⟨rfl, hk2⟩))
          go_roundw
          case rel => exact ⟨k + 1, by omega, by go_num, by rw [HM.out, HD.out, hq]; rfl, hkw.trans hk2, hkb.trans hk2⟩
          case measure => simp [intOf]; omega
        · rw [hq] at hih
          go_wp2_with (first | (go_at_call 138; refine hih.mono ?_; rintro e w2 ⟨rfl, hk2⟩))
          go_ret
          exact ⟨by rw [HV.out, HM.out, HD.out, hq]; rfl, hkw.trans hk2⟩
      · obtain rfl : kids.length = k := by omega
        clear hkid
        go_wp2
        go_ret
        exact ⟨by rw [HV.out, HM.out, List.drop_length]; simp [varsL, hasB, go_sem], hkw⟩
end Go.Proofs.YtbapfnpbamnmpaaGreatDoor
end
