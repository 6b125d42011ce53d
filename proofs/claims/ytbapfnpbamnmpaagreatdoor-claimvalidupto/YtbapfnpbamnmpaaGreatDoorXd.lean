/- A part of the proof that ClaimValid answers true for every input of bulk at most 1048576: conditions: the row's own. -/
import Derived.Test.YtbapfnpbamnmpaaGreatDoorXc
section
namespace Go.Proofs.YtbapfnpbamnmpaaGreatDoor
open Go Go.RowKit Go.Dig
open Go.Eng (Kept KW KeptB wp_region_kw kw_call)
/-! ### the same box -/
def sameBs : List SideD → List SideD → Bool
  | [], _ => true
  | _ :: _, [] => true
  | s :: r, s' :: r' => (s.name.toList == s'.name.toList) && sameI s.iv s'.iv && sameBs r r'
theorem sameBs_drop {l l' : List SideD} {k : Nat} (h : k < l.length) (h' : k < l'.length) :
    sameBs (l.drop k) (l'.drop k) = ((l[k].name.toList == l'[k].name.toList) && sameI l[k].iv l'[k].iv && sameBs (l.drop (k + 1)) (l'.drop (k + 1))) := by
  rw [List.drop_eq_getElem_cons h, List.drop_eq_getElem_cons h', sameBs]
theorem sameBs_end {l l' : List SideD} {k : Nat} (h : l.length ≤ k) : sameBs (l.drop k) (l'.drop k) = true := by
  rw [List.drop_of_length_le h, sameBs]
def sameB (l l' : List SideD) : Bool := ((l.length : Int) == (l'.length : Int)) && sameBs l l'
/-- every interval is right and not empty -/
def ivsOk (l : List SideD) : Prop := ∀ k, (h : k < l.length) → l[k].iv.fine = true ∧ l[k].iv.void = false
theorem ivs_of_ok {l : List SideD} (h : boxOk l = true) : ivsOk l := by
  intro k hk
  unfold boxOk at h
  simp only [Bool.and_eq_true, List.all_eq_true] at h
  have h2 := h.2 k (List.mem_range.2 hk)
  unfold sideOk at h2
  rw [getD_at hk] at h2
  simp only [Bool.and_eq_true, Bool.not_eq_true'] at h2
  exact ⟨h2.1.2, h2.2⟩
set_option maxHeartbeats 4000000 in
set_option maxRecDepth 100000 in
theorem samebox_calls {w : World} {a a' : Option Addr} {n cap n' cap' : Nat} {l l' : List SideD} (h : Bxm w a n cap l) (h' : Bxm w a' n' cap' l') (ho : ivsOk l) (ho' : ivsOk l') :
    Calls Tryz.prog 58 #[.slice a n cap, .slice a' n' cap'] w fun e w' => e = .returned (.bool (sameB l l')) ∧ Kept w w' := by
  obtain ⟨rfl, hc, hbd, hi⟩ := h
  obtain ⟨rfl, hc', hbd', hi'⟩ := h'
  have HS : Hid (sameB l l' = (((l.length : Int) == (l'.length : Int)) && sameBs l l')) := Lib.hid rfl
  generalize sameB l l' = res at *
  rcases Bool.eq_false_or_eq_true ((l.length : Int) != (l'.length : Int)) with b4 | b4
  · have c4 : ((l.length : Int) == (l'.length : Int)) = false := by rw [← Bool.not_eq_true', ← bne]; exact b4
    have HR : Hid (res = false) := Lib.hid (by rw [HS.out, c4]; rfl)
    clear hi hi' HS c4 ho ho'
    go_enter Tryz.func58, Tryz.ntmps58
    go_wp2
    go_ret
    exact ⟨by rw [HR.out]; rfl, Kept.refl _⟩
  have c4 : ((l.length : Int) == (l'.length : Int)) = true := by rw [← Bool.not_eq_false', ← bne]; exact b4
  have HLEN := Lib.hid (show l.length = l'.length by have := c4; simp at this; omega)
  have HR : Hid (res = sameBs l l') := Lib.hid (by rw [HS.out, c4]; rfl)
  clear HS c4
  go_enter Tryz.func58, Tryz.ntmps58
  go_wp2
  go_loopw [5] (fun i wr => ∃ (k : Nat), k ≤ l.length ∧ i = .int .i64 (k : Int) ∧ Hid (sameBs (l.drop k) (l'.drop k) = sameBs l l') ∧ Kept w wr) (fun i _ => l.length - (intOf i).toNat)
  case atStart => exact ⟨0, Nat.zero_le _, rfl, Lib.hid rfl, Kept.refl _⟩
  case round =>
    obtain ⟨k, hkk, rfl, HST, hkw⟩ := hrel
    by_cases hlt : k < l.length
    · have hlt' : k < l'.length := by have := HLEN.out; omega
      obtain ⟨b, off, s1, a1, n1, c1, a2, n2, c2, s2, a3, n3, c3, a4, n4, c4, p, q, rfl, h0, h1, h2, h3, h4, h5, h6, h7, h8, hv⟩ := hi k hlt
      obtain ⟨b', off', t1, e1, m1, d1, e2, m2, d2, t2, e3, m3, d3, e4, m4, d4, p', q', rfl, g0, g1, g2, g3, g4, g5, g6, g7, g8, hv'⟩ := hi' k hlt'
      have hcl := fun (w' : World) (k' : Kept w w') => isame_calls (hv.kept k') (hv'.kept k') (ho k hlt).1 (ho' k hlt').1 (ho k hlt).2 (ho' k hlt').2
      have hcs := sameBs_drop hlt hlt'
      rw [HST.out] at hcs
      clear hi hi' hv hv' ho ho'
      generalize hnk : l[k].name = nk at *
      generalize hnk' : l'[k].name = nk' at *
      have HNK := Lib.hid (And.intro hnk hnk'); clear hnk hnk'
      generalize sameI l[k].iv l'[k].iv = si at *
      go_wp2_with fail
      have z0 := fun (k : KW wr) => k.kept.cell (hkw.cell h0)
      have z1 := fun (k : KW wr) => k.kept.cell (hkw.cell h1)
      have z2 := fun (k : KW wr) => k.kept.cell (hkw.cell h2)
      have z3 := fun (k : KW wr) => k.kept.cell (hkw.cell h3)
      have z4 := fun (k : KW wr) => k.kept.cell (hkw.cell h4)
      have z5 := fun (k : KW wr) => k.kept.cell (hkw.cell h5)
      have z6 := fun (k : KW wr) => k.kept.cell (hkw.cell h6)
      have z7 := fun (k : KW wr) => k.kept.cell (hkw.cell h7)
      have z8 := fun (k : KW wr) => k.kept.cell (hkw.cell h8)
      have y0 := fun (k : KW wr) => k.kept.cell (hkw.cell g0)
      have y1 := fun (k : KW wr) => k.kept.cell (hkw.cell g1)
      have y2 := fun (k : KW wr) => k.kept.cell (hkw.cell g2)
      have y3 := fun (k : KW wr) => k.kept.cell (hkw.cell g3)
      have y4 := fun (k : KW wr) => k.kept.cell (hkw.cell g4)
      have y5 := fun (k : KW wr) => k.kept.cell (hkw.cell g5)
      have y6 := fun (k : KW wr) => k.kept.cell (hkw.cell g6)
      have y7 := fun (k : KW wr) => k.kept.cell (hkw.cell g7)
      have y8 := fun (k : KW wr) => k.kept.cell (hkw.cell g8)
      clear h0 h1 h2 h3 h4 h5 h6 h7 h8 g0 g1 g2 g3 g4 g5 g6 g7 g8
      have hcl := fun (k : KW wr) => hcl k.w (hkw.trans k.kept)
      cases hq : (nk.toList == nk'.toList)
      · rw [hq] at hcs
        have HR2 : Hid (res = false) := Lib.hid (by rw [HR.out, hcs]; rfl)
        clear hcs
        refine wp_region_kw wr (Kept.refl _) (by kernel_rfl) (by kernel_rfl) ?_
        repeat (go_big_quiet_step (first | (go_at_call 133; exact kw_call (hcl _))))
        refine wpQuiet_nil ?_
        rintro _ ⟨k2, rfl⟩
        clear hcl
        go_wp2
        go_ret
        exact ⟨by rw [HR2.out]; rfl, hkw.trans k2.kept⟩
      rw [hq] at hcs
      cases si
      · have HR2 : Hid (res = false) := Lib.hid (by rw [HR.out, hcs]; rfl)
        clear hcs
        refine wp_region_kw wr (Kept.refl _) (by kernel_rfl) (by kernel_rfl) ?_
        repeat (go_big_quiet_step (first | (go_at_call 133; exact kw_call (hcl _))))
        refine wpQuiet_nil ?_
        rintro _ ⟨k2, rfl⟩
        clear hcl
        go_wp2
        go_ret
        exact ⟨by rw [HR2.out]; rfl, hkw.trans k2.kept⟩
      · have HCS := Lib.hid hcs; clear hcs
        refine wp_region_kw wr (Kept.refl _) (by kernel_rfl) (by kernel_rfl) ?_
        repeat (go_big_quiet_step (first | (go_at_call 133; exact kw_call (hcl _))))
        refine wpQuiet_nil ?_
        rintro _ ⟨k2, rfl⟩
        clear hcl
        go_wp2
        go_roundw
        case rel => exact ⟨k + 1, by omega, by go_num, Lib.hid HCS.out.symm, hkw.trans k2.kept⟩
        case measure => simp [intOf]; omega
    · obtain rfl : l.length = k := by omega
      clear hi hi' ho ho'
      have HR2 : Hid (res = true) := Lib.hid (by rw [HR.out, ← HST.out]; exact sameBs_end (Nat.le_refl _))
      go_wp2
      go_ret
      exact ⟨by rw [HR2.out]; rfl, hkw⟩
end Go.Proofs.YtbapfnpbamnmpaaGreatDoor
end
