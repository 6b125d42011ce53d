/- A part of the proof that ClaimValid answers true for every input of bulk at most 1048576: conditions: the row's own. -/
import Derived.Test.YtbapfnpbamnmpaaGreatDoorXa
import Derived.Test.YtbapfnpbamnmpaaGreatDoorRf
section
namespace Go.Proofs.YtbapfnpbamnmpaaGreatDoor
open Go Go.RowKit Go.Dig
open Go.Eng (Kept KW KeptB wp_region_kw kw_call)
/-! ### number.Compare over small numbers -/
theorem read_small {w : World} {v : Value} {neg : Bool} {N D : Nat} (h : Rt w v neg N D) (hT : Laid w) (hs : small N D = true) :
    Calls Tryz.prog 155 #[v] w fun e w' => ∃ a n c a' n' c', e = .returned (.tuple #[.agg #[.bool (neg && decide (0 < N)), .slice a n c, .slice a' n' c'], .bool true]) ∧
      Fr w' (.agg #[.bool (neg && decide (0 < N)), .slice a n c, .slice a' n' c']) (neg && decide (0 < N)) (rN N D) (rD N D) ∧ Kept w w' := by
  refine (read_calls h hT).mono ?_
  rintro e w' ⟨p, a, n, c, a', n', c', rfl, hk, hf⟩
  have hf := hf hs
  obtain rfl := fr_flag hf
  rw [hs]
  exact ⟨a, n, c, a', n', c', rfl, hf, hk⟩
set_option maxHeartbeats 4000000 in
set_option maxRecDepth 100000 in
theorem compare_calls {w : World} {v u : Value} {s s' : Bool} {N D N' D' : Nat} (h : Rt w v s N D) (h' : Rt w u s' N' D') (hT : Laid w) (hs : small N D = true) (hs' : small N' D' = true) :
    Calls Tryz.prog 316 #[v, u] w fun e w' => e = .returned (.tuple #[.int .i64 (qcmp (s && decide (0 < N)) (rN N D) (rD N D) (s' && decide (0 < N')) (rN N' D') (rD N' D')), .int .i64 0]) ∧ Kept w w' := by
  have hr1 := fun (w' : World) (k : Kept w w') => read_small (h.kept k) (hT.kept k) hs
  have hr2 := fun (w' : World) (k : Kept w w') => read_small (h'.kept k) (hT.kept k) hs'
  obtain ⟨a, n, c, a2, n2, c2, rfl⟩ := h.shape
  obtain ⟨b, m, d, b2, m2, d2, rfl⟩ := h'.shape
  rw [← fcmp_qcmp _ _ _ _ _ _ (rD_pos N D) (rD_pos N' D')]
  have HF : Hid (∀ (w' : World) (x y : Value), Fr w' x (s && decide (0 < N)) (rN N D) (rD N D) → Fr w' y (s' && decide (0 < N')) (rN N' D') (rD N' D') → Calls Tryz.prog 238 #[x, y] w' fun e w'' => e = .returned (.int .i64 (fcmp (s && decide (0 < N)) (rN N D) (rD N D) (s' && decide (0 < N')) (rN N' D') (rD N' D'))) ∧ Kept w' w'') := by
    obtain ⟨g1, g2, g3, g4, g5, g6⟩ := small_bounds hs
    obtain ⟨g7, g8, g9, g10, g11, g12⟩ := small_bounds hs'
    exact Lib.hid fun w' x y q q' => fcmp_calls q q' (sm_big g3) (sm_big g4) (sm_big g9) (sm_big g10) (mid_big (p14_mid (sm_mul g3 g10)))
  clear h h' hT hs hs'
  generalize fcmp (s && decide (0 < N)) (rN N D) (rD N D) (s' && decide (0 < N')) (rN N' D') (rD N' D') = cc at *
  generalize (s && decide (0 < N)) = p at *
  generalize (s' && decide (0 < N')) = q at *
  generalize rN N D = P1 at *
  generalize rD N D = P2 at *
  generalize rN N' D' = Q1 at *
  generalize rD N' D' = Q2 at *
  have hA := Blk.new w #[.bool s, .slice a n c, .slice a2 n2 c2] 24
  have hB := Blk.new (w.alloc (.cells #[.bool s, .slice a n c, .slice a2 n2 c2] 24)) #[.bool s', .slice b m d, .slice b2 m2 d2] 24
  rw [show (w.alloc (.cells #[.bool s, .slice a n c, .slice a2 n2 c2] 24)).heap.size = w.heap.size + 1 from Array.size_push _] at hB
  have hk1 : Kept w (w.alloc (.cells #[.bool s, .slice a n c, .slice a2 n2 c2] 24)) := (Kept.refl w).alloc _
  have hk2 : Kept (w.alloc (.cells #[.bool s, .slice a n c, .slice a2 n2 c2] 24)) ((w.alloc (.cells #[.bool s, .slice a n c, .slice a2 n2 c2] 24)).alloc (.cells #[.bool s', .slice b m d, .slice b2 m2 d2] 24)) := (Kept.refl _).alloc _
  replace hA := hA.kept hk2
  have hk := hk1.trans hk2
  clear hk1 hk2
  obtain ⟨e0, e1, e2, -⟩ := hA.facts3
  obtain ⟨d0, d1, d3, -⟩ := hB.facts3
  go_enter Tryz.func316, Tryz.ntmps316
  go_wp2_with (first
    | (go_at_call_of 155 (Value.agg #[.bool s, .slice a n c, .slice a2 n2 c2]); refine (hr1 _ hk).mono ?_; rintro e w2 ⟨x1, x2, x3, x4, x5, x6, rfl, hfa, hk2⟩; replace hA := hA.kept hk2; replace hB := hB.kept hk2; clear e0 e1 e2 d0 d1 d3
       have hP := Blk.new w2 #[.bool p, .slice x1 x2 x3, .slice x4 x5 x6] 217
       have hkP : Kept w2 (w2.alloc (.cells #[.bool p, .slice x1 x2 x3, .slice x4 x5 x6] 217)) := (Kept.refl w2).alloc _
       obtain ⟨d0, d1, d3, -⟩ := (hB.kept hkP).facts3)
    | (go_at_call_of 155 (Value.agg #[.bool s', .slice b m d, .slice b2 m2 d2]); refine (hr2 _ ((hk.trans hk2).trans hkP)).mono ?_; rintro e w3 ⟨y1, y2, y3, y4, y5, y6, rfl, hfb, hk3⟩; replace hP := hP.kept hk3; clear d0 d1 d3
       have hQ := Blk.new w3 #[.bool q, .slice y1 y2 y3, .slice y4 y5 y6] 217
       have hkQ : Kept w3 (w3.alloc (.cells #[.bool q, .slice y1 y2 y3, .slice y4 y5 y6] 217)) := (Kept.refl w3).alloc _
       obtain ⟨d0, d1, d3, -⟩ := hQ.facts3
       obtain ⟨e0, e1, e2, -⟩ := (hP.kept hkQ).facts3)
    | (go_at_call 238; refine (HF.out _ _ _ (hfa.kept ((hkP.trans hk3).trans hkQ)) (hfb.kept hkQ)).mono ?_; rintro e w4 ⟨rfl, hk4⟩))
  go_ret2
  exact ⟨rfl, ((((hk.trans hk2).trans hkP).trans hk3).trans hkQ).trans hk4⟩

/-! ### trees all of whose nodes are right -/
mutual
def wellT : Tree → Prop
  | .node op arg s N D name kids => nodeOk op arg s N D name kids.length = true ∧ wellTs kids
def wellTs : List Tree → Prop
  | [] => True
  | t :: ts => wellT t ∧ wellTs ts
end
theorem wellTs_get {ts : List Tree} (h : wellTs ts) : ∀ (i : Nat) (hi : i < ts.length), wellT ts[i] := by
  induction ts with
  | nil => intro i hi; exact absurd hi (Nat.not_lt_zero i)
  | cons t r ih =>
    intro i hi
    cases i with
    | zero => exact h.1
    | succ i => exact ih h.2 i (by simpa using hi)
mutual
theorem cnt_well : ∀ (t : Tree) (d m m' : Nat), cnt t d m = some m' → wellT t
  | .node op arg s N D name kids, d, m, m' => by
    intro h
    rw [cnt] at h
    split at h
    · cases h
    · rename_i hc
      refine ⟨?_, cnts_well kids (d + 1) (m + 1) m' h⟩
      cases hn : nodeOk op arg s N D name kids.length
      · exact absurd (.inr (.inr hn)) hc
      · rfl
theorem cnts_well : ∀ (ts : List Tree) (d m m' : Nat), cnts ts d m = some m' → wellTs ts
  | [], _, _, _ => fun _ => trivial
  | t :: ts, d, m, m' => by
    intro h
    rw [cnts] at h
    cases h1 : cnt t d m with
    | none => rw [h1] at h; cases h
    | some m1 =>
      rw [h1] at h
      exact ⟨cnt_well t d m m1 h1, cnts_well ts d m1 m' h⟩
end
theorem well_of_ok {t : Tree} (h : t.ok = true) : wellT t := by
  unfold Tree.ok at h
  obtain ⟨m, hm⟩ := Option.isSome_iff_exists.1 h
  exact cnt_well t 1 0 m hm
theorem node_num {op arg : Int} {s : Bool} {N D : Nat} {name : ByteArray} {n : Nat} (h : nodeOk op arg s N D name n = true) (h1 : op = 1) : small N D = true ∧ n = 0 := by
  subst h1
  unfold nodeOk kidsI at h
  simp at h
  exact ⟨h.2.1.1, by omega⟩
theorem node_else {op arg : Int} {s : Bool} {N D : Nat} {name : ByteArray} {n : Nat} (h : nodeOk op arg s N D name n = true) (h1 : op ≠ 1) : N = 0 := by
  unfold nodeOk at h
  rw [if_neg h1] at h
  simp only [Bool.and_eq_true, decide_eq_true_eq] at h
  exact h.2.1
theorem sameR_zero (s : Bool) (D : Nat) (s' : Bool) (D' : Nat) : sameR s 0 D s' 0 D' = true := by
  unfold sameR
  rw [rN_zero, rN_zero, rD_zero, rD_zero]
  simp [qcmp_sg, sI, sg]

set_option maxHeartbeats 4000000 in
set_option maxRecDepth 100000 in
/-- slices.EqualFunc over the kids -/
theorem eqfunc_calls {f g : Nat} {w : World} {kids kids' : List Tree} {a a' : Option Addr} {cap cap' : Nat}
    (hn : kids.length < 4611686018427387904) (_hn' : kids'.length < 4611686018427387904)
    (hkid : ∀ (i : Nat) (hi : i < kids.length), ∃ (b off : Nat) (o g : Int) (z : Bool) (x1 : Option Addr) (x2 x3 : Nat) (x4 : Option Addr) (x5 x6 : Nat) (nm : ByteArray) (a' : Option Addr) (n' cap' : Nat),
      a = some ⟨b, off, none⟩ ∧
      w.cell? ⟨b, off + i * 7, none⟩ = some (.int .i64 o) ∧ w.cell? ⟨b, off + i * 7 + 1, none⟩ = some (.int .i64 g) ∧ w.cell? ⟨b, off + i * 7 + 2, none⟩ = some (.bool z) ∧
      w.cell? ⟨b, off + i * 7 + 3, none⟩ = some (.slice x1 x2 x3) ∧ w.cell? ⟨b, off + i * 7 + 4, none⟩ = some (.slice x4 x5 x6) ∧ w.cell? ⟨b, off + i * 7 + 5, none⟩ = some (.string nm) ∧
      w.cell? ⟨b, off + i * 7 + 6, none⟩ = some (.slice a' n' cap') ∧
      Ex w f (.agg #[.int .i64 o, .int .i64 g, .bool z, .slice x1 x2 x3, .slice x4 x5 x6, .string nm, .slice a' n' cap']) (kids[i]))
    (hkid' : ∀ (i : Nat) (hi : i < kids'.length), ∃ (b off : Nat) (o g_1 : Int) (z : Bool) (x1 : Option Addr) (x2 x3 : Nat) (x4 : Option Addr) (x5 x6 : Nat) (nm : ByteArray) (a'_1 : Option Addr) (n' cap' : Nat),
      a' = some ⟨b, off, none⟩ ∧
      w.cell? ⟨b, off + i * 7, none⟩ = some (.int .i64 o) ∧ w.cell? ⟨b, off + i * 7 + 1, none⟩ = some (.int .i64 g_1) ∧ w.cell? ⟨b, off + i * 7 + 2, none⟩ = some (.bool z) ∧
      w.cell? ⟨b, off + i * 7 + 3, none⟩ = some (.slice x1 x2 x3) ∧ w.cell? ⟨b, off + i * 7 + 4, none⟩ = some (.slice x4 x5 x6) ∧ w.cell? ⟨b, off + i * 7 + 5, none⟩ = some (.string nm) ∧
      w.cell? ⟨b, off + i * 7 + 6, none⟩ = some (.slice a'_1 n' cap') ∧
      Ex w g (.agg #[.int .i64 o, .int .i64 g_1, .bool z, .slice x1 x2 x3, .slice x4 x5 x6, .string nm, .slice a'_1 n' cap']) (kids'[i]))
    (ih : ∀ (w' : World) (v u : Value) (i : Nat) (hi : i < kids.length) (hi' : i < kids'.length), Kept w w' → Ex w' f v kids[i] → Ex w' g u kids'[i] → Calls Tryz.prog 234 #[v, u] w' fun e w'' => e = .returned (.bool (sameT kids[i] kids'[i])) ∧ Kept w' w'') :
    Calls Tryz.prog 317 #[.slice a kids.length cap, .slice a' kids'.length cap', .func (.func 234) #[] #[]] w fun e w' => e = .returned (.bool (((kids.length : Int) == (kids'.length : Int)) && sameTs kids kids')) ∧ Kept w w' := by
  have HS : Hid ((((kids.length : Int) == (kids'.length : Int)) && sameTs kids kids') = (((kids.length : Int) == (kids'.length : Int)) && sameTs kids kids')) := Lib.hid rfl
  generalize hE : (((kids.length : Int) == (kids'.length : Int)) && sameTs kids kids') = res at HS ⊢
  have HE := Lib.hid hE; clear hE HS
  rcases Bool.eq_false_or_eq_true ((kids.length : Int) != (kids'.length : Int)) with b4 | b4
  · have c4 : ((kids.length : Int) == (kids'.length : Int)) = false := by rw [← Bool.not_eq_true', ← bne]; exact b4
    have HR : Hid (res = false) := Lib.hid (by rw [← HE.out, c4]; rfl)
    clear hkid hkid' ih c4
    go_enter Tryz.func317, Tryz.ntmps317
    go_wp2
    go_ret
    exact ⟨by rw [HR.out]; rfl, Kept.refl _⟩
  have c4 : ((kids.length : Int) == (kids'.length : Int)) = true := by rw [← Bool.not_eq_false', ← bne]; exact b4
  have HLEN := Lib.hid (show kids.length = kids'.length by have := c4; simp at this; omega)
  have HR : Hid (res = sameTs kids kids') := Lib.hid (by rw [← HE.out, c4]; rfl)
  clear c4
  go_enter Tryz.func317, Tryz.ntmps317
  go_wp2
  go_loopw [17] (fun i wr => ∃ (k : Nat), k ≤ kids.length ∧ i = .int .i64 (k : Int) ∧ Hid (sameTs (kids.drop k) (kids'.drop k) = sameTs kids kids') ∧ Kept w wr) (fun i _ => kids.length - (intOf i).toNat)
  case atStart => exact ⟨0, Nat.zero_le _, rfl, Lib.hid rfl, Kept.refl _⟩
  case round =>
    obtain ⟨k, hkk, rfl, HST, hkw⟩ := hrel
    by_cases hlt : k < kids.length
    · have hlt' : k < kids'.length := by have := HLEN.out; omega
      obtain ⟨b, off, o, g0, z, u1, u2, u3, u4, u5, u6, nm, a2, n2, cap2, rfl, c0', c1', c2', c3', c4', c5', c6', hex⟩ := hkid k hlt
      obtain ⟨b', off', o', g0', z', v1, v2, v3, v4, v5, v6, nm', a2', n2', cap2', rfl, f0', f1', f2', f3', f4', f5', f6', hex'⟩ := hkid' k hlt'
      replace c0' := hkw.cell c0'
      replace c1' := hkw.cell c1'
      replace c2' := hkw.cell c2'
      replace c3' := hkw.cell c3'
      replace c4' := hkw.cell c4'
      replace c5' := hkw.cell c5'
      replace c6' := hkw.cell c6'
      replace f0' := hkw.cell f0'
      replace f1' := hkw.cell f1'
      replace f2' := hkw.cell f2'
      replace f3' := hkw.cell f3'
      replace f4' := hkw.cell f4'
      replace f5' := hkw.cell f5'
      replace f6' := hkw.cell f6'
      have hP := Blk.new wr #[.int .i64 o, .int .i64 g0, .bool z, .slice u1 u2 u3, .slice u4 u5 u6, .string nm, .slice a2 n2 cap2] 27
      have hQ := Blk.new (wr.alloc (.cells #[.int .i64 o, .int .i64 g0, .bool z, .slice u1 u2 u3, .slice u4 u5 u6, .string nm, .slice a2 n2 cap2] 27)) #[.int .i64 o', .int .i64 g0', .bool z', .slice v1 v2 v3, .slice v4 v5 v6, .string nm', .slice a2' n2' cap2'] 27
      rw [show (wr.alloc (.cells #[.int .i64 o, .int .i64 g0, .bool z, .slice u1 u2 u3, .slice u4 u5 u6, .string nm, .slice a2 n2 cap2] 27)).heap.size = wr.heap.size + 1 from Array.size_push _] at hQ
      have hk1 : Kept wr (wr.alloc (.cells #[.int .i64 o, .int .i64 g0, .bool z, .slice u1 u2 u3, .slice u4 u5 u6, .string nm, .slice a2 n2 cap2] 27)) := (Kept.refl wr).alloc _
      have hk2 : Kept (wr.alloc (.cells #[.int .i64 o, .int .i64 g0, .bool z, .slice u1 u2 u3, .slice u4 u5 u6, .string nm, .slice a2 n2 cap2] 27)) ((wr.alloc (.cells #[.int .i64 o, .int .i64 g0, .bool z, .slice u1 u2 u3, .slice u4 u5 u6, .string nm, .slice a2 n2 cap2] 27)).alloc (.cells #[.int .i64 o', .int .i64 g0', .bool z', .slice v1 v2 v3, .slice v4 v5 v6, .string nm', .slice a2' n2' cap2'] 27)) := (Kept.refl _).alloc _
      replace hP := hP.kept hk2
      have hcl := ih _ _ _ k hlt hlt' (hkw.trans (hk1.trans hk2)) (hex.kept (hkw.trans (hk1.trans hk2))) (hex'.kept (hkw.trans (hk1.trans hk2)))
      have hkz := hkw.trans (hk1.trans hk2)
      have m0 := hk1.cell f0'
      have m1 := hk1.cell f1'
      have m2 := hk1.cell f2'
      have m3 := hk1.cell f3'
      have m4 := hk1.cell f4'
      have m5 := hk1.cell f5'
      have m6 := hk1.cell f6'
      clear hk1 hk2
      obtain ⟨i0, i1, i2, i3, i4, i5, i6, -⟩ := hP.facts7
      obtain ⟨j0, j1, j2, j3, j4, j5, j6, -⟩ := hQ.facts7
      have hcs := sameTs_drop hlt hlt'
      clear hkid hkid' hex hex' ih hP hQ
      rw [HST.out] at hcs
      cases hq : sameT kids[k] kids'[k]
      · rw [hq] at hcl hcs
        have HR2 : Hid (res = false) := Lib.hid (by rw [HR.out, hcs]; rfl)
        clear hcs
        go_wp2_with (first | (go_at_call 234; refine hcl.mono ?_; rintro e w2 ⟨rfl, hk2⟩))
        go_ret
        exact ⟨by rw [HR2.out]; rfl, hkz.trans hk2⟩
      · rw [hq] at hcl hcs
        have HCS := Lib.hid hcs; clear hcs
        go_wp2_with (first | (go_at_call 234; refine hcl.mono ?_; rintro e w2 ⟨rfl, hk2⟩))
        go_roundw
        case rel => exact ⟨k + 1, by omega, by go_num, Lib.hid HCS.out.symm, hkz.trans hk2⟩
        case measure => simp [intOf]; omega
    · obtain rfl : kids.length = k := by omega
      clear hkid hkid' ih
      have HR2 : Hid (res = true) := Lib.hid (by rw [HR.out, ← HST.out]; exact sameTs_end (Nat.le_refl _))
      go_wp2
      go_ret
      exact ⟨by rw [HR2.out]; rfl, hkw⟩

set_option maxHeartbeats 4000000 in
set_option maxRecDepth 100000 in
/-- expr.equal over trees that are right -/
theorem equal_calls : ∀ (f : Nat) {g : Nat} {w : World} {v u : Value} {t t' : Tree}, Ex w f v t → Ex w g u t' → Laid w → wellT t → wellT t' →
    Calls Tryz.prog 234 #[v, u] w fun e w' => e = .returned (.bool (sameT t t')) ∧ Kept w w'
  | 0, _, _, _, _, _, _, h, _ => h.elim
  | _ + 1, 0, _, _, _, _, _, _, h' => h'.elim
  | f + 1, g + 1, w, v, u, .node op arg s N D name kids, .node op' arg' s' N' D' name' kids', h, h' => by
    intro hT hN hN'
    obtain ⟨x1, x2, x3, x4, x5, x6, a, cap, rfl, hc, hn, hr⟩ := h.shape
    obtain ⟨y1, y2, y3, y4, y5, y6, a', cap', rfl, hc', hn', hr'⟩ := h'.shape
    have hkid := fun (w' : World) (k : Kept w w') (i : Nat) (hi : i < kids.length) => (h.kept k).kid hi
    have hkid' := fun (w' : World) (k : Kept w w') (i : Nat) (hi : i < kids'.length) => (h'.kept k).kid hi
    clear h h'
    have hA := Blk.new w #[.int .i64 op, .int .i64 arg, .bool s, .slice x1 x2 x3, .slice x4 x5 x6, .string name, .slice a kids.length cap] 27
    have hB := Blk.new (w.alloc (.cells #[.int .i64 op, .int .i64 arg, .bool s, .slice x1 x2 x3, .slice x4 x5 x6, .string name, .slice a kids.length cap] 27)) #[.int .i64 op', .int .i64 arg', .bool s', .slice y1 y2 y3, .slice y4 y5 y6, .string name', .slice a' kids'.length cap'] 27
    rw [show (w.alloc (.cells #[.int .i64 op, .int .i64 arg, .bool s, .slice x1 x2 x3, .slice x4 x5 x6, .string name, .slice a kids.length cap] 27)).heap.size = w.heap.size + 1 from Array.size_push _] at hB
    have hk1 : Kept w (w.alloc (.cells #[.int .i64 op, .int .i64 arg, .bool s, .slice x1 x2 x3, .slice x4 x5 x6, .string name, .slice a kids.length cap] 27)) := (Kept.refl w).alloc _
    have hk2 : Kept (w.alloc (.cells #[.int .i64 op, .int .i64 arg, .bool s, .slice x1 x2 x3, .slice x4 x5 x6, .string name, .slice a kids.length cap] 27)) ((w.alloc (.cells #[.int .i64 op, .int .i64 arg, .bool s, .slice x1 x2 x3, .slice x4 x5 x6, .string name, .slice a kids.length cap] 27)).alloc (.cells #[.int .i64 op', .int .i64 arg', .bool s', .slice y1 y2 y3, .slice y4 y5 y6, .string name', .slice a' kids'.length cap'] 27)) := (Kept.refl _).alloc _
    replace hA := hA.kept hk2
    have hk := hk1.trans hk2
    clear hk1 hk2
    have hrc := compare_calls (hr.kept hk) (hr'.kept hk) (hT.kept hk)
    have hih := fun (w' : World) (v u : Value) (i : Nat) (hi : i < kids.length) (hi' : i < kids'.length) (k : Kept w w') (q : Ex w' f v kids[i]) (q' : Ex w' g u kids'[i]) => equal_calls f q q' (hT.kept k) (wellTs_get hN.2 i hi) (wellTs_get hN'.2 i hi')
    have hef := eqfunc_calls (cap := cap) (cap' := cap') hn hn' (hkid _ hk) (hkid' _ hk) (fun w' v u i hi hi' k q q' => hih w' v u i hi hi' (hk.trans k) q q')
    clear hkid hkid' hih hr hr' hT
    have HN := Lib.hid (And.intro hN.1 hN'.1)
    clear hN hN'
    have HS : Hid (sameT (.node op arg s N D name kids) (.node op' arg' s' N' D' name' kids') = ((op == op') && (arg == arg') && (name.toList == name'.toList) && ((kids.length : Int) == (kids'.length : Int)) && sameR s N D s' N' D' && sameTs kids kids')) := Lib.hid (by rw [sameT])
    generalize sameT (.node op arg s N D name kids) (.node op' arg' s' N' D' name' kids') = res at *
    obtain ⟨d0, d1, d2, d3, d4, d5, d6, -⟩ := hA.facts7
    obtain ⟨e0, e1, e2, e3, e4, e5, e6, -⟩ := hB.facts7
    clear hA hB
    rcases Bool.eq_false_or_eq_true (op != op') with b1 | b1
    · have c1 : (op == op') = false := by rw [← Bool.not_eq_true', ← bne]; exact b1
      have HR : Hid (res = false) := Lib.hid (by rw [HS.out, c1]; rfl)
      clear hrc hef HS c1
      go_enter Tryz.func234, Tryz.ntmps234
      go_wp2
      go_ret
      exact ⟨by rw [HR.out]; rfl, hk⟩
    have c1 : (op == op') = true := by rw [← Bool.not_eq_false', ← bne]; exact b1
    have HOP := Lib.hid (show op = op' by simpa using c1)
    replace c1 := Lib.hid c1
    rcases Bool.eq_false_or_eq_true (arg != arg') with b2 | b2
    · have c2 : (arg == arg') = false := by rw [← Bool.not_eq_true', ← bne]; exact b2
      have HR : Hid (res = false) := Lib.hid (by rw [HS.out, c1.out, c2]; rfl)
      clear hrc hef HS c2
      go_enter Tryz.func234, Tryz.ntmps234
      go_wp2
      go_ret
      exact ⟨by rw [HR.out]; rfl, hk⟩
    have c2 : (arg == arg') = true := by rw [← Bool.not_eq_false', ← bne]; exact b2
    replace c2 := Lib.hid c2
    rcases Bool.eq_false_or_eq_true (name.toList == name'.toList) with c3 | c3
    rotate_left
    · have HR : Hid (res = false) := Lib.hid (by rw [HS.out, c1.out, c2.out, c3]; rfl)
      clear hrc hef HS
      go_enter Tryz.func234, Tryz.ntmps234
      go_wp2
      go_ret
      exact ⟨by rw [HR.out]; rfl, hk⟩
    rcases Bool.eq_false_or_eq_true (op == 1) with c5 | c5
    · have h1 := node_num HN.out.1 (by simpa using c5)
      have h2 := node_num HN.out.2 (by rw [← HOP.out]; simpa using c5)
      have HR : Hid (res = (qcmp (s && decide (0 < N)) (rN N D) (rD N D) (s' && decide (0 < N')) (rN N' D') (rD N' D') == 0)) := Lib.hid (by
        rw [HS.out, c1.out, c2.out, c3, h1.2, h2.2, List.eq_nil_of_length_eq_zero h1.2, sameTs]
        simp [sameR])
      have hrc := hrc h1.1 h2.1
      clear hef HS h1 h2
      generalize qcmp (s && decide (0 < N)) (rN N D) (rD N D) (s' && decide (0 < N')) (rN N' D') (rD N' D') = cc at *
      go_enter Tryz.func234, Tryz.ntmps234
      go_wp2_with (first | (go_at_call 316; refine hrc.mono ?_; rintro e w2 ⟨rfl, hk2⟩))
      go_ret
      exact ⟨by rw [HR.out]; rfl, hk.trans hk2⟩
    have h1 := node_else HN.out.1 (by intro h; rw [h] at c5; cases c5)
    have h2 := node_else HN.out.2 (by rw [← HOP.out]; intro h; rw [h] at c5; cases c5)
    have HR : Hid (res = (((kids.length : Int) == (kids'.length : Int)) && sameTs kids kids')) := Lib.hid (by
      rw [HS.out, c1.out, c2.out, c3, h1, h2, sameR_zero]
      simp)
    clear hrc HS h1 h2 hn hn' hc hc' HN
    generalize (((kids.length : Int) == (kids'.length : Int)) && sameTs kids kids') = rr at *
    go_enter Tryz.func234, Tryz.ntmps234
    go_wp2_with (first | (go_at_call 317; refine hef.mono ?_; rintro e w2 ⟨rfl, hk2⟩))
    go_ret
    exact ⟨by rw [HR.out]; rfl, hk.trans hk2⟩
/-! ### Equal, sameExpr over valid trees -/
set_option maxHeartbeats 4000000 in
set_option maxRecDepth 100000 in
theorem eequal_calls {f g : Nat} {w : World} {v u : Value} {t t' : Tree} (h : Ex w f v t) (h' : Ex w g u t') (hT : Laid w) (ho : t.ok = true) (ho' : t'.ok = true) :
    Calls Tryz.prog 142 #[v, u] w fun e w' => e = .returned (.tuple #[.bool (sameT t t'), .int .i64 0]) ∧ Kept w w' := by
  have hv := fun (w' : World) (k : Kept w w') => pvalid_calls (h.kept k) (hT.kept k)
  have hv' := fun (w' : World) (k : Kept w w') => pvalid_calls (h'.kept k) (hT.kept k)
  have he := fun (w' : World) (k : Kept w w') => equal_calls f (h.kept k) (h'.kept k) (hT.kept k) (well_of_ok ho) (well_of_ok ho')
  rw [ho] at hv
  rw [ho'] at hv'
  cases f with
  | zero => exact h.elim
  | succ f =>
  cases g with
  | zero => exact h'.elim
  | succ g =>
  cases t with
  | node op arg s N D name kids =>
  cases t' with
  | node op' arg' s' N' D' name' kids' =>
    obtain ⟨x1, x2, x3, x4, x5, x6, a, cap, rfl, hcp, hn, hr⟩ := h.shape
    obtain ⟨y1, y2, y3, y4, y5, y6, a', cap', rfl, hcp', hn', hr'⟩ := h'.shape
    clear h h' hr hr' hT ho ho'
    generalize sameT (.node op arg s N D name kids) (.node op' arg' s' N' D' name' kids') = res at *
    have hA := Blk.new w #[.int .i64 op, .int .i64 arg, .bool s, .slice x1 x2 x3, .slice x4 x5 x6, .string name, .slice a kids.length cap] 27
    have hB := Blk.new (w.alloc (.cells #[.int .i64 op, .int .i64 arg, .bool s, .slice x1 x2 x3, .slice x4 x5 x6, .string name, .slice a kids.length cap] 27)) #[.int .i64 op', .int .i64 arg', .bool s', .slice y1 y2 y3, .slice y4 y5 y6, .string name', .slice a' kids'.length cap'] 27
    rw [show (w.alloc (.cells #[.int .i64 op, .int .i64 arg, .bool s, .slice x1 x2 x3, .slice x4 x5 x6, .string name, .slice a kids.length cap] 27)).heap.size = w.heap.size + 1 from Array.size_push _] at hB
    have hk1 : Kept w (w.alloc (.cells #[.int .i64 op, .int .i64 arg, .bool s, .slice x1 x2 x3, .slice x4 x5 x6, .string name, .slice a kids.length cap] 27)) := (Kept.refl w).alloc _
    have hk2 : Kept (w.alloc (.cells #[.int .i64 op, .int .i64 arg, .bool s, .slice x1 x2 x3, .slice x4 x5 x6, .string name, .slice a kids.length cap] 27)) ((w.alloc (.cells #[.int .i64 op, .int .i64 arg, .bool s, .slice x1 x2 x3, .slice x4 x5 x6, .string name, .slice a kids.length cap] 27)).alloc (.cells #[.int .i64 op', .int .i64 arg', .bool s', .slice y1 y2 y3, .slice y4 y5 y6, .string name', .slice a' kids'.length cap'] 27)) := (Kept.refl _).alloc _
    replace hA := hA.kept hk2
    have hk := hk1.trans hk2
    clear hk1 hk2
    obtain ⟨d0, d1, d2, d3, d4, d5, d6, -⟩ := hA.facts7
    obtain ⟨e0, e1, e2, e3, e4, e5, e6, -⟩ := hB.facts7
    go_enter Tryz.func142, Tryz.ntmps142
    go_wp2_with (first
      | (go_at_call_of 77 (Value.agg #[.int .i64 op, .int .i64 arg, .bool s, .slice x1 x2 x3, .slice x4 x5 x6, .string name, .slice a kids.length cap]); refine (hv _ hk).mono ?_; rintro e w1 ⟨rfl, hk1⟩; replace hA := hA.kept hk1; replace hB := hB.kept hk1; clear d0 d1 d2 d3 d4 d5 d6 e0 e1 e2 e3 e4 e5 e6; obtain ⟨d0, d1, d2, d3, d4, d5, d6, -⟩ := hA.facts7; obtain ⟨e0, e1, e2, e3, e4, e5, e6, -⟩ := hB.facts7)
      | (go_at_call_of 77 (Value.agg #[.int .i64 op', .int .i64 arg', .bool s', .slice y1 y2 y3, .slice y4 y5 y6, .string name', .slice a' kids'.length cap']); refine (hv' _ (hk.trans hk1)).mono ?_; rintro e w2 ⟨rfl, hk2⟩; replace hA := hA.kept hk2; replace hB := hB.kept hk2; clear d0 d1 d2 d3 d4 d5 d6 e0 e1 e2 e3 e4 e5 e6; obtain ⟨d0, d1, d2, d3, d4, d5, d6, -⟩ := hA.facts7; obtain ⟨e0, e1, e2, e3, e4, e5, e6, -⟩ := hB.facts7)
      | (go_at_call 234; refine (he _ ((hk.trans hk1).trans hk2)).mono ?_; rintro e w3 ⟨rfl, hk3⟩))
    go_ret2
    exact ⟨rfl, ((hk.trans hk1).trans hk2).trans hk3⟩
set_option maxHeartbeats 4000000 in
set_option maxRecDepth 100000 in
theorem sameexpr_calls {f g : Nat} {w : World} {v u : Value} {t t' : Tree} (h : Ex w f v t) (h' : Ex w g u t') (hT : Laid w) (ho : t.ok = true) (ho' : t'.ok = true) :
    Calls Tryz.prog 71 #[v, u] w fun e w' => e = .returned (.bool (sameT t t')) ∧ Kept w w' := by
  have he := fun (w' : World) (k : Kept w w') => eequal_calls (h.kept k) (h'.kept k) (hT.kept k) ho ho'
  cases f with
  | zero => exact h.elim
  | succ f =>
  cases g with
  | zero => exact h'.elim
  | succ g =>
  cases t with
  | node op arg s N D name kids =>
  cases t' with
  | node op' arg' s' N' D' name' kids' =>
    obtain ⟨x1, x2, x3, x4, x5, x6, a, cap, rfl, hcp, hn, hr⟩ := h.shape
    obtain ⟨y1, y2, y3, y4, y5, y6, a', cap', rfl, hcp', hn', hr'⟩ := h'.shape
    clear h h' hr hr' hT ho ho'
    generalize sameT (.node op arg s N D name kids) (.node op' arg' s' N' D' name' kids') = res at *
    have hA := Blk.new w #[.int .i64 op, .int .i64 arg, .bool s, .slice x1 x2 x3, .slice x4 x5 x6, .string name, .slice a kids.length cap] 27
    have hB := Blk.new (w.alloc (.cells #[.int .i64 op, .int .i64 arg, .bool s, .slice x1 x2 x3, .slice x4 x5 x6, .string name, .slice a kids.length cap] 27)) #[.int .i64 op', .int .i64 arg', .bool s', .slice y1 y2 y3, .slice y4 y5 y6, .string name', .slice a' kids'.length cap'] 27
    rw [show (w.alloc (.cells #[.int .i64 op, .int .i64 arg, .bool s, .slice x1 x2 x3, .slice x4 x5 x6, .string name, .slice a kids.length cap] 27)).heap.size = w.heap.size + 1 from Array.size_push _] at hB
    have hk1 : Kept w (w.alloc (.cells #[.int .i64 op, .int .i64 arg, .bool s, .slice x1 x2 x3, .slice x4 x5 x6, .string name, .slice a kids.length cap] 27)) := (Kept.refl w).alloc _
    have hk2 : Kept (w.alloc (.cells #[.int .i64 op, .int .i64 arg, .bool s, .slice x1 x2 x3, .slice x4 x5 x6, .string name, .slice a kids.length cap] 27)) ((w.alloc (.cells #[.int .i64 op, .int .i64 arg, .bool s, .slice x1 x2 x3, .slice x4 x5 x6, .string name, .slice a kids.length cap] 27)).alloc (.cells #[.int .i64 op', .int .i64 arg', .bool s', .slice y1 y2 y3, .slice y4 y5 y6, .string name', .slice a' kids'.length cap'] 27)) := (Kept.refl _).alloc _
    replace hA := hA.kept hk2
    have hk := hk1.trans hk2
    clear hk1 hk2
    obtain ⟨d0, d1, d2, d3, d4, d5, d6, -⟩ := hA.facts7
    obtain ⟨e0, e1, e2, e3, e4, e5, e6, -⟩ := hB.facts7
    go_enter Tryz.func71, Tryz.ntmps71
    go_wp2_with (first | (go_at_call 142; refine (he _ hk).mono ?_; rintro e w1 ⟨rfl, hk1⟩))
    go_ret
    exact ⟨rfl, hk.trans hk1⟩
end Go.Proofs.YtbapfnpbamnmpaaGreatDoor
end
