/- A part of the proof that ClaimFree answers true for every input of bulk at most 1048576: conditions: the row's own. -/
import Derived.Test.YtbapfnpbamnmpaaGreatDoorRg
import Derived.Recover
section
namespace Go.Proofs.YtbapfnpbamnmpaaGreatDoor
open Go Go.RowKit Go.Dig
open Go.Eng (Kept KW KeptB)

/-- a block of cells of the call's own -/
def Blk (w : World) (b : Nat) (cs : Array Value) (t : TypeId) : Prop := w.heap[b]? = some (.cells cs t)
section
variable {w w' : World} {b : Nat} {cs : Array Value} {t : TypeId}
theorem Blk.new (w : World) (cs : Array Value) (t : TypeId) : Blk (w.alloc (.cells cs t)) w.heap.size cs t := Go.Deep.blk_alloc_new _ _
theorem Blk.lt (h : Blk w b cs t) : b < w.heap.size := (Array.getElem?_eq_some_iff.1 h).1
theorem Blk.kept (h : Blk w b cs t) (k : Kept w w') : Blk w' b cs t := (k.old b h.lt).trans h
theorem Blk.keptB {g : Nat} (h : Blk w b cs t) (k : KeptB w w' g) (hb : b ≠ g) : Blk w' b cs t := (k.old b h.lt hb).trans h
theorem Blk.cell (h : Blk w b cs t) (i : Nat) {v : Value} (hv : cs[i]? = some v) : w.cell? ⟨b, i, none⟩ = some v := by
  unfold Blk at h
  simp [World.cell?, h, hv]
theorem Blk.frozen (h : Blk w b cs t) (i : Nat) : w.frozen? ⟨b, i, none⟩ = false := by
  unfold Blk at h
  simp [World.frozen?, h]
theorem Blk.set (h : Blk w b cs t) (i : Nat) (v : Value) : Blk (w.setCell ⟨b, i, none⟩ v) b (cs.setIfInBounds i v) t := by
  unfold Blk at *
  simp [World.setCell, Array.getElem?_modify, h]
theorem Blk.noWords (h : Blk w b cs t) (hc : cs.toList.all (fun v => match v with | .int .u32 _ => false | _ => true) = true) : NoWords w b := by
  intro off n hcell
  unfold Blk at h
  simp only [World.cell?, h] at hcell
  have hm : Value.int .u32 n ∈ cs.toList := by
    have := Array.mem_of_getElem? (xs := cs) (i := off) (a := Value.int .u32 n) (by simpa using hcell)
    simpa using this
  have := List.all_eq_true.1 hc _ hm
  simp at this
end
theorem Blk.facts1 {w : World} {b : Nat} {t : TypeId} {x0 : Value} (h : Blk w b #[x0] t) : w.cell? ⟨b, 0, none⟩ = some x0 ∧ w.frozen? ⟨b, 0, none⟩ = false :=
  ⟨h.cell 0 rfl, h.frozen 0⟩
theorem Blk.facts2 {w : World} {b : Nat} {t : TypeId} {x0 x1 : Value} (h : Blk w b #[x0, x1] t) : w.cell? ⟨b, 0, none⟩ = some x0 ∧ w.cell? ⟨b, 1, none⟩ = some x1 ∧ w.frozen? ⟨b, 0, none⟩ = false ∧ w.frozen? ⟨b, 1, none⟩ = false :=
  ⟨h.cell 0 rfl, h.cell 1 rfl, h.frozen 0, h.frozen 1⟩
theorem Blk.facts4 {w : World} {b : Nat} {t : TypeId} {x0 x1 x2 x3 : Value} (h : Blk w b #[x0, x1, x2, x3] t) : w.cell? ⟨b, 0, none⟩ = some x0 ∧ w.cell? ⟨b, 1, none⟩ = some x1 ∧ w.cell? ⟨b, 2, none⟩ = some x2 ∧ w.cell? ⟨b, 3, none⟩ = some x3 ∧ w.frozen? ⟨b, 0, none⟩ = false ∧ w.frozen? ⟨b, 1, none⟩ = false ∧ w.frozen? ⟨b, 2, none⟩ = false ∧ w.frozen? ⟨b, 3, none⟩ = false :=
  ⟨h.cell 0 rfl, h.cell 1 rfl, h.cell 2 rfl, h.cell 3 rfl, h.frozen 0, h.frozen 1, h.frozen 2, h.frozen 3⟩
theorem Blk.facts5 {w : World} {b : Nat} {t : TypeId} {x0 x1 x2 x3 x4 : Value} (h : Blk w b #[x0, x1, x2, x3, x4] t) : w.cell? ⟨b, 0, none⟩ = some x0 ∧ w.cell? ⟨b, 1, none⟩ = some x1 ∧ w.cell? ⟨b, 2, none⟩ = some x2 ∧ w.cell? ⟨b, 3, none⟩ = some x3 ∧ w.cell? ⟨b, 4, none⟩ = some x4 ∧ w.frozen? ⟨b, 0, none⟩ = false ∧ w.frozen? ⟨b, 1, none⟩ = false ∧ w.frozen? ⟨b, 2, none⟩ = false ∧ w.frozen? ⟨b, 3, none⟩ = false ∧ w.frozen? ⟨b, 4, none⟩ = false :=
  ⟨h.cell 0 rfl, h.cell 1 rfl, h.cell 2 rfl, h.cell 3 rfl, h.cell 4 rfl, h.frozen 0, h.frozen 1, h.frozen 2, h.frozen 3, h.frozen 4⟩
theorem Blk.facts7 {w : World} {b : Nat} {t : TypeId} {x0 x1 x2 x3 x4 x5 x6 : Value} (h : Blk w b #[x0, x1, x2, x3, x4, x5, x6] t) : w.cell? ⟨b, 0, none⟩ = some x0 ∧ w.cell? ⟨b, 1, none⟩ = some x1 ∧ w.cell? ⟨b, 2, none⟩ = some x2 ∧ w.cell? ⟨b, 3, none⟩ = some x3 ∧ w.cell? ⟨b, 4, none⟩ = some x4 ∧ w.cell? ⟨b, 5, none⟩ = some x5 ∧ w.cell? ⟨b, 6, none⟩ = some x6 ∧ w.frozen? ⟨b, 0, none⟩ = false ∧ w.frozen? ⟨b, 1, none⟩ = false ∧ w.frozen? ⟨b, 2, none⟩ = false ∧ w.frozen? ⟨b, 3, none⟩ = false ∧ w.frozen? ⟨b, 4, none⟩ = false ∧ w.frozen? ⟨b, 5, none⟩ = false ∧ w.frozen? ⟨b, 6, none⟩ = false :=
  ⟨h.cell 0 rfl, h.cell 1 rfl, h.cell 2 rfl, h.cell 3 rfl, h.cell 4 rfl, h.cell 5 rfl, h.cell 6 rfl, h.frozen 0, h.frozen 1, h.frozen 2, h.frozen 3, h.frozen 4, h.frozen 5, h.frozen 6⟩
theorem Blk.facts8 {w : World} {b : Nat} {t : TypeId} {x0 x1 x2 x3 x4 x5 x6 x7 : Value} (h : Blk w b #[x0, x1, x2, x3, x4, x5, x6, x7] t) : w.cell? ⟨b, 0, none⟩ = some x0 ∧ w.cell? ⟨b, 1, none⟩ = some x1 ∧ w.cell? ⟨b, 2, none⟩ = some x2 ∧ w.cell? ⟨b, 3, none⟩ = some x3 ∧ w.cell? ⟨b, 4, none⟩ = some x4 ∧ w.cell? ⟨b, 5, none⟩ = some x5 ∧ w.cell? ⟨b, 6, none⟩ = some x6 ∧ w.cell? ⟨b, 7, none⟩ = some x7 ∧ w.frozen? ⟨b, 0, none⟩ = false ∧ w.frozen? ⟨b, 1, none⟩ = false ∧ w.frozen? ⟨b, 2, none⟩ = false ∧ w.frozen? ⟨b, 3, none⟩ = false ∧ w.frozen? ⟨b, 4, none⟩ = false ∧ w.frozen? ⟨b, 5, none⟩ = false ∧ w.frozen? ⟨b, 6, none⟩ = false ∧ w.frozen? ⟨b, 7, none⟩ = false :=
  ⟨h.cell 0 rfl, h.cell 1 rfl, h.cell 2 rfl, h.cell 3 rfl, h.cell 4 rfl, h.cell 5 rfl, h.cell 6 rfl, h.cell 7 rfl, h.frozen 0, h.frozen 1, h.frozen 2, h.frozen 3, h.frozen 4, h.frozen 5, h.frozen 6, h.frozen 7⟩
theorem Blk.facts9 {w : World} {b : Nat} {t : TypeId} {x0 x1 x2 x3 x4 x5 x6 x7 x8 : Value} (h : Blk w b #[x0, x1, x2, x3, x4, x5, x6, x7, x8] t) : w.cell? ⟨b, 0, none⟩ = some x0 ∧ w.cell? ⟨b, 1, none⟩ = some x1 ∧ w.cell? ⟨b, 2, none⟩ = some x2 ∧ w.cell? ⟨b, 3, none⟩ = some x3 ∧ w.cell? ⟨b, 4, none⟩ = some x4 ∧ w.cell? ⟨b, 5, none⟩ = some x5 ∧ w.cell? ⟨b, 6, none⟩ = some x6 ∧ w.cell? ⟨b, 7, none⟩ = some x7 ∧ w.cell? ⟨b, 8, none⟩ = some x8 ∧ w.frozen? ⟨b, 0, none⟩ = false ∧ w.frozen? ⟨b, 1, none⟩ = false ∧ w.frozen? ⟨b, 2, none⟩ = false ∧ w.frozen? ⟨b, 3, none⟩ = false ∧ w.frozen? ⟨b, 4, none⟩ = false ∧ w.frozen? ⟨b, 5, none⟩ = false ∧ w.frozen? ⟨b, 6, none⟩ = false ∧ w.frozen? ⟨b, 7, none⟩ = false ∧ w.frozen? ⟨b, 8, none⟩ = false :=
  ⟨h.cell 0 rfl, h.cell 1 rfl, h.cell 2 rfl, h.cell 3 rfl, h.cell 4 rfl, h.cell 5 rfl, h.cell 6 rfl, h.cell 7 rfl, h.cell 8 rfl, h.frozen 0, h.frozen 1, h.frozen 2, h.frozen 3, h.frozen 4, h.frozen 5, h.frozen 6, h.frozen 7, h.frozen 8⟩
theorem Blk.facts10 {w : World} {b : Nat} {t : TypeId} {x0 x1 x2 x3 x4 x5 x6 x7 x8 x9 : Value} (h : Blk w b #[x0, x1, x2, x3, x4, x5, x6, x7, x8, x9] t) : w.cell? ⟨b, 0, none⟩ = some x0 ∧ w.cell? ⟨b, 1, none⟩ = some x1 ∧ w.cell? ⟨b, 2, none⟩ = some x2 ∧ w.cell? ⟨b, 3, none⟩ = some x3 ∧ w.cell? ⟨b, 4, none⟩ = some x4 ∧ w.cell? ⟨b, 5, none⟩ = some x5 ∧ w.cell? ⟨b, 6, none⟩ = some x6 ∧ w.cell? ⟨b, 7, none⟩ = some x7 ∧ w.cell? ⟨b, 8, none⟩ = some x8 ∧ w.cell? ⟨b, 9, none⟩ = some x9 ∧ w.frozen? ⟨b, 0, none⟩ = false ∧ w.frozen? ⟨b, 1, none⟩ = false ∧ w.frozen? ⟨b, 2, none⟩ = false ∧ w.frozen? ⟨b, 3, none⟩ = false ∧ w.frozen? ⟨b, 4, none⟩ = false ∧ w.frozen? ⟨b, 5, none⟩ = false ∧ w.frozen? ⟨b, 6, none⟩ = false ∧ w.frozen? ⟨b, 7, none⟩ = false ∧ w.frozen? ⟨b, 8, none⟩ = false ∧ w.frozen? ⟨b, 9, none⟩ = false :=
  ⟨h.cell 0 rfl, h.cell 1 rfl, h.cell 2 rfl, h.cell 3 rfl, h.cell 4 rfl, h.cell 5 rfl, h.cell 6 rfl, h.cell 7 rfl, h.cell 8 rfl, h.cell 9 rfl, h.frozen 0, h.frozen 1, h.frozen 2, h.frozen 3, h.frozen 4, h.frozen 5, h.frozen 6, h.frozen 7, h.frozen 8, h.frozen 9⟩
theorem Blk.b3 {w : World} {b : Nat} {t : TypeId} {x y z : Value} (h : Blk w b #[x, y, z] t) : Blk3 w b x y z t := h
/-- the panic of the interval layer -/
def failed : List PanicEntry := [{ v := .iface 355 (.agg #[.int .i64 1]), recovered := false }]
theorem fr_flag {w : World} {p q : Bool} {a a' : Option Addr} {n n' c c' x y : Nat} (h : Fr w (.agg #[.bool p, .slice a n c, .slice a' n' c']) q x y) : p = q := by
  obtain ⟨vn, vd, e, _, _⟩ := h
  cases e
  rfl
set_option maxHeartbeats 1000000 in
set_option maxRecDepth 100000 in
theorem number_ok {w : World} {v : Value} {neg : Bool} {N D : Nat} (h : Rt w v neg N D) (hT : Laid w) (hs : small N D = true) :
    Calls Tryz.prog 319 #[v] w (RetFr (neg && decide (0 < N)) (rN N D) (rD N D) w) := by
  have hrd := fun (w' : World) (k : Kept w w') => read_calls (h.kept k) (hT.kept k)
  obtain ⟨vn, vd, rfl, hn, hd⟩ := h
  obtain ⟨a, n, cap, xs, rfl, _⟩ := hn.shape'
  obtain ⟨ad, nd, capd, ys, rfl, _⟩ := hd.shape'
  have hb2 := Blk.new (w.alloc (.cells #[.bool neg, .slice a n cap, .slice ad nd capd] 24)) #[.bool false, .slice none 0 0, .slice none 0 0] 217
  have hk1 : Kept w ((w.alloc (.cells #[.bool neg, .slice a n cap, .slice ad nd capd] 24)).alloc (.cells #[.bool false, .slice none 0 0, .slice none 0 0] 217)) := ((Kept.refl _).alloc _).alloc _
  have esz : (w.alloc (.cells #[.bool neg, .slice a n cap, .slice ad nd capd] 24)).heap.size = w.heap.size + 1 := by simp [go_sem]
  rw [esz] at hb2
  clear esz hn hd
  have hr1 := hrd _ hk1
  clear hrd
  go_enter Tryz.func319, Tryz.ntmps319
  go_wp2_with fail
  generalize (w.alloc (.cells #[.bool neg, .slice a n cap, .slice ad nd capd] 24)).alloc (.cells #[.bool false, .slice none 0 0, .slice none 0 0] 217) = w1 at *
  generalize hbE : w.heap.size = b0 at hb2 ⊢
  have HBE := Lib.hid hbE; clear hbE
  refine hr1.mono ?_
  rintro e w2 ⟨p, a2, n2, c2, a3, n3, c3, rfl, hk2, hfr⟩
  have hfr := hfr hs
  obtain rfl := fr_flag hfr
  generalize hp : (neg && decide (0 < N)) = p at *
  have hb2' := hb2.kept hk2
  obtain ⟨c0, c1, c2', f0, f1, f2⟩ := (hb2'.kept ((Kept.refl w2).alloc (.cells #[.bool p, .slice a2 n2 c2, .slice a3 n3 c3] 217))).b3.facts
  rw [hs]
  go_wp2
  have hk3 : Kept w (w2.alloc (.cells #[.bool p, .slice a2 n2 c2, .slice a3 n3 c3] 217)) := (hk1.trans hk2).alloc _
  have hkb := KeptB.store3 (w2.alloc (.cells #[.bool p, .slice a2 n2 c2, .slice a3 n3 c3] 217)) (b0 + 1) (.bool p) (.slice a2 n2 c2) (.slice a3 n3 c3)
  have hnw := (hb2'.kept ((Kept.refl w2).alloc (.cells #[.bool p, .slice a2 n2 c2, .slice a3 n3 c3] 217))).noWords rfl
  have hfr3 := hfr.kept ((Kept.refl w2).alloc (.cells #[.bool p, .slice a2 n2 c2, .slice a3 n3 c3] 217))
  refine bodyPost_ret (v := .agg #[.bool p, .slice a2 n2 c2, .slice a3 n3 c3]) (by simp [results, Tryz.results319, go_sem, c0, c1, c2']) rfl ⟨_, rfl, ?_, hk3.but hkb (by have := HBE.out; omega)⟩
  obtain ⟨vn, vd, e, h1, h2⟩ := hfr3
  cases e
  exact ⟨_, _, rfl, h1.keptB hkb hnw, h2.keptB hkb hnw⟩
theorem must_calls (w : World) : Calls Tryz.prog 376 #[.int .i64 1] w fun e w' => e = .panicked failed ∧ w = w' := by
  go_enter Tryz.func376, Tryz.ntmps376
  go_wp2
  exact ⟨rfl, rfl, rfl⟩
set_option maxHeartbeats 1000000 in
set_option maxRecDepth 100000 in
theorem number_big {w : World} {v : Value} {neg : Bool} {N D : Nat} (h : Rt w v neg N D) (hT : Laid w) (hs : small N D = false) :
    Calls Tryz.prog 319 #[v] w fun e w' => e = .panicked failed ∧ Kept w w' := by
  have hrd := fun (w' : World) (k : Kept w w') => read_calls (h.kept k) (hT.kept k)
  obtain ⟨vn, vd, rfl, hn, hd⟩ := h
  obtain ⟨a, n, cap, xs, rfl, _⟩ := hn.shape'
  obtain ⟨ad, nd, capd, ys, rfl, _⟩ := hd.shape'
  have hk1 : Kept w ((w.alloc (.cells #[.bool neg, .slice a n cap, .slice ad nd capd] 24)).alloc (.cells #[.bool false, .slice none 0 0, .slice none 0 0] 217)) := ((Kept.refl _).alloc _).alloc _
  clear hn hd
  have hr1 := hrd _ hk1
  clear hrd
  go_enter Tryz.func319, Tryz.ntmps319
  go_wp2_with fail
  generalize (w.alloc (.cells #[.bool neg, .slice a n cap, .slice ad nd capd] 24)).alloc (.cells #[.bool false, .slice none 0 0, .slice none 0 0] 217) = w1 at *
  refine hr1.mono ?_
  rintro e w2 ⟨p, a2, n2, c2, a3, n3, c3, rfl, hk2, _⟩
  rw [hs]
  go_wp2_with (go_at_call 376; refine (must_calls _).mono ?_; rintro e w3 ⟨rfl, rfl⟩)
  exact ⟨rfl, rfl, (hk1.trans hk2).alloc _⟩
end Go.Proofs.YtbapfnpbamnmpaaGreatDoor
end

section
namespace Go.Proofs.YtbapfnpbamnmpaaGreatDoor
open Go Go.RowKit Go.Dig
open Go.Eng (Kept KW KeptB)

/-- an interval as it came in -/
structure IvD where
  s1 : Bool
  N1 : Nat
  D1 : Nat
  s2 : Bool
  N2 : Nat
  D2 : Nat
  li : Bool
  hi : Bool
def Ivl (w : World) (v : Value) (i : IvD) : Prop :=
  ∃ a n c a' n' c' b m e b' m' e', v = .agg #[.bool i.s1, .slice a n c, .slice a' n' c', .bool i.s2, .slice b m e, .slice b' m' e', .bool i.li, .bool i.hi] ∧
    Rt w (.agg #[.bool i.s1, .slice a n c, .slice a' n' c']) i.s1 i.N1 i.D1 ∧ Rt w (.agg #[.bool i.s2, .slice b m e, .slice b' m' e']) i.s2 i.N2 i.D2
theorem Ivl.kept {w w' : World} {v : Value} {i : IvD} (h : Ivl w v i) (k : Kept w w') : Ivl w' v i := by
  obtain ⟨a, n, c, a', n', c', b, m, e, b', m', e', h1, h2, h3⟩ := h
  exact ⟨a, n, c, a', n', c', b, m, e, b', m', e', h1, h2.kept k, h3.kept k⟩
def IvD.fine (i : IvD) : Bool := small i.N1 i.D1 && small i.N2 i.D2
/-- the interval is empty: the lower end is greater -/
def IvD.void (i : IvD) : Bool := !i.li && !i.hi && decide (0 < qcmp (i.s1 && decide (0 < i.N1)) (rN i.N1 i.D1) (rD i.N1 i.D1) (i.s2 && decide (0 < i.N2)) (rN i.N2 i.D2) (rD i.N2 i.D2))
theorem Rt.shape {w : World} {v : Value} {neg : Bool} {N D : Nat} (h : Rt w v neg N D) : ∃ a n c a' n' c', v = .agg #[.bool neg, .slice a n c, .slice a' n' c'] := by
  obtain ⟨vn, vd, rfl, hn, hd⟩ := h
  obtain ⟨a, n, cap, xs, rfl, _⟩ := hn.shape'
  obtain ⟨ad, nd, capd, ys, rfl, _⟩ := hd.shape'
  exact ⟨_, _, _, _, _, _, rfl⟩
/-! ### Large -/
set_option maxHeartbeats 1000000 in
set_option maxRecDepth 100000 in
theorem ilarge_calls {w : World} {v : Value} {i : IvD} (h : Ivl w v i) :
    Calls Tryz.prog 146 #[v] w fun e w' => e = .returned (.bool (!i.fine)) ∧ Kept w w' := by
  obtain ⟨s1, N1, D1, s2, N2, D2, li, hi⟩ := i
  obtain ⟨a, n, c, a', n', c', b, m, e, b', m', e', rfl, h1, h2⟩ := h
  have hb := Blk.new w #[.bool s1, .slice a n c, .slice a' n' c', .bool s2, .slice b m e, .slice b' m' e', .bool li, .bool hi] 39
  have hk : Kept w (w.alloc (.cells #[.bool s1, .slice a n c, .slice a' n' c', .bool s2, .slice b m e, .slice b' m' e', .bool li, .bool hi] 39)) := (Kept.refl _).alloc _
  have hl1 := large_calls (h1.kept hk)
  have hl2 := fun (w' : World) (k : Kept w w') => large_calls (h2.kept k)
  show Calls Tryz.prog 146 _ w fun e w' => e = .returned (.bool (!(small N1 D1 && small N2 D2))) ∧ Kept w w'
  clear h1 h2
  generalize small N1 D1 = p at *
  generalize small N2 D2 = q at *
  cases p
  · rw [show (!false) = true from rfl] at hl1
    go_enter Tryz.func146, Tryz.ntmps146
    go_wp2_with (go_at_call 120; refine hl1.mono ?_; rintro e w1 ⟨rfl, hk1⟩)
    go_ret
    exact ⟨rfl, hk.trans hk1⟩
  · rw [show (!true) = false from rfl] at hl1
    go_enter Tryz.func146, Tryz.ntmps146
    go_wp2_with fail
    refine hl1.mono ?_
    rintro e w1 ⟨rfl, hk1⟩
    obtain ⟨c0, c1, c2, c3, c4, c5, c6, c7, _⟩ := (hb.kept hk1).facts8
    go_wp2_with (go_at_call 120; refine (hl2 _ (hk.trans hk1)).mono ?_; rintro e w2 ⟨rfl, hk2⟩)
    go_ret
    exact ⟨by simp, (hk.trans hk1).trans hk2⟩
end Go.Proofs.YtbapfnpbamnmpaaGreatDoor
end
