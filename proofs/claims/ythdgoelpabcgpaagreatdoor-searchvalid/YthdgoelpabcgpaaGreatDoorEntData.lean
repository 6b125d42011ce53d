/- A part of the proof that SearchNil answers true for every input: conditions: the row's own. -/
import Derived.Test.YthdgoelpabcgpaaGreatDoorEngF
section
namespace Go.Eng
open Go
noncomputable def entSq : Entry where
  f := 10
  args := []
  H := ⟨(.node (some (.cells [(.int .u8 (.ofNat 0)), (.int .u8 (.ofNat 1)), (.int .u8 (.ofNat 28)), (.int .u8 (.ofNat 2)), (.int .u8 (.ofNat 29)), (.int .u8 (.ofNat 14)),
  (.int .u8 (.ofNat 24)), (.int .u8 (.ofNat 3)), (.int .u8 (.ofNat 30)), (.int .u8 (.ofNat 22)), (.int .u8 (.ofNat 20)), (.int .u8 (.ofNat 15)), (.int .u8 (.ofNat 25)),
  (.int .u8 (.ofNat 17)), (.int .u8 (.ofNat 4)), (.int .u8 (.ofNat 8)), (.int .u8 (.ofNat 31)), (.int .u8 (.ofNat 27)), (.int .u8 (.ofNat 13)), (.int .u8 (.ofNat 23)),
  (.int .u8 (.ofNat 21)), (.int .u8 (.ofNat 19)), (.int .u8 (.ofNat 16)), (.int .u8 (.ofNat 7)), (.int .u8 (.ofNat 26)), (.int .u8 (.ofNat 12)), (.int .u8 (.ofNat 18)),
  (.int .u8 (.ofNat 6)), (.int .u8 (.ofNat 11)), (.int .u8 (.ofNat 5)), (.int .u8 (.ofNat 10)), (.int .u8 (.ofNat 9))] 363 false false)) (Tr.full 11) (Tr.full 11)), 8⟩
  v := (.agg ⟨[(.int .i64 (.ofNat 5)), (.int .i64 (.ofNat 0)), (.bool false), (.slice none 0 0), (.slice none 0 0), (.string ⟨⟨[]⟩⟩), (.slice (some ⟨177, 0, none⟩) 2 2), (.bool true),
  (.slice (some ⟨586, 0, none⟩) 1 1), (.slice none 0 0)]⟩)
  H' := ⟨(.node (some (.cells [(.int .u8 (.ofNat 0)), (.int .u8 (.ofNat 1)), (.int .u8 (.ofNat 28)), (.int .u8 (.ofNat 2)), (.int .u8 (.ofNat 29)), (.int .u8 (.ofNat 14)),
  (.int .u8 (.ofNat 24)), (.int .u8 (.ofNat 3)), (.int .u8 (.ofNat 30)), (.int .u8 (.ofNat 22)), (.int .u8 (.ofNat 20)), (.int .u8 (.ofNat 15)), (.int .u8 (.ofNat 25)),
  (.int .u8 (.ofNat 17)), (.int .u8 (.ofNat 4)), (.int .u8 (.ofNat 8)), (.int .u8 (.ofNat 31)), (.int .u8 (.ofNat 27)), (.int .u8 (.ofNat 13)), (.int .u8 (.ofNat 23)),
  (.int .u8 (.ofNat 21)), (.int .u8 (.ofNat 19)), (.int .u8 (.ofNat 16)), (.int .u8 (.ofNat 7)), (.int .u8 (.ofNat 26)), (.int .u8 (.ofNat 12)), (.int .u8 (.ofNat 18)),
  (.int .u8 (.ofNat 6)), (.int .u8 (.ofNat 11)), (.int .u8 (.ofNat 5)), (.int .u8 (.ofNat 10)), (.int .u8 (.ofNat 9))] 363 false false)) (.node none (.node none (Tr.full 9)
  (.node none (Tr.full 8) (.node none (Tr.full 7) (.node none (Tr.full 6) (.node (some (.cells [(.int .i64 (.ofNat 2)), (.int .i64 (.ofNat 0)), (.bool false), (.slice none 0 0),
  (.slice none 0 0), (.string ⟨⟨[120]⟩⟩), (.slice none 0 0)] 37 true true)) (Tr.full 5) (Tr.full 5)))))) (.node none (.node none (.node none (Tr.full 7) (.node none (Tr.full 6)
  (.node none (.node (some (.cells [(.int .i64 (.ofNat 9)), (.int .i64 (.ofNat 2)), (.bool false), (.slice none 0 0), (.slice none 0 0), (.string ⟨⟨[]⟩⟩), (.slice (some ⟨123, 0,
  none⟩) 1 1), (.int .i64 (.ofNat 1)), (.int .i64 (.ofNat 0)), (.bool false), (.slice (some ⟨162, 0, none⟩) 1 1), (.slice none 0 0), (.string ⟨⟨[]⟩⟩),
  (.slice none 0 0)] 37 true true)) (Tr.full 4) (Tr.full 4)) (Tr.full 5)))) (Tr.full 8)) (Tr.full 9))) (.node none (Tr.full 10) (.node none (.node none (.node none
  (.node none (Tr.full 6) (.node none (.node (some (.cells [(.int .u32 (.ofNat 1))] 227 true true)) (Tr.full 4) (Tr.full 4)) (Tr.full 5))) (Tr.full 7)) (.node none (.node none
  (.node none (Tr.full 5) (.node none (.node none (.node (some (.cells [(.string ⟨⟨[120]⟩⟩), (.bool false), (.slice none 0 0), (.slice none 0 0), (.bool false),
  (.slice (some ⟨582, 0, none⟩) 1 1), (.slice none 0 0), (.bool false),
  (.bool false)] 122 true true)) (Tr.full 2) (Tr.full 2)) (Tr.full 3)) (Tr.full 4))) (Tr.full 6)) (Tr.full 7))) (.node none (.node none (.node none (.node none (Tr.full 5)
  (.node none (.node none
  (.node (some (.cells [(.int .u32 (.ofNat 2))] 227 true true)) (Tr.full 2) (Tr.full 2)) (Tr.full 3)) (Tr.full 4))) (Tr.full 6)) (Tr.full 7)) (Tr.full 8))))), 588⟩
noncomputable def entReady1 : Entry where
  f := 33
  args := [(.agg ⟨[(.int .i64 (.ofNat 5)), (.int .i64 (.ofNat 0)), (.bool false), (.slice none 0 0), (.slice none 0 0), (.string ⟨⟨[]⟩⟩), (.slice (some ⟨177, 0, none⟩) 2 2), (.bool true),
  (.slice (some ⟨586, 0, none⟩) 1 1), (.slice none 0 0)]⟩), (.agg ⟨[(.int .i64 (.ofNat 1)), (.int .i64 (.ofNat 0)), (.int .i64 (.ofNat 0))]⟩)]
  H := ⟨(.node (some (.cells [(.int .u8 (.ofNat 0)), (.int .u8 (.ofNat 1)), (.int .u8 (.ofNat 28)), (.int .u8 (.ofNat 2)), (.int .u8 (.ofNat 29)), (.int .u8 (.ofNat 14)),
  (.int .u8 (.ofNat 24)), (.int .u8 (.ofNat 3)), (.int .u8 (.ofNat 30)), (.int .u8 (.ofNat 22)), (.int .u8 (.ofNat 20)), (.int .u8 (.ofNat 15)), (.int .u8 (.ofNat 25)),
  (.int .u8 (.ofNat 17)), (.int .u8 (.ofNat 4)), (.int .u8 (.ofNat 8)), (.int .u8 (.ofNat 31)), (.int .u8 (.ofNat 27)), (.int .u8 (.ofNat 13)), (.int .u8 (.ofNat 23)),
  (.int .u8 (.ofNat 21)), (.int .u8 (.ofNat 19)), (.int .u8 (.ofNat 16)), (.int .u8 (.ofNat 7)), (.int .u8 (.ofNat 26)), (.int .u8 (.ofNat 12)), (.int .u8 (.ofNat 18)),
  (.int .u8 (.ofNat 6)), (.int .u8 (.ofNat 11)), (.int .u8 (.ofNat 5)), (.int .u8 (.ofNat 10)), (.int .u8 (.ofNat 9))] 363 false false)) (.node none (.node none (.node none
  (.node none (Tr.full 7) (.node none (.node none (Tr.full 5) (.node none (.node none (.node (some (.cells [(.int .i64 (.ofNat 5)), (.int .i64 (.ofNat 0)), (.bool false),
  (.slice none 0 0), (.slice none 0 0), (.string ⟨⟨[]⟩⟩), (.slice (some ⟨177, 0, none⟩) 2 2), (.bool true), (.slice (some ⟨586, 0, none⟩) 1 1),
  (.slice none 0 0)] 51 true false)) (Tr.full 2) (Tr.full 2)) (Tr.full 3)) (Tr.full 4))) (Tr.full 6))) (Tr.full 8)) (.node none (Tr.full 8) (.node none (Tr.full 7)
  (.node none (Tr.full 6) (.node (some (.cells [(.int .i64 (.ofNat 2)), (.int .i64 (.ofNat 0)), (.bool false), (.slice none 0 0), (.slice none 0 0), (.string ⟨⟨[120]⟩⟩),
  (.slice none 0 0)] 37 true true)) (Tr.full 5) (Tr.full 5)))))) (.node none (.node none (.node none (Tr.full 7) (.node none (Tr.full 6) (.node none
  (.node (some (.cells [(.int .i64 (.ofNat 9)), (.int .i64 (.ofNat 2)), (.bool false), (.slice none 0 0), (.slice none 0 0), (.string ⟨⟨[]⟩⟩), (.slice (some ⟨123, 0, none⟩) 1 1),
  (.int .i64 (.ofNat 1)), (.int .i64 (.ofNat 0)), (.bool false), (.slice (some ⟨162, 0, none⟩) 1 1), (.slice none 0 0), (.string ⟨⟨[]⟩⟩),
  (.slice none 0 0)] 37 true true)) (Tr.full 4) (Tr.full 4)) (Tr.full 5)))) (Tr.full 8)) (.node none (Tr.full 8) (.node none (.node none (.node none (Tr.full 5) (.node none
  (.node none (.node (some (.cells [(.int .i64 (.ofNat 1)), (.int .i64 (.ofNat 0)),
  (.int .i64 (.ofNat 0))] 23 true false)) (Tr.full 2) (Tr.full 2)) (Tr.full 3)) (Tr.full 4))) (Tr.full 6)) (Tr.full 7))))) (.node none (.node none (.node none
  (.node none (Tr.full 7) (.node none (.node none (Tr.full 5) (.node none (.node none (.node (some (.cells [(.int .i64 (.ofNat 1)), (.int .i64 (.ofNat 0)),
  (.int .i64 (.ofNat 0))] 23 true false)) (Tr.full 2) (Tr.full 2)) (Tr.full 3)) (Tr.full 4))) (Tr.full 6))) (Tr.full 8)) (.node none (Tr.full 8) (.node none (.node none
  (.node none (Tr.full 5) (.node none (.node none (.node (some (.cells [(.int .i64 (.ofNat 5)), (.int .i64 (.ofNat 0)), (.bool false), (.slice none 0 0), (.slice none 0 0),
  (.string ⟨⟨[]⟩⟩), (.slice (some ⟨177, 0, none⟩) 2 2), (.bool true), (.slice (some ⟨586, 0, none⟩) 1 1),
  (.slice none 0 0)] 51 true false)) (Tr.full 2) (Tr.full 2)) (Tr.full 3)) (Tr.full 4))) (Tr.full 6)) (Tr.full 7)))) (.node none (.node none (.node none (.node none (Tr.full 6)
  (.node none (.node (some (.cells [(.int .u32 (.ofNat 1))] 227 true true)) (Tr.full 4) (Tr.full 4)) (Tr.full 5))) (Tr.full 7)) (.node none (.node none (.node none (Tr.full 5)
  (.node none (.node none (.node (some (.cells [(.string ⟨⟨[120]⟩⟩), (.bool false), (.slice none 0 0), (.slice none 0 0), (.bool false), (.slice (some ⟨582, 0, none⟩) 1 1),
  (.slice none 0 0), (.bool false), (.bool false)] 122 true true)) (Tr.full 2) (Tr.full 2)) (Tr.full 3)) (Tr.full 4))) (Tr.full 6)) (Tr.full 7))) (.node none (.node none
  (.node none (.node none (Tr.full 5) (.node none (.node none
  (.node (some (.cells [(.int .u32 (.ofNat 2))] 227 true true)) (Tr.full 2) (Tr.full 2)) (Tr.full 3)) (Tr.full 4))) (Tr.full 6)) (Tr.full 7)) (.node none (.node none
  (.node none (Tr.full 5) (.node none (.node none (.node (some (.cells [(.int .i64 (.ofNat 0)), (.int .i64 (.ofNat 0)), (.int .i64 (.ofNat 0)), (.string ⟨⟨[]⟩⟩), (.string ⟨⟨[]⟩⟩),
  (.bool false), (.slice none 0 0), (.slice none 0 0), (.int .i64 (.ofNat 0)), (.int .i64 (.ofNat 0)), (.int .i64 (.ofNat 0)), (.int .i64 (.ofNat 0)), (.int .i64 (.ofNat 0)),
  (.bool false), (.slice none 0 0), (.slice none 0 0), (.string ⟨⟨[]⟩⟩), (.slice none 0 0), (.slice none 0 0), (.string ⟨⟨[]⟩⟩), (.int .i64 (.ofNat 0)), (.slice none 0 0),
  (.slice none 0 0), (.slice none 0 0)] 44 true false)) (Tr.full 2) (Tr.full 2)) (Tr.full 3)) (Tr.full 4))) (Tr.full 6)) (Tr.full 7)))))), 593⟩
  v := (.int .i64 (.ofNat 0))
  H' := ⟨(.node (some (.cells [(.int .u8 (.ofNat 0)), (.int .u8 (.ofNat 1)), (.int .u8 (.ofNat 28)), (.int .u8 (.ofNat 2)), (.int .u8 (.ofNat 29)), (.int .u8 (.ofNat 14)),
  (.int .u8 (.ofNat 24)), (.int .u8 (.ofNat 3)), (.int .u8 (.ofNat 30)), (.int .u8 (.ofNat 22)), (.int .u8 (.ofNat 20)), (.int .u8 (.ofNat 15)), (.int .u8 (.ofNat 25)),
  (.int .u8 (.ofNat 17)), (.int .u8 (.ofNat 4)), (.int .u8 (.ofNat 8)), (.int .u8 (.ofNat 31)), (.int .u8 (.ofNat 27)), (.int .u8 (.ofNat 13)), (.int .u8 (.ofNat 23)),
  (.int .u8 (.ofNat 21)), (.int .u8 (.ofNat 19)), (.int .u8 (.ofNat 16)), (.int .u8 (.ofNat 7)), (.int .u8 (.ofNat 26)), (.int .u8 (.ofNat 12)), (.int .u8 (.ofNat 18)),
  (.int .u8 (.ofNat 6)), (.int .u8 (.ofNat 11)), (.int .u8 (.ofNat 5)), (.int .u8 (.ofNat 10)), (.int .u8 (.ofNat 9))] 363 false false)) (.node none (.node none (.node none
  (.node none (Tr.full 7) (.node none (.node none (Tr.full 5) (.node none (.node none (.node (some (.cells [(.int .i64 (.ofNat 5)), (.int .i64 (.ofNat 0)), (.bool false),
  (.slice none 0 0), (.slice none 0 0), (.string ⟨⟨[]⟩⟩), (.slice (some ⟨177, 0, none⟩) 2 2), (.bool true), (.slice (some ⟨586, 0, none⟩) 1 1),
  (.slice none 0 0)] 51 true false)) (Tr.full 2) (Tr.full 2)) (Tr.full 3)) (Tr.full 4))) (Tr.full 6))) (Tr.full 8)) (.node none (Tr.full 8) (.node none (Tr.full 7)
  (.node none (Tr.full 6) (.node (some (.cells [(.int .i64 (.ofNat 2)), (.int .i64 (.ofNat 0)), (.bool false), (.slice none 0 0), (.slice none 0 0), (.string ⟨⟨[120]⟩⟩),
  (.slice none 0 0)] 37 true true)) (Tr.full 5) (Tr.full 5)))))) (.node none (.node none (.node none (Tr.full 7) (.node none (Tr.full 6) (.node none
  (.node (some (.cells [(.int .i64 (.ofNat 9)), (.int .i64 (.ofNat 2)), (.bool false), (.slice none 0 0), (.slice none 0 0), (.string ⟨⟨[]⟩⟩), (.slice (some ⟨123, 0, none⟩) 1 1),
  (.int .i64 (.ofNat 1)), (.int .i64 (.ofNat 0)), (.bool false), (.slice (some ⟨162, 0, none⟩) 1 1), (.slice none 0 0), (.string ⟨⟨[]⟩⟩),
  (.slice none 0 0)] 37 true true)) (Tr.full 4) (Tr.full 4)) (Tr.full 5)))) (Tr.full 8)) (.node none (Tr.full 8) (.node none (.node none (.node none (Tr.full 5) (.node none
  (.node none (.node (some (.cells [(.int .i64 (.ofNat 1)), (.int .i64 (.ofNat 0)),
  (.int .i64 (.ofNat 0))] 23 true false)) (Tr.full 2) (Tr.full 2)) (Tr.full 3)) (Tr.full 4))) (Tr.full 6)) (Tr.full 7))))) (.node none (.node none (.node none
  (.node none (Tr.full 7) (.node none (.node none (Tr.full 5) (.node none (.node none (.node (some (.cells [(.int .i64 (.ofNat 1)), (.int .i64 (.ofNat 0)),
  (.int .i64 (.ofNat 0))] 23 true false)) (Tr.full 2) (Tr.full 2)) (Tr.full 3)) (Tr.full 4))) (Tr.full 6))) (Tr.full 8)) (.node none (Tr.full 8) (.node none (.node none
  (.node none (Tr.full 5) (.node none (.node none (.node (some (.cells [(.int .i64 (.ofNat 5)), (.int .i64 (.ofNat 0)), (.bool false), (.slice none 0 0), (.slice none 0 0),
  (.string ⟨⟨[]⟩⟩), (.slice (some ⟨177, 0, none⟩) 2 2), (.bool true), (.slice (some ⟨586, 0, none⟩) 1 1),
  (.slice none 0 0)] 51 true false)) (Tr.full 2) (Tr.full 2)) (Tr.full 3)) (Tr.full 4))) (Tr.full 6)) (Tr.full 7)))) (.node none (.node none (.node none (.node none (Tr.full 6)
  (.node none (.node (some (.cells [(.int .u32 (.ofNat 1))] 227 true true)) (Tr.full 4) (Tr.full 4)) (Tr.full 5))) (Tr.full 7)) (.node none (.node none (.node none (Tr.full 5)
  (.node none (.node none (.node (some (.cells [(.string ⟨⟨[120]⟩⟩), (.bool false), (.slice none 0 0), (.slice none 0 0), (.bool false), (.slice (some ⟨582, 0, none⟩) 1 1),
  (.slice none 0 0), (.bool false), (.bool false)] 122 true true)) (Tr.full 2) (Tr.full 2)) (Tr.full 3)) (Tr.full 4))) (Tr.full 6)) (Tr.full 7))) (.node none (.node none
  (.node none (.node none (Tr.full 5) (.node none (.node none
  (.node (some (.cells [(.int .u32 (.ofNat 2))] 227 true true)) (Tr.full 2) (Tr.full 2)) (Tr.full 3)) (Tr.full 4))) (Tr.full 6)) (Tr.full 7)) (.node none (.node none
  (.node none (Tr.full 5) (.node none (.node none (.node (some (.cells [(.int .i64 (.ofNat 0)), (.int .i64 (.ofNat 0)), (.int .i64 (.ofNat 0)), (.string ⟨⟨[]⟩⟩), (.string ⟨⟨[]⟩⟩),
  (.bool false), (.slice none 0 0), (.slice none 0 0), (.int .i64 (.ofNat 0)), (.int .i64 (.ofNat 0)), (.int .i64 (.ofNat 0)), (.int .i64 (.ofNat 0)), (.int .i64 (.ofNat 0)),
  (.bool false), (.slice none 0 0), (.slice none 0 0), (.string ⟨⟨[]⟩⟩), (.slice none 0 0), (.slice none 0 0), (.string ⟨⟨[]⟩⟩), (.int .i64 (.ofNat 0)), (.slice none 0 0),
  (.slice none 0 0), (.slice none 0 0)] 44 true false)) (Tr.full 2) (Tr.full 2)) (Tr.full 3)) (Tr.full 4))) (Tr.full 6)) (Tr.full 7)))))), 700⟩
noncomputable def entNew : Entry where
  f := 19
  args := [(.agg ⟨[(.int .i64 (.ofNat 5)), (.int .i64 (.ofNat 0)), (.bool false), (.slice none 0 0), (.slice none 0 0), (.string ⟨⟨[]⟩⟩), (.slice (some ⟨177, 0, none⟩) 2 2), (.bool true),
  (.slice (some ⟨586, 0, none⟩) 1 1), (.slice none 0 0)]⟩), (.agg ⟨[(.int .i64 (.ofNat 1)), (.int .i64 (.ofNat 0)), (.int .i64 (.ofNat 0))]⟩)]
  H := ⟨(.node (some (.cells [(.int .u8 (.ofNat 0)), (.int .u8 (.ofNat 1)), (.int .u8 (.ofNat 28)), (.int .u8 (.ofNat 2)), (.int .u8 (.ofNat 29)), (.int .u8 (.ofNat 14)),
  (.int .u8 (.ofNat 24)), (.int .u8 (.ofNat 3)), (.int .u8 (.ofNat 30)), (.int .u8 (.ofNat 22)), (.int .u8 (.ofNat 20)), (.int .u8 (.ofNat 15)), (.int .u8 (.ofNat 25)),
  (.int .u8 (.ofNat 17)), (.int .u8 (.ofNat 4)), (.int .u8 (.ofNat 8)), (.int .u8 (.ofNat 31)), (.int .u8 (.ofNat 27)), (.int .u8 (.ofNat 13)), (.int .u8 (.ofNat 23)),
  (.int .u8 (.ofNat 21)), (.int .u8 (.ofNat 19)), (.int .u8 (.ofNat 16)), (.int .u8 (.ofNat 7)), (.int .u8 (.ofNat 26)), (.int .u8 (.ofNat 12)), (.int .u8 (.ofNat 18)),
  (.int .u8 (.ofNat 6)), (.int .u8 (.ofNat 11)), (.int .u8 (.ofNat 5)), (.int .u8 (.ofNat 10)), (.int .u8 (.ofNat 9))] 363 false false)) (.node none (.node none (Tr.full 9)
  (.node none (Tr.full 8) (.node none (Tr.full 7) (.node none (Tr.full 6) (.node (some (.cells [(.int .i64 (.ofNat 2)), (.int .i64 (.ofNat 0)), (.bool false), (.slice none 0 0),
  (.slice none 0 0), (.string ⟨⟨[120]⟩⟩), (.slice none 0 0)] 37 true true)) (Tr.full 5) (Tr.full 5)))))) (.node none (.node none (.node none (Tr.full 7) (.node none (Tr.full 6)
  (.node none (.node (some (.cells [(.int .i64 (.ofNat 9)), (.int .i64 (.ofNat 2)), (.bool false), (.slice none 0 0), (.slice none 0 0), (.string ⟨⟨[]⟩⟩), (.slice (some ⟨123, 0,
  none⟩) 1 1), (.int .i64 (.ofNat 1)), (.int .i64 (.ofNat 0)), (.bool false), (.slice (some ⟨162, 0, none⟩) 1 1), (.slice none 0 0), (.string ⟨⟨[]⟩⟩),
  (.slice none 0 0)] 37 true true)) (Tr.full 4) (Tr.full 4)) (Tr.full 5)))) (Tr.full 8)) (.node none (Tr.full 8) (.node none (.node none (.node none (Tr.full 5) (.node none
  (.node none (.node (some (.cells [(.int .i64 (.ofNat 1)), (.int .i64 (.ofNat 0)),
  (.int .i64 (.ofNat 0))] 23 true false)) (Tr.full 2) (Tr.full 2)) (Tr.full 3)) (Tr.full 4))) (Tr.full 6)) (Tr.full 7))))) (.node none (.node none (Tr.full 9)
  (.node none (Tr.full 8) (.node none (.node none (.node none (Tr.full 5) (.node none (.node none (.node (some (.cells [(.int .i64 (.ofNat 5)), (.int .i64 (.ofNat 0)),
  (.bool false), (.slice none 0 0), (.slice none 0 0), (.string ⟨⟨[]⟩⟩), (.slice (some ⟨177, 0, none⟩) 2 2), (.bool true), (.slice (some ⟨586, 0, none⟩) 1 1),
  (.slice none 0 0)] 51 true false)) (Tr.full 2) (Tr.full 2)) (Tr.full 3)) (Tr.full 4))) (Tr.full 6)) (Tr.full 7)))) (.node none (.node none (.node none (.node none (Tr.full 6)
  (.node none (.node (some (.cells [(.int .u32 (.ofNat 1))] 227 true true)) (Tr.full 4) (Tr.full 4)) (Tr.full 5))) (Tr.full 7)) (.node none (.node none (.node none (Tr.full 5)
  (.node none (.node none (.node (some (.cells [(.string ⟨⟨[120]⟩⟩), (.bool false), (.slice none 0 0), (.slice none 0 0), (.bool false), (.slice (some ⟨582, 0, none⟩) 1 1),
  (.slice none 0 0), (.bool false), (.bool false)] 122 true true)) (Tr.full 2) (Tr.full 2)) (Tr.full 3)) (Tr.full 4))) (Tr.full 6)) (Tr.full 7))) (.node none (.node none
  (.node none (.node none (Tr.full 5) (.node none (.node none
  (.node (some (.cells [(.int .u32 (.ofNat 2))] 227 true true)) (Tr.full 2) (Tr.full 2)) (Tr.full 3)) (Tr.full 4))) (Tr.full 6)) (Tr.full 7)) (.node none (.node none
  (.node none (Tr.full 5) (.node none (.node none (.node (some (.cells [(.int .i64 (.ofNat 0)), (.int .i64 (.ofNat 0)), (.int .i64 (.ofNat 0)), (.string ⟨⟨[]⟩⟩), (.string ⟨⟨[]⟩⟩),
  (.bool false), (.slice none 0 0), (.slice none 0 0), (.int .i64 (.ofNat 0)), (.int .i64 (.ofNat 0)), (.int .i64 (.ofNat 0)), (.int .i64 (.ofNat 0)), (.int .i64 (.ofNat 0)),
  (.bool false), (.slice none 0 0), (.slice none 0 0), (.string ⟨⟨[]⟩⟩), (.slice none 0 0), (.slice none 0 0), (.string ⟨⟨[]⟩⟩), (.int .i64 (.ofNat 0)), (.slice none 0 0),
  (.slice none 0 0), (.slice none 0 0)] 44 true false)) (Tr.full 2) (Tr.full 2)) (Tr.full 3)) (Tr.full 4))) (Tr.full 6)) (Tr.full 7)))))), 591⟩
  v := (.tuple ⟨[(.pointer (some ⟨862, 0, none⟩)), (.int .i64 (.ofNat 0))]⟩)
  H' := ⟨(.node (some (.cells [(.int .u8 (.ofNat 0)), (.int .u8 (.ofNat 1)), (.int .u8 (.ofNat 28)), (.int .u8 (.ofNat 2)), (.int .u8 (.ofNat 29)), (.int .u8 (.ofNat 14)),
  (.int .u8 (.ofNat 24)), (.int .u8 (.ofNat 3)), (.int .u8 (.ofNat 30)), (.int .u8 (.ofNat 22)), (.int .u8 (.ofNat 20)), (.int .u8 (.ofNat 15)), (.int .u8 (.ofNat 25)),
  (.int .u8 (.ofNat 17)), (.int .u8 (.ofNat 4)), (.int .u8 (.ofNat 8)), (.int .u8 (.ofNat 31)), (.int .u8 (.ofNat 27)), (.int .u8 (.ofNat 13)), (.int .u8 (.ofNat 23)),
  (.int .u8 (.ofNat 21)), (.int .u8 (.ofNat 19)), (.int .u8 (.ofNat 16)), (.int .u8 (.ofNat 7)), (.int .u8 (.ofNat 26)), (.int .u8 (.ofNat 12)), (.int .u8 (.ofNat 18)),
  (.int .u8 (.ofNat 6)), (.int .u8 (.ofNat 11)), (.int .u8 (.ofNat 5)), (.int .u8 (.ofNat 10)), (.int .u8 (.ofNat 9))] 363 false false)) (.node none (.node none (Tr.full 9)
  (.node none (Tr.full 8) (.node none (Tr.full 7) (.node none (.node none (Tr.full 5) (.node none (.node none (Tr.full 3) (.node (some (.cells [(.string ⟨⟨[120]⟩⟩), (.bool false),
  (.slice none 0 0), (.slice none 0 0), (.bool false), (.slice (some ⟨854, 0, none⟩) 1 1), (.slice none 0 0), (.bool false),
  (.bool false)] 122 true true)) (Tr.full 2) (Tr.full 2))) (Tr.full 4))) (.node (some (.cells [(.int .i64 (.ofNat 2)), (.int .i64 (.ofNat 0)), (.bool false), (.slice none 0 0),
  (.slice none 0 0), (.string ⟨⟨[120]⟩⟩), (.slice none 0 0)] 37 true true)) (Tr.full 5) (Tr.full 5)))))) (.node none (.node none (.node none (Tr.full 7) (.node none (Tr.full 6)
  (.node none (.node (some (.cells [(.int .i64 (.ofNat 9)), (.int .i64 (.ofNat 2)), (.bool false), (.slice none 0 0), (.slice none 0 0), (.string ⟨⟨[]⟩⟩), (.slice (some ⟨123, 0,
  none⟩) 1 1), (.int .i64 (.ofNat 1)), (.int .i64 (.ofNat 0)), (.bool false), (.slice (some ⟨162, 0, none⟩) 1 1), (.slice none 0 0), (.string ⟨⟨[]⟩⟩),
  (.slice none 0 0)] 37 true true)) (Tr.full 4) (Tr.full 4)) (Tr.full 5)))) (Tr.full 8)) (.node none (Tr.full 8) (.node none (.node none (.node none (Tr.full 5) (.node none
  (.node none (.node (some (.cells [(.int .i64 (.ofNat 1)), (.int .i64 (.ofNat 0)),
  (.int .i64 (.ofNat 0))] 23 true false)) (Tr.full 2) (Tr.full 2)) (Tr.full 3)) (Tr.full 4))) (Tr.full 6)) (.node none (.node none (Tr.full 5) (.node none (.node none (Tr.full 3)
  (.node (some (.cells [(.int .i64 (.ofNat 0)), (.int .i64 (.negSucc 0)), (.int .i64 (.ofNat 0)), (.int .i64 (.ofNat 5)), (.int .i64 (.ofNat 0)), (.bool false), (.slice none 0 0),
  (.slice none 0 0), (.string ⟨⟨[]⟩⟩), (.slice (some ⟨800, 0, none⟩) 2 2), (.bool true), (.slice (some ⟨859, 0, none⟩) 1 1), (.slice none 0 0), (.int .i64 (.ofNat 0)),
  (.int .i64 (.ofNat 0)), (.string ⟨⟨[]⟩⟩), (.string ⟨⟨[]⟩⟩), (.bool false), (.slice none 0 0), (.slice none 0 0), (.int .i64 (.ofNat 0)), (.int .i64 (.ofNat 0)),
  (.int .i64 (.ofNat 0)), (.int .i64 (.ofNat 0)), (.int .i64 (.ofNat 0)), (.bool false), (.slice none 0 0), (.slice none 0 0), (.string ⟨⟨[]⟩⟩), (.slice none 0 0),
  (.slice none 0 0), (.string ⟨⟨[]⟩⟩), (.int .i64 (.ofNat 0)), (.slice none 0 0), (.slice none 0 0), (.slice none 0 0), (.slice none 0 0), (.bool false),
  (.slice none 0 0)] 73 true true)) (Tr.full 2) (Tr.full 2))) (Tr.full 4))) (Tr.full 6)))))) (.node none (.node none (.node none (.node none (.node none (Tr.full 6) (.node none
  (.node none (.node none (Tr.full 3) (.node (some (.cells [(.int .i64 (.ofNat 9)), (.int .i64 (.ofNat 2)), (.bool false), (.slice none 0 0), (.slice none 0 0), (.string ⟨⟨[]⟩⟩),
  (.slice (some ⟨772, 0, none⟩) 1 1), (.int .i64 (.ofNat 1)), (.int .i64 (.ofNat 0)), (.bool false), (.slice (some ⟨798, 0, none⟩) 1 1), (.slice none 0 0), (.string ⟨⟨[]⟩⟩),
  (.slice none 0 0)] 37 false true)) (Tr.full 2) (Tr.full 2))) (Tr.full 4)) (Tr.full 5))) (Tr.full 7)) (Tr.full 8)) (.node none (.node none (.node none (.node none (.node none
  (.node none (Tr.full 3) (.node (some (.cells [(.int .i64 (.ofNat 2)), (.int .i64 (.ofNat 0)), (.bool false), (.slice none 0 0), (.slice none 0 0), (.string ⟨⟨[120]⟩⟩),
  (.slice none 0 0)] 37 true true)) (Tr.full 2) (Tr.full 2))) (Tr.full 4)) (Tr.full 5)) (Tr.full 6)) (Tr.full 7)) (.node none (.node none (.node none (Tr.full 5) (.node none
  (.node none (.node (some (.cells [(.int .i64 (.ofNat 5)), (.int .i64 (.ofNat 0)), (.bool false), (.slice none 0 0), (.slice none 0 0), (.string ⟨⟨[]⟩⟩), (.slice (some ⟨177, 0,
  none⟩) 2 2), (.bool true), (.slice (some ⟨586, 0, none⟩) 1 1), (.slice none 0 0)] 51 true false)) (Tr.full 2) (Tr.full 2)) (Tr.full 3)) (Tr.full 4))) (Tr.full 6)) (Tr.full 7))))
  (.node none (.node none (.node none (.node none (Tr.full 6) (.node none
  (.node (some (.cells [(.int .u32 (.ofNat 1))] 227 true true)) (Tr.full 4) (Tr.full 4)) (Tr.full 5))) (Tr.full 7)) (.node none (.node none (.node none (Tr.full 5) (.node none
  (.node none (.node (some (.cells [(.string ⟨⟨[120]⟩⟩), (.bool false), (.slice none 0 0), (.slice none 0 0), (.bool false), (.slice (some ⟨582, 0, none⟩) 1 1), (.slice none 0 0),
  (.bool false), (.bool false)] 122 true true)) (Tr.full 2) (Tr.full 2)) (Tr.full 3)) (Tr.full 4))) (Tr.full 6)) (Tr.full 7))) (.node none (.node none (.node none
  (.node none (Tr.full 5) (.node none (.node none (.node (some (.cells [(.int .u32 (.ofNat 2))] 227 true true)) (Tr.full 2) (Tr.full 2)) (Tr.full 3)) (Tr.full 4))) (Tr.full 6))
  (.node none (.node none (Tr.full 5) (.node none (.node none (Tr.full 3)
  (.node (some (.cells [(.int .u32 (.ofNat 2))] 227 false true)) (Tr.full 2) (Tr.full 2))) (Tr.full 4))) (Tr.full 6))) (.node none (.node none (.node none (Tr.full 5) (.node none
  (.node none (.node (some (.cells [(.int .i64 (.ofNat 0)), (.int .i64 (.ofNat 0)), (.int .i64 (.ofNat 0)), (.string ⟨⟨[]⟩⟩), (.string ⟨⟨[]⟩⟩), (.bool false), (.slice none 0 0),
  (.slice none 0 0), (.int .i64 (.ofNat 0)), (.int .i64 (.ofNat 0)), (.int .i64 (.ofNat 0)), (.int .i64 (.ofNat 0)), (.int .i64 (.ofNat 0)), (.bool false), (.slice none 0 0),
  (.slice none 0 0), (.string ⟨⟨[]⟩⟩), (.slice none 0 0), (.slice none 0 0), (.string ⟨⟨[]⟩⟩), (.int .i64 (.ofNat 0)), (.slice none 0 0), (.slice none 0 0),
  (.slice none 0 0)] 44 true false)) (Tr.full 2) (Tr.full 2)) (Tr.full 3)) (Tr.full 4))) (Tr.full 6)) (.node none (.node none (.node none (.node none (Tr.full 3)
  (.node (some (.cells [(.int .u32 (.ofNat 1))] 227 false true)) (Tr.full 2) (Tr.full 2))) (Tr.full 4)) (.node none (.node none (Tr.full 3)
  (.node (some (.cells [(.int .i64 (.ofNat 1)), (.int .i64 (.ofNat 0)), (.int .i64 (.ofNat 0)), (.slice (some ⟨861, 0, none⟩) 1 1), (.int .i64 (.ofNat 1)),
  (.bool false)] 29 true false)) (Tr.full 2) (Tr.full 2))) (Tr.full 4))) (Tr.full 6))))))), 863⟩
noncomputable def entReady2 : Entry where
  f := 33
  args := [(.agg ⟨[(.int .i64 (.ofNat 5)), (.int .i64 (.ofNat 0)), (.bool false), (.slice none 0 0), (.slice none 0 0), (.string ⟨⟨[]⟩⟩), (.slice (some ⟨800, 0, none⟩) 2 2), (.bool true),
  (.slice (some ⟨859, 0, none⟩) 1 1), (.slice none 0 0)]⟩), (.agg ⟨[(.int .i64 (.ofNat 1)), (.int .i64 (.ofNat 0)), (.int .i64 (.ofNat 0))]⟩)]
  H := ⟨(.node (some (.cells [(.int .u8 (.ofNat 0)), (.int .u8 (.ofNat 1)), (.int .u8 (.ofNat 28)), (.int .u8 (.ofNat 2)), (.int .u8 (.ofNat 29)), (.int .u8 (.ofNat 14)),
  (.int .u8 (.ofNat 24)), (.int .u8 (.ofNat 3)), (.int .u8 (.ofNat 30)), (.int .u8 (.ofNat 22)), (.int .u8 (.ofNat 20)), (.int .u8 (.ofNat 15)), (.int .u8 (.ofNat 25)),
  (.int .u8 (.ofNat 17)), (.int .u8 (.ofNat 4)), (.int .u8 (.ofNat 8)), (.int .u8 (.ofNat 31)), (.int .u8 (.ofNat 27)), (.int .u8 (.ofNat 13)), (.int .u8 (.ofNat 23)),
  (.int .u8 (.ofNat 21)), (.int .u8 (.ofNat 19)), (.int .u8 (.ofNat 16)), (.int .u8 (.ofNat 7)), (.int .u8 (.ofNat 26)), (.int .u8 (.ofNat 12)), (.int .u8 (.ofNat 18)),
  (.int .u8 (.ofNat 6)), (.int .u8 (.ofNat 11)), (.int .u8 (.ofNat 5)), (.int .u8 (.ofNat 10)), (.int .u8 (.ofNat 9))] 363 false false)) (.node none (.node none (.node none
  (.node none (.node none (Tr.full 6) (.node none (Tr.full 5) (.node none (.node none (Tr.full 3) (.node (some (.cells [(.pointer (some ⟨862, 0,
  none⟩))] 26 true false)) (Tr.full 2) (Tr.full 2))) (Tr.full 4)))) (Tr.full 7)) (Tr.full 8)) (.node none (.node none (.node none (Tr.full 6) (.node none (Tr.full 5) (.node none
  (.node none (Tr.full 3) (.node (some (.cells [(.int .i64 (.ofNat 5)), (.int .i64 (.ofNat 0)), (.bool false), (.slice none 0 0), (.slice none 0 0), (.string ⟨⟨[]⟩⟩),
  (.slice (some ⟨800, 0, none⟩) 2 2), (.bool true), (.slice (some ⟨859, 0, none⟩) 1 1), (.slice none 0 0)] 51 true false)) (Tr.full 2) (Tr.full 2))) (Tr.full 4)))) (Tr.full 7))
  (.node none (Tr.full 7) (.node none (.node none (Tr.full 5) (.node none (.node none (Tr.full 3) (.node (some (.cells [(.string ⟨⟨[120]⟩⟩), (.bool false), (.slice none 0 0),
  (.slice none 0 0), (.bool false), (.slice (some ⟨854, 0, none⟩) 1 1), (.slice none 0 0), (.bool false), (.bool false)] 122 true true)) (Tr.full 2) (Tr.full 2))) (Tr.full 4)))
  (.node (some (.cells [(.int .i64 (.ofNat 2)), (.int .i64 (.ofNat 0)), (.bool false), (.slice none 0 0), (.slice none 0 0), (.string ⟨⟨[120]⟩⟩),
  (.slice none 0 0)] 37 true true)) (Tr.full 5) (Tr.full 5)))))) (.node none (.node none (.node none (.node none (Tr.full 6) (.node none (Tr.full 5) (.node none
  (.node none (Tr.full 3) (.node (some (.cells [(.int .i64 (.ofNat 0))] 3 true true)) (Tr.full 2) (Tr.full 2))) (Tr.full 4)))) (.node none (Tr.full 6) (.node none
  (.node (some (.cells [(.int .i64 (.ofNat 9)), (.int .i64 (.ofNat 2)), (.bool false), (.slice none 0 0), (.slice none 0 0), (.string ⟨⟨[]⟩⟩), (.slice (some ⟨123, 0, none⟩) 1 1),
  (.int .i64 (.ofNat 1)), (.int .i64 (.ofNat 0)), (.bool false), (.slice (some ⟨162, 0, none⟩) 1 1), (.slice none 0 0), (.string ⟨⟨[]⟩⟩),
  (.slice none 0 0)] 37 true true)) (Tr.full 4) (Tr.full 4)) (Tr.full 5)))) (Tr.full 8)) (.node none (.node none (.node none (Tr.full 6) (.node none (Tr.full 5) (.node none
  (.node none (Tr.full 3) (.node (some (.cells [(.int .i64 (.ofNat 0)), (.int .i64 (.ofNat 0)), (.string ⟨⟨[]⟩⟩), (.string ⟨⟨[]⟩⟩), (.bool false), (.slice none 0 0),
  (.slice none 0 0), (.int .i64 (.ofNat 0)), (.int .i64 (.ofNat 0)), (.int .i64 (.ofNat 0)), (.int .i64 (.ofNat 0)), (.int .i64 (.ofNat 0)), (.bool false), (.slice none 0 0),
  (.slice none 0 0), (.string ⟨⟨[]⟩⟩), (.slice none 0 0), (.slice none 0 0), (.string ⟨⟨[]⟩⟩), (.int .i64 (.ofNat 0)), (.slice none 0 0), (.slice none 0 0), (.slice none 0 0),
  (.slice none 0 0)] 55 true false)) (Tr.full 2) (Tr.full 2))) (Tr.full 4)))) (Tr.full 7)) (.node none (.node none (.node none (Tr.full 5) (.node none (.node none
  (.node (some (.cells [(.int .i64 (.ofNat 1)), (.int .i64 (.ofNat 0)), (.int .i64 (.ofNat 0))] 23 true false)) (Tr.full 2) (Tr.full 2)) (Tr.full 3)) (Tr.full 4))) (Tr.full 6))
  (.node none (.node none (Tr.full 5) (.node none (.node none (Tr.full 3) (.node (some (.cells [(.int .i64 (.ofNat 0)), (.int .i64 (.negSucc 0)), (.int .i64 (.ofNat 0)),
  (.int .i64 (.ofNat 5)), (.int .i64 (.ofNat 0)), (.bool false), (.slice none 0 0), (.slice none 0 0), (.string ⟨⟨[]⟩⟩), (.slice (some ⟨800, 0, none⟩) 2 2), (.bool true),
  (.slice (some ⟨859, 0, none⟩) 1 1), (.slice none 0 0), (.int .i64 (.ofNat 0)), (.int .i64 (.ofNat 0)), (.string ⟨⟨[]⟩⟩), (.string ⟨⟨[]⟩⟩), (.bool false), (.slice none 0 0),
  (.slice none 0 0), (.int .i64 (.ofNat 0)), (.int .i64 (.ofNat 0)), (.int .i64 (.ofNat 0)), (.int .i64 (.ofNat 0)), (.int .i64 (.ofNat 0)), (.bool false), (.slice none 0 0),
  (.slice none 0 0), (.string ⟨⟨[]⟩⟩), (.slice none 0 0), (.slice none 0 0), (.string ⟨⟨[]⟩⟩), (.int .i64 (.ofNat 0)), (.slice none 0 0), (.slice none 0 0), (.slice none 0 0),
  (.slice none 0 0), (.bool false), (.slice none 0 0)] 73 true true)) (Tr.full 2) (Tr.full 2))) (Tr.full 4))) (Tr.full 6)))))) (.node none (.node none (.node none (.node none
  (.node none (Tr.full 6) (.node none (.node none (.node none (Tr.full 3) (.node (some (.cells [(.int .i64 (.ofNat 9)), (.int .i64 (.ofNat 2)), (.bool false), (.slice none 0 0),
  (.slice none 0 0), (.string ⟨⟨[]⟩⟩), (.slice (some ⟨772, 0, none⟩) 1 1), (.int .i64 (.ofNat 1)), (.int .i64 (.ofNat 0)), (.bool false), (.slice (some ⟨798, 0, none⟩) 1 1),
  (.slice none 0 0), (.string ⟨⟨[]⟩⟩), (.slice none 0 0)] 37 false true)) (Tr.full 2) (Tr.full 2))) (Tr.full 4)) (.node none (.node none (Tr.full 3)
  (.node (some (.cells [(.int .i64 (.ofNat 0))] 3 true true)) (Tr.full 2) (Tr.full 2))) (Tr.full 4)))) (Tr.full 7)) (Tr.full 8)) (.node none (.node none (.node none (.node none
  (.node none (.node none (Tr.full 3) (.node (some (.cells [(.int .i64 (.ofNat 2)), (.int .i64 (.ofNat 0)), (.bool false), (.slice none 0 0), (.slice none 0 0),
  (.string ⟨⟨[120]⟩⟩), (.slice none 0 0)] 37 true true)) (Tr.full 2) (Tr.full 2))) (Tr.full 4)) (Tr.full 5)) (.node none (Tr.full 5) (.node none (.node none (Tr.full 3)
  (.node (some (.cells [(.int .i64 (.ofNat 1)), (.int .i64 (.ofNat 0)), (.int .i64 (.ofNat 0))] 23 true false)) (Tr.full 2) (Tr.full 2))) (Tr.full 4)))) (Tr.full 7)) (.node none
  (.node none (.node none (Tr.full 5) (.node none (.node none (.node (some (.cells [(.int .i64 (.ofNat 5)), (.int .i64 (.ofNat 0)), (.bool false), (.slice none 0 0),
  (.slice none 0 0), (.string ⟨⟨[]⟩⟩), (.slice (some ⟨177, 0, none⟩) 2 2), (.bool true), (.slice (some ⟨586, 0, none⟩) 1 1),
  (.slice none 0 0)] 51 true false)) (Tr.full 2) (Tr.full 2)) (Tr.full 3)) (Tr.full 4))) (Tr.full 6)) (Tr.full 7)))) (.node none (.node none (.node none (.node none (Tr.full 6)
  (.node none (.node (some (.cells [(.int .u32 (.ofNat 1))] 227 true true)) (Tr.full 4) (Tr.full 4)) (.node none (.node none (Tr.full 3)
  (.node (some (.cells [(.int .i64 (.ofNat 0)), (.int .i64 (.ofNat 0)), (.string ⟨⟨[]⟩⟩), (.string ⟨⟨[]⟩⟩), (.bool false), (.slice none 0 0), (.slice none 0 0),
  (.int .i64 (.ofNat 0)), (.int .i64 (.ofNat 0)), (.int .i64 (.ofNat 0)), (.int .i64 (.ofNat 0)), (.int .i64 (.ofNat 0)), (.bool false), (.slice none 0 0), (.slice none 0 0),
  (.string ⟨⟨[]⟩⟩), (.slice none 0 0), (.slice none 0 0), (.string ⟨⟨[]⟩⟩), (.int .i64 (.ofNat 0)), (.slice none 0 0), (.slice none 0 0), (.slice none 0 0),
  (.slice none 0 0)] 55 true false)) (Tr.full 2) (Tr.full 2))) (Tr.full 4)))) (Tr.full 7)) (.node none (.node none (.node none (Tr.full 5) (.node none (.node none
  (.node (some (.cells [(.string ⟨⟨[120]⟩⟩), (.bool false), (.slice none 0 0), (.slice none 0 0), (.bool false), (.slice (some ⟨582, 0, none⟩) 1 1), (.slice none 0 0),
  (.bool false), (.bool false)] 122 true true)) (Tr.full 2) (Tr.full 2)) (Tr.full 3)) (Tr.full 4))) (Tr.full 6)) (Tr.full 7))) (.node none (.node none (.node none
  (.node none (Tr.full 5) (.node none (.node none (.node (some (.cells [(.int .u32 (.ofNat 2))] 227 true true)) (Tr.full 2) (Tr.full 2)) (Tr.full 3)) (Tr.full 4))) (Tr.full 6))
  (.node none (.node none (Tr.full 5) (.node none (.node none (Tr.full 3)
  (.node (some (.cells [(.int .u32 (.ofNat 2))] 227 false true)) (Tr.full 2) (Tr.full 2))) (Tr.full 4))) (Tr.full 6))) (.node none (.node none (.node none (Tr.full 5) (.node none
  (.node none (.node (some (.cells [(.int .i64 (.ofNat 0)), (.int .i64 (.ofNat 0)), (.int .i64 (.ofNat 0)), (.string ⟨⟨[]⟩⟩), (.string ⟨⟨[]⟩⟩), (.bool false), (.slice none 0 0),
  (.slice none 0 0), (.int .i64 (.ofNat 0)), (.int .i64 (.ofNat 0)), (.int .i64 (.ofNat 0)), (.int .i64 (.ofNat 0)), (.int .i64 (.ofNat 0)), (.bool false), (.slice none 0 0),
  (.slice none 0 0), (.string ⟨⟨[]⟩⟩), (.slice none 0 0), (.slice none 0 0), (.string ⟨⟨[]⟩⟩), (.int .i64 (.ofNat 0)), (.slice none 0 0), (.slice none 0 0),
  (.slice none 0 0)] 44 true false)) (Tr.full 2) (Tr.full 2)) (Tr.full 3)) (Tr.full 4))) (Tr.full 6)) (.node none (.node none (.node none (.node none (Tr.full 3)
  (.node (some (.cells [(.int .u32 (.ofNat 1))] 227 false true)) (Tr.full 2) (Tr.full 2))) (Tr.full 4)) (.node none (.node none (Tr.full 3)
  (.node (some (.cells [(.int .i64 (.ofNat 1)), (.int .i64 (.ofNat 0)), (.int .i64 (.ofNat 0)), (.slice (some ⟨861, 0, none⟩) 1 1), (.int .i64 (.ofNat 1)),
  (.bool false)] 29 true false)) (Tr.full 2) (Tr.full 2))) (Tr.full 4))) (Tr.full 6))))))), 870⟩
  v := (.int .i64 (.ofNat 0))
  H' := ⟨(.node (some (.cells [(.int .u8 (.ofNat 0)), (.int .u8 (.ofNat 1)), (.int .u8 (.ofNat 28)), (.int .u8 (.ofNat 2)), (.int .u8 (.ofNat 29)), (.int .u8 (.ofNat 14)),
  (.int .u8 (.ofNat 24)), (.int .u8 (.ofNat 3)), (.int .u8 (.ofNat 30)), (.int .u8 (.ofNat 22)), (.int .u8 (.ofNat 20)), (.int .u8 (.ofNat 15)), (.int .u8 (.ofNat 25)),
  (.int .u8 (.ofNat 17)), (.int .u8 (.ofNat 4)), (.int .u8 (.ofNat 8)), (.int .u8 (.ofNat 31)), (.int .u8 (.ofNat 27)), (.int .u8 (.ofNat 13)), (.int .u8 (.ofNat 23)),
  (.int .u8 (.ofNat 21)), (.int .u8 (.ofNat 19)), (.int .u8 (.ofNat 16)), (.int .u8 (.ofNat 7)), (.int .u8 (.ofNat 26)), (.int .u8 (.ofNat 12)), (.int .u8 (.ofNat 18)),
  (.int .u8 (.ofNat 6)), (.int .u8 (.ofNat 11)), (.int .u8 (.ofNat 5)), (.int .u8 (.ofNat 10)), (.int .u8 (.ofNat 9))] 363 false false)) (.node none (.node none (.node none
  (.node none (.node none (Tr.full 6) (.node none (Tr.full 5) (.node none (.node none (Tr.full 3) (.node (some (.cells [(.pointer (some ⟨862, 0,
  none⟩))] 26 true false)) (Tr.full 2) (Tr.full 2))) (Tr.full 4)))) (Tr.full 7)) (Tr.full 8)) (.node none (.node none (.node none (Tr.full 6) (.node none (Tr.full 5) (.node none
  (.node none (Tr.full 3) (.node (some (.cells [(.int .i64 (.ofNat 5)), (.int .i64 (.ofNat 0)), (.bool false), (.slice none 0 0), (.slice none 0 0), (.string ⟨⟨[]⟩⟩),
  (.slice (some ⟨800, 0, none⟩) 2 2), (.bool true), (.slice (some ⟨859, 0, none⟩) 1 1), (.slice none 0 0)] 51 true false)) (Tr.full 2) (Tr.full 2))) (Tr.full 4)))) (Tr.full 7))
  (.node none (Tr.full 7) (.node none (.node none (Tr.full 5) (.node none (.node none (Tr.full 3) (.node (some (.cells [(.string ⟨⟨[120]⟩⟩), (.bool false), (.slice none 0 0),
  (.slice none 0 0), (.bool false), (.slice (some ⟨854, 0, none⟩) 1 1), (.slice none 0 0), (.bool false), (.bool false)] 122 true true)) (Tr.full 2) (Tr.full 2))) (Tr.full 4)))
  (.node (some (.cells [(.int .i64 (.ofNat 2)), (.int .i64 (.ofNat 0)), (.bool false), (.slice none 0 0), (.slice none 0 0), (.string ⟨⟨[120]⟩⟩),
  (.slice none 0 0)] 37 true true)) (Tr.full 5) (Tr.full 5)))))) (.node none (.node none (.node none (.node none (Tr.full 6) (.node none (Tr.full 5) (.node none
  (.node none (Tr.full 3) (.node (some (.cells [(.int .i64 (.ofNat 0))] 3 true true)) (Tr.full 2) (Tr.full 2))) (Tr.full 4)))) (.node none (Tr.full 6) (.node none
  (.node (some (.cells [(.int .i64 (.ofNat 9)), (.int .i64 (.ofNat 2)), (.bool false), (.slice none 0 0), (.slice none 0 0), (.string ⟨⟨[]⟩⟩), (.slice (some ⟨123, 0, none⟩) 1 1),
  (.int .i64 (.ofNat 1)), (.int .i64 (.ofNat 0)), (.bool false), (.slice (some ⟨162, 0, none⟩) 1 1), (.slice none 0 0), (.string ⟨⟨[]⟩⟩),
  (.slice none 0 0)] 37 true true)) (Tr.full 4) (Tr.full 4)) (Tr.full 5)))) (Tr.full 8)) (.node none (.node none (.node none (Tr.full 6) (.node none (Tr.full 5) (.node none
  (.node none (Tr.full 3) (.node (some (.cells [(.int .i64 (.ofNat 0)), (.int .i64 (.ofNat 0)), (.string ⟨⟨[]⟩⟩), (.string ⟨⟨[]⟩⟩), (.bool false), (.slice none 0 0),
  (.slice none 0 0), (.int .i64 (.ofNat 0)), (.int .i64 (.ofNat 0)), (.int .i64 (.ofNat 0)), (.int .i64 (.ofNat 0)), (.int .i64 (.ofNat 0)), (.bool false), (.slice none 0 0),
  (.slice none 0 0), (.string ⟨⟨[]⟩⟩), (.slice none 0 0), (.slice none 0 0), (.string ⟨⟨[]⟩⟩), (.int .i64 (.ofNat 0)), (.slice none 0 0), (.slice none 0 0), (.slice none 0 0),
  (.slice none 0 0)] 55 true false)) (Tr.full 2) (Tr.full 2))) (Tr.full 4)))) (Tr.full 7)) (.node none (.node none (.node none (Tr.full 5) (.node none (.node none
  (.node (some (.cells [(.int .i64 (.ofNat 1)), (.int .i64 (.ofNat 0)), (.int .i64 (.ofNat 0))] 23 true false)) (Tr.full 2) (Tr.full 2)) (Tr.full 3)) (Tr.full 4))) (Tr.full 6))
  (.node none (.node none (Tr.full 5) (.node none (.node none (Tr.full 3) (.node (some (.cells [(.int .i64 (.ofNat 0)), (.int .i64 (.negSucc 0)), (.int .i64 (.ofNat 0)),
  (.int .i64 (.ofNat 5)), (.int .i64 (.ofNat 0)), (.bool false), (.slice none 0 0), (.slice none 0 0), (.string ⟨⟨[]⟩⟩), (.slice (some ⟨800, 0, none⟩) 2 2), (.bool true),
  (.slice (some ⟨859, 0, none⟩) 1 1), (.slice none 0 0), (.int .i64 (.ofNat 0)), (.int .i64 (.ofNat 0)), (.string ⟨⟨[]⟩⟩), (.string ⟨⟨[]⟩⟩), (.bool false), (.slice none 0 0),
  (.slice none 0 0), (.int .i64 (.ofNat 0)), (.int .i64 (.ofNat 0)), (.int .i64 (.ofNat 0)), (.int .i64 (.ofNat 0)), (.int .i64 (.ofNat 0)), (.bool false), (.slice none 0 0),
  (.slice none 0 0), (.string ⟨⟨[]⟩⟩), (.slice none 0 0), (.slice none 0 0), (.string ⟨⟨[]⟩⟩), (.int .i64 (.ofNat 0)), (.slice none 0 0), (.slice none 0 0), (.slice none 0 0),
  (.slice none 0 0), (.bool false), (.slice none 0 0)] 73 true true)) (Tr.full 2) (Tr.full 2))) (Tr.full 4))) (Tr.full 6)))))) (.node none (.node none (.node none (.node none
  (.node none (Tr.full 6) (.node none (.node none (.node none (Tr.full 3) (.node (some (.cells [(.int .i64 (.ofNat 9)), (.int .i64 (.ofNat 2)), (.bool false), (.slice none 0 0),
  (.slice none 0 0), (.string ⟨⟨[]⟩⟩), (.slice (some ⟨772, 0, none⟩) 1 1), (.int .i64 (.ofNat 1)), (.int .i64 (.ofNat 0)), (.bool false), (.slice (some ⟨798, 0, none⟩) 1 1),
  (.slice none 0 0), (.string ⟨⟨[]⟩⟩), (.slice none 0 0)] 37 false true)) (Tr.full 2) (Tr.full 2))) (Tr.full 4)) (.node none (.node none (Tr.full 3)
  (.node (some (.cells [(.int .i64 (.ofNat 0))] 3 true true)) (Tr.full 2) (Tr.full 2))) (Tr.full 4)))) (Tr.full 7)) (Tr.full 8)) (.node none (.node none (.node none (.node none
  (.node none (.node none (Tr.full 3) (.node (some (.cells [(.int .i64 (.ofNat 2)), (.int .i64 (.ofNat 0)), (.bool false), (.slice none 0 0), (.slice none 0 0),
  (.string ⟨⟨[120]⟩⟩), (.slice none 0 0)] 37 true true)) (Tr.full 2) (Tr.full 2))) (Tr.full 4)) (Tr.full 5)) (.node none (Tr.full 5) (.node none (.node none (Tr.full 3)
  (.node (some (.cells [(.int .i64 (.ofNat 1)), (.int .i64 (.ofNat 0)), (.int .i64 (.ofNat 0))] 23 true false)) (Tr.full 2) (Tr.full 2))) (Tr.full 4)))) (Tr.full 7)) (.node none
  (.node none (.node none (Tr.full 5) (.node none (.node none (.node (some (.cells [(.int .i64 (.ofNat 5)), (.int .i64 (.ofNat 0)), (.bool false), (.slice none 0 0),
  (.slice none 0 0), (.string ⟨⟨[]⟩⟩), (.slice (some ⟨177, 0, none⟩) 2 2), (.bool true), (.slice (some ⟨586, 0, none⟩) 1 1),
  (.slice none 0 0)] 51 true false)) (Tr.full 2) (Tr.full 2)) (Tr.full 3)) (Tr.full 4))) (Tr.full 6)) (Tr.full 7)))) (.node none (.node none (.node none (.node none (Tr.full 6)
  (.node none (.node (some (.cells [(.int .u32 (.ofNat 1))] 227 true true)) (Tr.full 4) (Tr.full 4)) (.node none (.node none (Tr.full 3)
  (.node (some (.cells [(.int .i64 (.ofNat 0)), (.int .i64 (.ofNat 0)), (.string ⟨⟨[]⟩⟩), (.string ⟨⟨[]⟩⟩), (.bool false), (.slice none 0 0), (.slice none 0 0),
  (.int .i64 (.ofNat 0)), (.int .i64 (.ofNat 0)), (.int .i64 (.ofNat 0)), (.int .i64 (.ofNat 0)), (.int .i64 (.ofNat 0)), (.bool false), (.slice none 0 0), (.slice none 0 0),
  (.string ⟨⟨[]⟩⟩), (.slice none 0 0), (.slice none 0 0), (.string ⟨⟨[]⟩⟩), (.int .i64 (.ofNat 0)), (.slice none 0 0), (.slice none 0 0), (.slice none 0 0),
  (.slice none 0 0)] 55 true false)) (Tr.full 2) (Tr.full 2))) (Tr.full 4)))) (Tr.full 7)) (.node none (.node none (.node none (Tr.full 5) (.node none (.node none
  (.node (some (.cells [(.string ⟨⟨[120]⟩⟩), (.bool false), (.slice none 0 0), (.slice none 0 0), (.bool false), (.slice (some ⟨582, 0, none⟩) 1 1), (.slice none 0 0),
  (.bool false), (.bool false)] 122 true true)) (Tr.full 2) (Tr.full 2)) (Tr.full 3)) (Tr.full 4))) (Tr.full 6)) (Tr.full 7))) (.node none (.node none (.node none
  (.node none (Tr.full 5) (.node none (.node none (.node (some (.cells [(.int .u32 (.ofNat 2))] 227 true true)) (Tr.full 2) (Tr.full 2)) (Tr.full 3)) (Tr.full 4))) (Tr.full 6))
  (.node none (.node none (Tr.full 5) (.node none (.node none (Tr.full 3)
  (.node (some (.cells [(.int .u32 (.ofNat 2))] 227 false true)) (Tr.full 2) (Tr.full 2))) (Tr.full 4))) (Tr.full 6))) (.node none (.node none (.node none (Tr.full 5) (.node none
  (.node none (.node (some (.cells [(.int .i64 (.ofNat 0)), (.int .i64 (.ofNat 0)), (.int .i64 (.ofNat 0)), (.string ⟨⟨[]⟩⟩), (.string ⟨⟨[]⟩⟩), (.bool false), (.slice none 0 0),
  (.slice none 0 0), (.int .i64 (.ofNat 0)), (.int .i64 (.ofNat 0)), (.int .i64 (.ofNat 0)), (.int .i64 (.ofNat 0)), (.int .i64 (.ofNat 0)), (.bool false), (.slice none 0 0),
  (.slice none 0 0), (.string ⟨⟨[]⟩⟩), (.slice none 0 0), (.slice none 0 0), (.string ⟨⟨[]⟩⟩), (.int .i64 (.ofNat 0)), (.slice none 0 0), (.slice none 0 0),
  (.slice none 0 0)] 44 true false)) (Tr.full 2) (Tr.full 2)) (Tr.full 3)) (Tr.full 4))) (Tr.full 6)) (.node none (.node none (.node none (.node none (Tr.full 3)
  (.node (some (.cells [(.int .u32 (.ofNat 1))] 227 false true)) (Tr.full 2) (Tr.full 2))) (Tr.full 4)) (.node none (.node none (Tr.full 3)
  (.node (some (.cells [(.int .i64 (.ofNat 1)), (.int .i64 (.ofNat 0)), (.int .i64 (.ofNat 0)), (.slice (some ⟨861, 0, none⟩) 1 1), (.int .i64 (.ofNat 1)),
  (.bool false)] 29 true false)) (Tr.full 2) (Tr.full 2))) (Tr.full 4))) (Tr.full 6))))))), 977⟩
noncomputable def entApply : Entry where
  f := 106
  args := [(.slice none 0 0), (.agg ⟨[(.int .i64 (.ofNat 5)), (.int .i64 (.ofNat 0)), (.bool false), (.slice none 0 0), (.slice none 0 0), (.string ⟨⟨[]⟩⟩), (.slice (some ⟨1077, 0,
  none⟩) 2 2), (.bool true), (.slice (some ⟨1136, 0, none⟩) 1 1), (.slice none 0 0)]⟩), (.agg ⟨[(.int .i64 (.ofNat 1)), (.string ⟨⟨[]⟩⟩), (.string ⟨⟨[]⟩⟩), (.bool false),
  (.slice none 0 0), (.slice none 0 0), (.int .i64 (.ofNat 0)), (.int .i64 (.ofNat 0)), (.int .i64 (.ofNat 0)), (.int .i64 (.ofNat 0)), (.int .i64 (.ofNat 0)), (.bool false),
  (.slice none 0 0), (.slice none 0 0), (.string ⟨⟨[]⟩⟩), (.slice none 0 0), (.slice none 0 0), (.string ⟨⟨[]⟩⟩), (.int .i64 (.ofNat 0)), (.slice none 0 0), (.slice (some ⟨1141,
  0, none⟩) 0 0)]⟩)]
  H := ⟨(.node (some (.cells [(.int .u8 (.ofNat 0)), (.int .u8 (.ofNat 1)), (.int .u8 (.ofNat 28)), (.int .u8 (.ofNat 2)), (.int .u8 (.ofNat 29)), (.int .u8 (.ofNat 14)),
  (.int .u8 (.ofNat 24)), (.int .u8 (.ofNat 3)), (.int .u8 (.ofNat 30)), (.int .u8 (.ofNat 22)), (.int .u8 (.ofNat 20)), (.int .u8 (.ofNat 15)), (.int .u8 (.ofNat 25)),
  (.int .u8 (.ofNat 17)), (.int .u8 (.ofNat 4)), (.int .u8 (.ofNat 8)), (.int .u8 (.ofNat 31)), (.int .u8 (.ofNat 27)), (.int .u8 (.ofNat 13)), (.int .u8 (.ofNat 23)),
  (.int .u8 (.ofNat 21)), (.int .u8 (.ofNat 19)), (.int .u8 (.ofNat 16)), (.int .u8 (.ofNat 7)), (.int .u8 (.ofNat 26)), (.int .u8 (.ofNat 12)), (.int .u8 (.ofNat 18)),
  (.int .u8 (.ofNat 6)), (.int .u8 (.ofNat 11)), (.int .u8 (.ofNat 5)), (.int .u8 (.ofNat 10)), (.int .u8 (.ofNat 9))] 363 false false)) (.node none (.node none (.node none
  (.node none (.node none (.node none (.node none (.node none (.node none (.node (some (.cells [(.bool false), (.slice none 0 0), (.slice (some ⟨1015, 0,
  none⟩) 1 2)] 173 true false)) (Tr.full 1) (Tr.full 1)) (Tr.full 2)) (Tr.full 3)) (Tr.full 4)) (.node none (.node none (.node none (.node (some (.cells [(.bool false),
  (.slice none 0 0), (.slice none 0 0), (.bool false), (.slice (some ⟨854, 0, none⟩) 1 1), (.slice none 0 0), (.bool false),
  (.bool false)] 119 true false)) (Tr.full 1) (Tr.full 1)) (Tr.full 2)) (Tr.full 3)) (Tr.full 4))) (.node none (.node none (.node none (.node none
  (.node (some (.cells [(.bool false), (.slice (some ⟨1075, 0, none⟩) 1 1), (.slice none 0 0)] 34 true false)) (Tr.full 1) (Tr.full 1)) (Tr.full 2)) (Tr.full 3)) (Tr.full 4))
  (.node none (.node none (.node none (.node (some (.cells [(.bool false), (.slice none 0 0), (.slice none 0 0), (.bool false), (.slice (some ⟨1131, 0, none⟩) 1 1),
  (.slice none 0 0), (.bool false), (.bool false)] 119 true false)) (Tr.full 1) (Tr.full 1)) (Tr.full 2)) (.node (some (.cells [(.pointer (some ⟨862, 0,
  none⟩))] 26 true false)) (Tr.full 2) (Tr.full 2))) (.node none (Tr.full 3) (.node (some (.cells [(.bool false), (.slice none 0 0), (.slice (some ⟨992, 0,
  none⟩) 1 2)] 173 true false)) (Tr.full 2) (Tr.full 2)))))) (.node none (.node none (.node none (.node none (.node none (.node (some (.cells [(.bool false), (.slice none 0 0),
  (.slice (some ⟨1038, 0, none⟩) 1 2)] 173 true false)) (Tr.full 1) (Tr.full 1)) (Tr.full 2)) (Tr.full 3)) (Tr.full 4)) (.node none (.node none (.node none
  (.node (some (.cells [(.bool false), (.slice (some ⟨854, 0, none⟩) 1 1), (.slice (some ⟨1104, 0,
  none⟩) 1 2)] 173 true false)) (Tr.full 1) (Tr.full 1)) (Tr.full 2)) (Tr.full 3)) (Tr.full 4))) (.node none (.node none (.node none (.node none
  (.node (some (.cells [(.bool false), (.slice (some ⟨1075, 0, none⟩) 1 1), (.slice none 0 0)] 34 true false)) (Tr.full 1) (Tr.full 1)) (Tr.full 2)) (Tr.full 3)) (Tr.full 4))
  (.node none (.node none (.node none (.node (some (.cells [(.string ⟨⟨[120]⟩⟩), (.bool false), (.slice none 0 0), (.slice none 0 0), (.bool false), (.slice (some ⟨1131, 0,
  none⟩) 1 1), (.slice none 0 0), (.bool false), (.bool false)] 122 true true)) (Tr.full 1) (Tr.full 1)) (Tr.full 2)) (Tr.full 3)) (.node none (Tr.full 3)
  (.node (some (.cells [(.bool false), (.slice none 0 0), (.slice none 0 0)] 34 true false)) (Tr.full 2) (Tr.full 2))))))) (.node none (.node none (.node none (.node none
  (.node none (.node none (.node (some (.cells [(.bool false), (.slice none 0 0),
  (.slice none 0 0)] 34 true false)) (Tr.full 1) (Tr.full 1)) (Tr.full 2)) (Tr.full 3)) (Tr.full 4)) (.node none (.node none (.node none (.node (some (.cells [(.bool false),
  (.slice none 0 0), (.slice (some ⟨1096, 0, none⟩) 1 2)] 173 true false)) (Tr.full 1) (Tr.full 1)) (Tr.full 2)) (Tr.full 3)) (Tr.full 4))) (.node none (.node none (.node none
  (.node none (.node (some (.cells [(.int .u32 (.ofNat 1)), (.int .u32 (.ofNat 0))] 227 true true)) (Tr.full 1) (Tr.full 1)) (Tr.full 2)) (Tr.full 3)) (Tr.full 4)) (.node none
  (.node none (.node none (.node (some (.cells [(.bool false), (.slice (some ⟨1131, 0, none⟩) 1 1),
  (.slice none 0 0)] 34 true false)) (Tr.full 1) (Tr.full 1)) (Tr.full 2)) (Tr.full 3)) (.node none (Tr.full 3) (.node (some (.cells [(.bool false), (.slice none 0 0),
  (.slice none 0 0)] 34 true false)) (Tr.full 2) (Tr.full 2)))))) (.node none (.node none (.node none (.node none (.node none (.node (some (.cells [(.bool false),
  (.slice none 0 0), (.slice none 0 0)] 34 true false)) (Tr.full 1) (Tr.full 1)) (Tr.full 2)) (Tr.full 3)) (Tr.full 4)) (.node none (.node none (.node none
  (.node (some (.cells [(.bool false), (.slice none 0 0), (.slice (some ⟨1096, 0, none⟩) 1 2)] 173 true false)) (Tr.full 1) (Tr.full 1)) (Tr.full 2)) (Tr.full 3))
  (.node none (Tr.full 3) (.node (some (.cells [(.bool false), (.slice none 0 0), (.slice none 0 0)] 34 true false)) (Tr.full 2) (Tr.full 2))))) (.node none (.node none
  (.node none (.node none (.node (some (.cells [(.bool false), (.slice none 0 0), (.slice none 0 0), (.bool false), (.slice (some ⟨854, 0, none⟩) 1 1), (.slice none 0 0),
  (.bool false), (.bool false)] 119 true false)) (Tr.full 1) (Tr.full 1)) (Tr.full 2)) (Tr.full 3)) (Tr.full 4)) (.node none (Tr.full 4) (.node none (Tr.full 3)
  (.node (some (.cells [(.int .u32 (.ofNat 1)), (.int .u32 (.ofNat 0))] 227 true true)) (Tr.full 2) (Tr.full 2)))))))) (.node none (.node none (.node none (.node none (.node none
  (.node none (.node none (.node (some (.cells [(.int .i64 (.ofNat 2)), (.int .i64 (.ofNat 0)), (.bool false), (.slice none 0 0), (.slice none 0 0), (.string ⟨⟨[120]⟩⟩),
  (.slice none 0 0)] 37 true false)) (Tr.full 1) (Tr.full 1)) (Tr.full 2)) (Tr.full 3)) (Tr.full 4)) (.node none (.node none (.node none (.node (some (.cells [(.bool false),
  (.slice none 0 0), (.slice (some ⟨1096, 0, none⟩) 1 2)] 173 true false)) (Tr.full 1) (Tr.full 1)) (Tr.full 2)) (Tr.full 3)) (Tr.full 4))) (.node none (.node none (.node none
  (.node none (.node (some (.cells [(.bool false), (.slice (some ⟨798, 0, none⟩) 1 1),
  (.slice none 0 0)] 34 true false)) (Tr.full 1) (Tr.full 1)) (Tr.full 2)) (Tr.full 3)) (Tr.full 4)) (.node none (.node none (.node none (.node (some (.cells [(.bool false),
  (.slice none 0 0), (.slice none 0 0)] 34 true false)) (Tr.full 1) (Tr.full 1)) (Tr.full 2)) (.node (some (.cells [(.int .i64 (.ofNat 5)), (.int .i64 (.ofNat 0)), (.bool false),
  (.slice none 0 0), (.slice none 0 0), (.string ⟨⟨[]⟩⟩), (.slice (some ⟨800, 0, none⟩) 2 2), (.bool true), (.slice (some ⟨859, 0, none⟩) 1 1),
  (.slice none 0 0)] 51 true false)) (Tr.full 2) (Tr.full 2))) (.node none (Tr.full 3) (.node (some (.cells [(.bool false), (.slice none 0 0), (.slice (some ⟨992, 0,
  none⟩) 1 2)] 173 true false)) (Tr.full 2) (Tr.full 2)))))) (.node none (.node none (.node none (.node none (.node none (.node (some (.cells [(.bool false), (.slice none 0 0),
  (.slice (some ⟨1038, 0, none⟩) 1 2)] 173 true false)) (Tr.full 1) (Tr.full 1)) (Tr.full 2)) (Tr.full 3)) (Tr.full 4)) (.node none (.node none (.node none
  (.node (some (.cells [(.bool false), (.slice (some ⟨854, 0, none⟩) 1 1), (.slice (some ⟨1104, 0, none⟩) 1 2)] 173 true false)) (Tr.full 1) (Tr.full 1)) (Tr.full 2)) (Tr.full 3))
  (.node none (Tr.full 3) (.node (some (.cells [(.int .i64 (.ofNat 5)), (.int .i64 (.ofNat 0)), (.bool false), (.slice none 0 0), (.slice none 0 0), (.string ⟨⟨[]⟩⟩),
  (.slice (some ⟨1077, 0, none⟩) 2 2), (.bool true), (.slice (some ⟨1136, 0, none⟩) 1 1), (.slice none 0 0)] 51 true false)) (Tr.full 2) (Tr.full 2))))) (.node none (.node none
  (.node none (.node none (.node (some (.cells [(.int .u32 (.ofNat 1))] 227 false true)) (Tr.full 1) (Tr.full 1)) (Tr.full 2)) (Tr.full 3)) (Tr.full 4)) (.node none (.node none
  (.node none (.node (some (.cells [(.int .i64 (.ofNat 1)), (.string ⟨⟨[]⟩⟩), (.string ⟨⟨[]⟩⟩), (.bool false), (.slice none 0 0), (.slice none 0 0), (.int .i64 (.ofNat 0)),
  (.int .i64 (.ofNat 0)), (.int .i64 (.ofNat 0)), (.int .i64 (.ofNat 0)), (.int .i64 (.ofNat 0)), (.bool false), (.slice none 0 0), (.slice none 0 0), (.string ⟨⟨[]⟩⟩),
  (.slice none 0 0), (.slice none 0 0), (.string ⟨⟨[]⟩⟩), (.int .i64 (.ofNat 0)), (.slice none 0 0),
  (.slice none 0 0)] 42 true false)) (Tr.full 1) (Tr.full 1)) (Tr.full 2)) (Tr.full 3)) (.node none (Tr.full 3) (.node (some (.cells [(.bool false), (.slice none 0 0),
  (.slice none 0 0)] 34 true false)) (Tr.full 2) (Tr.full 2))))))) (.node none (.node none (.node none (.node none (.node none (.node none (.node (some (.cells [(.bool false),
  (.slice none 0 0), (.slice (some ⟨1038, 0, none⟩) 1 2)] 173 true false)) (Tr.full 1) (Tr.full 1)) (Tr.full 2)) (Tr.full 3)) (Tr.full 4)) (.node none (.node none (.node none
  (.node (some (.cells [(.bool false), (.slice none 0 0), (.slice (some ⟨1096, 0, none⟩) 1 2)] 173 true false)) (Tr.full 1) (Tr.full 1)) (Tr.full 2)) (Tr.full 3)) (Tr.full 4)))
  (.node none (.node none (.node none (.node none (.node (some (.cells [(.bool false), (.slice (some ⟨798, 0, none⟩) 1 1), (.slice (some ⟨1063, 0,
  none⟩) 1 2)] 173 true false)) (Tr.full 1) (Tr.full 1)) (Tr.full 2)) (Tr.full 3)) (Tr.full 4)) (.node none (.node none (.node none
  (.node (some (.cells [(.int .u32 (.ofNat 2))] 227 false true)) (Tr.full 1) (Tr.full 1)) (Tr.full 2)) (Tr.full 3)) (.node none (Tr.full 3)
  (.node (some (.cells [(.int .i64 (.ofNat 9)), (.int .i64 (.ofNat 2)), (.bool false), (.slice none 0 0), (.slice none 0 0), (.string ⟨⟨[]⟩⟩), (.slice (some ⟨1049, 0,
  none⟩) 1 1)] 37 true false)) (Tr.full 2) (Tr.full 2)))))) (.node none (.node none (.node none (.node none (.node none (.node (some (.cells [(.int .i64 (.ofNat 9)),
  (.int .i64 (.ofNat 2)), (.bool false), (.slice none 0 0), (.slice none 0 0), (.string ⟨⟨[]⟩⟩), (.slice (some ⟨1049, 0,
  none⟩) 1 1)] 37 false false)) (Tr.full 1) (Tr.full 1)) (Tr.full 2)) (Tr.full 3)) (Tr.full 4)) (.node none (.node none (.node none (.node (some (.cells [(.bool false),
  (.slice none 0 0), (.slice (some ⟨1096, 0, none⟩) 1 2), (.bool false), (.slice (some ⟨854, 0, none⟩) 1 1), (.slice (some ⟨1104, 0, none⟩) 1 2), (.bool false), (.bool false),
  (.bool false)] 175 true false)) (Tr.full 1) (Tr.full 1)) (Tr.full 2)) (.node (some (.cells [(.string ⟨⟨[120]⟩⟩), (.bool false), (.slice none 0 0), (.slice none 0 0),
  (.bool false), (.slice (some ⟨854, 0, none⟩) 1 1), (.slice none 0 0), (.bool false), (.bool false)] 122 true true)) (Tr.full 2) (Tr.full 2))) (.node none (Tr.full 3)
  (.node (some (.cells [(.bool false), (.slice none 0 0), (.slice none 0 0)] 34 true false)) (Tr.full 2) (Tr.full 2))))) (.node (some (.cells [(.int .i64 (.ofNat 2)),
  (.int .i64 (.ofNat 0)), (.bool false), (.slice none 0 0), (.slice none 0 0), (.string ⟨⟨[120]⟩⟩), (.slice none 0 0)] 37 true true)) (.node none (.node none (.node none
  (.node (some (.cells [(.bool false), (.slice none 0 0), (.slice none 0 0), (.bool false), (.slice (some ⟨1131, 0, none⟩) 1 1), (.slice none 0 0), (.bool false),
  (.bool false)] 119 true false)) (Tr.full 1) (Tr.full 1)) (Tr.full 2)) (Tr.full 3)) (Tr.full 4)) (.node none (Tr.full 4) (.node none (Tr.full 3)
  (.node (some (.cells [(.bool false), (.slice none 0 0), (.slice (some ⟨1015, 0, none⟩) 1 2)] 173 true false)) (Tr.full 2) (Tr.full 2))))))))) (.node none (.node none (.node none
  (.node none (.node none (.node none (.node none (.node none (.node (some (.cells [(.int .i64 (.ofNat 2)), (.int .i64 (.ofNat 0)), (.bool false), (.slice none 0 0),
  (.slice none 0 0), (.string ⟨⟨[120]⟩⟩), (.slice none 0 0)] 37 true false)) (Tr.full 1) (Tr.full 1)) (Tr.full 2)) (Tr.full 3)) (Tr.full 4)) (.node none (.node none (.node none
  (.node (some (.cells [(.bool false), (.slice none 0 0), (.slice (some ⟨1096, 0, none⟩) 1 2), (.bool false), (.slice (some ⟨854, 0, none⟩) 1 1), (.slice (some ⟨1104, 0,
  none⟩) 1 2), (.bool false), (.bool false), (.bool false)] 175 true false)) (Tr.full 1) (Tr.full 1)) (Tr.full 2)) (Tr.full 3)) (Tr.full 4))) (.node none (.node none (.node none
  (.node none (.node (some (.cells [(.bool false), (.slice (some ⟨798, 0, none⟩) 1 1),
  (.slice none 0 0)] 34 true false)) (Tr.full 1) (Tr.full 1)) (Tr.full 2)) (Tr.full 3)) (Tr.full 4)) (.node none (.node none (.node none (.node (some (.cells [(.bool false),
  (.slice none 0 0), (.slice none 0 0)] 34 true false)) (Tr.full 1) (Tr.full 1)) (Tr.full 2)) (.node (some (.cells [(.int .i64 (.ofNat 0))] 3 true true)) (Tr.full 2) (Tr.full 2)))
  (.node none (Tr.full 3) (.node (some (.cells [(.bool false), (.slice none 0 0), (.slice (some ⟨992, 0, none⟩) 1 2)] 173 true false)) (Tr.full 2) (Tr.full 2)))))) (.node none
  (.node none (.node none (.node none (.node none (.node (some (.cells [(.bool false), (.slice none 0 0), (.slice (some ⟨1038, 0,
  none⟩) 1 2)] 173 true false)) (Tr.full 1) (Tr.full 1)) (Tr.full 2)) (Tr.full 3)) (Tr.full 4)) (.node none (.node none (.node none (.node (some (.cells [(.bool false),
  (.slice (some ⟨854, 0, none⟩) 1 1), (.slice (some ⟨1104, 0, none⟩) 1 2)] 173 true false)) (Tr.full 1) (Tr.full 1)) (Tr.full 2)) (Tr.full 3)) (.node none (Tr.full 3)
  (.node (some (.cells [(.int .i64 (.ofNat 5)), (.int .i64 (.ofNat 0)), (.bool false), (.slice none 0 0), (.slice none 0 0), (.string ⟨⟨[]⟩⟩), (.slice (some ⟨800, 0, none⟩) 2 2),
  (.bool true), (.slice (some ⟨859, 0, none⟩) 1 1), (.slice none 0 0)] 51 true false)) (Tr.full 2) (Tr.full 2))))) (.node none (.node (some (.cells [(.int .i64 (.ofNat 9)),
  (.int .i64 (.ofNat 2)), (.bool false), (.slice none 0 0), (.slice none 0 0), (.string ⟨⟨[]⟩⟩), (.slice (some ⟨123, 0, none⟩) 1 1), (.int .i64 (.ofNat 1)),
  (.int .i64 (.ofNat 0)), (.bool false), (.slice (some ⟨162, 0, none⟩) 1 1), (.slice none 0 0), (.string ⟨⟨[]⟩⟩), (.slice none 0 0)] 37 true true)) (.node none (.node none
  (.node (some (.cells [(.bool false), (.slice (some ⟨1075, 0, none⟩) 1 1), (.slice none 0 0)] 34 true false)) (Tr.full 1) (Tr.full 1)) (Tr.full 2)) (Tr.full 3)) (Tr.full 4))
  (.node none (.node none (.node none (.node (some (.cells [(.int .i64 (.ofNat 5)), (.int .i64 (.ofNat 0)), (.bool false), (.slice none 0 0), (.slice none 0 0), (.string ⟨⟨[]⟩⟩),
  (.slice (some ⟨1077, 0, none⟩) 2 2), (.bool true), (.slice (some ⟨1136, 0, none⟩) 1 1), (.slice none 0 0), (.int .i64 (.ofNat 1)), (.int .i64 (.ofNat 0)),
  (.int .i64 (.ofNat 0)), (.int .i64 (.ofNat 0)), (.int .i64 (.ofNat 0)), (.string ⟨⟨[]⟩⟩), (.string ⟨⟨[]⟩⟩), (.bool false), (.slice none 0 0), (.slice none 0 0),
  (.int .i64 (.ofNat 0)), (.int .i64 (.ofNat 0)), (.int .i64 (.ofNat 0)), (.int .i64 (.ofNat 0)), (.int .i64 (.ofNat 0)), (.bool false), (.slice none 0 0), (.slice none 0 0),
  (.string ⟨⟨[]⟩⟩), (.slice none 0 0), (.slice none 0 0), (.string ⟨⟨[]⟩⟩), (.int .i64 (.ofNat 0)), (.slice none 0 0), (.slice none 0 0), (.slice none 0 0),
  (.slice none 0 0)] 88 true false)) (Tr.full 1) (Tr.full 1)) (Tr.full 2)) (Tr.full 3)) (.node none (Tr.full 3) (.node (some (.cells [(.bool false), (.slice none 0 0),
  (.slice none 0 0)] 34 true false)) (Tr.full 2) (Tr.full 2))))))) (.node none (.node none (.node none (.node none (.node none (.node none (.node (some (.cells [(.bool false),
  (.slice none 0 0), (.slice none 0 0)] 34 true false)) (Tr.full 1) (Tr.full 1)) (Tr.full 2)) (Tr.full 3)) (Tr.full 4)) (.node none (.node none (.node none
  (.node (some (.cells [(.bool false), (.slice none 0 0), (.slice (some ⟨1096, 0, none⟩) 1 2)] 173 true false)) (Tr.full 1) (Tr.full 1)) (Tr.full 2)) (Tr.full 3)) (Tr.full 4)))
  (.node none (.node none (.node none (.node none (.node (some (.cells [(.bool false), (.slice (some ⟨798, 0, none⟩) 1 1), (.slice (some ⟨1063, 0,
  none⟩) 1 2)] 173 true false)) (Tr.full 1) (Tr.full 1)) (Tr.full 2)) (Tr.full 3)) (Tr.full 4)) (.node none (.node none (.node none (.node (some (.cells [(.bool false),
  (.slice (some ⟨1131, 0, none⟩) 1 1), (.slice none 0 0)] 34 true false)) (Tr.full 1) (Tr.full 1)) (Tr.full 2)) (Tr.full 3)) (.node none (Tr.full 3)
  (.node (some (.cells [(.bool false), (.slice none 0 0), (.slice none 0 0)] 34 true false)) (Tr.full 2) (Tr.full 2)))))) (.node none (.node none (.node none (.node none
  (.node none (.node (some (.cells [(.int .i64 (.ofNat 2)), (.int .i64 (.ofNat 0)), (.bool false), (.slice none 0 0), (.slice none 0 0), (.string ⟨⟨[120]⟩⟩),
  (.slice none 0 0)] 37 true true)) (Tr.full 1) (Tr.full 1)) (Tr.full 2)) (Tr.full 3)) (Tr.full 4)) (.node none (.node none (.node none (.node (some (.cells [(.bool false),
  (.slice none 0 0), (.slice (some ⟨1096, 0, none⟩) 1 2)] 173 true false)) (Tr.full 1) (Tr.full 1)) (Tr.full 2)) (Tr.full 3)) (.node none (Tr.full 3)
  (.node (some (.cells [(.bool false), (.slice none 0 0), (.slice none 0 0)] 34 true false)) (Tr.full 2) (Tr.full 2))))) (.node none (.node none (.node none (.node none
  (.node (some (.cells [(.bool false), (.slice none 0 0), (.slice none 0 0), (.bool false), (.slice (some ⟨854, 0, none⟩) 1 1), (.slice none 0 0), (.bool false),
  (.bool false)] 119 true false)) (Tr.full 1) (Tr.full 1)) (Tr.full 2)) (Tr.full 3)) (Tr.full 4)) (.node none (Tr.full 4) (.node none (Tr.full 3)
  (.node (some (.cells [(.bool false), (.slice none 0 0), (.slice (some ⟨1015, 0, none⟩) 1 2)] 173 true false)) (Tr.full 2) (Tr.full 2)))))))) (.node none (.node none (.node none
  (.node none (.node none (.node none (.node none (.node (some (.cells [(.bool false), (.slice none 0 0),
  (.slice none 0 0)] 34 true false)) (Tr.full 1) (Tr.full 1)) (Tr.full 2)) (Tr.full 3)) (Tr.full 4)) (.node none (.node none (.node none (.node (some (.cells [(.bool false),
  (.slice none 0 0), (.slice (some ⟨1096, 0, none⟩) 1 2)] 173 true false)) (Tr.full 1) (Tr.full 1)) (Tr.full 2)) (Tr.full 3)) (Tr.full 4))) (.node none (.node none (.node none
  (.node none (.node (some (.cells [(.bool false), (.slice (some ⟨798, 0, none⟩) 1 1),
  (.slice none 0 0)] 34 true false)) (Tr.full 1) (Tr.full 1)) (Tr.full 2)) (Tr.full 3)) (Tr.full 4)) (.node none (.node none (.node none (.node (some (.cells [(.bool false),
  (.slice none 0 0), (.slice none 0 0)] 34 true false)) (Tr.full 1) (Tr.full 1)) (Tr.full 2)) (.node (some (.cells [(.int .i64 (.ofNat 0)), (.int .i64 (.ofNat 0)),
  (.string ⟨⟨[]⟩⟩), (.string ⟨⟨[]⟩⟩), (.bool false), (.slice none 0 0), (.slice none 0 0), (.int .i64 (.ofNat 0)), (.int .i64 (.ofNat 0)), (.int .i64 (.ofNat 0)),
  (.int .i64 (.ofNat 0)), (.int .i64 (.ofNat 0)), (.bool false), (.slice none 0 0), (.slice none 0 0), (.string ⟨⟨[]⟩⟩), (.slice none 0 0), (.slice none 0 0), (.string ⟨⟨[]⟩⟩),
  (.int .i64 (.ofNat 0)), (.slice none 0 0), (.slice none 0 0), (.slice none 0 0), (.slice none 0 0)] 55 true false)) (Tr.full 2) (Tr.full 2))) (.node none (Tr.full 3)
  (.node (some (.cells [(.bool false), (.slice none 0 0), (.slice (some ⟨992, 0, none⟩) 1 2)] 173 true false)) (Tr.full 2) (Tr.full 2)))))) (.node none (.node none (.node none
  (.node none (.node none (.node (some (.cells [(.bool false), (.slice none 0 0),
  (.slice none 0 0)] 34 true false)) (Tr.full 1) (Tr.full 1)) (Tr.full 2)) (Tr.full 3)) (Tr.full 4)) (.node none (.node none (.node none (.node (some (.cells [(.bool false),
  (.slice none 0 0), (.slice (some ⟨1096, 0, none⟩) 1 2)] 173 true false)) (Tr.full 1) (Tr.full 1)) (Tr.full 2)) (Tr.full 3)) (.node none (Tr.full 3)
  (.node (some (.cells [(.int .i64 (.ofNat 5)), (.int .i64 (.ofNat 0)), (.bool false), (.slice none 0 0), (.slice none 0 0), (.string ⟨⟨[]⟩⟩), (.slice (some ⟨1077, 0,
  none⟩) 2 2)] 37 true false)) (Tr.full 2) (Tr.full 2))))) (.node none (.node none (.node none (.node none (.node (some (.cells [(.int .i64 (.ofNat 9)), (.int .i64 (.ofNat 2)),
  (.bool false), (.slice none 0 0), (.slice none 0 0), (.string ⟨⟨[]⟩⟩), (.slice (some ⟨1049, 0, none⟩) 1 1), (.int .i64 (.ofNat 1)), (.int .i64 (.ofNat 0)), (.bool false),
  (.slice (some ⟨1075, 0, none⟩) 1 1), (.slice none 0 0), (.string ⟨⟨[]⟩⟩), (.slice none 0 0)] 37 false true)) (Tr.full 1) (Tr.full 1)) (Tr.full 2)) (Tr.full 3)) (Tr.full 4))
  (.node none (.node none (.node none (.node (some (.cells [] 42 true true)) (Tr.full 1) (Tr.full 1)) (Tr.full 2)) (Tr.full 3)) (.node none (Tr.full 3)
  (.node (some (.cells [(.int .u32 (.ofNat 1)), (.int .u32 (.ofNat 0))] 227 true true)) (Tr.full 2) (Tr.full 2))))))) (.node none (.node none (.node none (.node none (.node none
  (.node none (.node (some (.cells [(.bool false), (.slice none 0 0), (.slice (some ⟨1038, 0,
  none⟩) 1 2)] 173 true false)) (Tr.full 1) (Tr.full 1)) (Tr.full 2)) (Tr.full 3)) (Tr.full 4)) (.node none (.node none (.node (some (.cells [(.int .i64 (.ofNat 1)),
  (.int .i64 (.ofNat 0)), (.int .i64 (.ofNat 0))] 23 true false)) (.node (some (.cells [(.bool false), (.slice (some ⟨854, 0, none⟩) 1 1), (.slice (some ⟨1104, 0,
  none⟩) 1 2)] 173 true false)) (Tr.full 1) (Tr.full 1)) (Tr.full 2)) (Tr.full 3)) (Tr.full 4))) (.node none (.node none (.node none (.node none
  (.node (some (.cells [(.bool false), (.slice (some ⟨798, 0, none⟩) 1 1), (.slice (some ⟨1063, 0,
  none⟩) 1 2)] 173 true false)) (Tr.full 1) (Tr.full 1)) (Tr.full 2)) (Tr.full 3)) (Tr.full 4)) (.node none (.node none (.node none (.node (some (.cells [(.bool false),
  (.slice (some ⟨1131, 0, none⟩) 1 1), (.slice none 0 0)] 34 true false)) (Tr.full 1) (Tr.full 1)) (Tr.full 2)) (Tr.full 3)) (.node none (Tr.full 3)
  (.node (some (.cells [(.bool false), (.slice none 0 0), (.slice none 0 0)] 34 true false)) (Tr.full 2) (Tr.full 2)))))) (.node none (.node none (.node none (.node none
  (.node none (.node (some (.cells [(.int .i64 (.ofNat 1)), (.int .i64 (.ofNat 0)), (.bool false), (.slice (some ⟨1075, 0, none⟩) 1 1), (.slice none 0 0), (.string ⟨⟨[]⟩⟩),
  (.slice none 0 0)] 37 true false)) (Tr.full 1) (Tr.full 1)) (Tr.full 2)) (Tr.full 3)) (Tr.full 4)) (.node none (.node none (.node none (.node (some (.cells [(.bool false),
  (.slice none 0 0), (.slice (some ⟨1096, 0, none⟩) 1 2), (.bool false), (.slice (some ⟨854, 0, none⟩) 1 1), (.slice (some ⟨1104, 0, none⟩) 1 2), (.bool false), (.bool false),
  (.bool false)] 175 true false)) (Tr.full 1) (Tr.full 1)) (Tr.full 2)) (.node (some (.cells [(.int .i64 (.ofNat 0)), (.int .i64 (.negSucc 0)), (.int .i64 (.ofNat 0)),
  (.int .i64 (.ofNat 5)), (.int .i64 (.ofNat 0)), (.bool false), (.slice none 0 0), (.slice none 0 0), (.string ⟨⟨[]⟩⟩), (.slice (some ⟨800, 0, none⟩) 2 2), (.bool true),
  (.slice (some ⟨859, 0, none⟩) 1 1), (.slice none 0 0), (.int .i64 (.ofNat 0)), (.int .i64 (.ofNat 0)), (.string ⟨⟨[]⟩⟩), (.string ⟨⟨[]⟩⟩), (.bool false), (.slice none 0 0),
  (.slice none 0 0), (.int .i64 (.ofNat 0)), (.int .i64 (.ofNat 0)), (.int .i64 (.ofNat 0)), (.int .i64 (.ofNat 0)), (.int .i64 (.ofNat 0)), (.bool false), (.slice none 0 0),
  (.slice none 0 0), (.string ⟨⟨[]⟩⟩), (.slice none 0 0), (.slice none 0 0), (.string ⟨⟨[]⟩⟩), (.int .i64 (.ofNat 0)), (.slice none 0 0), (.slice none 0 0), (.slice none 0 0),
  (.slice none 0 0), (.bool false), (.slice none 0 0)] 73 true true)) (Tr.full 2) (Tr.full 2))) (.node none (Tr.full 3) (.node (some (.cells [(.bool false), (.slice none 0 0),
  (.slice (some ⟨992, 0, none⟩) 1 2)] 173 true false)) (Tr.full 2) (Tr.full 2))))) (.node none (.node none (.node none (.node none
  (.node (some (.cells [(.int .i64 (.ofNat 0))] 45 true false)) (Tr.full 1) (Tr.full 1)) (Tr.full 2)) (Tr.full 3)) (Tr.full 4)) (.node none (Tr.full 4) (.node none (Tr.full 3)
  (.node (some (.cells [(.bool false), (.slice none 0 0), (.slice (some ⟨1015, 0, none⟩) 1 2)] 173 true false)) (Tr.full 2) (Tr.full 2)))))))))) (.node none (.node none
  (.node none (.node none (.node none (.node none (.node none (.node none (.node none (.node (some (.cells [(.bool false), (.slice none 0 0),
  (.slice none 0 0)] 34 true false)) (Tr.full 1) (Tr.full 1)) (Tr.full 2)) (Tr.full 3)) (Tr.full 4)) (.node none (.node none (.node none (.node (some (.cells [(.bool false),
  (.slice none 0 0), (.slice (some ⟨1096, 0, none⟩) 1 2), (.bool false), (.slice (some ⟨854, 0, none⟩) 1 1), (.slice (some ⟨1104, 0, none⟩) 1 2), (.bool false), (.bool false),
  (.bool false)] 175 true false)) (Tr.full 1) (Tr.full 1)) (Tr.full 2)) (Tr.full 3)) (Tr.full 4))) (.node none (.node none (.node none (.node none
  (.node (some (.cells [(.bool false), (.slice (some ⟨1075, 0, none⟩) 1 1), (.slice none 0 0)] 34 true false)) (Tr.full 1) (Tr.full 1)) (Tr.full 2))
  (.node (some (.cells [(.int .i64 (.ofNat 9)), (.int .i64 (.ofNat 2)), (.bool false), (.slice none 0 0), (.slice none 0 0), (.string ⟨⟨[]⟩⟩), (.slice (some ⟨772, 0, none⟩) 1 1),
  (.int .i64 (.ofNat 1)), (.int .i64 (.ofNat 0)), (.bool false), (.slice (some ⟨798, 0, none⟩) 1 1), (.slice none 0 0), (.string ⟨⟨[]⟩⟩),
  (.slice none 0 0)] 37 false true)) (Tr.full 2) (Tr.full 2))) (Tr.full 4)) (.node none (.node none (.node none (.node (some (.cells [(.bool false), (.slice none 0 0),
  (.slice (some ⟨1096, 0, none⟩) 1 2)] 173 true false)) (Tr.full 1) (Tr.full 1)) (Tr.full 2)) (.node (some (.cells [(.int .i64 (.ofNat 0))] 3 true true)) (Tr.full 2) (Tr.full 2)))
  (.node none (Tr.full 3) (.node (some (.cells [(.int .u32 (.ofNat 1)), (.int .u32 (.ofNat 0))] 227 true true)) (Tr.full 2) (Tr.full 2)))))) (.node none (.node none (.node none
  (.node none (.node none (.node (some (.cells [(.bool false), (.slice none 0 0), (.slice (some ⟨1038, 0,
  none⟩) 1 2)] 173 true false)) (Tr.full 1) (Tr.full 1)) (Tr.full 2)) (Tr.full 3)) (Tr.full 4)) (.node none (.node none (.node none (.node (some (.cells [(.int .u32 (.ofNat 1)),
  (.int .u32 (.ofNat 0))] 227 true true)) (Tr.full 1) (Tr.full 1)) (Tr.full 2)) (Tr.full 3)) (Tr.full 4))) (.node none (.node none (.node none (.node none
  (.node (some (.cells [(.bool false), (.slice (some ⟨798, 0, none⟩) 1 1), (.slice (some ⟨1063, 0,
  none⟩) 1 2)] 173 true false)) (Tr.full 1) (Tr.full 1)) (Tr.full 2)) (Tr.full 3)) (Tr.full 4)) (.node none (.node none (.node none (.node (some (.cells [(.string ⟨⟨[120]⟩⟩),
  (.bool false), (.slice none 0 0), (.slice none 0 0), (.bool false), (.slice (some ⟨1131, 0, none⟩) 1 1), (.slice none 0 0), (.bool false),
  (.bool false)] 122 true true)) (Tr.full 1) (Tr.full 1)) (Tr.full 2)) (Tr.full 3)) (.node none (Tr.full 3) (.node (some (.cells [(.bool false), (.slice none 0 0),
  (.slice none 0 0)] 34 true false)) (Tr.full 2) (Tr.full 2))))))) (.node none (.node none (.node none (.node none (.node none (.node none (.node (some (.cells [(.bool false),
  (.slice none 0 0), (.slice none 0 0)] 34 true false)) (Tr.full 1) (Tr.full 1)) (Tr.full 2)) (Tr.full 3)) (Tr.full 4)) (.node none (.node none (.node none
  (.node (some (.cells [(.int .u32 (.ofNat 1)), (.int .u32 (.ofNat 0))] 227 true true)) (Tr.full 1) (Tr.full 1)) (Tr.full 2)) (Tr.full 3)) (Tr.full 4))) (.node none (.node none
  (.node none (.node none (.node (some (.cells [(.bool false), (.slice (some ⟨798, 0, none⟩) 1 1), (.slice (some ⟨1063, 0,
  none⟩) 1 2)] 173 true false)) (Tr.full 1) (Tr.full 1)) (Tr.full 2)) (Tr.full 3)) (Tr.full 4)) (.node none (.node none (.node none (.node (some (.cells [(.bool false),
  (.slice (some ⟨854, 0, none⟩) 1 1), (.slice (some ⟨1104, 0, none⟩) 1 2)] 173 true false)) (Tr.full 1) (Tr.full 1)) (Tr.full 2)) (Tr.full 3)) (.node none (Tr.full 3)
  (.node (some (.cells [(.bool false), (.slice none 0 0), (.slice (some ⟨992, 0, none⟩) 1 2)] 173 true false)) (Tr.full 2) (Tr.full 2)))))) (.node none (.node none (.node none
  (.node none (.node none (.node (some (.cells [(.int .i64 (.ofNat 2)), (.int .i64 (.ofNat 0)), (.bool false), (.slice none 0 0), (.slice none 0 0), (.string ⟨⟨[120]⟩⟩),
  (.slice none 0 0)] 37 true true)) (Tr.full 1) (Tr.full 1)) (Tr.full 2)) (Tr.full 3)) (Tr.full 4)) (.node none (.node none (.node none (.node (some (.cells [(.bool false),
  (.slice (some ⟨854, 0, none⟩) 1 1), (.slice (some ⟨1104, 0, none⟩) 1 2)] 173 true false)) (Tr.full 1) (Tr.full 1)) (Tr.full 2)) (Tr.full 3)) (.node none (Tr.full 3)
  (.node (some (.cells [(.bool false), (.slice none 0 0), (.slice none 0 0)] 34 true false)) (Tr.full 2) (Tr.full 2))))) (.node none (.node none (.node none (.node none
  (.node (some (.cells [(.bool false), (.slice none 0 0), (.slice none 0 0), (.bool false), (.slice (some ⟨1131, 0, none⟩) 1 1), (.slice none 0 0), (.bool false),
  (.bool false)] 119 true false)) (Tr.full 1) (Tr.full 1)) (Tr.full 2)) (Tr.full 3)) (Tr.full 4)) (.node none (Tr.full 4) (.node none (Tr.full 3)
  (.node (some (.cells [(.bool false), (.slice none 0 0), (.slice (some ⟨1015, 0, none⟩) 1 2)] 173 true false)) (Tr.full 2) (Tr.full 2)))))))) (.node none (.node none (.node none
  (.node none (.node none (.node none (.node none (.node (some (.cells [(.bool false), (.slice none 0 0), (.slice none 0 0)] 34 true false)) (Tr.full 1) (Tr.full 1)) (Tr.full 2))
  (.node (some (.cells [(.int .i64 (.ofNat 2)), (.int .i64 (.ofNat 0)), (.bool false), (.slice none 0 0), (.slice none 0 0), (.string ⟨⟨[120]⟩⟩),
  (.slice none 0 0)] 37 true true)) (Tr.full 2) (Tr.full 2))) (Tr.full 4)) (.node none (.node none (.node none (.node (some (.cells [(.bool false), (.slice none 0 0),
  (.slice none 0 0)] 34 true false)) (Tr.full 1) (Tr.full 1)) (Tr.full 2)) (Tr.full 3)) (Tr.full 4))) (.node none (.node none (.node none (.node none
  (.node (some (.cells [(.bool false), (.slice (some ⟨1075, 0, none⟩) 1 1), (.slice none 0 0)] 34 true false)) (Tr.full 1) (Tr.full 1)) (Tr.full 2)) (Tr.full 3)) (Tr.full 4))
  (.node none (.node none (.node none (.node (some (.cells [(.bool false), (.slice none 0 0), (.slice none 0 0)] 34 true false)) (Tr.full 1) (Tr.full 1)) (Tr.full 2))
  (.node (some (.cells [(.int .i64 (.ofNat 1)), (.int .i64 (.ofNat 0)), (.int .i64 (.ofNat 0))] 23 true false)) (Tr.full 2) (Tr.full 2))) (.node none (Tr.full 3)
  (.node (some (.cells [(.bool false), (.slice none 0 0), (.slice (some ⟨992, 0, none⟩) 1 2)] 173 true false)) (Tr.full 2) (Tr.full 2)))))) (.node none (.node none (.node none
  (.node none (.node none (.node (some (.cells [(.bool false), (.slice none 0 0), (.slice (some ⟨1038, 0,
  none⟩) 1 2)] 173 true false)) (Tr.full 1) (Tr.full 1)) (Tr.full 2)) (Tr.full 3)) (Tr.full 4)) (.node none (.node none (.node none (.node (some (.cells [(.bool false),
  (.slice (some ⟨854, 0, none⟩) 1 1), (.slice (some ⟨1104, 0, none⟩) 1 2)] 173 true false)) (Tr.full 1) (Tr.full 1)) (Tr.full 2)) (Tr.full 3)) (.node none (Tr.full 3)
  (.node (some (.cells [(.int .i64 (.ofNat 5)), (.int .i64 (.ofNat 0)), (.bool false), (.slice none 0 0), (.slice none 0 0), (.string ⟨⟨[]⟩⟩), (.slice (some ⟨1077, 0,
  none⟩) 2 2)] 37 true false)) (Tr.full 2) (Tr.full 2))))) (.node none (.node none (.node none (.node none (.node (some (.cells [(.int .i64 (.ofNat 1)), (.int .i64 (.ofNat 0)),
  (.bool false), (.slice (some ⟨1075, 0, none⟩) 1 1), (.slice none 0 0), (.string ⟨⟨[]⟩⟩),
  (.slice none 0 0)] 37 true true)) (Tr.full 1) (Tr.full 1)) (Tr.full 2)) (Tr.full 3)) (Tr.full 4)) (.node none (.node none (.node none
  (.node (some (.cells [(.int .i64 (.ofNat 1)), (.string ⟨⟨[]⟩⟩), (.string ⟨⟨[]⟩⟩), (.bool false), (.slice none 0 0), (.slice none 0 0), (.int .i64 (.ofNat 0)),
  (.int .i64 (.ofNat 0)), (.int .i64 (.ofNat 0)), (.int .i64 (.ofNat 0)), (.int .i64 (.ofNat 0)), (.bool false), (.slice none 0 0), (.slice none 0 0), (.string ⟨⟨[]⟩⟩),
  (.slice none 0 0), (.slice none 0 0), (.string ⟨⟨[]⟩⟩), (.int .i64 (.ofNat 0)), (.slice none 0 0), (.slice (some ⟨1141, 0,
  none⟩) 0 0)] 42 true false)) (Tr.full 1) (Tr.full 1)) (Tr.full 2)) (Tr.full 3)) (.node none (Tr.full 3) (.node (some (.cells [(.bool false), (.slice none 0 0),
  (.slice (some ⟨1015, 0, none⟩) 1 2)] 173 true false)) (Tr.full 2) (Tr.full 2))))))) (.node none (.node none (.node none (.node none (.node none (.node none
  (.node (some (.cells [(.int .u32 (.ofNat 1)), (.int .u32 (.ofNat 0))] 227 true true)) (Tr.full 1) (Tr.full 1)) (Tr.full 2)) (Tr.full 3)) (Tr.full 4)) (.node none (.node none
  (.node (some (.cells [(.int .i64 (.ofNat 5)), (.int .i64 (.ofNat 0)), (.bool false), (.slice none 0 0), (.slice none 0 0), (.string ⟨⟨[]⟩⟩), (.slice (some ⟨177, 0, none⟩) 2 2),
  (.bool true), (.slice (some ⟨586, 0, none⟩) 1 1), (.slice none 0 0)] 51 true false)) (.node (some (.cells [(.bool false), (.slice (some ⟨854, 0, none⟩) 1 1),
  (.slice none 0 0)] 34 true false)) (Tr.full 1) (Tr.full 1)) (Tr.full 2)) (Tr.full 3)) (Tr.full 4))) (.node none (.node none (.node none (.node none
  (.node (some (.cells [(.bool false), (.slice (some ⟨798, 0, none⟩) 1 1), (.slice (some ⟨1063, 0,
  none⟩) 1 2)] 173 true false)) (Tr.full 1) (Tr.full 1)) (Tr.full 2)) (Tr.full 3)) (Tr.full 4)) (.node none (.node none (.node none (.node (some (.cells [(.bool false),
  (.slice (some ⟨1131, 0, none⟩) 1 1), (.slice none 0 0)] 34 true false)) (Tr.full 1) (Tr.full 1)) (Tr.full 2)) (Tr.full 3)) (.node none (Tr.full 3)
  (.node (some (.cells [(.int .i64 (.ofNat 9)), (.int .i64 (.ofNat 2)), (.bool false), (.slice none 0 0), (.slice none 0 0), (.string ⟨⟨[]⟩⟩), (.slice (some ⟨1049, 0,
  none⟩) 1 1)] 37 true false)) (Tr.full 2) (Tr.full 2)))))) (.node none (.node none (.node none (.node none (.node none (.node (some (.cells [(.int .i64 (.ofNat 1)),
  (.int .i64 (.ofNat 0)), (.bool false), (.slice (some ⟨798, 0, none⟩) 1 1), (.slice none 0 0), (.string ⟨⟨[]⟩⟩),
  (.slice none 0 0)] 37 true false)) (Tr.full 1) (Tr.full 1)) (Tr.full 2)) (Tr.full 3)) (Tr.full 4)) (.node none (.node none (.node none (.node (some (.cells [(.bool false),
  (.slice none 0 0), (.slice (some ⟨1096, 0, none⟩) 1 2), (.bool false), (.slice (some ⟨854, 0, none⟩) 1 1), (.slice (some ⟨1104, 0, none⟩) 1 2), (.bool false), (.bool false),
  (.bool false)] 175 true false)) (Tr.full 1) (Tr.full 1)) (Tr.full 2)) (Tr.full 3)) (.node none (Tr.full 3) (.node (some (.cells [(.bool false), (.slice none 0 0),
  (.slice none 0 0)] 34 true false)) (Tr.full 2) (Tr.full 2))))) (.node none (.node none (.node none (.node none (.node (some (.cells [(.bool false), (.slice none 0 0),
  (.slice none 0 0), (.bool false), (.slice (some ⟨1131, 0, none⟩) 1 1), (.slice none 0 0), (.bool false),
  (.bool false)] 119 true false)) (Tr.full 1) (Tr.full 1)) (Tr.full 2)) (Tr.full 3)) (Tr.full 4)) (.node none (Tr.full 4) (.node none (Tr.full 3)
  (.node (some (.cells [(.bool false), (.slice none 0 0), (.slice (some ⟨1015, 0, none⟩) 1 2)] 173 true false)) (Tr.full 2) (Tr.full 2))))))))) (.node none (.node none (.node none
  (.node none (.node none (.node none (.node none (.node none (.node (some (.cells [(.int .i64 (.ofNat 2)), (.int .i64 (.ofNat 0)), (.bool false), (.slice none 0 0),
  (.slice none 0 0), (.string ⟨⟨[120]⟩⟩), (.slice none 0 0)] 37 true false)) (Tr.full 1) (Tr.full 1)) (Tr.full 2)) (Tr.full 3)) (Tr.full 4)) (.node none (.node none (.node none
  (.node (some (.cells [(.bool false), (.slice none 0 0), (.slice none 0 0)] 34 true false)) (Tr.full 1) (Tr.full 1)) (Tr.full 2)) (Tr.full 3)) (Tr.full 4))) (.node none
  (.node (some (.cells [(.int .u32 (.ofNat 1))] 227 true true)) (.node none (.node none (.node (some (.cells [(.bool false), (.slice (some ⟨1075, 0, none⟩) 1 1),
  (.slice none 0 0)] 34 true false)) (Tr.full 1) (Tr.full 1)) (Tr.full 2)) (Tr.full 3)) (Tr.full 4)) (.node none (.node none (.node none (.node (some (.cells [(.bool false),
  (.slice none 0 0), (.slice (some ⟨1096, 0, none⟩) 1 2)] 173 true false)) (Tr.full 1) (Tr.full 1)) (Tr.full 2)) (.node (some (.cells [(.int .i64 (.ofNat 0)),
  (.int .i64 (.ofNat 0)), (.string ⟨⟨[]⟩⟩), (.string ⟨⟨[]⟩⟩), (.bool false), (.slice none 0 0), (.slice none 0 0), (.int .i64 (.ofNat 0)), (.int .i64 (.ofNat 0)),
  (.int .i64 (.ofNat 0)), (.int .i64 (.ofNat 0)), (.int .i64 (.ofNat 0)), (.bool false), (.slice none 0 0), (.slice none 0 0), (.string ⟨⟨[]⟩⟩), (.slice none 0 0),
  (.slice none 0 0), (.string ⟨⟨[]⟩⟩), (.int .i64 (.ofNat 0)), (.slice none 0 0), (.slice none 0 0), (.slice none 0 0),
  (.slice none 0 0)] 55 true false)) (Tr.full 2) (Tr.full 2))) (.node none (Tr.full 3) (.node (some (.cells [(.bool false), (.slice none 0 0), (.slice (some ⟨992, 0,
  none⟩) 1 2)] 173 true false)) (Tr.full 2) (Tr.full 2)))))) (.node none (.node none (.node none (.node none (.node none (.node (some (.cells [(.bool false), (.slice none 0 0),
  (.slice (some ⟨1038, 0, none⟩) 1 2)] 173 true false)) (Tr.full 1) (Tr.full 1)) (Tr.full 2)) (Tr.full 3)) (Tr.full 4)) (.node none (.node none (.node none
  (.node (some (.cells [(.bool false), (.slice (some ⟨854, 0, none⟩) 1 1), (.slice (some ⟨1104, 0, none⟩) 1 2)] 173 true false)) (Tr.full 1) (Tr.full 1)) (Tr.full 2)) (Tr.full 3))
  (.node none (Tr.full 3) (.node (some (.cells [(.int .i64 (.ofNat 5)), (.int .i64 (.ofNat 0)), (.bool false), (.slice none 0 0), (.slice none 0 0), (.string ⟨⟨[]⟩⟩),
  (.slice (some ⟨1077, 0, none⟩) 2 2), (.bool true), (.slice (some ⟨1136, 0, none⟩) 1 1), (.slice none 0 0)] 51 true false)) (Tr.full 2) (Tr.full 2))))) (.node none (.node none
  (.node none (.node none (.node (some (.cells [] 227 false false)) (Tr.full 1) (Tr.full 1)) (Tr.full 2)) (Tr.full 3)) (Tr.full 4)) (.node none (.node none (.node none
  (.node (some (.cells [(.func (.func 34) ⟨[(.pointer (some ⟨1137, 0, none⟩))]⟩ ⟨[]⟩), (.func (.func 35) ⟨[(.pointer (some ⟨1137, 0, none⟩))]⟩ ⟨[]⟩),
  (.func (.func 36) ⟨[(.pointer (some ⟨1137, 0, none⟩))]⟩ ⟨[]⟩), (.func (.func 37) ⟨[(.pointer (some ⟨1137, 0, none⟩))]⟩ ⟨[]⟩), (.func (.func 38) ⟨[(.pointer (some ⟨1137, 0,
  none⟩))]⟩ ⟨[]⟩), (.func (.func 39) ⟨[(.pointer (some ⟨1137, 0, none⟩))]⟩ ⟨[]⟩), (.func (.func 40) ⟨[(.pointer (some ⟨1137, 0, none⟩))]⟩ ⟨[]⟩),
  (.func (.func 41) ⟨[(.pointer (some ⟨1137, 0, none⟩))]⟩ ⟨[]⟩), (.func (.func 42) ⟨[(.pointer (some ⟨1137, 0, none⟩))]⟩ ⟨[]⟩), (.func (.func 43) ⟨[(.pointer (some ⟨1137, 0,
  none⟩))]⟩ ⟨[]⟩), (.func (.func 44) ⟨[(.pointer (some ⟨1137, 0, none⟩))]⟩ ⟨[]⟩)] 25 true true)) (Tr.full 1) (Tr.full 1)) (Tr.full 2)) (Tr.full 3)) (.node none (Tr.full 3)
  (.node (some (.cells [(.bool false), (.slice none 0 0), (.slice none 0 0)] 34 true false)) (Tr.full 2) (Tr.full 2))))))) (.node none (.node none (.node none (.node none
  (.node none (.node none (.node (some (.cells [(.bool false), (.slice none 0 0),
  (.slice none 0 0)] 34 true false)) (Tr.full 1) (Tr.full 1)) (Tr.full 2)) (Tr.full 3)) (Tr.full 4)) (.node none (.node none (.node (some (.cells [(.string ⟨⟨[120]⟩⟩),
  (.bool false), (.slice none 0 0), (.slice none 0 0), (.bool false), (.slice (some ⟨582, 0, none⟩) 1 1), (.slice none 0 0), (.bool false), (.bool false)] 122 true true))
  (.node (some (.cells [(.bool false), (.slice none 0 0), (.slice (some ⟨1096, 0, none⟩) 1 2)] 173 true false)) (Tr.full 1) (Tr.full 1)) (Tr.full 2)) (Tr.full 3)) (Tr.full 4)))
  (.node none (.node none (.node none (.node none (.node (some (.cells [(.bool false), (.slice (some ⟨798, 0, none⟩) 1 1), (.slice (some ⟨1063, 0,
  none⟩) 1 2)] 173 true false)) (Tr.full 1) (Tr.full 1)) (Tr.full 2)) (Tr.full 3)) (Tr.full 4)) (.node none (.node none (.node none
  (.node (some (.cells [] 227 false false)) (Tr.full 1) (Tr.full 1)) (Tr.full 2)) (Tr.full 3)) (.node none (Tr.full 3) (.node (some (.cells [(.int .i64 (.ofNat 9)),
  (.int .i64 (.ofNat 2)), (.bool false), (.slice none 0 0), (.slice none 0 0), (.string ⟨⟨[]⟩⟩), (.slice (some ⟨772, 0, none⟩) 1 1)] 37 true false)) (Tr.full 2) (Tr.full 2))))))
  (.node none (.node none (.node none (.node none (.node none (.node (some (.cells [(.int .i64 (.ofNat 9)), (.int .i64 (.ofNat 2)), (.bool false), (.slice none 0 0),
  (.slice none 0 0), (.string ⟨⟨[]⟩⟩), (.slice (some ⟨1049, 0, none⟩) 1 1)] 37 true true)) (Tr.full 1) (Tr.full 1)) (Tr.full 2)) (Tr.full 3)) (Tr.full 4)) (.node none (.node none
  (.node none (.node (some (.cells [(.bool false), (.slice (some ⟨854, 0, none⟩) 1 1), (.slice (some ⟨1104, 0,
  none⟩) 1 2)] 173 true false)) (Tr.full 1) (Tr.full 1)) (Tr.full 2)) (Tr.full 3)) (.node none (Tr.full 3) (.node (some (.cells [(.bool false), (.slice none 0 0),
  (.slice none 0 0)] 34 true false)) (Tr.full 2) (Tr.full 2))))) (.node none (.node none (.node none (.node none
  (.node (some (.cells [(.func (.func 94) ⟨[]⟩ ⟨[]⟩)] 176 true false)) (Tr.full 1) (Tr.full 1)) (Tr.full 2)) (Tr.full 3)) (Tr.full 4)) (.node none (Tr.full 4)
  (.node none (Tr.full 3) (.node (some (.cells [(.bool false), (.slice none 0 0), (.slice (some ⟨1015, 0, none⟩) 1 2)] 173 true false)) (Tr.full 2) (Tr.full 2)))))))) (.node none
  (.node none (.node none (.node none (.node none (.node none (.node none (.node (some (.cells [(.bool false), (.slice none 0 0),
  (.slice none 0 0)] 34 true false)) (Tr.full 1) (Tr.full 1)) (Tr.full 2)) (Tr.full 3)) (Tr.full 4)) (.node none (.node none
  (.node (some (.cells [(.int .u32 (.ofNat 2))] 227 true true)) (.node (some (.cells [(.int .u32 (.ofNat 1)),
  (.int .u32 (.ofNat 0))] 227 true true)) (Tr.full 1) (Tr.full 1)) (Tr.full 2)) (Tr.full 3)) (Tr.full 4))) (.node none (.node none (.node none (.node none
  (.node (some (.cells [(.bool false), (.slice (some ⟨798, 0, none⟩) 1 1), (.slice (some ⟨1063, 0,
  none⟩) 1 2)] 173 true false)) (Tr.full 1) (Tr.full 1)) (Tr.full 2)) (Tr.full 3)) (Tr.full 4)) (.node none (.node none (.node none (.node (some (.cells [(.bool false),
  (.slice (some ⟨854, 0, none⟩) 1 1), (.slice (some ⟨1104, 0, none⟩) 1 2)] 173 true false)) (Tr.full 1) (Tr.full 1)) (Tr.full 2)) (Tr.full 3)) (.node none (Tr.full 3)
  (.node (some (.cells [(.bool false), (.slice none 0 0), (.slice (some ⟨992, 0, none⟩) 1 2)] 173 true false)) (Tr.full 2) (Tr.full 2)))))) (.node none (.node none (.node none
  (.node none (.node none (.node (some (.cells [(.bool false), (.slice none 0 0), (.slice (some ⟨1038, 0,
  none⟩) 1 2)] 173 true false)) (Tr.full 1) (Tr.full 1)) (Tr.full 2)) (Tr.full 3)) (Tr.full 4)) (.node none (.node none (.node none (.node (some (.cells [(.bool false),
  (.slice (some ⟨854, 0, none⟩) 1 1), (.slice (some ⟨1104, 0, none⟩) 1 2)] 173 true false)) (Tr.full 1) (Tr.full 1)) (Tr.full 2))
  (.node (some (.cells [(.int .u32 (.ofNat 2))] 227 false true)) (Tr.full 2) (Tr.full 2))) (.node none (Tr.full 3) (.node (some (.cells [(.bool false), (.slice none 0 0),
  (.slice none 0 0)] 34 true false)) (Tr.full 2) (Tr.full 2))))) (.node none (.node none (.node none (.node none (.node (some (.cells [(.string ⟨⟨[120]⟩⟩), (.bool false),
  (.slice none 0 0), (.slice none 0 0), (.bool false), (.slice (some ⟨854, 0, none⟩) 1 1), (.slice none 0 0), (.bool false),
  (.bool false)] 122 true false)) (Tr.full 1) (Tr.full 1)) (Tr.full 2)) (Tr.full 3)) (Tr.full 4)) (.node none (Tr.full 4) (.node none (Tr.full 3)
  (.node (some (.cells [(.bool false), (.slice none 0 0), (.slice (some ⟨1015, 0, none⟩) 1 2)] 173 true false)) (Tr.full 2) (Tr.full 2))))))) (.node none (.node none (.node none
  (.node none (.node none (.node none (.node (some (.cells [(.int .u32 (.ofNat 1)),
  (.int .u32 (.ofNat 0))] 227 true true)) (Tr.full 1) (Tr.full 1)) (Tr.full 2)) (Tr.full 3)) (Tr.full 4)) (.node none (.node none (.node (some (.cells [(.int .i64 (.ofNat 0)),
  (.int .i64 (.ofNat 0)), (.int .i64 (.ofNat 0)), (.string ⟨⟨[]⟩⟩), (.string ⟨⟨[]⟩⟩), (.bool false), (.slice none 0 0), (.slice none 0 0), (.int .i64 (.ofNat 0)),
  (.int .i64 (.ofNat 0)), (.int .i64 (.ofNat 0)), (.int .i64 (.ofNat 0)), (.int .i64 (.ofNat 0)), (.bool false), (.slice none 0 0), (.slice none 0 0), (.string ⟨⟨[]⟩⟩),
  (.slice none 0 0), (.slice none 0 0), (.string ⟨⟨[]⟩⟩), (.int .i64 (.ofNat 0)), (.slice none 0 0), (.slice none 0 0), (.slice none 0 0)] 44 true false))
  (.node (some (.cells [(.bool false), (.slice (some ⟨854, 0, none⟩) 1 1), (.slice none 0 0)] 34 true false)) (Tr.full 1) (Tr.full 1)) (Tr.full 2)) (Tr.full 3)) (Tr.full 4)))
  (.node none (.node none (.node none (.node none (.node (some (.cells [(.bool false), (.slice (some ⟨798, 0, none⟩) 1 1), (.slice (some ⟨1063, 0,
  none⟩) 1 2)] 173 true false)) (Tr.full 1) (Tr.full 1)) (Tr.full 2)) (Tr.full 3)) (Tr.full 4)) (.node none (.node none (.node none (.node (some (.cells [(.bool false),
  (.slice none 0 0), (.slice none 0 0), (.bool false), (.slice (some ⟨1131, 0, none⟩) 1 1), (.slice none 0 0), (.bool false),
  (.bool false)] 119 true false)) (Tr.full 1) (Tr.full 1)) (Tr.full 2)) (Tr.full 3)) (.node none (Tr.full 3) (.node (some (.cells [(.bool false), (.slice none 0 0),
  (.slice none 0 0)] 34 true false)) (Tr.full 2) (Tr.full 2)))))) (.node none (.node none (.node none (.node none (.node none (.node (some (.cells [(.int .i64 (.ofNat 1)),
  (.int .i64 (.ofNat 0)), (.bool false), (.slice (some ⟨1075, 0, none⟩) 1 1), (.slice none 0 0), (.string ⟨⟨[]⟩⟩),
  (.slice none 0 0)] 37 true false)) (Tr.full 1) (Tr.full 1)) (Tr.full 2)) (.node (some (.cells [(.int .u32 (.ofNat 1))] 227 false true)) (Tr.full 2) (Tr.full 2))) (Tr.full 4))
  (.node none (.node none (.node none (.node (some (.cells [(.bool false), (.slice none 0 0), (.slice none 0 0), (.bool false), (.slice (some ⟨1131, 0, none⟩) 1 1),
  (.slice none 0 0), (.bool false), (.bool false)] 119 true false)) (Tr.full 1) (Tr.full 1)) (Tr.full 2)) (.node (some (.cells [(.int .i64 (.ofNat 1)), (.int .i64 (.ofNat 0)),
  (.int .i64 (.ofNat 0)), (.slice (some ⟨861, 0, none⟩) 1 1), (.int .i64 (.ofNat 1)), (.bool false)] 29 true false)) (Tr.full 2) (Tr.full 2))) (.node none (Tr.full 3)
  (.node (some (.cells [(.int .u32 (.ofNat 1)), (.int .u32 (.ofNat 0))] 227 true true)) (Tr.full 2) (Tr.full 2))))) (.node none (.node none (.node none (.node none
  (.node (some (.cells [(.bool false), (.slice none 0 0), (.slice none 0 0), (.bool false), (.slice (some ⟨1131, 0, none⟩) 1 1), (.slice none 0 0), (.bool false),
  (.bool false)] 119 true false)) (Tr.full 1) (Tr.full 1)) (Tr.full 2)) (Tr.full 3)) (Tr.full 4)) (.node none (Tr.full 4) (.node none (Tr.full 3)
  (.node (some (.cells [(.bool false), (.slice none 0 0), (.slice none 0 0)] 34 true false)) (Tr.full 2) (Tr.full 2))))))))))), 1142⟩
  v := (.tuple ⟨[(.slice none 0 0), (.int .i64 (.ofNat 0))]⟩)
  H' := ⟨(.node (some (.cells [(.int .u8 (.ofNat 0)), (.int .u8 (.ofNat 1)), (.int .u8 (.ofNat 28)), (.int .u8 (.ofNat 2)), (.int .u8 (.ofNat 29)), (.int .u8 (.ofNat 14)),
  (.int .u8 (.ofNat 24)), (.int .u8 (.ofNat 3)), (.int .u8 (.ofNat 30)), (.int .u8 (.ofNat 22)), (.int .u8 (.ofNat 20)), (.int .u8 (.ofNat 15)), (.int .u8 (.ofNat 25)),
  (.int .u8 (.ofNat 17)), (.int .u8 (.ofNat 4)), (.int .u8 (.ofNat 8)), (.int .u8 (.ofNat 31)), (.int .u8 (.ofNat 27)), (.int .u8 (.ofNat 13)), (.int .u8 (.ofNat 23)),
  (.int .u8 (.ofNat 21)), (.int .u8 (.ofNat 19)), (.int .u8 (.ofNat 16)), (.int .u8 (.ofNat 7)), (.int .u8 (.ofNat 26)), (.int .u8 (.ofNat 12)), (.int .u8 (.ofNat 18)),
  (.int .u8 (.ofNat 6)), (.int .u8 (.ofNat 11)), (.int .u8 (.ofNat 5)), (.int .u8 (.ofNat 10)), (.int .u8 (.ofNat 9))] 363 false false)) (.node none (.node none (.node none
  (.node none (.node none (.node none (.node none (.node none (.node none (.node (some (.cells [(.bool false), (.slice none 0 0), (.slice (some ⟨1015, 0,
  none⟩) 1 2)] 173 true false)) (Tr.full 1) (Tr.full 1)) (Tr.full 2)) (Tr.full 3)) (Tr.full 4)) (.node none (.node none (.node none (.node (some (.cells [(.bool false),
  (.slice none 0 0), (.slice none 0 0), (.bool false), (.slice (some ⟨854, 0, none⟩) 1 1), (.slice none 0 0), (.bool false),
  (.bool false)] 119 true false)) (Tr.full 1) (Tr.full 1)) (Tr.full 2)) (Tr.full 3)) (Tr.full 4))) (.node none (.node none (.node none (.node none
  (.node (some (.cells [(.bool false), (.slice (some ⟨1075, 0, none⟩) 1 1), (.slice none 0 0)] 34 true false)) (Tr.full 1) (Tr.full 1)) (Tr.full 2)) (Tr.full 3)) (Tr.full 4))
  (.node none (.node none (.node none (.node (some (.cells [(.bool false), (.slice none 0 0), (.slice none 0 0), (.bool false), (.slice (some ⟨1131, 0, none⟩) 1 1),
  (.slice none 0 0), (.bool false), (.bool false)] 119 true false)) (Tr.full 1) (Tr.full 1)) (Tr.full 2)) (.node (some (.cells [(.pointer (some ⟨862, 0,
  none⟩))] 26 true false)) (Tr.full 2) (Tr.full 2))) (.node none (Tr.full 3) (.node (some (.cells [(.bool false), (.slice none 0 0), (.slice (some ⟨992, 0,
  none⟩) 1 2)] 173 true false)) (Tr.full 2) (Tr.full 2)))))) (.node none (.node none (.node none (.node none (.node none (.node (some (.cells [(.bool false), (.slice none 0 0),
  (.slice (some ⟨1038, 0, none⟩) 1 2)] 173 true false)) (Tr.full 1) (Tr.full 1)) (Tr.full 2)) (Tr.full 3)) (Tr.full 4)) (.node none (.node none (.node none
  (.node (some (.cells [(.bool false), (.slice (some ⟨854, 0, none⟩) 1 1), (.slice (some ⟨1104, 0,
  none⟩) 1 2)] 173 true false)) (Tr.full 1) (Tr.full 1)) (Tr.full 2)) (Tr.full 3)) (Tr.full 4))) (.node none (.node none (.node none (.node none
  (.node (some (.cells [(.bool false), (.slice (some ⟨1075, 0, none⟩) 1 1), (.slice none 0 0)] 34 true false)) (Tr.full 1) (Tr.full 1)) (Tr.full 2)) (Tr.full 3)) (Tr.full 4))
  (.node none (.node none (.node none (.node (some (.cells [(.string ⟨⟨[120]⟩⟩), (.bool false), (.slice none 0 0), (.slice none 0 0), (.bool false), (.slice (some ⟨1131, 0,
  none⟩) 1 1), (.slice none 0 0), (.bool false), (.bool false)] 122 true true)) (Tr.full 1) (Tr.full 1)) (Tr.full 2)) (Tr.full 3)) (.node none (Tr.full 3)
  (.node (some (.cells [(.bool false), (.slice none 0 0), (.slice none 0 0)] 34 true false)) (Tr.full 2) (Tr.full 2))))))) (.node none (.node none (.node none (.node none
  (.node none (.node none (.node (some (.cells [(.bool false), (.slice none 0 0),
  (.slice none 0 0)] 34 true false)) (Tr.full 1) (Tr.full 1)) (Tr.full 2)) (Tr.full 3)) (Tr.full 4)) (.node none (.node none (.node none (.node (some (.cells [(.bool false),
  (.slice none 0 0), (.slice (some ⟨1096, 0, none⟩) 1 2)] 173 true false)) (Tr.full 1) (Tr.full 1)) (Tr.full 2)) (Tr.full 3)) (Tr.full 4))) (.node none (.node none (.node none
  (.node none (.node (some (.cells [(.int .u32 (.ofNat 1)), (.int .u32 (.ofNat 0))] 227 true true)) (Tr.full 1) (Tr.full 1)) (Tr.full 2)) (Tr.full 3)) (Tr.full 4)) (.node none
  (.node none (.node none (.node (some (.cells [(.bool false), (.slice (some ⟨1131, 0, none⟩) 1 1),
  (.slice none 0 0)] 34 true false)) (Tr.full 1) (Tr.full 1)) (Tr.full 2)) (Tr.full 3)) (.node none (Tr.full 3) (.node (some (.cells [(.bool false), (.slice none 0 0),
  (.slice none 0 0)] 34 true false)) (Tr.full 2) (Tr.full 2)))))) (.node none (.node none (.node none (.node none (.node none (.node (some (.cells [(.bool false),
  (.slice none 0 0), (.slice none 0 0)] 34 true false)) (Tr.full 1) (Tr.full 1)) (Tr.full 2)) (Tr.full 3)) (Tr.full 4)) (.node none (.node none (.node none
  (.node (some (.cells [(.bool false), (.slice none 0 0), (.slice (some ⟨1096, 0, none⟩) 1 2)] 173 true false)) (Tr.full 1) (Tr.full 1)) (Tr.full 2)) (Tr.full 3))
  (.node none (Tr.full 3) (.node (some (.cells [(.bool false), (.slice none 0 0), (.slice none 0 0)] 34 true false)) (Tr.full 2) (Tr.full 2))))) (.node none (.node none
  (.node none (.node none (.node (some (.cells [(.bool false), (.slice none 0 0), (.slice none 0 0), (.bool false), (.slice (some ⟨854, 0, none⟩) 1 1), (.slice none 0 0),
  (.bool false), (.bool false)] 119 true false)) (Tr.full 1) (Tr.full 1)) (Tr.full 2)) (Tr.full 3)) (Tr.full 4)) (.node none (Tr.full 4) (.node none (Tr.full 3)
  (.node (some (.cells [(.int .u32 (.ofNat 1)), (.int .u32 (.ofNat 0))] 227 true true)) (Tr.full 2) (Tr.full 2)))))))) (.node none (.node none (.node none (.node none (.node none
  (.node none (.node none (.node (some (.cells [(.int .i64 (.ofNat 2)), (.int .i64 (.ofNat 0)), (.bool false), (.slice none 0 0), (.slice none 0 0), (.string ⟨⟨[120]⟩⟩),
  (.slice none 0 0)] 37 true false)) (Tr.full 1) (Tr.full 1)) (Tr.full 2)) (Tr.full 3)) (Tr.full 4)) (.node none (.node none (.node none (.node (some (.cells [(.bool false),
  (.slice none 0 0), (.slice (some ⟨1096, 0, none⟩) 1 2)] 173 true false)) (Tr.full 1) (Tr.full 1)) (Tr.full 2)) (Tr.full 3)) (Tr.full 4))) (.node none (.node none (.node none
  (.node none (.node (some (.cells [(.bool false), (.slice (some ⟨798, 0, none⟩) 1 1),
  (.slice none 0 0)] 34 true false)) (Tr.full 1) (Tr.full 1)) (Tr.full 2)) (Tr.full 3)) (Tr.full 4)) (.node none (.node none (.node none (.node (some (.cells [(.bool false),
  (.slice none 0 0), (.slice none 0 0)] 34 true false)) (Tr.full 1) (Tr.full 1)) (Tr.full 2)) (.node (some (.cells [(.int .i64 (.ofNat 5)), (.int .i64 (.ofNat 0)), (.bool false),
  (.slice none 0 0), (.slice none 0 0), (.string ⟨⟨[]⟩⟩), (.slice (some ⟨800, 0, none⟩) 2 2), (.bool true), (.slice (some ⟨859, 0, none⟩) 1 1),
  (.slice none 0 0)] 51 true false)) (Tr.full 2) (Tr.full 2))) (.node none (Tr.full 3) (.node (some (.cells [(.bool false), (.slice none 0 0), (.slice (some ⟨992, 0,
  none⟩) 1 2)] 173 true false)) (Tr.full 2) (Tr.full 2)))))) (.node none (.node none (.node none (.node none (.node none (.node (some (.cells [(.bool false), (.slice none 0 0),
  (.slice (some ⟨1038, 0, none⟩) 1 2)] 173 true false)) (Tr.full 1) (Tr.full 1)) (Tr.full 2)) (Tr.full 3)) (Tr.full 4)) (.node none (.node none (.node none
  (.node (some (.cells [(.bool false), (.slice (some ⟨854, 0, none⟩) 1 1), (.slice (some ⟨1104, 0, none⟩) 1 2)] 173 true false)) (Tr.full 1) (Tr.full 1)) (Tr.full 2)) (Tr.full 3))
  (.node none (Tr.full 3) (.node (some (.cells [(.int .i64 (.ofNat 5)), (.int .i64 (.ofNat 0)), (.bool false), (.slice none 0 0), (.slice none 0 0), (.string ⟨⟨[]⟩⟩),
  (.slice (some ⟨1077, 0, none⟩) 2 2), (.bool true), (.slice (some ⟨1136, 0, none⟩) 1 1), (.slice none 0 0)] 51 true false)) (Tr.full 2) (Tr.full 2))))) (.node none (.node none
  (.node none (.node none (.node (some (.cells [(.int .u32 (.ofNat 1))] 227 false true)) (Tr.full 1) (Tr.full 1)) (Tr.full 2)) (Tr.full 3)) (Tr.full 4)) (.node none (.node none
  (.node none (.node (some (.cells [(.int .i64 (.ofNat 1)), (.string ⟨⟨[]⟩⟩), (.string ⟨⟨[]⟩⟩), (.bool false), (.slice none 0 0), (.slice none 0 0), (.int .i64 (.ofNat 0)),
  (.int .i64 (.ofNat 0)), (.int .i64 (.ofNat 0)), (.int .i64 (.ofNat 0)), (.int .i64 (.ofNat 0)), (.bool false), (.slice none 0 0), (.slice none 0 0), (.string ⟨⟨[]⟩⟩),
  (.slice none 0 0), (.slice none 0 0), (.string ⟨⟨[]⟩⟩), (.int .i64 (.ofNat 0)), (.slice none 0 0),
  (.slice none 0 0)] 42 true false)) (Tr.full 1) (Tr.full 1)) (Tr.full 2)) (Tr.full 3)) (.node none (Tr.full 3) (.node (some (.cells [(.bool false), (.slice none 0 0),
  (.slice none 0 0)] 34 true false)) (Tr.full 2) (Tr.full 2))))))) (.node none (.node none (.node none (.node none (.node none (.node none (.node (some (.cells [(.bool false),
  (.slice none 0 0), (.slice (some ⟨1038, 0, none⟩) 1 2)] 173 true false)) (Tr.full 1) (Tr.full 1)) (Tr.full 2)) (Tr.full 3)) (Tr.full 4)) (.node none (.node none (.node none
  (.node (some (.cells [(.bool false), (.slice none 0 0), (.slice (some ⟨1096, 0, none⟩) 1 2)] 173 true false)) (Tr.full 1) (Tr.full 1)) (Tr.full 2)) (Tr.full 3)) (Tr.full 4)))
  (.node none (.node none (.node none (.node none (.node (some (.cells [(.bool false), (.slice (some ⟨798, 0, none⟩) 1 1), (.slice (some ⟨1063, 0,
  none⟩) 1 2)] 173 true false)) (Tr.full 1) (Tr.full 1)) (Tr.full 2)) (Tr.full 3)) (Tr.full 4)) (.node none (.node none (.node none
  (.node (some (.cells [(.int .u32 (.ofNat 2))] 227 false true)) (Tr.full 1) (Tr.full 1)) (Tr.full 2)) (Tr.full 3)) (.node none (Tr.full 3)
  (.node (some (.cells [(.int .i64 (.ofNat 9)), (.int .i64 (.ofNat 2)), (.bool false), (.slice none 0 0), (.slice none 0 0), (.string ⟨⟨[]⟩⟩), (.slice (some ⟨1049, 0,
  none⟩) 1 1)] 37 true false)) (Tr.full 2) (Tr.full 2)))))) (.node none (.node none (.node none (.node none (.node none (.node (some (.cells [(.int .i64 (.ofNat 9)),
  (.int .i64 (.ofNat 2)), (.bool false), (.slice none 0 0), (.slice none 0 0), (.string ⟨⟨[]⟩⟩), (.slice (some ⟨1049, 0,
  none⟩) 1 1)] 37 false false)) (Tr.full 1) (Tr.full 1)) (Tr.full 2)) (Tr.full 3)) (Tr.full 4)) (.node none (.node none (.node none (.node (some (.cells [(.bool false),
  (.slice none 0 0), (.slice (some ⟨1096, 0, none⟩) 1 2), (.bool false), (.slice (some ⟨854, 0, none⟩) 1 1), (.slice (some ⟨1104, 0, none⟩) 1 2), (.bool false), (.bool false),
  (.bool false)] 175 true false)) (Tr.full 1) (Tr.full 1)) (Tr.full 2)) (.node (some (.cells [(.string ⟨⟨[120]⟩⟩), (.bool false), (.slice none 0 0), (.slice none 0 0),
  (.bool false), (.slice (some ⟨854, 0, none⟩) 1 1), (.slice none 0 0), (.bool false), (.bool false)] 122 true true)) (Tr.full 2) (Tr.full 2))) (.node none (Tr.full 3)
  (.node (some (.cells [(.bool false), (.slice none 0 0), (.slice none 0 0)] 34 true false)) (Tr.full 2) (Tr.full 2))))) (.node (some (.cells [(.int .i64 (.ofNat 2)),
  (.int .i64 (.ofNat 0)), (.bool false), (.slice none 0 0), (.slice none 0 0), (.string ⟨⟨[120]⟩⟩), (.slice none 0 0)] 37 true true)) (.node none (.node none (.node none
  (.node (some (.cells [(.bool false), (.slice none 0 0), (.slice none 0 0), (.bool false), (.slice (some ⟨1131, 0, none⟩) 1 1), (.slice none 0 0), (.bool false),
  (.bool false)] 119 true false)) (Tr.full 1) (Tr.full 1)) (Tr.full 2)) (Tr.full 3)) (Tr.full 4)) (.node none (Tr.full 4) (.node none (Tr.full 3)
  (.node (some (.cells [(.bool false), (.slice none 0 0), (.slice (some ⟨1015, 0, none⟩) 1 2)] 173 true false)) (Tr.full 2) (Tr.full 2))))))))) (.node none (.node none (.node none
  (.node none (.node none (.node none (.node none (.node none (.node (some (.cells [(.int .i64 (.ofNat 2)), (.int .i64 (.ofNat 0)), (.bool false), (.slice none 0 0),
  (.slice none 0 0), (.string ⟨⟨[120]⟩⟩), (.slice none 0 0)] 37 true false)) (Tr.full 1) (Tr.full 1)) (Tr.full 2)) (Tr.full 3)) (Tr.full 4)) (.node none (.node none (.node none
  (.node (some (.cells [(.bool false), (.slice none 0 0), (.slice (some ⟨1096, 0, none⟩) 1 2), (.bool false), (.slice (some ⟨854, 0, none⟩) 1 1), (.slice (some ⟨1104, 0,
  none⟩) 1 2), (.bool false), (.bool false), (.bool false)] 175 true false)) (Tr.full 1) (Tr.full 1)) (Tr.full 2)) (Tr.full 3)) (Tr.full 4))) (.node none (.node none (.node none
  (.node none (.node (some (.cells [(.bool false), (.slice (some ⟨798, 0, none⟩) 1 1),
  (.slice none 0 0)] 34 true false)) (Tr.full 1) (Tr.full 1)) (Tr.full 2)) (Tr.full 3)) (Tr.full 4)) (.node none (.node none (.node none (.node (some (.cells [(.bool false),
  (.slice none 0 0), (.slice none 0 0)] 34 true false)) (Tr.full 1) (Tr.full 1)) (Tr.full 2)) (.node (some (.cells [(.int .i64 (.ofNat 0))] 3 true true)) (Tr.full 2) (Tr.full 2)))
  (.node none (Tr.full 3) (.node (some (.cells [(.bool false), (.slice none 0 0), (.slice (some ⟨992, 0, none⟩) 1 2)] 173 true false)) (Tr.full 2) (Tr.full 2)))))) (.node none
  (.node none (.node none (.node none (.node none (.node (some (.cells [(.bool false), (.slice none 0 0), (.slice (some ⟨1038, 0,
  none⟩) 1 2)] 173 true false)) (Tr.full 1) (Tr.full 1)) (Tr.full 2)) (Tr.full 3)) (Tr.full 4)) (.node none (.node none (.node none (.node (some (.cells [(.bool false),
  (.slice (some ⟨854, 0, none⟩) 1 1), (.slice (some ⟨1104, 0, none⟩) 1 2)] 173 true false)) (Tr.full 1) (Tr.full 1)) (Tr.full 2)) (Tr.full 3)) (.node none (Tr.full 3)
  (.node (some (.cells [(.int .i64 (.ofNat 5)), (.int .i64 (.ofNat 0)), (.bool false), (.slice none 0 0), (.slice none 0 0), (.string ⟨⟨[]⟩⟩), (.slice (some ⟨800, 0, none⟩) 2 2),
  (.bool true), (.slice (some ⟨859, 0, none⟩) 1 1), (.slice none 0 0)] 51 true false)) (Tr.full 2) (Tr.full 2))))) (.node none (.node (some (.cells [(.int .i64 (.ofNat 9)),
  (.int .i64 (.ofNat 2)), (.bool false), (.slice none 0 0), (.slice none 0 0), (.string ⟨⟨[]⟩⟩), (.slice (some ⟨123, 0, none⟩) 1 1), (.int .i64 (.ofNat 1)),
  (.int .i64 (.ofNat 0)), (.bool false), (.slice (some ⟨162, 0, none⟩) 1 1), (.slice none 0 0), (.string ⟨⟨[]⟩⟩), (.slice none 0 0)] 37 true true)) (.node none (.node none
  (.node (some (.cells [(.bool false), (.slice (some ⟨1075, 0, none⟩) 1 1), (.slice none 0 0)] 34 true false)) (Tr.full 1) (Tr.full 1)) (Tr.full 2)) (Tr.full 3)) (Tr.full 4))
  (.node none (.node none (.node none (.node (some (.cells [(.int .i64 (.ofNat 5)), (.int .i64 (.ofNat 0)), (.bool false), (.slice none 0 0), (.slice none 0 0), (.string ⟨⟨[]⟩⟩),
  (.slice (some ⟨1077, 0, none⟩) 2 2), (.bool true), (.slice (some ⟨1136, 0, none⟩) 1 1), (.slice none 0 0), (.int .i64 (.ofNat 1)), (.int .i64 (.ofNat 0)),
  (.int .i64 (.ofNat 0)), (.int .i64 (.ofNat 0)), (.int .i64 (.ofNat 0)), (.string ⟨⟨[]⟩⟩), (.string ⟨⟨[]⟩⟩), (.bool false), (.slice none 0 0), (.slice none 0 0),
  (.int .i64 (.ofNat 0)), (.int .i64 (.ofNat 0)), (.int .i64 (.ofNat 0)), (.int .i64 (.ofNat 0)), (.int .i64 (.ofNat 0)), (.bool false), (.slice none 0 0), (.slice none 0 0),
  (.string ⟨⟨[]⟩⟩), (.slice none 0 0), (.slice none 0 0), (.string ⟨⟨[]⟩⟩), (.int .i64 (.ofNat 0)), (.slice none 0 0), (.slice none 0 0), (.slice none 0 0),
  (.slice none 0 0)] 88 true false)) (Tr.full 1) (Tr.full 1)) (Tr.full 2)) (Tr.full 3)) (.node none (Tr.full 3) (.node (some (.cells [(.bool false), (.slice none 0 0),
  (.slice none 0 0)] 34 true false)) (Tr.full 2) (Tr.full 2))))))) (.node none (.node none (.node none (.node none (.node none (.node none (.node (some (.cells [(.bool false),
  (.slice none 0 0), (.slice none 0 0)] 34 true false)) (Tr.full 1) (Tr.full 1)) (Tr.full 2)) (Tr.full 3)) (Tr.full 4)) (.node none (.node none (.node none
  (.node (some (.cells [(.bool false), (.slice none 0 0), (.slice (some ⟨1096, 0, none⟩) 1 2)] 173 true false)) (Tr.full 1) (Tr.full 1)) (Tr.full 2)) (Tr.full 3)) (Tr.full 4)))
  (.node none (.node none (.node none (.node none (.node (some (.cells [(.bool false), (.slice (some ⟨798, 0, none⟩) 1 1), (.slice (some ⟨1063, 0,
  none⟩) 1 2)] 173 true false)) (Tr.full 1) (Tr.full 1)) (Tr.full 2)) (Tr.full 3)) (Tr.full 4)) (.node none (.node none (.node none (.node (some (.cells [(.bool false),
  (.slice (some ⟨1131, 0, none⟩) 1 1), (.slice none 0 0)] 34 true false)) (Tr.full 1) (Tr.full 1)) (Tr.full 2)) (Tr.full 3)) (.node none (Tr.full 3)
  (.node (some (.cells [(.bool false), (.slice none 0 0), (.slice none 0 0)] 34 true false)) (Tr.full 2) (Tr.full 2)))))) (.node none (.node none (.node none (.node none
  (.node none (.node (some (.cells [(.int .i64 (.ofNat 2)), (.int .i64 (.ofNat 0)), (.bool false), (.slice none 0 0), (.slice none 0 0), (.string ⟨⟨[120]⟩⟩),
  (.slice none 0 0)] 37 true true)) (Tr.full 1) (Tr.full 1)) (Tr.full 2)) (Tr.full 3)) (Tr.full 4)) (.node none (.node none (.node none (.node (some (.cells [(.bool false),
  (.slice none 0 0), (.slice (some ⟨1096, 0, none⟩) 1 2)] 173 true false)) (Tr.full 1) (Tr.full 1)) (Tr.full 2)) (Tr.full 3)) (.node none (Tr.full 3)
  (.node (some (.cells [(.bool false), (.slice none 0 0), (.slice none 0 0)] 34 true false)) (Tr.full 2) (Tr.full 2))))) (.node none (.node none (.node none (.node none
  (.node (some (.cells [(.bool false), (.slice none 0 0), (.slice none 0 0), (.bool false), (.slice (some ⟨854, 0, none⟩) 1 1), (.slice none 0 0), (.bool false),
  (.bool false)] 119 true false)) (Tr.full 1) (Tr.full 1)) (Tr.full 2)) (Tr.full 3)) (Tr.full 4)) (.node none (Tr.full 4) (.node none (Tr.full 3)
  (.node (some (.cells [(.bool false), (.slice none 0 0), (.slice (some ⟨1015, 0, none⟩) 1 2)] 173 true false)) (Tr.full 2) (Tr.full 2)))))))) (.node none (.node none (.node none
  (.node none (.node none (.node none (.node none (.node (some (.cells [(.bool false), (.slice none 0 0),
  (.slice none 0 0)] 34 true false)) (Tr.full 1) (Tr.full 1)) (Tr.full 2)) (Tr.full 3)) (Tr.full 4)) (.node none (.node none (.node none (.node (some (.cells [(.bool false),
  (.slice none 0 0), (.slice (some ⟨1096, 0, none⟩) 1 2)] 173 true false)) (Tr.full 1) (Tr.full 1)) (Tr.full 2)) (Tr.full 3)) (Tr.full 4))) (.node none (.node none (.node none
  (.node none (.node (some (.cells [(.bool false), (.slice (some ⟨798, 0, none⟩) 1 1),
  (.slice none 0 0)] 34 true false)) (Tr.full 1) (Tr.full 1)) (Tr.full 2)) (Tr.full 3)) (Tr.full 4)) (.node none (.node none (.node none (.node (some (.cells [(.bool false),
  (.slice none 0 0), (.slice none 0 0)] 34 true false)) (Tr.full 1) (Tr.full 1)) (Tr.full 2)) (.node (some (.cells [(.int .i64 (.ofNat 0)), (.int .i64 (.ofNat 0)),
  (.string ⟨⟨[]⟩⟩), (.string ⟨⟨[]⟩⟩), (.bool false), (.slice none 0 0), (.slice none 0 0), (.int .i64 (.ofNat 0)), (.int .i64 (.ofNat 0)), (.int .i64 (.ofNat 0)),
  (.int .i64 (.ofNat 0)), (.int .i64 (.ofNat 0)), (.bool false), (.slice none 0 0), (.slice none 0 0), (.string ⟨⟨[]⟩⟩), (.slice none 0 0), (.slice none 0 0), (.string ⟨⟨[]⟩⟩),
  (.int .i64 (.ofNat 0)), (.slice none 0 0), (.slice none 0 0), (.slice none 0 0), (.slice none 0 0)] 55 true false)) (Tr.full 2) (Tr.full 2))) (.node none (Tr.full 3)
  (.node (some (.cells [(.bool false), (.slice none 0 0), (.slice (some ⟨992, 0, none⟩) 1 2)] 173 true false)) (Tr.full 2) (Tr.full 2)))))) (.node none (.node none (.node none
  (.node none (.node none (.node (some (.cells [(.bool false), (.slice none 0 0),
  (.slice none 0 0)] 34 true false)) (Tr.full 1) (Tr.full 1)) (Tr.full 2)) (Tr.full 3)) (Tr.full 4)) (.node none (.node none (.node none (.node (some (.cells [(.bool false),
  (.slice none 0 0), (.slice (some ⟨1096, 0, none⟩) 1 2)] 173 true false)) (Tr.full 1) (Tr.full 1)) (Tr.full 2)) (Tr.full 3)) (.node none (Tr.full 3)
  (.node (some (.cells [(.int .i64 (.ofNat 5)), (.int .i64 (.ofNat 0)), (.bool false), (.slice none 0 0), (.slice none 0 0), (.string ⟨⟨[]⟩⟩), (.slice (some ⟨1077, 0,
  none⟩) 2 2)] 37 true false)) (Tr.full 2) (Tr.full 2))))) (.node none (.node none (.node none (.node none (.node (some (.cells [(.int .i64 (.ofNat 9)), (.int .i64 (.ofNat 2)),
  (.bool false), (.slice none 0 0), (.slice none 0 0), (.string ⟨⟨[]⟩⟩), (.slice (some ⟨1049, 0, none⟩) 1 1), (.int .i64 (.ofNat 1)), (.int .i64 (.ofNat 0)), (.bool false),
  (.slice (some ⟨1075, 0, none⟩) 1 1), (.slice none 0 0), (.string ⟨⟨[]⟩⟩), (.slice none 0 0)] 37 false true)) (Tr.full 1) (Tr.full 1)) (Tr.full 2)) (Tr.full 3)) (Tr.full 4))
  (.node none (.node none (.node none (.node (some (.cells [] 42 true true)) (Tr.full 1) (Tr.full 1)) (Tr.full 2)) (Tr.full 3)) (.node none (Tr.full 3)
  (.node (some (.cells [(.int .u32 (.ofNat 1)), (.int .u32 (.ofNat 0))] 227 true true)) (Tr.full 2) (Tr.full 2))))))) (.node none (.node none (.node none (.node none (.node none
  (.node none (.node (some (.cells [(.bool false), (.slice none 0 0), (.slice (some ⟨1038, 0,
  none⟩) 1 2)] 173 true false)) (Tr.full 1) (Tr.full 1)) (Tr.full 2)) (Tr.full 3)) (Tr.full 4)) (.node none (.node none (.node (some (.cells [(.int .i64 (.ofNat 1)),
  (.int .i64 (.ofNat 0)), (.int .i64 (.ofNat 0))] 23 true false)) (.node (some (.cells [(.bool false), (.slice (some ⟨854, 0, none⟩) 1 1), (.slice (some ⟨1104, 0,
  none⟩) 1 2)] 173 true false)) (Tr.full 1) (Tr.full 1)) (Tr.full 2)) (Tr.full 3)) (Tr.full 4))) (.node none (.node none (.node none (.node none
  (.node (some (.cells [(.bool false), (.slice (some ⟨798, 0, none⟩) 1 1), (.slice (some ⟨1063, 0,
  none⟩) 1 2)] 173 true false)) (Tr.full 1) (Tr.full 1)) (Tr.full 2)) (Tr.full 3)) (Tr.full 4)) (.node none (.node none (.node none (.node (some (.cells [(.bool false),
  (.slice (some ⟨1131, 0, none⟩) 1 1), (.slice none 0 0)] 34 true false)) (Tr.full 1) (Tr.full 1)) (Tr.full 2)) (Tr.full 3)) (.node none (Tr.full 3)
  (.node (some (.cells [(.bool false), (.slice none 0 0), (.slice none 0 0)] 34 true false)) (Tr.full 2) (Tr.full 2)))))) (.node none (.node none (.node none (.node none
  (.node none (.node (some (.cells [(.int .i64 (.ofNat 1)), (.int .i64 (.ofNat 0)), (.bool false), (.slice (some ⟨1075, 0, none⟩) 1 1), (.slice none 0 0), (.string ⟨⟨[]⟩⟩),
  (.slice none 0 0)] 37 true false)) (Tr.full 1) (Tr.full 1)) (Tr.full 2)) (Tr.full 3)) (Tr.full 4)) (.node none (.node none (.node none (.node (some (.cells [(.bool false),
  (.slice none 0 0), (.slice (some ⟨1096, 0, none⟩) 1 2), (.bool false), (.slice (some ⟨854, 0, none⟩) 1 1), (.slice (some ⟨1104, 0, none⟩) 1 2), (.bool false), (.bool false),
  (.bool false)] 175 true false)) (Tr.full 1) (Tr.full 1)) (Tr.full 2)) (.node (some (.cells [(.int .i64 (.ofNat 0)), (.int .i64 (.negSucc 0)), (.int .i64 (.ofNat 0)),
  (.int .i64 (.ofNat 5)), (.int .i64 (.ofNat 0)), (.bool false), (.slice none 0 0), (.slice none 0 0), (.string ⟨⟨[]⟩⟩), (.slice (some ⟨800, 0, none⟩) 2 2), (.bool true),
  (.slice (some ⟨859, 0, none⟩) 1 1), (.slice none 0 0), (.int .i64 (.ofNat 0)), (.int .i64 (.ofNat 0)), (.string ⟨⟨[]⟩⟩), (.string ⟨⟨[]⟩⟩), (.bool false), (.slice none 0 0),
  (.slice none 0 0), (.int .i64 (.ofNat 0)), (.int .i64 (.ofNat 0)), (.int .i64 (.ofNat 0)), (.int .i64 (.ofNat 0)), (.int .i64 (.ofNat 0)), (.bool false), (.slice none 0 0),
  (.slice none 0 0), (.string ⟨⟨[]⟩⟩), (.slice none 0 0), (.slice none 0 0), (.string ⟨⟨[]⟩⟩), (.int .i64 (.ofNat 0)), (.slice none 0 0), (.slice none 0 0), (.slice none 0 0),
  (.slice none 0 0), (.bool false), (.slice none 0 0)] 73 true true)) (Tr.full 2) (Tr.full 2))) (.node none (Tr.full 3) (.node (some (.cells [(.bool false), (.slice none 0 0),
  (.slice (some ⟨992, 0, none⟩) 1 2)] 173 true false)) (Tr.full 2) (Tr.full 2))))) (.node none (.node none (.node none (.node none
  (.node (some (.cells [(.int .i64 (.ofNat 0))] 45 true false)) (Tr.full 1) (Tr.full 1)) (Tr.full 2)) (Tr.full 3)) (Tr.full 4)) (.node none (Tr.full 4) (.node none (Tr.full 3)
  (.node (some (.cells [(.bool false), (.slice none 0 0), (.slice (some ⟨1015, 0, none⟩) 1 2)] 173 true false)) (Tr.full 2) (Tr.full 2)))))))))) (.node none (.node none
  (.node none (.node none (.node none (.node none (.node none (.node none (.node none (.node (some (.cells [(.bool false), (.slice none 0 0),
  (.slice none 0 0)] 34 true false)) (Tr.full 1) (Tr.full 1)) (Tr.full 2)) (Tr.full 3)) (Tr.full 4)) (.node none (.node none (.node none (.node (some (.cells [(.bool false),
  (.slice none 0 0), (.slice (some ⟨1096, 0, none⟩) 1 2), (.bool false), (.slice (some ⟨854, 0, none⟩) 1 1), (.slice (some ⟨1104, 0, none⟩) 1 2), (.bool false), (.bool false),
  (.bool false)] 175 true false)) (Tr.full 1) (Tr.full 1)) (Tr.full 2)) (Tr.full 3)) (Tr.full 4))) (.node none (.node none (.node none (.node none
  (.node (some (.cells [(.bool false), (.slice (some ⟨1075, 0, none⟩) 1 1), (.slice none 0 0)] 34 true false)) (Tr.full 1) (Tr.full 1)) (Tr.full 2))
  (.node (some (.cells [(.int .i64 (.ofNat 9)), (.int .i64 (.ofNat 2)), (.bool false), (.slice none 0 0), (.slice none 0 0), (.string ⟨⟨[]⟩⟩), (.slice (some ⟨772, 0, none⟩) 1 1),
  (.int .i64 (.ofNat 1)), (.int .i64 (.ofNat 0)), (.bool false), (.slice (some ⟨798, 0, none⟩) 1 1), (.slice none 0 0), (.string ⟨⟨[]⟩⟩),
  (.slice none 0 0)] 37 false true)) (Tr.full 2) (Tr.full 2))) (Tr.full 4)) (.node none (.node none (.node none (.node (some (.cells [(.bool false), (.slice none 0 0),
  (.slice (some ⟨1096, 0, none⟩) 1 2)] 173 true false)) (Tr.full 1) (Tr.full 1)) (Tr.full 2)) (.node (some (.cells [(.int .i64 (.ofNat 0))] 3 true true)) (Tr.full 2) (Tr.full 2)))
  (.node none (Tr.full 3) (.node (some (.cells [(.int .u32 (.ofNat 1)), (.int .u32 (.ofNat 0))] 227 true true)) (Tr.full 2) (Tr.full 2)))))) (.node none (.node none (.node none
  (.node none (.node none (.node (some (.cells [(.bool false), (.slice none 0 0), (.slice (some ⟨1038, 0,
  none⟩) 1 2)] 173 true false)) (Tr.full 1) (Tr.full 1)) (Tr.full 2)) (Tr.full 3)) (Tr.full 4)) (.node none (.node none (.node none (.node (some (.cells [(.int .u32 (.ofNat 1)),
  (.int .u32 (.ofNat 0))] 227 true true)) (Tr.full 1) (Tr.full 1)) (Tr.full 2)) (Tr.full 3)) (Tr.full 4))) (.node none (.node none (.node none (.node none
  (.node (some (.cells [(.bool false), (.slice (some ⟨798, 0, none⟩) 1 1), (.slice (some ⟨1063, 0,
  none⟩) 1 2)] 173 true false)) (Tr.full 1) (Tr.full 1)) (Tr.full 2)) (Tr.full 3)) (Tr.full 4)) (.node none (.node none (.node none (.node (some (.cells [(.string ⟨⟨[120]⟩⟩),
  (.bool false), (.slice none 0 0), (.slice none 0 0), (.bool false), (.slice (some ⟨1131, 0, none⟩) 1 1), (.slice none 0 0), (.bool false),
  (.bool false)] 122 true true)) (Tr.full 1) (Tr.full 1)) (Tr.full 2)) (Tr.full 3)) (.node none (Tr.full 3) (.node (some (.cells [(.bool false), (.slice none 0 0),
  (.slice none 0 0)] 34 true false)) (Tr.full 2) (Tr.full 2))))))) (.node none (.node none (.node none (.node none (.node none (.node none (.node (some (.cells [(.bool false),
  (.slice none 0 0), (.slice none 0 0)] 34 true false)) (Tr.full 1) (Tr.full 1)) (Tr.full 2)) (Tr.full 3)) (Tr.full 4)) (.node none (.node none (.node none
  (.node (some (.cells [(.int .u32 (.ofNat 1)), (.int .u32 (.ofNat 0))] 227 true true)) (Tr.full 1) (Tr.full 1)) (Tr.full 2)) (Tr.full 3)) (Tr.full 4))) (.node none (.node none
  (.node none (.node none (.node (some (.cells [(.bool false), (.slice (some ⟨798, 0, none⟩) 1 1), (.slice (some ⟨1063, 0,
  none⟩) 1 2)] 173 true false)) (Tr.full 1) (Tr.full 1)) (Tr.full 2)) (Tr.full 3)) (Tr.full 4)) (.node none (.node none (.node none (.node (some (.cells [(.bool false),
  (.slice (some ⟨854, 0, none⟩) 1 1), (.slice (some ⟨1104, 0, none⟩) 1 2)] 173 true false)) (Tr.full 1) (Tr.full 1)) (Tr.full 2)) (Tr.full 3)) (.node none (Tr.full 3)
  (.node (some (.cells [(.bool false), (.slice none 0 0), (.slice (some ⟨992, 0, none⟩) 1 2)] 173 true false)) (Tr.full 2) (Tr.full 2)))))) (.node none (.node none (.node none
  (.node none (.node none (.node (some (.cells [(.int .i64 (.ofNat 2)), (.int .i64 (.ofNat 0)), (.bool false), (.slice none 0 0), (.slice none 0 0), (.string ⟨⟨[120]⟩⟩),
  (.slice none 0 0)] 37 true true)) (Tr.full 1) (Tr.full 1)) (Tr.full 2)) (Tr.full 3)) (Tr.full 4)) (.node none (.node none (.node none (.node (some (.cells [(.bool false),
  (.slice (some ⟨854, 0, none⟩) 1 1), (.slice (some ⟨1104, 0, none⟩) 1 2)] 173 true false)) (Tr.full 1) (Tr.full 1)) (Tr.full 2)) (Tr.full 3)) (.node none (Tr.full 3)
  (.node (some (.cells [(.bool false), (.slice none 0 0), (.slice none 0 0)] 34 true false)) (Tr.full 2) (Tr.full 2))))) (.node none (.node none (.node none (.node none
  (.node (some (.cells [(.bool false), (.slice none 0 0), (.slice none 0 0), (.bool false), (.slice (some ⟨1131, 0, none⟩) 1 1), (.slice none 0 0), (.bool false),
  (.bool false)] 119 true false)) (Tr.full 1) (Tr.full 1)) (Tr.full 2)) (Tr.full 3)) (Tr.full 4)) (.node none (Tr.full 4) (.node none (Tr.full 3)
  (.node (some (.cells [(.bool false), (.slice none 0 0), (.slice (some ⟨1015, 0, none⟩) 1 2)] 173 true false)) (Tr.full 2) (Tr.full 2)))))))) (.node none (.node none (.node none
  (.node none (.node none (.node none (.node none (.node (some (.cells [(.bool false), (.slice none 0 0), (.slice none 0 0)] 34 true false)) (Tr.full 1) (Tr.full 1)) (Tr.full 2))
  (.node (some (.cells [(.int .i64 (.ofNat 2)), (.int .i64 (.ofNat 0)), (.bool false), (.slice none 0 0), (.slice none 0 0), (.string ⟨⟨[120]⟩⟩),
  (.slice none 0 0)] 37 true true)) (Tr.full 2) (Tr.full 2))) (Tr.full 4)) (.node none (.node none (.node none (.node (some (.cells [(.bool false), (.slice none 0 0),
  (.slice none 0 0)] 34 true false)) (Tr.full 1) (Tr.full 1)) (Tr.full 2)) (Tr.full 3)) (Tr.full 4))) (.node none (.node none (.node none (.node none
  (.node (some (.cells [(.bool false), (.slice (some ⟨1075, 0, none⟩) 1 1), (.slice none 0 0)] 34 true false)) (Tr.full 1) (Tr.full 1)) (Tr.full 2)) (Tr.full 3)) (Tr.full 4))
  (.node none (.node none (.node none (.node (some (.cells [(.bool false), (.slice none 0 0), (.slice none 0 0)] 34 true false)) (Tr.full 1) (Tr.full 1)) (Tr.full 2))
  (.node (some (.cells [(.int .i64 (.ofNat 1)), (.int .i64 (.ofNat 0)), (.int .i64 (.ofNat 0))] 23 true false)) (Tr.full 2) (Tr.full 2))) (.node none (Tr.full 3)
  (.node (some (.cells [(.bool false), (.slice none 0 0), (.slice (some ⟨992, 0, none⟩) 1 2)] 173 true false)) (Tr.full 2) (Tr.full 2)))))) (.node none (.node none (.node none
  (.node none (.node none (.node (some (.cells [(.bool false), (.slice none 0 0), (.slice (some ⟨1038, 0,
  none⟩) 1 2)] 173 true false)) (Tr.full 1) (Tr.full 1)) (Tr.full 2)) (Tr.full 3)) (Tr.full 4)) (.node none (.node none (.node none (.node (some (.cells [(.bool false),
  (.slice (some ⟨854, 0, none⟩) 1 1), (.slice (some ⟨1104, 0, none⟩) 1 2)] 173 true false)) (Tr.full 1) (Tr.full 1)) (Tr.full 2)) (Tr.full 3)) (.node none (Tr.full 3)
  (.node (some (.cells [(.int .i64 (.ofNat 5)), (.int .i64 (.ofNat 0)), (.bool false), (.slice none 0 0), (.slice none 0 0), (.string ⟨⟨[]⟩⟩), (.slice (some ⟨1077, 0,
  none⟩) 2 2)] 37 true false)) (Tr.full 2) (Tr.full 2))))) (.node none (.node none (.node none (.node none (.node (some (.cells [(.int .i64 (.ofNat 1)), (.int .i64 (.ofNat 0)),
  (.bool false), (.slice (some ⟨1075, 0, none⟩) 1 1), (.slice none 0 0), (.string ⟨⟨[]⟩⟩),
  (.slice none 0 0)] 37 true true)) (Tr.full 1) (Tr.full 1)) (Tr.full 2)) (Tr.full 3)) (Tr.full 4)) (.node none (.node none (.node none
  (.node (some (.cells [(.int .i64 (.ofNat 1)), (.string ⟨⟨[]⟩⟩), (.string ⟨⟨[]⟩⟩), (.bool false), (.slice none 0 0), (.slice none 0 0), (.int .i64 (.ofNat 0)),
  (.int .i64 (.ofNat 0)), (.int .i64 (.ofNat 0)), (.int .i64 (.ofNat 0)), (.int .i64 (.ofNat 0)), (.bool false), (.slice none 0 0), (.slice none 0 0), (.string ⟨⟨[]⟩⟩),
  (.slice none 0 0), (.slice none 0 0), (.string ⟨⟨[]⟩⟩), (.int .i64 (.ofNat 0)), (.slice none 0 0), (.slice (some ⟨1141, 0,
  none⟩) 0 0)] 42 true false)) (Tr.full 1) (Tr.full 1)) (Tr.full 2)) (Tr.full 3)) (.node none (Tr.full 3) (.node (some (.cells [(.bool false), (.slice none 0 0),
  (.slice (some ⟨1015, 0, none⟩) 1 2)] 173 true false)) (Tr.full 2) (Tr.full 2))))))) (.node none (.node none (.node none (.node none (.node none (.node none
  (.node (some (.cells [(.int .u32 (.ofNat 1)), (.int .u32 (.ofNat 0))] 227 true true)) (Tr.full 1) (Tr.full 1)) (Tr.full 2)) (Tr.full 3)) (Tr.full 4)) (.node none (.node none
  (.node (some (.cells [(.int .i64 (.ofNat 5)), (.int .i64 (.ofNat 0)), (.bool false), (.slice none 0 0), (.slice none 0 0), (.string ⟨⟨[]⟩⟩), (.slice (some ⟨177, 0, none⟩) 2 2),
  (.bool true), (.slice (some ⟨586, 0, none⟩) 1 1), (.slice none 0 0)] 51 true false)) (.node (some (.cells [(.bool false), (.slice (some ⟨854, 0, none⟩) 1 1),
  (.slice none 0 0)] 34 true false)) (Tr.full 1) (Tr.full 1)) (Tr.full 2)) (Tr.full 3)) (Tr.full 4))) (.node none (.node none (.node none (.node none
  (.node (some (.cells [(.bool false), (.slice (some ⟨798, 0, none⟩) 1 1), (.slice (some ⟨1063, 0,
  none⟩) 1 2)] 173 true false)) (Tr.full 1) (Tr.full 1)) (Tr.full 2)) (Tr.full 3)) (Tr.full 4)) (.node none (.node none (.node none (.node (some (.cells [(.bool false),
  (.slice (some ⟨1131, 0, none⟩) 1 1), (.slice none 0 0)] 34 true false)) (Tr.full 1) (Tr.full 1)) (Tr.full 2)) (Tr.full 3)) (.node none (Tr.full 3)
  (.node (some (.cells [(.int .i64 (.ofNat 9)), (.int .i64 (.ofNat 2)), (.bool false), (.slice none 0 0), (.slice none 0 0), (.string ⟨⟨[]⟩⟩), (.slice (some ⟨1049, 0,
  none⟩) 1 1)] 37 true false)) (Tr.full 2) (Tr.full 2)))))) (.node none (.node none (.node none (.node none (.node none (.node (some (.cells [(.int .i64 (.ofNat 1)),
  (.int .i64 (.ofNat 0)), (.bool false), (.slice (some ⟨798, 0, none⟩) 1 1), (.slice none 0 0), (.string ⟨⟨[]⟩⟩),
  (.slice none 0 0)] 37 true false)) (Tr.full 1) (Tr.full 1)) (Tr.full 2)) (Tr.full 3)) (Tr.full 4)) (.node none (.node none (.node none (.node (some (.cells [(.bool false),
  (.slice none 0 0), (.slice (some ⟨1096, 0, none⟩) 1 2), (.bool false), (.slice (some ⟨854, 0, none⟩) 1 1), (.slice (some ⟨1104, 0, none⟩) 1 2), (.bool false), (.bool false),
  (.bool false)] 175 true false)) (Tr.full 1) (Tr.full 1)) (Tr.full 2)) (Tr.full 3)) (.node none (Tr.full 3) (.node (some (.cells [(.bool false), (.slice none 0 0),
  (.slice none 0 0)] 34 true false)) (Tr.full 2) (Tr.full 2))))) (.node none (.node none (.node none (.node none (.node (some (.cells [(.bool false), (.slice none 0 0),
  (.slice none 0 0), (.bool false), (.slice (some ⟨1131, 0, none⟩) 1 1), (.slice none 0 0), (.bool false),
  (.bool false)] 119 true false)) (Tr.full 1) (Tr.full 1)) (Tr.full 2)) (Tr.full 3)) (Tr.full 4)) (.node none (Tr.full 4) (.node none (Tr.full 3)
  (.node (some (.cells [(.bool false), (.slice none 0 0), (.slice (some ⟨1015, 0, none⟩) 1 2)] 173 true false)) (Tr.full 2) (Tr.full 2))))))))) (.node none (.node none (.node none
  (.node none (.node none (.node none (.node none (.node none (.node (some (.cells [(.int .i64 (.ofNat 2)), (.int .i64 (.ofNat 0)), (.bool false), (.slice none 0 0),
  (.slice none 0 0), (.string ⟨⟨[120]⟩⟩), (.slice none 0 0)] 37 true false)) (Tr.full 1) (Tr.full 1)) (Tr.full 2)) (Tr.full 3)) (Tr.full 4)) (.node none (.node none (.node none
  (.node (some (.cells [(.bool false), (.slice none 0 0), (.slice none 0 0)] 34 true false)) (Tr.full 1) (Tr.full 1)) (Tr.full 2)) (Tr.full 3)) (Tr.full 4))) (.node none
  (.node (some (.cells [(.int .u32 (.ofNat 1))] 227 true true)) (.node none (.node none (.node (some (.cells [(.bool false), (.slice (some ⟨1075, 0, none⟩) 1 1),
  (.slice none 0 0)] 34 true false)) (Tr.full 1) (Tr.full 1)) (Tr.full 2)) (Tr.full 3)) (Tr.full 4)) (.node none (.node none (.node none (.node (some (.cells [(.bool false),
  (.slice none 0 0), (.slice (some ⟨1096, 0, none⟩) 1 2)] 173 true false)) (Tr.full 1) (Tr.full 1)) (Tr.full 2)) (.node (some (.cells [(.int .i64 (.ofNat 0)),
  (.int .i64 (.ofNat 0)), (.string ⟨⟨[]⟩⟩), (.string ⟨⟨[]⟩⟩), (.bool false), (.slice none 0 0), (.slice none 0 0), (.int .i64 (.ofNat 0)), (.int .i64 (.ofNat 0)),
  (.int .i64 (.ofNat 0)), (.int .i64 (.ofNat 0)), (.int .i64 (.ofNat 0)), (.bool false), (.slice none 0 0), (.slice none 0 0), (.string ⟨⟨[]⟩⟩), (.slice none 0 0),
  (.slice none 0 0), (.string ⟨⟨[]⟩⟩), (.int .i64 (.ofNat 0)), (.slice none 0 0), (.slice none 0 0), (.slice none 0 0),
  (.slice none 0 0)] 55 true false)) (Tr.full 2) (Tr.full 2))) (.node none (Tr.full 3) (.node (some (.cells [(.bool false), (.slice none 0 0), (.slice (some ⟨992, 0,
  none⟩) 1 2)] 173 true false)) (Tr.full 2) (Tr.full 2)))))) (.node none (.node none (.node none (.node none (.node none (.node (some (.cells [(.bool false), (.slice none 0 0),
  (.slice (some ⟨1038, 0, none⟩) 1 2)] 173 true false)) (Tr.full 1) (Tr.full 1)) (Tr.full 2)) (Tr.full 3)) (Tr.full 4)) (.node none (.node none (.node none
  (.node (some (.cells [(.bool false), (.slice (some ⟨854, 0, none⟩) 1 1), (.slice (some ⟨1104, 0, none⟩) 1 2)] 173 true false)) (Tr.full 1) (Tr.full 1)) (Tr.full 2)) (Tr.full 3))
  (.node none (Tr.full 3) (.node (some (.cells [(.int .i64 (.ofNat 5)), (.int .i64 (.ofNat 0)), (.bool false), (.slice none 0 0), (.slice none 0 0), (.string ⟨⟨[]⟩⟩),
  (.slice (some ⟨1077, 0, none⟩) 2 2), (.bool true), (.slice (some ⟨1136, 0, none⟩) 1 1), (.slice none 0 0)] 51 true false)) (Tr.full 2) (Tr.full 2))))) (.node none (.node none
  (.node none (.node none (.node (some (.cells [] 227 false false)) (Tr.full 1) (Tr.full 1)) (Tr.full 2)) (Tr.full 3)) (Tr.full 4)) (.node none (.node none (.node none
  (.node (some (.cells [(.func (.func 34) ⟨[(.pointer (some ⟨1137, 0, none⟩))]⟩ ⟨[]⟩), (.func (.func 35) ⟨[(.pointer (some ⟨1137, 0, none⟩))]⟩ ⟨[]⟩),
  (.func (.func 36) ⟨[(.pointer (some ⟨1137, 0, none⟩))]⟩ ⟨[]⟩), (.func (.func 37) ⟨[(.pointer (some ⟨1137, 0, none⟩))]⟩ ⟨[]⟩), (.func (.func 38) ⟨[(.pointer (some ⟨1137, 0,
  none⟩))]⟩ ⟨[]⟩), (.func (.func 39) ⟨[(.pointer (some ⟨1137, 0, none⟩))]⟩ ⟨[]⟩), (.func (.func 40) ⟨[(.pointer (some ⟨1137, 0, none⟩))]⟩ ⟨[]⟩),
  (.func (.func 41) ⟨[(.pointer (some ⟨1137, 0, none⟩))]⟩ ⟨[]⟩), (.func (.func 42) ⟨[(.pointer (some ⟨1137, 0, none⟩))]⟩ ⟨[]⟩), (.func (.func 43) ⟨[(.pointer (some ⟨1137, 0,
  none⟩))]⟩ ⟨[]⟩), (.func (.func 44) ⟨[(.pointer (some ⟨1137, 0, none⟩))]⟩ ⟨[]⟩)] 25 true true)) (Tr.full 1) (Tr.full 1)) (Tr.full 2)) (Tr.full 3)) (.node none (Tr.full 3)
  (.node (some (.cells [(.bool false), (.slice none 0 0), (.slice none 0 0)] 34 true false)) (Tr.full 2) (Tr.full 2))))))) (.node none (.node none (.node none (.node none
  (.node none (.node none (.node (some (.cells [(.bool false), (.slice none 0 0),
  (.slice none 0 0)] 34 true false)) (Tr.full 1) (Tr.full 1)) (Tr.full 2)) (Tr.full 3)) (Tr.full 4)) (.node none (.node none (.node (some (.cells [(.string ⟨⟨[120]⟩⟩),
  (.bool false), (.slice none 0 0), (.slice none 0 0), (.bool false), (.slice (some ⟨582, 0, none⟩) 1 1), (.slice none 0 0), (.bool false), (.bool false)] 122 true true))
  (.node (some (.cells [(.bool false), (.slice none 0 0), (.slice (some ⟨1096, 0, none⟩) 1 2)] 173 true false)) (Tr.full 1) (Tr.full 1)) (Tr.full 2)) (Tr.full 3)) (Tr.full 4)))
  (.node none (.node none (.node none (.node none (.node (some (.cells [(.bool false), (.slice (some ⟨798, 0, none⟩) 1 1), (.slice (some ⟨1063, 0,
  none⟩) 1 2)] 173 true false)) (Tr.full 1) (Tr.full 1)) (Tr.full 2)) (Tr.full 3)) (Tr.full 4)) (.node none (.node none (.node none
  (.node (some (.cells [] 227 false false)) (Tr.full 1) (Tr.full 1)) (Tr.full 2)) (Tr.full 3)) (.node none (Tr.full 3) (.node (some (.cells [(.int .i64 (.ofNat 9)),
  (.int .i64 (.ofNat 2)), (.bool false), (.slice none 0 0), (.slice none 0 0), (.string ⟨⟨[]⟩⟩), (.slice (some ⟨772, 0, none⟩) 1 1)] 37 true false)) (Tr.full 2) (Tr.full 2))))))
  (.node none (.node none (.node none (.node none (.node none (.node (some (.cells [(.int .i64 (.ofNat 9)), (.int .i64 (.ofNat 2)), (.bool false), (.slice none 0 0),
  (.slice none 0 0), (.string ⟨⟨[]⟩⟩), (.slice (some ⟨1049, 0, none⟩) 1 1)] 37 true true)) (Tr.full 1) (Tr.full 1)) (Tr.full 2)) (Tr.full 3)) (Tr.full 4)) (.node none (.node none
  (.node none (.node (some (.cells [(.bool false), (.slice (some ⟨854, 0, none⟩) 1 1), (.slice (some ⟨1104, 0,
  none⟩) 1 2)] 173 true false)) (Tr.full 1) (Tr.full 1)) (Tr.full 2)) (Tr.full 3)) (.node none (Tr.full 3) (.node (some (.cells [(.bool false), (.slice none 0 0),
  (.slice none 0 0)] 34 true false)) (Tr.full 2) (Tr.full 2))))) (.node none (.node none (.node none (.node none
  (.node (some (.cells [(.func (.func 94) ⟨[]⟩ ⟨[]⟩)] 176 true false)) (Tr.full 1) (Tr.full 1)) (Tr.full 2)) (Tr.full 3)) (Tr.full 4)) (.node none (Tr.full 4)
  (.node none (Tr.full 3) (.node (some (.cells [(.bool false), (.slice none 0 0), (.slice (some ⟨1015, 0, none⟩) 1 2)] 173 true false)) (Tr.full 2) (Tr.full 2)))))))) (.node none
  (.node none (.node none (.node none (.node none (.node none (.node none (.node (some (.cells [(.bool false), (.slice none 0 0),
  (.slice none 0 0)] 34 true false)) (Tr.full 1) (Tr.full 1)) (Tr.full 2)) (Tr.full 3)) (Tr.full 4)) (.node none (.node none
  (.node (some (.cells [(.int .u32 (.ofNat 2))] 227 true true)) (.node (some (.cells [(.int .u32 (.ofNat 1)),
  (.int .u32 (.ofNat 0))] 227 true true)) (Tr.full 1) (Tr.full 1)) (Tr.full 2)) (Tr.full 3)) (Tr.full 4))) (.node none (.node none (.node none (.node none
  (.node (some (.cells [(.bool false), (.slice (some ⟨798, 0, none⟩) 1 1), (.slice (some ⟨1063, 0,
  none⟩) 1 2)] 173 true false)) (Tr.full 1) (Tr.full 1)) (Tr.full 2)) (Tr.full 3)) (Tr.full 4)) (.node none (.node none (.node none (.node (some (.cells [(.bool false),
  (.slice (some ⟨854, 0, none⟩) 1 1), (.slice (some ⟨1104, 0, none⟩) 1 2)] 173 true false)) (Tr.full 1) (Tr.full 1)) (Tr.full 2)) (Tr.full 3)) (.node none (Tr.full 3)
  (.node (some (.cells [(.bool false), (.slice none 0 0), (.slice (some ⟨992, 0, none⟩) 1 2)] 173 true false)) (Tr.full 2) (Tr.full 2)))))) (.node none (.node none (.node none
  (.node none (.node none (.node (some (.cells [(.bool false), (.slice none 0 0), (.slice (some ⟨1038, 0,
  none⟩) 1 2)] 173 true false)) (Tr.full 1) (Tr.full 1)) (Tr.full 2)) (Tr.full 3)) (Tr.full 4)) (.node none (.node none (.node none (.node (some (.cells [(.bool false),
  (.slice (some ⟨854, 0, none⟩) 1 1), (.slice (some ⟨1104, 0, none⟩) 1 2)] 173 true false)) (Tr.full 1) (Tr.full 1)) (Tr.full 2))
  (.node (some (.cells [(.int .u32 (.ofNat 2))] 227 false true)) (Tr.full 2) (Tr.full 2))) (.node none (Tr.full 3) (.node (some (.cells [(.bool false), (.slice none 0 0),
  (.slice none 0 0)] 34 true false)) (Tr.full 2) (Tr.full 2))))) (.node none (.node none (.node none (.node none (.node (some (.cells [(.string ⟨⟨[120]⟩⟩), (.bool false),
  (.slice none 0 0), (.slice none 0 0), (.bool false), (.slice (some ⟨854, 0, none⟩) 1 1), (.slice none 0 0), (.bool false),
  (.bool false)] 122 true false)) (Tr.full 1) (Tr.full 1)) (Tr.full 2)) (Tr.full 3)) (Tr.full 4)) (.node none (Tr.full 4) (.node none (Tr.full 3)
  (.node (some (.cells [(.bool false), (.slice none 0 0), (.slice (some ⟨1015, 0, none⟩) 1 2)] 173 true false)) (Tr.full 2) (Tr.full 2))))))) (.node none (.node none (.node none
  (.node none (.node none (.node none (.node (some (.cells [(.int .u32 (.ofNat 1)),
  (.int .u32 (.ofNat 0))] 227 true true)) (Tr.full 1) (Tr.full 1)) (Tr.full 2)) (Tr.full 3)) (Tr.full 4)) (.node none (.node none (.node (some (.cells [(.int .i64 (.ofNat 0)),
  (.int .i64 (.ofNat 0)), (.int .i64 (.ofNat 0)), (.string ⟨⟨[]⟩⟩), (.string ⟨⟨[]⟩⟩), (.bool false), (.slice none 0 0), (.slice none 0 0), (.int .i64 (.ofNat 0)),
  (.int .i64 (.ofNat 0)), (.int .i64 (.ofNat 0)), (.int .i64 (.ofNat 0)), (.int .i64 (.ofNat 0)), (.bool false), (.slice none 0 0), (.slice none 0 0), (.string ⟨⟨[]⟩⟩),
  (.slice none 0 0), (.slice none 0 0), (.string ⟨⟨[]⟩⟩), (.int .i64 (.ofNat 0)), (.slice none 0 0), (.slice none 0 0), (.slice none 0 0)] 44 true false))
  (.node (some (.cells [(.bool false), (.slice (some ⟨854, 0, none⟩) 1 1), (.slice none 0 0)] 34 true false)) (Tr.full 1) (Tr.full 1)) (Tr.full 2)) (Tr.full 3)) (Tr.full 4)))
  (.node none (.node none (.node none (.node none (.node (some (.cells [(.bool false), (.slice (some ⟨798, 0, none⟩) 1 1), (.slice (some ⟨1063, 0,
  none⟩) 1 2)] 173 true false)) (Tr.full 1) (Tr.full 1)) (Tr.full 2)) (Tr.full 3)) (Tr.full 4)) (.node none (.node none (.node none (.node (some (.cells [(.bool false),
  (.slice none 0 0), (.slice none 0 0), (.bool false), (.slice (some ⟨1131, 0, none⟩) 1 1), (.slice none 0 0), (.bool false),
  (.bool false)] 119 true false)) (Tr.full 1) (Tr.full 1)) (Tr.full 2)) (Tr.full 3)) (.node none (Tr.full 3) (.node (some (.cells [(.bool false), (.slice none 0 0),
  (.slice none 0 0)] 34 true false)) (Tr.full 2) (Tr.full 2)))))) (.node none (.node none (.node none (.node none (.node none (.node (some (.cells [(.int .i64 (.ofNat 1)),
  (.int .i64 (.ofNat 0)), (.bool false), (.slice (some ⟨1075, 0, none⟩) 1 1), (.slice none 0 0), (.string ⟨⟨[]⟩⟩),
  (.slice none 0 0)] 37 true false)) (Tr.full 1) (Tr.full 1)) (Tr.full 2)) (.node (some (.cells [(.int .u32 (.ofNat 1))] 227 false true)) (Tr.full 2) (Tr.full 2))) (Tr.full 4))
  (.node none (.node none (.node none (.node (some (.cells [(.bool false), (.slice none 0 0), (.slice none 0 0), (.bool false), (.slice (some ⟨1131, 0, none⟩) 1 1),
  (.slice none 0 0), (.bool false), (.bool false)] 119 true false)) (Tr.full 1) (Tr.full 1)) (Tr.full 2)) (.node (some (.cells [(.int .i64 (.ofNat 1)), (.int .i64 (.ofNat 0)),
  (.int .i64 (.ofNat 0)), (.slice (some ⟨861, 0, none⟩) 1 1), (.int .i64 (.ofNat 1)), (.bool false)] 29 true false)) (Tr.full 2) (Tr.full 2))) (.node none (Tr.full 3)
  (.node (some (.cells [(.int .u32 (.ofNat 1)), (.int .u32 (.ofNat 0))] 227 true true)) (Tr.full 2) (Tr.full 2))))) (.node none (.node none (.node none (.node none
  (.node (some (.cells [(.bool false), (.slice none 0 0), (.slice none 0 0), (.bool false), (.slice (some ⟨1131, 0, none⟩) 1 1), (.slice none 0 0), (.bool false),
  (.bool false)] 119 true false)) (Tr.full 1) (Tr.full 1)) (Tr.full 2)) (Tr.full 3)) (Tr.full 4)) (.node none (Tr.full 4) (.node none (Tr.full 3)
  (.node (some (.cells [(.bool false), (.slice none 0 0), (.slice none 0 0)] 34 true false)) (Tr.full 2) (Tr.full 2))))))))))), 1928⟩
noncomputable def entAtt : Entry where
  f := 20
  args := [(.agg ⟨[(.int .i64 (.ofNat 5)), (.int .i64 (.ofNat 0)), (.bool false), (.slice none 0 0), (.slice none 0 0), (.string ⟨⟨[]⟩⟩), (.slice (some ⟨800, 0, none⟩) 2 2), (.bool true),
  (.slice (some ⟨859, 0, none⟩) 1 1), (.slice none 0 0)]⟩), (.agg ⟨[(.int .i64 (.ofNat 1)), (.int .i64 (.ofNat 0)), (.int .i64 (.ofNat 0))]⟩)]
  H := ⟨(.node (some (.cells [(.int .u8 (.ofNat 0)), (.int .u8 (.ofNat 1)), (.int .u8 (.ofNat 28)), (.int .u8 (.ofNat 2)), (.int .u8 (.ofNat 29)), (.int .u8 (.ofNat 14)),
  (.int .u8 (.ofNat 24)), (.int .u8 (.ofNat 3)), (.int .u8 (.ofNat 30)), (.int .u8 (.ofNat 22)), (.int .u8 (.ofNat 20)), (.int .u8 (.ofNat 15)), (.int .u8 (.ofNat 25)),
  (.int .u8 (.ofNat 17)), (.int .u8 (.ofNat 4)), (.int .u8 (.ofNat 8)), (.int .u8 (.ofNat 31)), (.int .u8 (.ofNat 27)), (.int .u8 (.ofNat 13)), (.int .u8 (.ofNat 23)),
  (.int .u8 (.ofNat 21)), (.int .u8 (.ofNat 19)), (.int .u8 (.ofNat 16)), (.int .u8 (.ofNat 7)), (.int .u8 (.ofNat 26)), (.int .u8 (.ofNat 12)), (.int .u8 (.ofNat 18)),
  (.int .u8 (.ofNat 6)), (.int .u8 (.ofNat 11)), (.int .u8 (.ofNat 5)), (.int .u8 (.ofNat 10)), (.int .u8 (.ofNat 9))] 363 false false)) (.node none (.node none (.node none
  (.node none (.node none (Tr.full 6) (.node none (Tr.full 5) (.node none (.node none (Tr.full 3) (.node (some (.cells [(.pointer (some ⟨862, 0,
  none⟩))] 26 true false)) (Tr.full 2) (Tr.full 2))) (Tr.full 4)))) (Tr.full 7)) (Tr.full 8)) (.node none (Tr.full 8) (.node none (Tr.full 7) (.node none (.node none (Tr.full 5)
  (.node none (.node none (Tr.full 3) (.node (some (.cells [(.string ⟨⟨[120]⟩⟩), (.bool false), (.slice none 0 0), (.slice none 0 0), (.bool false), (.slice (some ⟨854, 0,
  none⟩) 1 1), (.slice none 0 0), (.bool false), (.bool false)] 122 true true)) (Tr.full 2) (Tr.full 2))) (Tr.full 4))) (.node (some (.cells [(.int .i64 (.ofNat 2)),
  (.int .i64 (.ofNat 0)), (.bool false), (.slice none 0 0), (.slice none 0 0), (.string ⟨⟨[120]⟩⟩), (.slice none 0 0)] 37 true true)) (Tr.full 5) (Tr.full 5)))))) (.node none
  (.node none (.node none (.node none (Tr.full 6) (.node none (Tr.full 5) (.node none (.node none (Tr.full 3)
  (.node (some (.cells [(.int .i64 (.ofNat 0))] 3 true true)) (Tr.full 2) (Tr.full 2))) (Tr.full 4)))) (.node none (Tr.full 6) (.node none
  (.node (some (.cells [(.int .i64 (.ofNat 9)), (.int .i64 (.ofNat 2)), (.bool false), (.slice none 0 0), (.slice none 0 0), (.string ⟨⟨[]⟩⟩), (.slice (some ⟨123, 0, none⟩) 1 1),
  (.int .i64 (.ofNat 1)), (.int .i64 (.ofNat 0)), (.bool false), (.slice (some ⟨162, 0, none⟩) 1 1), (.slice none 0 0), (.string ⟨⟨[]⟩⟩),
  (.slice none 0 0)] 37 true true)) (Tr.full 4) (Tr.full 4)) (Tr.full 5)))) (Tr.full 8)) (.node none (Tr.full 8) (.node none (.node none (.node none (Tr.full 5) (.node none
  (.node none (.node (some (.cells [(.int .i64 (.ofNat 1)), (.int .i64 (.ofNat 0)),
  (.int .i64 (.ofNat 0))] 23 true false)) (Tr.full 2) (Tr.full 2)) (Tr.full 3)) (Tr.full 4))) (Tr.full 6)) (.node none (.node none (Tr.full 5) (.node none (.node none (Tr.full 3)
  (.node (some (.cells [(.int .i64 (.ofNat 0)), (.int .i64 (.negSucc 0)), (.int .i64 (.ofNat 0)), (.int .i64 (.ofNat 5)), (.int .i64 (.ofNat 0)), (.bool false), (.slice none 0 0),
  (.slice none 0 0), (.string ⟨⟨[]⟩⟩), (.slice (some ⟨800, 0, none⟩) 2 2), (.bool true), (.slice (some ⟨859, 0, none⟩) 1 1), (.slice none 0 0), (.int .i64 (.ofNat 0)),
  (.int .i64 (.ofNat 0)), (.string ⟨⟨[]⟩⟩), (.string ⟨⟨[]⟩⟩), (.bool false), (.slice none 0 0), (.slice none 0 0), (.int .i64 (.ofNat 0)), (.int .i64 (.ofNat 0)),
  (.int .i64 (.ofNat 0)), (.int .i64 (.ofNat 0)), (.int .i64 (.ofNat 0)), (.bool false), (.slice none 0 0), (.slice none 0 0), (.string ⟨⟨[]⟩⟩), (.slice none 0 0),
  (.slice none 0 0), (.string ⟨⟨[]⟩⟩), (.int .i64 (.ofNat 0)), (.slice none 0 0), (.slice none 0 0), (.slice none 0 0), (.slice none 0 0), (.bool false),
  (.slice none 0 0)] 73 true true)) (Tr.full 2) (Tr.full 2))) (Tr.full 4))) (Tr.full 6)))))) (.node none (.node none (.node none (.node none (.node none (Tr.full 6) (.node none
  (.node none (.node none (Tr.full 3) (.node (some (.cells [(.int .i64 (.ofNat 9)), (.int .i64 (.ofNat 2)), (.bool false), (.slice none 0 0), (.slice none 0 0), (.string ⟨⟨[]⟩⟩),
  (.slice (some ⟨772, 0, none⟩) 1 1), (.int .i64 (.ofNat 1)), (.int .i64 (.ofNat 0)), (.bool false), (.slice (some ⟨798, 0, none⟩) 1 1), (.slice none 0 0), (.string ⟨⟨[]⟩⟩),
  (.slice none 0 0)] 37 false true)) (Tr.full 2) (Tr.full 2))) (Tr.full 4)) (.node none (.node none (Tr.full 3)
  (.node (some (.cells [(.int .i64 (.ofNat 0))] 3 true true)) (Tr.full 2) (Tr.full 2))) (Tr.full 4)))) (Tr.full 7)) (Tr.full 8)) (.node none (.node none (.node none (.node none
  (.node none (.node none (Tr.full 3) (.node (some (.cells [(.int .i64 (.ofNat 2)), (.int .i64 (.ofNat 0)), (.bool false), (.slice none 0 0), (.slice none 0 0),
  (.string ⟨⟨[120]⟩⟩), (.slice none 0 0)] 37 true true)) (Tr.full 2) (Tr.full 2))) (Tr.full 4)) (Tr.full 5)) (Tr.full 6)) (Tr.full 7)) (.node none (.node none
  (.node none (Tr.full 5) (.node none (.node none (.node (some (.cells [(.int .i64 (.ofNat 5)), (.int .i64 (.ofNat 0)), (.bool false), (.slice none 0 0), (.slice none 0 0),
  (.string ⟨⟨[]⟩⟩), (.slice (some ⟨177, 0, none⟩) 2 2), (.bool true), (.slice (some ⟨586, 0, none⟩) 1 1),
  (.slice none 0 0)] 51 true false)) (Tr.full 2) (Tr.full 2)) (Tr.full 3)) (Tr.full 4))) (Tr.full 6)) (Tr.full 7)))) (.node none (.node none (.node none (.node none (Tr.full 6)
  (.node none (.node (some (.cells [(.int .u32 (.ofNat 1))] 227 true true)) (Tr.full 4) (Tr.full 4)) (.node none (.node none (Tr.full 3)
  (.node (some (.cells [(.int .i64 (.ofNat 0)), (.int .i64 (.ofNat 0)), (.string ⟨⟨[]⟩⟩), (.string ⟨⟨[]⟩⟩), (.bool false), (.slice none 0 0), (.slice none 0 0),
  (.int .i64 (.ofNat 0)), (.int .i64 (.ofNat 0)), (.int .i64 (.ofNat 0)), (.int .i64 (.ofNat 0)), (.int .i64 (.ofNat 0)), (.bool false), (.slice none 0 0), (.slice none 0 0),
  (.string ⟨⟨[]⟩⟩), (.slice none 0 0), (.slice none 0 0), (.string ⟨⟨[]⟩⟩), (.int .i64 (.ofNat 0)), (.slice none 0 0), (.slice none 0 0), (.slice none 0 0),
  (.slice none 0 0)] 55 true false)) (Tr.full 2) (Tr.full 2))) (Tr.full 4)))) (Tr.full 7)) (.node none (.node none (.node none (Tr.full 5) (.node none (.node none
  (.node (some (.cells [(.string ⟨⟨[120]⟩⟩), (.bool false), (.slice none 0 0), (.slice none 0 0), (.bool false), (.slice (some ⟨582, 0, none⟩) 1 1), (.slice none 0 0),
  (.bool false), (.bool false)] 122 true true)) (Tr.full 2) (Tr.full 2)) (Tr.full 3)) (Tr.full 4))) (Tr.full 6)) (Tr.full 7))) (.node none (.node none (.node none
  (.node none (Tr.full 5) (.node none (.node none (.node (some (.cells [(.int .u32 (.ofNat 2))] 227 true true)) (Tr.full 2) (Tr.full 2)) (Tr.full 3)) (Tr.full 4))) (Tr.full 6))
  (.node none (.node none (Tr.full 5) (.node none (.node none (Tr.full 3)
  (.node (some (.cells [(.int .u32 (.ofNat 2))] 227 false true)) (Tr.full 2) (Tr.full 2))) (Tr.full 4))) (Tr.full 6))) (.node none (.node none (.node none (Tr.full 5) (.node none
  (.node none (.node (some (.cells [(.int .i64 (.ofNat 0)), (.int .i64 (.ofNat 0)), (.int .i64 (.ofNat 0)), (.string ⟨⟨[]⟩⟩), (.string ⟨⟨[]⟩⟩), (.bool false), (.slice none 0 0),
  (.slice none 0 0), (.int .i64 (.ofNat 0)), (.int .i64 (.ofNat 0)), (.int .i64 (.ofNat 0)), (.int .i64 (.ofNat 0)), (.int .i64 (.ofNat 0)), (.bool false), (.slice none 0 0),
  (.slice none 0 0), (.string ⟨⟨[]⟩⟩), (.slice none 0 0), (.slice none 0 0), (.string ⟨⟨[]⟩⟩), (.int .i64 (.ofNat 0)), (.slice none 0 0), (.slice none 0 0),
  (.slice none 0 0)] 44 true false)) (Tr.full 2) (Tr.full 2)) (Tr.full 3)) (Tr.full 4))) (Tr.full 6)) (.node none (.node none (.node none (.node none (Tr.full 3)
  (.node (some (.cells [(.int .u32 (.ofNat 1))] 227 false true)) (Tr.full 2) (Tr.full 2))) (Tr.full 4)) (.node none (.node none (Tr.full 3)
  (.node (some (.cells [(.int .i64 (.ofNat 1)), (.int .i64 (.ofNat 0)), (.int .i64 (.ofNat 0)), (.slice (some ⟨861, 0, none⟩) 1 1), (.int .i64 (.ofNat 1)),
  (.bool false)] 29 true false)) (Tr.full 2) (Tr.full 2))) (Tr.full 4))) (Tr.full 6))))))), 867⟩
  v := (.tuple ⟨[(.agg ⟨[(.int .i64 (.ofNat 1)), (.int .i64 (.ofNat 1)), (.string ⟨⟨[]⟩⟩), (.string ⟨⟨[]⟩⟩), (.bool false), (.slice none 0 0), (.slice none 0 0), (.int .i64 (.ofNat 0)),
  (.int .i64 (.ofNat 0)), (.int .i64 (.ofNat 0)), (.int .i64 (.ofNat 0)), (.int .i64 (.ofNat 0)), (.bool false), (.slice none 0 0), (.slice none 0 0), (.string ⟨⟨[]⟩⟩),
  (.slice none 0 0), (.slice none 0 0), (.string ⟨⟨[]⟩⟩), (.int .i64 (.ofNat 0)), (.slice none 0 0), (.slice none 0 0), (.slice none 0 0), (.slice none 0 0)]⟩),
  (.int .i64 (.ofNat 0))]⟩)
  H' := ⟨(.node (some (.cells [(.int .u8 (.ofNat 0)), (.int .u8 (.ofNat 1)), (.int .u8 (.ofNat 28)), (.int .u8 (.ofNat 2)), (.int .u8 (.ofNat 29)), (.int .u8 (.ofNat 14)),
  (.int .u8 (.ofNat 24)), (.int .u8 (.ofNat 3)), (.int .u8 (.ofNat 30)), (.int .u8 (.ofNat 22)), (.int .u8 (.ofNat 20)), (.int .u8 (.ofNat 15)), (.int .u8 (.ofNat 25)),
  (.int .u8 (.ofNat 17)), (.int .u8 (.ofNat 4)), (.int .u8 (.ofNat 8)), (.int .u8 (.ofNat 31)), (.int .u8 (.ofNat 27)), (.int .u8 (.ofNat 13)), (.int .u8 (.ofNat 23)),
  (.int .u8 (.ofNat 21)), (.int .u8 (.ofNat 19)), (.int .u8 (.ofNat 16)), (.int .u8 (.ofNat 7)), (.int .u8 (.ofNat 26)), (.int .u8 (.ofNat 12)), (.int .u8 (.ofNat 18)),
  (.int .u8 (.ofNat 6)), (.int .u8 (.ofNat 11)), (.int .u8 (.ofNat 5)), (.int .u8 (.ofNat 10)), (.int .u8 (.ofNat 9))] 363 false false)) (.node none (.node none (.node none
  (.node none (.node none (Tr.full 6) (.node none (Tr.full 5) (.node none (.node none (Tr.full 3) (.node (some (.cells [(.pointer (some ⟨862, 0,
  none⟩))] 26 true false)) (Tr.full 2) (Tr.full 2))) (Tr.full 4)))) (Tr.full 7)) (Tr.full 8)) (.node none (Tr.full 8) (.node none (Tr.full 7) (.node none (.node none (Tr.full 5)
  (.node none (.node none (Tr.full 3) (.node (some (.cells [(.string ⟨⟨[120]⟩⟩), (.bool false), (.slice none 0 0), (.slice none 0 0), (.bool false), (.slice (some ⟨854, 0,
  none⟩) 1 1), (.slice none 0 0), (.bool false), (.bool false)] 122 true true)) (Tr.full 2) (Tr.full 2))) (Tr.full 4))) (.node (some (.cells [(.int .i64 (.ofNat 2)),
  (.int .i64 (.ofNat 0)), (.bool false), (.slice none 0 0), (.slice none 0 0), (.string ⟨⟨[120]⟩⟩), (.slice none 0 0)] 37 true true)) (Tr.full 5) (Tr.full 5)))))) (.node none
  (.node none (.node none (.node none (Tr.full 6) (.node none (Tr.full 5) (.node none (.node none (Tr.full 3)
  (.node (some (.cells [(.int .i64 (.ofNat 0))] 3 true true)) (Tr.full 2) (Tr.full 2))) (Tr.full 4)))) (.node none (Tr.full 6) (.node none
  (.node (some (.cells [(.int .i64 (.ofNat 9)), (.int .i64 (.ofNat 2)), (.bool false), (.slice none 0 0), (.slice none 0 0), (.string ⟨⟨[]⟩⟩), (.slice (some ⟨123, 0, none⟩) 1 1),
  (.int .i64 (.ofNat 1)), (.int .i64 (.ofNat 0)), (.bool false), (.slice (some ⟨162, 0, none⟩) 1 1), (.slice none 0 0), (.string ⟨⟨[]⟩⟩),
  (.slice none 0 0)] 37 true true)) (Tr.full 4) (Tr.full 4)) (Tr.full 5)))) (Tr.full 8)) (.node none (Tr.full 8) (.node none (.node none (.node none (Tr.full 5) (.node none
  (.node none (.node (some (.cells [(.int .i64 (.ofNat 1)), (.int .i64 (.ofNat 0)),
  (.int .i64 (.ofNat 0))] 23 true false)) (Tr.full 2) (Tr.full 2)) (Tr.full 3)) (Tr.full 4))) (Tr.full 6)) (.node none (.node none (Tr.full 5) (.node none (.node none (Tr.full 3)
  (.node (some (.cells [(.int .i64 (.ofNat 0)), (.int .i64 (.negSucc 0)), (.int .i64 (.ofNat 0)), (.int .i64 (.ofNat 5)), (.int .i64 (.ofNat 0)), (.bool false), (.slice none 0 0),
  (.slice none 0 0), (.string ⟨⟨[]⟩⟩), (.slice (some ⟨800, 0, none⟩) 2 2), (.bool true), (.slice (some ⟨859, 0, none⟩) 1 1), (.slice none 0 0), (.int .i64 (.ofNat 0)),
  (.int .i64 (.ofNat 0)), (.string ⟨⟨[]⟩⟩), (.string ⟨⟨[]⟩⟩), (.bool false), (.slice none 0 0), (.slice none 0 0), (.int .i64 (.ofNat 0)), (.int .i64 (.ofNat 0)),
  (.int .i64 (.ofNat 0)), (.int .i64 (.ofNat 0)), (.int .i64 (.ofNat 0)), (.bool false), (.slice none 0 0), (.slice none 0 0), (.string ⟨⟨[]⟩⟩), (.slice none 0 0),
  (.slice none 0 0), (.string ⟨⟨[]⟩⟩), (.int .i64 (.ofNat 0)), (.slice none 0 0), (.slice none 0 0), (.slice none 0 0), (.slice none 0 0), (.bool false),
  (.slice none 0 0)] 73 true true)) (Tr.full 2) (Tr.full 2))) (Tr.full 4))) (Tr.full 6)))))) (.node none (.node none (.node none (.node none (.node none (Tr.full 6) (.node none
  (.node none (.node none (Tr.full 3) (.node (some (.cells [(.int .i64 (.ofNat 9)), (.int .i64 (.ofNat 2)), (.bool false), (.slice none 0 0), (.slice none 0 0), (.string ⟨⟨[]⟩⟩),
  (.slice (some ⟨772, 0, none⟩) 1 1), (.int .i64 (.ofNat 1)), (.int .i64 (.ofNat 0)), (.bool false), (.slice (some ⟨798, 0, none⟩) 1 1), (.slice none 0 0), (.string ⟨⟨[]⟩⟩),
  (.slice none 0 0)] 37 false true)) (Tr.full 2) (Tr.full 2))) (Tr.full 4)) (.node none (.node none (Tr.full 3)
  (.node (some (.cells [(.int .i64 (.ofNat 0))] 3 true true)) (Tr.full 2) (Tr.full 2))) (Tr.full 4)))) (Tr.full 7)) (Tr.full 8)) (.node none (.node none (.node none (.node none
  (.node none (.node none (Tr.full 3) (.node (some (.cells [(.int .i64 (.ofNat 2)), (.int .i64 (.ofNat 0)), (.bool false), (.slice none 0 0), (.slice none 0 0),
  (.string ⟨⟨[120]⟩⟩), (.slice none 0 0)] 37 true true)) (Tr.full 2) (Tr.full 2))) (Tr.full 4)) (Tr.full 5)) (Tr.full 6)) (Tr.full 7)) (.node none (.node none
  (.node none (Tr.full 5) (.node none (.node none (.node (some (.cells [(.int .i64 (.ofNat 5)), (.int .i64 (.ofNat 0)), (.bool false), (.slice none 0 0), (.slice none 0 0),
  (.string ⟨⟨[]⟩⟩), (.slice (some ⟨177, 0, none⟩) 2 2), (.bool true), (.slice (some ⟨586, 0, none⟩) 1 1),
  (.slice none 0 0)] 51 true false)) (Tr.full 2) (Tr.full 2)) (Tr.full 3)) (Tr.full 4))) (Tr.full 6)) (Tr.full 7)))) (.node none (.node none (.node none (.node none (Tr.full 6)
  (.node none (.node (some (.cells [(.int .u32 (.ofNat 1))] 227 true true)) (Tr.full 4) (Tr.full 4)) (.node none (.node none (Tr.full 3)
  (.node (some (.cells [(.int .i64 (.ofNat 0)), (.int .i64 (.ofNat 0)), (.string ⟨⟨[]⟩⟩), (.string ⟨⟨[]⟩⟩), (.bool false), (.slice none 0 0), (.slice none 0 0),
  (.int .i64 (.ofNat 0)), (.int .i64 (.ofNat 0)), (.int .i64 (.ofNat 0)), (.int .i64 (.ofNat 0)), (.int .i64 (.ofNat 0)), (.bool false), (.slice none 0 0), (.slice none 0 0),
  (.string ⟨⟨[]⟩⟩), (.slice none 0 0), (.slice none 0 0), (.string ⟨⟨[]⟩⟩), (.int .i64 (.ofNat 0)), (.slice none 0 0), (.slice none 0 0), (.slice none 0 0),
  (.slice none 0 0)] 55 true false)) (Tr.full 2) (Tr.full 2))) (Tr.full 4)))) (Tr.full 7)) (.node none (.node none (.node none (Tr.full 5) (.node none (.node none
  (.node (some (.cells [(.string ⟨⟨[120]⟩⟩), (.bool false), (.slice none 0 0), (.slice none 0 0), (.bool false), (.slice (some ⟨582, 0, none⟩) 1 1), (.slice none 0 0),
  (.bool false), (.bool false)] 122 true true)) (Tr.full 2) (Tr.full 2)) (Tr.full 3)) (Tr.full 4))) (Tr.full 6)) (Tr.full 7))) (.node none (.node none (.node none
  (.node none (Tr.full 5) (.node none (.node none (.node (some (.cells [(.int .u32 (.ofNat 2))] 227 true true)) (Tr.full 2) (Tr.full 2)) (Tr.full 3)) (Tr.full 4))) (Tr.full 6))
  (.node none (.node none (Tr.full 5) (.node none (.node none (Tr.full 3)
  (.node (some (.cells [(.int .u32 (.ofNat 2))] 227 false true)) (Tr.full 2) (Tr.full 2))) (Tr.full 4))) (Tr.full 6))) (.node none (.node none (.node none (Tr.full 5) (.node none
  (.node none (.node (some (.cells [(.int .i64 (.ofNat 0)), (.int .i64 (.ofNat 0)), (.int .i64 (.ofNat 0)), (.string ⟨⟨[]⟩⟩), (.string ⟨⟨[]⟩⟩), (.bool false), (.slice none 0 0),
  (.slice none 0 0), (.int .i64 (.ofNat 0)), (.int .i64 (.ofNat 0)), (.int .i64 (.ofNat 0)), (.int .i64 (.ofNat 0)), (.int .i64 (.ofNat 0)), (.bool false), (.slice none 0 0),
  (.slice none 0 0), (.string ⟨⟨[]⟩⟩), (.slice none 0 0), (.slice none 0 0), (.string ⟨⟨[]⟩⟩), (.int .i64 (.ofNat 0)), (.slice none 0 0), (.slice none 0 0),
  (.slice none 0 0)] 44 true false)) (Tr.full 2) (Tr.full 2)) (Tr.full 3)) (Tr.full 4))) (Tr.full 6)) (.node none (.node none (.node none (.node none (Tr.full 3)
  (.node (some (.cells [(.int .u32 (.ofNat 1))] 227 false true)) (Tr.full 2) (Tr.full 2))) (Tr.full 4)) (.node none (.node none (Tr.full 3)
  (.node (some (.cells [(.int .i64 (.ofNat 1)), (.int .i64 (.ofNat 0)), (.int .i64 (.ofNat 0)), (.slice (some ⟨861, 0, none⟩) 1 1), (.int .i64 (.ofNat 1)),
  (.bool false)] 29 true false)) (Tr.full 2) (Tr.full 2))) (Tr.full 4))) (Tr.full 6))))))), 1972⟩
end Go.Eng
end

section
namespace Go.Eng
open Go

/-- nothing that was there has changed -/
structure Kept (w w' : World) : Prop where
  size : w.heap.size ≤ w'.heap.size
  old : ∀ b, b < w.heap.size → w'.heap[b]? = w.heap[b]?
  tape : w'.tape = w.tape
  os : w'.os = w.os
  output : w'.output = w.output

def tab32 : List Value := [0, 1, 28, 2, 29, 14, 24, 3, 30, 22, 20, 15, 25, 17, 4, 8, 31, 27, 13, 23, 21, 19, 16, 7, 26, 12, 18, 6, 11, 5, 10, 9].map fun (n : Nat) => .int .u8 (.ofNat n)
noncomputable def H0 : AHeap := ⟨.node (some (.cells tab32 363 false false)) (Tr.full 11) (Tr.full 11), 8⟩
def LaidAt (w : World) : Prop := ∃ arr fz, w.heap[0]? = some (.cells arr 363 fz) ∧ 32 ≤ arr.size ∧ ∀ (k : Nat) (v : Value), tab32[k]? = some v → arr[k]? = some v

section
variable {P : Program} {w w' : World}
noncomputable def mu0 (P : Program) : Mu := ⟨fun i => if i = 0 then some (0, 0) else none, fun _ => 0, fun e => (size? P e).getD 0⟩
theorem H0_get : H0.get 0 = some (.cells tab32 363 false false) := rfl
theorem mu0_some {i : Nat} {p : Nat × Nat} (h : mu0 P i = some p) : i = 0 ∧ p = (0, 0) := by
  simp only [mu0] at h
  split at h
  · rename_i e; exact ⟨e, by cases h; rfl⟩
  · cases h
theorem tab32_len : tab32.length = 32 := rfl
theorem tab32_plain : ∀ (k : Nat) (v : Value), tab32[k]? = some v → ∃ n, v = .int .u8 n := by
  intro k v h
  have := List.mem_of_getElem? h
  simp only [tab32, List.mem_map] at this
  obtain ⟨n, _, rfl⟩ := this
  exact ⟨_, rfl⟩
theorem start (h : LaidAt w) : St [0] P H0 (mu0 P) w := by
  obtain ⟨arr, fz, h1, h2, h3⟩ := h
  refine ⟨⟨?_, ?_, ?_, ?_, ?_, ?_⟩, ?_, ?_⟩
  · intro i b o hi
    obtain ⟨rfl, hp⟩ := mu0_some hi
    cases hp
    refine ⟨_, H0_get, ?_⟩
    rw [h1]
    refine ⟨rfl, by rw [tab32_len]; omega, fun k v hk => ⟨v, by rw [Nat.zero_add]; exact h3 k v hk, ?_⟩, fun hf => by cases hf⟩
    obtain ⟨n, rfl⟩ := tab32_plain k v hk
    exact .int _ _
  · intro i p hi
    obtain ⟨rfl, _⟩ := mu0_some hi
    show 0 < 8
    omega
  · intro i b o cs e app hi hg
    obtain ⟨rfl, _⟩ := mu0_some hi
    rw [H0_get] at hg
    cases hg
  · intro i b o cs e ow hi hg
    obtain ⟨rfl, _⟩ := mu0_some hi
    rw [H0_get] at hg
    cases hg
  · intro i b o x hi hg hno
    obtain ⟨rfl, _⟩ := mu0_some hi
    rw [H0_get] at hg
    cases hg
    exact absurd rfl (hno _ _ _ _)
  · intro i b o cs e ow hi hg
    obtain ⟨rfl, _⟩ := mu0_some hi
    rw [H0_get] at hg
    cases hg
  · intro e n hn
    simp [mu0, hn]
  · intro g hg
    simp only [List.any_cons, List.any_nil, Bool.or_false] at hg
    rw [Nat.eq_of_beq_eq_true hg]
    rfl

theorem kept_of {H' : AHeap} {μ' : Mu} (h : Ext H0 (mu0 P) w H' μ' w') : Kept w w' :=
  ⟨h.size, fun b hb => h.keep b hb fun i o hi => by
    obtain ⟨rfl, _⟩ := mu0_some hi
    exact ⟨_, H0_get, rfl⟩, h.tape, h.os, h.output⟩

noncomputable def isTrue (r : Option (Value × AHeap)) : Bool :=
  match r with
  | some (.bool b, _) => b
  | _ => false
theorem isTrue_some {r : Option (Value × AHeap)} (h : isTrue r = true) : ∃ H', r = some (.bool true, H') := by
  unfold isTrue at h
  split at h
  · subst h; exact ⟨_, rfl⟩
  · cases h

/-- **A run that answers true, as a contract.** -/
theorem true_of {ev : Ev} {f : FuncId} {args : List Value} (hev : EvOk [0] P ev) (h : isTrue (ev.call f args H0) = true) (hp : args.all (plainV 4) = true) (n : Nat) (hw : LaidAt w) :
    CallsIn Fence.wide n P f args.toArray w (fun e w' => e = .returned (.bool true) ∧ Kept w w') := by
  obtain ⟨H', hc⟩ := isTrue_some h
  refine (hev.call f args H0 _ _ hc (mu0 P) w args.toArray n (start hw) (LRel.plain hp)).mono ?_
  intro e w' hq
  obtain ⟨v', μ', rfl, hv, _, hx⟩ := hq
  rw [hv.inv_bool]
  exact ⟨rfl, kept_of hx⟩

theorem Rel.kept {H : AHeap} {μ : Mu} (h : Rel H μ w) (k : Kept w w') : Rel H μ w' := by
  refine ⟨fun i b o hi => ?_, h.dom, h.own, h.app, h.oth, fun i b o cs e ow hi hg arr e' fz hw => ?_⟩
  · obtain ⟨x, h1, h2⟩ := h.obj i b o hi
    exact ⟨x, h1, by rw [k.old b (h.lt hi)]; exact h2⟩
  · rw [k.old b (h.lt hi)] at hw
    exact h.cap i b o cs e ow hi hg arr e' fz hw
theorem Ext.kept {H : AHeap} {μ : Mu} (k : Kept w w') : Ext H μ w H μ w' :=
  ⟨Mu.le.refl _, Nat.le_refl _, k.size, fun b hb _ => k.old b hb, fun i _ o hi _ hl => ⟨i, o, hi, hl⟩, fun _ _ hm => ⟨hm, rfl⟩, k.tape, k.os, k.output⟩

/-- a closed function that answers true, at whatever heap -/
noncomputable def trueTab (f0 : FuncId) (tb : Tab) : Tab := fun f args H =>
  bif Nat.beq f f0 then (bif args.isEmpty && ooeq (H.get 0) (some (.cells tab32 363 false false)) then some (.bool true, H) else tb f args H) else tb f args H
theorem laid_of {H : AHeap} {μ : Mu} (hst : St [0] P H μ w) (hg : H.get 0 = some (.cells tab32 363 false false)) : LaidAt w := by
  have hm := hst.gl 0 rfl
  obtain ⟨x, h1, h2⟩ := hst.rel.obj 0 0 0 hm
  rw [hg] at h1
  cases h1
  have hs := h2.isSome
  revert h2 hs
  cases hw : w.heap[0]? with
  | none => intro _ h; cases h
  | some ob =>
    intro h2 _
    cases ob with
    | cells arr e fz =>
      obtain ⟨rfl, a1, a2, _⟩ := h2
      refine ⟨arr, fz, hw, by rw [tab32_len] at a1; omega, fun k v hk => ?_⟩
      obtain ⟨v', b1, b2⟩ := a2 k v hk
      rw [Nat.zero_add] at b1
      obtain ⟨n, rfl⟩ := tab32_plain k v hk
      rw [b2.inv_int] at b1
      exact b1
    | _ => exact h2.elim
theorem trueTab_ok {f0 : FuncId} {tb : Tab} (ht : TabOk [0] P tb) (h : ∀ n w, LaidAt w → CallsIn Fence.wide n P f0 #[] w (fun e w' => e = .returned (.bool true) ∧ Kept w w')) : TabOk [0] P (trueTab f0 tb) := by
  intro f args H v H' h1
  unfold trueTab at h1
  cases hf : Nat.beq f f0 with
  | false => rw [hf] at h1; exact ht f args H v H' h1
  | true =>
    rw [hf] at h1
    simp only [cond_true] at h1
    cases hc : (args.isEmpty && ooeq (H.get 0) (some (.cells tab32 363 false false))) with
    | false => rw [hc] at h1; exact ht f args H v H' h1
    | true =>
      rw [hc] at h1
      simp at h1
      rw [Bool.and_eq_true] at hc
      obtain ⟨rfl, rfl⟩ := h1
      obtain rfl := Nat.eq_of_beq_eq_true hf
      intro μ w args' n hst ha
      have hargs : args = [] := by simpa using hc.1
      subst hargs
      have : args' = #[] := by
        cases args' with
        | mk l => cases ha; rfl
      subst this
      refine (h n w (laid_of hst (ooeq_eq hc.2))).mono ?_
      rintro e w' ⟨rfl, k⟩
      exact ⟨.bool true, μ, rfl, .bool true, ⟨hst.rel.kept k, hst.sz, hst.gl⟩, Ext.kept k⟩
end
end Go.Eng
end
