/- A part of the proof that SearchValid answers true for every input: conditions: the row's own. -/
import Derived.Test.YthdgoelpabcgpaaGreatDoorCards
import Derived.JoinedCond
section
namespace Go.Proofs.YthdgoelpabcgpaaGreatDoor.validLaw
theorem cl0 : (fun (_P : Program) (_f : FuncId) (_fn : Func) (s : ChangeSpec) (c : OpenClaim) => (c.wf (OpenSpec.ofChange s) : Bool)) Tryz.prog 3 Tryz.f3 (OpenSpec.ofChange Rows.searchValidSpec).bare Rows.searchValidRow = true := by kernel_rfl
end Go.Proofs.YthdgoelpabcgpaaGreatDoor.validLaw
end

section
namespace Go.Proofs.YthdgoelpabcgpaaGreatDoor.validLaw
theorem cl3 : (fun (P : Program) (_f : FuncId) (fn : Func) (_s : ChangeSpec) (_c : OpenClaim) => (fn.params.all (P.readableRec ·) : Bool)) Tryz.prog 3 Tryz.f3 (OpenSpec.ofChange Rows.searchValidSpec).bare Rows.searchValidRow = true := by kernel_rfl
end Go.Proofs.YthdgoelpabcgpaaGreatDoor.validLaw
end

section
namespace Go.Proofs.YthdgoelpabcgpaaGreatDoor.validLaw
theorem cl4 : (fun (P : Program) (_f : FuncId) (_fn : Func) (s : ChangeSpec) (c : OpenClaim) => (namedTie P c.named s.vars : Bool)) Tryz.prog 3 Tryz.f3 (OpenSpec.ofChange Rows.searchValidSpec).bare Rows.searchValidRow = true := by kernel_rfl
end Go.Proofs.YthdgoelpabcgpaaGreatDoor.validLaw
end

section
namespace Go.Proofs.YthdgoelpabcgpaaGreatDoor.validLaw
theorem cl5 : (fun (_P : Program) (_f : FuncId) (_fn : Func) (_s : ChangeSpec) (c : OpenClaim) => ((c.stops == []) : Bool)) Tryz.prog 3 Tryz.f3 (OpenSpec.ofChange Rows.searchValidSpec).bare Rows.searchValidRow = true := by kernel_rfl
end Go.Proofs.YthdgoelpabcgpaaGreatDoor.validLaw
end

section
namespace Go.Proofs.YthdgoelpabcgpaaGreatDoor.validLaw
theorem cl6 : (fun (P : Program) (_f : FuncId) (_fn : Func) (_s : ChangeSpec) (_c : OpenClaim) => ((P.stops == []) : Bool)) Tryz.prog 3 Tryz.f3 (OpenSpec.ofChange Rows.searchValidSpec).bare Rows.searchValidRow = true := by kernel_rfl
end Go.Proofs.YthdgoelpabcgpaaGreatDoor.validLaw
end

section
namespace Go.Proofs.YthdgoelpabcgpaaGreatDoor.validLaw
theorem cl7 : (fun (_P : Program) (_f : FuncId) (_fn : Func) (_s : ChangeSpec) (c : OpenClaim) => ((c.knobs == []) : Bool)) Tryz.prog 3 Tryz.f3 (OpenSpec.ofChange Rows.searchValidSpec).bare Rows.searchValidRow = true := by kernel_rfl
end Go.Proofs.YthdgoelpabcgpaaGreatDoor.validLaw
end

section
namespace Go.Proofs.YthdgoelpabcgpaaGreatDoor.validLaw
theorem cl8 : (fun (P : Program) (_f : FuncId) (_fn : Func) (_s : ChangeSpec) (_c : OpenClaim) => ((P.stopKnobs == []) : Bool)) Tryz.prog 3 Tryz.f3 (OpenSpec.ofChange Rows.searchValidSpec).bare Rows.searchValidRow = true := by kernel_rfl
end Go.Proofs.YthdgoelpabcgpaaGreatDoor.validLaw
end

section
namespace Go.Proofs.YthdgoelpabcgpaaGreatDoor.validLaw
theorem cl13 : (fun (P : Program) (_f : FuncId) (fn : Func) (s : ChangeSpec) (c : OpenClaim) => ((c.maps == (fn.params.toList ++ s.plain.varTypes P).any (P.mapsRec ·)) : Bool)) Tryz.prog 3 Tryz.f3 (OpenSpec.ofChange Rows.searchValidSpec).bare Rows.searchValidRow = true := by kernel_rfl
end Go.Proofs.YthdgoelpabcgpaaGreatDoor.validLaw
end

section
namespace Go.Proofs.YthdgoelpabcgpaaGreatDoor.validLaw
theorem cl14 : (fun (P : Program) (_f : FuncId) (fn : Func) (s : ChangeSpec) (c : OpenClaim) => ((c.ifaces == (fn.params.toList ++ s.plain.varTypes P).any (P.ifacesRec ·)) : Bool)) Tryz.prog 3 Tryz.f3 (OpenSpec.ofChange Rows.searchValidSpec).bare Rows.searchValidRow = true := by kernel_rfl
end Go.Proofs.YthdgoelpabcgpaaGreatDoor.validLaw
end

section
namespace Go.Proofs.YthdgoelpabcgpaaGreatDoor.validLaw
theorem cl15 : (fun (P : Program) (_f : FuncId) (fn : Func) (_s : ChangeSpec) (c : OpenClaim) => ((c.mapsOut == P.mapsAmong fn.resultTypes.toList) : Bool)) Tryz.prog 3 Tryz.f3 (OpenSpec.ofChange Rows.searchValidSpec).bare Rows.searchValidRow = true := by kernel_rfl
end Go.Proofs.YthdgoelpabcgpaaGreatDoor.validLaw
end

section
namespace Go.Proofs.YthdgoelpabcgpaaGreatDoor.validLaw
theorem cl16 : (fun (P : Program) (_f : FuncId) (fn : Func) (s : ChangeSpec) (c : OpenClaim) => ((c.loops == (fn.params.toList ++ s.plain.varTypes P).any (P.loopsFrom ·)) : Bool)) Tryz.prog 3 Tryz.f3 (OpenSpec.ofChange Rows.searchValidSpec).bare Rows.searchValidRow = true := by kernel_rfl
end Go.Proofs.YthdgoelpabcgpaaGreatDoor.validLaw
end

section
namespace Go.Proofs.YthdgoelpabcgpaaGreatDoor.validLaw
theorem cl17 : (fun (P : Program) (_f : FuncId) (fn : Func) (s : ChangeSpec) (c : OpenClaim) => ((c.wideKeys == (fn.params.toList ++ s.plain.varTypes P ++ fn.resultTypes.toList).any (P.wideKeysFrom ·)) : Bool)) Tryz.prog 3 Tryz.f3 (OpenSpec.ofChange Rows.searchValidSpec).bare Rows.searchValidRow = true := by kernel_rfl
end Go.Proofs.YthdgoelpabcgpaaGreatDoor.validLaw
end

section
namespace Go.Proofs.YthdgoelpabcgpaaGreatDoor.validLaw
theorem cl18 : (fun (P : Program) (_f : FuncId) (_fn : Func) (s : ChangeSpec) (_c : OpenClaim) => (s.vars.all (P.varReadable ·) : Bool)) Tryz.prog 3 Tryz.f3 (OpenSpec.ofChange Rows.searchValidSpec).bare Rows.searchValidRow = true := by kernel_rfl
end Go.Proofs.YthdgoelpabcgpaaGreatDoor.validLaw
end

section
namespace Go.Proofs.YthdgoelpabcgpaaGreatDoor.validLaw
theorem cl19 : (fun (P : Program) (_f : FuncId) (fn : Func) (_s : ChangeSpec) (_c : OpenClaim) => (fn.resultTypes.all (fun t => P.readableRec t && decide (t < P.types.size)) : Bool)) Tryz.prog 3 Tryz.f3 (OpenSpec.ofChange Rows.searchValidSpec).bare Rows.searchValidRow = true := by kernel_rfl
end Go.Proofs.YthdgoelpabcgpaaGreatDoor.validLaw
end

section
namespace Go.Proofs.YthdgoelpabcgpaaGreatDoor.validLaw
theorem cl20 : (fun (P : Program) (_f : FuncId) (fn : Func) (_s : ChangeSpec) (c : OpenClaim) => ((c.ifacesOut == fn.resultTypes.toList.any (P.ifacesRec ·)) : Bool)) Tryz.prog 3 Tryz.f3 (OpenSpec.ofChange Rows.searchValidSpec).bare Rows.searchValidRow = true := by kernel_rfl
end Go.Proofs.YthdgoelpabcgpaaGreatDoor.validLaw
end

section
namespace Go.Proofs.YthdgoelpabcgpaaGreatDoor.validLaw
theorem cl21 : (fun (P : Program) (_f : FuncId) (fn : Func) (_s : ChangeSpec) (c : OpenClaim) => ((c.loopsOut == fn.resultTypes.toList.any (P.loopsFrom ·)) : Bool)) Tryz.prog 3 Tryz.f3 (OpenSpec.ofChange Rows.searchValidSpec).bare Rows.searchValidRow = true := by kernel_rfl
end Go.Proofs.YthdgoelpabcgpaaGreatDoor.validLaw
end

section
namespace Go.Proofs.YthdgoelpabcgpaaGreatDoor.validLaw
theorem cl23 : (fun (_P : Program) (_f : FuncId) (_fn : Func) (_s : ChangeSpec) (c : OpenClaim) => (c.shortTexts.isNone : Bool)) Tryz.prog 3 Tryz.f3 (OpenSpec.ofChange Rows.searchValidSpec).bare Rows.searchValidRow = true := by kernel_rfl
end Go.Proofs.YthdgoelpabcgpaaGreatDoor.validLaw
end

section
namespace Go.Proofs.YthdgoelpabcgpaaGreatDoor.validLaw
theorem cl26 : (fun (P : Program) (_f : FuncId) (_fn : Func) (_s : ChangeSpec) (c : OpenClaim) => ((c.lifted == P.liftsFinal) : Bool)) Tryz.prog 3 Tryz.f3 (OpenSpec.ofChange Rows.searchValidSpec).bare Rows.searchValidRow = true := by kernel_rfl
end Go.Proofs.YthdgoelpabcgpaaGreatDoor.validLaw
end

section
namespace Go.Proofs.YthdgoelpabcgpaaGreatDoor.validLaw
theorem cl27 : (fun (P : Program) (_f : FuncId) (_fn : Func) (_s : ChangeSpec) (c : OpenClaim) => ((P.make == some c.make) : Bool)) Tryz.prog 3 Tryz.f3 (OpenSpec.ofChange Rows.searchValidSpec).bare Rows.searchValidRow = true := by kernel_rfl
end Go.Proofs.YthdgoelpabcgpaaGreatDoor.validLaw
end

section
namespace Go.Proofs.YthdgoelpabcgpaaGreatDoor.validLaw
theorem cl28 : (fun (P : Program) (_f : FuncId) (fn : Func) (_s : ChangeSpec) (c : OpenClaim) => ((c.kinds == (if c.domain.isEmpty then [] else fn.params.toList.map fun t => match P.underlying t with | some (.int k) => some k | _ => none)) : Bool)) Tryz.prog 3 Tryz.f3 (OpenSpec.ofChange Rows.searchValidSpec).bare Rows.searchValidRow = true := by kernel_rfl
end Go.Proofs.YthdgoelpabcgpaaGreatDoor.validLaw
end

section
namespace Go.Proofs.YthdgoelpabcgpaaGreatDoor.validLaw
theorem cl29 : (fun (_P : Program) (_f : FuncId) (_fn : Func) (_s : ChangeSpec) (c : OpenClaim) => ((c.pinned == c.pinnedBy) : Bool)) Tryz.prog 3 Tryz.f3 (OpenSpec.ofChange Rows.searchValidSpec).bare Rows.searchValidRow = true := by kernel_rfl
end Go.Proofs.YthdgoelpabcgpaaGreatDoor.validLaw
end

section
namespace Go.Proofs.YthdgoelpabcgpaaGreatDoor.validLaw
theorem cl30 : (fun (P : Program) (_f : FuncId) (fn : Func) (s : ChangeSpec) (c : OpenClaim) => ((c.veiled == (fn.params.toList ++ s.plain.varTypes P ++ fn.resultTypes.toList).any (P.veiledRec ·)) : Bool)) Tryz.prog 3 Tryz.f3 (OpenSpec.ofChange Rows.searchValidSpec).bare Rows.searchValidRow = true := by kernel_rfl
end Go.Proofs.YthdgoelpabcgpaaGreatDoor.validLaw
end

section
namespace Go.Proofs.YthdgoelpabcgpaaGreatDoor.validLaw
theorem cl31 : (fun (P : Program) (_f : FuncId) (fn : Func) (s : ChangeSpec) (c : OpenClaim) => (c.veiledFits P fn.params.toList (fn.params.toList ++ s.plain.varTypes P ++ fn.resultTypes.toList) : Bool)) Tryz.prog 3 Tryz.f3 (OpenSpec.ofChange Rows.searchValidSpec).bare Rows.searchValidRow = true := by kernel_rfl
end Go.Proofs.YthdgoelpabcgpaaGreatDoor.validLaw
end
