/- the closed facts of the row and of the card, one by one. Printed by a program of this work. -/
import Derived.Test.YtjfckaoppfnicaaGreatDoorRows
import Derived.Test.YtjfckaoppfnicaaGreatDoorCards
import Derived.JoinedOf
import Derived.SevenTiedAt
set_option linter.unusedVariables false
set_option maxRecDepth 100000
namespace Go.Proofs.YtjfckaoppfnicaaGreatDoor.topFlushed
open Go

theorem jk0 : ((fun (P : Program) (f : FuncId) (fn : Func) (s : ChangeSpec) (c : OpenClaim) => (c.wf (OpenSpec.ofChange s) : Bool)) Tryz.pinned.checked.prog 3 Tryz.f3 Rows.topFlushedSpec Rows.topFlushedRow) = true := by kernel_rfl
theorem jk1 : ((fun (P : Program) (f : FuncId) (fn : Func) (s : ChangeSpec) (c : OpenClaim) => (laidOutB P : Bool)) Tryz.pinned.checked.prog 3 Tryz.f3 Rows.topFlushedSpec Rows.topFlushedRow) = true := by kernel_rfl
theorem jk2 : ((fun (P : Program) (f : FuncId) (fn : Func) (s : ChangeSpec) (c : OpenClaim) => (mapsRowed P : Bool)) Tryz.pinned.checked.prog 3 Tryz.f3 Rows.topFlushedSpec Rows.topFlushedRow) = true := by kernel_rfl
theorem jk3 : ((fun (P : Program) (f : FuncId) (fn : Func) (s : ChangeSpec) (c : OpenClaim) => (fn.params.all (P.readableRec ·) : Bool)) Tryz.pinned.checked.prog 3 Tryz.f3 Rows.topFlushedSpec Rows.topFlushedRow) = true := by kernel_rfl
theorem jk4 : ((fun (P : Program) (f : FuncId) (fn : Func) (s : ChangeSpec) (c : OpenClaim) => (namedTie P c.named s.vars : Bool)) Tryz.pinned.checked.prog 3 Tryz.f3 Rows.topFlushedSpec Rows.topFlushedRow) = true := by kernel_rfl
theorem jk5 : ((fun (P : Program) (f : FuncId) (fn : Func) (s : ChangeSpec) (c : OpenClaim) => ((c.stops == []) : Bool)) Tryz.pinned.checked.prog 3 Tryz.f3 Rows.topFlushedSpec Rows.topFlushedRow) = true := by kernel_rfl
theorem jk6 : ((fun (P : Program) (f : FuncId) (fn : Func) (s : ChangeSpec) (c : OpenClaim) => ((P.stops == []) : Bool)) Tryz.pinned.checked.prog 3 Tryz.f3 Rows.topFlushedSpec Rows.topFlushedRow) = true := by kernel_rfl
theorem jk7 : ((fun (P : Program) (f : FuncId) (fn : Func) (s : ChangeSpec) (c : OpenClaim) => ((c.knobs == []) : Bool)) Tryz.pinned.checked.prog 3 Tryz.f3 Rows.topFlushedSpec Rows.topFlushedRow) = true := by kernel_rfl
theorem jk8 : ((fun (P : Program) (f : FuncId) (fn : Func) (s : ChangeSpec) (c : OpenClaim) => ((P.stopKnobs == []) : Bool)) Tryz.pinned.checked.prog 3 Tryz.f3 Rows.topFlushedSpec Rows.topFlushedRow) = true := by kernel_rfl
theorem jk9 : ((fun (P : Program) (f : FuncId) (fn : Func) (s : ChangeSpec) (c : OpenClaim) => ((c.inPlace == P.inPlace f) : Bool)) Tryz.pinned.checked.prog 3 Tryz.f3 Rows.topFlushedSpec Rows.topFlushedRow) = true := by kernel_rfl
theorem jk10 : ((fun (P : Program) (f : FuncId) (fn : Func) (s : ChangeSpec) (c : OpenClaim) => ((c.unfollowed == P.unfollowed f) : Bool)) Tryz.pinned.checked.prog 3 Tryz.f3 Rows.topFlushedSpec Rows.topFlushedRow) = true := by kernel_rfl
theorem jk11 : ((fun (P : Program) (f : FuncId) (fn : Func) (s : ChangeSpec) (c : OpenClaim) => ((c.recurses == P.recurses f) : Bool)) Tryz.pinned.checked.prog 3 Tryz.f3 Rows.topFlushedSpec Rows.topFlushedRow) = true := by kernel_rfl
theorem jk12 : ((fun (P : Program) (f : FuncId) (fn : Func) (s : ChangeSpec) (c : OpenClaim) => ((c.named == P.varsNamed f) : Bool)) Tryz.pinned.checked.prog 3 Tryz.f3 Rows.topFlushedSpec Rows.topFlushedRow) = true := by kernel_rfl
theorem jk13 : ((fun (P : Program) (f : FuncId) (fn : Func) (s : ChangeSpec) (c : OpenClaim) => ((c.maps == (fn.params.toList ++ s.plain.varTypes P).any (P.mapsRec ·)) : Bool)) Tryz.pinned.checked.prog 3 Tryz.f3 Rows.topFlushedSpec Rows.topFlushedRow) = true := by kernel_rfl
theorem jk14 : ((fun (P : Program) (f : FuncId) (fn : Func) (s : ChangeSpec) (c : OpenClaim) => ((c.ifaces == (fn.params.toList ++ s.plain.varTypes P).any (P.ifacesRec ·)) : Bool)) Tryz.pinned.checked.prog 3 Tryz.f3 Rows.topFlushedSpec Rows.topFlushedRow) = true := by kernel_rfl
theorem jk15 : ((fun (P : Program) (f : FuncId) (fn : Func) (s : ChangeSpec) (c : OpenClaim) => ((c.mapsOut == P.mapsAmong fn.resultTypes.toList) : Bool)) Tryz.pinned.checked.prog 3 Tryz.f3 Rows.topFlushedSpec Rows.topFlushedRow) = true := by kernel_rfl
theorem jk16 : ((fun (P : Program) (f : FuncId) (fn : Func) (s : ChangeSpec) (c : OpenClaim) => ((c.loops == (fn.params.toList ++ s.plain.varTypes P).any (P.loopsFrom ·)) : Bool)) Tryz.pinned.checked.prog 3 Tryz.f3 Rows.topFlushedSpec Rows.topFlushedRow) = true := by kernel_rfl
theorem jk17 : ((fun (P : Program) (f : FuncId) (fn : Func) (s : ChangeSpec) (c : OpenClaim) => ((c.wideKeys == (fn.params.toList ++ s.plain.varTypes P ++ fn.resultTypes.toList).any (P.wideKeysFrom ·)) : Bool)) Tryz.pinned.checked.prog 3 Tryz.f3 Rows.topFlushedSpec Rows.topFlushedRow) = true := by kernel_rfl
theorem jk18 : ((fun (P : Program) (f : FuncId) (fn : Func) (s : ChangeSpec) (c : OpenClaim) => (s.vars.all (P.varReadable ·) : Bool)) Tryz.pinned.checked.prog 3 Tryz.f3 Rows.topFlushedSpec Rows.topFlushedRow) = true := by kernel_rfl
theorem jk19 : ((fun (P : Program) (f : FuncId) (fn : Func) (s : ChangeSpec) (c : OpenClaim) => (fn.resultTypes.all (fun t => P.readableRec t && decide (t < P.types.size)) : Bool)) Tryz.pinned.checked.prog 3 Tryz.f3 Rows.topFlushedSpec Rows.topFlushedRow) = true := by kernel_rfl
theorem jk20 : ((fun (P : Program) (f : FuncId) (fn : Func) (s : ChangeSpec) (c : OpenClaim) => ((c.ifacesOut == fn.resultTypes.toList.any (P.ifacesRec ·)) : Bool)) Tryz.pinned.checked.prog 3 Tryz.f3 Rows.topFlushedSpec Rows.topFlushedRow) = true := by kernel_rfl
theorem jk21 : ((fun (P : Program) (f : FuncId) (fn : Func) (s : ChangeSpec) (c : OpenClaim) => ((c.loopsOut == fn.resultTypes.toList.any (P.loopsFrom ·)) : Bool)) Tryz.pinned.checked.prog 3 Tryz.f3 Rows.topFlushedSpec Rows.topFlushedRow) = true := by kernel_rfl
theorem jk22 : ((fun (P : Program) (f : FuncId) (fn : Func) (s : ChangeSpec) (c : OpenClaim) => ((c.plainKeys == P.plainKeys) : Bool)) Tryz.pinned.checked.prog 3 Tryz.f3 Rows.topFlushedSpec Rows.topFlushedRow) = true := by kernel_rfl
theorem jk23 : ((fun (P : Program) (f : FuncId) (fn : Func) (s : ChangeSpec) (c : OpenClaim) => (c.shortTexts.isNone : Bool)) Tryz.pinned.checked.prog 3 Tryz.f3 Rows.topFlushedSpec Rows.topFlushedRow) = true := by kernel_rfl
theorem jk24 : ((fun (P : Program) (f : FuncId) (fn : Func) (s : ChangeSpec) (c : OpenClaim) => (P.stopsHeard : Bool)) Tryz.pinned.checked.prog 3 Tryz.f3 Rows.topFlushedSpec Rows.topFlushedRow) = true := by kernel_rfl
theorem jk25 : ((fun (P : Program) (f : FuncId) (fn : Func) (s : ChangeSpec) (c : OpenClaim) => (P.mayEnter : Bool)) Tryz.pinned.checked.prog 3 Tryz.f3 Rows.topFlushedSpec Rows.topFlushedRow) = true := by kernel_rfl
theorem jk26 : ((fun (P : Program) (f : FuncId) (fn : Func) (s : ChangeSpec) (c : OpenClaim) => ((c.lifted == P.liftsFinal) : Bool)) Tryz.pinned.checked.prog 3 Tryz.f3 Rows.topFlushedSpec Rows.topFlushedRow) = true := by kernel_rfl
theorem jk27 : ((fun (P : Program) (f : FuncId) (fn : Func) (s : ChangeSpec) (c : OpenClaim) => ((P.make == some c.make) : Bool)) Tryz.pinned.checked.prog 3 Tryz.f3 Rows.topFlushedSpec Rows.topFlushedRow) = true := by kernel_rfl
theorem jk28 : ((fun (P : Program) (f : FuncId) (fn : Func) (s : ChangeSpec) (c : OpenClaim) => ((c.kinds == (if c.domain.isEmpty then [] else fn.params.toList.map fun t => match P.underlying t with | some (.int k) => some k | _ => none)) : Bool)) Tryz.pinned.checked.prog 3 Tryz.f3 Rows.topFlushedSpec Rows.topFlushedRow) = true := by kernel_rfl
theorem jk29 : ((fun (P : Program) (f : FuncId) (fn : Func) (s : ChangeSpec) (c : OpenClaim) => ((c.pinned == c.pinnedBy) : Bool)) Tryz.pinned.checked.prog 3 Tryz.f3 Rows.topFlushedSpec Rows.topFlushedRow) = true := by kernel_rfl
theorem jk30 : ((fun (P : Program) (f : FuncId) (fn : Func) (s : ChangeSpec) (c : OpenClaim) => ((c.veiled == (fn.params.toList ++ s.plain.varTypes P ++ fn.resultTypes.toList).any (P.veiledRec ·)) : Bool)) Tryz.pinned.checked.prog 3 Tryz.f3 Rows.topFlushedSpec Rows.topFlushedRow) = true := by kernel_rfl
theorem jk31 : ((fun (P : Program) (f : FuncId) (fn : Func) (s : ChangeSpec) (c : OpenClaim) => (c.veiledFits P fn.params.toList (fn.params.toList ++ s.plain.varTypes P ++ fn.resultTypes.toList) : Bool)) Tryz.pinned.checked.prog 3 Tryz.f3 Rows.topFlushedSpec Rows.topFlushedRow) = true := by kernel_rfl
theorem and2 {a b : Bool} (h : a = true) (k : b = true) : (a && b) = true := by rw [h, k]; rfl
theorem joined : joinedFacts Tryz.pinned.checked.prog 3 Tryz.f3 Rows.topFlushedSpec Rows.topFlushedRow = true := (and2 (and2 (and2 (and2 (and2 (and2 (and2 (and2 (and2 (and2 (and2 (and2 (and2 (and2 (and2 (and2 (and2 (and2 (and2 (and2 (and2 (and2 (and2 (and2 (and2 (and2 (and2 (and2 (and2 (and2 (and2 jk0 jk1) jk2) jk3) jk4) jk5) jk6) jk7) jk8) jk9) jk10) jk11) jk12) jk13) jk14) jk15) jk16) jk17) jk18) jk19) jk20) jk21) jk22) jk23) jk24) jk25) jk26) jk27) jk28) jk29) jk30) jk31)
theorem goes : false = Rows.topFlushedRow.goesBy Tryz.pinned.checked.prog := by kernel_rfl
theorem looks : true = Tryz.pinned.checked.prog.looks [] := by kernel_rfl
theorem wft : Rows.topFlushedRow.wfByText (OpenSpec.ofChange Rows.topFlushedSpec) = true := by kernel_rfl
theorem mainis : Tryz.pinned.checked.prog.mainIs = some ((Rows.topFlushedCard).stood.harness.1, (Rows.topFlushedCard).stood.harness.2.toList) := by kernel_rfl
end Go.Proofs.YtjfckaoppfnicaaGreatDoor.topFlushed
