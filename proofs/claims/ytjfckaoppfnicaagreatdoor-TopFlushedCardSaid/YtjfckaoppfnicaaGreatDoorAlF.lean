import Derived.Test.YtjfckaoppfnicaaGreatDoorAlE0
import Derived.Test.YtjfckaoppfnicaaGreatDoorAlE1
import Derived.Test.YtjfckaoppfnicaaGreatDoorAlE2
import Derived.Test.YtjfckaoppfnicaaGreatDoorRwc
/- the library's example: told. -/
set_option linter.unusedVariables false
set_option maxRecDepth 100000
namespace Go.Proofs.AL.Rx
open Go Go.RowKit
def alAll : List ME := [alm0, alm1, alm2, alm3, alm4, alm5]
theorem alAll_ok {F : Fx} (hF : FxT F) : MeAll F Tryz.prog alAll :=
  MeAll.cons (MeOk.one (cN_ok hF) alm0_k) (MeAll.cons (MeOk.one (cN_ok hF) alm1_k) (MeAll.cons (MeOk.one (cN_ok hF) alm2_k) (MeAll.cons (MeOk.one (cN_ok hF) alm3_k) (MeAll.cons (MeOk.one (cN_ok hF) alm4_k) (MeAll.cons (MeOk.one (cN_ok hF) alm5_k) (MeAll.nil))))))
def cA (P : Program) : Cx := (cN P).plus (meXn alAll)
theorem alive_k : is1 (xcall (cA Tryz.prog) 20 11 [] ⟨.leaf, 0⟩) (.bool true) = true := by kernel_rfl
theorem alive_told {F : Fx} (hF : FxT F) : Told F Tryz.prog 11 [] (.bool true) := told_of (c := cA Tryz.prog) ((cN_ok hF).men (alAll_ok hF)) alive_k rfl rfl
end Go.Proofs.AL.Rx
