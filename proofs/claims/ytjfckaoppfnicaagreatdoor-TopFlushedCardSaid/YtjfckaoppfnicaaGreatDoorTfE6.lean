import Derived.Test.YtjfckaoppfnicaaGreatDoorTfD
/- the checks of those calls, in the kernel. Printed by a program of this work. -/
set_option maxRecDepth 100000
namespace Go.Proofs.AL.Rx
open Go
theorem tfm12_k : covL (xcall (cN Tryz.prog) 60 tfm12.f tfm12.vs tfm12.s) tfm12.l = true := by kernel_rfl
theorem tfm35_k : covL (xcall (cN Tryz.prog) 60 tfm35.f tfm35.vs tfm35.s) tfm35.l = true := by kernel_rfl
theorem tfm38_k : covL (xcall (cN Tryz.prog) 60 tfm38.f tfm38.vs tfm38.s) tfm38.l = true := by kernel_rfl
theorem tfm46_k : covL (xcall (cN Tryz.prog) 60 tfm46.f tfm46.vs tfm46.s) tfm46.l = true := by kernel_rfl
theorem tfm54_k : covL (xcall (cN Tryz.prog) 60 tfm54.f tfm54.vs tfm54.s) tfm54.l = true := by kernel_rfl
theorem tfm74_k : covL (xcall (cN Tryz.prog) 60 tfm74.f tfm74.vs tfm74.s) tfm74.l = true := by kernel_rfl
end Go.Proofs.AL.Rx
