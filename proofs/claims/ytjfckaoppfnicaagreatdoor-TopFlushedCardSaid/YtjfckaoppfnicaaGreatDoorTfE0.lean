import Derived.Test.YtjfckaoppfnicaaGreatDoorTfD
/- the checks of those calls, in the kernel. Printed by a program of this work. -/
set_option maxRecDepth 100000
namespace Go.Proofs.AL.Rx
open Go
theorem tfm3_k : covL (xcall (cN Tryz.prog) 60 tfm3.f tfm3.vs tfm3.s) tfm3.l = true := by kernel_rfl
theorem tfm42_k : covL (xcall (cN Tryz.prog) 60 tfm42.f tfm42.vs tfm42.s) tfm42.l = true := by kernel_rfl
theorem tfm43_k : covL (xcall (cN Tryz.prog) 60 tfm43.f tfm43.vs tfm43.s) tfm43.l = true := by kernel_rfl
theorem tfm60_k : covL (xcall (cN Tryz.prog) 60 tfm60.f tfm60.vs tfm60.s) tfm60.l = true := by kernel_rfl
theorem tfm64_k : covL (xcall (cN Tryz.prog) 60 tfm64.f tfm64.vs tfm64.s) tfm64.l = true := by kernel_rfl
theorem tfm78_k : covL (xcall (cN Tryz.prog) 60 tfm78.f tfm78.vs tfm78.s) tfm78.l = true := by kernel_rfl
end Go.Proofs.AL.Rx
