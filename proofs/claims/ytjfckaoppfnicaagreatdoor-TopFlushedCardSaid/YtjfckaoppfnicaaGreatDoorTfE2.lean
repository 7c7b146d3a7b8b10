import Derived.Test.YtjfckaoppfnicaaGreatDoorTfD
/- the checks of those calls, in the kernel. Printed by a program of this work. -/
set_option maxRecDepth 100000
namespace Go.Proofs.AL.Rx
open Go
theorem tfm15_k : covL (xcall (cN Tryz.prog) 60 tfm15.f tfm15.vs tfm15.s) tfm15.l = true := by kernel_rfl
theorem tfm24_k : covL (xcall (cN Tryz.prog) 60 tfm24.f tfm24.vs tfm24.s) tfm24.l = true := by kernel_rfl
theorem tfm31_k : covL (xcall (cN Tryz.prog) 60 tfm31.f tfm31.vs tfm31.s) tfm31.l = true := by kernel_rfl
theorem tfm36_k : covL (xcall (cN Tryz.prog) 60 tfm36.f tfm36.vs tfm36.s) tfm36.l = true := by kernel_rfl
theorem tfm63_k : covL (xcall (cN Tryz.prog) 60 tfm63.f tfm63.vs tfm63.s) tfm63.l = true := by kernel_rfl
theorem tfm67_k : covL (xcall (cN Tryz.prog) 60 tfm67.f tfm67.vs tfm67.s) tfm67.l = true := by kernel_rfl
end Go.Proofs.AL.Rx
