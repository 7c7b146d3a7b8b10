import Derived.Test.YtjfckaoppfnicaaGreatDoorTfD
/- the checks of those calls, in the kernel. Printed by a program of this work. -/
set_option maxRecDepth 100000
namespace Go.Proofs.AL.Rx
open Go
theorem tfm18_k : covL (xcall (cN Tryz.prog) 60 tfm18.f tfm18.vs tfm18.s) tfm18.l = true := by kernel_rfl
theorem tfm30_k : covL (xcall (cN Tryz.prog) 60 tfm30.f tfm30.vs tfm30.s) tfm30.l = true := by kernel_rfl
theorem tfm70_k : covL (xcall (cN Tryz.prog) 60 tfm70.f tfm70.vs tfm70.s) tfm70.l = true := by kernel_rfl
theorem tfm71_k : covL (xcall (cN Tryz.prog) 60 tfm71.f tfm71.vs tfm71.s) tfm71.l = true := by kernel_rfl
theorem tfm80_k : covL (xcall (cN Tryz.prog) 60 tfm80.f tfm80.vs tfm80.s) tfm80.l = true := by kernel_rfl
end Go.Proofs.AL.Rx
