import Derived.Test.YtjfckaoppfnicaaGreatDoorTfD
/- the checks of those calls, in the kernel. Printed by a program of this work. -/
set_option maxRecDepth 100000
namespace Go.Proofs.AL.Rx
open Go
theorem tfm1_k : covL (xcall (cN Tryz.prog) 60 tfm1.f tfm1.vs tfm1.s) tfm1.l = true := by kernel_rfl
theorem tfm8_k : covL (xcall (cN Tryz.prog) 60 tfm8.f tfm8.vs tfm8.s) tfm8.l = true := by kernel_rfl
theorem tfm20_k : covL (xcall (cN Tryz.prog) 60 tfm20.f tfm20.vs tfm20.s) tfm20.l = true := by kernel_rfl
theorem tfm37_k : covL (xcall (cN Tryz.prog) 60 tfm37.f tfm37.vs tfm37.s) tfm37.l = true := by kernel_rfl
theorem tfm75_k : covL (xcall (cN Tryz.prog) 60 tfm75.f tfm75.vs tfm75.s) tfm75.l = true := by kernel_rfl
theorem tfm76_k : covL (xcall (cN Tryz.prog) 60 tfm76.f tfm76.vs tfm76.s) tfm76.l = true := by kernel_rfl
end Go.Proofs.AL.Rx
