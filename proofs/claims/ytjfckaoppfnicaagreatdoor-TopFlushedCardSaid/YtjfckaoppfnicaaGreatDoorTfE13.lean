import Derived.Test.YtjfckaoppfnicaaGreatDoorTfD
/- the checks of those calls, in the kernel. Printed by a program of this work. -/
set_option maxRecDepth 100000
namespace Go.Proofs.AL.Rx
open Go
theorem tfm7_k : covL (xcall (cN Tryz.prog) 60 tfm7.f tfm7.vs tfm7.s) tfm7.l = true := by kernel_rfl
theorem tfm16_k : covL (xcall (cN Tryz.prog) 60 tfm16.f tfm16.vs tfm16.s) tfm16.l = true := by kernel_rfl
theorem tfm33_k : covL (xcall (cN Tryz.prog) 60 tfm33.f tfm33.vs tfm33.s) tfm33.l = true := by kernel_rfl
theorem tfm53_k : covL (xcall (cN Tryz.prog) 60 tfm53.f tfm53.vs tfm53.s) tfm53.l = true := by kernel_rfl
theorem tfm65_k : covL (xcall (cN Tryz.prog) 60 tfm65.f tfm65.vs tfm65.s) tfm65.l = true := by kernel_rfl
theorem tfm73_k : covL (xcall (cN Tryz.prog) 60 tfm73.f tfm73.vs tfm73.s) tfm73.l = true := by kernel_rfl
end Go.Proofs.AL.Rx
