import Derived.Test.YtjfckaoppfnicaaGreatDoorTfD
/- the checks of those calls, in the kernel. Printed by a program of this work. -/
set_option maxRecDepth 100000
namespace Go.Proofs.AL.Rx
open Go
theorem tfm22_k : covL (xcall (cN Tryz.prog) 60 tfm22.f tfm22.vs tfm22.s) tfm22.l = true := by kernel_rfl
theorem tfm39_k : covL (xcall (cN Tryz.prog) 60 tfm39.f tfm39.vs tfm39.s) tfm39.l = true := by kernel_rfl
theorem tfm50_k : covL (xcall (cN Tryz.prog) 60 tfm50.f tfm50.vs tfm50.s) tfm50.l = true := by kernel_rfl
theorem tfm61_k : covL (xcall (cN Tryz.prog) 60 tfm61.f tfm61.vs tfm61.s) tfm61.l = true := by kernel_rfl
theorem tfm62_k : covL (xcall (cN Tryz.prog) 60 tfm62.f tfm62.vs tfm62.s) tfm62.l = true := by kernel_rfl
end Go.Proofs.AL.Rx
