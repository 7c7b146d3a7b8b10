import Derived.Test.YtjfckaoppfnicaaGreatDoorTfD
/- the checks of those calls, in the kernel. Printed by a program of this work. -/
set_option maxRecDepth 100000
namespace Go.Proofs.AL.Rx
open Go
theorem tfm6_k : covL (xcall (cN Tryz.prog) 60 tfm6.f tfm6.vs tfm6.s) tfm6.l = true := by kernel_rfl
theorem tfm47_k : covL (xcall (cN Tryz.prog) 60 tfm47.f tfm47.vs tfm47.s) tfm47.l = true := by kernel_rfl
theorem tfm51_k : covL (xcall (cN Tryz.prog) 60 tfm51.f tfm51.vs tfm51.s) tfm51.l = true := by kernel_rfl
theorem tfm55_k : covL (xcall (cN Tryz.prog) 60 tfm55.f tfm55.vs tfm55.s) tfm55.l = true := by kernel_rfl
theorem tfm72_k : covL (xcall (cN Tryz.prog) 60 tfm72.f tfm72.vs tfm72.s) tfm72.l = true := by kernel_rfl
end Go.Proofs.AL.Rx
