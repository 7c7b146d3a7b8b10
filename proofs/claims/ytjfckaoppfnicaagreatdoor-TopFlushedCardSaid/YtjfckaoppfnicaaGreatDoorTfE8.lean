import Derived.Test.YtjfckaoppfnicaaGreatDoorTfD
/- the checks of those calls, in the kernel. Printed by a program of this work. -/
set_option maxRecDepth 100000
namespace Go.Proofs.AL.Rx
open Go
theorem tfm0_k : covL (xcall (cN Tryz.prog) 60 tfm0.f tfm0.vs tfm0.s) tfm0.l = true := by kernel_rfl
theorem tfm2_k : covL (xcall (cN Tryz.prog) 60 tfm2.f tfm2.vs tfm2.s) tfm2.l = true := by kernel_rfl
theorem tfm21_k : covL (xcall (cN Tryz.prog) 60 tfm21.f tfm21.vs tfm21.s) tfm21.l = true := by kernel_rfl
theorem tfm34_k : covL (xcall (cN Tryz.prog) 60 tfm34.f tfm34.vs tfm34.s) tfm34.l = true := by kernel_rfl
theorem tfm41_k : covL (xcall (cN Tryz.prog) 60 tfm41.f tfm41.vs tfm41.s) tfm41.l = true := by kernel_rfl
theorem tfm52_k : covL (xcall (cN Tryz.prog) 60 tfm52.f tfm52.vs tfm52.s) tfm52.l = true := by kernel_rfl
end Go.Proofs.AL.Rx
