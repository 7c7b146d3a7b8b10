import Derived.Test.YtjfckaoppfnicaaGreatDoorTfD
/- the checks of those calls, in the kernel. Printed by a program of this work. -/
set_option maxRecDepth 100000
namespace Go.Proofs.AL.Rx
open Go
theorem tfm10_k : covL (xcall (cN Tryz.prog) 60 tfm10.f tfm10.vs tfm10.s) tfm10.l = true := by kernel_rfl
theorem tfm27_k : covL (xcall (cN Tryz.prog) 60 tfm27.f tfm27.vs tfm27.s) tfm27.l = true := by kernel_rfl
theorem tfm44_k : covL (xcall (cN Tryz.prog) 60 tfm44.f tfm44.vs tfm44.s) tfm44.l = true := by kernel_rfl
theorem tfm57_k : covL (xcall (cN Tryz.prog) 60 tfm57.f tfm57.vs tfm57.s) tfm57.l = true := by kernel_rfl
theorem tfm68_k : covL (xcall (cN Tryz.prog) 60 tfm68.f tfm68.vs tfm68.s) tfm68.l = true := by kernel_rfl
theorem tfm69_k : covL (xcall (cN Tryz.prog) 60 tfm69.f tfm69.vs tfm69.s) tfm69.l = true := by kernel_rfl
end Go.Proofs.AL.Rx
