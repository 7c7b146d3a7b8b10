import Derived.Test.YtjfckaoppfnicaaGreatDoorTfD
/- the checks of those calls, in the kernel. Printed by a program of this work. -/
set_option maxRecDepth 100000
namespace Go.Proofs.AL.Rx
open Go
theorem tfm4_k : covL (xcall (cN Tryz.prog) 60 tfm4.f tfm4.vs tfm4.s) tfm4.l = true := by kernel_rfl
theorem tfm9_k : covL (xcall (cN Tryz.prog) 60 tfm9.f tfm9.vs tfm9.s) tfm9.l = true := by kernel_rfl
theorem tfm17_k : covL (xcall (cN Tryz.prog) 60 tfm17.f tfm17.vs tfm17.s) tfm17.l = true := by kernel_rfl
theorem tfm23_k : covL (xcall (cN Tryz.prog) 60 tfm23.f tfm23.vs tfm23.s) tfm23.l = true := by kernel_rfl
theorem tfm25_k : covL (xcall (cN Tryz.prog) 60 tfm25.f tfm25.vs tfm25.s) tfm25.l = true := by kernel_rfl
theorem tfm32_k : covL (xcall (cN Tryz.prog) 60 tfm32.f tfm32.vs tfm32.s) tfm32.l = true := by kernel_rfl
theorem tfm56_k : covL (xcall (cN Tryz.prog) 60 tfm56.f tfm56.vs tfm56.s) tfm56.l = true := by kernel_rfl
end Go.Proofs.AL.Rx
