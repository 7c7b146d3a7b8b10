import Derived.Test.YtjfckaoppfnicaaGreatDoorTfD
/- the checks of those calls, in the kernel. Printed by a program of this work. -/
set_option maxRecDepth 100000
namespace Go.Proofs.AL.Rx
open Go
theorem tfm13_k : covL (xcall (cN Tryz.prog) 60 tfm13.f tfm13.vs tfm13.s) tfm13.l = true := by kernel_rfl
theorem tfm14_k : covL (xcall (cN Tryz.prog) 60 tfm14.f tfm14.vs tfm14.s) tfm14.l = true := by kernel_rfl
theorem tfm19_k : covL (xcall (cN Tryz.prog) 60 tfm19.f tfm19.vs tfm19.s) tfm19.l = true := by kernel_rfl
theorem tfm26_k : covL (xcall (cN Tryz.prog) 60 tfm26.f tfm26.vs tfm26.s) tfm26.l = true := by kernel_rfl
theorem tfm40_k : covL (xcall (cN Tryz.prog) 60 tfm40.f tfm40.vs tfm40.s) tfm40.l = true := by kernel_rfl
theorem tfm58_k : covL (xcall (cN Tryz.prog) 60 tfm58.f tfm58.vs tfm58.s) tfm58.l = true := by kernel_rfl
end Go.Proofs.AL.Rx
