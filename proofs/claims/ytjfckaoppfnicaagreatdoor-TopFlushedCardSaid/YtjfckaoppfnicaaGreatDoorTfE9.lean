import Derived.Test.YtjfckaoppfnicaaGreatDoorTfD
/- the checks of those calls, in the kernel. Printed by a program of this work. -/
set_option maxRecDepth 100000
namespace Go.Proofs.AL.Rx
open Go
theorem tfm28_k : covL (xcall (cN Tryz.prog) 60 tfm28.f tfm28.vs tfm28.s) tfm28.l = true := by kernel_rfl
theorem tfm45_k : covL (xcall (cN Tryz.prog) 60 tfm45.f tfm45.vs tfm45.s) tfm45.l = true := by kernel_rfl
theorem tfm49_k : covL (xcall (cN Tryz.prog) 60 tfm49.f tfm49.vs tfm49.s) tfm49.l = true := by kernel_rfl
theorem tfm59_k : covL (xcall (cN Tryz.prog) 60 tfm59.f tfm59.vs tfm59.s) tfm59.l = true := by kernel_rfl
theorem tfm77_k : covL (xcall (cN Tryz.prog) 60 tfm77.f tfm77.vs tfm77.s) tfm77.l = true := by kernel_rfl
theorem tfm81_k : covL (xcall (cN Tryz.prog) 60 tfm81.f tfm81.vs tfm81.s) tfm81.l = true := by kernel_rfl
end Go.Proofs.AL.Rx
