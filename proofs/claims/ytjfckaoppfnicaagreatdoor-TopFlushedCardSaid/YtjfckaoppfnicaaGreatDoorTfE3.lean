import Derived.Test.YtjfckaoppfnicaaGreatDoorTfD
/- the checks of those calls, in the kernel. Printed by a program of this work. -/
set_option maxRecDepth 100000
namespace Go.Proofs.AL.Rx
open Go
theorem tfm5_k : covL (xcall (cN Tryz.prog) 60 tfm5.f tfm5.vs tfm5.s) tfm5.l = true := by kernel_rfl
theorem tfm11_k : covL (xcall (cN Tryz.prog) 60 tfm11.f tfm11.vs tfm11.s) tfm11.l = true := by kernel_rfl
theorem tfm29_k : covL (xcall (cN Tryz.prog) 60 tfm29.f tfm29.vs tfm29.s) tfm29.l = true := by kernel_rfl
theorem tfm48_k : covL (xcall (cN Tryz.prog) 60 tfm48.f tfm48.vs tfm48.s) tfm48.l = true := by kernel_rfl
theorem tfm66_k : covL (xcall (cN Tryz.prog) 60 tfm66.f tfm66.vs tfm66.s) tfm66.l = true := by kernel_rfl
theorem tfm79_k : covL (xcall (cN Tryz.prog) 60 tfm79.f tfm79.vs tfm79.s) tfm79.l = true := by kernel_rfl
end Go.Proofs.AL.Rx
