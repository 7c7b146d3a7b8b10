import Derived.Test.YtjfckaoppfnicaaGreatDoorAlD
/- the checks of those calls, in the kernel. Printed by a program of this work. -/
set_option maxRecDepth 100000
namespace Go.Proofs.AL.Rx
open Go
theorem alm0_k : covL (xcall (cN Tryz.prog) 60 alm0.f alm0.vs alm0.s) alm0.l = true := by kernel_rfl
theorem alm5_k : covL (xcall (cN Tryz.prog) 60 alm5.f alm5.vs alm5.s) alm5.l = true := by kernel_rfl
theorem alm2_k : covL (xcall (cN Tryz.prog) 60 alm2.f alm2.vs alm2.s) alm2.l = true := by kernel_rfl
end Go.Proofs.AL.Rx
