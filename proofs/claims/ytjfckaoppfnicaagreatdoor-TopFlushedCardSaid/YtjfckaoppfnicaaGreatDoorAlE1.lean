import Derived.Test.YtjfckaoppfnicaaGreatDoorAlD
/- the checks of those calls, in the kernel. Printed by a program of this work. -/
set_option maxRecDepth 100000
namespace Go.Proofs.AL.Rx
open Go
theorem alm1_k : covL (xcall (cN Tryz.prog) 60 alm1.f alm1.vs alm1.s) alm1.l = true := by kernel_rfl
theorem alm4_k : covL (xcall (cN Tryz.prog) 60 alm4.f alm4.vs alm4.s) alm4.l = true := by kernel_rfl
end Go.Proofs.AL.Rx
