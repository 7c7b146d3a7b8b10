import Derived.Test.YtjfckaoppfnicaaGreatDoorAlD
/- the checks of those calls, in the kernel. Printed by a program of this work. -/
set_option maxRecDepth 100000
namespace Go.Proofs.AL.Rx
open Go
theorem alm3_k : covL (xcall (cN Tryz.prog) 60 alm3.f alm3.vs alm3.s) alm3.l = true := by kernel_rfl
end Go.Proofs.AL.Rx
