import Derived.Test.YtjfckaoppfnicaaGreatDoorAlF
import Derived.Test.YtjfckaoppfnicaaGreatDoorTfE0
import Derived.Test.YtjfckaoppfnicaaGreatDoorTfE1
import Derived.Test.YtjfckaoppfnicaaGreatDoorTfE2
import Derived.Test.YtjfckaoppfnicaaGreatDoorTfE3
import Derived.Test.YtjfckaoppfnicaaGreatDoorTfE4
import Derived.Test.YtjfckaoppfnicaaGreatDoorTfE5
import Derived.Test.YtjfckaoppfnicaaGreatDoorTfE6
import Derived.Test.YtjfckaoppfnicaaGreatDoorTfE7
import Derived.Test.YtjfckaoppfnicaaGreatDoorTfE8
import Derived.Test.YtjfckaoppfnicaaGreatDoorTfE9
import Derived.Test.YtjfckaoppfnicaaGreatDoorTfE10
import Derived.Test.YtjfckaoppfnicaaGreatDoorTfE11
import Derived.Test.YtjfckaoppfnicaaGreatDoorTfE12
import Derived.Test.YtjfckaoppfnicaaGreatDoorTfE13
/- the law, run on what is told of its arguments. -/
set_option linter.unusedVariables false
set_option maxRecDepth 100000
namespace Go.Proofs.AL.Rx
open Go Go.RowKit
def tfP0 : List ME := [tfm0, tfm1, tfm2, tfm3, tfm4, tfm5, tfm6, tfm7, tfm8, tfm9, tfm10, tfm11, tfm12, tfm13, tfm14, tfm15, tfm16, tfm17, tfm18, tfm19]
theorem tfP0_ok {F : Fx} (hF : FxT F) : MeAll F Tryz.prog tfP0 :=
  MeAll.cons (MeOk.one (cN_ok hF) tfm0_k) (MeAll.cons (MeOk.one (cN_ok hF) tfm1_k) (MeAll.cons (MeOk.one (cN_ok hF) tfm2_k) (MeAll.cons (MeOk.one (cN_ok hF) tfm3_k) (MeAll.cons (MeOk.one (cN_ok hF) tfm4_k) (MeAll.cons (MeOk.one (cN_ok hF) tfm5_k) (MeAll.cons (MeOk.one (cN_ok hF) tfm6_k) (MeAll.cons (MeOk.one (cN_ok hF) tfm7_k) (MeAll.cons (MeOk.one (cN_ok hF) tfm8_k) (MeAll.cons (MeOk.one (cN_ok hF) tfm9_k) (MeAll.cons (MeOk.one (cN_ok hF) tfm10_k) (MeAll.cons (MeOk.one (cN_ok hF) tfm11_k) (MeAll.cons (MeOk.one (cN_ok hF) tfm12_k) (MeAll.cons (MeOk.one (cN_ok hF) tfm13_k) (MeAll.cons (MeOk.one (cN_ok hF) tfm14_k) (MeAll.cons (MeOk.one (cN_ok hF) tfm15_k) (MeAll.cons (MeOk.one (cN_ok hF) tfm16_k) (MeAll.cons (MeOk.one (cN_ok hF) tfm17_k) (MeAll.cons (MeOk.one (cN_ok hF) tfm18_k) (MeAll.cons (MeOk.one (cN_ok hF) tfm19_k) (MeAll.nil))))))))))))))))))))
def tfP1 : List ME := [tfm20, tfm21, tfm22, tfm23, tfm24, tfm25, tfm26, tfm27, tfm28, tfm29, tfm30, tfm31, tfm32, tfm33, tfm34, tfm35, tfm36, tfm37, tfm38, tfm39]
theorem tfP1_ok {F : Fx} (hF : FxT F) : MeAll F Tryz.prog tfP1 :=
  MeAll.cons (MeOk.one (cN_ok hF) tfm20_k) (MeAll.cons (MeOk.one (cN_ok hF) tfm21_k) (MeAll.cons (MeOk.one (cN_ok hF) tfm22_k) (MeAll.cons (MeOk.one (cN_ok hF) tfm23_k) (MeAll.cons (MeOk.one (cN_ok hF) tfm24_k) (MeAll.cons (MeOk.one (cN_ok hF) tfm25_k) (MeAll.cons (MeOk.one (cN_ok hF) tfm26_k) (MeAll.cons (MeOk.one (cN_ok hF) tfm27_k) (MeAll.cons (MeOk.one (cN_ok hF) tfm28_k) (MeAll.cons (MeOk.one (cN_ok hF) tfm29_k) (MeAll.cons (MeOk.one (cN_ok hF) tfm30_k) (MeAll.cons (MeOk.one (cN_ok hF) tfm31_k) (MeAll.cons (MeOk.one (cN_ok hF) tfm32_k) (MeAll.cons (MeOk.one (cN_ok hF) tfm33_k) (MeAll.cons (MeOk.one (cN_ok hF) tfm34_k) (MeAll.cons (MeOk.one (cN_ok hF) tfm35_k) (MeAll.cons (MeOk.one (cN_ok hF) tfm36_k) (MeAll.cons (MeOk.one (cN_ok hF) tfm37_k) (MeAll.cons (MeOk.one (cN_ok hF) tfm38_k) (MeAll.cons (MeOk.one (cN_ok hF) tfm39_k) (MeAll.nil))))))))))))))))))))
def tfP2 : List ME := [tfm40, tfm41, tfm42, tfm43, tfm44, tfm45, tfm46, tfm47, tfm48, tfm49, tfm50, tfm51, tfm52, tfm53, tfm54, tfm55, tfm56, tfm57, tfm58, tfm59]
theorem tfP2_ok {F : Fx} (hF : FxT F) : MeAll F Tryz.prog tfP2 :=
  MeAll.cons (MeOk.one (cN_ok hF) tfm40_k) (MeAll.cons (MeOk.one (cN_ok hF) tfm41_k) (MeAll.cons (MeOk.one (cN_ok hF) tfm42_k) (MeAll.cons (MeOk.one (cN_ok hF) tfm43_k) (MeAll.cons (MeOk.one (cN_ok hF) tfm44_k) (MeAll.cons (MeOk.one (cN_ok hF) tfm45_k) (MeAll.cons (MeOk.one (cN_ok hF) tfm46_k) (MeAll.cons (MeOk.one (cN_ok hF) tfm47_k) (MeAll.cons (MeOk.one (cN_ok hF) tfm48_k) (MeAll.cons (MeOk.one (cN_ok hF) tfm49_k) (MeAll.cons (MeOk.one (cN_ok hF) tfm50_k) (MeAll.cons (MeOk.one (cN_ok hF) tfm51_k) (MeAll.cons (MeOk.one (cN_ok hF) tfm52_k) (MeAll.cons (MeOk.one (cN_ok hF) tfm53_k) (MeAll.cons (MeOk.one (cN_ok hF) tfm54_k) (MeAll.cons (MeOk.one (cN_ok hF) tfm55_k) (MeAll.cons (MeOk.one (cN_ok hF) tfm56_k) (MeAll.cons (MeOk.one (cN_ok hF) tfm57_k) (MeAll.cons (MeOk.one (cN_ok hF) tfm58_k) (MeAll.cons (MeOk.one (cN_ok hF) tfm59_k) (MeAll.nil))))))))))))))))))))
def tfP3 : List ME := [tfm60, tfm61, tfm62, tfm63, tfm64, tfm65, tfm66, tfm67, tfm68, tfm69, tfm70, tfm71, tfm72, tfm73, tfm74, tfm75, tfm76, tfm77, tfm78, tfm79]
theorem tfP3_ok {F : Fx} (hF : FxT F) : MeAll F Tryz.prog tfP3 :=
  MeAll.cons (MeOk.one (cN_ok hF) tfm60_k) (MeAll.cons (MeOk.one (cN_ok hF) tfm61_k) (MeAll.cons (MeOk.one (cN_ok hF) tfm62_k) (MeAll.cons (MeOk.one (cN_ok hF) tfm63_k) (MeAll.cons (MeOk.one (cN_ok hF) tfm64_k) (MeAll.cons (MeOk.one (cN_ok hF) tfm65_k) (MeAll.cons (MeOk.one (cN_ok hF) tfm66_k) (MeAll.cons (MeOk.one (cN_ok hF) tfm67_k) (MeAll.cons (MeOk.one (cN_ok hF) tfm68_k) (MeAll.cons (MeOk.one (cN_ok hF) tfm69_k) (MeAll.cons (MeOk.one (cN_ok hF) tfm70_k) (MeAll.cons (MeOk.one (cN_ok hF) tfm71_k) (MeAll.cons (MeOk.one (cN_ok hF) tfm72_k) (MeAll.cons (MeOk.one (cN_ok hF) tfm73_k) (MeAll.cons (MeOk.one (cN_ok hF) tfm74_k) (MeAll.cons (MeOk.one (cN_ok hF) tfm75_k) (MeAll.cons (MeOk.one (cN_ok hF) tfm76_k) (MeAll.cons (MeOk.one (cN_ok hF) tfm77_k) (MeAll.cons (MeOk.one (cN_ok hF) tfm78_k) (MeAll.cons (MeOk.one (cN_ok hF) tfm79_k) (MeAll.nil))))))))))))))))))))
def tfP4 : List ME := [tfm80, tfm81]
theorem tfP4_ok {F : Fx} (hF : FxT F) : MeAll F Tryz.prog tfP4 :=
  MeAll.cons (MeOk.one (cN_ok hF) tfm80_k) (MeAll.cons (MeOk.one (cN_ok hF) tfm81_k) (MeAll.nil))
def tfAll : List ME := tfP0 ++ tfP1 ++ tfP2 ++ tfP3 ++ tfP4
theorem tfAll_ok {F : Fx} (hF : FxT F) : MeAll F Tryz.prog tfAll := (((((tfP0_ok hF).append (tfP1_ok hF)).append (tfP2_ok hF)).append (tfP3_ok hF)).append (tfP4_ok hF))
def cM (P : Program) : Cx := (cN P).plus (memoX [(11, [], .bool true)])
theorem cM_ok {F : Fx} (hF : FxT F) : OkB F (cM Tryz.prog) := (cN_ok hF).memo ⟨alive_told hF, trivial⟩
def cF (P : Program) : Cx := (cM P).plus (meXn tfAll)
theorem cF_ok {F : Fx} (hF : FxT F) : OkB F (cF Tryz.prog) := (cM_ok hF).men (tfAll_ok hF)
def tfVs (b : Bool) : List AV := [.opq 11, .opq 12, .bool b, .opq 13, .opq 15]
theorem tf_false : allTrue (xcall (cF Tryz.prog) 10 3 (tfVs false) ⟨Tr.set (some (.inv 5 5)) 40 5 .leaf, 8⟩) = true := by kernel_rfl
theorem tf_true : allTrue (xcall (cF Tryz.prog) 10 3 (tfVs true) ⟨Tr.set (some (.inv 5 5)) 40 5 .leaf, 8⟩) = true := by kernel_rfl
theorem tf_calls {F : Fx} (hF : FxT F) (b : Bool) (w : World) (h0 : 0 < w.heap.size) (harg : F.arg w.heap.size w) : Calls Tryz.prog 3 #[F.opq 11, F.opq 12, .bool b, F.opq 13, F.opq 15] w fun e w' => e = .returned (.bool true) ∧ Below w.heap.size w w' := by
  have h : allTrue (xcall (cF Tryz.prog) 10 3 (tfVs b) ⟨Tr.set (some (.inv 5 5)) 40 5 .leaf, 8⟩) = true := by
    cases b
    · exact tf_false
    · exact tf_true
  exact law_calls (c := cF Tryz.prog) (cF_ok hF) h (fun _ _ => rfl) w h0 harg
end Go.Proofs.AL.Rx
