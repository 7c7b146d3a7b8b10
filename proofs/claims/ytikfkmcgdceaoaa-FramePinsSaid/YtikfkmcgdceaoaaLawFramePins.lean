/-
  What is proved: FramePins returns true for every input (Rows.FramePinsSaid). Conditions: none beyond the statement's own.
-/
import Derived.Test.YtikfkmcgdceaoaaRows
import Derived.Test.YtikfkmcgdceaoaaWalkFramePins
import Derived.Test.YtikfkmcgdceaoaaShp
import Derived.WalkKit
import Derived.ProofKit
import Derived.OpenShut
import Derived.ShutString
import Derived.ChangeOld
import Derived.Below
set_option linter.unusedVariables false
namespace Go.Proofs.AL
open Go.RowKit
end Go.Proofs.AL
namespace Go.Proofs.Ytikfkmcgdceaoaa.framePins
open Go.ChangeShapes Go.WideShapes Go.ChangeAt Go.RowKit Go.Proofs.AL
open Go.ChangeMaps (open_string shut_string)

theorem own : ownKnob Try.prog.godebug = none := by kernel_rfl
theorem laidOut : laidOutB Try.prog = true := by kernel_rfl
theorem walk (v0 : Value) (v1 : Value) (w : World) (i0 : ∃ d, Is Try.prog w d 3 (cellsL v0)) (f0 : ∃ a, v0 = .int .i64 a) (i1 : ∃ d, Is Try.prog w d 3 (cellsL v1)) (f1 : ∃ a, v1 = .int .i64 a) :
    Calls Try.prog 3 #[v0, v1] w fun e w' => e = .returned (.bool true) ∧ Below w.heap.size w w' := by
  obtain ⟨a0, rfl⟩ := f0
  have b0 : (Lit.int .i64 a0).wf = true := by
    obtain ⟨d, i⟩ := i0
    obtain ⟨n, e, hw⟩ := i.int Try.underlying3
    injection e with e _
    injection e with _ e
    rw [e]; exact hw
  replace b0 := bounds_i64 b0
  obtain ⟨a1, rfl⟩ := f1
  have b1 : (Lit.int .i64 a1).wf = true := by
    obtain ⟨d, i⟩ := i1
    obtain ⟨n, e, hw⟩ := i.int Try.underlying3
    injection e with e _
    injection e with _ e
    rw [e]; exact hw
  replace b1 := bounds_i64 b1
  exact Calls.mono (FramePinsV (w := w) ⟨b0.1, b0.2⟩ ⟨b1.1, b1.2⟩) fun e w' ⟨x, h1, h2, h3⟩ => ⟨by rw [h1, h2], h3⟩

set_option maxRecDepth 100000 in
theorem lifted (os : Os) (started : os.Started) (H : Type) (enc : TypeId × Value → H) :
    ReturnsInHanded {} Try.checked os 3 .any (Rows.framePinsSpec.pre6 enc Try.prog Try.f3 Rows.framePinsRow.domain false) (Rows.framePinsSpec.post enc Try.prog Try.f3 false true false false) := by
  refine returnsInHanded_of_change (C := Try.checked) own started (by kernel_rfl) Try.func3
    (ChangeSpec.witness6 (enc := enc) (C := Try.checked) false ⟨#[], #[.int .i64 0, .int .i64 0], []⟩ 8 (by kernel_rfl) (by kernel_rfl) (by kernel_rfl) (by kernel_rfl)) ?_
  intro W base args ds gs before hval0 hW hcnd _
  have hval : ∀ (j : Nat) t v, Try.f3.params[j]? = some t → args[j]? = some v → Value.okWide Try.prog W .any base t v := hval0
  have hW' := hW
  obtain ⟨p, q, hA0, hV, rfl, hfz, hnd⟩ := hW
  have hA : DataW.TrodAll enc Try.prog W 0 (fun _ => true) true Try.f3.params.toList args.toList ds p := hA0
  rw [Try.params3] at hA hval
  obtain ⟨v0, vs0, d0, ds0, p0, q0, hargs, rfl, rfl, h0, r0⟩ := trodAll_cons hA
  obtain ⟨v1, vs1, d1, ds1, p1, q1, rfl, rfl, rfl, h1, r1⟩ := trodAll_cons r0
  obtain ⟨rfl, rfl, rfl⟩ := trodAll_nil r1
  obtain rfl : args = #[v0, v1] := by cases args; simp_all
  obtain ⟨rfl, rfl⟩ := trodVars_none hV
  have lt0 : ∀ x ∈ p0, x.block < W.heap.size := by obtain ⟨m, hm⟩ := h0; exact DataW.trod_lt m _ _ _ hm
  have i0 : ∃ d, Is Try.prog W d 3 (cellsL v0) := by obtain ⟨m, hm⟩ := h0; exact ⟨m, is_of_trod m _ _ _ hm⟩
  have f0 : ∃ a, v0 = .int .i64 a := okWide_int Try.underlying3 (hval 0 3 v0 rfl rfl)
  have lt1 : ∀ x ∈ p1, x.block < W.heap.size := by obtain ⟨m, hm⟩ := h1; exact DataW.trod_lt m _ _ _ hm
  have i1 : ∃ d, Is Try.prog W d 3 (cellsL v1) := by obtain ⟨m, hm⟩ := h1; exact ⟨m, is_of_trod m _ _ _ hm⟩
  have f1 : ∃ a, v1 = .int .i64 a := okWide_int Try.underlying3 (hval 1 3 v1 rfl rfl)
  clear hA0 hval0
  refine (walk v0 v1 W i0 f0 i1 f1).mono fun e W' ⟨he, bel⟩ => ?_
  subst he
  exact ⟨_, rfl, _, _, _, [], _, [], hW', trodAll_mk1 (shut_bool Try.underlying4 _), (trodAll_cons_mk (Below.trod laidOut (by kernel_rfl) (of_decide_eq_true (by kernel_rfl)) h0 bel lt0) (trodAll_cons_mk (Below.trod laidOut (by kernel_rfl) (of_decide_eq_true (by kernel_rfl)) h1 bel lt1) trodAll_mk0)), rfl, bel.frame _, fun h => by cases h⟩

theorem over : Rows.framePinsRow.holds Try.pinned (OpenSpec.ofChange Rows.framePinsSpec) :=
  OpenClaim.holds_of_wide 3 Try.f3 rfl rfl rfl rfl rfl rfl rfl ⟨rfl, rfl, rfl, rfl, rfl⟩ rfl rfl rfl rfl rfl (by kernel_rfl) Try.func3 (by kernel_rfl)
    (of_decide_eq_true (by kernel_rfl)) (by unfold Func.isWrapper; first | (rw [if_pos (by decide +kernel)]; kernel_rfl) | (rw [if_neg (by decide +kernel)]; exact ⟨rfl, rfl⟩))
    (fun os started H enc _ => lifted os started H enc)

end Go.Proofs.Ytikfkmcgdceaoaa.framePins
namespace Go.Proofs.Ytikfkmcgdceaoaa
/-- THE STATEMENT -/
theorem framePins_holds : Rows.FramePinsSaid := framePins.over
end Go.Proofs.Ytikfkmcgdceaoaa
