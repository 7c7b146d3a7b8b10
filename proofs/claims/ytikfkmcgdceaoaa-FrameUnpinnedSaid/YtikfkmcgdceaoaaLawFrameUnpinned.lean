/-
  What is proved: FrameUnpinned returns true for every input (Rows.FrameUnpinnedSaid). Conditions: none beyond the statement's own.
-/
import Derived.Test.YtikfkmcgdceaoaaRows
import Derived.Test.YtikfkmcgdceaoaaWalkFrameUnpinned
import Derived.Test.YtikfkmcgdceaoaaShp
import Derived.WalkKit
import Derived.ProofKit
import Derived.OpenShut
import Derived.ShutString
import Derived.ChangeOld
import Derived.Below
set_option linter.unusedVariables false
namespace Go.Proofs.AL
open Go.RowKit
end Go.Proofs.AL
namespace Go.Proofs.Ytikfkmcgdceaoaa.frameUnpinned
open Go.ChangeShapes Go.WideShapes Go.ChangeAt Go.RowKit Go.Proofs.AL
open Go.ChangeMaps (open_string shut_string)

theorem own : ownKnob Try.prog.godebug = none := by kernel_rfl
theorem laidOut : laidOutB Try.prog = true := by kernel_rfl
theorem walk (v0 : Value) (v1 : Value) (v2 : Value) (v3 : Value) (w : World) (i0 : ∃ d, Is Try.prog w d 32 (cellsL v0)) (f0 : ∃ a l c, v0 = .slice a l c) (i1 : ∃ d, Is Try.prog w d 3 (cellsL v1)) (f1 : ∃ a, v1 = .int .i64 a) (i2 : ∃ d, Is Try.prog w d 3 (cellsL v2)) (f2 : ∃ a, v2 = .int .i64 a) (i3 : ∃ d, Is Try.prog w d 32 (cellsL v3)) (f3 : ∃ a l c, v3 = .slice a l c) :
    Calls Try.prog 6 #[v0, v1, v2, v3] w fun e w' => e = .returned (.bool true) ∧ Below w.heap.size w w' := by
  obtain ⟨A0, n0, c0, rfl⟩ := f0
  obtain ⟨d0, i0⟩ := i0
  obtain ⟨A, n, c, l0, e, hr0, hn0, hc0, hm0, hz0, hw0⟩ := i0.ints Try.underlying32 Try.underlying5 (by kernel_rfl)
  obtain ⟨rfl, rfl, rfl⟩ : A0 = A ∧ n0 = n ∧ c0 = c := by
    injection e with e _
    injection e with e1 e2 e3
    exact ⟨e1, e2, e3⟩
  have hy0 := fun x hx => bounds_u8 (hw0 x hx)
  obtain ⟨a1, rfl⟩ := f1
  have b1 : (Lit.int .i64 a1).wf = true := by
    obtain ⟨d, i⟩ := i1
    obtain ⟨n, e, hw⟩ := i.int Try.underlying3
    injection e with e _
    injection e with _ e
    rw [e]; exact hw
  replace b1 := bounds_i64 b1
  obtain ⟨a2, rfl⟩ := f2
  have b2 : (Lit.int .i64 a2).wf = true := by
    obtain ⟨d, i⟩ := i2
    obtain ⟨n, e, hw⟩ := i.int Try.underlying3
    injection e with e _
    injection e with _ e
    rw [e]; exact hw
  replace b2 := bounds_i64 b2
  obtain ⟨A3, n3, c3, rfl⟩ := f3
  obtain ⟨d3, i3⟩ := i3
  obtain ⟨A, n, c, l3, e, hr3, hn3, hc3, hm3, hz3, hw3⟩ := i3.ints Try.underlying32 Try.underlying5 (by kernel_rfl)
  obtain ⟨rfl, rfl, rfl⟩ : A3 = A ∧ n3 = n ∧ c3 = c := by
    injection e with e _
    injection e with e1 e2 e3
    exact ⟨e1, e2, e3⟩
  have hy3 := fun x hx => bounds_u8 (hw3 x hx)
  exact Calls.mono (FrameUnpinnedV (w := w) (vw_u8 hr0 hc0 hm0 hz0 hy0 rfl) ⟨b1.1, b1.2⟩ ⟨b2.1, b2.2⟩ (vw_u8 hr3 hc3 hm3 hz3 hy3 rfl)) fun e w' ⟨x, h1, h2, h3⟩ => ⟨by rw [h1, h2], h3⟩

set_option maxRecDepth 100000 in
theorem lifted (os : Os) (started : os.Started) (H : Type) (enc : TypeId × Value → H) :
    ReturnsInHanded {} Try.checked os 6 .any (Rows.frameUnpinnedSpec.pre6 enc Try.prog Try.f6 Rows.frameUnpinnedRow.domain false) (Rows.frameUnpinnedSpec.post enc Try.prog Try.f6 false true false false) := by
  refine returnsInHanded_of_change (C := Try.checked) own started (by kernel_rfl) Try.func6
    (ChangeSpec.witness6 (enc := enc) (C := Try.checked) false ⟨#[], #[.slice none 0 0, .int .i64 0, .int .i64 0, .slice none 0 0], []⟩ 8 (by kernel_rfl) (by kernel_rfl) (by kernel_rfl) (by kernel_rfl)) ?_
  intro W base args ds gs before hval0 hW hcnd _
  have hval : ∀ (j : Nat) t v, Try.f6.params[j]? = some t → args[j]? = some v → Value.okWide Try.prog W .any base t v := hval0
  have hW' := hW
  obtain ⟨p, q, hA0, hV, rfl, hfz, hnd⟩ := hW
  have hA : DataW.TrodAll enc Try.prog W 0 (fun _ => true) true Try.f6.params.toList args.toList ds p := hA0
  rw [Try.params6] at hA hval
  obtain ⟨v0, vs0, d0, ds0, p0, q0, hargs, rfl, rfl, h0, r0⟩ := trodAll_cons hA
  obtain ⟨v1, vs1, d1, ds1, p1, q1, rfl, rfl, rfl, h1, r1⟩ := trodAll_cons r0
  obtain ⟨v2, vs2, d2, ds2, p2, q2, rfl, rfl, rfl, h2, r2⟩ := trodAll_cons r1
  obtain ⟨v3, vs3, d3, ds3, p3, q3, rfl, rfl, rfl, h3, r3⟩ := trodAll_cons r2
  obtain ⟨rfl, rfl, rfl⟩ := trodAll_nil r3
  obtain rfl : args = #[v0, v1, v2, v3] := by cases args; simp_all
  obtain ⟨rfl, rfl⟩ := trodVars_none hV
  have lt0 : ∀ x ∈ p0, x.block < W.heap.size := by obtain ⟨m, hm⟩ := h0; exact DataW.trod_lt m _ _ _ hm
  have i0 : ∃ d, Is Try.prog W d 32 (cellsL v0) := by obtain ⟨m, hm⟩ := h0; exact ⟨m, is_of_trod m _ _ _ hm⟩
  have f0 : ∃ a l c, v0 = .slice a l c := okWide_slice Try.underlying32 (hval 0 32 v0 rfl rfl)
  have lt1 : ∀ x ∈ p1, x.block < W.heap.size := by obtain ⟨m, hm⟩ := h1; exact DataW.trod_lt m _ _ _ hm
  have i1 : ∃ d, Is Try.prog W d 3 (cellsL v1) := by obtain ⟨m, hm⟩ := h1; exact ⟨m, is_of_trod m _ _ _ hm⟩
  have f1 : ∃ a, v1 = .int .i64 a := okWide_int Try.underlying3 (hval 1 3 v1 rfl rfl)
  have lt2 : ∀ x ∈ p2, x.block < W.heap.size := by obtain ⟨m, hm⟩ := h2; exact DataW.trod_lt m _ _ _ hm
  have i2 : ∃ d, Is Try.prog W d 3 (cellsL v2) := by obtain ⟨m, hm⟩ := h2; exact ⟨m, is_of_trod m _ _ _ hm⟩
  have f2 : ∃ a, v2 = .int .i64 a := okWide_int Try.underlying3 (hval 2 3 v2 rfl rfl)
  have lt3 : ∀ x ∈ p3, x.block < W.heap.size := by obtain ⟨m, hm⟩ := h3; exact DataW.trod_lt m _ _ _ hm
  have i3 : ∃ d, Is Try.prog W d 32 (cellsL v3) := by obtain ⟨m, hm⟩ := h3; exact ⟨m, is_of_trod m _ _ _ hm⟩
  have f3 : ∃ a l c, v3 = .slice a l c := okWide_slice Try.underlying32 (hval 3 32 v3 rfl rfl)
  clear hA0 hval0
  refine (walk v0 v1 v2 v3 W i0 f0 i1 f1 i2 f2 i3 f3).mono fun e W' ⟨he, bel⟩ => ?_
  subst he
  exact ⟨_, rfl, _, _, _, [], _, [], hW', trodAll_mk1 (shut_bool Try.underlying4 _), (trodAll_cons_mk (Below.trod laidOut (by kernel_rfl) (of_decide_eq_true (by kernel_rfl)) h0 bel lt0) (trodAll_cons_mk (Below.trod laidOut (by kernel_rfl) (of_decide_eq_true (by kernel_rfl)) h1 bel lt1) (trodAll_cons_mk (Below.trod laidOut (by kernel_rfl) (of_decide_eq_true (by kernel_rfl)) h2 bel lt2) (trodAll_cons_mk (Below.trod laidOut (by kernel_rfl) (of_decide_eq_true (by kernel_rfl)) h3 bel lt3) trodAll_mk0)))), rfl, bel.frame _, fun h => by cases h⟩

theorem over : Rows.frameUnpinnedRow.holds Try.pinned (OpenSpec.ofChange Rows.frameUnpinnedSpec) :=
  OpenClaim.holds_of_wide 6 Try.f6 rfl rfl rfl rfl rfl rfl rfl ⟨rfl, rfl, rfl, rfl, rfl⟩ rfl rfl rfl rfl rfl (by kernel_rfl) Try.func6 (by kernel_rfl)
    (of_decide_eq_true (by kernel_rfl)) (by unfold Func.isWrapper; first | (rw [if_pos (by decide +kernel)]; kernel_rfl) | (rw [if_neg (by decide +kernel)]; exact ⟨rfl, rfl⟩))
    (fun os started H enc _ => lifted os started H enc)

end Go.Proofs.Ytikfkmcgdceaoaa.frameUnpinned
namespace Go.Proofs.Ytikfkmcgdceaoaa
/-- THE STATEMENT -/
theorem frameUnpinned_holds : Rows.FrameUnpinnedSaid := frameUnpinned.over
end Go.Proofs.Ytikfkmcgdceaoaa
