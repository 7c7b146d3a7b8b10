/-
  What is proved: CellSeals returns true for every input (Rows.CellSealsSaid). Conditions: none beyond the statement's own.
-/
import Derived.Test.YtkognjdmoibpeaaRows
import Derived.Test.YtkognjdmoibpeaaWalkCellSeals
import Derived.Test.YtkognjdmoibpeaaShp
import Derived.WalkKit
import Derived.ProofKit
import Derived.OpenShut
import Derived.ShutString
import Derived.ChangeOld
import Derived.Below
set_option linter.unusedVariables false
namespace Go.Proofs.AL
open Go.RowKit
end Go.Proofs.AL
namespace Go.Proofs.Ytkognjdmoibpeaa.cellSeals
open Go.ChangeShapes Go.WideShapes Go.ChangeAt Go.RowKit Go.Proofs.AL
open Go.ChangeMaps (open_string shut_string)

theorem own : ownKnob Try.prog.godebug = none := by kernel_rfl
theorem laidOut : laidOutB Try.prog = true := by kernel_rfl
theorem walk (v0 : Value) (w : World) (i0 : ∃ d, Is Try.prog w d 22 (cellsL v0)) (f0 : ∃ a l c, v0 = .slice a l c) :
    Calls Try.prog 13 #[v0] w fun e w' => e = .returned (.bool true) ∧ Below w.heap.size w w' := by
  obtain ⟨A0, n0, c0, rfl⟩ := f0
  obtain ⟨d0, i0⟩ := i0
  obtain ⟨A, n, c, l0, e, hr0, hn0, hc0, hm0, hz0, hw0⟩ := i0.ints Try.underlying22 Try.underlying5 (by kernel_rfl)
  obtain ⟨rfl, rfl, rfl⟩ : A0 = A ∧ n0 = n ∧ c0 = c := by
    injection e with e _
    injection e with e1 e2 e3
    exact ⟨e1, e2, e3⟩
  have hy0 := fun x hx => bounds_u8 (hw0 x hx)
  exact Calls.mono (CellSealsV (w := w) (vw_u8 hr0 hc0 hm0 hz0 hy0 rfl)) fun e w' ⟨x, h1, h2, h3⟩ => ⟨by rw [h1, h2], h3⟩

set_option maxRecDepth 100000 in
theorem lifted (os : Os) (started : os.Started) (H : Type) (enc : TypeId × Value → H) :
    ReturnsInHanded {} Try.checked os 13 .any (Rows.cellSealsSpec.pre6 enc Try.prog Try.f13 Rows.cellSealsRow.domain false) (Rows.cellSealsSpec.post enc Try.prog Try.f13 false true false false) := by
  refine returnsInHanded_of_change (C := Try.checked) own started (by kernel_rfl) Try.func13
    (ChangeSpec.witness6 (enc := enc) (C := Try.checked) false ⟨#[], #[.slice none 0 0], []⟩ 8 (by kernel_rfl) (by kernel_rfl) (by kernel_rfl) (by kernel_rfl)) ?_
  intro W base args ds gs before hval0 hW hcnd _
  have hval : ∀ (j : Nat) t v, Try.f13.params[j]? = some t → args[j]? = some v → Value.okWide Try.prog W .any base t v := hval0
  have hW' := hW
  obtain ⟨p, q, hA0, hV, rfl, hfz, hnd⟩ := hW
  have hA : DataW.TrodAll enc Try.prog W 0 (fun _ => true) true Try.f13.params.toList args.toList ds p := hA0
  rw [Try.params13] at hA hval
  obtain ⟨v0, vs0, d0, ds0, p0, q0, hargs, rfl, rfl, h0, r0⟩ := trodAll_cons hA
  obtain ⟨rfl, rfl, rfl⟩ := trodAll_nil r0
  obtain rfl : args = #[v0] := by cases args; simp_all
  obtain ⟨rfl, rfl⟩ := trodVars_none hV
  have lt0 : ∀ x ∈ p0, x.block < W.heap.size := by obtain ⟨m, hm⟩ := h0; exact DataW.trod_lt m _ _ _ hm
  have i0 : ∃ d, Is Try.prog W d 22 (cellsL v0) := by obtain ⟨m, hm⟩ := h0; exact ⟨m, is_of_trod m _ _ _ hm⟩
  have f0 : ∃ a l c, v0 = .slice a l c := okWide_slice Try.underlying22 (hval 0 22 v0 rfl rfl)
  clear hA0 hval0
  refine (walk v0 W i0 f0).mono fun e W' ⟨he, bel⟩ => ?_
  subst he
  exact ⟨_, rfl, _, _, _, [], _, [], hW', trodAll_mk1 (shut_bool Try.underlying4 _), (trodAll_cons_mk (Below.trod laidOut (by kernel_rfl) (of_decide_eq_true (by kernel_rfl)) h0 bel lt0) trodAll_mk0), rfl, bel.frame _, fun h => by cases h⟩

theorem over : Rows.cellSealsRow.holds Try.pinned (OpenSpec.ofChange Rows.cellSealsSpec) :=
  OpenClaim.holds_of_wide 13 Try.f13 rfl rfl rfl rfl rfl rfl rfl ⟨rfl, rfl, rfl, rfl, rfl⟩ rfl rfl rfl rfl rfl (by kernel_rfl) Try.func13 (by kernel_rfl)
    (of_decide_eq_true (by kernel_rfl)) (by unfold Func.isWrapper; first | (rw [if_pos (by decide +kernel)]; kernel_rfl) | (rw [if_neg (by decide +kernel)]; exact ⟨rfl, rfl⟩))
    (fun os started H enc _ => lifted os started H enc)

end Go.Proofs.Ytkognjdmoibpeaa.cellSeals
namespace Go.Proofs.Ytkognjdmoibpeaa
/-- THE STATEMENT -/
theorem cellSeals_holds : Rows.CellSealsSaid := cellSeals.over
end Go.Proofs.Ytkognjdmoibpeaa
