/-
  What is proved: ClockRounds returns true for every input (Rows.ClockRoundsSaid). Conditions: none beyond the statement's own.
-/
import Derived.Test.YtikfkmcgdceaoaaRows
import Derived.Test.YtikfkmcgdceaoaaWalkClockRounds
import Derived.Test.YtikfkmcgdceaoaaShp
import Derived.Test.YtikfkmcgdceaoaaSiz
import Derived.WalkKit
import Derived.ProofKit
import Derived.OpenShut
import Derived.ShutString
import Derived.ChangeOld
import Derived.Below
set_option linter.unusedVariables false
namespace Go.Proofs.AL
open Go.RowKit
theorem open25 {w : World} {d : Nat} {cs : List Value} (h : Is Try.prog w d 25 cs) :
    ∃ (a0 : Bool) (a1 : Bool) (a2 : Bool) (a3 : Int), cs = [.bool a0, .bool a1, .bool a2, .int .i64 a3] ∧ ((Lit.int .i64 a3).wf = true) := by
  obtain ⟨d', hl, hf⟩ := h.struct Try.underlying25
  have hl' : cs.length = 4 := hl.trans (by kernel_rfl)
  obtain ⟨y0, y1, y2, y3, rfl⟩ : ∃ y0 y1 y2 y3, cs = [y0, y1, y2, y3] := match cs, hl' with | [y0, y1, y2, y3], _ => ⟨y0, y1, y2, y3, rfl⟩
  have f0 : Is Try.prog w d' 4 (([y0, y1, y2, y3].drop 0).take (Try.prog.cellsOf 4)) := hf 0 _ rfl
  have f1 : Is Try.prog w d' 4 (([y0, y1, y2, y3].drop 1).take (Try.prog.cellsOf 4)) := hf 1 _ rfl
  have f2 : Is Try.prog w d' 4 (([y0, y1, y2, y3].drop 2).take (Try.prog.cellsOf 4)) := hf 2 _ rfl
  have f3 : Is Try.prog w d' 3 (([y0, y1, y2, y3].drop 3).take (Try.prog.cellsOf 3)) := hf 3 _ rfl
  rw [show Try.prog.cellsOf _ = 1 from (by kernel_rfl : Try.prog.cellsOf 4 = 1)] at f0
  change Is Try.prog w d' 4 [y0] at f0
  obtain ⟨a0, e0⟩ := f0.bool Try.underlying4
  injection e0 with e0 _
  subst e0
  rw [show Try.prog.cellsOf _ = 1 from (by kernel_rfl : Try.prog.cellsOf 4 = 1)] at f1
  change Is Try.prog w d' 4 [y1] at f1
  obtain ⟨a1, e1⟩ := f1.bool Try.underlying4
  injection e1 with e1 _
  subst e1
  rw [show Try.prog.cellsOf _ = 1 from (by kernel_rfl : Try.prog.cellsOf 4 = 1)] at f2
  change Is Try.prog w d' 4 [y2] at f2
  obtain ⟨a2, e2⟩ := f2.bool Try.underlying4
  injection e2 with e2 _
  subst e2
  rw [show Try.prog.cellsOf _ = 1 from (by kernel_rfl : Try.prog.cellsOf 3 = 1)] at f3
  change Is Try.prog w d' 3 [y3] at f3
  obtain ⟨a3, e3, g3⟩ := f3.int Try.underlying3
  injection e3 with e3 _
  subst e3
  exact ⟨a0, a1, a2, a3, rfl, g3⟩
end Go.Proofs.AL
namespace Go.Proofs.Ytikfkmcgdceaoaa.clockRounds
open Go.ChangeShapes Go.WideShapes Go.ChangeAt Go.RowKit Go.Proofs.AL
open Go.ChangeMaps (open_string shut_string)

theorem own : ownKnob Try.prog.godebug = none := by kernel_rfl
theorem laidOut : laidOutB Try.prog = true := by kernel_rfl
theorem walk (v0 : Value) (v1 : Value) (w : World) (i0 : ∃ d, Is Try.prog w d 56 (cellsL v0)) (f0 : ∃ a l c, v0 = .slice a l c) (i1 : ∃ d, Is Try.prog w d 3 (cellsL v1)) (f1 : ∃ a, v1 = .int .i64 a) (z0 : ∀ a l c, v0 = .slice a l c → l * 16 ≤ 140737488351232) :
    Calls Try.prog 12 #[v0, v1] w fun e w' => e = .returned (.bool true) ∧ Below w.heap.size w w' := by
  obtain ⟨A0, n0, c0, rfl⟩ := f0
  obtain ⟨d0, i0⟩ := i0
  obtain ⟨d0, A, n, c, e, hc0, hm0, hz0, rows0, hn0, hr0, hi0⟩ := i0.slice Try.underlying56
  obtain ⟨rfl, rfl, rfl⟩ : A0 = A ∧ n0 = n ∧ c0 = c := by
    injection e with e _
    injection e with e1 e2 e3
    exact ⟨e1, e2, e3⟩
  rw [show Try.prog.cellsOf 25 = 4 from by kernel_rfl] at hr0 hi0
  replace hr0 := hr0 (by decide)
  obtain ⟨a1, rfl⟩ := f1
  have b1 : (Lit.int .i64 a1).wf = true := by
    obtain ⟨d, i⟩ := i1
    obtain ⟨n, e, hw⟩ := i.int Try.underlying3
    injection e with e _
    injection e with _ e
    rw [e]; exact hw
  replace b1 := bounds_i64 b1
  replace z0 := z0 _ _ _ rfl
  obtain ⟨l, hl⟩ := vw_rows (T := tF) hr0 hc0 hm0 hz0 (fun r hr => by
    obtain ⟨a0, a1, a2, a3, e, g3⟩ := open25 (hi0 r hr).2
    exact ⟨⟨a0, a1, a2, a3⟩, e, bounds_i64 g3⟩)
  exact Calls.mono (ClockRoundsV (w := w) hl ⟨b1.1, b1.2⟩ z0) fun e w' ⟨x, h1, h2, h3⟩ => ⟨by rw [h1, h2], h3⟩

set_option maxRecDepth 100000 in
theorem lifted (os : Os) (started : os.Started) (H : Type) (enc : TypeId × Value → H) :
    ReturnsInHanded {} Try.checked os 12 .any (Rows.clockRoundsSpec.pre6 enc Try.prog Try.f12 Rows.clockRoundsRow.domain false) (Rows.clockRoundsSpec.post enc Try.prog Try.f12 false true false false) := by
  refine returnsInHanded_of_change_sized (C := Try.checked) own started (by kernel_rfl) Try.func12
    (ChangeSpec.witness6 (enc := enc) (C := Try.checked) false ⟨#[], #[.slice none 0 0, .int .i64 0], []⟩ 8 (by kernel_rfl) (by kernel_rfl) (by kernel_rfl) (by kernel_rfl)) ?_
  intro W base args ds gs before hval0 hW hcnd hsz _
  have hval : ∀ (j : Nat) t v, Try.f12.params[j]? = some t → args[j]? = some v → Value.okWide Try.prog W .any base t v := hval0
  have hW' := hW
  obtain ⟨p, q, hA0, hV, rfl, hfz, hnd⟩ := hW
  have hA : DataW.TrodAll enc Try.prog W 0 (fun _ => true) true Try.f12.params.toList args.toList ds p := hA0
  rw [Try.params12] at hA hval
  obtain ⟨v0, vs0, d0, ds0, p0, q0, hargs, rfl, rfl, h0, r0⟩ := trodAll_cons hA
  obtain ⟨v1, vs1, d1, ds1, p1, q1, rfl, rfl, rfl, h1, r1⟩ := trodAll_cons r0
  obtain ⟨rfl, rfl, rfl⟩ := trodAll_nil r1
  obtain rfl : args = #[v0, v1] := by cases args; simp_all
  obtain ⟨rfl, rfl⟩ := trodVars_none hV
  have lt0 : ∀ x ∈ p0, x.block < W.heap.size := by obtain ⟨m, hm⟩ := h0; exact DataW.trod_lt m _ _ _ hm
  have i0 : ∃ d, Is Try.prog W d 56 (cellsL v0) := by obtain ⟨m, hm⟩ := h0; exact ⟨m, is_of_trod m _ _ _ hm⟩
  have f0 : ∃ a l c, v0 = .slice a l c := okWide_slice Try.underlying56 (hval 0 56 v0 rfl rfl)
  have lt1 : ∀ x ∈ p1, x.block < W.heap.size := by obtain ⟨m, hm⟩ := h1; exact DataW.trod_lt m _ _ _ hm
  have i1 : ∃ d, Is Try.prog W d 3 (cellsL v1) := by obtain ⟨m, hm⟩ := h1; exact ⟨m, is_of_trod m _ _ _ hm⟩
  have f1 : ∃ a, v1 = .int .i64 a := okWide_int Try.underlying3 (hval 1 3 v1 rfl rfl)
  have z0 : ∀ a l c, v0 = .slice a l c → l * 16 ≤ 140737488351232 := sized_arg (j := 0) hsz rfl rfl Try.underlying56 (by kernel_rfl) h0
  clear hA0 hval0
  refine (walk v0 v1 W i0 f0 i1 f1 z0).mono fun e W' ⟨he, bel⟩ => ?_
  subst he
  exact ⟨_, rfl, _, _, _, [], _, [], hW', trodAll_mk1 (shut_bool Try.underlying4 _), (trodAll_cons_mk (Below.trod laidOut (by kernel_rfl) (of_decide_eq_true (by kernel_rfl)) h0 bel lt0) (trodAll_cons_mk (Below.trod laidOut (by kernel_rfl) (of_decide_eq_true (by kernel_rfl)) h1 bel lt1) trodAll_mk0)), rfl, bel.frame _, fun h => by cases h⟩

theorem over : Rows.clockRoundsRow.holds Try.pinned (OpenSpec.ofChange Rows.clockRoundsSpec) :=
  OpenClaim.holds_of_wide 12 Try.f12 rfl rfl rfl rfl rfl rfl rfl ⟨rfl, rfl, rfl, rfl, rfl⟩ rfl rfl rfl rfl rfl (by kernel_rfl) Try.func12 (by kernel_rfl)
    (of_decide_eq_true (by kernel_rfl)) (by unfold Func.isWrapper; first | (rw [if_pos (by decide +kernel)]; kernel_rfl) | (rw [if_neg (by decide +kernel)]; exact ⟨rfl, rfl⟩))
    (fun os started H enc _ => lifted os started H enc)

end Go.Proofs.Ytikfkmcgdceaoaa.clockRounds
namespace Go.Proofs.Ytikfkmcgdceaoaa
/-- THE STATEMENT -/
theorem clockRounds_holds : Rows.ClockRoundsSaid := clockRounds.over
end Go.Proofs.Ytikfkmcgdceaoaa
