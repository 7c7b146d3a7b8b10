/-
  What is proved: ReqRound returns true for every input (Rows.ReqRoundSaid). Conditions: none beyond the statement's own.
-/
import Derived.Test.YtfckeecfppmepaaRows
import Derived.Test.YtfckeecfppmepaaWalkReqRound
import Derived.Test.YtfckeecfppmepaaShp
import Derived.WalkKit
import Derived.ProofKit
import Derived.OpenShut
import Derived.ShutString
import Derived.ChangeOld
import Derived.Below
set_option linter.unusedVariables false
namespace Go.Proofs.AL
open Go.RowKit
theorem open65 {w : World} {d : Nat} {cs : List Value} (h : Is Try.prog w d 65 cs) :
    ∃ (a0 : Int) (a1 : Int), cs = [.int .i64 a0, .int .i64 a1] ∧ ((Lit.int .i64 a0).wf = true) ∧ ((Lit.int .i64 a1).wf = true) := by
  obtain ⟨d', hl, hf⟩ := h.struct Try.underlying65
  have hl' : cs.length = 2 := hl.trans (by kernel_rfl)
  obtain ⟨y0, y1, rfl⟩ : ∃ y0 y1, cs = [y0, y1] := match cs, hl' with | [y0, y1], _ => ⟨y0, y1, rfl⟩
  have f0 : Is Try.prog w d' 3 (([y0, y1].drop 0).take (Try.prog.cellsOf 3)) := hf 0 _ rfl
  have f1 : Is Try.prog w d' 3 (([y0, y1].drop 1).take (Try.prog.cellsOf 3)) := hf 1 _ rfl
  rw [show Try.prog.cellsOf _ = 1 from (by kernel_rfl : Try.prog.cellsOf 3 = 1)] at f0
  change Is Try.prog w d' 3 [y0] at f0
  obtain ⟨a0, e0, g0⟩ := f0.int Try.underlying3
  injection e0 with e0 _
  subst e0
  rw [show Try.prog.cellsOf _ = 1 from (by kernel_rfl : Try.prog.cellsOf 3 = 1)] at f1
  change Is Try.prog w d' 3 [y1] at f1
  obtain ⟨a1, e1, g1⟩ := f1.int Try.underlying3
  injection e1 with e1 _
  subst e1
  exact ⟨a0, a1, rfl, g0, g1⟩
theorem open53 {w : World} {d : Nat} {cs : List Value} (h : Is Try.prog w d 53 cs) :
    ∃ (a0 : Int) (a1 : Int) (a2 : Int) (a3 : Int) (A4 : Option Addr) (n4 c4 : Nat) (l4 : List Int), cs = [.int .i64 a0, .int .i64 a1, .int .i64 a2, .int .i64 a3, .slice A4 n4 c4] ∧ ((Lit.int .i64 a0).wf = true) ∧ ((Lit.int .i64 a1).wf = true) ∧ ((Lit.int .i64 a2).wf = true) ∧ ((Lit.int .i64 a3).wf = true) ∧ (Rd w w.heap.size 1 A4 n4 (ints .u8 l4) ∧ l4.length = n4 ∧ n4 ≤ c4 ∧ c4 ≤ maxLen ∧ (A4 = none → c4 = 0) ∧ ∀ x ∈ l4, (Lit.int .u8 x).wf = true) := by
  obtain ⟨d', hl, hf⟩ := h.struct Try.underlying53
  have hl' : cs.length = 5 := hl.trans (by kernel_rfl)
  obtain ⟨y0, y1, y2, y3, y4, rfl⟩ : ∃ y0 y1 y2 y3 y4, cs = [y0, y1, y2, y3, y4] := match cs, hl' with | [y0, y1, y2, y3, y4], _ => ⟨y0, y1, y2, y3, y4, rfl⟩
  have f0 : Is Try.prog w d' 3 (([y0, y1, y2, y3, y4].drop 0).take (Try.prog.cellsOf 3)) := hf 0 _ rfl
  have f1 : Is Try.prog w d' 3 (([y0, y1, y2, y3, y4].drop 1).take (Try.prog.cellsOf 3)) := hf 1 _ rfl
  have f2 : Is Try.prog w d' 3 (([y0, y1, y2, y3, y4].drop 2).take (Try.prog.cellsOf 3)) := hf 2 _ rfl
  have f3 : Is Try.prog w d' 3 (([y0, y1, y2, y3, y4].drop 3).take (Try.prog.cellsOf 3)) := hf 3 _ rfl
  have f4 : Is Try.prog w d' 24 (([y0, y1, y2, y3, y4].drop 4).take (Try.prog.cellsOf 24)) := hf 4 _ rfl
  rw [show Try.prog.cellsOf _ = 1 from (by kernel_rfl : Try.prog.cellsOf 3 = 1)] at f0
  change Is Try.prog w d' 3 [y0] at f0
  obtain ⟨a0, e0, g0⟩ := f0.int Try.underlying3
  injection e0 with e0 _
  subst e0
  rw [show Try.prog.cellsOf _ = 1 from (by kernel_rfl : Try.prog.cellsOf 3 = 1)] at f1
  change Is Try.prog w d' 3 [y1] at f1
  obtain ⟨a1, e1, g1⟩ := f1.int Try.underlying3
  injection e1 with e1 _
  subst e1
  rw [show Try.prog.cellsOf _ = 1 from (by kernel_rfl : Try.prog.cellsOf 3 = 1)] at f2
  change Is Try.prog w d' 3 [y2] at f2
  obtain ⟨a2, e2, g2⟩ := f2.int Try.underlying3
  injection e2 with e2 _
  subst e2
  rw [show Try.prog.cellsOf _ = 1 from (by kernel_rfl : Try.prog.cellsOf 3 = 1)] at f3
  change Is Try.prog w d' 3 [y3] at f3
  obtain ⟨a3, e3, g3⟩ := f3.int Try.underlying3
  injection e3 with e3 _
  subst e3
  rw [show Try.prog.cellsOf _ = 1 from (by kernel_rfl : Try.prog.cellsOf 24 = 1)] at f4
  change Is Try.prog w d' 24 [y4] at f4
  obtain ⟨A4, n4, c4, l4, e4, g4⟩ := f4.ints Try.underlying24 Try.underlying5 (by kernel_rfl)
  injection e4 with e4 _
  subst e4
  exact ⟨a0, a1, a2, a3, A4, n4, c4, l4, rfl, g0, g1, g2, g3, g4⟩
end Go.Proofs.AL
namespace Go.Proofs.Ytfckeecfppmepaa.reqRound
open Go.ChangeShapes Go.WideShapes Go.ChangeAt Go.RowKit Go.Proofs.AL
open Go.ChangeMaps (open_string shut_string)

theorem own : ownKnob Try.prog.godebug = none := by kernel_rfl
theorem laidOut : laidOutB Try.prog = true := by kernel_rfl
theorem walk (v0 : Value) (v1 : Value) (w : World) (i0 : ∃ d, Is Try.prog w d 65 (cellsL v0)) (f0 : ∃ cs, v0 = .agg cs) (i1 : ∃ d, Is Try.prog w d 53 (cellsL v1)) (f1 : ∃ cs, v1 = .agg cs) :
    Calls Try.prog 13 #[v0, v1] w fun e w' => e = .returned (.bool true) ∧ Below w.heap.size w w' := by
  obtain ⟨C0, rfl⟩ := f0
  obtain ⟨d0, i0⟩ := i0
  obtain ⟨a0_0, a0_1, e, g0_0, g0_1⟩ := open65 i0
  obtain rfl : C0 = #[.int .i64 a0_0, .int .i64 a0_1] := by
    apply Array.toList_inj.1
    exact e
  obtain ⟨C1, rfl⟩ := f1
  obtain ⟨d1, i1⟩ := i1
  obtain ⟨a1_0, a1_1, a1_2, a1_3, A1_4, n1_4, c1_4, l1_4, e, g1_0, g1_1, g1_2, g1_3, g1_4⟩ := open53 i1
  obtain rfl : C1 = #[.int .i64 a1_0, .int .i64 a1_1, .int .i64 a1_2, .int .i64 a1_3, .slice A1_4 n1_4 c1_4] := by
    apply Array.toList_inj.1
    exact e
  obtain ⟨hr1, hn1, hc1, hm1, hz1, hw1⟩ := g1_4
  have hy1 := fun x hx => bounds_u8 (hw1 x hx)
  exact Calls.mono (ReqRoundV (w := w) ⟨bounds_i64 g0_0, bounds_i64 g0_1⟩ (vw_u8 hr1 hc1 hm1 hz1 hy1 rfl) ⟨bounds_i64 g1_0, bounds_i64 g1_1, bounds_i64 g1_2, bounds_i64 g1_3⟩) fun e w' ⟨x, h1, h2, h3⟩ => ⟨by rw [h1, h2], h3⟩

set_option maxRecDepth 100000 in
theorem lifted (os : Os) (started : os.Started) (H : Type) (enc : TypeId × Value → H) :
    ReturnsInHanded {} Try.checked os 13 .any (Rows.reqRoundSpec.pre6 enc Try.prog Try.f13 Rows.reqRoundRow.domain false) (Rows.reqRoundSpec.post enc Try.prog Try.f13 false true false false) := by
  refine returnsInHanded_of_change (C := Try.checked) own started (by kernel_rfl) Try.func13
    (ChangeSpec.witness6 (enc := enc) (C := Try.checked) false ⟨#[], #[.agg #[(.int .i64 0), (.int .i64 0)], .agg #[(.int .i64 0), (.int .i64 0), (.int .i64 0), (.int .i64 0), (.slice none 0 0)]], []⟩ 8 (by kernel_rfl) (by kernel_rfl) (by kernel_rfl) (by kernel_rfl)) ?_
  intro W base args ds gs before hval0 hW hcnd _
  have hval : ∀ (j : Nat) t v, Try.f13.params[j]? = some t → args[j]? = some v → Value.okWide Try.prog W .any base t v := hval0
  have hW' := hW
  obtain ⟨p, q, hA0, hV, rfl, hfz, hnd⟩ := hW
  have hA : DataW.TrodAll enc Try.prog W 0 (fun _ => true) true Try.f13.params.toList args.toList ds p := hA0
  rw [Try.params13] at hA hval
  obtain ⟨v0, vs0, d0, ds0, p0, q0, hargs, rfl, rfl, h0, r0⟩ := trodAll_cons hA
  obtain ⟨v1, vs1, d1, ds1, p1, q1, rfl, rfl, rfl, h1, r1⟩ := trodAll_cons r0
  obtain ⟨rfl, rfl, rfl⟩ := trodAll_nil r1
  obtain rfl : args = #[v0, v1] := by cases args; simp_all
  obtain ⟨rfl, rfl⟩ := trodVars_none hV
  have lt0 : ∀ x ∈ p0, x.block < W.heap.size := by obtain ⟨m, hm⟩ := h0; exact DataW.trod_lt m _ _ _ hm
  have i0 : ∃ d, Is Try.prog W d 65 (cellsL v0) := by obtain ⟨m, hm⟩ := h0; exact ⟨m, is_of_trod m _ _ _ hm⟩
  have f0 : ∃ cs, v0 = .agg cs := (fun h => let ⟨cs, e, _⟩ := okWide_struct Try.underlying65 h; ⟨cs, e⟩) (hval 0 65 v0 rfl rfl)
  have lt1 : ∀ x ∈ p1, x.block < W.heap.size := by obtain ⟨m, hm⟩ := h1; exact DataW.trod_lt m _ _ _ hm
  have i1 : ∃ d, Is Try.prog W d 53 (cellsL v1) := by obtain ⟨m, hm⟩ := h1; exact ⟨m, is_of_trod m _ _ _ hm⟩
  have f1 : ∃ cs, v1 = .agg cs := (fun h => let ⟨cs, e, _⟩ := okWide_struct Try.underlying53 h; ⟨cs, e⟩) (hval 1 53 v1 rfl rfl)
  clear hA0 hval0
  refine (walk v0 v1 W i0 f0 i1 f1).mono fun e W' ⟨he, bel⟩ => ?_
  subst he
  exact ⟨_, rfl, _, _, _, [], _, [], hW', trodAll_mk1 (shut_bool Try.underlying4 _), (trodAll_cons_mk (Below.trod laidOut (by kernel_rfl) (of_decide_eq_true (by kernel_rfl)) h0 bel lt0) (trodAll_cons_mk (Below.trod laidOut (by kernel_rfl) (of_decide_eq_true (by kernel_rfl)) h1 bel lt1) trodAll_mk0)), rfl, bel.frame _, fun h => by cases h⟩

theorem over : Rows.reqRoundRow.holds Try.pinned (OpenSpec.ofChange Rows.reqRoundSpec) :=
  OpenClaim.holds_of_wide 13 Try.f13 rfl rfl rfl rfl rfl rfl rfl ⟨rfl, rfl, rfl, rfl, rfl⟩ rfl rfl rfl rfl rfl (by kernel_rfl) Try.func13 (by kernel_rfl)
    (of_decide_eq_true (by kernel_rfl)) (by unfold Func.isWrapper; first | (rw [if_pos (by decide +kernel)]; kernel_rfl) | (rw [if_neg (by decide +kernel)]; exact ⟨rfl, rfl⟩))
    (fun os started H enc _ => lifted os started H enc)

end Go.Proofs.Ytfckeecfppmepaa.reqRound
namespace Go.Proofs.Ytfckeecfppmepaa
/-- THE STATEMENT -/
theorem reqRound_holds : Rows.ReqRoundSaid := reqRound.over
end Go.Proofs.Ytfckeecfppmepaa
