/-
  What is proved: SuperRound returns true for every input (Rows.SuperRoundSaid). Conditions: none beyond the statement's own.
-/
import Derived.Test.YtefidipfedjpbaaRows
import Derived.Test.YtefidipfedjpbaaWalkSuperRound
import Derived.Test.YtefidipfedjpbaaShp
import Derived.WalkKit
import Derived.ProofKit
import Derived.OpenShut
import Derived.ShutString
import Derived.ChangeOld
import Derived.Below
set_option linter.unusedVariables false
namespace Go.Proofs.AL
open Go.RowKit
theorem open24 {w : World} {d : Nat} {cs : List Value} (h : Is Try.prog w d 24 cs) :
    ∃ (a0 : Int) (a1 : Int) (a2 : Int) (A3 : Option Addr) (n3 c3 : Nat) (rows3 : List (List Value)) (d3 : Nat), cs = [.int .i64 a0, .int .i64 a1, .int .i64 a2, .slice A3 n3 c3] ∧ ((Lit.int .i64 a0).wf = true) ∧ ((Lit.int .i64 a1).wf = true) ∧ ((Lit.int .i64 a2).wf = true) ∧ (Rd w w.heap.size 3 A3 n3 rows3.flatten ∧ rows3.length = n3 ∧ n3 ≤ c3 ∧ c3 ≤ maxLen ∧ (A3 = none → c3 = 0) ∧ ∀ r ∈ rows3, r.length = 3 ∧ Is Try.prog w d3 35 r) := by
  obtain ⟨d', hl, hf⟩ := h.struct Try.underlying24
  have hl' : cs.length = 4 := hl.trans (by kernel_rfl)
  obtain ⟨y0, y1, y2, y3, rfl⟩ : ∃ y0 y1 y2 y3, cs = [y0, y1, y2, y3] := match cs, hl' with | [y0, y1, y2, y3], _ => ⟨y0, y1, y2, y3, rfl⟩
  have f0 : Is Try.prog w d' 3 (([y0, y1, y2, y3].drop 0).take (Try.prog.cellsOf 3)) := hf 0 _ rfl
  have f1 : Is Try.prog w d' 3 (([y0, y1, y2, y3].drop 1).take (Try.prog.cellsOf 3)) := hf 1 _ rfl
  have f2 : Is Try.prog w d' 3 (([y0, y1, y2, y3].drop 2).take (Try.prog.cellsOf 3)) := hf 2 _ rfl
  have f3 : Is Try.prog w d' 22 (([y0, y1, y2, y3].drop 3).take (Try.prog.cellsOf 22)) := hf 3 _ rfl
  rw [show Try.prog.cellsOf _ = 1 from (by kernel_rfl : Try.prog.cellsOf 3 = 1)] at f0
  change Is Try.prog w d' 3 [y0] at f0
  obtain ⟨a0, e0, g0⟩ := f0.int Try.underlying3
  injection e0 with e0 _
  subst e0
  rw [show Try.prog.cellsOf _ = 1 from (by kernel_rfl : Try.prog.cellsOf 3 = 1)] at f1
  change Is Try.prog w d' 3 [y1] at f1
  obtain ⟨a1, e1, g1⟩ := f1.int Try.underlying3
  injection e1 with e1 _
  subst e1
  rw [show Try.prog.cellsOf _ = 1 from (by kernel_rfl : Try.prog.cellsOf 3 = 1)] at f2
  change Is Try.prog w d' 3 [y2] at f2
  obtain ⟨a2, e2, g2⟩ := f2.int Try.underlying3
  injection e2 with e2 _
  subst e2
  rw [show Try.prog.cellsOf _ = 1 from (by kernel_rfl : Try.prog.cellsOf 22 = 1)] at f3
  change Is Try.prog w d' 22 [y3] at f3
  obtain ⟨d3, A3, n3, c3, e3, hc3, hm3, hz3, rows3, hn3, hr3, hi3⟩ := f3.slice Try.underlying22
  rw [show Try.prog.cellsOf 35 = 3 from by kernel_rfl] at hr3 hi3
  injection e3 with e3 _
  subst e3
  exact ⟨a0, a1, a2, A3, n3, c3, rows3, d3, rfl, g0, g1, g2, ⟨hr3 (by decide), hn3, hc3, hm3, hz3, hi3⟩⟩
theorem open35 {w : World} {d : Nat} {cs : List Value} (h : Is Try.prog w d 35 cs) :
    ∃ (a0 : Int) (a1 : Int) (a2 : Int), cs = [.int .i64 a0, .int .i64 a1, .int .i64 a2] ∧ ((Lit.int .i64 a0).wf = true) ∧ ((Lit.int .i64 a1).wf = true) ∧ ((Lit.int .i64 a2).wf = true) := by
  obtain ⟨d', hl, hf⟩ := h.struct Try.underlying35
  have hl' : cs.length = 3 := hl.trans (by kernel_rfl)
  obtain ⟨y0, y1, y2, rfl⟩ : ∃ y0 y1 y2, cs = [y0, y1, y2] := match cs, hl' with | [y0, y1, y2], _ => ⟨y0, y1, y2, rfl⟩
  have f0 : Is Try.prog w d' 3 (([y0, y1, y2].drop 0).take (Try.prog.cellsOf 3)) := hf 0 _ rfl
  have f1 : Is Try.prog w d' 3 (([y0, y1, y2].drop 1).take (Try.prog.cellsOf 3)) := hf 1 _ rfl
  have f2 : Is Try.prog w d' 3 (([y0, y1, y2].drop 2).take (Try.prog.cellsOf 3)) := hf 2 _ rfl
  rw [show Try.prog.cellsOf _ = 1 from (by kernel_rfl : Try.prog.cellsOf 3 = 1)] at f0
  change Is Try.prog w d' 3 [y0] at f0
  obtain ⟨a0, e0, g0⟩ := f0.int Try.underlying3
  injection e0 with e0 _
  subst e0
  rw [show Try.prog.cellsOf _ = 1 from (by kernel_rfl : Try.prog.cellsOf 3 = 1)] at f1
  change Is Try.prog w d' 3 [y1] at f1
  obtain ⟨a1, e1, g1⟩ := f1.int Try.underlying3
  injection e1 with e1 _
  subst e1
  rw [show Try.prog.cellsOf _ = 1 from (by kernel_rfl : Try.prog.cellsOf 3 = 1)] at f2
  change Is Try.prog w d' 3 [y2] at f2
  obtain ⟨a2, e2, g2⟩ := f2.int Try.underlying3
  injection e2 with e2 _
  subst e2
  exact ⟨a0, a1, a2, rfl, g0, g1, g2⟩
end Go.Proofs.AL
namespace Go.Proofs.Ytefidipfedjpbaa.superRound
open Go.ChangeShapes Go.WideShapes Go.ChangeAt Go.RowKit Go.Proofs.AL
open Go.ChangeMaps (open_string shut_string)

theorem own : ownKnob Try.prog.godebug = none := by kernel_rfl
theorem laidOut : laidOutB Try.prog = true := by kernel_rfl
theorem walk (v0 : Value) (v1 : Value) (v2 : Value) (v3 : Value) (w : World) (i0 : ∃ d, Is Try.prog w d 3 (cellsL v0)) (f0 : ∃ a, v0 = .int .i64 a) (i1 : ∃ d, Is Try.prog w d 24 (cellsL v1)) (f1 : ∃ cs, v1 = .agg cs) (i2 : ∃ d, Is Try.prog w d 3 (cellsL v2)) (f2 : ∃ a, v2 = .int .i64 a) (i3 : ∃ d, Is Try.prog w d 5 (cellsL v3)) (f3 : ∃ a, v3 = .int .u8 a) :
    Calls Try.prog 13 #[v0, v1, v2, v3] w fun e w' => e = .returned (.bool true) ∧ Below w.heap.size w w' := by
  obtain ⟨a0, rfl⟩ := f0
  have b0 : (Lit.int .i64 a0).wf = true := by
    obtain ⟨d, i⟩ := i0
    obtain ⟨n, e, hw⟩ := i.int Try.underlying3
    injection e with e _
    injection e with _ e
    rw [e]; exact hw
  replace b0 := bounds_i64 b0
  obtain ⟨C1, rfl⟩ := f1
  obtain ⟨d1, i1⟩ := i1
  obtain ⟨a1_0, a1_1, a1_2, A1_3, n1_3, c1_3, rows1_3, d1_3, e, g1_0, g1_1, g1_2, g1_3⟩ := open24 i1
  obtain rfl : C1 = #[.int .i64 a1_0, .int .i64 a1_1, .int .i64 a1_2, .slice A1_3 n1_3 c1_3] := by
    apply Array.toList_inj.1
    exact e
  obtain ⟨a2, rfl⟩ := f2
  have b2 : (Lit.int .i64 a2).wf = true := by
    obtain ⟨d, i⟩ := i2
    obtain ⟨n, e, hw⟩ := i.int Try.underlying3
    injection e with e _
    injection e with _ e
    rw [e]; exact hw
  replace b2 := bounds_i64 b2
  obtain ⟨a3, rfl⟩ := f3
  have b3 : (Lit.int .u8 a3).wf = true := by
    obtain ⟨d, i⟩ := i3
    obtain ⟨n, e, hw⟩ := i.int Try.underlying5
    injection e with e _
    injection e with _ e
    rw [e]; exact hw
  replace b3 := bounds_u8 b3
  obtain ⟨hr1, hn1, hc1, hm1, hz1, hi1⟩ := g1_3
  obtain ⟨l1, hl1⟩ := vw_rows (T := tP) hr1 hc1 hm1 hz1 (fun r hr => by
    obtain ⟨a0, a1, a2, e, g0, g1, g2⟩ := open35 (hi1 r hr).2
    exact ⟨⟨a0, a1, a2⟩, e, bounds_i64 g0, bounds_i64 g1, bounds_i64 g2⟩)
  exact Calls.mono (SuperRoundV (w := w)  ⟨b0.1, b0.2⟩ hl1 ⟨(bounds_i64 g1_0).1, (bounds_i64 g1_0).2, (bounds_i64 g1_1).1, (bounds_i64 g1_1).2, (bounds_i64 g1_2).1, (bounds_i64 g1_2).2⟩ ⟨b2.1, b2.2⟩ ⟨b3.1, b3.2⟩) fun e w' ⟨x, h1, h2, h3⟩ => ⟨by rw [h1, h2], h3⟩

set_option maxRecDepth 100000 in
theorem lifted (os : Os) (started : os.Started) (H : Type) (enc : TypeId × Value → H) :
    ReturnsInHanded {} Try.checked os 13 .any (Rows.superRoundSpec.pre6 enc Try.prog Try.f13 Rows.superRoundRow.domain false) (Rows.superRoundSpec.post enc Try.prog Try.f13 false true false false) := by
  refine returnsInHanded_of_change (C := Try.checked) own started (by kernel_rfl) Try.func13
    (ChangeSpec.witness6 (enc := enc) (C := Try.checked) false ⟨#[], #[.int .i64 0, .agg #[(.int .i64 0), (.int .i64 0), (.int .i64 0), (.slice none 0 0)], .int .i64 0, .int .u8 0], []⟩ 8 (by kernel_rfl) (by kernel_rfl) (by kernel_rfl) (by kernel_rfl)) ?_
  intro W base args ds gs before hval0 hW hcnd _
  have hval : ∀ (j : Nat) t v, Try.f13.params[j]? = some t → args[j]? = some v → Value.okWide Try.prog W .any base t v := hval0
  have hW' := hW
  obtain ⟨p, q, hA0, hV, rfl, hfz, hnd⟩ := hW
  have hA : DataW.TrodAll enc Try.prog W 0 (fun _ => true) true Try.f13.params.toList args.toList ds p := hA0
  rw [Try.params13] at hA hval
  obtain ⟨v0, vs0, d0, ds0, p0, q0, hargs, rfl, rfl, h0, r0⟩ := trodAll_cons hA
  obtain ⟨v1, vs1, d1, ds1, p1, q1, rfl, rfl, rfl, h1, r1⟩ := trodAll_cons r0
  obtain ⟨v2, vs2, d2, ds2, p2, q2, rfl, rfl, rfl, h2, r2⟩ := trodAll_cons r1
  obtain ⟨v3, vs3, d3, ds3, p3, q3, rfl, rfl, rfl, h3, r3⟩ := trodAll_cons r2
  obtain ⟨rfl, rfl, rfl⟩ := trodAll_nil r3
  obtain rfl : args = #[v0, v1, v2, v3] := by cases args; simp_all
  obtain ⟨rfl, rfl⟩ := trodVars_none hV
  have lt0 : ∀ x ∈ p0, x.block < W.heap.size := by obtain ⟨m, hm⟩ := h0; exact DataW.trod_lt m _ _ _ hm
  have i0 : ∃ d, Is Try.prog W d 3 (cellsL v0) := by obtain ⟨m, hm⟩ := h0; exact ⟨m, is_of_trod m _ _ _ hm⟩
  have f0 : ∃ a, v0 = .int .i64 a := okWide_int Try.underlying3 (hval 0 3 v0 rfl rfl)
  have lt1 : ∀ x ∈ p1, x.block < W.heap.size := by obtain ⟨m, hm⟩ := h1; exact DataW.trod_lt m _ _ _ hm
  have i1 : ∃ d, Is Try.prog W d 24 (cellsL v1) := by obtain ⟨m, hm⟩ := h1; exact ⟨m, is_of_trod m _ _ _ hm⟩
  have f1 : ∃ cs, v1 = .agg cs := (fun h => let ⟨cs, e, _⟩ := okWide_struct Try.underlying24 h; ⟨cs, e⟩) (hval 1 24 v1 rfl rfl)
  have lt2 : ∀ x ∈ p2, x.block < W.heap.size := by obtain ⟨m, hm⟩ := h2; exact DataW.trod_lt m _ _ _ hm
  have i2 : ∃ d, Is Try.prog W d 3 (cellsL v2) := by obtain ⟨m, hm⟩ := h2; exact ⟨m, is_of_trod m _ _ _ hm⟩
  have f2 : ∃ a, v2 = .int .i64 a := okWide_int Try.underlying3 (hval 2 3 v2 rfl rfl)
  have lt3 : ∀ x ∈ p3, x.block < W.heap.size := by obtain ⟨m, hm⟩ := h3; exact DataW.trod_lt m _ _ _ hm
  have i3 : ∃ d, Is Try.prog W d 5 (cellsL v3) := by obtain ⟨m, hm⟩ := h3; exact ⟨m, is_of_trod m _ _ _ hm⟩
  have f3 : ∃ a, v3 = .int .u8 a := okWide_int Try.underlying5 (hval 3 5 v3 rfl rfl)
  clear hA0 hval0
  refine (walk v0 v1 v2 v3 W i0 f0 i1 f1 i2 f2 i3 f3).mono fun e W' ⟨he, bel⟩ => ?_
  subst he
  exact ⟨_, rfl, _, _, _, [], _, [], hW', trodAll_mk1 (shut_bool Try.underlying4 _), (trodAll_cons_mk (Below.trod laidOut (by kernel_rfl) (of_decide_eq_true (by kernel_rfl)) h0 bel lt0) (trodAll_cons_mk (Below.trod laidOut (by kernel_rfl) (of_decide_eq_true (by kernel_rfl)) h1 bel lt1) (trodAll_cons_mk (Below.trod laidOut (by kernel_rfl) (of_decide_eq_true (by kernel_rfl)) h2 bel lt2) (trodAll_cons_mk (Below.trod laidOut (by kernel_rfl) (of_decide_eq_true (by kernel_rfl)) h3 bel lt3) trodAll_mk0)))), rfl, bel.frame _, fun h => by cases h⟩

theorem over : Rows.superRoundRow.holds Try.pinned (OpenSpec.ofChange Rows.superRoundSpec) :=
  OpenClaim.holds_of_wide 13 Try.f13 rfl rfl rfl rfl rfl rfl rfl ⟨rfl, rfl, rfl, rfl, rfl⟩ rfl rfl rfl rfl rfl (by kernel_rfl) Try.func13 (by kernel_rfl)
    (of_decide_eq_true (by kernel_rfl)) (by unfold Func.isWrapper; first | (rw [if_pos (by decide +kernel)]; kernel_rfl) | (rw [if_neg (by decide +kernel)]; exact ⟨rfl, rfl⟩))
    (fun os started H enc _ => lifted os started H enc)

end Go.Proofs.Ytefidipfedjpbaa.superRound
namespace Go.Proofs.Ytefidipfedjpbaa
/-- THE STATEMENT -/
theorem superRound_holds : Rows.SuperRoundSaid := superRound.over
end Go.Proofs.Ytefidipfedjpbaa
