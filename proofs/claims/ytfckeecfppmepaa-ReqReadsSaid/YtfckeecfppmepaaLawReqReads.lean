/-
  What is proved: ReqReads returns true for every input (Rows.ReqReadsSaid). Conditions: none beyond the statement's own.
-/
import Derived.Test.YtfckeecfppmepaaRows
import Derived.Test.YtfckeecfppmepaaWalkReqReads
import Derived.Test.YtfckeecfppmepaaShp
import Derived.WalkKit
import Derived.ProofKit
import Derived.OpenShut
import Derived.ShutString
import Derived.ChangeOld
import Derived.Below
set_option linter.unusedVariables false
namespace Go.Proofs.AL
open Go.RowKit
theorem open65 {w : World} {d : Nat} {cs : List Value} (h : Is Try.prog w d 65 cs) :
    ∃ (a0 : Int) (a1 : Int), cs = [.int .i64 a0, .int .i64 a1] ∧ ((Lit.int .i64 a0).wf = true) ∧ ((Lit.int .i64 a1).wf = true) := by
  obtain ⟨d', hl, hf⟩ := h.struct Try.underlying65
  have hl' : cs.length = 2 := hl.trans (by kernel_rfl)
  obtain ⟨y0, y1, rfl⟩ : ∃ y0 y1, cs = [y0, y1] := match cs, hl' with | [y0, y1], _ => ⟨y0, y1, rfl⟩
  have f0 : Is Try.prog w d' 3 (([y0, y1].drop 0).take (Try.prog.cellsOf 3)) := hf 0 _ rfl
  have f1 : Is Try.prog w d' 3 (([y0, y1].drop 1).take (Try.prog.cellsOf 3)) := hf 1 _ rfl
  rw [show Try.prog.cellsOf _ = 1 from (by kernel_rfl : Try.prog.cellsOf 3 = 1)] at f0
  change Is Try.prog w d' 3 [y0] at f0
  obtain ⟨a0, e0, g0⟩ := f0.int Try.underlying3
  injection e0 with e0 _
  subst e0
  rw [show Try.prog.cellsOf _ = 1 from (by kernel_rfl : Try.prog.cellsOf 3 = 1)] at f1
  change Is Try.prog w d' 3 [y1] at f1
  obtain ⟨a1, e1, g1⟩ := f1.int Try.underlying3
  injection e1 with e1 _
  subst e1
  exact ⟨a0, a1, rfl, g0, g1⟩
theorem open53 {w : World} {d : Nat} {cs : List Value} (h : Is Try.prog w d 53 cs) :
    ∃ (a0 : Int) (a1 : Int) (a2 : Int) (a3 : Int) (A4 : Option Addr) (n4 c4 : Nat) (l4 : List Int), cs = [.int .i64 a0, .int .i64 a1, .int .i64 a2, .int .i64 a3, .slice A4 n4 c4] ∧ ((Lit.int .i64 a0).wf = true) ∧ ((Lit.int .i64 a1).wf = true) ∧ ((Lit.int .i64 a2).wf = true) ∧ ((Lit.int .i64 a3).wf = true) ∧ (Rd w w.heap.size 1 A4 n4 (ints .u8 l4) ∧ l4.length = n4 ∧ n4 ≤ c4 ∧ c4 ≤ maxLen ∧ (A4 = none → c4 = 0) ∧ ∀ x ∈ l4, (Lit.int .u8 x).wf = true) := by
  obtain ⟨d', hl, hf⟩ := h.struct Try.underlying53
  have hl' : cs.length = 5 := hl.trans (by kernel_rfl)
  obtain ⟨y0, y1, y2, y3, y4, rfl⟩ : ∃ y0 y1 y2 y3 y4, cs = [y0, y1, y2, y3, y4] := match cs, hl' with | [y0, y1, y2, y3, y4], _ => ⟨y0, y1, y2, y3, y4, rfl⟩
  have f0 : Is Try.prog w d' 3 (([y0, y1, y2, y3, y4].drop 0).take (Try.prog.cellsOf 3)) := hf 0 _ rfl
  have f1 : Is Try.prog w d' 3 (([y0, y1, y2, y3, y4].drop 1).take (Try.prog.cellsOf 3)) := hf 1 _ rfl
  have f2 : Is Try.prog w d' 3 (([y0, y1, y2, y3, y4].drop 2).take (Try.prog.cellsOf 3)) := hf 2 _ rfl
  have f3 : Is Try.prog w d' 3 (([y0, y1, y2, y3, y4].drop 3).take (Try.prog.cellsOf 3)) := hf 3 _ rfl
  have f4 : Is Try.prog w d' 24 (([y0, y1, y2, y3, y4].drop 4).take (Try.prog.cellsOf 24)) := hf 4 _ rfl
  rw [show Try.prog.cellsOf _ = 1 from (by kernel_rfl : Try.prog.cellsOf 3 = 1)] at f0
  change Is Try.prog w d' 3 [y0] at f0
  obtain ⟨a0, e0, g0⟩ := f0.int Try.underlying3
  injection e0 with e0 _
  subst e0
  rw [show Try.prog.cellsOf _ = 1 from (by kernel_rfl : Try.prog.cellsOf 3 = 1)] at f1
  change Is Try.prog w d' 3 [y1] at f1
  obtain ⟨a1, e1, g1⟩ := f1.int Try.underlying3
  injection e1 with e1 _
  subst e1
  rw [show Try.prog.cellsOf _ = 1 from (by kernel_rfl : Try.prog.cellsOf 3 = 1)] at f2
  change Is Try.prog w d' 3 [y2] at f2
  obtain ⟨a2, e2, g2⟩ := f2.int Try.underlying3
  injection e2 with e2 _
  subst e2
  rw [show Try.prog.cellsOf _ = 1 from (by kernel_rfl : Try.prog.cellsOf 3 = 1)] at f3
  change Is Try.prog w d' 3 [y3] at f3
  obtain ⟨a3, e3, g3⟩ := f3.int Try.underlying3
  injection e3 with e3 _
  subst e3
  rw [show Try.prog.cellsOf _ = 1 from (by kernel_rfl : Try.prog.cellsOf 24 = 1)] at f4
  change Is Try.prog w d' 24 [y4] at f4
  obtain ⟨A4, n4, c4, l4, e4, g4⟩ := f4.ints Try.underlying24 Try.underlying5 (by kernel_rfl)
  injection e4 with e4 _
  subst e4
  exact ⟨a0, a1, a2, a3, A4, n4, c4, l4, rfl, g0, g1, g2, g3, g4⟩
end Go.Proofs.AL
namespace Go.Proofs.Ytfckeecfppmepaa.reqReads
open Go.ChangeShapes Go.WideShapes Go.ChangeAt Go.RowKit Go.Proofs.AL
open Go.ChangeMaps (open_string shut_string)

theorem own : ownKnob Try.prog.godebug = none := by kernel_rfl
theorem laidOut : laidOutB Try.prog = true := by kernel_rfl
theorem walk (v0 : Value) (v1 : Value) (v2 : Value) (v3 : Value) (v4 : Value) (w : World) (i0 : ∃ d, Is Try.prog w d 24 (cellsL v0)) (f0 : ∃ a l c, v0 = .slice a l c) (i1 : ∃ d, Is Try.prog w d 65 (cellsL v1)) (f1 : ∃ cs, v1 = .agg cs) (i2 : ∃ d, Is Try.prog w d 53 (cellsL v2)) (f2 : ∃ cs, v2 = .agg cs) (i3 : ∃ d, Is Try.prog w d 3 (cellsL v3)) (f3 : ∃ a, v3 = .int .i64 a) (i4 : ∃ d, Is Try.prog w d 5 (cellsL v4)) (f4 : ∃ a, v4 = .int .u8 a) :
    Calls Try.prog 12 #[v0, v1, v2, v3, v4] w fun e w' => e = .returned (.bool true) ∧ Below w.heap.size w w' := by
  obtain ⟨A0, n0, c0, rfl⟩ := f0
  obtain ⟨d0, i0⟩ := i0
  obtain ⟨A, n, c, l0, e, hr0, hn0, hc0, hm0, hz0, hw0⟩ := i0.ints Try.underlying24 Try.underlying5 (by kernel_rfl)
  obtain ⟨rfl, rfl, rfl⟩ : A0 = A ∧ n0 = n ∧ c0 = c := by
    injection e with e _
    injection e with e1 e2 e3
    exact ⟨e1, e2, e3⟩
  have hy0 := fun x hx => bounds_u8 (hw0 x hx)
  obtain ⟨C1, rfl⟩ := f1
  obtain ⟨d1, i1⟩ := i1
  obtain ⟨a1_0, a1_1, e, g1_0, g1_1⟩ := open65 i1
  obtain rfl : C1 = #[.int .i64 a1_0, .int .i64 a1_1] := by
    apply Array.toList_inj.1
    exact e
  obtain ⟨C2, rfl⟩ := f2
  obtain ⟨d2, i2⟩ := i2
  obtain ⟨a2_0, a2_1, a2_2, a2_3, A2_4, n2_4, c2_4, l2_4, e, g2_0, g2_1, g2_2, g2_3, g2_4⟩ := open53 i2
  obtain rfl : C2 = #[.int .i64 a2_0, .int .i64 a2_1, .int .i64 a2_2, .int .i64 a2_3, .slice A2_4 n2_4 c2_4] := by
    apply Array.toList_inj.1
    exact e
  obtain ⟨a3, rfl⟩ := f3
  have b3 : (Lit.int .i64 a3).wf = true := by
    obtain ⟨d, i⟩ := i3
    obtain ⟨n, e, hw⟩ := i.int Try.underlying3
    injection e with e _
    injection e with _ e
    rw [e]; exact hw
  replace b3 := bounds_i64 b3
  obtain ⟨a4, rfl⟩ := f4
  have b4 : (Lit.int .u8 a4).wf = true := by
    obtain ⟨d, i⟩ := i4
    obtain ⟨n, e, hw⟩ := i.int Try.underlying5
    injection e with e _
    injection e with _ e
    rw [e]; exact hw
  replace b4 := bounds_u8 b4
  obtain ⟨hr2, hn2, hc2, hm2, hz2, hw2⟩ := g2_4
  have hy2 := fun x hx => bounds_u8 (hw2 x hx)
  exact Calls.mono (ReqReadsV (w := w) (vw_u8 hr0 hc0 hm0 hz0 hy0 rfl) ⟨bounds_i64 g1_0, bounds_i64 g1_1⟩ (vw_u8 hr2 hc2 hm2 hz2 hy2 rfl) ⟨bounds_i64 g2_0, bounds_i64 g2_1, bounds_i64 g2_2, bounds_i64 g2_3⟩ ⟨b3.1, b3.2⟩ ⟨b4.1, b4.2⟩) fun e w' ⟨x, h1, h2, h3⟩ => ⟨by rw [h1, h2], h3⟩

set_option maxRecDepth 100000 in
theorem lifted (os : Os) (started : os.Started) (H : Type) (enc : TypeId × Value → H) :
    ReturnsInHanded {} Try.checked os 12 .any (Rows.reqReadsSpec.pre6 enc Try.prog Try.f12 Rows.reqReadsRow.domain false) (Rows.reqReadsSpec.post enc Try.prog Try.f12 false true false false) := by
  refine returnsInHanded_of_change (C := Try.checked) own started (by kernel_rfl) Try.func12
    (ChangeSpec.witness6 (enc := enc) (C := Try.checked) false ⟨#[], #[.slice none 0 0, .agg #[(.int .i64 0), (.int .i64 0)], .agg #[(.int .i64 0), (.int .i64 0), (.int .i64 0), (.int .i64 0), (.slice none 0 0)], .int .i64 0, .int .u8 0], []⟩ 8 (by kernel_rfl) (by kernel_rfl) (by kernel_rfl) (by kernel_rfl)) ?_
  intro W base args ds gs before hval0 hW hcnd _
  have hval : ∀ (j : Nat) t v, Try.f12.params[j]? = some t → args[j]? = some v → Value.okWide Try.prog W .any base t v := hval0
  have hW' := hW
  obtain ⟨p, q, hA0, hV, rfl, hfz, hnd⟩ := hW
  have hA : DataW.TrodAll enc Try.prog W 0 (fun _ => true) true Try.f12.params.toList args.toList ds p := hA0
  rw [Try.params12] at hA hval
  obtain ⟨v0, vs0, d0, ds0, p0, q0, hargs, rfl, rfl, h0, r0⟩ := trodAll_cons hA
  obtain ⟨v1, vs1, d1, ds1, p1, q1, rfl, rfl, rfl, h1, r1⟩ := trodAll_cons r0
  obtain ⟨v2, vs2, d2, ds2, p2, q2, rfl, rfl, rfl, h2, r2⟩ := trodAll_cons r1
  obtain ⟨v3, vs3, d3, ds3, p3, q3, rfl, rfl, rfl, h3, r3⟩ := trodAll_cons r2
  obtain ⟨v4, vs4, d4, ds4, p4, q4, rfl, rfl, rfl, h4, r4⟩ := trodAll_cons r3
  obtain ⟨rfl, rfl, rfl⟩ := trodAll_nil r4
  obtain rfl : args = #[v0, v1, v2, v3, v4] := by cases args; simp_all
  obtain ⟨rfl, rfl⟩ := trodVars_none hV
  have lt0 : ∀ x ∈ p0, x.block < W.heap.size := by obtain ⟨m, hm⟩ := h0; exact DataW.trod_lt m _ _ _ hm
  have i0 : ∃ d, Is Try.prog W d 24 (cellsL v0) := by obtain ⟨m, hm⟩ := h0; exact ⟨m, is_of_trod m _ _ _ hm⟩
  have f0 : ∃ a l c, v0 = .slice a l c := okWide_slice Try.underlying24 (hval 0 24 v0 rfl rfl)
  have lt1 : ∀ x ∈ p1, x.block < W.heap.size := by obtain ⟨m, hm⟩ := h1; exact DataW.trod_lt m _ _ _ hm
  have i1 : ∃ d, Is Try.prog W d 65 (cellsL v1) := by obtain ⟨m, hm⟩ := h1; exact ⟨m, is_of_trod m _ _ _ hm⟩
  have f1 : ∃ cs, v1 = .agg cs := (fun h => let ⟨cs, e, _⟩ := okWide_struct Try.underlying65 h; ⟨cs, e⟩) (hval 1 65 v1 rfl rfl)
  have lt2 : ∀ x ∈ p2, x.block < W.heap.size := by obtain ⟨m, hm⟩ := h2; exact DataW.trod_lt m _ _ _ hm
  have i2 : ∃ d, Is Try.prog W d 53 (cellsL v2) := by obtain ⟨m, hm⟩ := h2; exact ⟨m, is_of_trod m _ _ _ hm⟩
  have f2 : ∃ cs, v2 = .agg cs := (fun h => let ⟨cs, e, _⟩ := okWide_struct Try.underlying53 h; ⟨cs, e⟩) (hval 2 53 v2 rfl rfl)
  have lt3 : ∀ x ∈ p3, x.block < W.heap.size := by obtain ⟨m, hm⟩ := h3; exact DataW.trod_lt m _ _ _ hm
  have i3 : ∃ d, Is Try.prog W d 3 (cellsL v3) := by obtain ⟨m, hm⟩ := h3; exact ⟨m, is_of_trod m _ _ _ hm⟩
  have f3 : ∃ a, v3 = .int .i64 a := okWide_int Try.underlying3 (hval 3 3 v3 rfl rfl)
  have lt4 : ∀ x ∈ p4, x.block < W.heap.size := by obtain ⟨m, hm⟩ := h4; exact DataW.trod_lt m _ _ _ hm
  have i4 : ∃ d, Is Try.prog W d 5 (cellsL v4) := by obtain ⟨m, hm⟩ := h4; exact ⟨m, is_of_trod m _ _ _ hm⟩
  have f4 : ∃ a, v4 = .int .u8 a := okWide_int Try.underlying5 (hval 4 5 v4 rfl rfl)
  clear hA0 hval0
  refine (walk v0 v1 v2 v3 v4 W i0 f0 i1 f1 i2 f2 i3 f3 i4 f4).mono fun e W' ⟨he, bel⟩ => ?_
  subst he
  exact ⟨_, rfl, _, _, _, [], _, [], hW', trodAll_mk1 (shut_bool Try.underlying4 _), (trodAll_cons_mk (Below.trod laidOut (by kernel_rfl) (of_decide_eq_true (by kernel_rfl)) h0 bel lt0) (trodAll_cons_mk (Below.trod laidOut (by kernel_rfl) (of_decide_eq_true (by kernel_rfl)) h1 bel lt1) (trodAll_cons_mk (Below.trod laidOut (by kernel_rfl) (of_decide_eq_true (by kernel_rfl)) h2 bel lt2) (trodAll_cons_mk (Below.trod laidOut (by kernel_rfl) (of_decide_eq_true (by kernel_rfl)) h3 bel lt3) (trodAll_cons_mk (Below.trod laidOut (by kernel_rfl) (of_decide_eq_true (by kernel_rfl)) h4 bel lt4) trodAll_mk0))))), rfl, bel.frame _, fun h => by cases h⟩

theorem over : Rows.reqReadsRow.holds Try.pinned (OpenSpec.ofChange Rows.reqReadsSpec) :=
  OpenClaim.holds_of_wide 12 Try.f12 rfl rfl rfl rfl rfl rfl rfl ⟨rfl, rfl, rfl, rfl, rfl⟩ rfl rfl rfl rfl rfl (by kernel_rfl) Try.func12 (by kernel_rfl)
    (of_decide_eq_true (by kernel_rfl)) (by unfold Func.isWrapper; first | (rw [if_pos (by decide +kernel)]; kernel_rfl) | (rw [if_neg (by decide +kernel)]; exact ⟨rfl, rfl⟩))
    (fun os started H enc _ => lifted os started H enc)

end Go.Proofs.Ytfckeecfppmepaa.reqReads
namespace Go.Proofs.Ytfckeecfppmepaa
/-- THE STATEMENT -/
theorem reqReads_holds : Rows.ReqReadsSaid := reqReads.over
end Go.Proofs.Ytfckeecfppmepaa
