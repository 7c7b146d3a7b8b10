/-
  What is proved: LayReads returns true for every input (Rows.LayReadsSaid). Conditions: none beyond the statement's own.
-/
import Derived.Test.YtfckeecfppmepaaRows
import Derived.Test.YtfckeecfppmepaaWalkLayReads
import Derived.Test.YtfckeecfppmepaaShp
import Derived.WalkKit
import Derived.ProofKit
import Derived.OpenShut
import Derived.ShutString
import Derived.ChangeOld
import Derived.Below
set_option linter.unusedVariables false
namespace Go.Proofs.AL
open Go.RowKit
end Go.Proofs.AL
namespace Go.Proofs.Ytfckeecfppmepaa.layReads
open Go.ChangeShapes Go.WideShapes Go.ChangeAt Go.RowKit Go.Proofs.AL
open Go.ChangeMaps (open_string shut_string)

theorem own : ownKnob Try.prog.godebug = none := by kernel_rfl
theorem laidOut : laidOutB Try.prog = true := by kernel_rfl
theorem pairs_of {P : Program} {w : World} {d e q : Nat} (he : P.underlying e = some (.array 2 q)) (hq : P.underlying q = some (.int .i64)) (hc : P.cellsOf q = 1) : ∀ (rows : List (List Value)), (∀ r ∈ rows, r.length = 2 ∧ Is P w d e r) → ∃ qs, rows.flatten = pairs qs ∧ qs.length = rows.length ∧ ∀ p ∈ qs, -9223372036854775808 ≤ p.1 ∧ p.1 ≤ 9223372036854775807 ∧ -9223372036854775808 ≤ p.2 ∧ p.2 ≤ 9223372036854775807 := by
  intro rows
  induction rows with
  | nil => intro _; exact ⟨[], rfl, rfl, fun p hp => by cases hp⟩
  | cons r rows ih =>
    intro h
    obtain ⟨qs, e1, e2, e3⟩ := ih (fun r hr => h r (by simp [hr]))
    obtain ⟨hl, hr⟩ := h r (by simp)
    obtain ⟨d', _, hx⟩ := hr.array he
    obtain ⟨y0, y1, rfl⟩ : ∃ y0 y1, r = [y0, y1] := match r, hl with | [y0, y1], _ => ⟨y0, y1, rfl⟩
    have h0 := hx 0 (by omega)
    have h1 := hx 1 (by omega)
    rw [hc] at h0 h1
    obtain ⟨a, ea, ga⟩ := Is.int (cs := [y0]) hq h0
    obtain ⟨b, eb, gb⟩ := Is.int (cs := [y1]) hq h1
    injection ea with ea _
    injection eb with eb _
    subst ea eb
    have ha := bounds_i64 ga
    have hb := bounds_i64 gb
    refine ⟨(a, b) :: qs, by rw [List.flatten_cons, e1]; rfl, by simp [e2], fun p hp => ?_⟩
    rcases List.mem_cons.1 hp with rfl | hp
    · exact ⟨ha.1, ha.2, hb.1, hb.2⟩
    · exact e3 p hp
theorem walk (v0 : Value) (v1 : Value) (w : World) (i0 : ∃ d, Is Try.prog w d 24 (cellsL v0)) (f0 : ∃ a l c, v0 = .slice a l c) (i1 : ∃ d, Is Try.prog w d 46 (cellsL v1)) (f1 : ∃ a l c, v1 = .slice a l c) :
    Calls Try.prog 6 #[v0, v1] w fun e w' => e = .returned (.bool true) ∧ Below w.heap.size w w' := by
  obtain ⟨A0, n0, c0, rfl⟩ := f0
  obtain ⟨d0, i0⟩ := i0
  obtain ⟨A, n, c, l0, e, hr0, hn0, hc0, hm0, hz0, hw0⟩ := i0.ints Try.underlying24 Try.underlying5 (by kernel_rfl)
  obtain ⟨rfl, rfl, rfl⟩ : A0 = A ∧ n0 = n ∧ c0 = c := by
    injection e with e _
    injection e with e1 e2 e3
    exact ⟨e1, e2, e3⟩
  have hy0 := fun x hx => bounds_u8 (hw0 x hx)
  obtain ⟨A1, n1, c1, rfl⟩ := f1
  obtain ⟨d1, i1⟩ := i1
  obtain ⟨d1, A, n, c, e, hc1, hm1, hz1, rows1, hn1, hr1, hi1⟩ := i1.slice Try.underlying46
  obtain ⟨rfl, rfl, rfl⟩ : A1 = A ∧ n1 = n ∧ c1 = c := by
    injection e with e _
    injection e with e1 e2 e3
    exact ⟨e1, e2, e3⟩
  rw [show Try.prog.cellsOf 47 = 2 from by kernel_rfl] at hr1 hi1
  replace hr1 := hr1 (by decide)
  obtain ⟨qs, hq, hqn, hqb⟩ := pairs_of Try.underlying47 Try.underlying3 (by kernel_rfl) rows1 hi1
  rw [hq] at hr1
  exact LayReads_c A0 n0 c0 l0 A1 n1 c1 qs w hr0 hn0 hc0 hm0 hz0 hy0 hr1 (hqn.trans hn1) hqb

set_option maxRecDepth 100000 in
theorem lifted (os : Os) (started : os.Started) (H : Type) (enc : TypeId × Value → H) :
    ReturnsInHanded {} Try.checked os 6 .any (Rows.layReadsSpec.pre6 enc Try.prog Try.f6 Rows.layReadsRow.domain false) (Rows.layReadsSpec.post enc Try.prog Try.f6 false true false false) := by
  refine returnsInHanded_of_change (C := Try.checked) own started (by kernel_rfl) Try.func6
    (ChangeSpec.witness6 (enc := enc) (C := Try.checked) false ⟨#[], #[.slice none 0 0, .slice none 0 0], []⟩ 8 (by kernel_rfl) (by kernel_rfl) (by kernel_rfl) (by kernel_rfl)) ?_
  intro W base args ds gs before hval0 hW hcnd _
  have hval : ∀ (j : Nat) t v, Try.f6.params[j]? = some t → args[j]? = some v → Value.okWide Try.prog W .any base t v := hval0
  have hW' := hW
  obtain ⟨p, q, hA0, hV, rfl, hfz, hnd⟩ := hW
  have hA : DataW.TrodAll enc Try.prog W 0 (fun _ => true) true Try.f6.params.toList args.toList ds p := hA0
  rw [Try.params6] at hA hval
  obtain ⟨v0, vs0, d0, ds0, p0, q0, hargs, rfl, rfl, h0, r0⟩ := trodAll_cons hA
  obtain ⟨v1, vs1, d1, ds1, p1, q1, rfl, rfl, rfl, h1, r1⟩ := trodAll_cons r0
  obtain ⟨rfl, rfl, rfl⟩ := trodAll_nil r1
  obtain rfl : args = #[v0, v1] := by cases args; simp_all
  obtain ⟨rfl, rfl⟩ := trodVars_none hV
  have lt0 : ∀ x ∈ p0, x.block < W.heap.size := by obtain ⟨m, hm⟩ := h0; exact DataW.trod_lt m _ _ _ hm
  have i0 : ∃ d, Is Try.prog W d 24 (cellsL v0) := by obtain ⟨m, hm⟩ := h0; exact ⟨m, is_of_trod m _ _ _ hm⟩
  have f0 : ∃ a l c, v0 = .slice a l c := okWide_slice Try.underlying24 (hval 0 24 v0 rfl rfl)
  have lt1 : ∀ x ∈ p1, x.block < W.heap.size := by obtain ⟨m, hm⟩ := h1; exact DataW.trod_lt m _ _ _ hm
  have i1 : ∃ d, Is Try.prog W d 46 (cellsL v1) := by obtain ⟨m, hm⟩ := h1; exact ⟨m, is_of_trod m _ _ _ hm⟩
  have f1 : ∃ a l c, v1 = .slice a l c := okWide_slice Try.underlying46 (hval 1 46 v1 rfl rfl)
  clear hA0 hval0
  refine (walk v0 v1 W i0 f0 i1 f1).mono fun e W' ⟨he, bel⟩ => ?_
  subst he
  exact ⟨_, rfl, _, _, _, [], _, [], hW', trodAll_mk1 (shut_bool Try.underlying4 _), (trodAll_cons_mk (Below.trod laidOut (by kernel_rfl) (of_decide_eq_true (by kernel_rfl)) h0 bel lt0) (trodAll_cons_mk (Below.trod laidOut (by kernel_rfl) (of_decide_eq_true (by kernel_rfl)) h1 bel lt1) trodAll_mk0)), rfl, bel.frame _, fun h => by cases h⟩

theorem over : Rows.layReadsRow.holds Try.pinned (OpenSpec.ofChange Rows.layReadsSpec) :=
  OpenClaim.holds_of_wide 6 Try.f6 rfl rfl rfl rfl rfl rfl rfl ⟨rfl, rfl, rfl, rfl, rfl⟩ rfl rfl rfl rfl rfl (by kernel_rfl) Try.func6 (by kernel_rfl)
    (of_decide_eq_true (by kernel_rfl)) (by unfold Func.isWrapper; first | (rw [if_pos (by decide +kernel)]; kernel_rfl) | (rw [if_neg (by decide +kernel)]; exact ⟨rfl, rfl⟩))
    (fun os started H enc _ => lifted os started H enc)

end Go.Proofs.Ytfckeecfppmepaa.layReads
namespace Go.Proofs.Ytfckeecfppmepaa
/-- THE STATEMENT -/
theorem layReads_holds : Rows.LayReadsSaid := layReads.over
end Go.Proofs.Ytfckeecfppmepaa
