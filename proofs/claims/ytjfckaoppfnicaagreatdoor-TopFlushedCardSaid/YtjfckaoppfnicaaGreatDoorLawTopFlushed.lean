/-
  ALLOTMENTTOP, TopFlushed: for every input of the five arguments the law returns true, and each argument reads behind the call as it read before: the tied card. Conditions: the row's own (the library's tables are laid as the program's text lays them).
-/
import Derived.Test.YtjfckaoppfnicaaGreatDoorRows
import Derived.Test.YtjfckaoppfnicaaGreatDoorTfG
import Derived.Test.YtjfckaoppfnicaaGreatDoorKa
import Derived.WalkKit
import Derived.LaidMore
import Derived.Lay
import Derived.SevenTiedAt
import Derived.Stop.Joined
import Derived.Test.YtjfckaoppfnicaaGreatDoorTfJ
import Derived.Test.YtjfckaoppfnicaaGreatDoorTie
import Derived.ProofKit
import Derived.OpenShut
import Derived.ShutString
import Derived.ChangeOld
import Derived.Below
set_option linter.unusedVariables false
namespace Go.Proofs.AL
open Go.RowKit
end Go.Proofs.AL
namespace Go.Proofs.YtjfckaoppfnicaaGreatDoor.topFlushed
open Go.ChangeShapes Go.WideShapes Go.ChangeAt Go.RowKit Go.Proofs.AL
open Go.ChangeMaps (open_string shut_string)

theorem own : ownKnob Tryz.prog.godebug = none := by kernel_rfl
theorem laidOut : laidOutB Tryz.prog = true := by kernel_rfl
theorem flat_bools : ∀ l : List Bool, (l.map fun b => [Value.bool b]).flatten = l.map Value.bool
  | [] => rfl
  | b :: r => by simp only [List.map_cons, List.flatten_cons]; rw [flat_bools r]; rfl
theorem le_max {n c : Nat} (h : n ≤ c) (k : c ≤ maxLen) : n ≤ 9223372036854775807 := by
  simp only [maxLen] at k; omega
theorem walk (v0 : Value) (v1 : Value) (v2 : Value) (v3 : Value) (v4 : Value) (w : World) (i0 : ∃ d, Is Tryz.prog w d 22 (cellsL v0)) (f0 : ∃ a l c, v0 = .slice a l c) (i1 : ∃ d, Is Tryz.prog w d 22 (cellsL v1)) (f1 : ∃ a l c, v1 = .slice a l c) (i2 : ∃ d, Is Tryz.prog w d 4 (cellsL v2)) (f2 : ∃ a, v2 = .bool a) (i3 : ∃ d, Is Tryz.prog w d 23 (cellsL v3)) (f3 : ∃ a l c, v3 = .slice a l c) (i4 : ∃ d, Is Tryz.prog w d 3 (cellsL v4)) (f4 : ∃ a, v4 = .int .i64 a) (hz : 0 < w.heap.size) :
    Calls Tryz.prog 3 #[v0, v1, v2, v3, v4] w fun e w' => e = .returned (.bool true) ∧ Below w.heap.size w w' := by
  obtain ⟨A0, n0, c0, rfl⟩ := f0
  obtain ⟨d0, i0⟩ := i0
  obtain ⟨A, n, c, l0, e, hr0, hn0, hc0, hm0, hz0, hw0⟩ := i0.ints Tryz.underlying22 Tryz.underlying5 (by kernel_rfl)
  obtain ⟨rfl, rfl, rfl⟩ : A0 = A ∧ n0 = n ∧ c0 = c := by
    injection e with e _
    injection e with e1 e2 e3
    exact ⟨e1, e2, e3⟩
  have hy0 := fun x hx => bounds_u8 (hw0 x hx)
  obtain ⟨A1, n1, c1, rfl⟩ := f1
  obtain ⟨d1, i1⟩ := i1
  obtain ⟨A, n, c, l1, e, hr1, hn1, hc1, hm1, hz1, hw1⟩ := i1.ints Tryz.underlying22 Tryz.underlying5 (by kernel_rfl)
  obtain ⟨rfl, rfl, rfl⟩ : A1 = A ∧ n1 = n ∧ c1 = c := by
    injection e with e _
    injection e with e1 e2 e3
    exact ⟨e1, e2, e3⟩
  have hy1 := fun x hx => bounds_u8 (hw1 x hx)
  obtain ⟨a2, rfl⟩ := f2
  obtain ⟨A3, n3, c3, rfl⟩ := f3
  obtain ⟨d3, i3⟩ := i3
  obtain ⟨d3, A, n, c, e, hc3, hm3, hz3, rows3, hn3, hr3, hi3⟩ := i3.slice Tryz.underlying23
  obtain ⟨rfl, rfl, rfl⟩ : A3 = A ∧ n3 = n ∧ c3 = c := by
    injection e with e _
    injection e with e1 e2 e3
    exact ⟨e1, e2, e3⟩
  rw [show Tryz.prog.cellsOf 4 = 1 from by kernel_rfl] at hr3 hi3
  replace hr3 := hr3 (by decide)
  obtain ⟨a4, rfl⟩ := f4
  have b4 : (Lit.int .i64 a4).wf = true := by
    obtain ⟨d, i⟩ := i4
    obtain ⟨n, e, hw⟩ := i.int Tryz.underlying3
    injection e with e _
    injection e with _ e
    rw [e]; exact hw
  replace b4 := bounds_i64 b4
  obtain ⟨l3, hl3⟩ : ∃ l3 : List Bool, rows3 = l3.map fun b => [Value.bool b] := by
    clear hr3 hn3
    induction rows3 with
    | nil => exact ⟨[], rfl⟩
    | cons r rs ih =>
      obtain ⟨l, hl⟩ := ih fun x hx => hi3 x (by simp [hx])
      obtain ⟨hlen, hr⟩ := hi3 r (by simp)
      obtain ⟨b, hb⟩ := hr.bool Tryz.underlying4
      exact ⟨b :: l, by rw [hb, hl]; rfl⟩
  subst hl3
  have hv3 : Vw tBool w 0 w.heap.size A3 n3 c3 l3 := by
    refine ⟨⟨?_, hc3, hz3, fun _ _ => Nat.zero_le _⟩, hm3, fun _ _ => trivial⟩
    rw [Rx.cells_bool, ← flat_bools]; exact hr3
  exact Rx.tf_law ⟨A0, n0, c0, l0, A1, n1, c1, l1, A3, n3, c3, l3, a4⟩ a2 w hc3 hn0 hn1 (le_max hc0 hm0) (le_max hc1 hm1) hy0 hy1 b4 hz ⟨hr0, hr1, hv3⟩

theorem heap_pos {W : World} (h : laidMetH Tryz.prog Rows.topFlushedRow.laid W) : 0 < W.heap.size := by
  rw [MakeChecks.laidMetH_plain _ _ _ (by kernel_rfl)] at h
  obtain ⟨ps, ⟨g, t, cs, fuel, p, q, hg, ht, hv, _⟩, _⟩ := h
  unfold World.var? at hv
  rw [hg, Option.bind_some] at hv
  cases hh : W.heap[g]? with
  | none => rw [hh] at hv; cases hv
  | some o => exact Nat.lt_of_le_of_lt (Nat.zero_le _) (Array.getElem?_eq_some_iff.1 hh).1
set_option maxRecDepth 100000 in
theorem lifted (os : Os) (started : os.Started) (H : Type) (enc : TypeId × Value → H) :
    ReturnsInHanded {} Tryz.checked os 3 .any (fun w args => (Rows.topFlushedSpec.pre enc Tryz.prog Tryz.f3 Rows.topFlushedRow.domain false w args ∧ laidMetH Tryz.prog Rows.topFlushedRow.laid w) ∧ sizedMet enc Tryz.prog Tryz.f3 (OpenSpec.ofChange Rows.topFlushedSpec) false w args)
      (Rows.topFlushedSpec.post enc Tryz.prog Tryz.f3 false true false false) := by
  refine returnsInHanded_of_change_and (C := Tryz.checked) (X := fun w _ => laidMetH Tryz.prog Rows.topFlushedRow.laid w) (fun _ _ _ hh h => h.of_heap hh) own started (by kernel_rfl) Tryz.func3
    (ChangeSpec.witness_shaped (enc := enc) (C := Tryz.checked) (os := os) (X := fun w _ => laidMetH Tryz.prog Rows.topFlushedRow.laid w) false (World.laidAll Tryz.prog os Rows.topFlushedRow.laid) #[.slice none 0 0, .slice none 0 0, .bool false, .slice none 0 0, .int .i64 0] 8 (World.laidAll_os _ _ _)
      (World.shaped_of_ZipB (by kernel_rfl) (by kernel_rfl)) (by kernel_rfl) (by kernel_rfl) (by kernel_rfl)
      (by rw [MakeChecks.laidMetH_plain _ _ _ (by kernel_rfl)]; exact laidMet_laidAll _ (by kernel_rfl) (by kernel_rfl))) ?_
  intro W base args ds gs before hval0 hW hcnd _ hL _
  have hpos := heap_pos hL
  have hval : ∀ (j : Nat) t v, Tryz.f3.params[j]? = some t → args[j]? = some v → Value.okWide Tryz.prog W .any base t v := hval0
  have hW' := hW
  obtain ⟨p, q, hA0, hV, rfl, hfz, hnd⟩ := hW
  have hA : DataW.TrodAll enc Tryz.prog W 0 (fun _ => true) true Tryz.f3.params.toList args.toList ds p := hA0
  rw [Tryz.params3] at hA hval
  obtain ⟨v0, vs0, d0, ds0, p0, q0, hargs, rfl, rfl, h0, r0⟩ := trodAll_cons hA
  obtain ⟨v1, vs1, d1, ds1, p1, q1, rfl, rfl, rfl, h1, r1⟩ := trodAll_cons r0
  obtain ⟨v2, vs2, d2, ds2, p2, q2, rfl, rfl, rfl, h2, r2⟩ := trodAll_cons r1
  obtain ⟨v3, vs3, d3, ds3, p3, q3, rfl, rfl, rfl, h3, r3⟩ := trodAll_cons r2
  obtain ⟨v4, vs4, d4, ds4, p4, q4, rfl, rfl, rfl, h4, r4⟩ := trodAll_cons r3
  obtain ⟨rfl, rfl, rfl⟩ := trodAll_nil r4
  obtain rfl : args = #[v0, v1, v2, v3, v4] := by cases args; simp_all
  obtain ⟨rfl, rfl⟩ := trodVars_none hV
  have lt0 : ∀ x ∈ p0, x.block < W.heap.size := by obtain ⟨m, hm⟩ := h0; exact DataW.trod_lt m _ _ _ hm
  have i0 : ∃ d, Is Tryz.prog W d 22 (cellsL v0) := by obtain ⟨m, hm⟩ := h0; exact ⟨m, is_of_trod m _ _ _ hm⟩
  have f0 : ∃ a l c, v0 = .slice a l c := okWide_slice Tryz.underlying22 (hval 0 22 v0 rfl rfl)
  have lt1 : ∀ x ∈ p1, x.block < W.heap.size := by obtain ⟨m, hm⟩ := h1; exact DataW.trod_lt m _ _ _ hm
  have i1 : ∃ d, Is Tryz.prog W d 22 (cellsL v1) := by obtain ⟨m, hm⟩ := h1; exact ⟨m, is_of_trod m _ _ _ hm⟩
  have f1 : ∃ a l c, v1 = .slice a l c := okWide_slice Tryz.underlying22 (hval 1 22 v1 rfl rfl)
  have lt2 : ∀ x ∈ p2, x.block < W.heap.size := by obtain ⟨m, hm⟩ := h2; exact DataW.trod_lt m _ _ _ hm
  have i2 : ∃ d, Is Tryz.prog W d 4 (cellsL v2) := by obtain ⟨m, hm⟩ := h2; exact ⟨m, is_of_trod m _ _ _ hm⟩
  have f2 : ∃ a, v2 = .bool a := okWide_bool Tryz.underlying4 (hval 2 4 v2 rfl rfl)
  have lt3 : ∀ x ∈ p3, x.block < W.heap.size := by obtain ⟨m, hm⟩ := h3; exact DataW.trod_lt m _ _ _ hm
  have i3 : ∃ d, Is Tryz.prog W d 23 (cellsL v3) := by obtain ⟨m, hm⟩ := h3; exact ⟨m, is_of_trod m _ _ _ hm⟩
  have f3 : ∃ a l c, v3 = .slice a l c := okWide_slice Tryz.underlying23 (hval 3 23 v3 rfl rfl)
  have lt4 : ∀ x ∈ p4, x.block < W.heap.size := by obtain ⟨m, hm⟩ := h4; exact DataW.trod_lt m _ _ _ hm
  have i4 : ∃ d, Is Tryz.prog W d 3 (cellsL v4) := by obtain ⟨m, hm⟩ := h4; exact ⟨m, is_of_trod m _ _ _ hm⟩
  have f4 : ∃ a, v4 = .int .i64 a := okWide_int Tryz.underlying3 (hval 4 3 v4 rfl rfl)
  clear hA0 hval0
  refine (walk v0 v1 v2 v3 v4 W i0 f0 i1 f1 i2 f2 i3 f3 i4 f4 hpos).mono fun e W' ⟨he, bel⟩ => ?_
  subst he
  exact ⟨_, rfl, _, _, _, [], _, [], hW', trodAll_mk1 (shut_bool Tryz.underlying4 _), (trodAll_cons_mk (Below.trod laidOut (by kernel_rfl) (of_decide_eq_true (by kernel_rfl)) h0 bel lt0) (trodAll_cons_mk (Below.trod laidOut (by kernel_rfl) (of_decide_eq_true (by kernel_rfl)) h1 bel lt1) (trodAll_cons_mk (Below.trod laidOut (by kernel_rfl) (of_decide_eq_true (by kernel_rfl)) h2 bel lt2) (trodAll_cons_mk (Below.trod laidOut (by kernel_rfl) (of_decide_eq_true (by kernel_rfl)) h3 bel lt3) (trodAll_cons_mk (Below.trod laidOut (by kernel_rfl) (of_decide_eq_true (by kernel_rfl)) h4 bel lt4) trodAll_mk0))))), rfl, bel.frame _, fun h => by cases h⟩

theorem over : Rows.topFlushedRow.holds Tryz.pinned (OpenSpec.ofChange Rows.topFlushedSpec) :=
  OpenClaim.holds_of_wide 3 Tryz.f3 rfl rfl rfl rfl rfl rfl rfl ⟨rfl, rfl, rfl, rfl, rfl⟩ rfl rfl rfl rfl rfl (by kernel_rfl) Tryz.func3 joined
    (of_decide_eq_true (by kernel_rfl)) (by unfold Func.isWrapper; first | (rw [if_pos (by decide +kernel)]; kernel_rfl) | (rw [if_neg (by decide +kernel)]; exact ⟨rfl, rfl⟩))
    (fun os started H enc _ => lifted os started H enc)

theorem card_over : Rows.TopFlushedCardSaid :=
  Claim7.holds_tied_plain_at .later [] [.data, .data, .data, .data, .sentinel, .sentinel, .pinned] true (true, "ea6834e49ce15f947441bcd5518dbc322fcd56789505f785c7850bca67c355fa") true over (fun _ h => by cases h) wft (fun _ h => by cases h) topFlushed_row_tie rfl ⟨rfl, rfl⟩ mainis rfl
    (fun f fn hf hfn => by
      obtain rfl : f = 3 := Option.some.inj ((show Tryz.prog.funcNamed "allotment/allotmenttop.TopFlushed" = some 3 by kernel_rfl).symm.trans hf) |>.symm
      obtain rfl : fn = Tryz.f3 := (Option.some.inj (Tryz.func3.symm.trans hfn)).symm
      exact ⟨looks, fun j t ht => by
        rw [Tryz.params3] at ht
        have hm : t ∈ [22, 22, 4, 23, 3] := by simpa using Array.mem_of_getElem? ht
        have hall : ([22, 22, 4, 23, 3].all fun u => !Tryz.prog.wantsStandIn u) = true := by kernel_rfl
        exact (show Tryz.prog.wantsStandIn t = false by simpa using List.all_eq_true.1 hall t hm)⟩)
    goes

end Go.Proofs.YtjfckaoppfnicaaGreatDoor.topFlushed
namespace Go.Proofs.YtjfckaoppfnicaaGreatDoor
/-- THE STATEMENT -/
theorem topFlushed_holds : Rows.TopFlushedCardSaid := topFlushed.card_over
end Go.Proofs.YtjfckaoppfnicaaGreatDoor
