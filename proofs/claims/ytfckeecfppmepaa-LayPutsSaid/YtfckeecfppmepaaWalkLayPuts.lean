import Derived.Test.YtfckeecfppmepaaLay
set_option linter.unusedVariables false
namespace Go.Proofs.AL
open Go.RowKit
theorem LayPuts_c (A0 : Option Addr) (n0 c0 : Nat) (b : List Int) (n : Int) (A2 : Option Addr) (n2 c2 : Nat) (l : List Int) (A3 : Option Addr) (n3 c3 : Nat) (s : List Int) (w : World) (hr0 : Rd w w.heap.size 1 A0 n0 (ints .u8 b)) (hn0 : b.length = n0) (hc0 : n0 ≤ c0) (hm0 : c0 ≤ maxLen) (hz0 : A0 = none → c0 = 0) (h1 : 0 ≤ n) (h2 : n ≤ 18446744073709551615) (hr2 : Rd w w.heap.size 1 A2 n2 (ints .i64 l)) (hn2 : l.length = n2) (hc2 : n2 ≤ c2) (hm2 : c2 ≤ maxLen) (hz2 : A2 = none → c2 = 0) (hr3 : Rd w w.heap.size 1 A3 n3 (ints .u8 s)) (hn3 : s.length = n3) (hc3 : n3 ≤ c3) (hm3 : c3 ≤ maxLen) (hz3 : A3 = none → c3 = 0) :
    Calls Try.prog 4 #[.slice A0 n0 c0, .int .u64 n, .slice A2 n2 c2, .slice A3 n3 c3] w fun e w' => e = .returned (.bool true) ∧ Ext w w' := by
  unfold maxLen at hm2
  obtain ⟨f, hfd⟩ : ∃ f, f = l.take 5 := ⟨_, rfl⟩
  have hfl : f.length = min n2 5 := by rw [hfd, List.length_take]; omega
  have hm : (if (5 : Int) < (n2 : Int) then (5 : Int) else (n2 : Int)) = (f.length : Int) := by rw [hfl]; split <;> omega
  have hf : Rd w w.heap.size 1 A2 f.length (ints .i64 f) := by
    have := hr2.take1 (m := f.length) (by omega)
    rw [ints_take] at this
    rwa [show l.take f.length = f from by rw [hfl, hfd]; rcases Nat.le_total n2 5 with h | h <;> simp [Nat.min_eq_left, Nat.min_eq_right, h, List.take_of_length_le, hn2]] at this
  have hb8 := few_le b 8 (by omega)
  have hs40 := few_le s 40 (by omega)
  have hE := Ext.refl w
  refine calls_of (l := [.slice A0 n0 c0, .int .u64 n, .slice A2 n2 c2, .slice A3 n3 c3]) (N := 88) Try.func4 rfl rfl rfl ?_
  refine C_seq (C_region (RL_q rfl (Yd_assign rfl) (RL_nil (X_then (C_seq (C_region (RL_q rfl (Yd_move rfl) (RL_l rfl (Ld_call Try.func17 rfl (by kernel_rfl) rfl (Few_c A0 n0 c0 b 8 _ (hr0.ext hE) hn0 hc0 (by omega) (by omega) hz0) ?_)))))))))
  rintro e W1 ⟨A1, c1, rfl, hO, he1⟩
  refine ⟨_, rfl, ?_⟩
  replace hE := Ext.trans hE he1
  refine RL_q rfl (Yd_assign rfl) (RL_nil (X_then (C_seq (C_region (RL_q rfl (Yd_move rfl) (RL_q rfl (Yd_move rfl) (RL_q rfl (Yd_len Try.underlying22 rfl) (RL_q rfl (Yd_minw rfl rfl hm) (RL_q rfl (Yd_sliceH Try.underlying22 (sz := 1) (by kernel_rfl) rfl rfl (by omega) (by omega)) (RL_q rfl (Yd_assign rfl) (RL_nil (X_then (C_seq (C_region (RL_q rfl (Yd_move rfl) (RL_l rfl (Ld_call Try.func17 rfl (by kernel_rfl) rfl (Few_c A3 n3 c3 s 40 _ (hr3.ext hE) hn3 hc3 (by omega) (by omega) hz3) ?_)))))))))))))))))
  rintro e W2 ⟨A4, c4, rfl, hS, he2⟩
  refine ⟨_, rfl, ?_⟩
  replace hE := Ext.trans hE he2
  replace hO := hO.ext he2
  refine RL_q rfl (Yd_assign rfl) (RL_nil (X_then (C_seq (C_region (RL_q rfl (Yd_move rfl) (RL_q rfl (Yd_move rfl) (RL_l rfl (Ld_call Try.func18 rfl (by kernel_rfl) rfl (layUint_c A1 _ c1 (few b 8) n _ hO.rd rfl hO.cap.1 (by omega) (fun h => (hO.none_ h).1)) ?_))))))))
  rintro e W3 ⟨A5, c5, rfl, hX, he3⟩
  refine ⟨_, rfl, ?_⟩
  replace hE := Ext.trans hE he3
  replace hO := hO.ext he3
  replace hS := hS.ext he3
  refine RL_q rfl (Yd_assign rfl) (RL_nil (X_then (C_seq (C_region (RL_q rfl (Yd_move rfl) (RL_q rfl (Yd_move rfl) (RL_l rfl (Ld_call Try.func15 rfl (by kernel_rfl) rfl (layInts_c A1 A2 _ c1 f.length c2 (few b 8) f _ hO.rd rfl hO.cap.1 (fun h => (hO.none_ h).1) (hf.ext hE) rfl (by omega)) ?_))))))))
  rintro e W4 ⟨A6, c6, rfl, ⟨B6, hY⟩, _, _, _, he4⟩
  refine ⟨_, rfl, ?_⟩
  replace hE := Ext.trans hE he4
  replace hO := hO.ext he4
  replace hS := hS.ext he4
  replace hX := hX.ext he4
  refine RL_q rfl (Yd_assign rfl) (RL_nil (X_then (C_seq (C_region (RL_q rfl (Yd_move rfl) (RL_q rfl (Yd_move rfl) (RL_l rfl (Ld_call Try.func19 rfl (by kernel_rfl) rfl (layBytes_c A1 A4 _ c1 _ c4 (few b 8) (few s 40) _ hO.rd rfl hO.cap.1 (fun h => (hO.none_ h).1) hS.rd rfl (fun h => (hS.none_ h).1) (by omega)) ?_))))))))
  rintro e W5 ⟨A7, c7, rfl, hZ, he5⟩
  refine ⟨_, rfl, ?_⟩
  replace hE := Ext.trans hE he5
  replace hO := hO.ext he5
  replace hS := hS.ext he5
  replace hX := hX.ext he5
  replace hY := hY.ext he5
  refine RL_q rfl (Yd_assign rfl) (RL_nil (X_then (C_seq (C_region (RL_q rfl (Yd_move rfl) (RL_q rfl (Yd_str Try.underlying24 Try.underlying5 Try.underlying9 rfl hO.rd) (RL_q rfl (Yd_assign rfl) (RL_nil (X_then (C_seq (C_region (RL_q rfl (Yd_move rfl) (RL_q rfl (Yd_assign rfl) (RL_nil (X_then (C_seq (C_seq (C_region (RL_q rfl (Yd_assign rfl) (RL_nil (X_then (C_block (?_)))))))))))))))))))))))
  refine C_loop (T := Nat) (fun k => [(0, .slice A0 n0 c0), (1, .int .u64 n), (9, .slice A1 (few b 8).length c1), (10, .slice A2 f.length c2), (11, .slice A4 (few s 40).length c4), (12, .slice A5 ((few b 8).length + 8) c5), (13, .slice A6 ((few b 8).length + 8 * f.length) c6), (14, .slice A7 ((few b 8).length + 8 + (few s 40).length) c7), (15, .string (strOfNums (few b 8))), (16, .string (strOfNums (few b 8 ++ le8s (f.take k)))), (17, .int .i64 k)]) (fun k w1 => k ≤ f.length ∧ Ext W5 w1) (fun k => f.length - k) (0) ⟨rfl, rfl, rfl, rfl, rfl, rfl, rfl, rfl, rfl, (lk_of rfl (by simp [le8s])), rfl, trivial⟩ ?_ ?_
  · exact ⟨by omega, Ext.refl _⟩
  · rintro k w1 ⟨hk, hL⟩
    refine C_seq (C_seq (C_region (RL_q rfl (Yd_move rfl) (RL_q rfl (Yd_move rfl) (RL_q rfl (Yd_len Try.underlying22 rfl) (RL_q rfl (Yd_lss rfl rfl) (RL_nil (X_then (?_)))))))))
    refine C_cond rfl (fun hb => ?_) (fun hb => ?_)
    · skip
      have hb : (k : Int) < f.length := of_decide_eq_true hb
      obtain ⟨ad, rfl, _, _⟩ := (hf.ext (Ext.trans hE hL)).cells (by omega)
      have hget := ints_get .i64 f k (by omega)
      refine C_skip (X_then (C_seq (C_block (C_region (RL_q rfl (Yd_move rfl) (RL_q rfl (Yd_move rfl) (RL_q rfl (Yd_move rfl) (RL_q rfl (Yd_idx Try.underlying22 (sz := 1) (by kernel_rfl) rfl rfl (by omega) (by omega)) (RL_q rfl (Yd_load Try.underlying3 rfl rfl (ldK (hf.ext (Ext.trans hE hL)) (by omega) hget (by omega))) (RL_l rfl (Ld_call Try.func20 rfl (by kernel_rfl) rfl (refInt_c _ _) ?_)))))))))))
      rintro e W6 ⟨A8, c8, rfl, hI, he6⟩
      refine ⟨_, rfl, ?_⟩
      replace hL := Ext.trans hL he6
      refine RL_q rfl (Yd_str Try.underlying24 Try.underlying5 Try.underlying9 rfl hI.rd) (RL_q rfl (Yd_catB rfl rfl (by simp [le8s_len]; omega)) (RL_q rfl (Yd_assign rfl) (RL_nil (X_block (X_then (C_region (RL_q rfl (Yd_move rfl) (RL_q rfl (Yd_add rfl rfl (i64w (by omega) (by omega))) (RL_q rfl (Yd_assign rfl) (RL_nil (?_)))))))))))
      have hnext : (few b 8 ++ le8s (f.take k)) ++ le8 f[k] = few b 8 ++ le8s (f.take (k + 1)) := by rw [List.take_succ_eq_append_getElem (by omega), le8s_append, List.append_assoc]; simp [le8s]
      refine X_again (k + 1) ⟨rfl, rfl, rfl, rfl, rfl, rfl, rfl, rfl, rfl, (lk_of rfl (congrArg (fun b => Value.string (strOfNums b)) hnext)), rfl, trivial⟩ ?_ (by first | omega | (dsimp only; omega))
      exact ⟨by omega, hL⟩
    · skip
      have hb : ¬ (k : Int) < f.length := of_decide_eq_false hb
      obtain rfl : k = f.length := by omega
      rw [List.take_of_length_le (Nat.le_refl _)]
      replace hO := hO.ext hL
      replace hS := hS.ext hL
      replace hX := hX.ext hL
      replace hY := hY.ext hL
      replace hZ := hZ.ext hL
      replace hE := Ext.trans hE hL
      refine C_exit (X_thenE (X_thenE (X_blockE (X_then (C_seq (?_))))))
      refine C_regionD (l := [(0, true), (1, true), (2, true), (3, true), (4, false), (5, true), (6, true), (7, true), (8, true), (9, true), (10, true), (11, true), (12, true), (13, true), (14, true), (15, true), (16, true), (17, true), (18, true), (19, false), (20, true), (21, true), (22, true), (23, true), (24, true), (25, true), (26, true), (27, true), (28, false), (29, true), (30, true), (31, true), (32, true), (33, false), (34, true), (35, true)]) (by kernel_rfl) (by kernel_rfl) rfl (by kernel_rfl) (fun _ _ d _ _ h => by cases d <;> exact h) ?_
      intro W6 he6 hh6
      replace hO := hO.ext he6
      replace hS := hS.ext he6
      replace hX := hX.ext he6
      replace hY := hY.ext he6
      replace hZ := hZ.ext he6
      replace hE := Ext.trans hE he6
      refine RO_q rfl rfl (Yd_move rfl) (RO_q rfl rfl (Yd_str Try.underlying24 Try.underlying5 Try.underlying9 rfl hX.rd) (RO_q rfl rfl (Yd_move rfl) (RO_q rfl rfl (Yd_move rfl) (RO_l rfl rfl (Ld_call Try.func21 rfl (by kernel_rfl) rfl (refUint_c n _ h1 h2) ?_)))))
      rintro e W7 ⟨A9, c9, rfl, hU, he7⟩
      refine ⟨_, rfl, he7, ?_⟩
      replace hO := hO.ext he7
      replace hS := hS.ext he7
      replace hX := hX.ext he7
      replace hY := hY.ext he7
      replace hZ := hZ.ext he7
      replace hE := Ext.trans hE he7
      refine RO_q rfl rfl (Yd_str Try.underlying24 Try.underlying5 Try.underlying9 rfl hU.rd) (RO_q rfl rfl (Yd_catB rfl rfl (by simp; omega)) (RO_q rfl rfl (Yd_eqlS rfl rfl) (RO_q rfl rfl (Yd_move rfl) (?_))))
      refine RO_is (d := 61) (b' := true) rfl (str_eq rfl) ?_
      refine RO_gq rfl rfl rfl rfl (Yd_move rfl) (RO_gq rfl rfl rfl rfl (Yd_str Try.underlying24 Try.underlying5 Try.underlying9 rfl hY) (RO_gq rfl rfl rfl rfl (Yd_move rfl) (RO_gq rfl rfl rfl rfl (Yd_eqlS rfl rfl) (RO_q rfl rfl (Yd_pickT rfl rfl) (RO_q rfl rfl (Yd_move rfl) (?_))))))
      refine RO_is (d := 67) (b' := true) rfl (str_eq rfl) ?_
      refine RO_gq rfl rfl rfl rfl (Yd_move rfl) (RO_gq rfl rfl rfl rfl (Yd_str Try.underlying24 Try.underlying5 Try.underlying9 rfl hZ.rd) (RO_gq rfl rfl rfl rfl (Yd_move rfl) (RO_gq rfl rfl rfl rfl (Yd_move rfl) (RO_gl rfl rfl rfl rfl (Ld_call Try.func22 rfl (by kernel_rfl) rfl (refBytes_c A4 _ c4 (few s 40) _ hS.rd rfl (fun h => (hS.none_ h).1) (by omega)) ?_)))))
      rintro e W8 ⟨A10, c10, rfl, hT, he8⟩
      refine ⟨_, rfl, he8, ?_⟩
      replace hO := hO.ext he8
      replace hS := hS.ext he8
      replace hX := hX.ext he8
      replace hY := hY.ext he8
      replace hZ := hZ.ext he8
      replace hE := Ext.trans hE he8
      refine RO_gq rfl rfl rfl rfl (Yd_str Try.underlying24 Try.underlying5 Try.underlying9 rfl hT.rd) (RO_gq rfl rfl rfl rfl (Yd_catB rfl rfl (by simp [text]; omega)) (RO_gq rfl rfl rfl rfl (Yd_eqlS rfl rfl) (RO_q rfl rfl (Yd_pickT rfl rfl) (RO_q rfl rfl (Yd_move rfl) (?_)))))
      refine RO_is (d := 77) (b' := true) rfl (str_eq rfl) ?_
      refine RO_gq rfl rfl rfl rfl (Yd_move rfl) (RO_gq rfl rfl rfl rfl (Yd_str Try.underlying24 Try.underlying5 Try.underlying9 rfl hO.rd) (RO_gq rfl rfl rfl rfl (Yd_move rfl) (RO_gl rfl rfl rfl rfl (Ld_call Try.func17 rfl (by kernel_rfl) rfl (Few_c A0 n0 c0 b 8 _ (hr0.ext hE) hn0 hc0 (by omega) (by omega) hz0) ?_))))
      rintro e W9 ⟨A11, c11, rfl, hP, he9⟩
      refine ⟨_, rfl, he9, ?_⟩
      replace hO := hO.ext he9
      replace hS := hS.ext he9
      replace hX := hX.ext he9
      replace hY := hY.ext he9
      replace hZ := hZ.ext he9
      replace hE := Ext.trans hE he9
      refine RO_gq rfl rfl rfl rfl (Yd_str Try.underlying24 Try.underlying5 Try.underlying9 rfl hP.rd) (RO_gq rfl rfl rfl rfl (Yd_eqlS rfl rfl) (RO_q rfl rfl (Yd_pickT rfl rfl) (RO_q rfl rfl (Yd_move rfl) (?_))))
      refine RO_is (d := 85) (b' := true) rfl (str_eq rfl) ?_
      refine RO_gl rfl rfl rfl rfl (Ld_call Try.func16 rfl (by kernel_rfl) rfl (lives01_c _) ?_)
      rintro e W10 ⟨rfl, he10⟩
      refine ⟨_, rfl, he10, ?_⟩
      replace hO := hO.ext he10
      replace hS := hS.ext he10
      replace hX := hX.ext he10
      replace hY := hY.ext he10
      replace hZ := hZ.ext he10
      replace hE := Ext.trans hE he10
      refine RO_q rfl rfl (Yd_pickT rfl rfl) (RO_q rfl rfl (Yd_assign rfl) (RO_nil (X_then (C_ret (X_ret1 rfl rfl ?_)))))
      exact ⟨rfl, hE⟩
end Go.Proofs.AL
