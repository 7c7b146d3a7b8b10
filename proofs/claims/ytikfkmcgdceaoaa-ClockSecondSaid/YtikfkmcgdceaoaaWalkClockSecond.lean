import Derived.Test.YtikfkmcgdceaoaaSpec
set_option linter.unusedVariables false
set_option linter.unusedSimpArgs false
namespace Go.Proofs.AL
open Go.RowKit
theorem ClockSecondV {n : Int} {hand : Int} {w : World}  (b_n : -9223372036854775808 ≤ n ∧ n ≤ 9223372036854775807) (b_hand : -9223372036854775808 ≤ hand ∧ hand ≤ 9223372036854775807) :
    Calls Try.prog 13 #[.int .i64 n, .int .i64 hand] w fun e w' => ∃ (x0 : Bool), e = .returned (.bool x0) ∧ x0 = (true) ∧ Ext w w' := by
  have hE := Ext.refl w
  refine calls_of (l := [.int .i64 n, .int .i64 hand]) (N := 85) Try.func13 rfl rfl rfl ?_
  refine C_seq (C_region (RL_q rfl (Yd_assign rfl) (RL_nil (X_then (C_seq (C_region (RL_q rfl (Yd_move rfl) (RL_l rfl (Ld_call Try.func15 rfl (by kernel_rfl) rfl (AroundV ⟨by first | omega | (dsimp only; omega), by first | omega | (dsimp only; omega)⟩ ⟨by first | omega | (dsimp only; omega), by first | omega | (dsimp only; omega)⟩) ?_)))))))))
  rintro e W1 ⟨y15, rfl, hy15, hra15, rfl⟩
  refine ⟨_, rfl, ?_⟩
  refine RL_q rfl (Yd_add rfl rfl (i64w (by omega) (by omega))) (RL_q rfl (Yd_assign rfl) (RL_nil (X_then (C_seq (C_region (RL_q rfl (Yd_move rfl) (RL_q rfl (Yd_move rfl) (RL_l rfl (Ld_call Try.func15 rfl (by kernel_rfl) rfl (AroundV ⟨by first | omega | (dsimp only; omega), by first | omega | (dsimp only; omega)⟩ ⟨by first | omega | (dsimp only; omega), by first | omega | (dsimp only; omega)⟩) ?_)))))))))
  rintro e W2 ⟨y19, rfl, hy19, hra19, rfl⟩
  refine ⟨_, rfl, ?_⟩
  refine RL_q rfl (Yd_assign rfl) (RL_nil (X_then (C_seq (C_region (RL_q rfl (Yd_assign rfl) (RL_nil (X_then (C_seq (C_seq (C_region (RL_q rfl (Yd_assign rfl) (RL_nil (X_then (C_block (?_)))))))))))))))
  refine C_loop (T := Nat × Option Addr × Nat × Nat) (fun ⟨k, lA7, ln7, lc7⟩ => [(4, .bool false), (5, .int .i64 (1 + y15)), (6, .int .i64 y19), (7, .slice lA7 ln7 lc7), (8, .int .i64 (k : Int))]) (fun ⟨k, lA7, ln7, lc7⟩ lw2 => Ow tF 25 lw2 w.heap.size lw2.heap.size lA7 ln7 lc7 (List.replicate k (⟨true, false, true, 0⟩ : F)) ∧ ((k : Int) ≤ 1 + y15) ∧ Ext w lw2) (fun ⟨k, lA7, ln7, lc7⟩ => 12 - k) (⟨0, none, 0, 0⟩) ⟨rfl, rfl, rfl, rfl, rfl, trivial⟩ ?_ ?_
  · refine ⟨(Ow.nil (lo := w.heap.size)).cast ?_, ?_, Ext.refl _⟩
    all_goals (try dsimp only)
    all_goals (first | omega | rfl | (rw [List.replicate_succ']; done))
  · rintro ⟨k, lA7, ln7, lc7⟩ lw2 ⟨hR7, hi2_0, hL2⟩
    replace hE := Ext.trans hE hL2
    have hsL2 := hL2.size
    have hnhR7 := hR7.ln
    try simp only [List.length_append, List.length_cons, List.length_nil, List.length_set, List.length_take, List.length_drop, List.length_replicate, List.length_map, Nat.zero_add, Nat.add_zero, turn0_len] at hnhR7
    have hchR7 := hR7.cap
    refine C_seq (C_seq (C_region (RL_q rfl (Yd_move rfl) (RL_q rfl (Yd_move rfl) (RL_q rfl (Yd_lss rfl rfl) (RL_nil (X_then (?_))))))))
    refine C_cond rfl (fun hb22 => ?_) (fun hb22 => ?_)
    · skip
      try simp only [decide_eq_true_eq, decide_eq_false_iff_not, Bool.not_eq_true', Bool.not_eq_false', Decidable.not_not, Int.not_lt, Int.not_le, Bool.or_eq_true, Bool.and_eq_true, Bool.or_eq_false_iff, Bool.and_eq_false_iff] at hb22
      refine C_skip (X_then (C_seq (C_block (C_region (RL_q rfl (Yd_move rfl) (RL_q rfl (Yd_build Try.bld25 rfl rfl) (RL_l rfl (Ld_lit Try.underlying56 rfl (lit_flat Try.underlying56 Try.elt25 rfl rfl ⟨rfl, by decide⟩) ?_))))))))
      intro W3 he3 hz3 hL27
      replace hE := Ext.trans hE he3
      replace hR7 := hR7.ext he3
      replace hL2 := Ext.trans hL2 he3
      have hO27 := Ow.of_blk (T := tF) (l := [(⟨true, false, true, 0⟩ : F)]) hL27 rfl (n := 1) rfl (by simp [maxLen]) (okc ⟨by dsimp only; omega, by dsimp only; omega⟩ okn)
      clear hL27
      refine RL_l rfl (Ld_apO (T := tF) Try.underlying56 Try.elt25 rfl rfl rfl hR7 hO27.vw (by simp only [maxLen]; omega) (by omega) (by omega) ?_)
      intro A28 c28 W4 hO28 hk4
      have hs4 := hk4.size
      replace hE := Ext.kp hE hk4 (fun k hk => by first | omega | (have hk := hk; dsimp only at hk; omega))
      try replace hL2 := Ext.kp hL2 hk4 (fun k hk => by first | omega | (have hk := hk; dsimp only at hk; omega))
      replace hO27 := hO27.kp hk4 (fun k hk => by first | omega | (have hk := hk; dsimp only at hk; omega))
      have hn28 := hO28.ln
      try simp only [List.length_append, List.length_cons, List.length_nil, List.length_set, List.length_take, List.length_drop, List.length_replicate, List.length_map, Nat.zero_add, Nat.add_zero, turn0_len] at hn28
      have hc28 := hO28.cap
      refine RL_q rfl (Yd_assign rfl) (RL_nil (X_block (X_then (C_region (RL_q rfl (Yd_move rfl) (RL_q rfl (Yd_add rfl rfl (i64w (by omega) (by omega))) (RL_q rfl (Yd_assign rfl) (RL_nil (?_)))))))))
      refine X_again (⟨k + 1, A28, (ln7 + 1), c28⟩) ⟨rfl, rfl, rfl, rfl, rfl, trivial⟩ ?_ (by show 12 - (k + 1) < 12 - k; omega)
      refine ⟨hO28.fit.cast ?_, ?_, hL2⟩
      all_goals (try dsimp only)
      all_goals (first | omega | rfl | (rw [List.replicate_succ']; done))
    · skip
      try simp only [decide_eq_true_eq, decide_eq_false_iff_not, Bool.not_eq_true', Bool.not_eq_false', Decidable.not_not, Int.not_lt, Int.not_le, Bool.or_eq_true, Bool.and_eq_true, Bool.or_eq_false_iff, Bool.and_eq_false_iff] at hb22
      refine C_exit (X_thenE (X_thenE (X_blockE (X_then (C_seq (C_region (RL_q rfl (Yd_move rfl) (RL_q rfl (Yd_move rfl) (?_)))))))))
      have hk12 : (k : Int) = 1 + y15 := by omega
      have hZ := second (k := k) (h := y19.toNat) (by omega) (by omega)
      refine RL_l rfl (Ld_call Try.func35 rfl (by kernel_rfl) rfl (TurnZ hR7.vw ⟨by first | omega | (dsimp only; omega), by first | omega | (dsimp only; omega)⟩ (by omega) (by omega) (by omega)) ?_)
      rintro e W3 ⟨y32_0, y32_1, A32_2, n32_2, c32_2, _, rfl, hy32_0, hy32_1, hF32_2, rfl, he3⟩
      refine ⟨_, rfl, ?_⟩
      replace hE := Ext.trans hE he3
      replace hR7 := hR7.ext he3
      replace hL2 := Ext.trans hL2 he3
      have hs3 := he3.size
      have hn32_2 := hF32_2.ln
      try simp only [List.length_append, List.length_cons, List.length_nil, List.length_set, List.length_take, List.length_drop, List.length_replicate, List.length_map, Nat.zero_add, Nat.add_zero, turn0_len] at hn32_2
      have hc32_2 := hF32_2.cap
      replace hF32_2 := hF32_2.cast hZ.2.2.2
      have hn2 := hF32_2.ln
      rw [List.length_replicate] at hn2
      refine RL_q rfl (Yd_move rfl) (RL_q rfl (Yd_extract rfl rfl) (RL_q rfl (Yd_extract rfl rfl) (RL_q rfl (Yd_extract rfl rfl) (RL_q rfl (Yd_extract rfl rfl) (RL_q rfl (Yd_assign rfl) (RL_q rfl (Yd_assign rfl) (RL_q rfl (Yd_assign rfl) (RL_q rfl (Yd_assign rfl) (RL_nil (X_then (C_seq (C_seq (C_region (RL_q rfl (Yd_move rfl) (RL_q rfl (Yd_not rfl) (RL_q rfl (Yd_move rfl) (?_)))))))))))))))))
      refine RL_is (d := 39) (b' := false) rfl (by rw [hZ.2.2.1]; simp <;> omega) ?_
      refine RL_gq rfl rfl rfl (Yd_move rfl) (RL_gq rfl rfl rfl (Yd_move rfl) (RL_gq rfl rfl rfl (Yd_neq rfl rfl) (RL_q rfl (Yd_pickF rfl rfl) (RL_q rfl (Yd_move rfl) (?_)))))
      refine RL_is (d := 44) (b' := false) rfl (by rw [hy32_0, hZ.1]; simp <;> omega) ?_
      refine RL_gq rfl rfl rfl (Yd_move rfl) (RL_gq rfl rfl rfl (Yd_move rfl) (RL_gq rfl rfl rfl (Yd_add rfl rfl (i64w (by omega) (by omega))) (RL_gq rfl rfl rfl (Yd_move rfl) (RL_gq rfl rfl rfl (Yd_rem rfl rfl (by omega) (tmodw (by omega))) (RL_gq rfl rfl rfl (Yd_neq rfl rfl) (RL_q rfl (Yd_pickF rfl rfl) (RL_q rfl (Yd_move rfl) (?_))))))))
      refine RL_is (d := 52) (b' := false) rfl (by rw [hy32_1, hZ.2.1]; simp; rw [show y19 = (y19.toNat : Int) by omega, ← hk12]; simp) ?_
      refine RL_gq rfl rfl rfl (Yd_move rfl) (RL_gq rfl rfl rfl (Yd_len Try.underlying56 rfl) (RL_gq rfl rfl rfl (Yd_move rfl) (RL_gq rfl rfl rfl (Yd_neq rfl rfl) (RL_q rfl (Yd_pickF rfl rfl) (RL_q rfl (Yd_move rfl) (?_))))))
      refine RL_is (d := 58) (b' := false) rfl (by simp <;> omega) ?_
      refine RL_gq rfl rfl rfl (Yd_move rfl) (RL_gq rfl rfl rfl (Yd_move rfl) (RL_gl rfl rfl rfl (Ld_call Try.func37 rfl (by kernel_rfl) rfl (RoundsZ hR7.vw ⟨by first | omega | (dsimp only; omega), by first | omega | (dsimp only; omega)⟩ (by omega) (by omega) (by omega)) ?_)))
      rintro e W4 ⟨y61, rfl, hy61, he4⟩
      refine ⟨_, rfl, ?_⟩
      replace hE := Ext.trans hE he4
      replace hR7 := hR7.ext he4
      replace hL2 := Ext.trans hL2 he4
      replace hF32_2 := hF32_2.ext he4
      have hs4 := he4.size
      refine RL_gq rfl rfl rfl (Yd_move rfl) (RL_gq rfl rfl rfl (Yd_add rfl rfl (i64w (by omega) (by omega))) (RL_gq rfl rfl rfl (Yd_neq rfl rfl) (RL_q rfl (Yd_pickF rfl rfl) (RL_nil (X_then (?_))))))
      refine C_no rfl (by rw [hy61, hZ.2.2.1]; simp <;> omega) (C_skip (X_then (C_seq (C_seq (C_region (RL_q rfl (Yd_assign rfl) (RL_nil (X_then (C_block (?_))))))))))
      refine C_loop (T := Nat) (fun j => [(5, .int .i64 (1 + y15)), (11, .slice A32_2 n32_2 c32_2), (13, .int .i64 (j : Int))]) (fun j lw4 => (j ≤ k) ∧ Ext W4 lw4) (fun j => k - j) (0) ⟨rfl, rfl, rfl, trivial⟩ ?_ ?_
      · refine ⟨?_, Ext.refl _⟩
        all_goals (try dsimp only)
        all_goals (omega)
      · rintro j lw4 ⟨hi4_0, hL4⟩
        replace hE := Ext.trans hE hL4
        replace hR7 := hR7.ext hL4
        replace hL2 := Ext.trans hL2 hL4
        replace hF32_2 := hF32_2.ext hL4
        have hsL4 := hL4.size
        refine C_seq (C_seq (C_region (RL_q rfl (Yd_move rfl) (RL_q rfl (Yd_move rfl) (RL_q rfl (Yd_lss rfl rfl) (RL_nil (X_then (?_))))))))
        refine C_cond rfl (fun hb68 => ?_) (fun hb68 => ?_)
        · skip
          try simp only [decide_eq_true_eq, decide_eq_false_iff_not, Bool.not_eq_true', Bool.not_eq_false', Decidable.not_not, Int.not_lt, Int.not_le, Bool.or_eq_true, Bool.and_eq_true, Bool.or_eq_false_iff, Bool.and_eq_false_iff] at hb68
          refine C_skip (X_then (C_seq (C_block (C_seq (C_region (RL_q rfl (Yd_move rfl) (RL_q rfl (Yd_move rfl) (?_))))))))
          obtain ⟨gA32_2, rfl, hglA32_2, hghA32_2⟩ := Ow.at_ (i := j) hF32_2 (by omega)
          refine RL_q rfl (Yd_idxL Try.underlying56 (sz := 4) (by kernel_rfl) rfl rfl (by omega) (by omega)) (RL_q rfl (Yd_fld (off := 2) Try.underlying25 (by kernel_rfl) rfl) (?_))
          obtain ⟨x1, hx1, gx1⟩ := Vw.elem (i := j) hF32_2.vw (by omega)
          replace gx1 : -9223372036854775808 ≤ x1.pins ∧ x1.pins ≤ 9223372036854775807 := gx1
          refine RL_q rfl (Yd_load Try.underlying4 rfl rfl (Vw.lqFL hF32_2.vw hx1 rfl rfl)) (RL_q rfl (Yd_move rfl) (?_))
          apply RL_or (dj := 76) 83 7 rfl
          · intro hb76
            try simp only [decide_eq_true_eq, decide_eq_false_iff_not, Bool.not_eq_true', Bool.not_eq_false', Decidable.not_not, Int.not_lt, Int.not_le, Bool.or_eq_true, Bool.and_eq_true, Bool.or_eq_false_iff, Bool.and_eq_false_iff] at hb76
            refine QL_gq rfl rfl rfl (Yd_move rfl) (QL_gq rfl rfl rfl (Yd_move rfl) (QL_gq rfl rfl rfl (Yd_idxL Try.underlying56 (sz := 4) (by kernel_rfl) rfl rfl (by omega) (by omega)) (QL_gq rfl rfl rfl (Yd_fld (off := 0) Try.underlying25 (by kernel_rfl) rfl) (QL_gq rfl rfl rfl (Yd_load Try.underlying4 rfl rfl (Vw.lqFL hF32_2.vw hx1 rfl rfl)) (QL_gq rfl rfl rfl (Yd_not rfl) (QL_q rfl (Yd_pickF rfl rfl) ((QL_nil 7 rfl rfl rfl))))))))
          · intro hb76
            try simp only [decide_eq_true_eq, decide_eq_false_iff_not, Bool.not_eq_true', Bool.not_eq_false', Decidable.not_not, Int.not_lt, Int.not_le, Bool.or_eq_true, Bool.and_eq_true, Bool.or_eq_false_iff, Bool.and_eq_false_iff] at hb76
            refine QL_gn rfl rfl rfl rfl (QL_gn rfl rfl rfl rfl (QL_gn rfl rfl rfl rfl (QL_gn rfl rfl rfl rfl (QL_gn rfl rfl rfl rfl (QL_gn rfl rfl rfl rfl (QL_q rfl (Yd_pickT rfl rfl) ((QL_nil 7 rfl rfl rfl))))))))
          · skip
            refine RL_nil (X_then (?_))
            refine C_no rfl (by have h := rep_get hx1; simp [h]) (C_skip (X_block (X_then (C_region (RL_q rfl (Yd_move rfl) (RL_q rfl (Yd_add rfl rfl (i64w (by omega) (by omega))) (RL_q rfl (Yd_assign rfl) (RL_nil (?_)))))))))
            refine X_again (j + 1) ⟨rfl, rfl, rfl, trivial⟩ ?_ (by show k - (j + 1) < k - j; omega)
            refine ⟨?_, hL4⟩
            all_goals (try dsimp only)
            all_goals (omega)
        · skip
          try simp only [decide_eq_true_eq, decide_eq_false_iff_not, Bool.not_eq_true', Bool.not_eq_false', Decidable.not_not, Int.not_lt, Int.not_le, Bool.or_eq_true, Bool.and_eq_true, Bool.or_eq_false_iff, Bool.and_eq_false_iff] at hb68
          refine C_exit (X_thenE (X_thenE (X_blockE (X_then (C_seq (C_region (RL_l rfl (Ld_call Try.func39 rfl (by kernel_rfl) rfl (lives13V ) ?_))))))))
          rintro e W5 ⟨_, rfl, rfl, he5⟩
          refine ⟨_, rfl, ?_⟩
          replace hE := Ext.trans hE he5
          replace hR7 := hR7.ext he5
          replace hL2 := Ext.trans hL2 he5
          replace hF32_2 := hF32_2.ext he5
          replace hL4 := Ext.trans hL4 he5
          have hs5 := he5.size
          refine RL_q rfl (Yd_assign rfl) (RL_nil (X_then (C_ret (X_ret1 rfl rfl ?_))))
          refine ⟨_, rfl, ?_, hE⟩
          all_goals (first | rfl | omega | simp)
end Go.Proofs.AL
