import Derived.Test.YtefidipfedjpbaaCong
set_option linter.unusedVariables false
set_option linter.unusedSimpArgs false
namespace Go.Proofs.AL
open Go.RowKit
set_option maxHeartbeats 1600000 in
theorem ConfigApartV {cfr cdp csc : Int} {lo_cps B_cps : Nat} {A_cps : Option Addr} {n_cps c_cps : Nat} {cps : List Pt} {w : World}  (h_cps : Vw tP w lo_cps B_cps A_cps n_cps c_cps cps) (b_c : -9223372036854775808 ≤ cfr ∧ cfr ≤ 9223372036854775807 ∧ -9223372036854775808 ≤ cdp ∧ cdp ≤ 9223372036854775807 ∧ -9223372036854775808 ≤ csc ∧ csc ≤ 9223372036854775807) :
    Calls Try.prog 5 #[.agg #[.int .i64 cfr, .int .i64 cdp, .int .i64 csc, .slice A_cps n_cps c_cps]] w fun e w' => ∃ (x0 : Bool), e = .returned (.bool x0) ∧ x0 = (true) ∧ Ext w w' := by
  have hE := Ext.refl w
  replace h_cps := h_cps.fit
  have hn_cps := h_cps.ln
  have hc_cps := h_cps.cap
  have hm_cps := h_cps.max
  simp only [maxLen] at hm_cps
  refine calls_of (l := [.agg #[.int .i64 cfr, .int .i64 cdp, .int .i64 csc, .slice A_cps n_cps c_cps]]) (N := 67) Try.func5 rfl rfl rfl ?_
  refine C_seq (C_region (RL_l rfl (Ld_box rfl ?_)))
  have hg_1 := hE.size
  intro W1 he1 hz1 hB1
  replace hE := Ext.trans hE he1
  replace h_cps := h_cps.ext he1
  refine RL_q rfl (Yd_assign rfl) (RL_nil (X_then (C_seq (?_))))
  refine C_regionD (NoB) (l := [(0, true), (2, true), (1, false), (3, false), (4, false), (5, true)]) (by kernel_rfl) (by kernel_rfl) rfl (by kernel_rfl) (fun _ _ d _ _ h => by cases d <;> exact h) ?_
  intro W2 he2 hh2
  replace hE := Ext.trans hE he2
  replace h_cps := h_cps.ext he2
  replace hB1 := hB1.ext he2
  have hs2 := he2.size
  refine RO_q rfl rfl (Yd_loadA Try.underlying24 rfl (by kernel_rfl) rfl (fun W hW => (ldBA hB1) W hW.ext)) (RO_q rfl rfl (Yd_loadA Try.underlying24 rfl (by kernel_rfl) rfl (fun W hW => (ldBA hB1) W hW.ext)) (RO_l rfl rfl (Ld_call Try.func14 rfl (by kernel_rfl) rfl (GoodV h_cps ⟨by omega, by omega, by omega, by omega, by omega, by omega⟩) ?_)))
  rintro e W3 ⟨fr9, dp9, sc9, AC9, nC9, cC9, pC9, rfl, hp9, hC9, he3⟩
  refine ⟨_, rfl, ?_⟩
  refine ⟨Kp.of_ext he3, ?_⟩
  replace hE := Ext.trans hE he3
  replace h_cps := h_cps.ext he3
  replace hB1 := hB1.ext he3
  have hs3 := he3.size
  have hnC9 := hC9.ln
  have hcC9 := hC9.cap
  have hfb9 := hp9.frb
  have hdb9 := hp9.hdp
  have hsb9 := hp9.hsc
  have hlb9 := hp9.hln
  refine RO_l rfl rfl (Ld_call Try.func15 rfl (by kernel_rfl) rfl (FewV h_cps ⟨by omega, by omega, by omega, by omega, by omega, by omega⟩) ?_)
  rintro e W4 ⟨fr11, dp11, sc11, AC11, nC11, cC11, pC11, rfl, hp11, hC11, he4⟩
  refine ⟨_, rfl, ?_⟩
  refine ⟨Kp.of_ext he4, ?_⟩
  replace hE := Ext.trans hE he4
  replace h_cps := h_cps.ext he4
  replace hB1 := hB1.ext he4
  replace hC9 := hC9.ext he4
  have hs4 := he4.size
  have hnC11 := hC11.ln
  have hcC11 := hC11.cap
  refine RO_l rfl rfl (Ld_lit Try.underlying28 rfl (lit_flat Try.underlying28 Try.elt24 rfl rfl ⟨rfl, by decide⟩) ?_)
  intro W5 he5 hz5 hL12
  refine ⟨Kp.of_ext he5, ?_⟩
  replace hE := Ext.trans hE he5
  replace h_cps := h_cps.ext he5
  replace hB1 := hB1.ext he5
  replace hC9 := hC9.ext he5
  replace hC11 := hC11.ext he5
  have hO12 := Ow.of_blk (T := tCf) (l := [(⟨fr9, dp9, sc9, AC9, nC9, cC9⟩ : CfH), (⟨fr11, dp11, sc11, AC11, nC11, cC11⟩ : CfH)]) hL12 rfl (n := 2) rfl (by simp [maxLen]) (okc trivial (okc trivial okn))
  clear hL12
  refine RO_q rfl rfl (Yd_assign rfl) (RO_nil (X_then (C_seq (C_seq (C_region (RL_q rfl (Yd_assign rfl) (RL_nil (X_then (C_block (C_rounds 3 (CR_succ (C_seq (C_seq (C_region (RL_q rfl (Yd_move rfl) (RL_q rfl (Yd_lss rfl rfl) (RL_nil (X_then (C_yes rfl rfl (C_skip (X_then (C_seq (C_block (C_seq (C_seq (C_region (RL_q rfl (Yd_move rfl) (RL_q rfl (Yd_move rfl) (RL_q rfl (Yd_idxL Try.underlying28 (sz := 4) (by kernel_rfl) rfl rfl (by omega) (by omega)) (RL_q rfl (Yd_loadA (cs := [.int .i64 fr9, .int .i64 dp9, .int .i64 sc9, .slice AC9 nC9 cC9]) Try.underlying24 rfl (by kernel_rfl) rfl (Vw.lqAL hO12.vw (i := 0) (a := (⟨fr9, dp9, sc9, AC9, nC9, cC9⟩ : CfH)) rfl rfl rfl)) (RL_l rfl (Ld_call Try.func20 rfl (by kernel_rfl) rfl (MayV hC9.vw ⟨by omega, by omega, by omega, by omega, by omega, by omega⟩) ?_))))))))))))))))))))))))))))))))
  rintro e W6 ⟨_, rfl, rfl, he6⟩
  refine ⟨_, rfl, ?_⟩
  replace hE := Ext.trans hE he6
  replace h_cps := h_cps.ext he6
  replace hB1 := hB1.ext he6
  replace hC9 := hC9.ext he6
  replace hC11 := hC11.ext he6
  replace hO12 := hO12.ext he6
  have hs6 := he6.size
  refine RL_q rfl (Yd_not rfl) (RL_nil (X_then (?_)))
  have hok := GoodCf.ok hp9
  refine C_no rfl (by simp [good_zero hp9]) (C_skip (X_then (C_seq (C_region (RL_q rfl (Yd_assign rfl) (RL_nil (X_then (C_block (?_)))))))))
  refine C_loop (T := Nat) (fun s => [(3, .slice (some ⟨W4.heap.size, 0, none⟩) 2 2), (4, .int .i64 0), (5, .int .i64 (s : Int)), (13, .int .i64 0), (14, .bool true), (17, .slice (some ⟨W4.heap.size, 0, none⟩) 2 2), (18, .int .i64 0), (20, .agg #[.int .i64 fr9, .int .i64 dp9, .int .i64 sc9, .slice AC9 nC9 cC9])]) (fun s lw6 => (s ≤ 1100) ∧ Ext W6 lw6) (fun s => 1100 - s) (0) ⟨rfl, rfl, rfl, rfl, rfl, rfl, rfl, rfl, trivial⟩ ?_ ?_
  · refine ⟨?_, Ext.refl _⟩
    all_goals (try dsimp only)
    all_goals (omega)
  · rintro s lw6 ⟨hi6_0, hL6⟩
    replace hE := Ext.trans hE hL6
    replace h_cps := h_cps.ext hL6
    replace hB1 := hB1.ext hL6
    replace hC9 := hC9.ext hL6
    replace hC11 := hC11.ext hL6
    replace hO12 := hO12.ext hL6
    have hsL6 := hL6.size
    refine C_seq (C_seq (C_region (RL_q rfl (Yd_move rfl) (RL_q rfl (Yd_lss rfl rfl) (RL_nil (X_then (?_)))))))
    refine C_cond rfl (fun hb26 => ?_) (fun hb26 => ?_)
    · skip
      try simp only [decide_eq_true_eq, decide_eq_false_iff_not, Bool.not_eq_true', Bool.not_eq_false', Decidable.not_not, Int.not_lt, Int.not_le, Bool.or_eq_true, Bool.and_eq_true, Bool.or_eq_false_iff, Bool.and_eq_false_iff] at hb26
      refine C_skip (X_then (C_seq (C_block (C_seq (C_region (RL_q rfl (Yd_assign rfl) (RL_nil (X_then (C_seq (C_seq (C_region (RL_q rfl (Yd_assign rfl) (RL_nil (X_then (C_block (?_))))))))))))))))
      refine C_loop (T := Nat × Nat) (fun ⟨k, n⟩ => [(3, .slice (some ⟨W4.heap.size, 0, none⟩) 2 2), (4, .int .i64 0), (5, .int .i64 (s : Int)), (6, .int .i64 (n : Int)), (7, .int .i64 (k : Int)), (13, .int .i64 0), (14, .bool true), (17, .slice (some ⟨W4.heap.size, 0, none⟩) 2 2), (18, .int .i64 0), (20, .agg #[.int .i64 fr9, .int .i64 dp9, .int .i64 sc9, .slice AC9 nC9 cC9]), (25, .int .i64 (s : Int))]) (fun ⟨k, n⟩ lw106001 => (k ≤ nC9) ∧ (HN pC9 k s n) ∧ Ext lw6 lw106001) (fun ⟨k, n⟩ => nC9 - k) (⟨0, 0⟩) ⟨rfl, rfl, rfl, rfl, rfl, rfl, rfl, rfl, rfl, rfl, rfl, trivial⟩ ?_ ?_
      · refine ⟨?_, ?_, Ext.refl _⟩
        all_goals (try dsimp only)
        all_goals (first | omega | exact HN.zero)
      · rintro ⟨k, n⟩ lw106001 ⟨hi106001_0, hn, hL106001⟩
        replace hE := Ext.trans hE hL106001
        replace h_cps := h_cps.ext hL106001
        replace hB1 := hB1.ext hL106001
        replace hC9 := hC9.ext hL106001
        replace hC11 := hC11.ext hL106001
        replace hO12 := hO12.ext hL106001
        replace hL6 := Ext.trans hL6 hL106001
        have hsL106001 := hL106001.size
        have hnl := hn.le
        refine C_seq (C_seq (C_region (RL_q rfl (Yd_move rfl) (RL_q rfl (Yd_move rfl) (RL_q rfl (Yd_move rfl) (RL_q rfl (Yd_idxL Try.underlying28 (sz := 4) (by kernel_rfl) rfl rfl (by omega) (by omega)) (RL_q rfl (Yd_fld (off := 3) Try.underlying24 (by kernel_rfl) rfl) (RL_q rfl (Yd_load Try.underlying22 rfl rfl (Vw.lqFL hO12.vw (i := 0) (a := (⟨fr9, dp9, sc9, AC9, nC9, cC9⟩ : CfH)) rfl rfl rfl)) (RL_q rfl (Yd_len Try.underlying22 rfl) (RL_q rfl (Yd_lss rfl rfl) (RL_nil (X_then (?_)))))))))))))
        refine C_cond rfl (fun hb36 => ?_) (fun hb36 => ?_)
        · skip
          try simp only [decide_eq_true_eq, decide_eq_false_iff_not, Bool.not_eq_true', Bool.not_eq_false', Decidable.not_not, Int.not_lt, Int.not_le, Bool.or_eq_true, Bool.and_eq_true, Bool.or_eq_false_iff, Bool.and_eq_false_iff] at hb36
          refine C_skip (X_then (C_seq (C_block (C_seq (C_region (RL_q rfl (Yd_move rfl) (RL_q rfl (Yd_move rfl) (RL_q rfl (Yd_idxL Try.underlying28 (sz := 4) (by kernel_rfl) rfl rfl (by omega) (by omega)) (RL_q rfl (Yd_fld (off := 3) Try.underlying24 (by kernel_rfl) rfl) (RL_q rfl (Yd_load Try.underlying22 rfl rfl (Vw.lqFL hO12.vw (i := 0) (a := (⟨fr9, dp9, sc9, AC9, nC9, cC9⟩ : CfH)) rfl rfl rfl)) (RL_q rfl (Yd_move rfl) (?_))))))))))))
          obtain ⟨gAC9, rfl, hglAC9, hghAC9⟩ := Ow.at_ (i := k) hC9 (by omega)
          refine RL_q rfl (Yd_idxL Try.underlying22 (sz := 3) (by kernel_rfl) rfl rfl (by omega) (by omega)) (?_)
          obtain ⟨x1, hx1, gx1⟩ := Vw.elem (i := k) hC9.vw (by omega)
          replace gx1 : (-9223372036854775808 ≤ x1.quota ∧ x1.quota ≤ 9223372036854775807) ∧ (-9223372036854775808 ≤ x1.base ∧ x1.base ≤ 9223372036854775807) ∧ (-9223372036854775808 ≤ x1.pages ∧ x1.pages ≤ 9223372036854775807) := gx1
          refine RL_q rfl (Yd_loadA (cs := [.int .i64 x1.quota, .int .i64 x1.base, .int .i64 x1.pages]) Try.underlying35 rfl (by kernel_rfl) rfl (Vw.lqAL hC9.vw hx1 rfl rfl)) (?_)
          have hpz := partC_zero (hok.hpt _ (List.mem_of_getElem? hx1))
          refine RL_q rfl (Yd_move rfl) (RL_l rfl (Ld_call Try.func22 rfl (by kernel_rfl) rfl (hasV (p := x1) ⟨by first | omega | (dsimp only; omega), by first | omega | (dsimp only; omega)⟩ (by first | omega | (dsimp only; omega))) ?_))
          rintro e W7 ⟨xb48, rfl, hxb48, he7⟩
          refine ⟨_, rfl, ?_⟩
          replace hE := Ext.trans hE he7
          replace h_cps := h_cps.ext he7
          replace hB1 := hB1.ext he7
          replace hC9 := hC9.ext he7
          replace hC11 := hC11.ext he7
          replace hO12 := hO12.ext he7
          replace hL6 := Ext.trans hL6 he7
          replace hL106001 := Ext.trans hL106001 he7
          have hs7 := he7.size
          refine RL_nil (X_then (?_))
          refine C_cond rfl (fun hb48 => ?_) (fun hb48 => ?_)
          · skip
            try simp only [decide_eq_true_eq, decide_eq_false_iff_not, Bool.not_eq_true', Bool.not_eq_false', Decidable.not_not, Int.not_lt, Int.not_le, Bool.or_eq_true, Bool.and_eq_true, Bool.or_eq_false_iff, Bool.and_eq_false_iff] at hb48
            refine C_region (RL_q rfl (Yd_move rfl) (RL_q rfl (Yd_add rfl rfl (i64w (by omega) (by omega))) (RL_q rfl (Yd_assign rfl) (RL_nil (X_block (X_then (C_region (RL_q rfl (Yd_move rfl) (RL_q rfl (Yd_add rfl rfl (i64w (by omega) (by omega))) (RL_q rfl (Yd_assign rfl) (RL_nil (?_))))))))))))
            refine X_again (⟨k + 1, (n + 1)⟩) ⟨rfl, rfl, rfl, rfl, rfl, rfl, rfl, rfl, rfl, rfl, rfl, trivial⟩ ?_ (by show nC9 - (k + 1) < nC9 - k; omega)
            refine ⟨?_, ?_, hL106001⟩
            all_goals (try dsimp only)
            all_goals (first | omega | exact HN.yes hok hn (by assumption) (by simp_all; done) | exact HN.no hn (by assumption) (by simp_all; done))
          · skip
            try simp only [decide_eq_true_eq, decide_eq_false_iff_not, Bool.not_eq_true', Bool.not_eq_false', Decidable.not_not, Int.not_lt, Int.not_le, Bool.or_eq_true, Bool.and_eq_true, Bool.or_eq_false_iff, Bool.and_eq_false_iff] at hb48
            refine C_skip (X_block (X_then (C_region (RL_q rfl (Yd_move rfl) (RL_q rfl (Yd_add rfl rfl (i64w (by omega) (by omega))) (RL_q rfl (Yd_assign rfl) (RL_nil (?_))))))))
            refine X_again (⟨k + 1, n⟩) ⟨rfl, rfl, rfl, rfl, rfl, rfl, rfl, rfl, rfl, rfl, rfl, trivial⟩ ?_ (by show nC9 - (k + 1) < nC9 - k; omega)
            refine ⟨?_, ?_, hL106001⟩
            all_goals (try dsimp only)
            all_goals (first | omega | exact HN.yes hok hn (by assumption) (by simp_all; done) | exact HN.no hn (by assumption) (by simp_all; done))
        · skip
          try simp only [decide_eq_true_eq, decide_eq_false_iff_not, Bool.not_eq_true', Bool.not_eq_false', Decidable.not_not, Int.not_lt, Int.not_le, Bool.or_eq_true, Bool.and_eq_true, Bool.or_eq_false_iff, Bool.and_eq_false_iff] at hb36
          have hns := HN.sc hok hn
          refine C_exit (X_thenE (X_thenE (X_blockE (X_then (C_seq (C_region (RL_q rfl (Yd_move rfl) (RL_q rfl (Yd_gtr rfl rfl) (RL_q rfl (Yd_move rfl) (?_))))))))))
          refine RL_is (d := 53) (b' := false) rfl (by simp; omega) ?_
          refine RL_gq rfl rfl rfl (Yd_move rfl) (RL_gq rfl rfl rfl (Yd_gtr rfl rfl) (RL_gq rfl rfl rfl (Yd_move rfl) (?_)))
          apply RL_and (dj := 56) 64 8 rfl
          · intro hb56
            try simp only [decide_eq_true_eq, decide_eq_false_iff_not, Bool.not_eq_true', Bool.not_eq_false', Decidable.not_not, Int.not_lt, Int.not_le, Bool.or_eq_true, Bool.and_eq_true, Bool.or_eq_false_iff, Bool.and_eq_false_iff] at hb56
            refine QL_gq rfl rfl rfl (Yd_move rfl) (QL_gq rfl rfl rfl (Yd_move rfl) (QL_gq rfl rfl rfl (Yd_move rfl) (QL_gq rfl rfl rfl (Yd_idxL Try.underlying28 (sz := 4) (by kernel_rfl) rfl rfl (by omega) (by omega)) (QL_gq rfl rfl rfl (Yd_fld (off := 2) Try.underlying24 (by kernel_rfl) rfl) (QL_gq rfl rfl rfl (Yd_load Try.underlying3 rfl rfl (Vw.lqFL hO12.vw (i := 0) (a := (⟨fr9, dp9, sc9, AC9, nC9, cC9⟩ : CfH)) rfl rfl rfl)) (QL_gq rfl rfl rfl (Yd_geq rfl rfl) (QL_gq rfl rfl rfl (Yd_pickT rfl rfl) ((QL_nil 8 rfl rfl rfl)))))))))
          · intro hb56
            try simp only [decide_eq_true_eq, decide_eq_false_iff_not, Bool.not_eq_true', Bool.not_eq_false', Decidable.not_not, Int.not_lt, Int.not_le, Bool.or_eq_true, Bool.and_eq_true, Bool.or_eq_false_iff, Bool.and_eq_false_iff] at hb56
            refine QL_gn rfl rfl rfl rfl (QL_gn rfl rfl rfl rfl (QL_gn rfl rfl rfl rfl (QL_gn rfl rfl rfl rfl (QL_gn rfl rfl rfl rfl (QL_gn rfl rfl rfl rfl (QL_gn rfl rfl rfl rfl (QL_gq rfl rfl rfl (Yd_pickF rfl rfl) ((QL_nil 8 rfl rfl rfl)))))))))
          · skip
            refine RL_q rfl (Yd_pickF rfl rfl) (RL_nil (X_then (?_)))
            refine C_no rfl (by simp; omega) (C_skip (X_block (X_then (C_region (RL_q rfl (Yd_move rfl) (RL_q rfl (Yd_add rfl rfl (i64w (by omega) (by omega))) (RL_q rfl (Yd_assign rfl) (RL_nil (?_)))))))))
            refine X_again (s + 1) ⟨rfl, rfl, rfl, rfl, rfl, rfl, rfl, rfl, trivial⟩ ?_ (by show 1100 - (s + 1) < 1100 - s; omega)
            refine ⟨?_, hL6⟩
            all_goals (try dsimp only)
            all_goals (omega)
    · skip
      try simp only [decide_eq_true_eq, decide_eq_false_iff_not, Bool.not_eq_true', Bool.not_eq_false', Decidable.not_not, Int.not_lt, Int.not_le, Bool.or_eq_true, Bool.and_eq_true, Bool.or_eq_false_iff, Bool.and_eq_false_iff] at hb26
      clear hok
      refine C_exit (X_thenE (X_thenE (X_blockE (X_block (X_then (C_region (RL_q rfl (Yd_move rfl) (RL_q rfl (Yd_add (r := 1) rfl rfl rfl) (RL_q rfl (Yd_assign rfl) (RL_nil (X_round (CR_sub (E' := [(3, .slice (some ⟨W4.heap.size, 0, none⟩) 2 2), (4, .int .i64 1)]) ⟨rfl, rfl, trivial⟩ (CR_succ (C_seq (C_seq (C_region (RL_q rfl (Yd_move rfl) (RL_q rfl (Yd_lss rfl rfl) (RL_nil (X_then (C_yes rfl rfl (C_skip (X_then (C_seq (C_block (C_seq (C_seq (C_region (RL_q rfl (Yd_move rfl) (RL_q rfl (Yd_move rfl) (RL_q rfl (Yd_idxL Try.underlying28 (sz := 4) (by kernel_rfl) rfl rfl (by omega) (by omega)) (RL_q rfl (Yd_loadA (cs := [.int .i64 fr11, .int .i64 dp11, .int .i64 sc11, .slice AC11 nC11 cC11]) Try.underlying24 rfl (by kernel_rfl) rfl (Vw.lqAL hO12.vw (i := 1) (a := (⟨fr11, dp11, sc11, AC11, nC11, cC11⟩ : CfH)) rfl rfl rfl)) (RL_l rfl (Ld_call Try.func20 rfl (by kernel_rfl) rfl (MayV hC11.vw ⟨by omega, by omega, by omega, by omega, by omega, by omega⟩) ?_))))))))))))))))))))))))))))))))))
      rintro e W7 ⟨_, rfl, rfl, he7⟩
      refine ⟨_, rfl, ?_⟩
      replace hE := Ext.trans hE he7
      replace h_cps := h_cps.ext he7
      replace hB1 := hB1.ext he7
      replace hC9 := hC9.ext he7
      replace hC11 := hC11.ext he7
      replace hO12 := hO12.ext he7
      replace hL6 := Ext.trans hL6 he7
      have hs7 := he7.size
      refine RL_q rfl (Yd_not rfl) (RL_nil (X_then (?_)))
      refine C_cond rfl (fun hb22 => ?_) (fun hb22 => ?_)
      · skip
        refine C_seq (C_seq (C_region (RL_q rfl (Yd_move rfl) (RL_q rfl (Yd_eql rfl rfl) (RL_nil (X_then (C_no rfl rfl (C_skip (X_then (C_exit (X_thenE (X_blockE (X_then (C_region (RL_q rfl (Yd_move rfl) (RL_q rfl (Yd_add (r := 2) rfl rfl rfl) (RL_q rfl (Yd_assign rfl) (RL_nil (X_round (CR_sub (E' := [(3, .slice (some ⟨W4.heap.size, 0, none⟩) 2 2), (4, .int .i64 2)]) ⟨rfl, rfl, trivial⟩ (CR_succ (C_seq (C_seq (C_region (RL_q rfl (Yd_move rfl) (RL_q rfl (Yd_lss rfl rfl) (RL_nil (X_then (C_no rfl rfl (C_exit (X_thenE (X_thenE (X_blockE (X_then (C_seq (C_region (RL_l rfl (Ld_call Try.func21 rfl (by kernel_rfl) rfl (lives05V ) ?_))))))))))))))))))))))))))))))))))))))
        rintro e W8 ⟨_, rfl, rfl, he8⟩
        refine ⟨_, rfl, ?_⟩
        replace hE := Ext.trans hE he8
        replace h_cps := h_cps.ext he8
        replace hB1 := hB1.ext he8
        replace hC9 := hC9.ext he8
        replace hC11 := hC11.ext he8
        replace hO12 := hO12.ext he8
        replace hL6 := Ext.trans hL6 he8
        have hs8 := he8.size
        refine RL_q rfl (Yd_assign rfl) (RL_nil (X_then (C_ret (X_ret1 rfl rfl ?_))))
        refine ⟨_, rfl, ?_, hE⟩
        all_goals (first | rfl | omega | simp)
      · skip
        have hok := chk_ok (by simpa using hb22)
        have hsc := hok.hsc
        refine C_skip (X_then (C_seq (C_region (RL_q rfl (Yd_assign rfl) (RL_nil (X_then (C_block (?_))))))))
        refine C_loop (T := Nat) (fun s => [(3, .slice (some ⟨W4.heap.size, 0, none⟩) 2 2), (4, .int .i64 1), (5, .int .i64 (s : Int)), (13, .int .i64 1), (14, .bool true), (17, .slice (some ⟨W4.heap.size, 0, none⟩) 2 2), (18, .int .i64 1), (20, .agg #[.int .i64 fr11, .int .i64 dp11, .int .i64 sc11, .slice AC11 nC11 cC11])]) (fun s lw1007 => (s ≤ 1100) ∧ Ext W7 lw1007) (fun s => 1100 - s) (0) ⟨rfl, rfl, rfl, rfl, rfl, rfl, rfl, rfl, trivial⟩ ?_ ?_
        · refine ⟨?_, Ext.refl _⟩
          all_goals (try dsimp only)
          all_goals (omega)
        · rintro s lw1007 ⟨hi1007_0, hL1007⟩
          replace hE := Ext.trans hE hL1007
          replace h_cps := h_cps.ext hL1007
          replace hB1 := hB1.ext hL1007
          replace hC9 := hC9.ext hL1007
          replace hC11 := hC11.ext hL1007
          replace hO12 := hO12.ext hL1007
          replace hL6 := Ext.trans hL6 hL1007
          have hsL1007 := hL1007.size
          refine C_seq (C_seq (C_region (RL_q rfl (Yd_move rfl) (RL_q rfl (Yd_lss rfl rfl) (RL_nil (X_then (?_)))))))
          refine C_cond rfl (fun hb26 => ?_) (fun hb26 => ?_)
          · skip
            try simp only [decide_eq_true_eq, decide_eq_false_iff_not, Bool.not_eq_true', Bool.not_eq_false', Decidable.not_not, Int.not_lt, Int.not_le, Bool.or_eq_true, Bool.and_eq_true, Bool.or_eq_false_iff, Bool.and_eq_false_iff] at hb26
            refine C_skip (X_then (C_seq (C_block (C_seq (C_region (RL_q rfl (Yd_assign rfl) (RL_nil (X_then (C_seq (C_seq (C_region (RL_q rfl (Yd_assign rfl) (RL_nil (X_then (C_block (?_))))))))))))))))
            refine C_loop (T := Nat × Nat) (fun ⟨k, n⟩ => [(3, .slice (some ⟨W4.heap.size, 0, none⟩) 2 2), (4, .int .i64 1), (5, .int .i64 (s : Int)), (6, .int .i64 (n : Int)), (7, .int .i64 (k : Int)), (13, .int .i64 1), (14, .bool true), (17, .slice (some ⟨W4.heap.size, 0, none⟩) 2 2), (18, .int .i64 1), (20, .agg #[.int .i64 fr11, .int .i64 dp11, .int .i64 sc11, .slice AC11 nC11 cC11]), (25, .int .i64 (s : Int))]) (fun ⟨k, n⟩ lw1107003 => (k ≤ nC11) ∧ (HN pC11 k s n) ∧ Ext lw1007 lw1107003) (fun ⟨k, n⟩ => nC11 - k) (⟨0, 0⟩) ⟨rfl, rfl, rfl, rfl, rfl, rfl, rfl, rfl, rfl, rfl, rfl, trivial⟩ ?_ ?_
            · refine ⟨?_, ?_, Ext.refl _⟩
              all_goals (try dsimp only)
              all_goals (first | omega | exact HN.zero)
            · rintro ⟨k, n⟩ lw1107003 ⟨hi1107003_0, hn, hL1107003⟩
              replace hE := Ext.trans hE hL1107003
              replace h_cps := h_cps.ext hL1107003
              replace hB1 := hB1.ext hL1107003
              replace hC9 := hC9.ext hL1107003
              replace hC11 := hC11.ext hL1107003
              replace hO12 := hO12.ext hL1107003
              replace hL6 := Ext.trans hL6 hL1107003
              replace hL1007 := Ext.trans hL1007 hL1107003
              have hsL1107003 := hL1107003.size
              have hnl := hn.le
              refine C_seq (C_seq (C_region (RL_q rfl (Yd_move rfl) (RL_q rfl (Yd_move rfl) (RL_q rfl (Yd_move rfl) (RL_q rfl (Yd_idxL Try.underlying28 (sz := 4) (by kernel_rfl) rfl rfl (by omega) (by omega)) (RL_q rfl (Yd_fld (off := 3) Try.underlying24 (by kernel_rfl) rfl) (RL_q rfl (Yd_load Try.underlying22 rfl rfl (Vw.lqFL hO12.vw (i := 1) (a := (⟨fr11, dp11, sc11, AC11, nC11, cC11⟩ : CfH)) rfl rfl rfl)) (RL_q rfl (Yd_len Try.underlying22 rfl) (RL_q rfl (Yd_lss rfl rfl) (RL_nil (X_then (?_)))))))))))))
              refine C_cond rfl (fun hb36 => ?_) (fun hb36 => ?_)
              · skip
                try simp only [decide_eq_true_eq, decide_eq_false_iff_not, Bool.not_eq_true', Bool.not_eq_false', Decidable.not_not, Int.not_lt, Int.not_le, Bool.or_eq_true, Bool.and_eq_true, Bool.or_eq_false_iff, Bool.and_eq_false_iff] at hb36
                refine C_skip (X_then (C_seq (C_block (C_seq (C_region (RL_q rfl (Yd_move rfl) (RL_q rfl (Yd_move rfl) (RL_q rfl (Yd_idxL Try.underlying28 (sz := 4) (by kernel_rfl) rfl rfl (by omega) (by omega)) (RL_q rfl (Yd_fld (off := 3) Try.underlying24 (by kernel_rfl) rfl) (RL_q rfl (Yd_load Try.underlying22 rfl rfl (Vw.lqFL hO12.vw (i := 1) (a := (⟨fr11, dp11, sc11, AC11, nC11, cC11⟩ : CfH)) rfl rfl rfl)) (RL_q rfl (Yd_move rfl) (?_))))))))))))
                obtain ⟨gAC11, rfl, hglAC11, hghAC11⟩ := Ow.at_ (i := k) hC11 (by omega)
                refine RL_q rfl (Yd_idxL Try.underlying22 (sz := 3) (by kernel_rfl) rfl rfl (by omega) (by omega)) (?_)
                obtain ⟨x2, hx2, gx2⟩ := Vw.elem (i := k) hC11.vw (by omega)
                replace gx2 : (-9223372036854775808 ≤ x2.quota ∧ x2.quota ≤ 9223372036854775807) ∧ (-9223372036854775808 ≤ x2.base ∧ x2.base ≤ 9223372036854775807) ∧ (-9223372036854775808 ≤ x2.pages ∧ x2.pages ≤ 9223372036854775807) := gx2
                refine RL_q rfl (Yd_loadA (cs := [.int .i64 x2.quota, .int .i64 x2.base, .int .i64 x2.pages]) Try.underlying35 rfl (by kernel_rfl) rfl (Vw.lqAL hC11.vw hx2 rfl rfl)) (?_)
                have hpz := partC_zero (hok.hpt _ (List.mem_of_getElem? hx2))
                refine RL_q rfl (Yd_move rfl) (RL_l rfl (Ld_call Try.func22 rfl (by kernel_rfl) rfl (hasV (p := x2) ⟨by first | omega | (dsimp only; omega), by first | omega | (dsimp only; omega)⟩ (by first | omega | (dsimp only; omega))) ?_))
                rintro e W8 ⟨xb1048, rfl, hxb1048, he8⟩
                refine ⟨_, rfl, ?_⟩
                replace hE := Ext.trans hE he8
                replace h_cps := h_cps.ext he8
                replace hB1 := hB1.ext he8
                replace hC9 := hC9.ext he8
                replace hC11 := hC11.ext he8
                replace hO12 := hO12.ext he8
                replace hL6 := Ext.trans hL6 he8
                replace hL1007 := Ext.trans hL1007 he8
                replace hL1107003 := Ext.trans hL1107003 he8
                have hs8 := he8.size
                refine RL_nil (X_then (?_))
                refine C_cond rfl (fun hb48 => ?_) (fun hb48 => ?_)
                · skip
                  try simp only [decide_eq_true_eq, decide_eq_false_iff_not, Bool.not_eq_true', Bool.not_eq_false', Decidable.not_not, Int.not_lt, Int.not_le, Bool.or_eq_true, Bool.and_eq_true, Bool.or_eq_false_iff, Bool.and_eq_false_iff] at hb48
                  refine C_region (RL_q rfl (Yd_move rfl) (RL_q rfl (Yd_add rfl rfl (i64w (by omega) (by omega))) (RL_q rfl (Yd_assign rfl) (RL_nil (X_block (X_then (C_region (RL_q rfl (Yd_move rfl) (RL_q rfl (Yd_add rfl rfl (i64w (by omega) (by omega))) (RL_q rfl (Yd_assign rfl) (RL_nil (?_))))))))))))
                  refine X_again (⟨k + 1, (n + 1)⟩) ⟨rfl, rfl, rfl, rfl, rfl, rfl, rfl, rfl, rfl, rfl, rfl, trivial⟩ ?_ (by show nC11 - (k + 1) < nC11 - k; omega)
                  refine ⟨?_, ?_, hL1107003⟩
                  all_goals (try dsimp only)
                  all_goals (first | omega | exact HN.yes hok hn (by assumption) (by simp_all; done) | exact HN.no hn (by assumption) (by simp_all; done))
                · skip
                  try simp only [decide_eq_true_eq, decide_eq_false_iff_not, Bool.not_eq_true', Bool.not_eq_false', Decidable.not_not, Int.not_lt, Int.not_le, Bool.or_eq_true, Bool.and_eq_true, Bool.or_eq_false_iff, Bool.and_eq_false_iff] at hb48
                  refine C_skip (X_block (X_then (C_region (RL_q rfl (Yd_move rfl) (RL_q rfl (Yd_add rfl rfl (i64w (by omega) (by omega))) (RL_q rfl (Yd_assign rfl) (RL_nil (?_))))))))
                  refine X_again (⟨k + 1, n⟩) ⟨rfl, rfl, rfl, rfl, rfl, rfl, rfl, rfl, rfl, rfl, rfl, trivial⟩ ?_ (by show nC11 - (k + 1) < nC11 - k; omega)
                  refine ⟨?_, ?_, hL1107003⟩
                  all_goals (try dsimp only)
                  all_goals (first | omega | exact HN.yes hok hn (by assumption) (by simp_all; done) | exact HN.no hn (by assumption) (by simp_all; done))
              · skip
                try simp only [decide_eq_true_eq, decide_eq_false_iff_not, Bool.not_eq_true', Bool.not_eq_false', Decidable.not_not, Int.not_lt, Int.not_le, Bool.or_eq_true, Bool.and_eq_true, Bool.or_eq_false_iff, Bool.and_eq_false_iff] at hb36
                have hns := HN.sc hok hn
                refine C_exit (X_thenE (X_thenE (X_blockE (X_then (C_seq (C_region (RL_q rfl (Yd_move rfl) (RL_q rfl (Yd_gtr rfl rfl) (RL_q rfl (Yd_move rfl) (?_))))))))))
                refine RL_is (d := 53) (b' := false) rfl (by simp; omega) ?_
                refine RL_gq rfl rfl rfl (Yd_move rfl) (RL_gq rfl rfl rfl (Yd_gtr rfl rfl) (RL_gq rfl rfl rfl (Yd_move rfl) (?_)))
                apply RL_and (dj := 56) 64 8 rfl
                · intro hb56
                  try simp only [decide_eq_true_eq, decide_eq_false_iff_not, Bool.not_eq_true', Bool.not_eq_false', Decidable.not_not, Int.not_lt, Int.not_le, Bool.or_eq_true, Bool.and_eq_true, Bool.or_eq_false_iff, Bool.and_eq_false_iff] at hb56
                  refine QL_gq rfl rfl rfl (Yd_move rfl) (QL_gq rfl rfl rfl (Yd_move rfl) (QL_gq rfl rfl rfl (Yd_move rfl) (QL_gq rfl rfl rfl (Yd_idxL Try.underlying28 (sz := 4) (by kernel_rfl) rfl rfl (by omega) (by omega)) (QL_gq rfl rfl rfl (Yd_fld (off := 2) Try.underlying24 (by kernel_rfl) rfl) (QL_gq rfl rfl rfl (Yd_load Try.underlying3 rfl rfl (Vw.lqFL hO12.vw (i := 1) (a := (⟨fr11, dp11, sc11, AC11, nC11, cC11⟩ : CfH)) rfl rfl rfl)) (QL_gq rfl rfl rfl (Yd_geq rfl rfl) (QL_gq rfl rfl rfl (Yd_pickT rfl rfl) ((QL_nil 8 rfl rfl rfl)))))))))
                · intro hb56
                  try simp only [decide_eq_true_eq, decide_eq_false_iff_not, Bool.not_eq_true', Bool.not_eq_false', Decidable.not_not, Int.not_lt, Int.not_le, Bool.or_eq_true, Bool.and_eq_true, Bool.or_eq_false_iff, Bool.and_eq_false_iff] at hb56
                  refine QL_gn rfl rfl rfl rfl (QL_gn rfl rfl rfl rfl (QL_gn rfl rfl rfl rfl (QL_gn rfl rfl rfl rfl (QL_gn rfl rfl rfl rfl (QL_gn rfl rfl rfl rfl (QL_gn rfl rfl rfl rfl (QL_gq rfl rfl rfl (Yd_pickF rfl rfl) ((QL_nil 8 rfl rfl rfl)))))))))
                · skip
                  refine RL_q rfl (Yd_pickF rfl rfl) (RL_nil (X_then (?_)))
                  refine C_no rfl (by simp; omega) (C_skip (X_block (X_then (C_region (RL_q rfl (Yd_move rfl) (RL_q rfl (Yd_add rfl rfl (i64w (by omega) (by omega))) (RL_q rfl (Yd_assign rfl) (RL_nil (?_)))))))))
                  refine X_again (s + 1) ⟨rfl, rfl, rfl, rfl, rfl, rfl, rfl, rfl, trivial⟩ ?_ (by show 1100 - (s + 1) < 1100 - s; omega)
                  refine ⟨?_, hL1007⟩
                  all_goals (try dsimp only)
                  all_goals (omega)
          · skip
            try simp only [decide_eq_true_eq, decide_eq_false_iff_not, Bool.not_eq_true', Bool.not_eq_false', Decidable.not_not, Int.not_lt, Int.not_le, Bool.or_eq_true, Bool.and_eq_true, Bool.or_eq_false_iff, Bool.and_eq_false_iff] at hb26
            refine C_exit (X_thenE (X_thenE (X_blockE (X_block (X_then (C_region (RL_q rfl (Yd_move rfl) (RL_q rfl (Yd_add (r := 2) rfl rfl rfl) (RL_q rfl (Yd_assign rfl) (RL_nil (X_round (CR_sub (E' := [(3, .slice (some ⟨W4.heap.size, 0, none⟩) 2 2), (4, .int .i64 2)]) ⟨rfl, rfl, trivial⟩ (CR_succ (C_seq (C_seq (C_region (RL_q rfl (Yd_move rfl) (RL_q rfl (Yd_lss rfl rfl) (RL_nil (X_then (C_no rfl rfl (C_exit (X_thenE (X_thenE (X_blockE (X_then (C_seq (C_region (RL_l rfl (Ld_call Try.func21 rfl (by kernel_rfl) rfl (lives05V ) ?_))))))))))))))))))))))))))))))
            rintro e W8 ⟨_, rfl, rfl, he8⟩
            refine ⟨_, rfl, ?_⟩
            replace hE := Ext.trans hE he8
            replace h_cps := h_cps.ext he8
            replace hB1 := hB1.ext he8
            replace hC9 := hC9.ext he8
            replace hC11 := hC11.ext he8
            replace hO12 := hO12.ext he8
            replace hL6 := Ext.trans hL6 he8
            replace hL1007 := Ext.trans hL1007 he8
            have hs8 := he8.size
            refine RL_q rfl (Yd_assign rfl) (RL_nil (X_then (C_ret (X_ret1 rfl rfl ?_))))
            refine ⟨_, rfl, ?_, hE⟩
            all_goals (first | rfl | omega | simp)
end Go.Proofs.AL
