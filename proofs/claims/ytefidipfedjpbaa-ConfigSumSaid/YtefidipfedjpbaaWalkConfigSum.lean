import Derived.Test.YtefidipfedjpbaaCong
set_option linter.unusedVariables false
set_option linter.unusedSimpArgs false
namespace Go.Proofs.AL
open Go.RowKit
theorem ConfigSumV {cfr cdp csc : Int} {lo_cps B_cps : Nat} {A_cps : Option Addr} {n_cps c_cps : Nat} {cps : List Pt} {by_ : Int} {w : World}  (h_cps : Vw tP w lo_cps B_cps A_cps n_cps c_cps cps) (b_c : -9223372036854775808 ≤ cfr ∧ cfr ≤ 9223372036854775807 ∧ -9223372036854775808 ≤ cdp ∧ cdp ≤ 9223372036854775807 ∧ -9223372036854775808 ≤ csc ∧ csc ≤ 9223372036854775807) (b_by_ : -9223372036854775808 ≤ by_ ∧ by_ ≤ 9223372036854775807) :
    Calls Try.prog 6 #[.agg #[.int .i64 cfr, .int .i64 cdp, .int .i64 csc, .slice A_cps n_cps c_cps], .int .i64 by_] w fun e w' => ∃ (x0 : Bool), e = .returned (.bool x0) ∧ x0 = (true) ∧ Ext w w' := by
  have hE := Ext.refl w
  replace h_cps := h_cps.fit
  have hn_cps := h_cps.ln
  have hc_cps := h_cps.cap
  have hm_cps := h_cps.max
  simp only [maxLen] at hm_cps
  refine calls_of (l := [.agg #[.int .i64 cfr, .int .i64 cdp, .int .i64 csc, .slice A_cps n_cps c_cps], .int .i64 by_]) (N := 40) Try.func6 rfl rfl rfl ?_
  refine C_seq (C_region (RL_l rfl (Ld_box rfl ?_)))
  have hg_2 := hE.size
  intro W1 he1 hz1 hB2
  replace hE := Ext.trans hE he1
  replace h_cps := h_cps.ext he1
  refine RL_q rfl (Yd_assign rfl) (RL_nil (X_then (C_seq (C_region (RL_q rfl (Yd_loadA Try.underlying24 rfl (by kernel_rfl) rfl (ldBA hB2)) (RL_l rfl (Ld_call Try.func14 rfl (by kernel_rfl) rfl (GoodV h_cps ⟨by omega, by omega, by omega, by omega, by omega, by omega⟩) ?_)))))))
  rintro e W2 ⟨fr11, dp11, sc11, AC11, nC11, cC11, pC11, rfl, hp11, hC11, he2⟩
  refine ⟨_, rfl, ?_⟩
  replace hE := Ext.trans hE he2
  replace h_cps := h_cps.ext he2
  replace hB2 := hB2.ext he2
  have hs2 := he2.size
  have hnC11 := hC11.ln
  have hcC11 := hC11.cap
  have hfb11 := hp11.frb
  have hdb11 := hp11.hdp
  have hsb11 := hp11.hsc
  have hlb11 := hp11.hln
  refine RL_l rfl (Ld_alloc (v := (.agg #[(.int .i64 0), (.int .i64 0), (.int .i64 0), (.slice none 0 0)])) (by kernel_rfl) ?_)
  have hg_5 := hE.size
  intro W3 he3 hz3 hB5
  replace hE := Ext.trans hE he3
  replace h_cps := h_cps.ext he3
  replace hB2 := hB2.ext he3
  replace hC11 := hC11.ext he3
  refine RL_l0 (Ld_store (by kernel_rfl) rfl rfl hB5 (Nat.le_of_ble_eq_true rfl) (by simp [cellsL, Value.cells, Value.oneCell']) ?_)
  intro W4 hu4 hz4 hB5
  have hk4 := Kp.ofb hu4
  have hs4 := hk4.size
  replace hE := Ext.kp hE hk4 (fun k hk => by first | omega | (have hk := hk; dsimp only at hk; omega))
  replace h_cps := h_cps.kp hk4 (fun k hk => by first | omega | (have hk := hk; dsimp only at hk; omega))
  replace hB2 := hB2.kp hk4 (fun hk => by first | omega | (have hk := hk; dsimp only at hk; omega))
  replace hC11 := hC11.kp hk4 (fun k hk => by first | omega | (have hk := hk; dsimp only at hk; omega))
  refine RL_nil (X_then (C_seq (C_region (RL_q rfl (Yd_move rfl) (RL_l rfl (Ld_call Try.func17 rfl (by kernel_rfl) rfl (AroundV ⟨by first | omega | (dsimp only; omega), by first | omega | (dsimp only; omega)⟩ ⟨by first | omega | (dsimp only; omega), by first | omega | (dsimp only; omega)⟩) ?_))))))
  rintro e W5 ⟨y13, rfl, hy13, hra13, rfl⟩
  refine ⟨_, rfl, ?_⟩
  refine RL_q rfl (Yd_sub rfl rfl (i64w (by omega) (by omega))) (RL_q rfl (Yd_assign rfl) (RL_nil (X_then (C_seq (C_region (RL_q rfl (Yd_fld (off := 0) Try.underlying24 (by kernel_rfl) rfl) (RL_q rfl (Yd_load Try.underlying3 rfl rfl (ldB hB5 rfl)) (RL_q rfl (Yd_move rfl) (RL_q rfl (Yd_add rfl rfl (i64w (by omega) (by omega))) (RL_q rfl (Yd_fld (off := 0) Try.underlying24 (by kernel_rfl) rfl) (RL_l0 (Ld_store (by kernel_rfl) rfl rfl hB5 (Nat.le_of_ble_eq_true rfl) (by simp [cellsL, Value.cells, Value.oneCell']) ?_))))))))))))
  intro W6 hu6 hz6 hB5
  have hk6 := Kp.ofb hu6
  have hs6 := hk6.size
  replace hE := Ext.kp hE hk6 (fun k hk => by first | omega | (have hk := hk; dsimp only at hk; omega))
  replace h_cps := h_cps.kp hk6 (fun k hk => by first | omega | (have hk := hk; dsimp only at hk; omega))
  replace hB2 := hB2.kp hk6 (fun hk => by first | omega | (have hk := hk; dsimp only at hk; omega))
  replace hC11 := hC11.kp hk6 (fun k hk => by first | omega | (have hk := hk; dsimp only at hk; omega))
  refine RL_nil (X_then (C_seq (C_region (RL_q rfl (Yd_loadA Try.underlying24 rfl (by kernel_rfl) rfl (ldBA hB5)) (RL_l rfl (Ld_call Try.func18 rfl (by kernel_rfl) rfl (CheckV hC11.vw ⟨by omega, by omega, by omega, by omega, by omega, by omega⟩) ?_))))))
  rintro e W7 ⟨z22_0, y22_1, rfl, ⟨hz22_0, hby22_0⟩, hy22_1, he7⟩
  refine ⟨_, rfl, ?_⟩
  replace hE := Ext.trans hE he7
  replace h_cps := h_cps.ext he7
  replace hB2 := hB2.ext he7
  replace hC11 := hC11.ext he7
  replace hB5 := hB5.ext he7
  have hs7 := he7.size
  refine RL_q rfl (Yd_move rfl) (RL_q rfl (Yd_extract rfl rfl) (RL_q rfl (Yd_extract rfl rfl) (RL_q rfl (Yd_assign rfl) (RL_q rfl (Yd_assign rfl) (RL_nil (X_then (C_seq (C_region (RL_q rfl (Yd_assign rfl) (RL_nil (X_then (C_seq (C_seq (C_region (RL_q rfl (Yd_move rfl) (RL_q rfl (Yd_eql rfl rfl) (RL_nil (X_then (?_)))))))))))))))))))
  refine C_cond rfl (fun hb26 => ?_) (fun hb26 => ?_)
  · skip
    simp only [decide_eq_true_eq, decide_eq_false_iff_not] at hb26
    have hT := good_chk (by_ := y13 - 3) hp11 ⟨by omega, by omega⟩
    refine C_region (RL_q rfl (Yd_assign rfl) (RL_nil (X_then (C_seq (C_seq (C_region (RL_q rfl (Yd_fld (off := 0) Try.underlying24 (by kernel_rfl) rfl) (RL_q rfl (Yd_load Try.underlying3 rfl rfl (ldB hB5 rfl)) (RL_q rfl (Yd_lss rfl rfl) (RL_nil (X_then (?_))))))))))))
    refine C_cond rfl (fun hb29 => ?_) (fun hb29 => ?_)
    · skip
      simp only [decide_eq_true_eq, decide_eq_false_iff_not] at hb29
      refine C_region (RL_q rfl (Yd_assign rfl) (RL_nil (X_then (C_seq (C_region (RL_q rfl (Yd_move rfl) (RL_q rfl (Yd_move rfl) (RL_q rfl (Yd_eqlSB (b := [102, 114, 97, 109, 101, 115]) rfl rfl hby22_0 (by decide)) (RL_q rfl (Yd_move rfl) (?_))))))))))
      refine RL_is (d := 33) (b' := true) rfl (by exfalso; omega) ?_
      refine RL_gq rfl rfl rfl (Yd_move rfl) (RL_gq rfl rfl rfl (Yd_eql rfl rfl) (RL_q rfl (Yd_pickT rfl rfl) (RL_q rfl (Yd_move rfl) (?_))))
      refine RL_is (d := 37) (b' := true) rfl (by exfalso; omega) ?_
      refine RL_gl rfl rfl rfl (Ld_call Try.func21 rfl (by kernel_rfl) rfl (lives05V ) ?_)
      rintro e W8 ⟨_, rfl, rfl, he8⟩
      refine ⟨_, rfl, ?_⟩
      replace hE := Ext.trans hE he8
      replace h_cps := h_cps.ext he8
      replace hB2 := hB2.ext he8
      replace hC11 := hC11.ext he8
      replace hB5 := hB5.ext he8
      have hs8 := he8.size
      refine RL_q rfl (Yd_pickT rfl rfl) (RL_q rfl (Yd_assign rfl) (RL_nil (X_then (C_ret (X_ret1 rfl rfl ?_)))))
      refine ⟨_, rfl, ?_, hE⟩
      all_goals (first | rfl | omega | simp)
    · skip
      simp only [decide_eq_true_eq, decide_eq_false_iff_not] at hb29
      refine C_skip (X_then (C_seq (C_region (RL_q rfl (Yd_move rfl) (RL_q rfl (Yd_move rfl) (RL_q rfl (Yd_eqlSB (b := []) rfl rfl hby22_0 (by decide)) (RL_q rfl (Yd_move rfl) (?_))))))))
      refine RL_is (d := 33) (b' := true) rfl (by rw [hz22_0, hT, if_neg (by omega), if_pos (by omega)]; decide) ?_
      refine RL_gq rfl rfl rfl (Yd_move rfl) (RL_gq rfl rfl rfl (Yd_eql rfl rfl) (RL_q rfl (Yd_pickT rfl rfl) (RL_q rfl (Yd_move rfl) (?_))))
      refine RL_is (d := 37) (b' := true) rfl (by rw [hy22_1, hT, if_neg (by omega), if_pos (by omega)]; decide) ?_
      refine RL_gl rfl rfl rfl (Ld_call Try.func21 rfl (by kernel_rfl) rfl (lives05V ) ?_)
      rintro e W8 ⟨_, rfl, rfl, he8⟩
      refine ⟨_, rfl, ?_⟩
      replace hE := Ext.trans hE he8
      replace h_cps := h_cps.ext he8
      replace hB2 := hB2.ext he8
      replace hC11 := hC11.ext he8
      replace hB5 := hB5.ext he8
      have hs8 := he8.size
      refine RL_q rfl (Yd_pickT rfl rfl) (RL_q rfl (Yd_assign rfl) (RL_nil (X_then (C_ret (X_ret1 rfl rfl ?_)))))
      refine ⟨_, rfl, ?_, hE⟩
      all_goals (first | rfl | omega | simp)
  · skip
    simp only [decide_eq_true_eq, decide_eq_false_iff_not] at hb26
    have hT := good_chk (by_ := y13 - 3) hp11 ⟨by omega, by omega⟩
    refine C_skip (X_then (C_seq (C_seq (C_region (RL_q rfl (Yd_fld (off := 0) Try.underlying24 (by kernel_rfl) rfl) (RL_q rfl (Yd_load Try.underlying3 rfl rfl (ldB hB5 rfl)) (RL_q rfl (Yd_lss rfl rfl) (RL_nil (X_then (?_))))))))))
    refine C_cond rfl (fun hb29 => ?_) (fun hb29 => ?_)
    · skip
      simp only [decide_eq_true_eq, decide_eq_false_iff_not] at hb29
      refine C_region (RL_q rfl (Yd_assign rfl) (RL_nil (X_then (C_seq (C_region (RL_q rfl (Yd_move rfl) (RL_q rfl (Yd_move rfl) (RL_q rfl (Yd_eqlSB (b := [102, 114, 97, 109, 101, 115]) rfl rfl hby22_0 (by decide)) (RL_q rfl (Yd_move rfl) (?_))))))))))
      refine RL_is (d := 33) (b' := true) rfl (by rw [hz22_0, hT, if_pos (by omega)]; decide) ?_
      refine RL_gq rfl rfl rfl (Yd_move rfl) (RL_gq rfl rfl rfl (Yd_eql rfl rfl) (RL_q rfl (Yd_pickT rfl rfl) (RL_q rfl (Yd_move rfl) (?_))))
      refine RL_is (d := 37) (b' := true) rfl (by rw [hy22_1, hT, if_pos (by omega)]; decide) ?_
      refine RL_gl rfl rfl rfl (Ld_call Try.func21 rfl (by kernel_rfl) rfl (lives05V ) ?_)
      rintro e W8 ⟨_, rfl, rfl, he8⟩
      refine ⟨_, rfl, ?_⟩
      replace hE := Ext.trans hE he8
      replace h_cps := h_cps.ext he8
      replace hB2 := hB2.ext he8
      replace hC11 := hC11.ext he8
      replace hB5 := hB5.ext he8
      have hs8 := he8.size
      refine RL_q rfl (Yd_pickT rfl rfl) (RL_q rfl (Yd_assign rfl) (RL_nil (X_then (C_ret (X_ret1 rfl rfl ?_)))))
      refine ⟨_, rfl, ?_, hE⟩
      all_goals (first | rfl | omega | simp)
    · skip
      simp only [decide_eq_true_eq, decide_eq_false_iff_not] at hb29
      refine C_skip (X_then (C_seq (C_region (RL_q rfl (Yd_move rfl) (RL_q rfl (Yd_move rfl) (RL_q rfl (Yd_eqlSB (b := [115, 117, 109]) rfl rfl hby22_0 (by decide)) (RL_q rfl (Yd_move rfl) (?_))))))))
      refine RL_is (d := 33) (b' := true) rfl (by rw [hz22_0, hT, if_neg (by omega), if_neg (by omega)]; decide) ?_
      refine RL_gq rfl rfl rfl (Yd_move rfl) (RL_gq rfl rfl rfl (Yd_eql rfl rfl) (RL_q rfl (Yd_pickT rfl rfl) (RL_q rfl (Yd_move rfl) (?_))))
      refine RL_is (d := 37) (b' := true) rfl (by rw [hy22_1, hT, if_neg (by omega), if_neg (by omega)]; decide) ?_
      refine RL_gl rfl rfl rfl (Ld_call Try.func21 rfl (by kernel_rfl) rfl (lives05V ) ?_)
      rintro e W8 ⟨_, rfl, rfl, he8⟩
      refine ⟨_, rfl, ?_⟩
      replace hE := Ext.trans hE he8
      replace h_cps := h_cps.ext he8
      replace hB2 := hB2.ext he8
      replace hC11 := hC11.ext he8
      replace hB5 := hB5.ext he8
      have hs8 := he8.size
      refine RL_q rfl (Yd_pickT rfl rfl) (RL_q rfl (Yd_assign rfl) (RL_nil (X_then (C_ret (X_ret1 rfl rfl ?_)))))
      refine ⟨_, rfl, ?_, hE⟩
      all_goals (first | rfl | omega | simp)
end Go.Proofs.AL
