import Derived.Test.YtefidipfedjpbaaSup
set_option linter.unusedVariables false
set_option linter.unusedSimpArgs false
namespace Go.Proofs.AL
open Go.RowKit
theorem SuperSizesV {n : Int} {cfr cdp csc : Int} {lo_cps B_cps : Nat} {A_cps : Option Addr} {n_cps c_cps : Nat} {cps : List Pt} {w : World}  (b_n : -9223372036854775808 ≤ n ∧ n ≤ 9223372036854775807) (h_cps : Vw tP w lo_cps B_cps A_cps n_cps c_cps cps) (b_c : -9223372036854775808 ≤ cfr ∧ cfr ≤ 9223372036854775807 ∧ -9223372036854775808 ≤ cdp ∧ cdp ≤ 9223372036854775807 ∧ -9223372036854775808 ≤ csc ∧ csc ≤ 9223372036854775807) :
    Calls Try.prog 10 #[.int .i64 n, .agg #[.int .i64 cfr, .int .i64 cdp, .int .i64 csc, .slice A_cps n_cps c_cps]] w fun e w' => ∃ (x0 : Bool), e = .returned (.bool x0) ∧ x0 = (true) ∧ Ext w w' := by
  have hE := Ext.refl w
  replace h_cps := h_cps.fit
  have hn_cps := h_cps.ln
  have hc_cps := h_cps.cap
  have hm_cps := h_cps.max
  simp only [maxLen] at hm_cps
  refine calls_of (l := [.int .i64 n, .agg #[.int .i64 cfr, .int .i64 cdp, .int .i64 csc, .slice A_cps n_cps c_cps]]) (N := 35) Try.func10 rfl rfl rfl ?_
  refine C_seq (C_region (RL_l rfl (Ld_box rfl ?_)))
  have hg_3 := hE.size
  intro W1 he1 hz1 hB3
  replace hE := Ext.trans hE he1
  replace h_cps := h_cps.ext he1
  refine RL_q rfl (Yd_assign rfl) (RL_nil (X_then (C_seq (C_region (RL_q rfl (Yd_move rfl) (RL_q rfl (Yd_loadA Try.underlying24 rfl (by kernel_rfl) rfl (ldBA hB3)) (RL_l rfl (Ld_call Try.func28 rfl (by kernel_rfl) rfl (sGoodV ⟨by first | omega | (dsimp only; omega), by first | omega | (dsimp only; omega)⟩ (cfr := cfr) (cdp := cdp) (csc := csc) h_cps ⟨by omega, by omega, by omega, by omega, by omega, by omega⟩) ?_))))))))
  rintro e W2 ⟨ep10, fr10, dp10, sc10, AC10, nC10, cC10, pC10, rfl, hp10, hC10, he2⟩
  refine ⟨_, rfl, ?_⟩
  replace hE := Ext.trans hE he2
  replace h_cps := h_cps.ext he2
  replace hB3 := hB3.ext he2
  have hs2 := he2.size
  have hnC10 := hC10.ln
  have hcC10 := hC10.cap
  have hfb10 := hp10.2.frb
  have hdb10 := hp10.2.hdp
  have hsb10 := hp10.2.hsc
  have hlb10 := hp10.2.hln
  refine RL_l rfl (Ld_alloc (v := (.agg #[(.int .i64 0), (.int .i64 0), (.int .i64 0), (.int .i64 0), (.slice none 0 0)])) (by kernel_rfl) ?_)
  have hg_5 := hE.size
  intro W3 he3 hz3 hB5
  replace hE := Ext.trans hE he3
  replace h_cps := h_cps.ext he3
  replace hB3 := hB3.ext he3
  replace hC10 := hC10.ext he3
  refine RL_l0 (Ld_store (by kernel_rfl) rfl rfl hB5 (Nat.le_of_ble_eq_true rfl) (by simp [cellsL, Value.cells, Value.oneCell']) ?_)
  intro W4 hu4 hz4 hB5
  have hk4 := Kp.ofb hu4
  have hs4 := hk4.size
  replace hE := Ext.kp hE hk4 (fun k hk => by first | omega | (have hk := hk; dsimp only at hk; omega))
  replace h_cps := h_cps.kp hk4 (fun k hk => by first | omega | (have hk := hk; dsimp only at hk; omega))
  replace hB3 := hB3.kp hk4 (fun hk => by first | omega | (have hk := hk; dsimp only at hk; omega))
  replace hC10 := hC10.kp hk4 (fun k hk => by first | omega | (have hk := hk; dsimp only at hk; omega))
  refine RL_nil (X_then (C_seq (C_region (RL_q rfl (Yd_loadA Try.underlying43 rfl (by kernel_rfl) rfl (ldBA hB5)) (RL_l rfl (Ld_call Try.func31 rfl (by kernel_rfl) rfl (ofV (sep := ep10) (sfr := fr10) (sdp := dp10) (ssc := sc10) hC10.vw ⟨by omega, by omega, by omega, by omega, by omega, by omega⟩ ⟨by omega, by omega⟩) ?_))))))
  rintro e W5 ⟨rfl, he5⟩
  refine ⟨_, rfl, ?_⟩
  replace hE := Ext.trans hE he5
  replace h_cps := h_cps.ext he5
  replace hB3 := hB3.ext he5
  replace hC10 := hC10.ext he5
  replace hB5 := hB5.ext he5
  have hs5 := he5.size
  refine RL_l rfl (Ld_call Try.func30 rfl (by kernel_rfl) rfl (WriteV (sep := ep10) (sfr := fr10) (sdp := dp10) (ssc := sc10) hC10.vw ⟨by omega, by omega, by omega, by omega, by omega, by omega⟩ ⟨by omega, by omega⟩) ?_)
  rintro e W6 ⟨A14_0, n14_0, c14_0, y14_1, rfl, hF14_0, hy14_1, he6⟩
  refine ⟨_, rfl, ?_⟩
  replace hE := Ext.trans hE he6
  replace h_cps := h_cps.ext he6
  replace hB3 := hB3.ext he6
  replace hC10 := hC10.ext he6
  replace hB5 := hB5.ext he6
  have hs6 := he6.size
  have hn14_0 := hF14_0.ln
  try simp only [List.length_append, List.length_cons, List.length_nil, List.length_set, List.length_take, List.length_drop, List.length_replicate, List.length_map, Nat.zero_add, Nat.add_zero, oneP_len, le_len, le8s_len, le8_len, ptB_len, ptI_len] at hn14_0
  have hc14_0 := hF14_0.cap
  have hw := wr_yes (ps := pC10) ⟨hp10.1.1, hp10.1.2, by rw [good_zero hp10.2]⟩
  rw [hw.1, supB_len] at hn14_0
  refine RL_q rfl (Yd_move rfl) (RL_q rfl (Yd_extract rfl rfl) (RL_q rfl (Yd_extract rfl rfl) (RL_q rfl (Yd_assign rfl) (RL_q rfl (Yd_assign rfl) (RL_nil (X_then (C_seq (C_region (RL_q rfl (Yd_move rfl) (RL_q rfl (Yd_eql rfl rfl) (RL_q rfl (Yd_move rfl) (?_))))))))))))
  refine RL_is (d := 19) (b' := true) rfl (by rw [hy14_1, hw.2]; rfl) ?_
  refine RL_gq rfl rfl rfl (Yd_move rfl) (RL_gq rfl rfl rfl (Yd_len Try.underlying47 rfl) (RL_gq rfl rfl rfl (Yd_fld (off := 1) Try.underlying43 (by kernel_rfl) rfl) (RL_gq rfl rfl rfl (Yd_fld (off := 3) Try.underlying24 (by kernel_rfl) rfl) (RL_gq rfl rfl rfl (Yd_load Try.underlying22 rfl rfl (ldB hB5 rfl)) (RL_gq rfl rfl rfl (Yd_len Try.underlying22 rfl) (RL_gq rfl rfl rfl (Yd_mul rfl rfl (i64w (by omega) (by omega))) (RL_gq rfl rfl rfl (Yd_add rfl rfl (i64w (by omega) (by omega))) (RL_gq rfl rfl rfl (Yd_mul rfl rfl (i64w (by omega) (by omega))) (RL_gq rfl rfl rfl (Yd_add rfl rfl (i64w (by omega) (by omega))) (RL_gq rfl rfl rfl (Yd_eql rfl rfl) (RL_q rfl (Yd_pickT rfl rfl) (RL_q rfl (Yd_move rfl) (?_)))))))))))))
  refine RL_is (d := 32) (b' := true) rfl (by simp; omega) ?_
  refine RL_gl rfl rfl rfl (Ld_call Try.func34 rfl (by kernel_rfl) rfl (lives06V ) ?_)
  rintro e W7 ⟨_, rfl, rfl, he7⟩
  refine ⟨_, rfl, ?_⟩
  replace hE := Ext.trans hE he7
  replace h_cps := h_cps.ext he7
  replace hB3 := hB3.ext he7
  replace hC10 := hC10.ext he7
  replace hB5 := hB5.ext he7
  replace hF14_0 := hF14_0.ext he7
  have hs7 := he7.size
  refine RL_q rfl (Yd_pickT rfl rfl) (RL_q rfl (Yd_assign rfl) (RL_nil (X_then (C_ret (X_ret1 rfl rfl ?_)))))
  refine ⟨_, rfl, ?_, hE⟩
  all_goals (first | rfl | omega | simp)
end Go.Proofs.AL
