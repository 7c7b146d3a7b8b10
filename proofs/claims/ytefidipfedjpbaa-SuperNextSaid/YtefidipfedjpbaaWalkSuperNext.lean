import Derived.Test.YtefidipfedjpbaaSup
set_option linter.unusedVariables false
set_option linter.unusedSimpArgs false
namespace Go.Proofs.AL
open Go.RowKit
theorem SuperNextV {n : Int} {cfr cdp csc : Int} {lo_cps B_cps : Nat} {A_cps : Option Addr} {n_cps c_cps : Nat} {cps : List Pt} {w : World}  (b_n : -9223372036854775808 ≤ n ∧ n ≤ 9223372036854775807) (h_cps : Vw tP w lo_cps B_cps A_cps n_cps c_cps cps) (b_c : -9223372036854775808 ≤ cfr ∧ cfr ≤ 9223372036854775807 ∧ -9223372036854775808 ≤ cdp ∧ cdp ≤ 9223372036854775807 ∧ -9223372036854775808 ≤ csc ∧ csc ≤ 9223372036854775807) :
    Calls Try.prog 12 #[.int .i64 n, .agg #[.int .i64 cfr, .int .i64 cdp, .int .i64 csc, .slice A_cps n_cps c_cps]] w fun e w' => ∃ (x0 : Bool), e = .returned (.bool x0) ∧ x0 = (true) ∧ Ext w w' := by
  have hE := Ext.refl w
  replace h_cps := h_cps.fit
  have hn_cps := h_cps.ln
  have hc_cps := h_cps.cap
  have hm_cps := h_cps.max
  simp only [maxLen] at hm_cps
  refine calls_of (l := [.int .i64 n, .agg #[.int .i64 cfr, .int .i64 cdp, .int .i64 csc, .slice A_cps n_cps c_cps]]) (N := 71) Try.func12 rfl rfl rfl ?_
  refine C_seq (C_region (RL_l rfl (Ld_box rfl ?_)))
  have hg_3 := hE.size
  intro W1 he1 hz1 hB3
  replace hE := Ext.trans hE he1
  replace h_cps := h_cps.ext he1
  refine RL_q rfl (Yd_assign rfl) (RL_nil (X_then (C_seq (C_region (RL_q rfl (Yd_move rfl) (RL_q rfl (Yd_loadA Try.underlying24 rfl (by kernel_rfl) rfl (ldBA hB3)) (RL_l rfl (Ld_call Try.func28 rfl (by kernel_rfl) rfl (sGoodV ⟨by first | omega | (dsimp only; omega), by first | omega | (dsimp only; omega)⟩ (cfr := cfr) (cdp := cdp) (csc := csc) h_cps ⟨by omega, by omega, by omega, by omega, by omega, by omega⟩) ?_))))))))
  rintro e W2 ⟨ep14, fr14, dp14, sc14, AC14, nC14, cC14, pC14, rfl, hp14, hC14, he2⟩
  refine ⟨_, rfl, ?_⟩
  replace hE := Ext.trans hE he2
  replace h_cps := h_cps.ext he2
  replace hB3 := hB3.ext he2
  have hs2 := he2.size
  have hnC14 := hC14.ln
  have hcC14 := hC14.cap
  have hfb14 := hp14.2.frb
  have hdb14 := hp14.2.hdp
  have hsb14 := hp14.2.hsc
  have hlb14 := hp14.2.hln
  refine RL_l rfl (Ld_alloc (v := (.agg #[(.int .i64 0), (.int .i64 0), (.int .i64 0), (.int .i64 0), (.slice none 0 0)])) (by kernel_rfl) ?_)
  have hg_5 := hE.size
  intro W3 he3 hz3 hB5
  replace hE := Ext.trans hE he3
  replace h_cps := h_cps.ext he3
  replace hB3 := hB3.ext he3
  replace hC14 := hC14.ext he3
  refine RL_l0 (Ld_store (by kernel_rfl) rfl rfl hB5 (Nat.le_of_ble_eq_true rfl) (by simp [cellsL, Value.cells, Value.oneCell']) ?_)
  intro W4 hu4 hz4 hB5
  have hk4 := Kp.ofb hu4
  have hs4 := hk4.size
  replace hE := Ext.kp hE hk4 (fun k hk => by first | omega | (have hk := hk; dsimp only at hk; omega))
  replace h_cps := h_cps.kp hk4 (fun k hk => by first | omega | (have hk := hk; dsimp only at hk; omega))
  replace hB3 := hB3.kp hk4 (fun hk => by first | omega | (have hk := hk; dsimp only at hk; omega))
  replace hC14 := hC14.kp hk4 (fun k hk => by first | omega | (have hk := hk; dsimp only at hk; omega))
  refine RL_nil (X_then (C_seq (C_region (RL_q rfl (Yd_loadA Try.underlying43 rfl (by kernel_rfl) rfl (ldBA hB5)) (RL_l rfl (Ld_call Try.func31 rfl (by kernel_rfl) rfl (ofV (sep := ep14) (sfr := fr14) (sdp := dp14) (ssc := sc14) hC14.vw ⟨by omega, by omega, by omega, by omega, by omega, by omega⟩ ⟨by omega, by omega⟩) ?_))))))
  rintro e W5 ⟨rfl, he5⟩
  refine ⟨_, rfl, ?_⟩
  replace hE := Ext.trans hE he5
  replace h_cps := h_cps.ext he5
  replace hB3 := hB3.ext he5
  replace hC14 := hC14.ext he5
  replace hB5 := hB5.ext he5
  have hs5 := he5.size
  refine RL_l rfl (Ld_call Try.func37 rfl (by kernel_rfl) rfl (NextV (sep := ep14) (sfr := fr14) (sdp := dp14) (ssc := sc14) hC14.vw ⟨by omega, by omega, by omega, by omega, by omega, by omega⟩ ⟨by omega, by omega⟩ (by omega)) ?_)
  rintro e W6 ⟨ep18, fr18, dp18, sc18, AC18, nC18, cC18, pC18, er18, rfl, hp18, hC18, he6⟩
  refine ⟨_, rfl, ?_⟩
  replace hE := Ext.trans hE he6
  replace h_cps := h_cps.ext he6
  replace hB3 := hB3.ext he6
  replace hC14 := hC14.ext he6
  replace hB5 := hB5.ext he6
  have hs6 := he6.size
  have hnC18 := hC18.ln
  have hcC18 := hC18.cap
  have hm18 : ep14 < 1073741824 → SMay ep18 fr18 dp18 sc18 pC18 := fun h => by
    obtain ⟨_, _, e1, e2, e3, e4, e5⟩ := hp18.resolve_right (fun h2 => by omega)
    rw [e1, e2, e3, e4, e5]; exact ⟨by omega, by omega, by rw [good_zero hp14.2]⟩
  refine RL_q rfl (Yd_move rfl) (RL_q rfl (Yd_extract rfl rfl) (RL_q rfl (Yd_extract rfl rfl) (RL_l rfl (Ld_alloc (v := (.agg #[(.int .i64 0), (.int .i64 0), (.int .i64 0), (.int .i64 0), (.slice none 0 0)])) (by kernel_rfl) ?_))))
  have hg_6 := hE.size
  intro W7 he7 hz7 hB6
  replace hE := Ext.trans hE he7
  replace h_cps := h_cps.ext he7
  replace hB3 := hB3.ext he7
  replace hC14 := hC14.ext he7
  replace hB5 := hB5.ext he7
  replace hC18 := hC18.ext he7
  refine RL_l0 (Ld_store (by kernel_rfl) rfl rfl hB6 (Nat.le_of_ble_eq_true rfl) (by simp [cellsL, Value.cells, Value.oneCell']) ?_)
  intro W8 hu8 hz8 hB6
  have hk8 := Kp.ofb hu8
  have hs8 := hk8.size
  replace hE := Ext.kp hE hk8 (fun k hk => by first | omega | (have hk := hk; dsimp only at hk; omega))
  replace h_cps := h_cps.kp hk8 (fun k hk => by first | omega | (have hk := hk; dsimp only at hk; omega))
  replace hB3 := hB3.kp hk8 (fun hk => by first | omega | (have hk := hk; dsimp only at hk; omega))
  replace hC14 := hC14.kp hk8 (fun k hk => by first | omega | (have hk := hk; dsimp only at hk; omega))
  replace hB5 := hB5.kp hk8 (fun hk => by first | omega | (have hk := hk; dsimp only at hk; omega))
  replace hC18 := hC18.kp hk8 (fun k hk => by first | omega | (have hk := hk; dsimp only at hk; omega))
  refine RL_q rfl (Yd_assign rfl) (RL_nil (X_then (C_seq (C_region (RL_q rfl (Yd_fld (off := 0) Try.underlying43 (by kernel_rfl) rfl) (RL_q rfl (Yd_load Try.underlying3 rfl rfl (ldB hB5 rfl)) (RL_q rfl (Yd_add rfl rfl (i64w (by omega) (by omega))) (RL_q rfl (Yd_fld (off := 1) Try.underlying43 (by kernel_rfl) rfl) (RL_q rfl (Yd_loadA (cs := [.int .i64 fr14, .int .i64 dp14, .int .i64 sc14, .slice AC14 nC14 cC14]) Try.underlying24 rfl (by kernel_rfl) rfl (ldBS hB5 1 [.int .i64 fr14, .int .i64 dp14, .int .i64 sc14, .slice AC14 nC14 cC14] rfl)) (RL_q rfl (Yd_build Try.bld43 rfl rfl) (RL_l rfl (Ld_alloc (v := (.agg #[(.int .i64 0), (.int .i64 0), (.int .i64 0), (.int .i64 0), (.slice none 0 0)])) (by kernel_rfl) ?_))))))))))))
  have hg_8 := hE.size
  intro W9 he9 hz9 hB8
  replace hE := Ext.trans hE he9
  replace h_cps := h_cps.ext he9
  replace hB3 := hB3.ext he9
  replace hC14 := hC14.ext he9
  replace hB5 := hB5.ext he9
  replace hC18 := hC18.ext he9
  replace hB6 := hB6.ext he9
  refine RL_l0 (Ld_store (by kernel_rfl) rfl rfl hB8 (Nat.le_of_ble_eq_true rfl) (by simp [cellsL, Value.cells, Value.oneCell']) ?_)
  intro W10 hu10 hz10 hB8
  have hk10 := Kp.ofb hu10
  have hs10 := hk10.size
  replace hE := Ext.kp hE hk10 (fun k hk => by first | omega | (have hk := hk; dsimp only at hk; omega))
  replace h_cps := h_cps.kp hk10 (fun k hk => by first | omega | (have hk := hk; dsimp only at hk; omega))
  replace hB3 := hB3.kp hk10 (fun hk => by first | omega | (have hk := hk; dsimp only at hk; omega))
  replace hC14 := hC14.kp hk10 (fun k hk => by first | omega | (have hk := hk; dsimp only at hk; omega))
  replace hB5 := hB5.kp hk10 (fun hk => by first | omega | (have hk := hk; dsimp only at hk; omega))
  replace hC18 := hC18.kp hk10 (fun k hk => by first | omega | (have hk := hk; dsimp only at hk; omega))
  replace hB6 := hB6.kp hk10 (fun hk => by first | omega | (have hk := hk; dsimp only at hk; omega))
  refine RL_nil (X_then (C_seq (C_region (RL_q rfl (Yd_loadA Try.underlying43 rfl (by kernel_rfl) rfl (ldBA hB5)) (RL_l rfl (Ld_alloc (v := (.agg #[(.int .i64 0), (.int .i64 0), (.int .i64 0), (.int .i64 0), (.slice none 0 0)])) (by kernel_rfl) ?_))))))
  have hg_9 := hE.size
  intro W11 he11 hz11 hB9
  replace hE := Ext.trans hE he11
  replace h_cps := h_cps.ext he11
  replace hB3 := hB3.ext he11
  replace hC14 := hC14.ext he11
  replace hB5 := hB5.ext he11
  replace hC18 := hC18.ext he11
  replace hB6 := hB6.ext he11
  replace hB8 := hB8.ext he11
  refine RL_l0 (Ld_store (by kernel_rfl) rfl rfl hB9 (Nat.le_of_ble_eq_true rfl) (by simp [cellsL, Value.cells, Value.oneCell']) ?_)
  intro W12 hu12 hz12 hB9
  have hk12 := Kp.ofb hu12
  have hs12 := hk12.size
  replace hE := Ext.kp hE hk12 (fun k hk => by first | omega | (have hk := hk; dsimp only at hk; omega))
  replace h_cps := h_cps.kp hk12 (fun k hk => by first | omega | (have hk := hk; dsimp only at hk; omega))
  replace hB3 := hB3.kp hk12 (fun hk => by first | omega | (have hk := hk; dsimp only at hk; omega))
  replace hC14 := hC14.kp hk12 (fun k hk => by first | omega | (have hk := hk; dsimp only at hk; omega))
  replace hB5 := hB5.kp hk12 (fun hk => by first | omega | (have hk := hk; dsimp only at hk; omega))
  replace hC18 := hC18.kp hk12 (fun k hk => by first | omega | (have hk := hk; dsimp only at hk; omega))
  replace hB6 := hB6.kp hk12 (fun hk => by first | omega | (have hk := hk; dsimp only at hk; omega))
  replace hB8 := hB8.kp hk12 (fun hk => by first | omega | (have hk := hk; dsimp only at hk; omega))
  refine RL_nil (X_then (C_seq (C_region (RL_q rfl (Yd_fld (off := 0) Try.underlying43 (by kernel_rfl) rfl) (RL_l0 (Ld_store (by kernel_rfl) rfl rfl hB9 (Nat.le_of_ble_eq_true rfl) (by simp [cellsL, Value.cells, Value.oneCell']) ?_))))))
  intro W13 hu13 hz13 hB9
  have hk13 := Kp.ofb hu13
  have hs13 := hk13.size
  replace hE := Ext.kp hE hk13 (fun k hk => by first | omega | (have hk := hk; dsimp only at hk; omega))
  replace h_cps := h_cps.kp hk13 (fun k hk => by first | omega | (have hk := hk; dsimp only at hk; omega))
  replace hB3 := hB3.kp hk13 (fun hk => by first | omega | (have hk := hk; dsimp only at hk; omega))
  replace hC14 := hC14.kp hk13 (fun k hk => by first | omega | (have hk := hk; dsimp only at hk; omega))
  replace hB5 := hB5.kp hk13 (fun hk => by first | omega | (have hk := hk; dsimp only at hk; omega))
  replace hC18 := hC18.kp hk13 (fun k hk => by first | omega | (have hk := hk; dsimp only at hk; omega))
  replace hB6 := hB6.kp hk13 (fun hk => by first | omega | (have hk := hk; dsimp only at hk; omega))
  replace hB8 := hB8.kp hk13 (fun hk => by first | omega | (have hk := hk; dsimp only at hk; omega))
  refine RL_nil (X_then (C_seq (C_region (RL_q rfl (Yd_loadA Try.underlying43 rfl (by kernel_rfl) rfl (ldBA hB9)) (RL_l rfl (Ld_call Try.func31 rfl (by kernel_rfl) rfl (ofV (sep := 1073741824) (sfr := fr14) (sdp := dp14) (ssc := sc14) hC14.vw ⟨by omega, by omega, by omega, by omega, by omega, by omega⟩ ⟨by omega, by omega⟩) ?_))))))
  rintro e W14 ⟨rfl, he14⟩
  refine ⟨_, rfl, ?_⟩
  replace hE := Ext.trans hE he14
  replace h_cps := h_cps.ext he14
  replace hB3 := hB3.ext he14
  replace hC14 := hC14.ext he14
  replace hB5 := hB5.ext he14
  replace hC18 := hC18.ext he14
  replace hB6 := hB6.ext he14
  replace hB8 := hB8.ext he14
  replace hB9 := hB9.ext he14
  have hs14 := he14.size
  refine RL_l rfl (Ld_call Try.func37 rfl (by kernel_rfl) rfl (NextV (sep := 1073741824) (sfr := fr14) (sdp := dp14) (ssc := sc14) hC14.vw ⟨by omega, by omega, by omega, by omega, by omega, by omega⟩ ⟨by omega, by omega⟩ (by omega)) ?_)
  rintro e W15 ⟨ep32, fr32, dp32, sc32, AC32, nC32, cC32, pC32, er32, rfl, hp32, hC32, he15⟩
  refine ⟨_, rfl, ?_⟩
  replace hE := Ext.trans hE he15
  replace h_cps := h_cps.ext he15
  replace hB3 := hB3.ext he15
  replace hC14 := hC14.ext he15
  replace hB5 := hB5.ext he15
  replace hC18 := hC18.ext he15
  replace hB6 := hB6.ext he15
  replace hB8 := hB8.ext he15
  replace hB9 := hB9.ext he15
  have hs15 := he15.size
  have hnC32 := hC32.ln
  have hcC32 := hC32.cap
  have hq32 := hp32.resolve_left (fun h => by omega)
  have hl32 := congrArg List.length hq32.2.2.2.2.2.2
  simp only [List.length_nil] at hl32
  refine RL_q rfl (Yd_move rfl) (RL_q rfl (Yd_extract rfl rfl) (RL_q rfl (Yd_extract rfl rfl) (RL_l rfl (Ld_alloc (v := (.agg #[(.int .i64 0), (.int .i64 0), (.int .i64 0), (.int .i64 0), (.slice none 0 0)])) (by kernel_rfl) ?_))))
  have hg_10 := hE.size
  intro W16 he16 hz16 hB10
  replace hE := Ext.trans hE he16
  replace h_cps := h_cps.ext he16
  replace hB3 := hB3.ext he16
  replace hC14 := hC14.ext he16
  replace hB5 := hB5.ext he16
  replace hC18 := hC18.ext he16
  replace hB6 := hB6.ext he16
  replace hB8 := hB8.ext he16
  replace hB9 := hB9.ext he16
  replace hC32 := hC32.ext he16
  refine RL_l0 (Ld_store (by kernel_rfl) rfl rfl hB10 (Nat.le_of_ble_eq_true rfl) (by simp [cellsL, Value.cells, Value.oneCell']) ?_)
  intro W17 hu17 hz17 hB10
  have hk17 := Kp.ofb hu17
  have hs17 := hk17.size
  replace hE := Ext.kp hE hk17 (fun k hk => by first | omega | (have hk := hk; dsimp only at hk; omega))
  replace h_cps := h_cps.kp hk17 (fun k hk => by first | omega | (have hk := hk; dsimp only at hk; omega))
  replace hB3 := hB3.kp hk17 (fun hk => by first | omega | (have hk := hk; dsimp only at hk; omega))
  replace hC14 := hC14.kp hk17 (fun k hk => by first | omega | (have hk := hk; dsimp only at hk; omega))
  replace hB5 := hB5.kp hk17 (fun hk => by first | omega | (have hk := hk; dsimp only at hk; omega))
  replace hC18 := hC18.kp hk17 (fun k hk => by first | omega | (have hk := hk; dsimp only at hk; omega))
  replace hB6 := hB6.kp hk17 (fun hk => by first | omega | (have hk := hk; dsimp only at hk; omega))
  replace hB8 := hB8.kp hk17 (fun hk => by first | omega | (have hk := hk; dsimp only at hk; omega))
  replace hB9 := hB9.kp hk17 (fun hk => by first | omega | (have hk := hk; dsimp only at hk; omega))
  replace hC32 := hC32.kp hk17 (fun k hk => by first | omega | (have hk := hk; dsimp only at hk; omega))
  refine RL_q rfl (Yd_assign rfl) (RL_nil (X_then (C_seq (C_seq (?_)))))
  refine C_regionD (NoB) (l := [(0, true), (1, true), (2, true), (3, true), (4, true), (5, true), (6, true), (7, true), (9, true), (8, false), (10, false), (11, true), (12, true), (13, true), (14, true), (15, false), (16, true), (17, true), (18, true)]) (by kernel_rfl) (by kernel_rfl) rfl (by kernel_rfl) (fun _ _ d _ _ h => by cases d <;> exact h) ?_
  intro W18 he18 hh18
  replace hE := Ext.trans hE he18
  replace h_cps := h_cps.ext he18
  replace hB3 := hB3.ext he18
  replace hC14 := hC14.ext he18
  replace hB5 := hB5.ext he18
  replace hC18 := hC18.ext he18
  replace hB6 := hB6.ext he18
  replace hB8 := hB8.ext he18
  replace hB9 := hB9.ext he18
  replace hC32 := hC32.ext he18
  replace hB10 := hB10.ext he18
  have hs18 := he18.size
  refine RO_q rfl rfl (Yd_fld (off := 0) Try.underlying43 (by kernel_rfl) rfl) (RO_q rfl rfl (Yd_load Try.underlying3 rfl rfl (fun W hW => (ldB hB5 rfl) W hW.ext)) (RO_q rfl rfl (Yd_lss rfl rfl) (RO_q rfl rfl (Yd_move rfl) (?_))))
  refine RO_case (d := 38) rfl (fun hb38 => ?_) (fun hb38 => ?_)
  · skip
    try simp only [decide_eq_true_eq, decide_eq_false_iff_not, Bool.not_eq_true', Bool.not_eq_false', Decidable.not_not, Int.not_lt, Int.not_le, Bool.or_eq_true, Bool.and_eq_true, Bool.or_eq_false_iff, Bool.and_eq_false_iff] at hb38
    refine RO_gq rfl rfl rfl rfl (Yd_move rfl) (RO_gq rfl rfl rfl rfl (Yd_neq rfl rfl) (RO_gq rfl rfl rfl rfl (Yd_move rfl) (?_)))
    refine RO_case (d := 41) rfl (fun hb41 => ?_) (fun hb41 => ?_)
    · skip
      try simp only [decide_eq_true_eq, decide_eq_false_iff_not, Bool.not_eq_true', Bool.not_eq_false', Decidable.not_not, Int.not_lt, Int.not_le, Bool.or_eq_true, Bool.and_eq_true, Bool.or_eq_false_iff, Bool.and_eq_false_iff] at hb41
      refine RO_gn rfl rfl rfl rfl rfl (RO_gn rfl rfl rfl rfl rfl (RO_gnL rfl rfl rfl rfl rfl (RO_gnL rfl rfl rfl rfl rfl (RO_gn rfl rfl rfl rfl rfl (RO_gq rfl rfl rfl rfl (Yd_pickT rfl rfl) (RO_gq rfl rfl rfl rfl (Yd_move rfl) (RO_gn rfl rfl rfl rfl rfl (RO_gnL rfl rfl rfl rfl rfl (RO_gn rfl rfl rfl rfl rfl (RO_gq rfl rfl rfl rfl (Yd_pickT rfl rfl) (RO_q rfl rfl (Yd_pickT rfl rfl) (RO_nil (X_then (C_yes rfl rfl (C_seq (C_region (RL_q rfl (Yd_assign rfl) (RL_nil (X_then (C_ret (X_thenR (X_ret1 rfl rfl ?_))))))))))))))))))))))
      refine ⟨_, rfl, ?_, hE⟩
      all_goals (first | rfl | omega | (have hm := hm18 (by omega); simp_all; done) | simp_all)
    · skip
      try simp only [decide_eq_true_eq, decide_eq_false_iff_not, Bool.not_eq_true', Bool.not_eq_false', Decidable.not_not, Int.not_lt, Int.not_le, Bool.or_eq_true, Bool.and_eq_true, Bool.or_eq_false_iff, Bool.and_eq_false_iff] at hb41
      refine RO_gq rfl rfl rfl rfl (Yd_loadA Try.underlying52 rfl (by kernel_rfl) rfl (fun W hW => (ldBA hB6) W hW.ext)) (RO_gq rfl rfl rfl rfl (Yd_loadA Try.underlying43 rfl (by kernel_rfl) rfl (fun W hW => (ldBA hB8) W hW.ext)) (RO_gl rfl rfl rfl rfl (Ld_call Try.func38 rfl (by kernel_rfl) rfl (asV (sep := ep18) (sfr := fr18) (sdp := dp18) (ssc := sc18) hC18.vw ⟨by omega, by omega, by omega, by omega, by omega, by omega⟩ ⟨by omega, by omega⟩) ?_)))
      rintro e W19 ⟨rfl, he19⟩
      refine ⟨_, rfl, ?_⟩
      refine ⟨Kp.of_ext he19, ?_⟩
      replace hE := Ext.trans hE he19
      replace h_cps := h_cps.ext he19
      replace hB3 := hB3.ext he19
      replace hC14 := hC14.ext he19
      replace hB5 := hB5.ext he19
      replace hC18 := hC18.ext he19
      replace hB6 := hB6.ext he19
      replace hB8 := hB8.ext he19
      replace hB9 := hB9.ext he19
      replace hC32 := hC32.ext he19
      replace hB10 := hB10.ext he19
      have hs19 := he19.size
      refine RO_gl rfl rfl rfl rfl (Ld_call Try.func36 rfl (by kernel_rfl) rfl (refsSameV (aep := ep18) (afr := fr18) (adp := dp18) (asc := sc18) hC18.vw ⟨by omega, by omega, by omega, by omega, by omega, by omega⟩ ⟨by omega, by omega⟩ (bep := (ep14 + 1)) (bfr := fr14) (bdp := dp14) (bsc := sc14) hC14.vw ⟨by omega, by omega, by omega, by omega, by omega, by omega⟩ ⟨by omega, by omega⟩) ?_)
      rintro e W20 ⟨_, rfl, rfl, he20⟩
      refine ⟨_, rfl, ?_⟩
      refine ⟨Kp.of_ext he20, ?_⟩
      replace hE := Ext.trans hE he20
      replace h_cps := h_cps.ext he20
      replace hB3 := hB3.ext he20
      replace hC14 := hC14.ext he20
      replace hB5 := hB5.ext he20
      replace hC18 := hC18.ext he20
      replace hB6 := hB6.ext he20
      replace hB8 := hB8.ext he20
      replace hB9 := hB9.ext he20
      replace hC32 := hC32.ext he20
      replace hB10 := hB10.ext he20
      have hs20 := he20.size
      refine RO_gq rfl rfl rfl rfl (Yd_not rfl) (RO_gq rfl rfl rfl rfl (Yd_pickF rfl rfl) (RO_gq rfl rfl rfl rfl (Yd_move rfl) (?_)))
      refine RO_case (d := 48) rfl (fun hb48 => ?_) (fun hb48 => ?_)
      · skip
        try simp only [decide_eq_true_eq, decide_eq_false_iff_not, Bool.not_eq_true', Bool.not_eq_false', Decidable.not_not, Int.not_lt, Int.not_le, Bool.or_eq_true, Bool.and_eq_true, Bool.or_eq_false_iff, Bool.and_eq_false_iff] at hb48
        refine RO_gn rfl rfl rfl rfl rfl (RO_gnL rfl rfl rfl rfl rfl (RO_gn rfl rfl rfl rfl rfl (RO_gq rfl rfl rfl rfl (Yd_pickT rfl rfl) (RO_q rfl rfl (Yd_pickT rfl rfl) (RO_nil (X_then (C_yes rfl rfl (C_seq (C_region (RL_q rfl (Yd_assign rfl) (RL_nil (X_then (C_ret (X_thenR (X_ret1 rfl rfl ?_)))))))))))))))
        refine ⟨_, rfl, ?_, hE⟩
        all_goals (first | rfl | omega | (have hm := hm18 (by omega); simp_all; done) | simp_all)
      · skip
        try simp only [decide_eq_true_eq, decide_eq_false_iff_not, Bool.not_eq_true', Bool.not_eq_false', Decidable.not_not, Int.not_lt, Int.not_le, Bool.or_eq_true, Bool.and_eq_true, Bool.or_eq_false_iff, Bool.and_eq_false_iff] at hb48
        refine RO_gq rfl rfl rfl rfl (Yd_loadA Try.underlying52 rfl (by kernel_rfl) rfl (fun W hW => (ldBA hB6) W hW.ext)) (RO_gl rfl rfl rfl rfl (Ld_call Try.func32 rfl (by kernel_rfl) rfl (sMayV (sep := ep18) (sfr := fr18) (sdp := dp18) (ssc := sc18) hC18.vw ⟨by omega, by omega, by omega, by omega, by omega, by omega⟩ ⟨by omega, by omega⟩) ?_))
        rintro e W21 ⟨_, rfl, rfl, he21⟩
        refine ⟨_, rfl, ?_⟩
        refine ⟨Kp.of_ext he21, ?_⟩
        replace hE := Ext.trans hE he21
        replace h_cps := h_cps.ext he21
        replace hB3 := hB3.ext he21
        replace hC14 := hC14.ext he21
        replace hB5 := hB5.ext he21
        replace hC18 := hC18.ext he21
        replace hB6 := hB6.ext he21
        replace hB8 := hB8.ext he21
        replace hB9 := hB9.ext he21
        replace hC32 := hC32.ext he21
        replace hB10 := hB10.ext he21
        have hs21 := he21.size
        refine RO_gq rfl rfl rfl rfl (Yd_not rfl) (RO_gq rfl rfl rfl rfl (Yd_pickF rfl rfl) (RO_q rfl rfl (Yd_pickT rfl rfl) (RO_nil (X_then (?_)))))
        refine C_cond rfl (fun hb53 => ?_) (fun hb53 => ?_)
        · skip
          try simp only [decide_eq_true_eq, decide_eq_false_iff_not, Bool.not_eq_true', Bool.not_eq_false', Decidable.not_not, Int.not_lt, Int.not_le, Bool.or_eq_true, Bool.and_eq_true, Bool.or_eq_false_iff, Bool.and_eq_false_iff] at hb53
          refine C_seq (C_region (RL_q rfl (Yd_assign rfl) (RL_nil (X_then (C_ret (X_thenR (X_ret1 rfl rfl ?_)))))))
          refine ⟨_, rfl, ?_, hE⟩
          all_goals (first | rfl | omega | (have hm := hm18 (by omega); simp_all; done) | simp_all)
        · skip
          try simp only [decide_eq_true_eq, decide_eq_false_iff_not, Bool.not_eq_true', Bool.not_eq_false', Decidable.not_not, Int.not_lt, Int.not_le, Bool.or_eq_true, Bool.and_eq_true, Bool.or_eq_false_iff, Bool.and_eq_false_iff] at hb53
          refine C_skip (X_then (C_seq (C_region (RL_q rfl (Yd_move rfl) (RL_q rfl (Yd_eql rfl rfl) (RL_q rfl (Yd_move rfl) (?_)))))))
          apply RL_and (dj := 56) 60 4 rfl
          · intro hb56
            try simp only [decide_eq_true_eq, decide_eq_false_iff_not, Bool.not_eq_true', Bool.not_eq_false', Decidable.not_not, Int.not_lt, Int.not_le, Bool.or_eq_true, Bool.and_eq_true, Bool.or_eq_false_iff, Bool.and_eq_false_iff] at hb56
            refine QL_gq rfl rfl rfl (Yd_fld (off := 0) Try.underlying52 (by kernel_rfl) rfl) (QL_gq rfl rfl rfl (Yd_load Try.underlying3 rfl rfl (ldB hB10 rfl)) (QL_gq rfl rfl rfl (Yd_eql rfl rfl) (QL_q rfl (Yd_pickT rfl rfl) ((QL_nil 4 rfl rfl rfl)))))
          · intro hb56
            try simp only [decide_eq_true_eq, decide_eq_false_iff_not, Bool.not_eq_true', Bool.not_eq_false', Decidable.not_not, Int.not_lt, Int.not_le, Bool.or_eq_true, Bool.and_eq_true, Bool.or_eq_false_iff, Bool.and_eq_false_iff] at hb56
            refine QL_gn rfl rfl rfl rfl (QL_gn rfl rfl rfl rfl (QL_gn rfl rfl rfl rfl (QL_q rfl (Yd_pickF rfl rfl) ((QL_nil 4 rfl rfl rfl)))))
          · skip
            refine RL_q rfl (Yd_move rfl) (?_)
            apply RL_and (dj := 61) 67 6 rfl
            · intro hb61
              try simp only [decide_eq_true_eq, decide_eq_false_iff_not, Bool.not_eq_true', Bool.not_eq_false', Decidable.not_not, Int.not_lt, Int.not_le, Bool.or_eq_true, Bool.and_eq_true, Bool.or_eq_false_iff, Bool.and_eq_false_iff] at hb61
              refine QL_gq rfl rfl rfl (Yd_fld (off := 1) Try.underlying52 (by kernel_rfl) rfl) (QL_gq rfl rfl rfl (Yd_fld (off := 3) Try.underlying24 (by kernel_rfl) rfl) (QL_gq rfl rfl rfl (Yd_load Try.underlying22 rfl rfl (ldB hB10 rfl)) (QL_gq rfl rfl rfl (Yd_len Try.underlying22 rfl) (QL_gq rfl rfl rfl (Yd_eql rfl rfl) (QL_q rfl (Yd_pickT rfl rfl) ((QL_nil 6 rfl rfl rfl)))))))
            · intro hb61
              try simp only [decide_eq_true_eq, decide_eq_false_iff_not, Bool.not_eq_true', Bool.not_eq_false', Decidable.not_not, Int.not_lt, Int.not_le, Bool.or_eq_true, Bool.and_eq_true, Bool.or_eq_false_iff, Bool.and_eq_false_iff] at hb61
              refine QL_gn rfl rfl rfl rfl (QL_gn rfl rfl rfl rfl (QL_gn rfl rfl rfl rfl (QL_gn rfl rfl rfl rfl (QL_gn rfl rfl rfl rfl (QL_q rfl (Yd_pickF rfl rfl) ((QL_nil 6 rfl rfl rfl)))))))
            · skip
              refine RL_q rfl (Yd_move rfl) (?_)
              refine RL_case (d := 68) rfl (fun hb68 => ?_) (fun hb68 => ?_)
              · skip
                try simp only [decide_eq_true_eq, decide_eq_false_iff_not, Bool.not_eq_true', Bool.not_eq_false', Decidable.not_not, Int.not_lt, Int.not_le, Bool.or_eq_true, Bool.and_eq_true, Bool.or_eq_false_iff, Bool.and_eq_false_iff] at hb68
                refine RL_gl rfl rfl rfl (Ld_call Try.func34 rfl (by kernel_rfl) rfl (lives06V ) ?_)
                rintro e W22 ⟨_, rfl, rfl, he22⟩
                refine ⟨_, rfl, ?_⟩
                replace hE := Ext.trans hE he22
                replace h_cps := h_cps.ext he22
                replace hB3 := hB3.ext he22
                replace hC14 := hC14.ext he22
                replace hB5 := hB5.ext he22
                replace hC18 := hC18.ext he22
                replace hB6 := hB6.ext he22
                replace hB8 := hB8.ext he22
                replace hB9 := hB9.ext he22
                replace hC32 := hC32.ext he22
                replace hB10 := hB10.ext he22
                have hs22 := he22.size
                refine RL_q rfl (Yd_pickT rfl rfl) (RL_q rfl (Yd_assign rfl) (RL_nil (X_then (C_ret (X_ret1 rfl rfl ?_)))))
                refine ⟨_, rfl, ?_, hE⟩
                all_goals (first | rfl | omega | (have hm := hm18 (by omega); simp_all; done) | simp_all)
              · skip
                try simp only [decide_eq_true_eq, decide_eq_false_iff_not, Bool.not_eq_true', Bool.not_eq_false', Decidable.not_not, Int.not_lt, Int.not_le, Bool.or_eq_true, Bool.and_eq_true, Bool.or_eq_false_iff, Bool.and_eq_false_iff] at hb68
                refine RL_gn rfl rfl rfl rfl (RL_q rfl (Yd_pickF rfl rfl) (RL_q rfl (Yd_assign rfl) (RL_nil (X_then (C_ret (X_ret1 rfl rfl ?_))))))
                refine ⟨_, rfl, ?_, hE⟩
                all_goals (first | rfl | omega | (have hm := hm18 (by omega); simp_all; done) | simp_all)
  · skip
    try simp only [decide_eq_true_eq, decide_eq_false_iff_not, Bool.not_eq_true', Bool.not_eq_false', Decidable.not_not, Int.not_lt, Int.not_le, Bool.or_eq_true, Bool.and_eq_true, Bool.or_eq_false_iff, Bool.and_eq_false_iff] at hb38
    refine RO_gn rfl rfl rfl rfl rfl (RO_gn rfl rfl rfl rfl rfl (RO_gn rfl rfl rfl rfl rfl (RO_gu rfl rfl rfl rfl (RO_gu rfl rfl rfl rfl (RO_guL rfl rfl rfl rfl (RO_guL rfl rfl rfl rfl (RO_gu rfl rfl rfl rfl (RO_gn rfl rfl rfl rfl rfl (RO_gn rfl rfl rfl rfl rfl (RO_gu rfl rfl rfl rfl (RO_guL rfl rfl rfl rfl (RO_gu rfl rfl rfl rfl (RO_gn rfl rfl rfl rfl rfl (RO_q rfl rfl (Yd_pickF rfl rfl) (RO_nil (X_then (C_no rfl rfl (C_skip (X_then (C_seq (C_region (RL_q rfl (Yd_move rfl) (RL_q rfl (Yd_eql rfl rfl) (RL_q rfl (Yd_move rfl) (?_)))))))))))))))))))))))))
    apply RL_and (dj := 56) 60 4 rfl
    · intro hb56
      try simp only [decide_eq_true_eq, decide_eq_false_iff_not, Bool.not_eq_true', Bool.not_eq_false', Decidable.not_not, Int.not_lt, Int.not_le, Bool.or_eq_true, Bool.and_eq_true, Bool.or_eq_false_iff, Bool.and_eq_false_iff] at hb56
      refine QL_gq rfl rfl rfl (Yd_fld (off := 0) Try.underlying52 (by kernel_rfl) rfl) (QL_gq rfl rfl rfl (Yd_load Try.underlying3 rfl rfl (ldB hB10 rfl)) (QL_gq rfl rfl rfl (Yd_eql rfl rfl) (QL_q rfl (Yd_pickT rfl rfl) ((QL_nil 4 rfl rfl rfl)))))
    · intro hb56
      try simp only [decide_eq_true_eq, decide_eq_false_iff_not, Bool.not_eq_true', Bool.not_eq_false', Decidable.not_not, Int.not_lt, Int.not_le, Bool.or_eq_true, Bool.and_eq_true, Bool.or_eq_false_iff, Bool.and_eq_false_iff] at hb56
      refine QL_gn rfl rfl rfl rfl (QL_gn rfl rfl rfl rfl (QL_gn rfl rfl rfl rfl (QL_q rfl (Yd_pickF rfl rfl) ((QL_nil 4 rfl rfl rfl)))))
    · skip
      refine RL_q rfl (Yd_move rfl) (?_)
      apply RL_and (dj := 61) 67 6 rfl
      · intro hb61
        try simp only [decide_eq_true_eq, decide_eq_false_iff_not, Bool.not_eq_true', Bool.not_eq_false', Decidable.not_not, Int.not_lt, Int.not_le, Bool.or_eq_true, Bool.and_eq_true, Bool.or_eq_false_iff, Bool.and_eq_false_iff] at hb61
        refine QL_gq rfl rfl rfl (Yd_fld (off := 1) Try.underlying52 (by kernel_rfl) rfl) (QL_gq rfl rfl rfl (Yd_fld (off := 3) Try.underlying24 (by kernel_rfl) rfl) (QL_gq rfl rfl rfl (Yd_load Try.underlying22 rfl rfl (ldB hB10 rfl)) (QL_gq rfl rfl rfl (Yd_len Try.underlying22 rfl) (QL_gq rfl rfl rfl (Yd_eql rfl rfl) (QL_q rfl (Yd_pickT rfl rfl) ((QL_nil 6 rfl rfl rfl)))))))
      · intro hb61
        try simp only [decide_eq_true_eq, decide_eq_false_iff_not, Bool.not_eq_true', Bool.not_eq_false', Decidable.not_not, Int.not_lt, Int.not_le, Bool.or_eq_true, Bool.and_eq_true, Bool.or_eq_false_iff, Bool.and_eq_false_iff] at hb61
        refine QL_gn rfl rfl rfl rfl (QL_gn rfl rfl rfl rfl (QL_gn rfl rfl rfl rfl (QL_gn rfl rfl rfl rfl (QL_gn rfl rfl rfl rfl (QL_q rfl (Yd_pickF rfl rfl) ((QL_nil 6 rfl rfl rfl)))))))
      · skip
        refine RL_q rfl (Yd_move rfl) (?_)
        refine RL_case (d := 68) rfl (fun hb68 => ?_) (fun hb68 => ?_)
        · skip
          try simp only [decide_eq_true_eq, decide_eq_false_iff_not, Bool.not_eq_true', Bool.not_eq_false', Decidable.not_not, Int.not_lt, Int.not_le, Bool.or_eq_true, Bool.and_eq_true, Bool.or_eq_false_iff, Bool.and_eq_false_iff] at hb68
          refine RL_gl rfl rfl rfl (Ld_call Try.func34 rfl (by kernel_rfl) rfl (lives06V ) ?_)
          rintro e W19 ⟨_, rfl, rfl, he19⟩
          refine ⟨_, rfl, ?_⟩
          replace hE := Ext.trans hE he19
          replace h_cps := h_cps.ext he19
          replace hB3 := hB3.ext he19
          replace hC14 := hC14.ext he19
          replace hB5 := hB5.ext he19
          replace hC18 := hC18.ext he19
          replace hB6 := hB6.ext he19
          replace hB8 := hB8.ext he19
          replace hB9 := hB9.ext he19
          replace hC32 := hC32.ext he19
          replace hB10 := hB10.ext he19
          have hs19 := he19.size
          refine RL_q rfl (Yd_pickT rfl rfl) (RL_q rfl (Yd_assign rfl) (RL_nil (X_then (C_ret (X_ret1 rfl rfl ?_)))))
          refine ⟨_, rfl, ?_, hE⟩
          all_goals (first | rfl | omega | (have hm := hm18 (by omega); simp_all; done) | simp_all)
        · skip
          try simp only [decide_eq_true_eq, decide_eq_false_iff_not, Bool.not_eq_true', Bool.not_eq_false', Decidable.not_not, Int.not_lt, Int.not_le, Bool.or_eq_true, Bool.and_eq_true, Bool.or_eq_false_iff, Bool.and_eq_false_iff] at hb68
          refine RL_gn rfl rfl rfl rfl (RL_q rfl (Yd_pickF rfl rfl) (RL_q rfl (Yd_assign rfl) (RL_nil (X_then (C_ret (X_ret1 rfl rfl ?_))))))
          refine ⟨_, rfl, ?_, hE⟩
          all_goals (first | rfl | omega | (have hm := hm18 (by omega); simp_all; done) | simp_all)
end Go.Proofs.AL
