import Derived.Test.YtefidipfedjpbaaSup
set_option linter.unusedVariables false
set_option linter.unusedSimpArgs false
namespace Go.Proofs.AL
open Go.RowKit
set_option maxHeartbeats 8000000 in
theorem SuperSameV {a : Int} {b : Int} {cfr cdp csc : Int} {lo_cps B_cps : Nat} {A_cps : Option Addr} {n_cps c_cps : Nat} {cps : List Pt} {dfr ddp dsc : Int} {lo_dps B_dps : Nat} {A_dps : Option Addr} {n_dps c_dps : Nat} {dps : List Pt} {w : World}  (b_a : -9223372036854775808 ≤ a ∧ a ≤ 9223372036854775807) (b_b : -9223372036854775808 ≤ b ∧ b ≤ 9223372036854775807) (h_cps : Vw tP w lo_cps B_cps A_cps n_cps c_cps cps) (b_c : -9223372036854775808 ≤ cfr ∧ cfr ≤ 9223372036854775807 ∧ -9223372036854775808 ≤ cdp ∧ cdp ≤ 9223372036854775807 ∧ -9223372036854775808 ≤ csc ∧ csc ≤ 9223372036854775807) (h_dps : Vw tP w lo_dps B_dps A_dps n_dps c_dps dps) (b_d : -9223372036854775808 ≤ dfr ∧ dfr ≤ 9223372036854775807 ∧ -9223372036854775808 ≤ ddp ∧ ddp ≤ 9223372036854775807 ∧ -9223372036854775808 ≤ dsc ∧ dsc ≤ 9223372036854775807) :
    Calls Try.prog 11 #[.int .i64 a, .int .i64 b, .agg #[.int .i64 cfr, .int .i64 cdp, .int .i64 csc, .slice A_cps n_cps c_cps], .agg #[.int .i64 dfr, .int .i64 ddp, .int .i64 dsc, .slice A_dps n_dps c_dps]] w fun e w' => ∃ (x0 : Bool), e = .returned (.bool x0) ∧ x0 = (true) ∧ Ext w w' := by
  have hE := Ext.refl w
  replace h_cps := h_cps.fit
  have hn_cps := h_cps.ln
  have hc_cps := h_cps.cap
  have hm_cps := h_cps.max
  simp only [maxLen] at hm_cps
  replace h_dps := h_dps.fit
  have hn_dps := h_dps.ln
  have hc_dps := h_dps.cap
  have hm_dps := h_dps.max
  simp only [maxLen] at hm_dps
  refine calls_of (l := [.int .i64 a, .int .i64 b, .agg #[.int .i64 cfr, .int .i64 cdp, .int .i64 csc, .slice A_cps n_cps c_cps], .agg #[.int .i64 dfr, .int .i64 ddp, .int .i64 dsc, .slice A_dps n_dps c_dps]]) (N := 60) Try.func11 rfl rfl rfl ?_
  refine C_seq (C_region (RL_l rfl (Ld_box rfl ?_)))
  have hg_6 := hE.size
  intro W1 he1 hz1 hB6
  replace hE := Ext.trans hE he1
  replace h_cps := h_cps.ext he1
  replace h_dps := h_dps.ext he1
  refine RL_l rfl (Ld_box rfl ?_)
  have hg_7 := hE.size
  intro W2 he2 hz2 hB7
  replace hE := Ext.trans hE he2
  replace h_cps := h_cps.ext he2
  replace h_dps := h_dps.ext he2
  replace hB6 := hB6.ext he2
  refine RL_q rfl (Yd_assign rfl) (RL_nil (X_then (C_seq (C_region (RL_q rfl (Yd_move rfl) (RL_q rfl (Yd_loadA Try.underlying24 rfl (by kernel_rfl) rfl (ldBA hB6)) (RL_l rfl (Ld_call Try.func28 rfl (by kernel_rfl) rfl (sGoodV ⟨by first | omega | (dsimp only; omega), by first | omega | (dsimp only; omega)⟩ (cfr := cfr) (cdp := cdp) (csc := csc) h_cps ⟨by omega, by omega, by omega, by omega, by omega, by omega⟩) ?_))))))))
  rintro e W3 ⟨ep17, fr17, dp17, sc17, AC17, nC17, cC17, pC17, rfl, hp17, hC17, he3⟩
  refine ⟨_, rfl, ?_⟩
  replace hE := Ext.trans hE he3
  replace h_cps := h_cps.ext he3
  replace h_dps := h_dps.ext he3
  replace hB6 := hB6.ext he3
  replace hB7 := hB7.ext he3
  have hs3 := he3.size
  have hnC17 := hC17.ln
  have hcC17 := hC17.cap
  have hfb17 := hp17.2.frb
  have hdb17 := hp17.2.hdp
  have hsb17 := hp17.2.hsc
  have hlb17 := hp17.2.hln
  refine RL_l rfl (Ld_alloc (v := (.agg #[(.int .i64 0), (.int .i64 0), (.int .i64 0), (.int .i64 0), (.slice none 0 0)])) (by kernel_rfl) ?_)
  have hg_9 := hE.size
  intro W4 he4 hz4 hB9
  replace hE := Ext.trans hE he4
  replace h_cps := h_cps.ext he4
  replace h_dps := h_dps.ext he4
  replace hB6 := hB6.ext he4
  replace hB7 := hB7.ext he4
  replace hC17 := hC17.ext he4
  refine RL_l0 (Ld_store (by kernel_rfl) rfl rfl hB9 (Nat.le_of_ble_eq_true rfl) (by simp [cellsL, Value.cells, Value.oneCell']) ?_)
  intro W5 hu5 hz5 hB9
  have hk5 := Kp.ofb hu5
  have hs5 := hk5.size
  replace hE := Ext.kp hE hk5 (fun k hk => by first | omega | (have hk := hk; dsimp only at hk; omega))
  replace h_cps := h_cps.kp hk5 (fun k hk => by first | omega | (have hk := hk; dsimp only at hk; omega))
  replace h_dps := h_dps.kp hk5 (fun k hk => by first | omega | (have hk := hk; dsimp only at hk; omega))
  replace hB6 := hB6.kp hk5 (fun hk => by first | omega | (have hk := hk; dsimp only at hk; omega))
  replace hB7 := hB7.kp hk5 (fun hk => by first | omega | (have hk := hk; dsimp only at hk; omega))
  replace hC17 := hC17.kp hk5 (fun k hk => by first | omega | (have hk := hk; dsimp only at hk; omega))
  refine RL_nil (X_then (C_seq (C_region (RL_q rfl (Yd_move rfl) (RL_q rfl (Yd_loadA Try.underlying24 rfl (by kernel_rfl) rfl (ldBA hB7)) (RL_l rfl (Ld_call Try.func28 rfl (by kernel_rfl) rfl (sGoodV ⟨by first | omega | (dsimp only; omega), by first | omega | (dsimp only; omega)⟩ (cfr := dfr) (cdp := ddp) (csc := dsc) h_dps ⟨by omega, by omega, by omega, by omega, by omega, by omega⟩) ?_)))))))
  rintro e W6 ⟨ep20, fr20, dp20, sc20, AC20, nC20, cC20, pC20, rfl, hp20, hC20, he6⟩
  refine ⟨_, rfl, ?_⟩
  replace hE := Ext.trans hE he6
  replace h_cps := h_cps.ext he6
  replace h_dps := h_dps.ext he6
  replace hB6 := hB6.ext he6
  replace hB7 := hB7.ext he6
  replace hC17 := hC17.ext he6
  replace hB9 := hB9.ext he6
  have hs6 := he6.size
  have hnC20 := hC20.ln
  have hcC20 := hC20.cap
  have hfb20 := hp20.2.frb
  have hdb20 := hp20.2.hdp
  have hsb20 := hp20.2.hsc
  have hlb20 := hp20.2.hln
  refine RL_l rfl (Ld_alloc (v := (.agg #[(.int .i64 0), (.int .i64 0), (.int .i64 0), (.int .i64 0), (.slice none 0 0)])) (by kernel_rfl) ?_)
  have hg_10 := hE.size
  intro W7 he7 hz7 hB10
  replace hE := Ext.trans hE he7
  replace h_cps := h_cps.ext he7
  replace h_dps := h_dps.ext he7
  replace hB6 := hB6.ext he7
  replace hB7 := hB7.ext he7
  replace hC17 := hC17.ext he7
  replace hB9 := hB9.ext he7
  replace hC20 := hC20.ext he7
  refine RL_l0 (Ld_store (by kernel_rfl) rfl rfl hB10 (Nat.le_of_ble_eq_true rfl) (by simp [cellsL, Value.cells, Value.oneCell']) ?_)
  intro W8 hu8 hz8 hB10
  have hk8 := Kp.ofb hu8
  have hs8 := hk8.size
  replace hE := Ext.kp hE hk8 (fun k hk => by first | omega | (have hk := hk; dsimp only at hk; omega))
  replace h_cps := h_cps.kp hk8 (fun k hk => by first | omega | (have hk := hk; dsimp only at hk; omega))
  replace h_dps := h_dps.kp hk8 (fun k hk => by first | omega | (have hk := hk; dsimp only at hk; omega))
  replace hB6 := hB6.kp hk8 (fun hk => by first | omega | (have hk := hk; dsimp only at hk; omega))
  replace hB7 := hB7.kp hk8 (fun hk => by first | omega | (have hk := hk; dsimp only at hk; omega))
  replace hC17 := hC17.kp hk8 (fun k hk => by first | omega | (have hk := hk; dsimp only at hk; omega))
  replace hB9 := hB9.kp hk8 (fun hk => by first | omega | (have hk := hk; dsimp only at hk; omega))
  replace hC20 := hC20.kp hk8 (fun k hk => by first | omega | (have hk := hk; dsimp only at hk; omega))
  refine RL_nil (X_then (C_seq (C_region (RL_q rfl (Yd_fld (off := 0) Try.underlying43 (by kernel_rfl) rfl) (RL_q rfl (Yd_load Try.underlying3 rfl rfl (ldB hB9 rfl)) (RL_q rfl (Yd_fld (off := 1) Try.underlying43 (by kernel_rfl) rfl) (RL_q rfl (Yd_loadA (cs := [.int .i64 fr20, .int .i64 dp20, .int .i64 sc20, .slice AC20 nC20 cC20]) Try.underlying24 rfl (by kernel_rfl) rfl (ldBS hB10 1 [.int .i64 fr20, .int .i64 dp20, .int .i64 sc20, .slice AC20 nC20 cC20] rfl)) (RL_q rfl (Yd_build Try.bld43 rfl rfl) (RL_l rfl (Ld_alloc (v := (.agg #[(.int .i64 0), (.int .i64 0), (.int .i64 0), (.int .i64 0), (.slice none 0 0)])) (by kernel_rfl) ?_))))))))))
  have hg_11 := hE.size
  intro W9 he9 hz9 hB11
  replace hE := Ext.trans hE he9
  replace h_cps := h_cps.ext he9
  replace h_dps := h_dps.ext he9
  replace hB6 := hB6.ext he9
  replace hB7 := hB7.ext he9
  replace hC17 := hC17.ext he9
  replace hB9 := hB9.ext he9
  replace hC20 := hC20.ext he9
  replace hB10 := hB10.ext he9
  refine RL_l0 (Ld_store (by kernel_rfl) rfl rfl hB11 (Nat.le_of_ble_eq_true rfl) (by simp [cellsL, Value.cells, Value.oneCell']) ?_)
  intro W10 hu10 hz10 hB11
  have hk10 := Kp.ofb hu10
  have hs10 := hk10.size
  replace hE := Ext.kp hE hk10 (fun k hk => by first | omega | (have hk := hk; dsimp only at hk; omega))
  replace h_cps := h_cps.kp hk10 (fun k hk => by first | omega | (have hk := hk; dsimp only at hk; omega))
  replace h_dps := h_dps.kp hk10 (fun k hk => by first | omega | (have hk := hk; dsimp only at hk; omega))
  replace hB6 := hB6.kp hk10 (fun hk => by first | omega | (have hk := hk; dsimp only at hk; omega))
  replace hB7 := hB7.kp hk10 (fun hk => by first | omega | (have hk := hk; dsimp only at hk; omega))
  replace hC17 := hC17.kp hk10 (fun k hk => by first | omega | (have hk := hk; dsimp only at hk; omega))
  replace hB9 := hB9.kp hk10 (fun hk => by first | omega | (have hk := hk; dsimp only at hk; omega))
  replace hC20 := hC20.kp hk10 (fun k hk => by first | omega | (have hk := hk; dsimp only at hk; omega))
  replace hB10 := hB10.kp hk10 (fun hk => by first | omega | (have hk := hk; dsimp only at hk; omega))
  refine RL_nil (X_then (C_seq (C_region (RL_q rfl (Yd_loadA Try.underlying43 rfl (by kernel_rfl) rfl (ldBA hB9)) (RL_q rfl (Yd_loadA Try.underlying43 rfl (by kernel_rfl) rfl (ldBA hB10)) (RL_q rfl (Yd_loadA Try.underlying43 rfl (by kernel_rfl) rfl (ldBA hB11)) (RL_l rfl (Ld_lit Try.underlying45 rfl (lit_flat Try.underlying45 Try.elt43 rfl rfl ⟨rfl, by decide⟩) ?_))))))))
  intro W11 he11 hz11 hL29
  replace hE := Ext.trans hE he11
  replace h_cps := h_cps.ext he11
  replace h_dps := h_dps.ext he11
  replace hB6 := hB6.ext he11
  replace hB7 := hB7.ext he11
  replace hC17 := hC17.ext he11
  replace hB9 := hB9.ext he11
  replace hC20 := hC20.ext he11
  replace hB10 := hB10.ext he11
  replace hB11 := hB11.ext he11
  have hO29 := Ow.of_blk (T := tSp) (l := [(⟨ep17, fr17, dp17, sc17, AC17, nC17, cC17⟩ : SpH), (⟨ep20, fr20, dp20, sc20, AC20, nC20, cC20⟩ : SpH), (⟨ep17, fr20, dp20, sc20, AC20, nC20, cC20⟩ : SpH)]) hL29 rfl (n := 3) rfl (by simp [maxLen]) (okc trivial (okc trivial (okc trivial okn)))
  clear hL29
  refine RL_q rfl (Yd_assign rfl) (RL_nil (X_then (C_seq (C_seq (C_region (RL_q rfl (Yd_assign rfl) (RL_nil (X_then (C_block (C_rounds 4 (CR_succ (C_seq (C_seq (C_region (RL_q rfl (Yd_move rfl) (RL_q rfl (Yd_lss rfl rfl) (RL_nil (X_then (C_yes rfl rfl (C_skip (X_then (C_seq (C_block (C_seq (C_region (RL_q rfl (Yd_assign rfl) (RL_nil (X_then (C_block (C_rounds 4 (CR_succ (C_seq (C_seq (C_region (RL_q rfl (Yd_move rfl) (RL_q rfl (Yd_lss rfl rfl) (RL_nil (X_then (C_yes rfl rfl (C_skip (X_then (C_seq (C_block (C_seq (?_)))))))))))))))))))))))))))))))))))))))))))))
  refine C_regionD (NoB) (l := [(0, true), (1, true), (2, true), (3, true), (5, true), (6, true), (7, true), (8, true), (11, true), (12, true), (13, true), (14, true), (15, true), (16, true), (17, true), (18, true), (4, false), (9, false), (10, false), (19, false), (20, true)]) (by kernel_rfl) (by kernel_rfl) rfl (by kernel_rfl) (fun _ _ d _ _ h => by cases d <;> exact h) ?_
  intro W12 he12 hh12
  replace hE := Ext.trans hE he12
  replace h_cps := h_cps.ext he12
  replace h_dps := h_dps.ext he12
  replace hB6 := hB6.ext he12
  replace hB7 := hB7.ext he12
  replace hC17 := hC17.ext he12
  replace hB9 := hB9.ext he12
  replace hC20 := hC20.ext he12
  replace hB10 := hB10.ext he12
  replace hB11 := hB11.ext he12
  replace hO29 := hO29.ext he12
  have hs12 := he12.size
  refine RO_q rfl rfl (Yd_move rfl) (RO_q rfl rfl (Yd_move rfl) (RO_q rfl rfl (Yd_idxL Try.underlying45 (sz := 5) (by kernel_rfl) rfl rfl (by omega) (by omega)) (RO_q rfl rfl (Yd_loadA (cs := [.int .i64 ep17, .int .i64 fr17, .int .i64 dp17, .int .i64 sc17, .slice AC17 nC17 cC17]) Try.underlying43 rfl (by kernel_rfl) rfl (fun W hW => (Vw.lqAL hO29.vw (i := 0) (a := (⟨ep17, fr17, dp17, sc17, AC17, nC17, cC17⟩ : SpH)) rfl rfl rfl) W hW.ext)) (RO_q rfl rfl (Yd_move rfl) (RO_q rfl rfl (Yd_move rfl) (RO_q rfl rfl (Yd_idxL Try.underlying45 (sz := 5) (by kernel_rfl) rfl rfl (by omega) (by omega)) (RO_q rfl rfl (Yd_loadA (cs := [.int .i64 ep17, .int .i64 fr17, .int .i64 dp17, .int .i64 sc17, .slice AC17 nC17 cC17]) Try.underlying43 rfl (by kernel_rfl) rfl (fun W hW => (Vw.lqAL hO29.vw (i := 0) (a := (⟨ep17, fr17, dp17, sc17, AC17, nC17, cC17⟩ : SpH)) rfl rfl rfl) W hW.ext)) (RO_q rfl rfl (Yd_move rfl) (RO_q rfl rfl (Yd_move rfl) (RO_q rfl rfl (Yd_idxL Try.underlying45 (sz := 5) (by kernel_rfl) rfl rfl (by omega) (by omega)) (RO_q rfl rfl (Yd_loadA (cs := [.int .i64 ep17, .int .i64 fr17, .int .i64 dp17, .int .i64 sc17, .slice AC17 nC17 cC17]) Try.underlying43 rfl (by kernel_rfl) rfl (fun W hW => (Vw.lqAL hO29.vw (i := 0) (a := (⟨ep17, fr17, dp17, sc17, AC17, nC17, cC17⟩ : SpH)) rfl rfl rfl) W hW.ext)) (RO_q rfl rfl (Yd_move rfl) (RO_q rfl rfl (Yd_move rfl) (RO_q rfl rfl (Yd_idxL Try.underlying45 (sz := 5) (by kernel_rfl) rfl rfl (by omega) (by omega)) (RO_q rfl rfl (Yd_loadA (cs := [.int .i64 ep17, .int .i64 fr17, .int .i64 dp17, .int .i64 sc17, .slice AC17 nC17 cC17]) Try.underlying43 rfl (by kernel_rfl) rfl (fun W hW => (Vw.lqAL hO29.vw (i := 0) (a := (⟨ep17, fr17, dp17, sc17, AC17, nC17, cC17⟩ : SpH)) rfl rfl rfl) W hW.ext)) (RO_l rfl rfl (Ld_call Try.func31 rfl (by kernel_rfl) rfl (ofV (sep := ep17) (sfr := fr17) (sdp := dp17) (ssc := sc17) hC17.vw ⟨by omega, by omega, by omega, by omega, by omega, by omega⟩ ⟨by omega, by omega⟩) ?_)))))))))))))))))
  rintro e W13 ⟨rfl, he13⟩
  refine ⟨_, rfl, ?_⟩
  refine ⟨Kp.of_ext he13, ?_⟩
  replace hE := Ext.trans hE he13
  replace h_cps := h_cps.ext he13
  replace h_dps := h_dps.ext he13
  replace hB6 := hB6.ext he13
  replace hB7 := hB7.ext he13
  replace hC17 := hC17.ext he13
  replace hB9 := hB9.ext he13
  replace hC20 := hC20.ext he13
  replace hB10 := hB10.ext he13
  replace hB11 := hB11.ext he13
  replace hO29 := hO29.ext he13
  have hs13 := he13.size
  refine RO_l rfl rfl (Ld_call Try.func31 rfl (by kernel_rfl) rfl (ofV (sep := ep17) (sfr := fr17) (sdp := dp17) (ssc := sc17) hC17.vw ⟨by omega, by omega, by omega, by omega, by omega, by omega⟩ ⟨by omega, by omega⟩) ?_)
  rintro e W14 ⟨rfl, he14⟩
  refine ⟨_, rfl, ?_⟩
  refine ⟨Kp.of_ext he14, ?_⟩
  replace hE := Ext.trans hE he14
  replace h_cps := h_cps.ext he14
  replace h_dps := h_dps.ext he14
  replace hB6 := hB6.ext he14
  replace hB7 := hB7.ext he14
  replace hC17 := hC17.ext he14
  replace hB9 := hB9.ext he14
  replace hC20 := hC20.ext he14
  replace hB10 := hB10.ext he14
  replace hB11 := hB11.ext he14
  replace hO29 := hO29.ext he14
  have hs14 := he14.size
  refine RO_l rfl rfl (Ld_call Try.func35 rfl (by kernel_rfl) rfl (sSameV (aep := ep17) (afr := fr17) (adp := dp17) (asc := sc17) hC17.vw ⟨by omega, by omega, by omega, by omega, by omega, by omega⟩ ⟨by omega, by omega⟩ (bep := ep17) (bfr := fr17) (bdp := dp17) (bsc := sc17) hC17.vw ⟨by omega, by omega, by omega, by omega, by omega, by omega⟩ ⟨by omega, by omega⟩) ?_)
  rintro e W15 ⟨_, rfl, rfl, he15⟩
  refine ⟨_, rfl, ?_⟩
  refine ⟨Kp.of_ext he15, ?_⟩
  replace hE := Ext.trans hE he15
  replace h_cps := h_cps.ext he15
  replace h_dps := h_dps.ext he15
  replace hB6 := hB6.ext he15
  replace hB7 := hB7.ext he15
  replace hC17 := hC17.ext he15
  replace hB9 := hB9.ext he15
  replace hC20 := hC20.ext he15
  replace hB10 := hB10.ext he15
  replace hB11 := hB11.ext he15
  replace hO29 := hO29.ext he15
  have hs15 := he15.size
  refine RO_l rfl rfl (Ld_call Try.func36 rfl (by kernel_rfl) rfl (refsSameV (aep := ep17) (afr := fr17) (adp := dp17) (asc := sc17) hC17.vw ⟨by omega, by omega, by omega, by omega, by omega, by omega⟩ ⟨by omega, by omega⟩ (bep := ep17) (bfr := fr17) (bdp := dp17) (bsc := sc17) hC17.vw ⟨by omega, by omega, by omega, by omega, by omega, by omega⟩ ⟨by omega, by omega⟩) ?_)
  rintro e W16 ⟨_, rfl, rfl, he16⟩
  refine ⟨_, rfl, ?_⟩
  refine ⟨Kp.of_ext he16, ?_⟩
  replace hE := Ext.trans hE he16
  replace h_cps := h_cps.ext he16
  replace h_dps := h_dps.ext he16
  replace hB6 := hB6.ext he16
  replace hB7 := hB7.ext he16
  replace hC17 := hC17.ext he16
  replace hB9 := hB9.ext he16
  replace hC20 := hC20.ext he16
  replace hB10 := hB10.ext he16
  replace hB11 := hB11.ext he16
  replace hO29 := hO29.ext he16
  have hs16 := he16.size
  refine RO_q rfl rfl (Yd_neqB Try.underlying4 rfl rfl) (RO_nil (X_then (?_)))
  refine C_no rfl (by simp) (C_skip (X_block (X_then (C_region (RL_q rfl (Yd_move rfl) (RL_q rfl (Yd_add (r := 1) rfl rfl rfl) (RL_q rfl (Yd_assign rfl) (RL_nil (X_round (CR_sub (E' := [(12, .slice (some ⟨W10.heap.size, 0, none⟩) 3 3), (13, .int .i64 0), (14, .int .i64 1), (30, .int .i64 0), (31, .bool true)]) ⟨rfl, rfl, rfl, rfl, rfl, trivial⟩ (CR_succ (C_seq (C_seq (C_region (RL_q rfl (Yd_move rfl) (RL_q rfl (Yd_lss rfl rfl) (RL_nil (X_then (C_yes rfl rfl (C_skip (X_then (C_seq (C_block (C_seq (?_)))))))))))))))))))))))))
  refine C_regionD (NoB) (l := [(0, true), (1, true), (2, true), (3, true), (5, true), (6, true), (7, true), (8, true), (11, true), (12, true), (13, true), (14, true), (15, true), (16, true), (17, true), (18, true), (4, false), (9, false), (10, false), (19, false), (20, true)]) (by kernel_rfl) (by kernel_rfl) rfl (by kernel_rfl) (fun _ _ d _ _ h => by cases d <;> exact h) ?_
  intro W17 he17 hh17
  replace hE := Ext.trans hE he17
  replace h_cps := h_cps.ext he17
  replace h_dps := h_dps.ext he17
  replace hB6 := hB6.ext he17
  replace hB7 := hB7.ext he17
  replace hC17 := hC17.ext he17
  replace hB9 := hB9.ext he17
  replace hC20 := hC20.ext he17
  replace hB10 := hB10.ext he17
  replace hB11 := hB11.ext he17
  replace hO29 := hO29.ext he17
  have hs17 := he17.size
  refine RO_q rfl rfl (Yd_move rfl) (RO_q rfl rfl (Yd_move rfl) (RO_q rfl rfl (Yd_idxL Try.underlying45 (sz := 5) (by kernel_rfl) rfl rfl (by omega) (by omega)) (RO_q rfl rfl (Yd_loadA (cs := [.int .i64 ep17, .int .i64 fr17, .int .i64 dp17, .int .i64 sc17, .slice AC17 nC17 cC17]) Try.underlying43 rfl (by kernel_rfl) rfl (fun W hW => (Vw.lqAL hO29.vw (i := 0) (a := (⟨ep17, fr17, dp17, sc17, AC17, nC17, cC17⟩ : SpH)) rfl rfl rfl) W hW.ext)) (RO_q rfl rfl (Yd_move rfl) (RO_q rfl rfl (Yd_move rfl) (RO_q rfl rfl (Yd_idxL Try.underlying45 (sz := 5) (by kernel_rfl) rfl rfl (by omega) (by omega)) (RO_q rfl rfl (Yd_loadA (cs := [.int .i64 ep20, .int .i64 fr20, .int .i64 dp20, .int .i64 sc20, .slice AC20 nC20 cC20]) Try.underlying43 rfl (by kernel_rfl) rfl (fun W hW => (Vw.lqAL hO29.vw (i := 1) (a := (⟨ep20, fr20, dp20, sc20, AC20, nC20, cC20⟩ : SpH)) rfl rfl rfl) W hW.ext)) (RO_q rfl rfl (Yd_move rfl) (RO_q rfl rfl (Yd_move rfl) (RO_q rfl rfl (Yd_idxL Try.underlying45 (sz := 5) (by kernel_rfl) rfl rfl (by omega) (by omega)) (RO_q rfl rfl (Yd_loadA (cs := [.int .i64 ep17, .int .i64 fr17, .int .i64 dp17, .int .i64 sc17, .slice AC17 nC17 cC17]) Try.underlying43 rfl (by kernel_rfl) rfl (fun W hW => (Vw.lqAL hO29.vw (i := 0) (a := (⟨ep17, fr17, dp17, sc17, AC17, nC17, cC17⟩ : SpH)) rfl rfl rfl) W hW.ext)) (RO_q rfl rfl (Yd_move rfl) (RO_q rfl rfl (Yd_move rfl) (RO_q rfl rfl (Yd_idxL Try.underlying45 (sz := 5) (by kernel_rfl) rfl rfl (by omega) (by omega)) (RO_q rfl rfl (Yd_loadA (cs := [.int .i64 ep20, .int .i64 fr20, .int .i64 dp20, .int .i64 sc20, .slice AC20 nC20 cC20]) Try.underlying43 rfl (by kernel_rfl) rfl (fun W hW => (Vw.lqAL hO29.vw (i := 1) (a := (⟨ep20, fr20, dp20, sc20, AC20, nC20, cC20⟩ : SpH)) rfl rfl rfl) W hW.ext)) (RO_l rfl rfl (Ld_call Try.func31 rfl (by kernel_rfl) rfl (ofV (sep := ep17) (sfr := fr17) (sdp := dp17) (ssc := sc17) hC17.vw ⟨by omega, by omega, by omega, by omega, by omega, by omega⟩ ⟨by omega, by omega⟩) ?_)))))))))))))))))
  rintro e W18 ⟨rfl, he18⟩
  refine ⟨_, rfl, ?_⟩
  refine ⟨Kp.of_ext he18, ?_⟩
  replace hE := Ext.trans hE he18
  replace h_cps := h_cps.ext he18
  replace h_dps := h_dps.ext he18
  replace hB6 := hB6.ext he18
  replace hB7 := hB7.ext he18
  replace hC17 := hC17.ext he18
  replace hB9 := hB9.ext he18
  replace hC20 := hC20.ext he18
  replace hB10 := hB10.ext he18
  replace hB11 := hB11.ext he18
  replace hO29 := hO29.ext he18
  have hs18 := he18.size
  refine RO_l rfl rfl (Ld_call Try.func31 rfl (by kernel_rfl) rfl (ofV (sep := ep20) (sfr := fr20) (sdp := dp20) (ssc := sc20) hC20.vw ⟨by omega, by omega, by omega, by omega, by omega, by omega⟩ ⟨by omega, by omega⟩) ?_)
  rintro e W19 ⟨rfl, he19⟩
  refine ⟨_, rfl, ?_⟩
  refine ⟨Kp.of_ext he19, ?_⟩
  replace hE := Ext.trans hE he19
  replace h_cps := h_cps.ext he19
  replace h_dps := h_dps.ext he19
  replace hB6 := hB6.ext he19
  replace hB7 := hB7.ext he19
  replace hC17 := hC17.ext he19
  replace hB9 := hB9.ext he19
  replace hC20 := hC20.ext he19
  replace hB10 := hB10.ext he19
  replace hB11 := hB11.ext he19
  replace hO29 := hO29.ext he19
  have hs19 := he19.size
  refine RO_l rfl rfl (Ld_call Try.func35 rfl (by kernel_rfl) rfl (sSameV (aep := ep17) (afr := fr17) (adp := dp17) (asc := sc17) hC17.vw ⟨by omega, by omega, by omega, by omega, by omega, by omega⟩ ⟨by omega, by omega⟩ (bep := ep20) (bfr := fr20) (bdp := dp20) (bsc := sc20) hC20.vw ⟨by omega, by omega, by omega, by omega, by omega, by omega⟩ ⟨by omega, by omega⟩) ?_)
  rintro e W20 ⟨_, rfl, rfl, he20⟩
  refine ⟨_, rfl, ?_⟩
  refine ⟨Kp.of_ext he20, ?_⟩
  replace hE := Ext.trans hE he20
  replace h_cps := h_cps.ext he20
  replace h_dps := h_dps.ext he20
  replace hB6 := hB6.ext he20
  replace hB7 := hB7.ext he20
  replace hC17 := hC17.ext he20
  replace hB9 := hB9.ext he20
  replace hC20 := hC20.ext he20
  replace hB10 := hB10.ext he20
  replace hB11 := hB11.ext he20
  replace hO29 := hO29.ext he20
  have hs20 := he20.size
  refine RO_l rfl rfl (Ld_call Try.func36 rfl (by kernel_rfl) rfl (refsSameV (aep := ep17) (afr := fr17) (adp := dp17) (asc := sc17) hC17.vw ⟨by omega, by omega, by omega, by omega, by omega, by omega⟩ ⟨by omega, by omega⟩ (bep := ep20) (bfr := fr20) (bdp := dp20) (bsc := sc20) hC20.vw ⟨by omega, by omega, by omega, by omega, by omega, by omega⟩ ⟨by omega, by omega⟩) ?_)
  rintro e W21 ⟨_, rfl, rfl, he21⟩
  refine ⟨_, rfl, ?_⟩
  refine ⟨Kp.of_ext he21, ?_⟩
  replace hE := Ext.trans hE he21
  replace h_cps := h_cps.ext he21
  replace h_dps := h_dps.ext he21
  replace hB6 := hB6.ext he21
  replace hB7 := hB7.ext he21
  replace hC17 := hC17.ext he21
  replace hB9 := hB9.ext he21
  replace hC20 := hC20.ext he21
  replace hB10 := hB10.ext he21
  replace hB11 := hB11.ext he21
  replace hO29 := hO29.ext he21
  have hs21 := he21.size
  refine RO_q rfl rfl (Yd_neqB Try.underlying4 rfl rfl) (RO_nil (X_then (?_)))
  refine C_no rfl (by simp) (C_skip (X_block (X_then (C_region (RL_q rfl (Yd_move rfl) (RL_q rfl (Yd_add (r := 2) rfl rfl rfl) (RL_q rfl (Yd_assign rfl) (RL_nil (X_round (CR_sub (E' := [(12, .slice (some ⟨W10.heap.size, 0, none⟩) 3 3), (13, .int .i64 0), (14, .int .i64 2), (30, .int .i64 0), (31, .bool true)]) ⟨rfl, rfl, rfl, rfl, rfl, trivial⟩ (CR_succ (C_seq (C_seq (C_region (RL_q rfl (Yd_move rfl) (RL_q rfl (Yd_lss rfl rfl) (RL_nil (X_then (C_yes rfl rfl (C_skip (X_then (C_seq (C_block (C_seq (?_)))))))))))))))))))))))))
  refine C_regionD (NoB) (l := [(0, true), (1, true), (2, true), (3, true), (5, true), (6, true), (7, true), (8, true), (11, true), (12, true), (13, true), (14, true), (15, true), (16, true), (17, true), (18, true), (4, false), (9, false), (10, false), (19, false), (20, true)]) (by kernel_rfl) (by kernel_rfl) rfl (by kernel_rfl) (fun _ _ d _ _ h => by cases d <;> exact h) ?_
  intro W22 he22 hh22
  replace hE := Ext.trans hE he22
  replace h_cps := h_cps.ext he22
  replace h_dps := h_dps.ext he22
  replace hB6 := hB6.ext he22
  replace hB7 := hB7.ext he22
  replace hC17 := hC17.ext he22
  replace hB9 := hB9.ext he22
  replace hC20 := hC20.ext he22
  replace hB10 := hB10.ext he22
  replace hB11 := hB11.ext he22
  replace hO29 := hO29.ext he22
  have hs22 := he22.size
  refine RO_q rfl rfl (Yd_move rfl) (RO_q rfl rfl (Yd_move rfl) (RO_q rfl rfl (Yd_idxL Try.underlying45 (sz := 5) (by kernel_rfl) rfl rfl (by omega) (by omega)) (RO_q rfl rfl (Yd_loadA (cs := [.int .i64 ep17, .int .i64 fr17, .int .i64 dp17, .int .i64 sc17, .slice AC17 nC17 cC17]) Try.underlying43 rfl (by kernel_rfl) rfl (fun W hW => (Vw.lqAL hO29.vw (i := 0) (a := (⟨ep17, fr17, dp17, sc17, AC17, nC17, cC17⟩ : SpH)) rfl rfl rfl) W hW.ext)) (RO_q rfl rfl (Yd_move rfl) (RO_q rfl rfl (Yd_move rfl) (RO_q rfl rfl (Yd_idxL Try.underlying45 (sz := 5) (by kernel_rfl) rfl rfl (by omega) (by omega)) (RO_q rfl rfl (Yd_loadA (cs := [.int .i64 ep17, .int .i64 fr20, .int .i64 dp20, .int .i64 sc20, .slice AC20 nC20 cC20]) Try.underlying43 rfl (by kernel_rfl) rfl (fun W hW => (Vw.lqAL hO29.vw (i := 2) (a := (⟨ep17, fr20, dp20, sc20, AC20, nC20, cC20⟩ : SpH)) rfl rfl rfl) W hW.ext)) (RO_q rfl rfl (Yd_move rfl) (RO_q rfl rfl (Yd_move rfl) (RO_q rfl rfl (Yd_idxL Try.underlying45 (sz := 5) (by kernel_rfl) rfl rfl (by omega) (by omega)) (RO_q rfl rfl (Yd_loadA (cs := [.int .i64 ep17, .int .i64 fr17, .int .i64 dp17, .int .i64 sc17, .slice AC17 nC17 cC17]) Try.underlying43 rfl (by kernel_rfl) rfl (fun W hW => (Vw.lqAL hO29.vw (i := 0) (a := (⟨ep17, fr17, dp17, sc17, AC17, nC17, cC17⟩ : SpH)) rfl rfl rfl) W hW.ext)) (RO_q rfl rfl (Yd_move rfl) (RO_q rfl rfl (Yd_move rfl) (RO_q rfl rfl (Yd_idxL Try.underlying45 (sz := 5) (by kernel_rfl) rfl rfl (by omega) (by omega)) (RO_q rfl rfl (Yd_loadA (cs := [.int .i64 ep17, .int .i64 fr20, .int .i64 dp20, .int .i64 sc20, .slice AC20 nC20 cC20]) Try.underlying43 rfl (by kernel_rfl) rfl (fun W hW => (Vw.lqAL hO29.vw (i := 2) (a := (⟨ep17, fr20, dp20, sc20, AC20, nC20, cC20⟩ : SpH)) rfl rfl rfl) W hW.ext)) (RO_l rfl rfl (Ld_call Try.func31 rfl (by kernel_rfl) rfl (ofV (sep := ep17) (sfr := fr17) (sdp := dp17) (ssc := sc17) hC17.vw ⟨by omega, by omega, by omega, by omega, by omega, by omega⟩ ⟨by omega, by omega⟩) ?_)))))))))))))))))
  rintro e W23 ⟨rfl, he23⟩
  refine ⟨_, rfl, ?_⟩
  refine ⟨Kp.of_ext he23, ?_⟩
  replace hE := Ext.trans hE he23
  replace h_cps := h_cps.ext he23
  replace h_dps := h_dps.ext he23
  replace hB6 := hB6.ext he23
  replace hB7 := hB7.ext he23
  replace hC17 := hC17.ext he23
  replace hB9 := hB9.ext he23
  replace hC20 := hC20.ext he23
  replace hB10 := hB10.ext he23
  replace hB11 := hB11.ext he23
  replace hO29 := hO29.ext he23
  have hs23 := he23.size
  refine RO_l rfl rfl (Ld_call Try.func31 rfl (by kernel_rfl) rfl (ofV (sep := ep17) (sfr := fr20) (sdp := dp20) (ssc := sc20) hC20.vw ⟨by omega, by omega, by omega, by omega, by omega, by omega⟩ ⟨by omega, by omega⟩) ?_)
  rintro e W24 ⟨rfl, he24⟩
  refine ⟨_, rfl, ?_⟩
  refine ⟨Kp.of_ext he24, ?_⟩
  replace hE := Ext.trans hE he24
  replace h_cps := h_cps.ext he24
  replace h_dps := h_dps.ext he24
  replace hB6 := hB6.ext he24
  replace hB7 := hB7.ext he24
  replace hC17 := hC17.ext he24
  replace hB9 := hB9.ext he24
  replace hC20 := hC20.ext he24
  replace hB10 := hB10.ext he24
  replace hB11 := hB11.ext he24
  replace hO29 := hO29.ext he24
  have hs24 := he24.size
  refine RO_l rfl rfl (Ld_call Try.func35 rfl (by kernel_rfl) rfl (sSameV (aep := ep17) (afr := fr17) (adp := dp17) (asc := sc17) hC17.vw ⟨by omega, by omega, by omega, by omega, by omega, by omega⟩ ⟨by omega, by omega⟩ (bep := ep17) (bfr := fr20) (bdp := dp20) (bsc := sc20) hC20.vw ⟨by omega, by omega, by omega, by omega, by omega, by omega⟩ ⟨by omega, by omega⟩) ?_)
  rintro e W25 ⟨_, rfl, rfl, he25⟩
  refine ⟨_, rfl, ?_⟩
  refine ⟨Kp.of_ext he25, ?_⟩
  replace hE := Ext.trans hE he25
  replace h_cps := h_cps.ext he25
  replace h_dps := h_dps.ext he25
  replace hB6 := hB6.ext he25
  replace hB7 := hB7.ext he25
  replace hC17 := hC17.ext he25
  replace hB9 := hB9.ext he25
  replace hC20 := hC20.ext he25
  replace hB10 := hB10.ext he25
  replace hB11 := hB11.ext he25
  replace hO29 := hO29.ext he25
  have hs25 := he25.size
  refine RO_l rfl rfl (Ld_call Try.func36 rfl (by kernel_rfl) rfl (refsSameV (aep := ep17) (afr := fr17) (adp := dp17) (asc := sc17) hC17.vw ⟨by omega, by omega, by omega, by omega, by omega, by omega⟩ ⟨by omega, by omega⟩ (bep := ep17) (bfr := fr20) (bdp := dp20) (bsc := sc20) hC20.vw ⟨by omega, by omega, by omega, by omega, by omega, by omega⟩ ⟨by omega, by omega⟩) ?_)
  rintro e W26 ⟨_, rfl, rfl, he26⟩
  refine ⟨_, rfl, ?_⟩
  refine ⟨Kp.of_ext he26, ?_⟩
  replace hE := Ext.trans hE he26
  replace h_cps := h_cps.ext he26
  replace h_dps := h_dps.ext he26
  replace hB6 := hB6.ext he26
  replace hB7 := hB7.ext he26
  replace hC17 := hC17.ext he26
  replace hB9 := hB9.ext he26
  replace hC20 := hC20.ext he26
  replace hB10 := hB10.ext he26
  replace hB11 := hB11.ext he26
  replace hO29 := hO29.ext he26
  have hs26 := he26.size
  refine RO_q rfl rfl (Yd_neqB Try.underlying4 rfl rfl) (RO_nil (X_then (?_)))
  refine C_no rfl (by simp) (C_skip (X_block (X_then (C_region (RL_q rfl (Yd_move rfl) (RL_q rfl (Yd_add (r := 3) rfl rfl rfl) (RL_q rfl (Yd_assign rfl) (RL_nil (X_round (CR_sub (E' := [(12, .slice (some ⟨W10.heap.size, 0, none⟩) 3 3), (13, .int .i64 0), (14, .int .i64 3), (30, .int .i64 0), (31, .bool true)]) ⟨rfl, rfl, rfl, rfl, rfl, trivial⟩ (CR_succ (C_seq (C_seq (C_region (RL_q rfl (Yd_move rfl) (RL_q rfl (Yd_lss rfl rfl) (RL_nil (X_then (C_no rfl rfl (C_exit (X_thenE (X_thenE (X_blockE (X_block (X_then (C_region (RL_q rfl (Yd_move rfl) (RL_q rfl (Yd_add (r := 1) rfl rfl rfl) (RL_q rfl (Yd_assign rfl) (RL_nil (X_round (CR_sub (E' := [(12, .slice (some ⟨W10.heap.size, 0, none⟩) 3 3), (13, .int .i64 1)]) ⟨rfl, rfl, trivial⟩ (CR_succ (C_seq (C_seq (C_region (RL_q rfl (Yd_move rfl) (RL_q rfl (Yd_lss rfl rfl) (RL_nil (X_then (C_yes rfl rfl (C_skip (X_then (C_seq (C_block (C_seq (C_region (RL_q rfl (Yd_assign rfl) (RL_nil (X_then (C_block (C_rounds 4 (CR_succ (C_seq (C_seq (C_region (RL_q rfl (Yd_move rfl) (RL_q rfl (Yd_lss rfl rfl) (RL_nil (X_then (C_yes rfl rfl (C_skip (X_then (C_seq (C_block (C_seq (?_)))))))))))))))))))))))))))))))))))))))))))))))))))))))))))))))))))
  refine C_regionD (NoB) (l := [(0, true), (1, true), (2, true), (3, true), (5, true), (6, true), (7, true), (8, true), (11, true), (12, true), (13, true), (14, true), (15, true), (16, true), (17, true), (18, true), (4, false), (9, false), (10, false), (19, false), (20, true)]) (by kernel_rfl) (by kernel_rfl) rfl (by kernel_rfl) (fun _ _ d _ _ h => by cases d <;> exact h) ?_
  intro W27 he27 hh27
  replace hE := Ext.trans hE he27
  replace h_cps := h_cps.ext he27
  replace h_dps := h_dps.ext he27
  replace hB6 := hB6.ext he27
  replace hB7 := hB7.ext he27
  replace hC17 := hC17.ext he27
  replace hB9 := hB9.ext he27
  replace hC20 := hC20.ext he27
  replace hB10 := hB10.ext he27
  replace hB11 := hB11.ext he27
  replace hO29 := hO29.ext he27
  have hs27 := he27.size
  refine RO_q rfl rfl (Yd_move rfl) (RO_q rfl rfl (Yd_move rfl) (RO_q rfl rfl (Yd_idxL Try.underlying45 (sz := 5) (by kernel_rfl) rfl rfl (by omega) (by omega)) (RO_q rfl rfl (Yd_loadA (cs := [.int .i64 ep20, .int .i64 fr20, .int .i64 dp20, .int .i64 sc20, .slice AC20 nC20 cC20]) Try.underlying43 rfl (by kernel_rfl) rfl (fun W hW => (Vw.lqAL hO29.vw (i := 1) (a := (⟨ep20, fr20, dp20, sc20, AC20, nC20, cC20⟩ : SpH)) rfl rfl rfl) W hW.ext)) (RO_q rfl rfl (Yd_move rfl) (RO_q rfl rfl (Yd_move rfl) (RO_q rfl rfl (Yd_idxL Try.underlying45 (sz := 5) (by kernel_rfl) rfl rfl (by omega) (by omega)) (RO_q rfl rfl (Yd_loadA (cs := [.int .i64 ep17, .int .i64 fr17, .int .i64 dp17, .int .i64 sc17, .slice AC17 nC17 cC17]) Try.underlying43 rfl (by kernel_rfl) rfl (fun W hW => (Vw.lqAL hO29.vw (i := 0) (a := (⟨ep17, fr17, dp17, sc17, AC17, nC17, cC17⟩ : SpH)) rfl rfl rfl) W hW.ext)) (RO_q rfl rfl (Yd_move rfl) (RO_q rfl rfl (Yd_move rfl) (RO_q rfl rfl (Yd_idxL Try.underlying45 (sz := 5) (by kernel_rfl) rfl rfl (by omega) (by omega)) (RO_q rfl rfl (Yd_loadA (cs := [.int .i64 ep20, .int .i64 fr20, .int .i64 dp20, .int .i64 sc20, .slice AC20 nC20 cC20]) Try.underlying43 rfl (by kernel_rfl) rfl (fun W hW => (Vw.lqAL hO29.vw (i := 1) (a := (⟨ep20, fr20, dp20, sc20, AC20, nC20, cC20⟩ : SpH)) rfl rfl rfl) W hW.ext)) (RO_q rfl rfl (Yd_move rfl) (RO_q rfl rfl (Yd_move rfl) (RO_q rfl rfl (Yd_idxL Try.underlying45 (sz := 5) (by kernel_rfl) rfl rfl (by omega) (by omega)) (RO_q rfl rfl (Yd_loadA (cs := [.int .i64 ep17, .int .i64 fr17, .int .i64 dp17, .int .i64 sc17, .slice AC17 nC17 cC17]) Try.underlying43 rfl (by kernel_rfl) rfl (fun W hW => (Vw.lqAL hO29.vw (i := 0) (a := (⟨ep17, fr17, dp17, sc17, AC17, nC17, cC17⟩ : SpH)) rfl rfl rfl) W hW.ext)) (RO_l rfl rfl (Ld_call Try.func31 rfl (by kernel_rfl) rfl (ofV (sep := ep20) (sfr := fr20) (sdp := dp20) (ssc := sc20) hC20.vw ⟨by omega, by omega, by omega, by omega, by omega, by omega⟩ ⟨by omega, by omega⟩) ?_)))))))))))))))))
  rintro e W28 ⟨rfl, he28⟩
  refine ⟨_, rfl, ?_⟩
  refine ⟨Kp.of_ext he28, ?_⟩
  replace hE := Ext.trans hE he28
  replace h_cps := h_cps.ext he28
  replace h_dps := h_dps.ext he28
  replace hB6 := hB6.ext he28
  replace hB7 := hB7.ext he28
  replace hC17 := hC17.ext he28
  replace hB9 := hB9.ext he28
  replace hC20 := hC20.ext he28
  replace hB10 := hB10.ext he28
  replace hB11 := hB11.ext he28
  replace hO29 := hO29.ext he28
  have hs28 := he28.size
  refine RO_l rfl rfl (Ld_call Try.func31 rfl (by kernel_rfl) rfl (ofV (sep := ep17) (sfr := fr17) (sdp := dp17) (ssc := sc17) hC17.vw ⟨by omega, by omega, by omega, by omega, by omega, by omega⟩ ⟨by omega, by omega⟩) ?_)
  rintro e W29 ⟨rfl, he29⟩
  refine ⟨_, rfl, ?_⟩
  refine ⟨Kp.of_ext he29, ?_⟩
  replace hE := Ext.trans hE he29
  replace h_cps := h_cps.ext he29
  replace h_dps := h_dps.ext he29
  replace hB6 := hB6.ext he29
  replace hB7 := hB7.ext he29
  replace hC17 := hC17.ext he29
  replace hB9 := hB9.ext he29
  replace hC20 := hC20.ext he29
  replace hB10 := hB10.ext he29
  replace hB11 := hB11.ext he29
  replace hO29 := hO29.ext he29
  have hs29 := he29.size
  refine RO_l rfl rfl (Ld_call Try.func35 rfl (by kernel_rfl) rfl (sSameV (aep := ep20) (afr := fr20) (adp := dp20) (asc := sc20) hC20.vw ⟨by omega, by omega, by omega, by omega, by omega, by omega⟩ ⟨by omega, by omega⟩ (bep := ep17) (bfr := fr17) (bdp := dp17) (bsc := sc17) hC17.vw ⟨by omega, by omega, by omega, by omega, by omega, by omega⟩ ⟨by omega, by omega⟩) ?_)
  rintro e W30 ⟨_, rfl, rfl, he30⟩
  refine ⟨_, rfl, ?_⟩
  refine ⟨Kp.of_ext he30, ?_⟩
  replace hE := Ext.trans hE he30
  replace h_cps := h_cps.ext he30
  replace h_dps := h_dps.ext he30
  replace hB6 := hB6.ext he30
  replace hB7 := hB7.ext he30
  replace hC17 := hC17.ext he30
  replace hB9 := hB9.ext he30
  replace hC20 := hC20.ext he30
  replace hB10 := hB10.ext he30
  replace hB11 := hB11.ext he30
  replace hO29 := hO29.ext he30
  have hs30 := he30.size
  refine RO_l rfl rfl (Ld_call Try.func36 rfl (by kernel_rfl) rfl (refsSameV (aep := ep20) (afr := fr20) (adp := dp20) (asc := sc20) hC20.vw ⟨by omega, by omega, by omega, by omega, by omega, by omega⟩ ⟨by omega, by omega⟩ (bep := ep17) (bfr := fr17) (bdp := dp17) (bsc := sc17) hC17.vw ⟨by omega, by omega, by omega, by omega, by omega, by omega⟩ ⟨by omega, by omega⟩) ?_)
  rintro e W31 ⟨_, rfl, rfl, he31⟩
  refine ⟨_, rfl, ?_⟩
  refine ⟨Kp.of_ext he31, ?_⟩
  replace hE := Ext.trans hE he31
  replace h_cps := h_cps.ext he31
  replace h_dps := h_dps.ext he31
  replace hB6 := hB6.ext he31
  replace hB7 := hB7.ext he31
  replace hC17 := hC17.ext he31
  replace hB9 := hB9.ext he31
  replace hC20 := hC20.ext he31
  replace hB10 := hB10.ext he31
  replace hB11 := hB11.ext he31
  replace hO29 := hO29.ext he31
  have hs31 := he31.size
  refine RO_q rfl rfl (Yd_neqB Try.underlying4 rfl rfl) (RO_nil (X_then (?_)))
  refine C_no rfl (by simp) (C_skip (X_block (X_then (C_region (RL_q rfl (Yd_move rfl) (RL_q rfl (Yd_add (r := 1) rfl rfl rfl) (RL_q rfl (Yd_assign rfl) (RL_nil (X_round (CR_sub (E' := [(12, .slice (some ⟨W10.heap.size, 0, none⟩) 3 3), (13, .int .i64 1), (14, .int .i64 1), (30, .int .i64 1), (31, .bool true)]) ⟨rfl, rfl, rfl, rfl, rfl, trivial⟩ (CR_succ (C_seq (C_seq (C_region (RL_q rfl (Yd_move rfl) (RL_q rfl (Yd_lss rfl rfl) (RL_nil (X_then (C_yes rfl rfl (C_skip (X_then (C_seq (C_block (C_seq (?_)))))))))))))))))))))))))
  refine C_regionD (NoB) (l := [(0, true), (1, true), (2, true), (3, true), (5, true), (6, true), (7, true), (8, true), (11, true), (12, true), (13, true), (14, true), (15, true), (16, true), (17, true), (18, true), (4, false), (9, false), (10, false), (19, false), (20, true)]) (by kernel_rfl) (by kernel_rfl) rfl (by kernel_rfl) (fun _ _ d _ _ h => by cases d <;> exact h) ?_
  intro W32 he32 hh32
  replace hE := Ext.trans hE he32
  replace h_cps := h_cps.ext he32
  replace h_dps := h_dps.ext he32
  replace hB6 := hB6.ext he32
  replace hB7 := hB7.ext he32
  replace hC17 := hC17.ext he32
  replace hB9 := hB9.ext he32
  replace hC20 := hC20.ext he32
  replace hB10 := hB10.ext he32
  replace hB11 := hB11.ext he32
  replace hO29 := hO29.ext he32
  have hs32 := he32.size
  refine RO_q rfl rfl (Yd_move rfl) (RO_q rfl rfl (Yd_move rfl) (RO_q rfl rfl (Yd_idxL Try.underlying45 (sz := 5) (by kernel_rfl) rfl rfl (by omega) (by omega)) (RO_q rfl rfl (Yd_loadA (cs := [.int .i64 ep20, .int .i64 fr20, .int .i64 dp20, .int .i64 sc20, .slice AC20 nC20 cC20]) Try.underlying43 rfl (by kernel_rfl) rfl (fun W hW => (Vw.lqAL hO29.vw (i := 1) (a := (⟨ep20, fr20, dp20, sc20, AC20, nC20, cC20⟩ : SpH)) rfl rfl rfl) W hW.ext)) (RO_q rfl rfl (Yd_move rfl) (RO_q rfl rfl (Yd_move rfl) (RO_q rfl rfl (Yd_idxL Try.underlying45 (sz := 5) (by kernel_rfl) rfl rfl (by omega) (by omega)) (RO_q rfl rfl (Yd_loadA (cs := [.int .i64 ep20, .int .i64 fr20, .int .i64 dp20, .int .i64 sc20, .slice AC20 nC20 cC20]) Try.underlying43 rfl (by kernel_rfl) rfl (fun W hW => (Vw.lqAL hO29.vw (i := 1) (a := (⟨ep20, fr20, dp20, sc20, AC20, nC20, cC20⟩ : SpH)) rfl rfl rfl) W hW.ext)) (RO_q rfl rfl (Yd_move rfl) (RO_q rfl rfl (Yd_move rfl) (RO_q rfl rfl (Yd_idxL Try.underlying45 (sz := 5) (by kernel_rfl) rfl rfl (by omega) (by omega)) (RO_q rfl rfl (Yd_loadA (cs := [.int .i64 ep20, .int .i64 fr20, .int .i64 dp20, .int .i64 sc20, .slice AC20 nC20 cC20]) Try.underlying43 rfl (by kernel_rfl) rfl (fun W hW => (Vw.lqAL hO29.vw (i := 1) (a := (⟨ep20, fr20, dp20, sc20, AC20, nC20, cC20⟩ : SpH)) rfl rfl rfl) W hW.ext)) (RO_q rfl rfl (Yd_move rfl) (RO_q rfl rfl (Yd_move rfl) (RO_q rfl rfl (Yd_idxL Try.underlying45 (sz := 5) (by kernel_rfl) rfl rfl (by omega) (by omega)) (RO_q rfl rfl (Yd_loadA (cs := [.int .i64 ep20, .int .i64 fr20, .int .i64 dp20, .int .i64 sc20, .slice AC20 nC20 cC20]) Try.underlying43 rfl (by kernel_rfl) rfl (fun W hW => (Vw.lqAL hO29.vw (i := 1) (a := (⟨ep20, fr20, dp20, sc20, AC20, nC20, cC20⟩ : SpH)) rfl rfl rfl) W hW.ext)) (RO_l rfl rfl (Ld_call Try.func31 rfl (by kernel_rfl) rfl (ofV (sep := ep20) (sfr := fr20) (sdp := dp20) (ssc := sc20) hC20.vw ⟨by omega, by omega, by omega, by omega, by omega, by omega⟩ ⟨by omega, by omega⟩) ?_)))))))))))))))))
  rintro e W33 ⟨rfl, he33⟩
  refine ⟨_, rfl, ?_⟩
  refine ⟨Kp.of_ext he33, ?_⟩
  replace hE := Ext.trans hE he33
  replace h_cps := h_cps.ext he33
  replace h_dps := h_dps.ext he33
  replace hB6 := hB6.ext he33
  replace hB7 := hB7.ext he33
  replace hC17 := hC17.ext he33
  replace hB9 := hB9.ext he33
  replace hC20 := hC20.ext he33
  replace hB10 := hB10.ext he33
  replace hB11 := hB11.ext he33
  replace hO29 := hO29.ext he33
  have hs33 := he33.size
  refine RO_l rfl rfl (Ld_call Try.func31 rfl (by kernel_rfl) rfl (ofV (sep := ep20) (sfr := fr20) (sdp := dp20) (ssc := sc20) hC20.vw ⟨by omega, by omega, by omega, by omega, by omega, by omega⟩ ⟨by omega, by omega⟩) ?_)
  rintro e W34 ⟨rfl, he34⟩
  refine ⟨_, rfl, ?_⟩
  refine ⟨Kp.of_ext he34, ?_⟩
  replace hE := Ext.trans hE he34
  replace h_cps := h_cps.ext he34
  replace h_dps := h_dps.ext he34
  replace hB6 := hB6.ext he34
  replace hB7 := hB7.ext he34
  replace hC17 := hC17.ext he34
  replace hB9 := hB9.ext he34
  replace hC20 := hC20.ext he34
  replace hB10 := hB10.ext he34
  replace hB11 := hB11.ext he34
  replace hO29 := hO29.ext he34
  have hs34 := he34.size
  refine RO_l rfl rfl (Ld_call Try.func35 rfl (by kernel_rfl) rfl (sSameV (aep := ep20) (afr := fr20) (adp := dp20) (asc := sc20) hC20.vw ⟨by omega, by omega, by omega, by omega, by omega, by omega⟩ ⟨by omega, by omega⟩ (bep := ep20) (bfr := fr20) (bdp := dp20) (bsc := sc20) hC20.vw ⟨by omega, by omega, by omega, by omega, by omega, by omega⟩ ⟨by omega, by omega⟩) ?_)
  rintro e W35 ⟨_, rfl, rfl, he35⟩
  refine ⟨_, rfl, ?_⟩
  refine ⟨Kp.of_ext he35, ?_⟩
  replace hE := Ext.trans hE he35
  replace h_cps := h_cps.ext he35
  replace h_dps := h_dps.ext he35
  replace hB6 := hB6.ext he35
  replace hB7 := hB7.ext he35
  replace hC17 := hC17.ext he35
  replace hB9 := hB9.ext he35
  replace hC20 := hC20.ext he35
  replace hB10 := hB10.ext he35
  replace hB11 := hB11.ext he35
  replace hO29 := hO29.ext he35
  have hs35 := he35.size
  refine RO_l rfl rfl (Ld_call Try.func36 rfl (by kernel_rfl) rfl (refsSameV (aep := ep20) (afr := fr20) (adp := dp20) (asc := sc20) hC20.vw ⟨by omega, by omega, by omega, by omega, by omega, by omega⟩ ⟨by omega, by omega⟩ (bep := ep20) (bfr := fr20) (bdp := dp20) (bsc := sc20) hC20.vw ⟨by omega, by omega, by omega, by omega, by omega, by omega⟩ ⟨by omega, by omega⟩) ?_)
  rintro e W36 ⟨_, rfl, rfl, he36⟩
  refine ⟨_, rfl, ?_⟩
  refine ⟨Kp.of_ext he36, ?_⟩
  replace hE := Ext.trans hE he36
  replace h_cps := h_cps.ext he36
  replace h_dps := h_dps.ext he36
  replace hB6 := hB6.ext he36
  replace hB7 := hB7.ext he36
  replace hC17 := hC17.ext he36
  replace hB9 := hB9.ext he36
  replace hC20 := hC20.ext he36
  replace hB10 := hB10.ext he36
  replace hB11 := hB11.ext he36
  replace hO29 := hO29.ext he36
  have hs36 := he36.size
  refine RO_q rfl rfl (Yd_neqB Try.underlying4 rfl rfl) (RO_nil (X_then (?_)))
  refine C_no rfl (by simp) (C_skip (X_block (X_then (C_region (RL_q rfl (Yd_move rfl) (RL_q rfl (Yd_add (r := 2) rfl rfl rfl) (RL_q rfl (Yd_assign rfl) (RL_nil (X_round (CR_sub (E' := [(12, .slice (some ⟨W10.heap.size, 0, none⟩) 3 3), (13, .int .i64 1), (14, .int .i64 2), (30, .int .i64 1), (31, .bool true)]) ⟨rfl, rfl, rfl, rfl, rfl, trivial⟩ (CR_succ (C_seq (C_seq (C_region (RL_q rfl (Yd_move rfl) (RL_q rfl (Yd_lss rfl rfl) (RL_nil (X_then (C_yes rfl rfl (C_skip (X_then (C_seq (C_block (C_seq (?_)))))))))))))))))))))))))
  refine C_regionD (NoB) (l := [(0, true), (1, true), (2, true), (3, true), (5, true), (6, true), (7, true), (8, true), (11, true), (12, true), (13, true), (14, true), (15, true), (16, true), (17, true), (18, true), (4, false), (9, false), (10, false), (19, false), (20, true)]) (by kernel_rfl) (by kernel_rfl) rfl (by kernel_rfl) (fun _ _ d _ _ h => by cases d <;> exact h) ?_
  intro W37 he37 hh37
  replace hE := Ext.trans hE he37
  replace h_cps := h_cps.ext he37
  replace h_dps := h_dps.ext he37
  replace hB6 := hB6.ext he37
  replace hB7 := hB7.ext he37
  replace hC17 := hC17.ext he37
  replace hB9 := hB9.ext he37
  replace hC20 := hC20.ext he37
  replace hB10 := hB10.ext he37
  replace hB11 := hB11.ext he37
  replace hO29 := hO29.ext he37
  have hs37 := he37.size
  refine RO_q rfl rfl (Yd_move rfl) (RO_q rfl rfl (Yd_move rfl) (RO_q rfl rfl (Yd_idxL Try.underlying45 (sz := 5) (by kernel_rfl) rfl rfl (by omega) (by omega)) (RO_q rfl rfl (Yd_loadA (cs := [.int .i64 ep20, .int .i64 fr20, .int .i64 dp20, .int .i64 sc20, .slice AC20 nC20 cC20]) Try.underlying43 rfl (by kernel_rfl) rfl (fun W hW => (Vw.lqAL hO29.vw (i := 1) (a := (⟨ep20, fr20, dp20, sc20, AC20, nC20, cC20⟩ : SpH)) rfl rfl rfl) W hW.ext)) (RO_q rfl rfl (Yd_move rfl) (RO_q rfl rfl (Yd_move rfl) (RO_q rfl rfl (Yd_idxL Try.underlying45 (sz := 5) (by kernel_rfl) rfl rfl (by omega) (by omega)) (RO_q rfl rfl (Yd_loadA (cs := [.int .i64 ep17, .int .i64 fr20, .int .i64 dp20, .int .i64 sc20, .slice AC20 nC20 cC20]) Try.underlying43 rfl (by kernel_rfl) rfl (fun W hW => (Vw.lqAL hO29.vw (i := 2) (a := (⟨ep17, fr20, dp20, sc20, AC20, nC20, cC20⟩ : SpH)) rfl rfl rfl) W hW.ext)) (RO_q rfl rfl (Yd_move rfl) (RO_q rfl rfl (Yd_move rfl) (RO_q rfl rfl (Yd_idxL Try.underlying45 (sz := 5) (by kernel_rfl) rfl rfl (by omega) (by omega)) (RO_q rfl rfl (Yd_loadA (cs := [.int .i64 ep20, .int .i64 fr20, .int .i64 dp20, .int .i64 sc20, .slice AC20 nC20 cC20]) Try.underlying43 rfl (by kernel_rfl) rfl (fun W hW => (Vw.lqAL hO29.vw (i := 1) (a := (⟨ep20, fr20, dp20, sc20, AC20, nC20, cC20⟩ : SpH)) rfl rfl rfl) W hW.ext)) (RO_q rfl rfl (Yd_move rfl) (RO_q rfl rfl (Yd_move rfl) (RO_q rfl rfl (Yd_idxL Try.underlying45 (sz := 5) (by kernel_rfl) rfl rfl (by omega) (by omega)) (RO_q rfl rfl (Yd_loadA (cs := [.int .i64 ep17, .int .i64 fr20, .int .i64 dp20, .int .i64 sc20, .slice AC20 nC20 cC20]) Try.underlying43 rfl (by kernel_rfl) rfl (fun W hW => (Vw.lqAL hO29.vw (i := 2) (a := (⟨ep17, fr20, dp20, sc20, AC20, nC20, cC20⟩ : SpH)) rfl rfl rfl) W hW.ext)) (RO_l rfl rfl (Ld_call Try.func31 rfl (by kernel_rfl) rfl (ofV (sep := ep20) (sfr := fr20) (sdp := dp20) (ssc := sc20) hC20.vw ⟨by omega, by omega, by omega, by omega, by omega, by omega⟩ ⟨by omega, by omega⟩) ?_)))))))))))))))))
  rintro e W38 ⟨rfl, he38⟩
  refine ⟨_, rfl, ?_⟩
  refine ⟨Kp.of_ext he38, ?_⟩
  replace hE := Ext.trans hE he38
  replace h_cps := h_cps.ext he38
  replace h_dps := h_dps.ext he38
  replace hB6 := hB6.ext he38
  replace hB7 := hB7.ext he38
  replace hC17 := hC17.ext he38
  replace hB9 := hB9.ext he38
  replace hC20 := hC20.ext he38
  replace hB10 := hB10.ext he38
  replace hB11 := hB11.ext he38
  replace hO29 := hO29.ext he38
  have hs38 := he38.size
  refine RO_l rfl rfl (Ld_call Try.func31 rfl (by kernel_rfl) rfl (ofV (sep := ep17) (sfr := fr20) (sdp := dp20) (ssc := sc20) hC20.vw ⟨by omega, by omega, by omega, by omega, by omega, by omega⟩ ⟨by omega, by omega⟩) ?_)
  rintro e W39 ⟨rfl, he39⟩
  refine ⟨_, rfl, ?_⟩
  refine ⟨Kp.of_ext he39, ?_⟩
  replace hE := Ext.trans hE he39
  replace h_cps := h_cps.ext he39
  replace h_dps := h_dps.ext he39
  replace hB6 := hB6.ext he39
  replace hB7 := hB7.ext he39
  replace hC17 := hC17.ext he39
  replace hB9 := hB9.ext he39
  replace hC20 := hC20.ext he39
  replace hB10 := hB10.ext he39
  replace hB11 := hB11.ext he39
  replace hO29 := hO29.ext he39
  have hs39 := he39.size
  refine RO_l rfl rfl (Ld_call Try.func35 rfl (by kernel_rfl) rfl (sSameV (aep := ep20) (afr := fr20) (adp := dp20) (asc := sc20) hC20.vw ⟨by omega, by omega, by omega, by omega, by omega, by omega⟩ ⟨by omega, by omega⟩ (bep := ep17) (bfr := fr20) (bdp := dp20) (bsc := sc20) hC20.vw ⟨by omega, by omega, by omega, by omega, by omega, by omega⟩ ⟨by omega, by omega⟩) ?_)
  rintro e W40 ⟨_, rfl, rfl, he40⟩
  refine ⟨_, rfl, ?_⟩
  refine ⟨Kp.of_ext he40, ?_⟩
  replace hE := Ext.trans hE he40
  replace h_cps := h_cps.ext he40
  replace h_dps := h_dps.ext he40
  replace hB6 := hB6.ext he40
  replace hB7 := hB7.ext he40
  replace hC17 := hC17.ext he40
  replace hB9 := hB9.ext he40
  replace hC20 := hC20.ext he40
  replace hB10 := hB10.ext he40
  replace hB11 := hB11.ext he40
  replace hO29 := hO29.ext he40
  have hs40 := he40.size
  refine RO_l rfl rfl (Ld_call Try.func36 rfl (by kernel_rfl) rfl (refsSameV (aep := ep20) (afr := fr20) (adp := dp20) (asc := sc20) hC20.vw ⟨by omega, by omega, by omega, by omega, by omega, by omega⟩ ⟨by omega, by omega⟩ (bep := ep17) (bfr := fr20) (bdp := dp20) (bsc := sc20) hC20.vw ⟨by omega, by omega, by omega, by omega, by omega, by omega⟩ ⟨by omega, by omega⟩) ?_)
  rintro e W41 ⟨_, rfl, rfl, he41⟩
  refine ⟨_, rfl, ?_⟩
  refine ⟨Kp.of_ext he41, ?_⟩
  replace hE := Ext.trans hE he41
  replace h_cps := h_cps.ext he41
  replace h_dps := h_dps.ext he41
  replace hB6 := hB6.ext he41
  replace hB7 := hB7.ext he41
  replace hC17 := hC17.ext he41
  replace hB9 := hB9.ext he41
  replace hC20 := hC20.ext he41
  replace hB10 := hB10.ext he41
  replace hB11 := hB11.ext he41
  replace hO29 := hO29.ext he41
  have hs41 := he41.size
  refine RO_q rfl rfl (Yd_neqB Try.underlying4 rfl rfl) (RO_nil (X_then (?_)))
  refine C_no rfl (by simp) (C_skip (X_block (X_then (C_region (RL_q rfl (Yd_move rfl) (RL_q rfl (Yd_add (r := 3) rfl rfl rfl) (RL_q rfl (Yd_assign rfl) (RL_nil (X_round (CR_sub (E' := [(12, .slice (some ⟨W10.heap.size, 0, none⟩) 3 3), (13, .int .i64 1), (14, .int .i64 3), (30, .int .i64 1), (31, .bool true)]) ⟨rfl, rfl, rfl, rfl, rfl, trivial⟩ (CR_succ (C_seq (C_seq (C_region (RL_q rfl (Yd_move rfl) (RL_q rfl (Yd_lss rfl rfl) (RL_nil (X_then (C_no rfl rfl (C_exit (X_thenE (X_thenE (X_blockE (X_block (X_then (C_region (RL_q rfl (Yd_move rfl) (RL_q rfl (Yd_add (r := 2) rfl rfl rfl) (RL_q rfl (Yd_assign rfl) (RL_nil (X_round (CR_sub (E' := [(12, .slice (some ⟨W10.heap.size, 0, none⟩) 3 3), (13, .int .i64 2)]) ⟨rfl, rfl, trivial⟩ (CR_succ (C_seq (C_seq (C_region (RL_q rfl (Yd_move rfl) (RL_q rfl (Yd_lss rfl rfl) (RL_nil (X_then (C_yes rfl rfl (C_skip (X_then (C_seq (C_block (C_seq (C_region (RL_q rfl (Yd_assign rfl) (RL_nil (X_then (C_block (C_rounds 4 (CR_succ (C_seq (C_seq (C_region (RL_q rfl (Yd_move rfl) (RL_q rfl (Yd_lss rfl rfl) (RL_nil (X_then (C_yes rfl rfl (C_skip (X_then (C_seq (C_block (C_seq (?_)))))))))))))))))))))))))))))))))))))))))))))))))))))))))))))))))))
  refine C_regionD (NoB) (l := [(0, true), (1, true), (2, true), (3, true), (5, true), (6, true), (7, true), (8, true), (11, true), (12, true), (13, true), (14, true), (15, true), (16, true), (17, true), (18, true), (4, false), (9, false), (10, false), (19, false), (20, true)]) (by kernel_rfl) (by kernel_rfl) rfl (by kernel_rfl) (fun _ _ d _ _ h => by cases d <;> exact h) ?_
  intro W42 he42 hh42
  replace hE := Ext.trans hE he42
  replace h_cps := h_cps.ext he42
  replace h_dps := h_dps.ext he42
  replace hB6 := hB6.ext he42
  replace hB7 := hB7.ext he42
  replace hC17 := hC17.ext he42
  replace hB9 := hB9.ext he42
  replace hC20 := hC20.ext he42
  replace hB10 := hB10.ext he42
  replace hB11 := hB11.ext he42
  replace hO29 := hO29.ext he42
  have hs42 := he42.size
  refine RO_q rfl rfl (Yd_move rfl) (RO_q rfl rfl (Yd_move rfl) (RO_q rfl rfl (Yd_idxL Try.underlying45 (sz := 5) (by kernel_rfl) rfl rfl (by omega) (by omega)) (RO_q rfl rfl (Yd_loadA (cs := [.int .i64 ep17, .int .i64 fr20, .int .i64 dp20, .int .i64 sc20, .slice AC20 nC20 cC20]) Try.underlying43 rfl (by kernel_rfl) rfl (fun W hW => (Vw.lqAL hO29.vw (i := 2) (a := (⟨ep17, fr20, dp20, sc20, AC20, nC20, cC20⟩ : SpH)) rfl rfl rfl) W hW.ext)) (RO_q rfl rfl (Yd_move rfl) (RO_q rfl rfl (Yd_move rfl) (RO_q rfl rfl (Yd_idxL Try.underlying45 (sz := 5) (by kernel_rfl) rfl rfl (by omega) (by omega)) (RO_q rfl rfl (Yd_loadA (cs := [.int .i64 ep17, .int .i64 fr17, .int .i64 dp17, .int .i64 sc17, .slice AC17 nC17 cC17]) Try.underlying43 rfl (by kernel_rfl) rfl (fun W hW => (Vw.lqAL hO29.vw (i := 0) (a := (⟨ep17, fr17, dp17, sc17, AC17, nC17, cC17⟩ : SpH)) rfl rfl rfl) W hW.ext)) (RO_q rfl rfl (Yd_move rfl) (RO_q rfl rfl (Yd_move rfl) (RO_q rfl rfl (Yd_idxL Try.underlying45 (sz := 5) (by kernel_rfl) rfl rfl (by omega) (by omega)) (RO_q rfl rfl (Yd_loadA (cs := [.int .i64 ep17, .int .i64 fr20, .int .i64 dp20, .int .i64 sc20, .slice AC20 nC20 cC20]) Try.underlying43 rfl (by kernel_rfl) rfl (fun W hW => (Vw.lqAL hO29.vw (i := 2) (a := (⟨ep17, fr20, dp20, sc20, AC20, nC20, cC20⟩ : SpH)) rfl rfl rfl) W hW.ext)) (RO_q rfl rfl (Yd_move rfl) (RO_q rfl rfl (Yd_move rfl) (RO_q rfl rfl (Yd_idxL Try.underlying45 (sz := 5) (by kernel_rfl) rfl rfl (by omega) (by omega)) (RO_q rfl rfl (Yd_loadA (cs := [.int .i64 ep17, .int .i64 fr17, .int .i64 dp17, .int .i64 sc17, .slice AC17 nC17 cC17]) Try.underlying43 rfl (by kernel_rfl) rfl (fun W hW => (Vw.lqAL hO29.vw (i := 0) (a := (⟨ep17, fr17, dp17, sc17, AC17, nC17, cC17⟩ : SpH)) rfl rfl rfl) W hW.ext)) (RO_l rfl rfl (Ld_call Try.func31 rfl (by kernel_rfl) rfl (ofV (sep := ep17) (sfr := fr20) (sdp := dp20) (ssc := sc20) hC20.vw ⟨by omega, by omega, by omega, by omega, by omega, by omega⟩ ⟨by omega, by omega⟩) ?_)))))))))))))))))
  rintro e W43 ⟨rfl, he43⟩
  refine ⟨_, rfl, ?_⟩
  refine ⟨Kp.of_ext he43, ?_⟩
  replace hE := Ext.trans hE he43
  replace h_cps := h_cps.ext he43
  replace h_dps := h_dps.ext he43
  replace hB6 := hB6.ext he43
  replace hB7 := hB7.ext he43
  replace hC17 := hC17.ext he43
  replace hB9 := hB9.ext he43
  replace hC20 := hC20.ext he43
  replace hB10 := hB10.ext he43
  replace hB11 := hB11.ext he43
  replace hO29 := hO29.ext he43
  have hs43 := he43.size
  refine RO_l rfl rfl (Ld_call Try.func31 rfl (by kernel_rfl) rfl (ofV (sep := ep17) (sfr := fr17) (sdp := dp17) (ssc := sc17) hC17.vw ⟨by omega, by omega, by omega, by omega, by omega, by omega⟩ ⟨by omega, by omega⟩) ?_)
  rintro e W44 ⟨rfl, he44⟩
  refine ⟨_, rfl, ?_⟩
  refine ⟨Kp.of_ext he44, ?_⟩
  replace hE := Ext.trans hE he44
  replace h_cps := h_cps.ext he44
  replace h_dps := h_dps.ext he44
  replace hB6 := hB6.ext he44
  replace hB7 := hB7.ext he44
  replace hC17 := hC17.ext he44
  replace hB9 := hB9.ext he44
  replace hC20 := hC20.ext he44
  replace hB10 := hB10.ext he44
  replace hB11 := hB11.ext he44
  replace hO29 := hO29.ext he44
  have hs44 := he44.size
  refine RO_l rfl rfl (Ld_call Try.func35 rfl (by kernel_rfl) rfl (sSameV (aep := ep17) (afr := fr20) (adp := dp20) (asc := sc20) hC20.vw ⟨by omega, by omega, by omega, by omega, by omega, by omega⟩ ⟨by omega, by omega⟩ (bep := ep17) (bfr := fr17) (bdp := dp17) (bsc := sc17) hC17.vw ⟨by omega, by omega, by omega, by omega, by omega, by omega⟩ ⟨by omega, by omega⟩) ?_)
  rintro e W45 ⟨_, rfl, rfl, he45⟩
  refine ⟨_, rfl, ?_⟩
  refine ⟨Kp.of_ext he45, ?_⟩
  replace hE := Ext.trans hE he45
  replace h_cps := h_cps.ext he45
  replace h_dps := h_dps.ext he45
  replace hB6 := hB6.ext he45
  replace hB7 := hB7.ext he45
  replace hC17 := hC17.ext he45
  replace hB9 := hB9.ext he45
  replace hC20 := hC20.ext he45
  replace hB10 := hB10.ext he45
  replace hB11 := hB11.ext he45
  replace hO29 := hO29.ext he45
  have hs45 := he45.size
  refine RO_l rfl rfl (Ld_call Try.func36 rfl (by kernel_rfl) rfl (refsSameV (aep := ep17) (afr := fr20) (adp := dp20) (asc := sc20) hC20.vw ⟨by omega, by omega, by omega, by omega, by omega, by omega⟩ ⟨by omega, by omega⟩ (bep := ep17) (bfr := fr17) (bdp := dp17) (bsc := sc17) hC17.vw ⟨by omega, by omega, by omega, by omega, by omega, by omega⟩ ⟨by omega, by omega⟩) ?_)
  rintro e W46 ⟨_, rfl, rfl, he46⟩
  refine ⟨_, rfl, ?_⟩
  refine ⟨Kp.of_ext he46, ?_⟩
  replace hE := Ext.trans hE he46
  replace h_cps := h_cps.ext he46
  replace h_dps := h_dps.ext he46
  replace hB6 := hB6.ext he46
  replace hB7 := hB7.ext he46
  replace hC17 := hC17.ext he46
  replace hB9 := hB9.ext he46
  replace hC20 := hC20.ext he46
  replace hB10 := hB10.ext he46
  replace hB11 := hB11.ext he46
  replace hO29 := hO29.ext he46
  have hs46 := he46.size
  refine RO_q rfl rfl (Yd_neqB Try.underlying4 rfl rfl) (RO_nil (X_then (?_)))
  refine C_no rfl (by simp) (C_skip (X_block (X_then (C_region (RL_q rfl (Yd_move rfl) (RL_q rfl (Yd_add (r := 1) rfl rfl rfl) (RL_q rfl (Yd_assign rfl) (RL_nil (X_round (CR_sub (E' := [(12, .slice (some ⟨W10.heap.size, 0, none⟩) 3 3), (13, .int .i64 2), (14, .int .i64 1), (30, .int .i64 2), (31, .bool true)]) ⟨rfl, rfl, rfl, rfl, rfl, trivial⟩ (CR_succ (C_seq (C_seq (C_region (RL_q rfl (Yd_move rfl) (RL_q rfl (Yd_lss rfl rfl) (RL_nil (X_then (C_yes rfl rfl (C_skip (X_then (C_seq (C_block (C_seq (?_)))))))))))))))))))))))))
  refine C_regionD (NoB) (l := [(0, true), (1, true), (2, true), (3, true), (5, true), (6, true), (7, true), (8, true), (11, true), (12, true), (13, true), (14, true), (15, true), (16, true), (17, true), (18, true), (4, false), (9, false), (10, false), (19, false), (20, true)]) (by kernel_rfl) (by kernel_rfl) rfl (by kernel_rfl) (fun _ _ d _ _ h => by cases d <;> exact h) ?_
  intro W47 he47 hh47
  replace hE := Ext.trans hE he47
  replace h_cps := h_cps.ext he47
  replace h_dps := h_dps.ext he47
  replace hB6 := hB6.ext he47
  replace hB7 := hB7.ext he47
  replace hC17 := hC17.ext he47
  replace hB9 := hB9.ext he47
  replace hC20 := hC20.ext he47
  replace hB10 := hB10.ext he47
  replace hB11 := hB11.ext he47
  replace hO29 := hO29.ext he47
  have hs47 := he47.size
  refine RO_q rfl rfl (Yd_move rfl) (RO_q rfl rfl (Yd_move rfl) (RO_q rfl rfl (Yd_idxL Try.underlying45 (sz := 5) (by kernel_rfl) rfl rfl (by omega) (by omega)) (RO_q rfl rfl (Yd_loadA (cs := [.int .i64 ep17, .int .i64 fr20, .int .i64 dp20, .int .i64 sc20, .slice AC20 nC20 cC20]) Try.underlying43 rfl (by kernel_rfl) rfl (fun W hW => (Vw.lqAL hO29.vw (i := 2) (a := (⟨ep17, fr20, dp20, sc20, AC20, nC20, cC20⟩ : SpH)) rfl rfl rfl) W hW.ext)) (RO_q rfl rfl (Yd_move rfl) (RO_q rfl rfl (Yd_move rfl) (RO_q rfl rfl (Yd_idxL Try.underlying45 (sz := 5) (by kernel_rfl) rfl rfl (by omega) (by omega)) (RO_q rfl rfl (Yd_loadA (cs := [.int .i64 ep20, .int .i64 fr20, .int .i64 dp20, .int .i64 sc20, .slice AC20 nC20 cC20]) Try.underlying43 rfl (by kernel_rfl) rfl (fun W hW => (Vw.lqAL hO29.vw (i := 1) (a := (⟨ep20, fr20, dp20, sc20, AC20, nC20, cC20⟩ : SpH)) rfl rfl rfl) W hW.ext)) (RO_q rfl rfl (Yd_move rfl) (RO_q rfl rfl (Yd_move rfl) (RO_q rfl rfl (Yd_idxL Try.underlying45 (sz := 5) (by kernel_rfl) rfl rfl (by omega) (by omega)) (RO_q rfl rfl (Yd_loadA (cs := [.int .i64 ep17, .int .i64 fr20, .int .i64 dp20, .int .i64 sc20, .slice AC20 nC20 cC20]) Try.underlying43 rfl (by kernel_rfl) rfl (fun W hW => (Vw.lqAL hO29.vw (i := 2) (a := (⟨ep17, fr20, dp20, sc20, AC20, nC20, cC20⟩ : SpH)) rfl rfl rfl) W hW.ext)) (RO_q rfl rfl (Yd_move rfl) (RO_q rfl rfl (Yd_move rfl) (RO_q rfl rfl (Yd_idxL Try.underlying45 (sz := 5) (by kernel_rfl) rfl rfl (by omega) (by omega)) (RO_q rfl rfl (Yd_loadA (cs := [.int .i64 ep20, .int .i64 fr20, .int .i64 dp20, .int .i64 sc20, .slice AC20 nC20 cC20]) Try.underlying43 rfl (by kernel_rfl) rfl (fun W hW => (Vw.lqAL hO29.vw (i := 1) (a := (⟨ep20, fr20, dp20, sc20, AC20, nC20, cC20⟩ : SpH)) rfl rfl rfl) W hW.ext)) (RO_l rfl rfl (Ld_call Try.func31 rfl (by kernel_rfl) rfl (ofV (sep := ep17) (sfr := fr20) (sdp := dp20) (ssc := sc20) hC20.vw ⟨by omega, by omega, by omega, by omega, by omega, by omega⟩ ⟨by omega, by omega⟩) ?_)))))))))))))))))
  rintro e W48 ⟨rfl, he48⟩
  refine ⟨_, rfl, ?_⟩
  refine ⟨Kp.of_ext he48, ?_⟩
  replace hE := Ext.trans hE he48
  replace h_cps := h_cps.ext he48
  replace h_dps := h_dps.ext he48
  replace hB6 := hB6.ext he48
  replace hB7 := hB7.ext he48
  replace hC17 := hC17.ext he48
  replace hB9 := hB9.ext he48
  replace hC20 := hC20.ext he48
  replace hB10 := hB10.ext he48
  replace hB11 := hB11.ext he48
  replace hO29 := hO29.ext he48
  have hs48 := he48.size
  refine RO_l rfl rfl (Ld_call Try.func31 rfl (by kernel_rfl) rfl (ofV (sep := ep20) (sfr := fr20) (sdp := dp20) (ssc := sc20) hC20.vw ⟨by omega, by omega, by omega, by omega, by omega, by omega⟩ ⟨by omega, by omega⟩) ?_)
  rintro e W49 ⟨rfl, he49⟩
  refine ⟨_, rfl, ?_⟩
  refine ⟨Kp.of_ext he49, ?_⟩
  replace hE := Ext.trans hE he49
  replace h_cps := h_cps.ext he49
  replace h_dps := h_dps.ext he49
  replace hB6 := hB6.ext he49
  replace hB7 := hB7.ext he49
  replace hC17 := hC17.ext he49
  replace hB9 := hB9.ext he49
  replace hC20 := hC20.ext he49
  replace hB10 := hB10.ext he49
  replace hB11 := hB11.ext he49
  replace hO29 := hO29.ext he49
  have hs49 := he49.size
  refine RO_l rfl rfl (Ld_call Try.func35 rfl (by kernel_rfl) rfl (sSameV (aep := ep17) (afr := fr20) (adp := dp20) (asc := sc20) hC20.vw ⟨by omega, by omega, by omega, by omega, by omega, by omega⟩ ⟨by omega, by omega⟩ (bep := ep20) (bfr := fr20) (bdp := dp20) (bsc := sc20) hC20.vw ⟨by omega, by omega, by omega, by omega, by omega, by omega⟩ ⟨by omega, by omega⟩) ?_)
  rintro e W50 ⟨_, rfl, rfl, he50⟩
  refine ⟨_, rfl, ?_⟩
  refine ⟨Kp.of_ext he50, ?_⟩
  replace hE := Ext.trans hE he50
  replace h_cps := h_cps.ext he50
  replace h_dps := h_dps.ext he50
  replace hB6 := hB6.ext he50
  replace hB7 := hB7.ext he50
  replace hC17 := hC17.ext he50
  replace hB9 := hB9.ext he50
  replace hC20 := hC20.ext he50
  replace hB10 := hB10.ext he50
  replace hB11 := hB11.ext he50
  replace hO29 := hO29.ext he50
  have hs50 := he50.size
  refine RO_l rfl rfl (Ld_call Try.func36 rfl (by kernel_rfl) rfl (refsSameV (aep := ep17) (afr := fr20) (adp := dp20) (asc := sc20) hC20.vw ⟨by omega, by omega, by omega, by omega, by omega, by omega⟩ ⟨by omega, by omega⟩ (bep := ep20) (bfr := fr20) (bdp := dp20) (bsc := sc20) hC20.vw ⟨by omega, by omega, by omega, by omega, by omega, by omega⟩ ⟨by omega, by omega⟩) ?_)
  rintro e W51 ⟨_, rfl, rfl, he51⟩
  refine ⟨_, rfl, ?_⟩
  refine ⟨Kp.of_ext he51, ?_⟩
  replace hE := Ext.trans hE he51
  replace h_cps := h_cps.ext he51
  replace h_dps := h_dps.ext he51
  replace hB6 := hB6.ext he51
  replace hB7 := hB7.ext he51
  replace hC17 := hC17.ext he51
  replace hB9 := hB9.ext he51
  replace hC20 := hC20.ext he51
  replace hB10 := hB10.ext he51
  replace hB11 := hB11.ext he51
  replace hO29 := hO29.ext he51
  have hs51 := he51.size
  refine RO_q rfl rfl (Yd_neqB Try.underlying4 rfl rfl) (RO_nil (X_then (?_)))
  refine C_no rfl (by simp) (C_skip (X_block (X_then (C_region (RL_q rfl (Yd_move rfl) (RL_q rfl (Yd_add (r := 2) rfl rfl rfl) (RL_q rfl (Yd_assign rfl) (RL_nil (X_round (CR_sub (E' := [(12, .slice (some ⟨W10.heap.size, 0, none⟩) 3 3), (13, .int .i64 2), (14, .int .i64 2), (30, .int .i64 2), (31, .bool true)]) ⟨rfl, rfl, rfl, rfl, rfl, trivial⟩ (CR_succ (C_seq (C_seq (C_region (RL_q rfl (Yd_move rfl) (RL_q rfl (Yd_lss rfl rfl) (RL_nil (X_then (C_yes rfl rfl (C_skip (X_then (C_seq (C_block (C_seq (?_)))))))))))))))))))))))))
  refine C_regionD (NoB) (l := [(0, true), (1, true), (2, true), (3, true), (5, true), (6, true), (7, true), (8, true), (11, true), (12, true), (13, true), (14, true), (15, true), (16, true), (17, true), (18, true), (4, false), (9, false), (10, false), (19, false), (20, true)]) (by kernel_rfl) (by kernel_rfl) rfl (by kernel_rfl) (fun _ _ d _ _ h => by cases d <;> exact h) ?_
  intro W52 he52 hh52
  replace hE := Ext.trans hE he52
  replace h_cps := h_cps.ext he52
  replace h_dps := h_dps.ext he52
  replace hB6 := hB6.ext he52
  replace hB7 := hB7.ext he52
  replace hC17 := hC17.ext he52
  replace hB9 := hB9.ext he52
  replace hC20 := hC20.ext he52
  replace hB10 := hB10.ext he52
  replace hB11 := hB11.ext he52
  replace hO29 := hO29.ext he52
  have hs52 := he52.size
  refine RO_q rfl rfl (Yd_move rfl) (RO_q rfl rfl (Yd_move rfl) (RO_q rfl rfl (Yd_idxL Try.underlying45 (sz := 5) (by kernel_rfl) rfl rfl (by omega) (by omega)) (RO_q rfl rfl (Yd_loadA (cs := [.int .i64 ep17, .int .i64 fr20, .int .i64 dp20, .int .i64 sc20, .slice AC20 nC20 cC20]) Try.underlying43 rfl (by kernel_rfl) rfl (fun W hW => (Vw.lqAL hO29.vw (i := 2) (a := (⟨ep17, fr20, dp20, sc20, AC20, nC20, cC20⟩ : SpH)) rfl rfl rfl) W hW.ext)) (RO_q rfl rfl (Yd_move rfl) (RO_q rfl rfl (Yd_move rfl) (RO_q rfl rfl (Yd_idxL Try.underlying45 (sz := 5) (by kernel_rfl) rfl rfl (by omega) (by omega)) (RO_q rfl rfl (Yd_loadA (cs := [.int .i64 ep17, .int .i64 fr20, .int .i64 dp20, .int .i64 sc20, .slice AC20 nC20 cC20]) Try.underlying43 rfl (by kernel_rfl) rfl (fun W hW => (Vw.lqAL hO29.vw (i := 2) (a := (⟨ep17, fr20, dp20, sc20, AC20, nC20, cC20⟩ : SpH)) rfl rfl rfl) W hW.ext)) (RO_q rfl rfl (Yd_move rfl) (RO_q rfl rfl (Yd_move rfl) (RO_q rfl rfl (Yd_idxL Try.underlying45 (sz := 5) (by kernel_rfl) rfl rfl (by omega) (by omega)) (RO_q rfl rfl (Yd_loadA (cs := [.int .i64 ep17, .int .i64 fr20, .int .i64 dp20, .int .i64 sc20, .slice AC20 nC20 cC20]) Try.underlying43 rfl (by kernel_rfl) rfl (fun W hW => (Vw.lqAL hO29.vw (i := 2) (a := (⟨ep17, fr20, dp20, sc20, AC20, nC20, cC20⟩ : SpH)) rfl rfl rfl) W hW.ext)) (RO_q rfl rfl (Yd_move rfl) (RO_q rfl rfl (Yd_move rfl) (RO_q rfl rfl (Yd_idxL Try.underlying45 (sz := 5) (by kernel_rfl) rfl rfl (by omega) (by omega)) (RO_q rfl rfl (Yd_loadA (cs := [.int .i64 ep17, .int .i64 fr20, .int .i64 dp20, .int .i64 sc20, .slice AC20 nC20 cC20]) Try.underlying43 rfl (by kernel_rfl) rfl (fun W hW => (Vw.lqAL hO29.vw (i := 2) (a := (⟨ep17, fr20, dp20, sc20, AC20, nC20, cC20⟩ : SpH)) rfl rfl rfl) W hW.ext)) (RO_l rfl rfl (Ld_call Try.func31 rfl (by kernel_rfl) rfl (ofV (sep := ep17) (sfr := fr20) (sdp := dp20) (ssc := sc20) hC20.vw ⟨by omega, by omega, by omega, by omega, by omega, by omega⟩ ⟨by omega, by omega⟩) ?_)))))))))))))))))
  rintro e W53 ⟨rfl, he53⟩
  refine ⟨_, rfl, ?_⟩
  refine ⟨Kp.of_ext he53, ?_⟩
  replace hE := Ext.trans hE he53
  replace h_cps := h_cps.ext he53
  replace h_dps := h_dps.ext he53
  replace hB6 := hB6.ext he53
  replace hB7 := hB7.ext he53
  replace hC17 := hC17.ext he53
  replace hB9 := hB9.ext he53
  replace hC20 := hC20.ext he53
  replace hB10 := hB10.ext he53
  replace hB11 := hB11.ext he53
  replace hO29 := hO29.ext he53
  have hs53 := he53.size
  refine RO_l rfl rfl (Ld_call Try.func31 rfl (by kernel_rfl) rfl (ofV (sep := ep17) (sfr := fr20) (sdp := dp20) (ssc := sc20) hC20.vw ⟨by omega, by omega, by omega, by omega, by omega, by omega⟩ ⟨by omega, by omega⟩) ?_)
  rintro e W54 ⟨rfl, he54⟩
  refine ⟨_, rfl, ?_⟩
  refine ⟨Kp.of_ext he54, ?_⟩
  replace hE := Ext.trans hE he54
  replace h_cps := h_cps.ext he54
  replace h_dps := h_dps.ext he54
  replace hB6 := hB6.ext he54
  replace hB7 := hB7.ext he54
  replace hC17 := hC17.ext he54
  replace hB9 := hB9.ext he54
  replace hC20 := hC20.ext he54
  replace hB10 := hB10.ext he54
  replace hB11 := hB11.ext he54
  replace hO29 := hO29.ext he54
  have hs54 := he54.size
  refine RO_l rfl rfl (Ld_call Try.func35 rfl (by kernel_rfl) rfl (sSameV (aep := ep17) (afr := fr20) (adp := dp20) (asc := sc20) hC20.vw ⟨by omega, by omega, by omega, by omega, by omega, by omega⟩ ⟨by omega, by omega⟩ (bep := ep17) (bfr := fr20) (bdp := dp20) (bsc := sc20) hC20.vw ⟨by omega, by omega, by omega, by omega, by omega, by omega⟩ ⟨by omega, by omega⟩) ?_)
  rintro e W55 ⟨_, rfl, rfl, he55⟩
  refine ⟨_, rfl, ?_⟩
  refine ⟨Kp.of_ext he55, ?_⟩
  replace hE := Ext.trans hE he55
  replace h_cps := h_cps.ext he55
  replace h_dps := h_dps.ext he55
  replace hB6 := hB6.ext he55
  replace hB7 := hB7.ext he55
  replace hC17 := hC17.ext he55
  replace hB9 := hB9.ext he55
  replace hC20 := hC20.ext he55
  replace hB10 := hB10.ext he55
  replace hB11 := hB11.ext he55
  replace hO29 := hO29.ext he55
  have hs55 := he55.size
  refine RO_l rfl rfl (Ld_call Try.func36 rfl (by kernel_rfl) rfl (refsSameV (aep := ep17) (afr := fr20) (adp := dp20) (asc := sc20) hC20.vw ⟨by omega, by omega, by omega, by omega, by omega, by omega⟩ ⟨by omega, by omega⟩ (bep := ep17) (bfr := fr20) (bdp := dp20) (bsc := sc20) hC20.vw ⟨by omega, by omega, by omega, by omega, by omega, by omega⟩ ⟨by omega, by omega⟩) ?_)
  rintro e W56 ⟨_, rfl, rfl, he56⟩
  refine ⟨_, rfl, ?_⟩
  refine ⟨Kp.of_ext he56, ?_⟩
  replace hE := Ext.trans hE he56
  replace h_cps := h_cps.ext he56
  replace h_dps := h_dps.ext he56
  replace hB6 := hB6.ext he56
  replace hB7 := hB7.ext he56
  replace hC17 := hC17.ext he56
  replace hB9 := hB9.ext he56
  replace hC20 := hC20.ext he56
  replace hB10 := hB10.ext he56
  replace hB11 := hB11.ext he56
  replace hO29 := hO29.ext he56
  have hs56 := he56.size
  refine RO_q rfl rfl (Yd_neqB Try.underlying4 rfl rfl) (RO_nil (X_then (?_)))
  refine C_no rfl (by simp) (C_skip (X_block (X_then (C_region (RL_q rfl (Yd_move rfl) (RL_q rfl (Yd_add (r := 3) rfl rfl rfl) (RL_q rfl (Yd_assign rfl) (RL_nil (X_round (CR_sub (E' := [(12, .slice (some ⟨W10.heap.size, 0, none⟩) 3 3), (13, .int .i64 2), (14, .int .i64 3), (30, .int .i64 2), (31, .bool true)]) ⟨rfl, rfl, rfl, rfl, rfl, trivial⟩ (CR_succ (C_seq (C_seq (C_region (RL_q rfl (Yd_move rfl) (RL_q rfl (Yd_lss rfl rfl) (RL_nil (X_then (C_no rfl rfl (C_exit (X_thenE (X_thenE (X_blockE (X_block (X_then (C_region (RL_q rfl (Yd_move rfl) (RL_q rfl (Yd_add (r := 3) rfl rfl rfl) (RL_q rfl (Yd_assign rfl) (RL_nil (X_round (CR_sub (E' := [(12, .slice (some ⟨W10.heap.size, 0, none⟩) 3 3), (13, .int .i64 3)]) ⟨rfl, rfl, trivial⟩ (CR_succ (C_seq (C_seq (C_region (RL_q rfl (Yd_move rfl) (RL_q rfl (Yd_lss rfl rfl) (RL_nil (X_then (C_no rfl rfl (C_exit (X_thenE (X_thenE (X_blockE (X_then (C_seq (C_region (RL_l rfl (Ld_call Try.func34 rfl (by kernel_rfl) rfl (lives06V ) ?_))))))))))))))))))))))))))))))))))))))))))))))))))
  rintro e W57 ⟨_, rfl, rfl, he57⟩
  refine ⟨_, rfl, ?_⟩
  replace hE := Ext.trans hE he57
  replace h_cps := h_cps.ext he57
  replace h_dps := h_dps.ext he57
  replace hB6 := hB6.ext he57
  replace hB7 := hB7.ext he57
  replace hC17 := hC17.ext he57
  replace hB9 := hB9.ext he57
  replace hC20 := hC20.ext he57
  replace hB10 := hB10.ext he57
  replace hB11 := hB11.ext he57
  replace hO29 := hO29.ext he57
  have hs57 := he57.size
  refine RL_q rfl (Yd_assign rfl) (RL_nil (X_then (C_ret (X_ret1 rfl rfl ?_))))
  refine ⟨_, rfl, ?_, hE⟩
  all_goals (first | rfl | omega | simp)
end Go.Proofs.AL
