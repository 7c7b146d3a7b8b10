import Derived.Test.YtefidipfedjpbaaCong
set_option linter.unusedVariables false
set_option linter.unusedSimpArgs false
namespace Go.Proofs.AL
open Go.RowKit
theorem ConfigChecksV {cfr cdp csc : Int} {lo_cps B_cps : Nat} {A_cps : Option Addr} {n_cps c_cps : Nat} {cps : List Pt} {i : Int} {v : Int} {w : World}  (h_cps : Vw tP w lo_cps B_cps A_cps n_cps c_cps cps) (b_c : -9223372036854775808 ≤ cfr ∧ cfr ≤ 9223372036854775807 ∧ -9223372036854775808 ≤ cdp ∧ cdp ≤ 9223372036854775807 ∧ -9223372036854775808 ≤ csc ∧ csc ≤ 9223372036854775807) (b_i : -9223372036854775808 ≤ i ∧ i ≤ 9223372036854775807) (b_v : -9223372036854775808 ≤ v ∧ v ≤ 9223372036854775807) :
    Calls Try.prog 3 #[.agg #[.int .i64 cfr, .int .i64 cdp, .int .i64 csc, .slice A_cps n_cps c_cps], .int .i64 i, .int .i64 v] w fun e w' => ∃ (x0 : Bool), e = .returned (.bool x0) ∧ x0 = (true) ∧ Ext w w' := by
  have hE := Ext.refl w
  replace h_cps := h_cps.fit
  have hn_cps := h_cps.ln
  have hc_cps := h_cps.cap
  have hm_cps := h_cps.max
  simp only [maxLen] at hm_cps
  refine calls_of (l := [.agg #[.int .i64 cfr, .int .i64 cdp, .int .i64 csc, .slice A_cps n_cps c_cps], .int .i64 i, .int .i64 v]) (N := 78) Try.func3 rfl rfl rfl ?_
  refine C_seq (C_region (RL_l rfl (Ld_box rfl ?_)))
  have hg_3 := hE.size
  intro W1 he1 hz1 hB3
  replace hE := Ext.trans hE he1
  replace h_cps := h_cps.ext he1
  refine RL_q rfl (Yd_assign rfl) (RL_nil (X_then (C_seq (C_region (RL_q rfl (Yd_loadA Try.underlying24 rfl (by kernel_rfl) rfl (ldBA hB3)) (RL_l rfl (Ld_call Try.func14 rfl (by kernel_rfl) rfl (GoodV h_cps ⟨by omega, by omega, by omega, by omega, by omega, by omega⟩) ?_)))))))
  rintro e W2 ⟨fr15, dp15, sc15, AC15, nC15, cC15, pC15, rfl, hp15, hC15, he2⟩
  refine ⟨_, rfl, ?_⟩
  replace hE := Ext.trans hE he2
  replace h_cps := h_cps.ext he2
  replace hB3 := hB3.ext he2
  have hs2 := he2.size
  have hnC15 := hC15.ln
  have hcC15 := hC15.cap
  have hfb15 := hp15.frb
  have hdb15 := hp15.hdp
  have hsb15 := hp15.hsc
  have hlb15 := hp15.hln
  refine RL_l rfl (Ld_alloc (v := (.agg #[(.int .i64 0), (.int .i64 0), (.int .i64 0), (.slice none 0 0)])) (by kernel_rfl) ?_)
  have hg_7 := hE.size
  intro W3 he3 hz3 hB7
  replace hE := Ext.trans hE he3
  replace h_cps := h_cps.ext he3
  replace hB3 := hB3.ext he3
  replace hC15 := hC15.ext he3
  refine RL_l0 (Ld_store (by kernel_rfl) rfl rfl hB7 (Nat.le_of_ble_eq_true rfl) (by simp [cellsL, Value.cells, Value.oneCell']) ?_)
  intro W4 hu4 hz4 hB7
  have hk4 := Kp.ofb hu4
  have hs4 := hk4.size
  replace hE := Ext.kp hE hk4 (fun k hk => by first | omega | (have hk := hk; dsimp only at hk; omega))
  replace h_cps := h_cps.kp hk4 (fun k hk => by first | omega | (have hk := hk; dsimp only at hk; omega))
  replace hB3 := hB3.kp hk4 (fun hk => by first | omega | (have hk := hk; dsimp only at hk; omega))
  replace hC15 := hC15.kp hk4 (fun k hk => by first | omega | (have hk := hk; dsimp only at hk; omega))
  refine RL_nil (X_then (C_seq (?_)))
  refine C_regionD (NoB) (l := [(0, true), (2, true), (3, true), (4, true), (5, true), (7, true), (8, true), (9, true), (12, true), (13, true), (14, true), (16, true), (17, true), (1, false), (6, false), (10, false), (11, false), (15, false), (18, false), (19, false), (20, false), (21, true)]) (by kernel_rfl) (by kernel_rfl) rfl (by kernel_rfl) (fun _ _ d _ _ h => by cases d <;> exact h) ?_
  intro W5 he5 hh5
  replace hE := Ext.trans hE he5
  replace h_cps := h_cps.ext he5
  replace hB3 := hB3.ext he5
  replace hC15 := hC15.ext he5
  replace hB7 := hB7.ext he5
  have hs5 := he5.size
  refine RO_q rfl rfl (Yd_loadA Try.underlying24 rfl (by kernel_rfl) rfl (fun W hW => (ldBA hB3) W hW.ext)) (RO_q rfl rfl (Yd_loadA Try.underlying24 rfl (by kernel_rfl) rfl (fun W hW => (ldBA hB7) W hW.ext)) (RO_q rfl rfl (Yd_loadA Try.underlying24 rfl (by kernel_rfl) rfl (fun W hW => (ldBA hB7) W hW.ext)) (RO_q rfl rfl (Yd_move rfl) (RO_q rfl rfl (Yd_move rfl) (RO_q rfl rfl (Yd_loadA Try.underlying24 rfl (by kernel_rfl) rfl (fun W hW => (ldBA hB7) W hW.ext)) (RO_q rfl rfl (Yd_move rfl) (RO_q rfl rfl (Yd_move rfl) (RO_q rfl rfl (Yd_loadA Try.underlying24 rfl (by kernel_rfl) rfl (fun W hW => (ldBA hB7) W hW.ext)) (RO_q rfl rfl (Yd_move rfl) (RO_q rfl rfl (Yd_move rfl) (RO_q rfl rfl (Yd_move rfl) (RO_q rfl rfl (Yd_move rfl) (RO_l rfl rfl (Ld_call Try.func15 rfl (by kernel_rfl) rfl (FewV h_cps ⟨by omega, by omega, by omega, by omega, by omega, by omega⟩) ?_))))))))))))))
  rintro e W6 ⟨fr17, dp17, sc17, AC17, nC17, cC17, pC17, rfl, hp17, hC17, he6⟩
  refine ⟨_, rfl, ?_⟩
  refine ⟨Kp.of_ext he6, ?_⟩
  replace hE := Ext.trans hE he6
  replace h_cps := h_cps.ext he6
  replace hB3 := hB3.ext he6
  replace hC15 := hC15.ext he6
  replace hB7 := hB7.ext he6
  have hs6 := he6.size
  have hnC17 := hC17.ln
  have hcC17 := hC17.cap
  refine RO_l rfl rfl (Ld_call Try.func16 rfl (by kernel_rfl) rfl (oddV hC15.vw ⟨by omega, by omega, by omega, by omega, by omega, by omega⟩ ⟨by first | omega | (dsimp only; omega), by first | omega | (dsimp only; omega)⟩ ⟨by first | omega | (dsimp only; omega), by first | omega | (dsimp only; omega)⟩ (by omega)) ?_)
  rintro e W7 ⟨fr22, dp22, sc22, AC22, nC22, cC22, pC22, rfl, hp22, hC22, he7⟩
  refine ⟨_, rfl, ?_⟩
  refine ⟨Kp.of_ext he7, ?_⟩
  replace hE := Ext.trans hE he7
  replace h_cps := h_cps.ext he7
  replace hB3 := hB3.ext he7
  replace hC15 := hC15.ext he7
  replace hB7 := hB7.ext he7
  replace hC17 := hC17.ext he7
  have hs7 := he7.size
  have hnC22 := hC22.ln
  have hcC22 := hC22.cap
  refine RO_l rfl rfl (Ld_call Try.func17 rfl (by kernel_rfl) rfl (AroundV ⟨by first | omega | (dsimp only; omega), by first | omega | (dsimp only; omega)⟩ ⟨by first | omega | (dsimp only; omega), by first | omega | (dsimp only; omega)⟩) ?_)
  rintro e W8 ⟨y26, rfl, hy26, hra26, rfl⟩
  refine ⟨_, rfl, ?_⟩
  refine ⟨Kp.refl _ _, ?_⟩
  refine RO_l rfl rfl (Ld_call Try.func16 rfl (by kernel_rfl) rfl (oddV hC15.vw ⟨by omega, by omega, by omega, by omega, by omega, by omega⟩ ⟨by first | omega | (dsimp only; omega), by first | omega | (dsimp only; omega)⟩ ⟨by first | omega | (dsimp only; omega), by first | omega | (dsimp only; omega)⟩ (by omega)) ?_)
  rintro e W9 ⟨fr27, dp27, sc27, AC27, nC27, cC27, pC27, rfl, hp27, hC27, he9⟩
  refine ⟨_, rfl, ?_⟩
  refine ⟨Kp.of_ext he9, ?_⟩
  replace hE := Ext.trans hE he9
  replace h_cps := h_cps.ext he9
  replace hB3 := hB3.ext he9
  replace hC15 := hC15.ext he9
  replace hB7 := hB7.ext he9
  replace hC17 := hC17.ext he9
  replace hC22 := hC22.ext he9
  have hs9 := he9.size
  have hnC27 := hC27.ln
  have hcC27 := hC27.cap
  refine RO_l rfl rfl (Ld_call Try.func16 rfl (by kernel_rfl) rfl (oddV hC15.vw ⟨by omega, by omega, by omega, by omega, by omega, by omega⟩ ⟨by first | omega | (dsimp only; omega), by first | omega | (dsimp only; omega)⟩ ⟨by first | omega | (dsimp only; omega), by first | omega | (dsimp only; omega)⟩ (by omega)) ?_)
  rintro e W10 ⟨fr31, dp31, sc31, AC31, nC31, cC31, pC31, rfl, hp31, hC31, he10⟩
  refine ⟨_, rfl, ?_⟩
  refine ⟨Kp.of_ext he10, ?_⟩
  replace hE := Ext.trans hE he10
  replace h_cps := h_cps.ext he10
  replace hB3 := hB3.ext he10
  replace hC15 := hC15.ext he10
  replace hB7 := hB7.ext he10
  replace hC17 := hC17.ext he10
  replace hC22 := hC22.ext he10
  replace hC27 := hC27.ext he10
  have hs10 := he10.size
  have hnC31 := hC31.ln
  have hcC31 := hC31.cap
  refine RO_l rfl rfl (Ld_call Try.func17 rfl (by kernel_rfl) rfl (AroundV ⟨by first | omega | (dsimp only; omega), by first | omega | (dsimp only; omega)⟩ ⟨by first | omega | (dsimp only; omega), by first | omega | (dsimp only; omega)⟩) ?_)
  rintro e W11 ⟨y34, rfl, hy34, hra34, rfl⟩
  refine ⟨_, rfl, ?_⟩
  refine ⟨Kp.refl _ _, ?_⟩
  refine RO_l rfl rfl (Ld_call Try.func16 rfl (by kernel_rfl) rfl (oddV hC31.vw ⟨by omega, by omega, by omega, by omega, by omega, by omega⟩ ⟨by first | omega | (dsimp only; omega), by first | omega | (dsimp only; omega)⟩ ⟨by first | omega | (dsimp only; omega), by first | omega | (dsimp only; omega)⟩ (by omega)) ?_)
  rintro e W12 ⟨fr35, dp35, sc35, AC35, nC35, cC35, pC35, rfl, hp35, hC35, he12⟩
  refine ⟨_, rfl, ?_⟩
  refine ⟨Kp.of_ext he12, ?_⟩
  replace hE := Ext.trans hE he12
  replace h_cps := h_cps.ext he12
  replace hB3 := hB3.ext he12
  replace hC15 := hC15.ext he12
  replace hB7 := hB7.ext he12
  replace hC17 := hC17.ext he12
  replace hC22 := hC22.ext he12
  replace hC27 := hC27.ext he12
  replace hC31 := hC31.ext he12
  have hs12 := he12.size
  have hnC35 := hC35.ln
  have hcC35 := hC35.cap
  refine RO_l rfl rfl (Ld_lit Try.underlying28 rfl (lit_flat Try.underlying28 Try.elt24 rfl rfl ⟨rfl, by decide⟩) ?_)
  intro W13 he13 hz13 hL36
  refine ⟨Kp.of_ext he13, ?_⟩
  replace hE := Ext.trans hE he13
  replace h_cps := h_cps.ext he13
  replace hB3 := hB3.ext he13
  replace hC15 := hC15.ext he13
  replace hB7 := hB7.ext he13
  replace hC17 := hC17.ext he13
  replace hC22 := hC22.ext he13
  replace hC27 := hC27.ext he13
  replace hC31 := hC31.ext he13
  replace hC35 := hC35.ext he13
  have hO36 := Ow.of_blk (T := tCf) (l := [(⟨fr17, dp17, sc17, AC17, nC17, cC17⟩ : CfH), (⟨fr15, dp15, sc15, AC15, nC15, cC15⟩ : CfH), (⟨fr22, dp22, sc22, AC22, nC22, cC22⟩ : CfH), (⟨fr27, dp27, sc27, AC27, nC27, cC27⟩ : CfH), (⟨fr35, dp35, sc35, AC35, nC35, cC35⟩ : CfH)]) hL36 rfl (n := 5) rfl (by simp [maxLen]) (okc trivial (okc trivial (okc trivial (okc trivial (okc trivial okn)))))
  clear hL36
  refine RO_q rfl rfl (Yd_assign rfl) (RO_nil (X_then (C_seq (C_seq (C_region (RL_q rfl (Yd_assign rfl) (RL_nil (X_then (C_block (C_rounds 6 (CR_succ (C_seq (C_seq (C_region (RL_q rfl (Yd_move rfl) (RL_q rfl (Yd_move rfl) (RL_q rfl (Yd_len Try.underlying28 rfl) (RL_q rfl (Yd_lss rfl rfl) (RL_nil (X_then (C_yes rfl rfl (C_skip (X_then (C_seq (C_block (C_seq (C_region (RL_q rfl (Yd_move rfl) (RL_q rfl (Yd_move rfl) (RL_q rfl (Yd_idxL Try.underlying28 (sz := 4) (by kernel_rfl) rfl rfl (by omega) (by omega)) (RL_q rfl (Yd_loadA (cs := [.int .i64 fr17, .int .i64 dp17, .int .i64 sc17, .slice AC17 nC17 cC17]) Try.underlying24 rfl (by kernel_rfl) rfl (Vw.lqAL hO36.vw (i := 0) (a := (⟨fr17, dp17, sc17, AC17, nC17, cC17⟩ : CfH)) rfl rfl rfl)) (RL_l rfl (Ld_call Try.func18 rfl (by kernel_rfl) rfl (CheckV hC17.vw ⟨by omega, by omega, by omega, by omega, by omega, by omega⟩) ?_)))))))))))))))))))))))))))))))))
  rintro e W14 ⟨z48_0, y48_1, rfl, ⟨hz48_0, hby48_0⟩, hy48_1, he14⟩
  refine ⟨_, rfl, ?_⟩
  replace hE := Ext.trans hE he14
  replace h_cps := h_cps.ext he14
  replace hB3 := hB3.ext he14
  replace hC15 := hC15.ext he14
  replace hB7 := hB7.ext he14
  replace hC17 := hC17.ext he14
  replace hC22 := hC22.ext he14
  replace hC27 := hC27.ext he14
  replace hC31 := hC31.ext he14
  replace hC35 := hC35.ext he14
  replace hO36 := hO36.ext he14
  have hs14 := he14.size
  refine RL_q rfl (Yd_move rfl) (RL_q rfl (Yd_extract rfl rfl) (RL_q rfl (Yd_extract rfl rfl) (RL_q rfl (Yd_assign rfl) (RL_q rfl (Yd_assign rfl) (RL_nil (X_then (C_seq (C_region (RL_q rfl (Yd_move rfl) (RL_q rfl (Yd_move rfl) (RL_q rfl (Yd_idxL Try.underlying28 (sz := 4) (by kernel_rfl) rfl rfl (by omega) (by omega)) (RL_q rfl (Yd_loadA (cs := [.int .i64 fr17, .int .i64 dp17, .int .i64 sc17, .slice AC17 nC17 cC17]) Try.underlying24 rfl (by kernel_rfl) rfl (Vw.lqAL hO36.vw (i := 0) (a := (⟨fr17, dp17, sc17, AC17, nC17, cC17⟩ : CfH)) rfl rfl rfl)) (RL_l rfl (Ld_call Try.func19 rfl (by kernel_rfl) rfl (refCheckV hC17.vw ⟨by omega, by omega, by omega, by omega, by omega, by omega⟩) ?_))))))))))))))
  rintro e W15 ⟨z56_0, y56_1, rfl, ⟨hz56_0, hby56_0⟩, hy56_1, he15⟩
  refine ⟨_, rfl, ?_⟩
  replace hE := Ext.trans hE he15
  replace h_cps := h_cps.ext he15
  replace hB3 := hB3.ext he15
  replace hC15 := hC15.ext he15
  replace hB7 := hB7.ext he15
  replace hC17 := hC17.ext he15
  replace hC22 := hC22.ext he15
  replace hC27 := hC27.ext he15
  replace hC31 := hC31.ext he15
  replace hC35 := hC35.ext he15
  replace hO36 := hO36.ext he15
  have hs15 := he15.size
  refine RL_q rfl (Yd_move rfl) (RL_q rfl (Yd_extract rfl rfl) (RL_q rfl (Yd_extract rfl rfl) (RL_q rfl (Yd_assign rfl) (RL_q rfl (Yd_assign rfl) (RL_nil (X_then (C_seq (C_region (RL_q rfl (Yd_move rfl) (RL_q rfl (Yd_move rfl) (RL_q rfl (Yd_neqSB rfl rfl hby48_0 hby56_0) (RL_q rfl (Yd_move rfl) (?_)))))))))))))
  refine RL_is (d := 62) (b' := false) rfl (by rw [hz48_0, hz56_0]; simp) ?_
  refine RL_gq rfl rfl rfl (Yd_move rfl) (RL_gq rfl rfl rfl (Yd_move rfl) (RL_gq rfl rfl rfl (Yd_neq rfl rfl) (RL_q rfl (Yd_pickF rfl rfl) (RL_q rfl (Yd_move rfl) (?_)))))
  refine RL_is (d := 67) (b' := false) rfl (by rw [hy48_1, hy56_1]; simp) ?_
  refine RL_gq rfl rfl rfl (Yd_move rfl) (RL_gq rfl rfl rfl (Yd_move rfl) (RL_gq rfl rfl rfl (Yd_idxL Try.underlying28 (sz := 4) (by kernel_rfl) rfl rfl (by omega) (by omega)) (RL_gq rfl rfl rfl (Yd_loadA (cs := [.int .i64 fr17, .int .i64 dp17, .int .i64 sc17, .slice AC17 nC17 cC17]) Try.underlying24 rfl (by kernel_rfl) rfl (Vw.lqAL hO36.vw (i := 0) (a := (⟨fr17, dp17, sc17, AC17, nC17, cC17⟩ : CfH)) rfl rfl rfl)) (RL_gl rfl rfl rfl (Ld_call Try.func20 rfl (by kernel_rfl) rfl (MayV hC17.vw ⟨by omega, by omega, by omega, by omega, by omega, by omega⟩) ?_)))))
  rintro e W16 ⟨_, rfl, rfl, he16⟩
  refine ⟨_, rfl, ?_⟩
  replace hE := Ext.trans hE he16
  replace h_cps := h_cps.ext he16
  replace hB3 := hB3.ext he16
  replace hC15 := hC15.ext he16
  replace hB7 := hB7.ext he16
  replace hC17 := hC17.ext he16
  replace hC22 := hC22.ext he16
  replace hC27 := hC27.ext he16
  replace hC31 := hC31.ext he16
  replace hC35 := hC35.ext he16
  replace hO36 := hO36.ext he16
  have hs16 := he16.size
  refine RL_gq rfl rfl rfl (Yd_move rfl) (RL_gq rfl rfl rfl (Yd_eqlSB (b := []) rfl rfl hby56_0 (by decide)) (RL_gq rfl rfl rfl (Yd_neqB Try.underlying4 rfl rfl) (RL_q rfl (Yd_pickF rfl rfl) (RL_nil (X_then (?_))))))
  refine C_no rfl (by rw [hz56_0]; simp [cS_nil (chk_le _ _ _ _)]) (C_skip (X_block (X_then (C_region (RL_q rfl (Yd_move rfl) (RL_q rfl (Yd_add (r := 1) rfl rfl rfl) (RL_q rfl (Yd_assign rfl) (RL_nil (X_round (CR_sub (E' := [(8, .slice (some ⟨W12.heap.size, 0, none⟩) 5 5), (9, .int .i64 1)]) ⟨rfl, rfl, trivial⟩ (CR_succ (C_seq (C_seq (C_region (RL_q rfl (Yd_move rfl) (RL_q rfl (Yd_move rfl) (RL_q rfl (Yd_len Try.underlying28 rfl) (RL_q rfl (Yd_lss rfl rfl) (RL_nil (X_then (C_yes rfl rfl (C_skip (X_then (C_seq (C_block (C_seq (C_region (RL_q rfl (Yd_move rfl) (RL_q rfl (Yd_move rfl) (RL_q rfl (Yd_idxL Try.underlying28 (sz := 4) (by kernel_rfl) rfl rfl (by omega) (by omega)) (RL_q rfl (Yd_loadA (cs := [.int .i64 fr15, .int .i64 dp15, .int .i64 sc15, .slice AC15 nC15 cC15]) Try.underlying24 rfl (by kernel_rfl) rfl (Vw.lqAL hO36.vw (i := 1) (a := (⟨fr15, dp15, sc15, AC15, nC15, cC15⟩ : CfH)) rfl rfl rfl)) (RL_l rfl (Ld_call Try.func18 rfl (by kernel_rfl) rfl (CheckV hC15.vw ⟨by omega, by omega, by omega, by omega, by omega, by omega⟩) ?_)))))))))))))))))))))))))))))))))
  rintro e W17 ⟨z1048_0, y1048_1, rfl, ⟨hz1048_0, hby1048_0⟩, hy1048_1, he17⟩
  refine ⟨_, rfl, ?_⟩
  replace hE := Ext.trans hE he17
  replace h_cps := h_cps.ext he17
  replace hB3 := hB3.ext he17
  replace hC15 := hC15.ext he17
  replace hB7 := hB7.ext he17
  replace hC17 := hC17.ext he17
  replace hC22 := hC22.ext he17
  replace hC27 := hC27.ext he17
  replace hC31 := hC31.ext he17
  replace hC35 := hC35.ext he17
  replace hO36 := hO36.ext he17
  have hs17 := he17.size
  refine RL_q rfl (Yd_move rfl) (RL_q rfl (Yd_extract rfl rfl) (RL_q rfl (Yd_extract rfl rfl) (RL_q rfl (Yd_assign rfl) (RL_q rfl (Yd_assign rfl) (RL_nil (X_then (C_seq (C_region (RL_q rfl (Yd_move rfl) (RL_q rfl (Yd_move rfl) (RL_q rfl (Yd_idxL Try.underlying28 (sz := 4) (by kernel_rfl) rfl rfl (by omega) (by omega)) (RL_q rfl (Yd_loadA (cs := [.int .i64 fr15, .int .i64 dp15, .int .i64 sc15, .slice AC15 nC15 cC15]) Try.underlying24 rfl (by kernel_rfl) rfl (Vw.lqAL hO36.vw (i := 1) (a := (⟨fr15, dp15, sc15, AC15, nC15, cC15⟩ : CfH)) rfl rfl rfl)) (RL_l rfl (Ld_call Try.func19 rfl (by kernel_rfl) rfl (refCheckV hC15.vw ⟨by omega, by omega, by omega, by omega, by omega, by omega⟩) ?_))))))))))))))
  rintro e W18 ⟨z1056_0, y1056_1, rfl, ⟨hz1056_0, hby1056_0⟩, hy1056_1, he18⟩
  refine ⟨_, rfl, ?_⟩
  replace hE := Ext.trans hE he18
  replace h_cps := h_cps.ext he18
  replace hB3 := hB3.ext he18
  replace hC15 := hC15.ext he18
  replace hB7 := hB7.ext he18
  replace hC17 := hC17.ext he18
  replace hC22 := hC22.ext he18
  replace hC27 := hC27.ext he18
  replace hC31 := hC31.ext he18
  replace hC35 := hC35.ext he18
  replace hO36 := hO36.ext he18
  have hs18 := he18.size
  refine RL_q rfl (Yd_move rfl) (RL_q rfl (Yd_extract rfl rfl) (RL_q rfl (Yd_extract rfl rfl) (RL_q rfl (Yd_assign rfl) (RL_q rfl (Yd_assign rfl) (RL_nil (X_then (C_seq (C_region (RL_q rfl (Yd_move rfl) (RL_q rfl (Yd_move rfl) (RL_q rfl (Yd_neqSB rfl rfl hby1048_0 hby1056_0) (RL_q rfl (Yd_move rfl) (?_)))))))))))))
  refine RL_is (d := 62) (b' := false) rfl (by rw [hz1048_0, hz1056_0]; simp) ?_
  refine RL_gq rfl rfl rfl (Yd_move rfl) (RL_gq rfl rfl rfl (Yd_move rfl) (RL_gq rfl rfl rfl (Yd_neq rfl rfl) (RL_q rfl (Yd_pickF rfl rfl) (RL_q rfl (Yd_move rfl) (?_)))))
  refine RL_is (d := 67) (b' := false) rfl (by rw [hy1048_1, hy1056_1]; simp) ?_
  refine RL_gq rfl rfl rfl (Yd_move rfl) (RL_gq rfl rfl rfl (Yd_move rfl) (RL_gq rfl rfl rfl (Yd_idxL Try.underlying28 (sz := 4) (by kernel_rfl) rfl rfl (by omega) (by omega)) (RL_gq rfl rfl rfl (Yd_loadA (cs := [.int .i64 fr15, .int .i64 dp15, .int .i64 sc15, .slice AC15 nC15 cC15]) Try.underlying24 rfl (by kernel_rfl) rfl (Vw.lqAL hO36.vw (i := 1) (a := (⟨fr15, dp15, sc15, AC15, nC15, cC15⟩ : CfH)) rfl rfl rfl)) (RL_gl rfl rfl rfl (Ld_call Try.func20 rfl (by kernel_rfl) rfl (MayV hC15.vw ⟨by omega, by omega, by omega, by omega, by omega, by omega⟩) ?_)))))
  rintro e W19 ⟨_, rfl, rfl, he19⟩
  refine ⟨_, rfl, ?_⟩
  replace hE := Ext.trans hE he19
  replace h_cps := h_cps.ext he19
  replace hB3 := hB3.ext he19
  replace hC15 := hC15.ext he19
  replace hB7 := hB7.ext he19
  replace hC17 := hC17.ext he19
  replace hC22 := hC22.ext he19
  replace hC27 := hC27.ext he19
  replace hC31 := hC31.ext he19
  replace hC35 := hC35.ext he19
  replace hO36 := hO36.ext he19
  have hs19 := he19.size
  refine RL_gq rfl rfl rfl (Yd_move rfl) (RL_gq rfl rfl rfl (Yd_eqlSB (b := []) rfl rfl hby1056_0 (by decide)) (RL_gq rfl rfl rfl (Yd_neqB Try.underlying4 rfl rfl) (RL_q rfl (Yd_pickF rfl rfl) (RL_nil (X_then (?_))))))
  refine C_no rfl (by rw [hz1056_0]; simp [cS_nil (chk_le _ _ _ _)]) (C_skip (X_block (X_then (C_region (RL_q rfl (Yd_move rfl) (RL_q rfl (Yd_add (r := 2) rfl rfl rfl) (RL_q rfl (Yd_assign rfl) (RL_nil (X_round (CR_sub (E' := [(8, .slice (some ⟨W12.heap.size, 0, none⟩) 5 5), (9, .int .i64 2)]) ⟨rfl, rfl, trivial⟩ (CR_succ (C_seq (C_seq (C_region (RL_q rfl (Yd_move rfl) (RL_q rfl (Yd_move rfl) (RL_q rfl (Yd_len Try.underlying28 rfl) (RL_q rfl (Yd_lss rfl rfl) (RL_nil (X_then (C_yes rfl rfl (C_skip (X_then (C_seq (C_block (C_seq (C_region (RL_q rfl (Yd_move rfl) (RL_q rfl (Yd_move rfl) (RL_q rfl (Yd_idxL Try.underlying28 (sz := 4) (by kernel_rfl) rfl rfl (by omega) (by omega)) (RL_q rfl (Yd_loadA (cs := [.int .i64 fr22, .int .i64 dp22, .int .i64 sc22, .slice AC22 nC22 cC22]) Try.underlying24 rfl (by kernel_rfl) rfl (Vw.lqAL hO36.vw (i := 2) (a := (⟨fr22, dp22, sc22, AC22, nC22, cC22⟩ : CfH)) rfl rfl rfl)) (RL_l rfl (Ld_call Try.func18 rfl (by kernel_rfl) rfl (CheckV hC22.vw ⟨by omega, by omega, by omega, by omega, by omega, by omega⟩) ?_)))))))))))))))))))))))))))))))))
  rintro e W20 ⟨z2048_0, y2048_1, rfl, ⟨hz2048_0, hby2048_0⟩, hy2048_1, he20⟩
  refine ⟨_, rfl, ?_⟩
  replace hE := Ext.trans hE he20
  replace h_cps := h_cps.ext he20
  replace hB3 := hB3.ext he20
  replace hC15 := hC15.ext he20
  replace hB7 := hB7.ext he20
  replace hC17 := hC17.ext he20
  replace hC22 := hC22.ext he20
  replace hC27 := hC27.ext he20
  replace hC31 := hC31.ext he20
  replace hC35 := hC35.ext he20
  replace hO36 := hO36.ext he20
  have hs20 := he20.size
  refine RL_q rfl (Yd_move rfl) (RL_q rfl (Yd_extract rfl rfl) (RL_q rfl (Yd_extract rfl rfl) (RL_q rfl (Yd_assign rfl) (RL_q rfl (Yd_assign rfl) (RL_nil (X_then (C_seq (C_region (RL_q rfl (Yd_move rfl) (RL_q rfl (Yd_move rfl) (RL_q rfl (Yd_idxL Try.underlying28 (sz := 4) (by kernel_rfl) rfl rfl (by omega) (by omega)) (RL_q rfl (Yd_loadA (cs := [.int .i64 fr22, .int .i64 dp22, .int .i64 sc22, .slice AC22 nC22 cC22]) Try.underlying24 rfl (by kernel_rfl) rfl (Vw.lqAL hO36.vw (i := 2) (a := (⟨fr22, dp22, sc22, AC22, nC22, cC22⟩ : CfH)) rfl rfl rfl)) (RL_l rfl (Ld_call Try.func19 rfl (by kernel_rfl) rfl (refCheckV hC22.vw ⟨by omega, by omega, by omega, by omega, by omega, by omega⟩) ?_))))))))))))))
  rintro e W21 ⟨z2056_0, y2056_1, rfl, ⟨hz2056_0, hby2056_0⟩, hy2056_1, he21⟩
  refine ⟨_, rfl, ?_⟩
  replace hE := Ext.trans hE he21
  replace h_cps := h_cps.ext he21
  replace hB3 := hB3.ext he21
  replace hC15 := hC15.ext he21
  replace hB7 := hB7.ext he21
  replace hC17 := hC17.ext he21
  replace hC22 := hC22.ext he21
  replace hC27 := hC27.ext he21
  replace hC31 := hC31.ext he21
  replace hC35 := hC35.ext he21
  replace hO36 := hO36.ext he21
  have hs21 := he21.size
  refine RL_q rfl (Yd_move rfl) (RL_q rfl (Yd_extract rfl rfl) (RL_q rfl (Yd_extract rfl rfl) (RL_q rfl (Yd_assign rfl) (RL_q rfl (Yd_assign rfl) (RL_nil (X_then (C_seq (C_region (RL_q rfl (Yd_move rfl) (RL_q rfl (Yd_move rfl) (RL_q rfl (Yd_neqSB rfl rfl hby2048_0 hby2056_0) (RL_q rfl (Yd_move rfl) (?_)))))))))))))
  refine RL_is (d := 62) (b' := false) rfl (by rw [hz2048_0, hz2056_0]; simp) ?_
  refine RL_gq rfl rfl rfl (Yd_move rfl) (RL_gq rfl rfl rfl (Yd_move rfl) (RL_gq rfl rfl rfl (Yd_neq rfl rfl) (RL_q rfl (Yd_pickF rfl rfl) (RL_q rfl (Yd_move rfl) (?_)))))
  refine RL_is (d := 67) (b' := false) rfl (by rw [hy2048_1, hy2056_1]; simp) ?_
  refine RL_gq rfl rfl rfl (Yd_move rfl) (RL_gq rfl rfl rfl (Yd_move rfl) (RL_gq rfl rfl rfl (Yd_idxL Try.underlying28 (sz := 4) (by kernel_rfl) rfl rfl (by omega) (by omega)) (RL_gq rfl rfl rfl (Yd_loadA (cs := [.int .i64 fr22, .int .i64 dp22, .int .i64 sc22, .slice AC22 nC22 cC22]) Try.underlying24 rfl (by kernel_rfl) rfl (Vw.lqAL hO36.vw (i := 2) (a := (⟨fr22, dp22, sc22, AC22, nC22, cC22⟩ : CfH)) rfl rfl rfl)) (RL_gl rfl rfl rfl (Ld_call Try.func20 rfl (by kernel_rfl) rfl (MayV hC22.vw ⟨by omega, by omega, by omega, by omega, by omega, by omega⟩) ?_)))))
  rintro e W22 ⟨_, rfl, rfl, he22⟩
  refine ⟨_, rfl, ?_⟩
  replace hE := Ext.trans hE he22
  replace h_cps := h_cps.ext he22
  replace hB3 := hB3.ext he22
  replace hC15 := hC15.ext he22
  replace hB7 := hB7.ext he22
  replace hC17 := hC17.ext he22
  replace hC22 := hC22.ext he22
  replace hC27 := hC27.ext he22
  replace hC31 := hC31.ext he22
  replace hC35 := hC35.ext he22
  replace hO36 := hO36.ext he22
  have hs22 := he22.size
  refine RL_gq rfl rfl rfl (Yd_move rfl) (RL_gq rfl rfl rfl (Yd_eqlSB (b := []) rfl rfl hby2056_0 (by decide)) (RL_gq rfl rfl rfl (Yd_neqB Try.underlying4 rfl rfl) (RL_q rfl (Yd_pickF rfl rfl) (RL_nil (X_then (?_))))))
  refine C_no rfl (by rw [hz2056_0]; simp [cS_nil (chk_le _ _ _ _)]) (C_skip (X_block (X_then (C_region (RL_q rfl (Yd_move rfl) (RL_q rfl (Yd_add (r := 3) rfl rfl rfl) (RL_q rfl (Yd_assign rfl) (RL_nil (X_round (CR_sub (E' := [(8, .slice (some ⟨W12.heap.size, 0, none⟩) 5 5), (9, .int .i64 3)]) ⟨rfl, rfl, trivial⟩ (CR_succ (C_seq (C_seq (C_region (RL_q rfl (Yd_move rfl) (RL_q rfl (Yd_move rfl) (RL_q rfl (Yd_len Try.underlying28 rfl) (RL_q rfl (Yd_lss rfl rfl) (RL_nil (X_then (C_yes rfl rfl (C_skip (X_then (C_seq (C_block (C_seq (C_region (RL_q rfl (Yd_move rfl) (RL_q rfl (Yd_move rfl) (RL_q rfl (Yd_idxL Try.underlying28 (sz := 4) (by kernel_rfl) rfl rfl (by omega) (by omega)) (RL_q rfl (Yd_loadA (cs := [.int .i64 fr27, .int .i64 dp27, .int .i64 sc27, .slice AC27 nC27 cC27]) Try.underlying24 rfl (by kernel_rfl) rfl (Vw.lqAL hO36.vw (i := 3) (a := (⟨fr27, dp27, sc27, AC27, nC27, cC27⟩ : CfH)) rfl rfl rfl)) (RL_l rfl (Ld_call Try.func18 rfl (by kernel_rfl) rfl (CheckV hC27.vw ⟨by omega, by omega, by omega, by omega, by omega, by omega⟩) ?_)))))))))))))))))))))))))))))))))
  rintro e W23 ⟨z3048_0, y3048_1, rfl, ⟨hz3048_0, hby3048_0⟩, hy3048_1, he23⟩
  refine ⟨_, rfl, ?_⟩
  replace hE := Ext.trans hE he23
  replace h_cps := h_cps.ext he23
  replace hB3 := hB3.ext he23
  replace hC15 := hC15.ext he23
  replace hB7 := hB7.ext he23
  replace hC17 := hC17.ext he23
  replace hC22 := hC22.ext he23
  replace hC27 := hC27.ext he23
  replace hC31 := hC31.ext he23
  replace hC35 := hC35.ext he23
  replace hO36 := hO36.ext he23
  have hs23 := he23.size
  refine RL_q rfl (Yd_move rfl) (RL_q rfl (Yd_extract rfl rfl) (RL_q rfl (Yd_extract rfl rfl) (RL_q rfl (Yd_assign rfl) (RL_q rfl (Yd_assign rfl) (RL_nil (X_then (C_seq (C_region (RL_q rfl (Yd_move rfl) (RL_q rfl (Yd_move rfl) (RL_q rfl (Yd_idxL Try.underlying28 (sz := 4) (by kernel_rfl) rfl rfl (by omega) (by omega)) (RL_q rfl (Yd_loadA (cs := [.int .i64 fr27, .int .i64 dp27, .int .i64 sc27, .slice AC27 nC27 cC27]) Try.underlying24 rfl (by kernel_rfl) rfl (Vw.lqAL hO36.vw (i := 3) (a := (⟨fr27, dp27, sc27, AC27, nC27, cC27⟩ : CfH)) rfl rfl rfl)) (RL_l rfl (Ld_call Try.func19 rfl (by kernel_rfl) rfl (refCheckV hC27.vw ⟨by omega, by omega, by omega, by omega, by omega, by omega⟩) ?_))))))))))))))
  rintro e W24 ⟨z3056_0, y3056_1, rfl, ⟨hz3056_0, hby3056_0⟩, hy3056_1, he24⟩
  refine ⟨_, rfl, ?_⟩
  replace hE := Ext.trans hE he24
  replace h_cps := h_cps.ext he24
  replace hB3 := hB3.ext he24
  replace hC15 := hC15.ext he24
  replace hB7 := hB7.ext he24
  replace hC17 := hC17.ext he24
  replace hC22 := hC22.ext he24
  replace hC27 := hC27.ext he24
  replace hC31 := hC31.ext he24
  replace hC35 := hC35.ext he24
  replace hO36 := hO36.ext he24
  have hs24 := he24.size
  refine RL_q rfl (Yd_move rfl) (RL_q rfl (Yd_extract rfl rfl) (RL_q rfl (Yd_extract rfl rfl) (RL_q rfl (Yd_assign rfl) (RL_q rfl (Yd_assign rfl) (RL_nil (X_then (C_seq (C_region (RL_q rfl (Yd_move rfl) (RL_q rfl (Yd_move rfl) (RL_q rfl (Yd_neqSB rfl rfl hby3048_0 hby3056_0) (RL_q rfl (Yd_move rfl) (?_)))))))))))))
  refine RL_is (d := 62) (b' := false) rfl (by rw [hz3048_0, hz3056_0]; simp) ?_
  refine RL_gq rfl rfl rfl (Yd_move rfl) (RL_gq rfl rfl rfl (Yd_move rfl) (RL_gq rfl rfl rfl (Yd_neq rfl rfl) (RL_q rfl (Yd_pickF rfl rfl) (RL_q rfl (Yd_move rfl) (?_)))))
  refine RL_is (d := 67) (b' := false) rfl (by rw [hy3048_1, hy3056_1]; simp) ?_
  refine RL_gq rfl rfl rfl (Yd_move rfl) (RL_gq rfl rfl rfl (Yd_move rfl) (RL_gq rfl rfl rfl (Yd_idxL Try.underlying28 (sz := 4) (by kernel_rfl) rfl rfl (by omega) (by omega)) (RL_gq rfl rfl rfl (Yd_loadA (cs := [.int .i64 fr27, .int .i64 dp27, .int .i64 sc27, .slice AC27 nC27 cC27]) Try.underlying24 rfl (by kernel_rfl) rfl (Vw.lqAL hO36.vw (i := 3) (a := (⟨fr27, dp27, sc27, AC27, nC27, cC27⟩ : CfH)) rfl rfl rfl)) (RL_gl rfl rfl rfl (Ld_call Try.func20 rfl (by kernel_rfl) rfl (MayV hC27.vw ⟨by omega, by omega, by omega, by omega, by omega, by omega⟩) ?_)))))
  rintro e W25 ⟨_, rfl, rfl, he25⟩
  refine ⟨_, rfl, ?_⟩
  replace hE := Ext.trans hE he25
  replace h_cps := h_cps.ext he25
  replace hB3 := hB3.ext he25
  replace hC15 := hC15.ext he25
  replace hB7 := hB7.ext he25
  replace hC17 := hC17.ext he25
  replace hC22 := hC22.ext he25
  replace hC27 := hC27.ext he25
  replace hC31 := hC31.ext he25
  replace hC35 := hC35.ext he25
  replace hO36 := hO36.ext he25
  have hs25 := he25.size
  refine RL_gq rfl rfl rfl (Yd_move rfl) (RL_gq rfl rfl rfl (Yd_eqlSB (b := []) rfl rfl hby3056_0 (by decide)) (RL_gq rfl rfl rfl (Yd_neqB Try.underlying4 rfl rfl) (RL_q rfl (Yd_pickF rfl rfl) (RL_nil (X_then (?_))))))
  refine C_no rfl (by rw [hz3056_0]; simp [cS_nil (chk_le _ _ _ _)]) (C_skip (X_block (X_then (C_region (RL_q rfl (Yd_move rfl) (RL_q rfl (Yd_add (r := 4) rfl rfl rfl) (RL_q rfl (Yd_assign rfl) (RL_nil (X_round (CR_sub (E' := [(8, .slice (some ⟨W12.heap.size, 0, none⟩) 5 5), (9, .int .i64 4)]) ⟨rfl, rfl, trivial⟩ (CR_succ (C_seq (C_seq (C_region (RL_q rfl (Yd_move rfl) (RL_q rfl (Yd_move rfl) (RL_q rfl (Yd_len Try.underlying28 rfl) (RL_q rfl (Yd_lss rfl rfl) (RL_nil (X_then (C_yes rfl rfl (C_skip (X_then (C_seq (C_block (C_seq (C_region (RL_q rfl (Yd_move rfl) (RL_q rfl (Yd_move rfl) (RL_q rfl (Yd_idxL Try.underlying28 (sz := 4) (by kernel_rfl) rfl rfl (by omega) (by omega)) (RL_q rfl (Yd_loadA (cs := [.int .i64 fr35, .int .i64 dp35, .int .i64 sc35, .slice AC35 nC35 cC35]) Try.underlying24 rfl (by kernel_rfl) rfl (Vw.lqAL hO36.vw (i := 4) (a := (⟨fr35, dp35, sc35, AC35, nC35, cC35⟩ : CfH)) rfl rfl rfl)) (RL_l rfl (Ld_call Try.func18 rfl (by kernel_rfl) rfl (CheckV hC35.vw ⟨by omega, by omega, by omega, by omega, by omega, by omega⟩) ?_)))))))))))))))))))))))))))))))))
  rintro e W26 ⟨z4048_0, y4048_1, rfl, ⟨hz4048_0, hby4048_0⟩, hy4048_1, he26⟩
  refine ⟨_, rfl, ?_⟩
  replace hE := Ext.trans hE he26
  replace h_cps := h_cps.ext he26
  replace hB3 := hB3.ext he26
  replace hC15 := hC15.ext he26
  replace hB7 := hB7.ext he26
  replace hC17 := hC17.ext he26
  replace hC22 := hC22.ext he26
  replace hC27 := hC27.ext he26
  replace hC31 := hC31.ext he26
  replace hC35 := hC35.ext he26
  replace hO36 := hO36.ext he26
  have hs26 := he26.size
  refine RL_q rfl (Yd_move rfl) (RL_q rfl (Yd_extract rfl rfl) (RL_q rfl (Yd_extract rfl rfl) (RL_q rfl (Yd_assign rfl) (RL_q rfl (Yd_assign rfl) (RL_nil (X_then (C_seq (C_region (RL_q rfl (Yd_move rfl) (RL_q rfl (Yd_move rfl) (RL_q rfl (Yd_idxL Try.underlying28 (sz := 4) (by kernel_rfl) rfl rfl (by omega) (by omega)) (RL_q rfl (Yd_loadA (cs := [.int .i64 fr35, .int .i64 dp35, .int .i64 sc35, .slice AC35 nC35 cC35]) Try.underlying24 rfl (by kernel_rfl) rfl (Vw.lqAL hO36.vw (i := 4) (a := (⟨fr35, dp35, sc35, AC35, nC35, cC35⟩ : CfH)) rfl rfl rfl)) (RL_l rfl (Ld_call Try.func19 rfl (by kernel_rfl) rfl (refCheckV hC35.vw ⟨by omega, by omega, by omega, by omega, by omega, by omega⟩) ?_))))))))))))))
  rintro e W27 ⟨z4056_0, y4056_1, rfl, ⟨hz4056_0, hby4056_0⟩, hy4056_1, he27⟩
  refine ⟨_, rfl, ?_⟩
  replace hE := Ext.trans hE he27
  replace h_cps := h_cps.ext he27
  replace hB3 := hB3.ext he27
  replace hC15 := hC15.ext he27
  replace hB7 := hB7.ext he27
  replace hC17 := hC17.ext he27
  replace hC22 := hC22.ext he27
  replace hC27 := hC27.ext he27
  replace hC31 := hC31.ext he27
  replace hC35 := hC35.ext he27
  replace hO36 := hO36.ext he27
  have hs27 := he27.size
  refine RL_q rfl (Yd_move rfl) (RL_q rfl (Yd_extract rfl rfl) (RL_q rfl (Yd_extract rfl rfl) (RL_q rfl (Yd_assign rfl) (RL_q rfl (Yd_assign rfl) (RL_nil (X_then (C_seq (C_region (RL_q rfl (Yd_move rfl) (RL_q rfl (Yd_move rfl) (RL_q rfl (Yd_neqSB rfl rfl hby4048_0 hby4056_0) (RL_q rfl (Yd_move rfl) (?_)))))))))))))
  refine RL_is (d := 62) (b' := false) rfl (by rw [hz4048_0, hz4056_0]; simp) ?_
  refine RL_gq rfl rfl rfl (Yd_move rfl) (RL_gq rfl rfl rfl (Yd_move rfl) (RL_gq rfl rfl rfl (Yd_neq rfl rfl) (RL_q rfl (Yd_pickF rfl rfl) (RL_q rfl (Yd_move rfl) (?_)))))
  refine RL_is (d := 67) (b' := false) rfl (by rw [hy4048_1, hy4056_1]; simp) ?_
  refine RL_gq rfl rfl rfl (Yd_move rfl) (RL_gq rfl rfl rfl (Yd_move rfl) (RL_gq rfl rfl rfl (Yd_idxL Try.underlying28 (sz := 4) (by kernel_rfl) rfl rfl (by omega) (by omega)) (RL_gq rfl rfl rfl (Yd_loadA (cs := [.int .i64 fr35, .int .i64 dp35, .int .i64 sc35, .slice AC35 nC35 cC35]) Try.underlying24 rfl (by kernel_rfl) rfl (Vw.lqAL hO36.vw (i := 4) (a := (⟨fr35, dp35, sc35, AC35, nC35, cC35⟩ : CfH)) rfl rfl rfl)) (RL_gl rfl rfl rfl (Ld_call Try.func20 rfl (by kernel_rfl) rfl (MayV hC35.vw ⟨by omega, by omega, by omega, by omega, by omega, by omega⟩) ?_)))))
  rintro e W28 ⟨_, rfl, rfl, he28⟩
  refine ⟨_, rfl, ?_⟩
  replace hE := Ext.trans hE he28
  replace h_cps := h_cps.ext he28
  replace hB3 := hB3.ext he28
  replace hC15 := hC15.ext he28
  replace hB7 := hB7.ext he28
  replace hC17 := hC17.ext he28
  replace hC22 := hC22.ext he28
  replace hC27 := hC27.ext he28
  replace hC31 := hC31.ext he28
  replace hC35 := hC35.ext he28
  replace hO36 := hO36.ext he28
  have hs28 := he28.size
  refine RL_gq rfl rfl rfl (Yd_move rfl) (RL_gq rfl rfl rfl (Yd_eqlSB (b := []) rfl rfl hby4056_0 (by decide)) (RL_gq rfl rfl rfl (Yd_neqB Try.underlying4 rfl rfl) (RL_q rfl (Yd_pickF rfl rfl) (RL_nil (X_then (?_))))))
  refine C_no rfl (by rw [hz4056_0]; simp [cS_nil (chk_le _ _ _ _)]) (C_skip (X_block (X_then (C_region (RL_q rfl (Yd_move rfl) (RL_q rfl (Yd_add (r := 5) rfl rfl rfl) (RL_q rfl (Yd_assign rfl) (RL_nil (X_round (CR_sub (E' := [(8, .slice (some ⟨W12.heap.size, 0, none⟩) 5 5), (9, .int .i64 5)]) ⟨rfl, rfl, trivial⟩ (CR_succ (C_seq (C_seq (C_region (RL_q rfl (Yd_move rfl) (RL_q rfl (Yd_move rfl) (RL_q rfl (Yd_len Try.underlying28 rfl) (RL_q rfl (Yd_lss rfl rfl) (RL_nil (X_then (C_no rfl rfl (C_exit (X_thenE (X_thenE (X_blockE (X_then (C_seq (C_region (RL_l rfl (Ld_call Try.func21 rfl (by kernel_rfl) rfl (lives05V ) ?_))))))))))))))))))))))))))))))
  rintro e W29 ⟨_, rfl, rfl, he29⟩
  refine ⟨_, rfl, ?_⟩
  replace hE := Ext.trans hE he29
  replace h_cps := h_cps.ext he29
  replace hB3 := hB3.ext he29
  replace hC15 := hC15.ext he29
  replace hB7 := hB7.ext he29
  replace hC17 := hC17.ext he29
  replace hC22 := hC22.ext he29
  replace hC27 := hC27.ext he29
  replace hC31 := hC31.ext he29
  replace hC35 := hC35.ext he29
  replace hO36 := hO36.ext he29
  have hs29 := he29.size
  refine RL_q rfl (Yd_assign rfl) (RL_nil (X_then (C_ret (X_ret1 rfl rfl ?_))))
  refine ⟨_, rfl, ?_, hE⟩
  all_goals (first | rfl | omega | simp)
end Go.Proofs.AL
