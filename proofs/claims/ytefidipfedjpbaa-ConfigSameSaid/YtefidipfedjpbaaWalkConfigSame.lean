import Derived.Test.YtefidipfedjpbaaCong
set_option linter.unusedVariables false
set_option linter.unusedSimpArgs false
namespace Go.Proofs.AL
open Go.RowKit
set_option maxHeartbeats 8000000 in
theorem ConfigSameV {afr adp asc : Int} {lo_aps B_aps : Nat} {A_aps : Option Addr} {n_aps c_aps : Nat} {aps : List Pt} {bfr bdp bsc : Int} {lo_bps B_bps : Nat} {A_bps : Option Addr} {n_bps c_bps : Nat} {bps : List Pt} {i : Int} {v : Int} {w : World}  (h_aps : Vw tP w lo_aps B_aps A_aps n_aps c_aps aps) (b_a : -9223372036854775808 ≤ afr ∧ afr ≤ 9223372036854775807 ∧ -9223372036854775808 ≤ adp ∧ adp ≤ 9223372036854775807 ∧ -9223372036854775808 ≤ asc ∧ asc ≤ 9223372036854775807) (h_bps : Vw tP w lo_bps B_bps A_bps n_bps c_bps bps) (b_b : -9223372036854775808 ≤ bfr ∧ bfr ≤ 9223372036854775807 ∧ -9223372036854775808 ≤ bdp ∧ bdp ≤ 9223372036854775807 ∧ -9223372036854775808 ≤ bsc ∧ bsc ≤ 9223372036854775807) (b_i : -9223372036854775808 ≤ i ∧ i ≤ 9223372036854775807) (b_v : -9223372036854775808 ≤ v ∧ v ≤ 9223372036854775807) :
    Calls Try.prog 8 #[.agg #[.int .i64 afr, .int .i64 adp, .int .i64 asc, .slice A_aps n_aps c_aps], .agg #[.int .i64 bfr, .int .i64 bdp, .int .i64 bsc, .slice A_bps n_bps c_bps], .int .i64 i, .int .i64 v] w fun e w' => ∃ (x0 : Bool), e = .returned (.bool x0) ∧ x0 = (true) ∧ Ext w w' := by
  have hE := Ext.refl w
  replace h_aps := h_aps.fit
  have hn_aps := h_aps.ln
  have hc_aps := h_aps.cap
  have hm_aps := h_aps.max
  simp only [maxLen] at hm_aps
  replace h_bps := h_bps.fit
  have hn_bps := h_bps.ln
  have hc_bps := h_bps.cap
  have hm_bps := h_bps.max
  simp only [maxLen] at hm_bps
  refine calls_of (l := [.agg #[.int .i64 afr, .int .i64 adp, .int .i64 asc, .slice A_aps n_aps c_aps], .agg #[.int .i64 bfr, .int .i64 bdp, .int .i64 bsc, .slice A_bps n_bps c_bps], .int .i64 i, .int .i64 v]) (N := 80) Try.func8 rfl rfl rfl ?_
  refine C_seq (C_region (RL_l rfl (Ld_box rfl ?_)))
  have hg_4 := hE.size
  intro W1 he1 hz1 hB4
  replace hE := Ext.trans hE he1
  replace h_aps := h_aps.ext he1
  replace h_bps := h_bps.ext he1
  refine RL_l rfl (Ld_box rfl ?_)
  have hg_5 := hE.size
  intro W2 he2 hz2 hB5
  replace hE := Ext.trans hE he2
  replace h_aps := h_aps.ext he2
  replace h_bps := h_bps.ext he2
  replace hB4 := hB4.ext he2
  refine RL_q rfl (Yd_assign rfl) (RL_nil (X_then (C_seq (C_region (RL_q rfl (Yd_loadA Try.underlying24 rfl (by kernel_rfl) rfl (ldBA hB4)) (RL_l rfl (Ld_call Try.func14 rfl (by kernel_rfl) rfl (GoodV h_aps ⟨by omega, by omega, by omega, by omega, by omega, by omega⟩) ?_)))))))
  rintro e W3 ⟨fr16, dp16, sc16, AC16, nC16, cC16, pC16, rfl, hp16, hC16, he3⟩
  refine ⟨_, rfl, ?_⟩
  replace hE := Ext.trans hE he3
  replace h_aps := h_aps.ext he3
  replace h_bps := h_bps.ext he3
  replace hB4 := hB4.ext he3
  replace hB5 := hB5.ext he3
  have hs3 := he3.size
  have hnC16 := hC16.ln
  have hcC16 := hC16.cap
  have hfb16 := hp16.frb
  have hdb16 := hp16.hdp
  have hsb16 := hp16.hsc
  have hlb16 := hp16.hln
  refine RL_l rfl (Ld_alloc (v := (.agg #[(.int .i64 0), (.int .i64 0), (.int .i64 0), (.slice none 0 0)])) (by kernel_rfl) ?_)
  have hg_9 := hE.size
  intro W4 he4 hz4 hB9
  replace hE := Ext.trans hE he4
  replace h_aps := h_aps.ext he4
  replace h_bps := h_bps.ext he4
  replace hB4 := hB4.ext he4
  replace hB5 := hB5.ext he4
  replace hC16 := hC16.ext he4
  refine RL_l0 (Ld_store (by kernel_rfl) rfl rfl hB9 (Nat.le_of_ble_eq_true rfl) (by simp [cellsL, Value.cells, Value.oneCell']) ?_)
  intro W5 hu5 hz5 hB9
  have hk5 := Kp.ofb hu5
  have hs5 := hk5.size
  replace hE := Ext.kp hE hk5 (fun k hk => by first | omega | (have hk := hk; dsimp only at hk; omega))
  replace h_aps := h_aps.kp hk5 (fun k hk => by first | omega | (have hk := hk; dsimp only at hk; omega))
  replace h_bps := h_bps.kp hk5 (fun k hk => by first | omega | (have hk := hk; dsimp only at hk; omega))
  replace hB4 := hB4.kp hk5 (fun hk => by first | omega | (have hk := hk; dsimp only at hk; omega))
  replace hB5 := hB5.kp hk5 (fun hk => by first | omega | (have hk := hk; dsimp only at hk; omega))
  replace hC16 := hC16.kp hk5 (fun k hk => by first | omega | (have hk := hk; dsimp only at hk; omega))
  refine RL_nil (X_then (C_seq (C_region (RL_q rfl (Yd_loadA Try.underlying24 rfl (by kernel_rfl) rfl (ldBA hB5)) (RL_l rfl (Ld_call Try.func14 rfl (by kernel_rfl) rfl (GoodV h_bps ⟨by omega, by omega, by omega, by omega, by omega, by omega⟩) ?_))))))
  rintro e W6 ⟨fr18, dp18, sc18, AC18, nC18, cC18, pC18, rfl, hp18, hC18, he6⟩
  refine ⟨_, rfl, ?_⟩
  replace hE := Ext.trans hE he6
  replace h_aps := h_aps.ext he6
  replace h_bps := h_bps.ext he6
  replace hB4 := hB4.ext he6
  replace hB5 := hB5.ext he6
  replace hC16 := hC16.ext he6
  replace hB9 := hB9.ext he6
  have hs6 := he6.size
  have hnC18 := hC18.ln
  have hcC18 := hC18.cap
  have hfb18 := hp18.frb
  have hdb18 := hp18.hdp
  have hsb18 := hp18.hsc
  have hlb18 := hp18.hln
  refine RL_l rfl (Ld_alloc (v := (.agg #[(.int .i64 0), (.int .i64 0), (.int .i64 0), (.slice none 0 0)])) (by kernel_rfl) ?_)
  have hg_10 := hE.size
  intro W7 he7 hz7 hB10
  replace hE := Ext.trans hE he7
  replace h_aps := h_aps.ext he7
  replace h_bps := h_bps.ext he7
  replace hB4 := hB4.ext he7
  replace hB5 := hB5.ext he7
  replace hC16 := hC16.ext he7
  replace hB9 := hB9.ext he7
  replace hC18 := hC18.ext he7
  refine RL_l0 (Ld_store (by kernel_rfl) rfl rfl hB10 (Nat.le_of_ble_eq_true rfl) (by simp [cellsL, Value.cells, Value.oneCell']) ?_)
  intro W8 hu8 hz8 hB10
  have hk8 := Kp.ofb hu8
  have hs8 := hk8.size
  replace hE := Ext.kp hE hk8 (fun k hk => by first | omega | (have hk := hk; dsimp only at hk; omega))
  replace h_aps := h_aps.kp hk8 (fun k hk => by first | omega | (have hk := hk; dsimp only at hk; omega))
  replace h_bps := h_bps.kp hk8 (fun k hk => by first | omega | (have hk := hk; dsimp only at hk; omega))
  replace hB4 := hB4.kp hk8 (fun hk => by first | omega | (have hk := hk; dsimp only at hk; omega))
  replace hB5 := hB5.kp hk8 (fun hk => by first | omega | (have hk := hk; dsimp only at hk; omega))
  replace hC16 := hC16.kp hk8 (fun k hk => by first | omega | (have hk := hk; dsimp only at hk; omega))
  replace hB9 := hB9.kp hk8 (fun hk => by first | omega | (have hk := hk; dsimp only at hk; omega))
  replace hC18 := hC18.kp hk8 (fun k hk => by first | omega | (have hk := hk; dsimp only at hk; omega))
  refine RL_nil (X_then (C_seq (?_)))
  refine C_regionD (NoB) (l := [(0, true), (1, true), (2, true), (4, true), (5, true), (6, true), (3, false), (7, false), (8, false), (9, true)]) (by kernel_rfl) (by kernel_rfl) rfl (by kernel_rfl) (fun _ _ d _ _ h => by cases d <;> exact h) ?_
  intro W9 he9 hh9
  replace hE := Ext.trans hE he9
  replace h_aps := h_aps.ext he9
  replace h_bps := h_bps.ext he9
  replace hB4 := hB4.ext he9
  replace hB5 := hB5.ext he9
  replace hC16 := hC16.ext he9
  replace hB9 := hB9.ext he9
  replace hC18 := hC18.ext he9
  replace hB10 := hB10.ext he9
  have hs9 := he9.size
  refine RO_q rfl rfl (Yd_loadA Try.underlying24 rfl (by kernel_rfl) rfl (fun W hW => (ldBA hB9) W hW.ext)) (RO_q rfl rfl (Yd_loadA Try.underlying24 rfl (by kernel_rfl) rfl (fun W hW => (ldBA hB10) W hW.ext)) (RO_q rfl rfl (Yd_loadA Try.underlying24 rfl (by kernel_rfl) rfl (fun W hW => (ldBA hB4) W hW.ext)) (RO_q rfl rfl (Yd_loadA Try.underlying24 rfl (by kernel_rfl) rfl (fun W hW => (ldBA hB9) W hW.ext)) (RO_q rfl rfl (Yd_move rfl) (RO_q rfl rfl (Yd_move rfl) (RO_l rfl rfl (Ld_call Try.func15 rfl (by kernel_rfl) rfl (FewV h_aps ⟨by omega, by omega, by omega, by omega, by omega, by omega⟩) ?_)))))))
  rintro e W10 ⟨fr22, dp22, sc22, AC22, nC22, cC22, pC22, rfl, hp22, hC22, he10⟩
  refine ⟨_, rfl, ?_⟩
  refine ⟨Kp.of_ext he10, ?_⟩
  replace hE := Ext.trans hE he10
  replace h_aps := h_aps.ext he10
  replace h_bps := h_bps.ext he10
  replace hB4 := hB4.ext he10
  replace hB5 := hB5.ext he10
  replace hC16 := hC16.ext he10
  replace hB9 := hB9.ext he10
  replace hC18 := hC18.ext he10
  replace hB10 := hB10.ext he10
  have hs10 := he10.size
  have hnC22 := hC22.ln
  have hcC22 := hC22.cap
  refine RO_l rfl rfl (Ld_call Try.func16 rfl (by kernel_rfl) rfl (oddV hC16.vw ⟨by omega, by omega, by omega, by omega, by omega, by omega⟩ ⟨by first | omega | (dsimp only; omega), by first | omega | (dsimp only; omega)⟩ ⟨by first | omega | (dsimp only; omega), by first | omega | (dsimp only; omega)⟩ (by omega)) ?_)
  rintro e W11 ⟨fr26, dp26, sc26, AC26, nC26, cC26, pC26, rfl, hp26, hC26, he11⟩
  refine ⟨_, rfl, ?_⟩
  refine ⟨Kp.of_ext he11, ?_⟩
  replace hE := Ext.trans hE he11
  replace h_aps := h_aps.ext he11
  replace h_bps := h_bps.ext he11
  replace hB4 := hB4.ext he11
  replace hB5 := hB5.ext he11
  replace hC16 := hC16.ext he11
  replace hB9 := hB9.ext he11
  replace hC18 := hC18.ext he11
  replace hB10 := hB10.ext he11
  replace hC22 := hC22.ext he11
  have hs11 := he11.size
  have hnC26 := hC26.ln
  have hcC26 := hC26.cap
  refine RO_l rfl rfl (Ld_lit Try.underlying28 rfl (lit_flat Try.underlying28 Try.elt24 rfl rfl ⟨rfl, by decide⟩) ?_)
  intro W12 he12 hz12 hL27
  refine ⟨Kp.of_ext he12, ?_⟩
  replace hE := Ext.trans hE he12
  replace h_aps := h_aps.ext he12
  replace h_bps := h_bps.ext he12
  replace hB4 := hB4.ext he12
  replace hB5 := hB5.ext he12
  replace hC16 := hC16.ext he12
  replace hB9 := hB9.ext he12
  replace hC18 := hC18.ext he12
  replace hB10 := hB10.ext he12
  replace hC22 := hC22.ext he12
  replace hC26 := hC26.ext he12
  have hO27 := Ow.of_blk (T := tCf) (l := [(⟨fr16, dp16, sc16, AC16, nC16, cC16⟩ : CfH), (⟨fr18, dp18, sc18, AC18, nC18, cC18⟩ : CfH), (⟨fr22, dp22, sc22, AC22, nC22, cC22⟩ : CfH), (⟨fr26, dp26, sc26, AC26, nC26, cC26⟩ : CfH)]) hL27 rfl (n := 4) rfl (by simp [maxLen]) (okc trivial (okc trivial (okc trivial (okc trivial okn))))
  clear hL27
  refine RO_q rfl rfl (Yd_assign rfl) (RO_nil (X_then (C_seq (C_seq (C_region (RL_q rfl (Yd_assign rfl) (RL_nil (X_then (C_block (C_rounds 5 (CR_succ (C_seq (C_seq (C_region (RL_q rfl (Yd_move rfl) (RL_q rfl (Yd_lss rfl rfl) (RL_nil (X_then (C_yes rfl rfl (C_skip (X_then (C_seq (C_block (C_seq (C_region (RL_q rfl (Yd_assign rfl) (RL_nil (X_then (C_block (C_rounds 5 (CR_succ (C_seq (C_seq (C_region (RL_q rfl (Yd_move rfl) (RL_q rfl (Yd_lss rfl rfl) (RL_nil (X_then (C_yes rfl rfl (C_skip (X_then (C_seq (C_block (C_seq (?_)))))))))))))))))))))))))))))))))))))))))))))
  refine C_regionD (NoB) (l := [(0, true), (1, true), (2, true), (3, true), (4, true), (5, true), (6, true), (7, true), (9, true), (10, true), (11, true), (12, true), (13, true), (14, true), (15, true), (16, true), (8, false), (17, false), (18, true)]) (by kernel_rfl) (by kernel_rfl) rfl (by kernel_rfl) (fun _ _ d _ _ h => by cases d <;> exact h) ?_
  intro W13 he13 hh13
  replace hE := Ext.trans hE he13
  replace h_aps := h_aps.ext he13
  replace h_bps := h_bps.ext he13
  replace hB4 := hB4.ext he13
  replace hB5 := hB5.ext he13
  replace hC16 := hC16.ext he13
  replace hB9 := hB9.ext he13
  replace hC18 := hC18.ext he13
  replace hB10 := hB10.ext he13
  replace hC22 := hC22.ext he13
  replace hC26 := hC26.ext he13
  replace hO27 := hO27.ext he13
  have hs13 := he13.size
  refine RO_q rfl rfl (Yd_move rfl) (RO_q rfl rfl (Yd_move rfl) (RO_q rfl rfl (Yd_idxL Try.underlying28 (sz := 4) (by kernel_rfl) rfl rfl (by omega) (by omega)) (RO_q rfl rfl (Yd_loadA (cs := [.int .i64 fr16, .int .i64 dp16, .int .i64 sc16, .slice AC16 nC16 cC16]) Try.underlying24 rfl (by kernel_rfl) rfl (fun W hW => (Vw.lqAL hO27.vw (i := 0) (a := (⟨fr16, dp16, sc16, AC16, nC16, cC16⟩ : CfH)) rfl rfl rfl) W hW.ext)) (RO_q rfl rfl (Yd_move rfl) (RO_q rfl rfl (Yd_move rfl) (RO_q rfl rfl (Yd_idxL Try.underlying28 (sz := 4) (by kernel_rfl) rfl rfl (by omega) (by omega)) (RO_q rfl rfl (Yd_loadA (cs := [.int .i64 fr16, .int .i64 dp16, .int .i64 sc16, .slice AC16 nC16 cC16]) Try.underlying24 rfl (by kernel_rfl) rfl (fun W hW => (Vw.lqAL hO27.vw (i := 0) (a := (⟨fr16, dp16, sc16, AC16, nC16, cC16⟩ : CfH)) rfl rfl rfl) W hW.ext)) (RO_q rfl rfl (Yd_move rfl) (RO_q rfl rfl (Yd_move rfl) (RO_q rfl rfl (Yd_idxL Try.underlying28 (sz := 4) (by kernel_rfl) rfl rfl (by omega) (by omega)) (RO_q rfl rfl (Yd_loadA (cs := [.int .i64 fr16, .int .i64 dp16, .int .i64 sc16, .slice AC16 nC16 cC16]) Try.underlying24 rfl (by kernel_rfl) rfl (fun W hW => (Vw.lqAL hO27.vw (i := 0) (a := (⟨fr16, dp16, sc16, AC16, nC16, cC16⟩ : CfH)) rfl rfl rfl) W hW.ext)) (RO_q rfl rfl (Yd_move rfl) (RO_q rfl rfl (Yd_move rfl) (RO_q rfl rfl (Yd_idxL Try.underlying28 (sz := 4) (by kernel_rfl) rfl rfl (by omega) (by omega)) (RO_q rfl rfl (Yd_loadA (cs := [.int .i64 fr16, .int .i64 dp16, .int .i64 sc16, .slice AC16 nC16 cC16]) Try.underlying24 rfl (by kernel_rfl) rfl (fun W hW => (Vw.lqAL hO27.vw (i := 0) (a := (⟨fr16, dp16, sc16, AC16, nC16, cC16⟩ : CfH)) rfl rfl rfl) W hW.ext)) (RO_l rfl rfl (Ld_call Try.func25 rfl (by kernel_rfl) rfl (SameV hC16.vw ⟨by omega, by omega, by omega, by omega, by omega, by omega⟩ hC16.vw ⟨by omega, by omega, by omega, by omega, by omega, by omega⟩) ?_)))))))))))))))))
  rintro e W14 ⟨_, rfl, rfl, he14⟩
  refine ⟨_, rfl, ?_⟩
  refine ⟨Kp.of_ext he14, ?_⟩
  replace hE := Ext.trans hE he14
  replace h_aps := h_aps.ext he14
  replace h_bps := h_bps.ext he14
  replace hB4 := hB4.ext he14
  replace hB5 := hB5.ext he14
  replace hC16 := hC16.ext he14
  replace hB9 := hB9.ext he14
  replace hC18 := hC18.ext he14
  replace hB10 := hB10.ext he14
  replace hC22 := hC22.ext he14
  replace hC26 := hC26.ext he14
  replace hO27 := hO27.ext he14
  have hs14 := he14.size
  refine RO_l rfl rfl (Ld_call Try.func26 rfl (by kernel_rfl) rfl (refSameV hC16.vw ⟨by omega, by omega, by omega, by omega, by omega, by omega⟩ hC16.vw ⟨by omega, by omega, by omega, by omega, by omega, by omega⟩) ?_)
  rintro e W15 ⟨_, rfl, rfl, he15⟩
  refine ⟨_, rfl, ?_⟩
  refine ⟨Kp.of_ext he15, ?_⟩
  replace hE := Ext.trans hE he15
  replace h_aps := h_aps.ext he15
  replace h_bps := h_bps.ext he15
  replace hB4 := hB4.ext he15
  replace hB5 := hB5.ext he15
  replace hC16 := hC16.ext he15
  replace hB9 := hB9.ext he15
  replace hC18 := hC18.ext he15
  replace hB10 := hB10.ext he15
  replace hC22 := hC22.ext he15
  replace hC26 := hC26.ext he15
  replace hO27 := hO27.ext he15
  have hs15 := he15.size
  refine RO_q rfl rfl (Yd_neqB Try.underlying4 rfl rfl) (RO_nil (X_then (?_)))
  refine C_no rfl (by simp) (C_skip (X_block (X_then (C_region (RL_q rfl (Yd_move rfl) (RL_q rfl (Yd_add (r := 1) rfl rfl rfl) (RL_q rfl (Yd_assign rfl) (RL_nil (X_round (CR_sub (E' := [(9, .pointer (some ⟨W3.heap.size, 0, none⟩)), (11, .slice (some ⟨W11.heap.size, 0, none⟩) 4 4), (12, .int .i64 0), (13, .int .i64 1), (28, .int .i64 0), (29, .bool true)]) ⟨rfl, rfl, rfl, rfl, rfl, rfl, trivial⟩ (CR_succ (C_seq (C_seq (C_region (RL_q rfl (Yd_move rfl) (RL_q rfl (Yd_lss rfl rfl) (RL_nil (X_then (C_yes rfl rfl (C_skip (X_then (C_seq (C_block (C_seq (?_)))))))))))))))))))))))))
  refine C_regionD (NoB) (l := [(0, true), (1, true), (2, true), (3, true), (4, true), (5, true), (6, true), (7, true), (9, true), (10, true), (11, true), (12, true), (13, true), (14, true), (15, true), (16, true), (8, false), (17, false), (18, true)]) (by kernel_rfl) (by kernel_rfl) rfl (by kernel_rfl) (fun _ _ d _ _ h => by cases d <;> exact h) ?_
  intro W16 he16 hh16
  replace hE := Ext.trans hE he16
  replace h_aps := h_aps.ext he16
  replace h_bps := h_bps.ext he16
  replace hB4 := hB4.ext he16
  replace hB5 := hB5.ext he16
  replace hC16 := hC16.ext he16
  replace hB9 := hB9.ext he16
  replace hC18 := hC18.ext he16
  replace hB10 := hB10.ext he16
  replace hC22 := hC22.ext he16
  replace hC26 := hC26.ext he16
  replace hO27 := hO27.ext he16
  have hs16 := he16.size
  refine RO_q rfl rfl (Yd_move rfl) (RO_q rfl rfl (Yd_move rfl) (RO_q rfl rfl (Yd_idxL Try.underlying28 (sz := 4) (by kernel_rfl) rfl rfl (by omega) (by omega)) (RO_q rfl rfl (Yd_loadA (cs := [.int .i64 fr16, .int .i64 dp16, .int .i64 sc16, .slice AC16 nC16 cC16]) Try.underlying24 rfl (by kernel_rfl) rfl (fun W hW => (Vw.lqAL hO27.vw (i := 0) (a := (⟨fr16, dp16, sc16, AC16, nC16, cC16⟩ : CfH)) rfl rfl rfl) W hW.ext)) (RO_q rfl rfl (Yd_move rfl) (RO_q rfl rfl (Yd_move rfl) (RO_q rfl rfl (Yd_idxL Try.underlying28 (sz := 4) (by kernel_rfl) rfl rfl (by omega) (by omega)) (RO_q rfl rfl (Yd_loadA (cs := [.int .i64 fr18, .int .i64 dp18, .int .i64 sc18, .slice AC18 nC18 cC18]) Try.underlying24 rfl (by kernel_rfl) rfl (fun W hW => (Vw.lqAL hO27.vw (i := 1) (a := (⟨fr18, dp18, sc18, AC18, nC18, cC18⟩ : CfH)) rfl rfl rfl) W hW.ext)) (RO_q rfl rfl (Yd_move rfl) (RO_q rfl rfl (Yd_move rfl) (RO_q rfl rfl (Yd_idxL Try.underlying28 (sz := 4) (by kernel_rfl) rfl rfl (by omega) (by omega)) (RO_q rfl rfl (Yd_loadA (cs := [.int .i64 fr16, .int .i64 dp16, .int .i64 sc16, .slice AC16 nC16 cC16]) Try.underlying24 rfl (by kernel_rfl) rfl (fun W hW => (Vw.lqAL hO27.vw (i := 0) (a := (⟨fr16, dp16, sc16, AC16, nC16, cC16⟩ : CfH)) rfl rfl rfl) W hW.ext)) (RO_q rfl rfl (Yd_move rfl) (RO_q rfl rfl (Yd_move rfl) (RO_q rfl rfl (Yd_idxL Try.underlying28 (sz := 4) (by kernel_rfl) rfl rfl (by omega) (by omega)) (RO_q rfl rfl (Yd_loadA (cs := [.int .i64 fr18, .int .i64 dp18, .int .i64 sc18, .slice AC18 nC18 cC18]) Try.underlying24 rfl (by kernel_rfl) rfl (fun W hW => (Vw.lqAL hO27.vw (i := 1) (a := (⟨fr18, dp18, sc18, AC18, nC18, cC18⟩ : CfH)) rfl rfl rfl) W hW.ext)) (RO_l rfl rfl (Ld_call Try.func25 rfl (by kernel_rfl) rfl (SameV hC16.vw ⟨by omega, by omega, by omega, by omega, by omega, by omega⟩ hC18.vw ⟨by omega, by omega, by omega, by omega, by omega, by omega⟩) ?_)))))))))))))))))
  rintro e W17 ⟨_, rfl, rfl, he17⟩
  refine ⟨_, rfl, ?_⟩
  refine ⟨Kp.of_ext he17, ?_⟩
  replace hE := Ext.trans hE he17
  replace h_aps := h_aps.ext he17
  replace h_bps := h_bps.ext he17
  replace hB4 := hB4.ext he17
  replace hB5 := hB5.ext he17
  replace hC16 := hC16.ext he17
  replace hB9 := hB9.ext he17
  replace hC18 := hC18.ext he17
  replace hB10 := hB10.ext he17
  replace hC22 := hC22.ext he17
  replace hC26 := hC26.ext he17
  replace hO27 := hO27.ext he17
  have hs17 := he17.size
  refine RO_l rfl rfl (Ld_call Try.func26 rfl (by kernel_rfl) rfl (refSameV hC16.vw ⟨by omega, by omega, by omega, by omega, by omega, by omega⟩ hC18.vw ⟨by omega, by omega, by omega, by omega, by omega, by omega⟩) ?_)
  rintro e W18 ⟨_, rfl, rfl, he18⟩
  refine ⟨_, rfl, ?_⟩
  refine ⟨Kp.of_ext he18, ?_⟩
  replace hE := Ext.trans hE he18
  replace h_aps := h_aps.ext he18
  replace h_bps := h_bps.ext he18
  replace hB4 := hB4.ext he18
  replace hB5 := hB5.ext he18
  replace hC16 := hC16.ext he18
  replace hB9 := hB9.ext he18
  replace hC18 := hC18.ext he18
  replace hB10 := hB10.ext he18
  replace hC22 := hC22.ext he18
  replace hC26 := hC26.ext he18
  replace hO27 := hO27.ext he18
  have hs18 := he18.size
  refine RO_q rfl rfl (Yd_neqB Try.underlying4 rfl rfl) (RO_nil (X_then (?_)))
  refine C_no rfl (by simp) (C_skip (X_block (X_then (C_region (RL_q rfl (Yd_move rfl) (RL_q rfl (Yd_add (r := 2) rfl rfl rfl) (RL_q rfl (Yd_assign rfl) (RL_nil (X_round (CR_sub (E' := [(9, .pointer (some ⟨W3.heap.size, 0, none⟩)), (11, .slice (some ⟨W11.heap.size, 0, none⟩) 4 4), (12, .int .i64 0), (13, .int .i64 2), (28, .int .i64 0), (29, .bool true)]) ⟨rfl, rfl, rfl, rfl, rfl, rfl, trivial⟩ (CR_succ (C_seq (C_seq (C_region (RL_q rfl (Yd_move rfl) (RL_q rfl (Yd_lss rfl rfl) (RL_nil (X_then (C_yes rfl rfl (C_skip (X_then (C_seq (C_block (C_seq (?_)))))))))))))))))))))))))
  refine C_regionD (NoB) (l := [(0, true), (1, true), (2, true), (3, true), (4, true), (5, true), (6, true), (7, true), (9, true), (10, true), (11, true), (12, true), (13, true), (14, true), (15, true), (16, true), (8, false), (17, false), (18, true)]) (by kernel_rfl) (by kernel_rfl) rfl (by kernel_rfl) (fun _ _ d _ _ h => by cases d <;> exact h) ?_
  intro W19 he19 hh19
  replace hE := Ext.trans hE he19
  replace h_aps := h_aps.ext he19
  replace h_bps := h_bps.ext he19
  replace hB4 := hB4.ext he19
  replace hB5 := hB5.ext he19
  replace hC16 := hC16.ext he19
  replace hB9 := hB9.ext he19
  replace hC18 := hC18.ext he19
  replace hB10 := hB10.ext he19
  replace hC22 := hC22.ext he19
  replace hC26 := hC26.ext he19
  replace hO27 := hO27.ext he19
  have hs19 := he19.size
  refine RO_q rfl rfl (Yd_move rfl) (RO_q rfl rfl (Yd_move rfl) (RO_q rfl rfl (Yd_idxL Try.underlying28 (sz := 4) (by kernel_rfl) rfl rfl (by omega) (by omega)) (RO_q rfl rfl (Yd_loadA (cs := [.int .i64 fr16, .int .i64 dp16, .int .i64 sc16, .slice AC16 nC16 cC16]) Try.underlying24 rfl (by kernel_rfl) rfl (fun W hW => (Vw.lqAL hO27.vw (i := 0) (a := (⟨fr16, dp16, sc16, AC16, nC16, cC16⟩ : CfH)) rfl rfl rfl) W hW.ext)) (RO_q rfl rfl (Yd_move rfl) (RO_q rfl rfl (Yd_move rfl) (RO_q rfl rfl (Yd_idxL Try.underlying28 (sz := 4) (by kernel_rfl) rfl rfl (by omega) (by omega)) (RO_q rfl rfl (Yd_loadA (cs := [.int .i64 fr22, .int .i64 dp22, .int .i64 sc22, .slice AC22 nC22 cC22]) Try.underlying24 rfl (by kernel_rfl) rfl (fun W hW => (Vw.lqAL hO27.vw (i := 2) (a := (⟨fr22, dp22, sc22, AC22, nC22, cC22⟩ : CfH)) rfl rfl rfl) W hW.ext)) (RO_q rfl rfl (Yd_move rfl) (RO_q rfl rfl (Yd_move rfl) (RO_q rfl rfl (Yd_idxL Try.underlying28 (sz := 4) (by kernel_rfl) rfl rfl (by omega) (by omega)) (RO_q rfl rfl (Yd_loadA (cs := [.int .i64 fr16, .int .i64 dp16, .int .i64 sc16, .slice AC16 nC16 cC16]) Try.underlying24 rfl (by kernel_rfl) rfl (fun W hW => (Vw.lqAL hO27.vw (i := 0) (a := (⟨fr16, dp16, sc16, AC16, nC16, cC16⟩ : CfH)) rfl rfl rfl) W hW.ext)) (RO_q rfl rfl (Yd_move rfl) (RO_q rfl rfl (Yd_move rfl) (RO_q rfl rfl (Yd_idxL Try.underlying28 (sz := 4) (by kernel_rfl) rfl rfl (by omega) (by omega)) (RO_q rfl rfl (Yd_loadA (cs := [.int .i64 fr22, .int .i64 dp22, .int .i64 sc22, .slice AC22 nC22 cC22]) Try.underlying24 rfl (by kernel_rfl) rfl (fun W hW => (Vw.lqAL hO27.vw (i := 2) (a := (⟨fr22, dp22, sc22, AC22, nC22, cC22⟩ : CfH)) rfl rfl rfl) W hW.ext)) (RO_l rfl rfl (Ld_call Try.func25 rfl (by kernel_rfl) rfl (SameV hC16.vw ⟨by omega, by omega, by omega, by omega, by omega, by omega⟩ hC22.vw ⟨by omega, by omega, by omega, by omega, by omega, by omega⟩) ?_)))))))))))))))))
  rintro e W20 ⟨_, rfl, rfl, he20⟩
  refine ⟨_, rfl, ?_⟩
  refine ⟨Kp.of_ext he20, ?_⟩
  replace hE := Ext.trans hE he20
  replace h_aps := h_aps.ext he20
  replace h_bps := h_bps.ext he20
  replace hB4 := hB4.ext he20
  replace hB5 := hB5.ext he20
  replace hC16 := hC16.ext he20
  replace hB9 := hB9.ext he20
  replace hC18 := hC18.ext he20
  replace hB10 := hB10.ext he20
  replace hC22 := hC22.ext he20
  replace hC26 := hC26.ext he20
  replace hO27 := hO27.ext he20
  have hs20 := he20.size
  refine RO_l rfl rfl (Ld_call Try.func26 rfl (by kernel_rfl) rfl (refSameV hC16.vw ⟨by omega, by omega, by omega, by omega, by omega, by omega⟩ hC22.vw ⟨by omega, by omega, by omega, by omega, by omega, by omega⟩) ?_)
  rintro e W21 ⟨_, rfl, rfl, he21⟩
  refine ⟨_, rfl, ?_⟩
  refine ⟨Kp.of_ext he21, ?_⟩
  replace hE := Ext.trans hE he21
  replace h_aps := h_aps.ext he21
  replace h_bps := h_bps.ext he21
  replace hB4 := hB4.ext he21
  replace hB5 := hB5.ext he21
  replace hC16 := hC16.ext he21
  replace hB9 := hB9.ext he21
  replace hC18 := hC18.ext he21
  replace hB10 := hB10.ext he21
  replace hC22 := hC22.ext he21
  replace hC26 := hC26.ext he21
  replace hO27 := hO27.ext he21
  have hs21 := he21.size
  refine RO_q rfl rfl (Yd_neqB Try.underlying4 rfl rfl) (RO_nil (X_then (?_)))
  refine C_no rfl (by simp) (C_skip (X_block (X_then (C_region (RL_q rfl (Yd_move rfl) (RL_q rfl (Yd_add (r := 3) rfl rfl rfl) (RL_q rfl (Yd_assign rfl) (RL_nil (X_round (CR_sub (E' := [(9, .pointer (some ⟨W3.heap.size, 0, none⟩)), (11, .slice (some ⟨W11.heap.size, 0, none⟩) 4 4), (12, .int .i64 0), (13, .int .i64 3), (28, .int .i64 0), (29, .bool true)]) ⟨rfl, rfl, rfl, rfl, rfl, rfl, trivial⟩ (CR_succ (C_seq (C_seq (C_region (RL_q rfl (Yd_move rfl) (RL_q rfl (Yd_lss rfl rfl) (RL_nil (X_then (C_yes rfl rfl (C_skip (X_then (C_seq (C_block (C_seq (?_)))))))))))))))))))))))))
  refine C_regionD (NoB) (l := [(0, true), (1, true), (2, true), (3, true), (4, true), (5, true), (6, true), (7, true), (9, true), (10, true), (11, true), (12, true), (13, true), (14, true), (15, true), (16, true), (8, false), (17, false), (18, true)]) (by kernel_rfl) (by kernel_rfl) rfl (by kernel_rfl) (fun _ _ d _ _ h => by cases d <;> exact h) ?_
  intro W22 he22 hh22
  replace hE := Ext.trans hE he22
  replace h_aps := h_aps.ext he22
  replace h_bps := h_bps.ext he22
  replace hB4 := hB4.ext he22
  replace hB5 := hB5.ext he22
  replace hC16 := hC16.ext he22
  replace hB9 := hB9.ext he22
  replace hC18 := hC18.ext he22
  replace hB10 := hB10.ext he22
  replace hC22 := hC22.ext he22
  replace hC26 := hC26.ext he22
  replace hO27 := hO27.ext he22
  have hs22 := he22.size
  refine RO_q rfl rfl (Yd_move rfl) (RO_q rfl rfl (Yd_move rfl) (RO_q rfl rfl (Yd_idxL Try.underlying28 (sz := 4) (by kernel_rfl) rfl rfl (by omega) (by omega)) (RO_q rfl rfl (Yd_loadA (cs := [.int .i64 fr16, .int .i64 dp16, .int .i64 sc16, .slice AC16 nC16 cC16]) Try.underlying24 rfl (by kernel_rfl) rfl (fun W hW => (Vw.lqAL hO27.vw (i := 0) (a := (⟨fr16, dp16, sc16, AC16, nC16, cC16⟩ : CfH)) rfl rfl rfl) W hW.ext)) (RO_q rfl rfl (Yd_move rfl) (RO_q rfl rfl (Yd_move rfl) (RO_q rfl rfl (Yd_idxL Try.underlying28 (sz := 4) (by kernel_rfl) rfl rfl (by omega) (by omega)) (RO_q rfl rfl (Yd_loadA (cs := [.int .i64 fr26, .int .i64 dp26, .int .i64 sc26, .slice AC26 nC26 cC26]) Try.underlying24 rfl (by kernel_rfl) rfl (fun W hW => (Vw.lqAL hO27.vw (i := 3) (a := (⟨fr26, dp26, sc26, AC26, nC26, cC26⟩ : CfH)) rfl rfl rfl) W hW.ext)) (RO_q rfl rfl (Yd_move rfl) (RO_q rfl rfl (Yd_move rfl) (RO_q rfl rfl (Yd_idxL Try.underlying28 (sz := 4) (by kernel_rfl) rfl rfl (by omega) (by omega)) (RO_q rfl rfl (Yd_loadA (cs := [.int .i64 fr16, .int .i64 dp16, .int .i64 sc16, .slice AC16 nC16 cC16]) Try.underlying24 rfl (by kernel_rfl) rfl (fun W hW => (Vw.lqAL hO27.vw (i := 0) (a := (⟨fr16, dp16, sc16, AC16, nC16, cC16⟩ : CfH)) rfl rfl rfl) W hW.ext)) (RO_q rfl rfl (Yd_move rfl) (RO_q rfl rfl (Yd_move rfl) (RO_q rfl rfl (Yd_idxL Try.underlying28 (sz := 4) (by kernel_rfl) rfl rfl (by omega) (by omega)) (RO_q rfl rfl (Yd_loadA (cs := [.int .i64 fr26, .int .i64 dp26, .int .i64 sc26, .slice AC26 nC26 cC26]) Try.underlying24 rfl (by kernel_rfl) rfl (fun W hW => (Vw.lqAL hO27.vw (i := 3) (a := (⟨fr26, dp26, sc26, AC26, nC26, cC26⟩ : CfH)) rfl rfl rfl) W hW.ext)) (RO_l rfl rfl (Ld_call Try.func25 rfl (by kernel_rfl) rfl (SameV hC16.vw ⟨by omega, by omega, by omega, by omega, by omega, by omega⟩ hC26.vw ⟨by omega, by omega, by omega, by omega, by omega, by omega⟩) ?_)))))))))))))))))
  rintro e W23 ⟨_, rfl, rfl, he23⟩
  refine ⟨_, rfl, ?_⟩
  refine ⟨Kp.of_ext he23, ?_⟩
  replace hE := Ext.trans hE he23
  replace h_aps := h_aps.ext he23
  replace h_bps := h_bps.ext he23
  replace hB4 := hB4.ext he23
  replace hB5 := hB5.ext he23
  replace hC16 := hC16.ext he23
  replace hB9 := hB9.ext he23
  replace hC18 := hC18.ext he23
  replace hB10 := hB10.ext he23
  replace hC22 := hC22.ext he23
  replace hC26 := hC26.ext he23
  replace hO27 := hO27.ext he23
  have hs23 := he23.size
  refine RO_l rfl rfl (Ld_call Try.func26 rfl (by kernel_rfl) rfl (refSameV hC16.vw ⟨by omega, by omega, by omega, by omega, by omega, by omega⟩ hC26.vw ⟨by omega, by omega, by omega, by omega, by omega, by omega⟩) ?_)
  rintro e W24 ⟨_, rfl, rfl, he24⟩
  refine ⟨_, rfl, ?_⟩
  refine ⟨Kp.of_ext he24, ?_⟩
  replace hE := Ext.trans hE he24
  replace h_aps := h_aps.ext he24
  replace h_bps := h_bps.ext he24
  replace hB4 := hB4.ext he24
  replace hB5 := hB5.ext he24
  replace hC16 := hC16.ext he24
  replace hB9 := hB9.ext he24
  replace hC18 := hC18.ext he24
  replace hB10 := hB10.ext he24
  replace hC22 := hC22.ext he24
  replace hC26 := hC26.ext he24
  replace hO27 := hO27.ext he24
  have hs24 := he24.size
  refine RO_q rfl rfl (Yd_neqB Try.underlying4 rfl rfl) (RO_nil (X_then (?_)))
  refine C_no rfl (by simp) (C_skip (X_block (X_then (C_region (RL_q rfl (Yd_move rfl) (RL_q rfl (Yd_add (r := 4) rfl rfl rfl) (RL_q rfl (Yd_assign rfl) (RL_nil (X_round (CR_sub (E' := [(9, .pointer (some ⟨W3.heap.size, 0, none⟩)), (11, .slice (some ⟨W11.heap.size, 0, none⟩) 4 4), (12, .int .i64 0), (13, .int .i64 4), (28, .int .i64 0), (29, .bool true)]) ⟨rfl, rfl, rfl, rfl, rfl, rfl, trivial⟩ (CR_succ (C_seq (C_seq (C_region (RL_q rfl (Yd_move rfl) (RL_q rfl (Yd_lss rfl rfl) (RL_nil (X_then (C_no rfl rfl (C_exit (X_thenE (X_thenE (X_blockE (X_block (X_then (C_region (RL_q rfl (Yd_move rfl) (RL_q rfl (Yd_add (r := 1) rfl rfl rfl) (RL_q rfl (Yd_assign rfl) (RL_nil (X_round (CR_sub (E' := [(9, .pointer (some ⟨W3.heap.size, 0, none⟩)), (11, .slice (some ⟨W11.heap.size, 0, none⟩) 4 4), (12, .int .i64 1)]) ⟨rfl, rfl, rfl, trivial⟩ (CR_succ (C_seq (C_seq (C_region (RL_q rfl (Yd_move rfl) (RL_q rfl (Yd_lss rfl rfl) (RL_nil (X_then (C_yes rfl rfl (C_skip (X_then (C_seq (C_block (C_seq (C_region (RL_q rfl (Yd_assign rfl) (RL_nil (X_then (C_block (C_rounds 5 (CR_succ (C_seq (C_seq (C_region (RL_q rfl (Yd_move rfl) (RL_q rfl (Yd_lss rfl rfl) (RL_nil (X_then (C_yes rfl rfl (C_skip (X_then (C_seq (C_block (C_seq (?_)))))))))))))))))))))))))))))))))))))))))))))))))))))))))))))))))))
  refine C_regionD (NoB) (l := [(0, true), (1, true), (2, true), (3, true), (4, true), (5, true), (6, true), (7, true), (9, true), (10, true), (11, true), (12, true), (13, true), (14, true), (15, true), (16, true), (8, false), (17, false), (18, true)]) (by kernel_rfl) (by kernel_rfl) rfl (by kernel_rfl) (fun _ _ d _ _ h => by cases d <;> exact h) ?_
  intro W25 he25 hh25
  replace hE := Ext.trans hE he25
  replace h_aps := h_aps.ext he25
  replace h_bps := h_bps.ext he25
  replace hB4 := hB4.ext he25
  replace hB5 := hB5.ext he25
  replace hC16 := hC16.ext he25
  replace hB9 := hB9.ext he25
  replace hC18 := hC18.ext he25
  replace hB10 := hB10.ext he25
  replace hC22 := hC22.ext he25
  replace hC26 := hC26.ext he25
  replace hO27 := hO27.ext he25
  have hs25 := he25.size
  refine RO_q rfl rfl (Yd_move rfl) (RO_q rfl rfl (Yd_move rfl) (RO_q rfl rfl (Yd_idxL Try.underlying28 (sz := 4) (by kernel_rfl) rfl rfl (by omega) (by omega)) (RO_q rfl rfl (Yd_loadA (cs := [.int .i64 fr18, .int .i64 dp18, .int .i64 sc18, .slice AC18 nC18 cC18]) Try.underlying24 rfl (by kernel_rfl) rfl (fun W hW => (Vw.lqAL hO27.vw (i := 1) (a := (⟨fr18, dp18, sc18, AC18, nC18, cC18⟩ : CfH)) rfl rfl rfl) W hW.ext)) (RO_q rfl rfl (Yd_move rfl) (RO_q rfl rfl (Yd_move rfl) (RO_q rfl rfl (Yd_idxL Try.underlying28 (sz := 4) (by kernel_rfl) rfl rfl (by omega) (by omega)) (RO_q rfl rfl (Yd_loadA (cs := [.int .i64 fr16, .int .i64 dp16, .int .i64 sc16, .slice AC16 nC16 cC16]) Try.underlying24 rfl (by kernel_rfl) rfl (fun W hW => (Vw.lqAL hO27.vw (i := 0) (a := (⟨fr16, dp16, sc16, AC16, nC16, cC16⟩ : CfH)) rfl rfl rfl) W hW.ext)) (RO_q rfl rfl (Yd_move rfl) (RO_q rfl rfl (Yd_move rfl) (RO_q rfl rfl (Yd_idxL Try.underlying28 (sz := 4) (by kernel_rfl) rfl rfl (by omega) (by omega)) (RO_q rfl rfl (Yd_loadA (cs := [.int .i64 fr18, .int .i64 dp18, .int .i64 sc18, .slice AC18 nC18 cC18]) Try.underlying24 rfl (by kernel_rfl) rfl (fun W hW => (Vw.lqAL hO27.vw (i := 1) (a := (⟨fr18, dp18, sc18, AC18, nC18, cC18⟩ : CfH)) rfl rfl rfl) W hW.ext)) (RO_q rfl rfl (Yd_move rfl) (RO_q rfl rfl (Yd_move rfl) (RO_q rfl rfl (Yd_idxL Try.underlying28 (sz := 4) (by kernel_rfl) rfl rfl (by omega) (by omega)) (RO_q rfl rfl (Yd_loadA (cs := [.int .i64 fr16, .int .i64 dp16, .int .i64 sc16, .slice AC16 nC16 cC16]) Try.underlying24 rfl (by kernel_rfl) rfl (fun W hW => (Vw.lqAL hO27.vw (i := 0) (a := (⟨fr16, dp16, sc16, AC16, nC16, cC16⟩ : CfH)) rfl rfl rfl) W hW.ext)) (RO_l rfl rfl (Ld_call Try.func25 rfl (by kernel_rfl) rfl (SameV hC18.vw ⟨by omega, by omega, by omega, by omega, by omega, by omega⟩ hC16.vw ⟨by omega, by omega, by omega, by omega, by omega, by omega⟩) ?_)))))))))))))))))
  rintro e W26 ⟨_, rfl, rfl, he26⟩
  refine ⟨_, rfl, ?_⟩
  refine ⟨Kp.of_ext he26, ?_⟩
  replace hE := Ext.trans hE he26
  replace h_aps := h_aps.ext he26
  replace h_bps := h_bps.ext he26
  replace hB4 := hB4.ext he26
  replace hB5 := hB5.ext he26
  replace hC16 := hC16.ext he26
  replace hB9 := hB9.ext he26
  replace hC18 := hC18.ext he26
  replace hB10 := hB10.ext he26
  replace hC22 := hC22.ext he26
  replace hC26 := hC26.ext he26
  replace hO27 := hO27.ext he26
  have hs26 := he26.size
  refine RO_l rfl rfl (Ld_call Try.func26 rfl (by kernel_rfl) rfl (refSameV hC18.vw ⟨by omega, by omega, by omega, by omega, by omega, by omega⟩ hC16.vw ⟨by omega, by omega, by omega, by omega, by omega, by omega⟩) ?_)
  rintro e W27 ⟨_, rfl, rfl, he27⟩
  refine ⟨_, rfl, ?_⟩
  refine ⟨Kp.of_ext he27, ?_⟩
  replace hE := Ext.trans hE he27
  replace h_aps := h_aps.ext he27
  replace h_bps := h_bps.ext he27
  replace hB4 := hB4.ext he27
  replace hB5 := hB5.ext he27
  replace hC16 := hC16.ext he27
  replace hB9 := hB9.ext he27
  replace hC18 := hC18.ext he27
  replace hB10 := hB10.ext he27
  replace hC22 := hC22.ext he27
  replace hC26 := hC26.ext he27
  replace hO27 := hO27.ext he27
  have hs27 := he27.size
  refine RO_q rfl rfl (Yd_neqB Try.underlying4 rfl rfl) (RO_nil (X_then (?_)))
  refine C_no rfl (by simp) (C_skip (X_block (X_then (C_region (RL_q rfl (Yd_move rfl) (RL_q rfl (Yd_add (r := 1) rfl rfl rfl) (RL_q rfl (Yd_assign rfl) (RL_nil (X_round (CR_sub (E' := [(9, .pointer (some ⟨W3.heap.size, 0, none⟩)), (11, .slice (some ⟨W11.heap.size, 0, none⟩) 4 4), (12, .int .i64 1), (13, .int .i64 1), (28, .int .i64 1), (29, .bool true)]) ⟨rfl, rfl, rfl, rfl, rfl, rfl, trivial⟩ (CR_succ (C_seq (C_seq (C_region (RL_q rfl (Yd_move rfl) (RL_q rfl (Yd_lss rfl rfl) (RL_nil (X_then (C_yes rfl rfl (C_skip (X_then (C_seq (C_block (C_seq (?_)))))))))))))))))))))))))
  refine C_regionD (NoB) (l := [(0, true), (1, true), (2, true), (3, true), (4, true), (5, true), (6, true), (7, true), (9, true), (10, true), (11, true), (12, true), (13, true), (14, true), (15, true), (16, true), (8, false), (17, false), (18, true)]) (by kernel_rfl) (by kernel_rfl) rfl (by kernel_rfl) (fun _ _ d _ _ h => by cases d <;> exact h) ?_
  intro W28 he28 hh28
  replace hE := Ext.trans hE he28
  replace h_aps := h_aps.ext he28
  replace h_bps := h_bps.ext he28
  replace hB4 := hB4.ext he28
  replace hB5 := hB5.ext he28
  replace hC16 := hC16.ext he28
  replace hB9 := hB9.ext he28
  replace hC18 := hC18.ext he28
  replace hB10 := hB10.ext he28
  replace hC22 := hC22.ext he28
  replace hC26 := hC26.ext he28
  replace hO27 := hO27.ext he28
  have hs28 := he28.size
  refine RO_q rfl rfl (Yd_move rfl) (RO_q rfl rfl (Yd_move rfl) (RO_q rfl rfl (Yd_idxL Try.underlying28 (sz := 4) (by kernel_rfl) rfl rfl (by omega) (by omega)) (RO_q rfl rfl (Yd_loadA (cs := [.int .i64 fr18, .int .i64 dp18, .int .i64 sc18, .slice AC18 nC18 cC18]) Try.underlying24 rfl (by kernel_rfl) rfl (fun W hW => (Vw.lqAL hO27.vw (i := 1) (a := (⟨fr18, dp18, sc18, AC18, nC18, cC18⟩ : CfH)) rfl rfl rfl) W hW.ext)) (RO_q rfl rfl (Yd_move rfl) (RO_q rfl rfl (Yd_move rfl) (RO_q rfl rfl (Yd_idxL Try.underlying28 (sz := 4) (by kernel_rfl) rfl rfl (by omega) (by omega)) (RO_q rfl rfl (Yd_loadA (cs := [.int .i64 fr18, .int .i64 dp18, .int .i64 sc18, .slice AC18 nC18 cC18]) Try.underlying24 rfl (by kernel_rfl) rfl (fun W hW => (Vw.lqAL hO27.vw (i := 1) (a := (⟨fr18, dp18, sc18, AC18, nC18, cC18⟩ : CfH)) rfl rfl rfl) W hW.ext)) (RO_q rfl rfl (Yd_move rfl) (RO_q rfl rfl (Yd_move rfl) (RO_q rfl rfl (Yd_idxL Try.underlying28 (sz := 4) (by kernel_rfl) rfl rfl (by omega) (by omega)) (RO_q rfl rfl (Yd_loadA (cs := [.int .i64 fr18, .int .i64 dp18, .int .i64 sc18, .slice AC18 nC18 cC18]) Try.underlying24 rfl (by kernel_rfl) rfl (fun W hW => (Vw.lqAL hO27.vw (i := 1) (a := (⟨fr18, dp18, sc18, AC18, nC18, cC18⟩ : CfH)) rfl rfl rfl) W hW.ext)) (RO_q rfl rfl (Yd_move rfl) (RO_q rfl rfl (Yd_move rfl) (RO_q rfl rfl (Yd_idxL Try.underlying28 (sz := 4) (by kernel_rfl) rfl rfl (by omega) (by omega)) (RO_q rfl rfl (Yd_loadA (cs := [.int .i64 fr18, .int .i64 dp18, .int .i64 sc18, .slice AC18 nC18 cC18]) Try.underlying24 rfl (by kernel_rfl) rfl (fun W hW => (Vw.lqAL hO27.vw (i := 1) (a := (⟨fr18, dp18, sc18, AC18, nC18, cC18⟩ : CfH)) rfl rfl rfl) W hW.ext)) (RO_l rfl rfl (Ld_call Try.func25 rfl (by kernel_rfl) rfl (SameV hC18.vw ⟨by omega, by omega, by omega, by omega, by omega, by omega⟩ hC18.vw ⟨by omega, by omega, by omega, by omega, by omega, by omega⟩) ?_)))))))))))))))))
  rintro e W29 ⟨_, rfl, rfl, he29⟩
  refine ⟨_, rfl, ?_⟩
  refine ⟨Kp.of_ext he29, ?_⟩
  replace hE := Ext.trans hE he29
  replace h_aps := h_aps.ext he29
  replace h_bps := h_bps.ext he29
  replace hB4 := hB4.ext he29
  replace hB5 := hB5.ext he29
  replace hC16 := hC16.ext he29
  replace hB9 := hB9.ext he29
  replace hC18 := hC18.ext he29
  replace hB10 := hB10.ext he29
  replace hC22 := hC22.ext he29
  replace hC26 := hC26.ext he29
  replace hO27 := hO27.ext he29
  have hs29 := he29.size
  refine RO_l rfl rfl (Ld_call Try.func26 rfl (by kernel_rfl) rfl (refSameV hC18.vw ⟨by omega, by omega, by omega, by omega, by omega, by omega⟩ hC18.vw ⟨by omega, by omega, by omega, by omega, by omega, by omega⟩) ?_)
  rintro e W30 ⟨_, rfl, rfl, he30⟩
  refine ⟨_, rfl, ?_⟩
  refine ⟨Kp.of_ext he30, ?_⟩
  replace hE := Ext.trans hE he30
  replace h_aps := h_aps.ext he30
  replace h_bps := h_bps.ext he30
  replace hB4 := hB4.ext he30
  replace hB5 := hB5.ext he30
  replace hC16 := hC16.ext he30
  replace hB9 := hB9.ext he30
  replace hC18 := hC18.ext he30
  replace hB10 := hB10.ext he30
  replace hC22 := hC22.ext he30
  replace hC26 := hC26.ext he30
  replace hO27 := hO27.ext he30
  have hs30 := he30.size
  refine RO_q rfl rfl (Yd_neqB Try.underlying4 rfl rfl) (RO_nil (X_then (?_)))
  refine C_no rfl (by simp) (C_skip (X_block (X_then (C_region (RL_q rfl (Yd_move rfl) (RL_q rfl (Yd_add (r := 2) rfl rfl rfl) (RL_q rfl (Yd_assign rfl) (RL_nil (X_round (CR_sub (E' := [(9, .pointer (some ⟨W3.heap.size, 0, none⟩)), (11, .slice (some ⟨W11.heap.size, 0, none⟩) 4 4), (12, .int .i64 1), (13, .int .i64 2), (28, .int .i64 1), (29, .bool true)]) ⟨rfl, rfl, rfl, rfl, rfl, rfl, trivial⟩ (CR_succ (C_seq (C_seq (C_region (RL_q rfl (Yd_move rfl) (RL_q rfl (Yd_lss rfl rfl) (RL_nil (X_then (C_yes rfl rfl (C_skip (X_then (C_seq (C_block (C_seq (?_)))))))))))))))))))))))))
  refine C_regionD (NoB) (l := [(0, true), (1, true), (2, true), (3, true), (4, true), (5, true), (6, true), (7, true), (9, true), (10, true), (11, true), (12, true), (13, true), (14, true), (15, true), (16, true), (8, false), (17, false), (18, true)]) (by kernel_rfl) (by kernel_rfl) rfl (by kernel_rfl) (fun _ _ d _ _ h => by cases d <;> exact h) ?_
  intro W31 he31 hh31
  replace hE := Ext.trans hE he31
  replace h_aps := h_aps.ext he31
  replace h_bps := h_bps.ext he31
  replace hB4 := hB4.ext he31
  replace hB5 := hB5.ext he31
  replace hC16 := hC16.ext he31
  replace hB9 := hB9.ext he31
  replace hC18 := hC18.ext he31
  replace hB10 := hB10.ext he31
  replace hC22 := hC22.ext he31
  replace hC26 := hC26.ext he31
  replace hO27 := hO27.ext he31
  have hs31 := he31.size
  refine RO_q rfl rfl (Yd_move rfl) (RO_q rfl rfl (Yd_move rfl) (RO_q rfl rfl (Yd_idxL Try.underlying28 (sz := 4) (by kernel_rfl) rfl rfl (by omega) (by omega)) (RO_q rfl rfl (Yd_loadA (cs := [.int .i64 fr18, .int .i64 dp18, .int .i64 sc18, .slice AC18 nC18 cC18]) Try.underlying24 rfl (by kernel_rfl) rfl (fun W hW => (Vw.lqAL hO27.vw (i := 1) (a := (⟨fr18, dp18, sc18, AC18, nC18, cC18⟩ : CfH)) rfl rfl rfl) W hW.ext)) (RO_q rfl rfl (Yd_move rfl) (RO_q rfl rfl (Yd_move rfl) (RO_q rfl rfl (Yd_idxL Try.underlying28 (sz := 4) (by kernel_rfl) rfl rfl (by omega) (by omega)) (RO_q rfl rfl (Yd_loadA (cs := [.int .i64 fr22, .int .i64 dp22, .int .i64 sc22, .slice AC22 nC22 cC22]) Try.underlying24 rfl (by kernel_rfl) rfl (fun W hW => (Vw.lqAL hO27.vw (i := 2) (a := (⟨fr22, dp22, sc22, AC22, nC22, cC22⟩ : CfH)) rfl rfl rfl) W hW.ext)) (RO_q rfl rfl (Yd_move rfl) (RO_q rfl rfl (Yd_move rfl) (RO_q rfl rfl (Yd_idxL Try.underlying28 (sz := 4) (by kernel_rfl) rfl rfl (by omega) (by omega)) (RO_q rfl rfl (Yd_loadA (cs := [.int .i64 fr18, .int .i64 dp18, .int .i64 sc18, .slice AC18 nC18 cC18]) Try.underlying24 rfl (by kernel_rfl) rfl (fun W hW => (Vw.lqAL hO27.vw (i := 1) (a := (⟨fr18, dp18, sc18, AC18, nC18, cC18⟩ : CfH)) rfl rfl rfl) W hW.ext)) (RO_q rfl rfl (Yd_move rfl) (RO_q rfl rfl (Yd_move rfl) (RO_q rfl rfl (Yd_idxL Try.underlying28 (sz := 4) (by kernel_rfl) rfl rfl (by omega) (by omega)) (RO_q rfl rfl (Yd_loadA (cs := [.int .i64 fr22, .int .i64 dp22, .int .i64 sc22, .slice AC22 nC22 cC22]) Try.underlying24 rfl (by kernel_rfl) rfl (fun W hW => (Vw.lqAL hO27.vw (i := 2) (a := (⟨fr22, dp22, sc22, AC22, nC22, cC22⟩ : CfH)) rfl rfl rfl) W hW.ext)) (RO_l rfl rfl (Ld_call Try.func25 rfl (by kernel_rfl) rfl (SameV hC18.vw ⟨by omega, by omega, by omega, by omega, by omega, by omega⟩ hC22.vw ⟨by omega, by omega, by omega, by omega, by omega, by omega⟩) ?_)))))))))))))))))
  rintro e W32 ⟨_, rfl, rfl, he32⟩
  refine ⟨_, rfl, ?_⟩
  refine ⟨Kp.of_ext he32, ?_⟩
  replace hE := Ext.trans hE he32
  replace h_aps := h_aps.ext he32
  replace h_bps := h_bps.ext he32
  replace hB4 := hB4.ext he32
  replace hB5 := hB5.ext he32
  replace hC16 := hC16.ext he32
  replace hB9 := hB9.ext he32
  replace hC18 := hC18.ext he32
  replace hB10 := hB10.ext he32
  replace hC22 := hC22.ext he32
  replace hC26 := hC26.ext he32
  replace hO27 := hO27.ext he32
  have hs32 := he32.size
  refine RO_l rfl rfl (Ld_call Try.func26 rfl (by kernel_rfl) rfl (refSameV hC18.vw ⟨by omega, by omega, by omega, by omega, by omega, by omega⟩ hC22.vw ⟨by omega, by omega, by omega, by omega, by omega, by omega⟩) ?_)
  rintro e W33 ⟨_, rfl, rfl, he33⟩
  refine ⟨_, rfl, ?_⟩
  refine ⟨Kp.of_ext he33, ?_⟩
  replace hE := Ext.trans hE he33
  replace h_aps := h_aps.ext he33
  replace h_bps := h_bps.ext he33
  replace hB4 := hB4.ext he33
  replace hB5 := hB5.ext he33
  replace hC16 := hC16.ext he33
  replace hB9 := hB9.ext he33
  replace hC18 := hC18.ext he33
  replace hB10 := hB10.ext he33
  replace hC22 := hC22.ext he33
  replace hC26 := hC26.ext he33
  replace hO27 := hO27.ext he33
  have hs33 := he33.size
  refine RO_q rfl rfl (Yd_neqB Try.underlying4 rfl rfl) (RO_nil (X_then (?_)))
  refine C_no rfl (by simp) (C_skip (X_block (X_then (C_region (RL_q rfl (Yd_move rfl) (RL_q rfl (Yd_add (r := 3) rfl rfl rfl) (RL_q rfl (Yd_assign rfl) (RL_nil (X_round (CR_sub (E' := [(9, .pointer (some ⟨W3.heap.size, 0, none⟩)), (11, .slice (some ⟨W11.heap.size, 0, none⟩) 4 4), (12, .int .i64 1), (13, .int .i64 3), (28, .int .i64 1), (29, .bool true)]) ⟨rfl, rfl, rfl, rfl, rfl, rfl, trivial⟩ (CR_succ (C_seq (C_seq (C_region (RL_q rfl (Yd_move rfl) (RL_q rfl (Yd_lss rfl rfl) (RL_nil (X_then (C_yes rfl rfl (C_skip (X_then (C_seq (C_block (C_seq (?_)))))))))))))))))))))))))
  refine C_regionD (NoB) (l := [(0, true), (1, true), (2, true), (3, true), (4, true), (5, true), (6, true), (7, true), (9, true), (10, true), (11, true), (12, true), (13, true), (14, true), (15, true), (16, true), (8, false), (17, false), (18, true)]) (by kernel_rfl) (by kernel_rfl) rfl (by kernel_rfl) (fun _ _ d _ _ h => by cases d <;> exact h) ?_
  intro W34 he34 hh34
  replace hE := Ext.trans hE he34
  replace h_aps := h_aps.ext he34
  replace h_bps := h_bps.ext he34
  replace hB4 := hB4.ext he34
  replace hB5 := hB5.ext he34
  replace hC16 := hC16.ext he34
  replace hB9 := hB9.ext he34
  replace hC18 := hC18.ext he34
  replace hB10 := hB10.ext he34
  replace hC22 := hC22.ext he34
  replace hC26 := hC26.ext he34
  replace hO27 := hO27.ext he34
  have hs34 := he34.size
  refine RO_q rfl rfl (Yd_move rfl) (RO_q rfl rfl (Yd_move rfl) (RO_q rfl rfl (Yd_idxL Try.underlying28 (sz := 4) (by kernel_rfl) rfl rfl (by omega) (by omega)) (RO_q rfl rfl (Yd_loadA (cs := [.int .i64 fr18, .int .i64 dp18, .int .i64 sc18, .slice AC18 nC18 cC18]) Try.underlying24 rfl (by kernel_rfl) rfl (fun W hW => (Vw.lqAL hO27.vw (i := 1) (a := (⟨fr18, dp18, sc18, AC18, nC18, cC18⟩ : CfH)) rfl rfl rfl) W hW.ext)) (RO_q rfl rfl (Yd_move rfl) (RO_q rfl rfl (Yd_move rfl) (RO_q rfl rfl (Yd_idxL Try.underlying28 (sz := 4) (by kernel_rfl) rfl rfl (by omega) (by omega)) (RO_q rfl rfl (Yd_loadA (cs := [.int .i64 fr26, .int .i64 dp26, .int .i64 sc26, .slice AC26 nC26 cC26]) Try.underlying24 rfl (by kernel_rfl) rfl (fun W hW => (Vw.lqAL hO27.vw (i := 3) (a := (⟨fr26, dp26, sc26, AC26, nC26, cC26⟩ : CfH)) rfl rfl rfl) W hW.ext)) (RO_q rfl rfl (Yd_move rfl) (RO_q rfl rfl (Yd_move rfl) (RO_q rfl rfl (Yd_idxL Try.underlying28 (sz := 4) (by kernel_rfl) rfl rfl (by omega) (by omega)) (RO_q rfl rfl (Yd_loadA (cs := [.int .i64 fr18, .int .i64 dp18, .int .i64 sc18, .slice AC18 nC18 cC18]) Try.underlying24 rfl (by kernel_rfl) rfl (fun W hW => (Vw.lqAL hO27.vw (i := 1) (a := (⟨fr18, dp18, sc18, AC18, nC18, cC18⟩ : CfH)) rfl rfl rfl) W hW.ext)) (RO_q rfl rfl (Yd_move rfl) (RO_q rfl rfl (Yd_move rfl) (RO_q rfl rfl (Yd_idxL Try.underlying28 (sz := 4) (by kernel_rfl) rfl rfl (by omega) (by omega)) (RO_q rfl rfl (Yd_loadA (cs := [.int .i64 fr26, .int .i64 dp26, .int .i64 sc26, .slice AC26 nC26 cC26]) Try.underlying24 rfl (by kernel_rfl) rfl (fun W hW => (Vw.lqAL hO27.vw (i := 3) (a := (⟨fr26, dp26, sc26, AC26, nC26, cC26⟩ : CfH)) rfl rfl rfl) W hW.ext)) (RO_l rfl rfl (Ld_call Try.func25 rfl (by kernel_rfl) rfl (SameV hC18.vw ⟨by omega, by omega, by omega, by omega, by omega, by omega⟩ hC26.vw ⟨by omega, by omega, by omega, by omega, by omega, by omega⟩) ?_)))))))))))))))))
  rintro e W35 ⟨_, rfl, rfl, he35⟩
  refine ⟨_, rfl, ?_⟩
  refine ⟨Kp.of_ext he35, ?_⟩
  replace hE := Ext.trans hE he35
  replace h_aps := h_aps.ext he35
  replace h_bps := h_bps.ext he35
  replace hB4 := hB4.ext he35
  replace hB5 := hB5.ext he35
  replace hC16 := hC16.ext he35
  replace hB9 := hB9.ext he35
  replace hC18 := hC18.ext he35
  replace hB10 := hB10.ext he35
  replace hC22 := hC22.ext he35
  replace hC26 := hC26.ext he35
  replace hO27 := hO27.ext he35
  have hs35 := he35.size
  refine RO_l rfl rfl (Ld_call Try.func26 rfl (by kernel_rfl) rfl (refSameV hC18.vw ⟨by omega, by omega, by omega, by omega, by omega, by omega⟩ hC26.vw ⟨by omega, by omega, by omega, by omega, by omega, by omega⟩) ?_)
  rintro e W36 ⟨_, rfl, rfl, he36⟩
  refine ⟨_, rfl, ?_⟩
  refine ⟨Kp.of_ext he36, ?_⟩
  replace hE := Ext.trans hE he36
  replace h_aps := h_aps.ext he36
  replace h_bps := h_bps.ext he36
  replace hB4 := hB4.ext he36
  replace hB5 := hB5.ext he36
  replace hC16 := hC16.ext he36
  replace hB9 := hB9.ext he36
  replace hC18 := hC18.ext he36
  replace hB10 := hB10.ext he36
  replace hC22 := hC22.ext he36
  replace hC26 := hC26.ext he36
  replace hO27 := hO27.ext he36
  have hs36 := he36.size
  refine RO_q rfl rfl (Yd_neqB Try.underlying4 rfl rfl) (RO_nil (X_then (?_)))
  refine C_no rfl (by simp) (C_skip (X_block (X_then (C_region (RL_q rfl (Yd_move rfl) (RL_q rfl (Yd_add (r := 4) rfl rfl rfl) (RL_q rfl (Yd_assign rfl) (RL_nil (X_round (CR_sub (E' := [(9, .pointer (some ⟨W3.heap.size, 0, none⟩)), (11, .slice (some ⟨W11.heap.size, 0, none⟩) 4 4), (12, .int .i64 1), (13, .int .i64 4), (28, .int .i64 1), (29, .bool true)]) ⟨rfl, rfl, rfl, rfl, rfl, rfl, trivial⟩ (CR_succ (C_seq (C_seq (C_region (RL_q rfl (Yd_move rfl) (RL_q rfl (Yd_lss rfl rfl) (RL_nil (X_then (C_no rfl rfl (C_exit (X_thenE (X_thenE (X_blockE (X_block (X_then (C_region (RL_q rfl (Yd_move rfl) (RL_q rfl (Yd_add (r := 2) rfl rfl rfl) (RL_q rfl (Yd_assign rfl) (RL_nil (X_round (CR_sub (E' := [(9, .pointer (some ⟨W3.heap.size, 0, none⟩)), (11, .slice (some ⟨W11.heap.size, 0, none⟩) 4 4), (12, .int .i64 2)]) ⟨rfl, rfl, rfl, trivial⟩ (CR_succ (C_seq (C_seq (C_region (RL_q rfl (Yd_move rfl) (RL_q rfl (Yd_lss rfl rfl) (RL_nil (X_then (C_yes rfl rfl (C_skip (X_then (C_seq (C_block (C_seq (C_region (RL_q rfl (Yd_assign rfl) (RL_nil (X_then (C_block (C_rounds 5 (CR_succ (C_seq (C_seq (C_region (RL_q rfl (Yd_move rfl) (RL_q rfl (Yd_lss rfl rfl) (RL_nil (X_then (C_yes rfl rfl (C_skip (X_then (C_seq (C_block (C_seq (?_)))))))))))))))))))))))))))))))))))))))))))))))))))))))))))))))))))
  refine C_regionD (NoB) (l := [(0, true), (1, true), (2, true), (3, true), (4, true), (5, true), (6, true), (7, true), (9, true), (10, true), (11, true), (12, true), (13, true), (14, true), (15, true), (16, true), (8, false), (17, false), (18, true)]) (by kernel_rfl) (by kernel_rfl) rfl (by kernel_rfl) (fun _ _ d _ _ h => by cases d <;> exact h) ?_
  intro W37 he37 hh37
  replace hE := Ext.trans hE he37
  replace h_aps := h_aps.ext he37
  replace h_bps := h_bps.ext he37
  replace hB4 := hB4.ext he37
  replace hB5 := hB5.ext he37
  replace hC16 := hC16.ext he37
  replace hB9 := hB9.ext he37
  replace hC18 := hC18.ext he37
  replace hB10 := hB10.ext he37
  replace hC22 := hC22.ext he37
  replace hC26 := hC26.ext he37
  replace hO27 := hO27.ext he37
  have hs37 := he37.size
  refine RO_q rfl rfl (Yd_move rfl) (RO_q rfl rfl (Yd_move rfl) (RO_q rfl rfl (Yd_idxL Try.underlying28 (sz := 4) (by kernel_rfl) rfl rfl (by omega) (by omega)) (RO_q rfl rfl (Yd_loadA (cs := [.int .i64 fr22, .int .i64 dp22, .int .i64 sc22, .slice AC22 nC22 cC22]) Try.underlying24 rfl (by kernel_rfl) rfl (fun W hW => (Vw.lqAL hO27.vw (i := 2) (a := (⟨fr22, dp22, sc22, AC22, nC22, cC22⟩ : CfH)) rfl rfl rfl) W hW.ext)) (RO_q rfl rfl (Yd_move rfl) (RO_q rfl rfl (Yd_move rfl) (RO_q rfl rfl (Yd_idxL Try.underlying28 (sz := 4) (by kernel_rfl) rfl rfl (by omega) (by omega)) (RO_q rfl rfl (Yd_loadA (cs := [.int .i64 fr16, .int .i64 dp16, .int .i64 sc16, .slice AC16 nC16 cC16]) Try.underlying24 rfl (by kernel_rfl) rfl (fun W hW => (Vw.lqAL hO27.vw (i := 0) (a := (⟨fr16, dp16, sc16, AC16, nC16, cC16⟩ : CfH)) rfl rfl rfl) W hW.ext)) (RO_q rfl rfl (Yd_move rfl) (RO_q rfl rfl (Yd_move rfl) (RO_q rfl rfl (Yd_idxL Try.underlying28 (sz := 4) (by kernel_rfl) rfl rfl (by omega) (by omega)) (RO_q rfl rfl (Yd_loadA (cs := [.int .i64 fr22, .int .i64 dp22, .int .i64 sc22, .slice AC22 nC22 cC22]) Try.underlying24 rfl (by kernel_rfl) rfl (fun W hW => (Vw.lqAL hO27.vw (i := 2) (a := (⟨fr22, dp22, sc22, AC22, nC22, cC22⟩ : CfH)) rfl rfl rfl) W hW.ext)) (RO_q rfl rfl (Yd_move rfl) (RO_q rfl rfl (Yd_move rfl) (RO_q rfl rfl (Yd_idxL Try.underlying28 (sz := 4) (by kernel_rfl) rfl rfl (by omega) (by omega)) (RO_q rfl rfl (Yd_loadA (cs := [.int .i64 fr16, .int .i64 dp16, .int .i64 sc16, .slice AC16 nC16 cC16]) Try.underlying24 rfl (by kernel_rfl) rfl (fun W hW => (Vw.lqAL hO27.vw (i := 0) (a := (⟨fr16, dp16, sc16, AC16, nC16, cC16⟩ : CfH)) rfl rfl rfl) W hW.ext)) (RO_l rfl rfl (Ld_call Try.func25 rfl (by kernel_rfl) rfl (SameV hC22.vw ⟨by omega, by omega, by omega, by omega, by omega, by omega⟩ hC16.vw ⟨by omega, by omega, by omega, by omega, by omega, by omega⟩) ?_)))))))))))))))))
  rintro e W38 ⟨_, rfl, rfl, he38⟩
  refine ⟨_, rfl, ?_⟩
  refine ⟨Kp.of_ext he38, ?_⟩
  replace hE := Ext.trans hE he38
  replace h_aps := h_aps.ext he38
  replace h_bps := h_bps.ext he38
  replace hB4 := hB4.ext he38
  replace hB5 := hB5.ext he38
  replace hC16 := hC16.ext he38
  replace hB9 := hB9.ext he38
  replace hC18 := hC18.ext he38
  replace hB10 := hB10.ext he38
  replace hC22 := hC22.ext he38
  replace hC26 := hC26.ext he38
  replace hO27 := hO27.ext he38
  have hs38 := he38.size
  refine RO_l rfl rfl (Ld_call Try.func26 rfl (by kernel_rfl) rfl (refSameV hC22.vw ⟨by omega, by omega, by omega, by omega, by omega, by omega⟩ hC16.vw ⟨by omega, by omega, by omega, by omega, by omega, by omega⟩) ?_)
  rintro e W39 ⟨_, rfl, rfl, he39⟩
  refine ⟨_, rfl, ?_⟩
  refine ⟨Kp.of_ext he39, ?_⟩
  replace hE := Ext.trans hE he39
  replace h_aps := h_aps.ext he39
  replace h_bps := h_bps.ext he39
  replace hB4 := hB4.ext he39
  replace hB5 := hB5.ext he39
  replace hC16 := hC16.ext he39
  replace hB9 := hB9.ext he39
  replace hC18 := hC18.ext he39
  replace hB10 := hB10.ext he39
  replace hC22 := hC22.ext he39
  replace hC26 := hC26.ext he39
  replace hO27 := hO27.ext he39
  have hs39 := he39.size
  refine RO_q rfl rfl (Yd_neqB Try.underlying4 rfl rfl) (RO_nil (X_then (?_)))
  refine C_no rfl (by simp) (C_skip (X_block (X_then (C_region (RL_q rfl (Yd_move rfl) (RL_q rfl (Yd_add (r := 1) rfl rfl rfl) (RL_q rfl (Yd_assign rfl) (RL_nil (X_round (CR_sub (E' := [(9, .pointer (some ⟨W3.heap.size, 0, none⟩)), (11, .slice (some ⟨W11.heap.size, 0, none⟩) 4 4), (12, .int .i64 2), (13, .int .i64 1), (28, .int .i64 2), (29, .bool true)]) ⟨rfl, rfl, rfl, rfl, rfl, rfl, trivial⟩ (CR_succ (C_seq (C_seq (C_region (RL_q rfl (Yd_move rfl) (RL_q rfl (Yd_lss rfl rfl) (RL_nil (X_then (C_yes rfl rfl (C_skip (X_then (C_seq (C_block (C_seq (?_)))))))))))))))))))))))))
  refine C_regionD (NoB) (l := [(0, true), (1, true), (2, true), (3, true), (4, true), (5, true), (6, true), (7, true), (9, true), (10, true), (11, true), (12, true), (13, true), (14, true), (15, true), (16, true), (8, false), (17, false), (18, true)]) (by kernel_rfl) (by kernel_rfl) rfl (by kernel_rfl) (fun _ _ d _ _ h => by cases d <;> exact h) ?_
  intro W40 he40 hh40
  replace hE := Ext.trans hE he40
  replace h_aps := h_aps.ext he40
  replace h_bps := h_bps.ext he40
  replace hB4 := hB4.ext he40
  replace hB5 := hB5.ext he40
  replace hC16 := hC16.ext he40
  replace hB9 := hB9.ext he40
  replace hC18 := hC18.ext he40
  replace hB10 := hB10.ext he40
  replace hC22 := hC22.ext he40
  replace hC26 := hC26.ext he40
  replace hO27 := hO27.ext he40
  have hs40 := he40.size
  refine RO_q rfl rfl (Yd_move rfl) (RO_q rfl rfl (Yd_move rfl) (RO_q rfl rfl (Yd_idxL Try.underlying28 (sz := 4) (by kernel_rfl) rfl rfl (by omega) (by omega)) (RO_q rfl rfl (Yd_loadA (cs := [.int .i64 fr22, .int .i64 dp22, .int .i64 sc22, .slice AC22 nC22 cC22]) Try.underlying24 rfl (by kernel_rfl) rfl (fun W hW => (Vw.lqAL hO27.vw (i := 2) (a := (⟨fr22, dp22, sc22, AC22, nC22, cC22⟩ : CfH)) rfl rfl rfl) W hW.ext)) (RO_q rfl rfl (Yd_move rfl) (RO_q rfl rfl (Yd_move rfl) (RO_q rfl rfl (Yd_idxL Try.underlying28 (sz := 4) (by kernel_rfl) rfl rfl (by omega) (by omega)) (RO_q rfl rfl (Yd_loadA (cs := [.int .i64 fr18, .int .i64 dp18, .int .i64 sc18, .slice AC18 nC18 cC18]) Try.underlying24 rfl (by kernel_rfl) rfl (fun W hW => (Vw.lqAL hO27.vw (i := 1) (a := (⟨fr18, dp18, sc18, AC18, nC18, cC18⟩ : CfH)) rfl rfl rfl) W hW.ext)) (RO_q rfl rfl (Yd_move rfl) (RO_q rfl rfl (Yd_move rfl) (RO_q rfl rfl (Yd_idxL Try.underlying28 (sz := 4) (by kernel_rfl) rfl rfl (by omega) (by omega)) (RO_q rfl rfl (Yd_loadA (cs := [.int .i64 fr22, .int .i64 dp22, .int .i64 sc22, .slice AC22 nC22 cC22]) Try.underlying24 rfl (by kernel_rfl) rfl (fun W hW => (Vw.lqAL hO27.vw (i := 2) (a := (⟨fr22, dp22, sc22, AC22, nC22, cC22⟩ : CfH)) rfl rfl rfl) W hW.ext)) (RO_q rfl rfl (Yd_move rfl) (RO_q rfl rfl (Yd_move rfl) (RO_q rfl rfl (Yd_idxL Try.underlying28 (sz := 4) (by kernel_rfl) rfl rfl (by omega) (by omega)) (RO_q rfl rfl (Yd_loadA (cs := [.int .i64 fr18, .int .i64 dp18, .int .i64 sc18, .slice AC18 nC18 cC18]) Try.underlying24 rfl (by kernel_rfl) rfl (fun W hW => (Vw.lqAL hO27.vw (i := 1) (a := (⟨fr18, dp18, sc18, AC18, nC18, cC18⟩ : CfH)) rfl rfl rfl) W hW.ext)) (RO_l rfl rfl (Ld_call Try.func25 rfl (by kernel_rfl) rfl (SameV hC22.vw ⟨by omega, by omega, by omega, by omega, by omega, by omega⟩ hC18.vw ⟨by omega, by omega, by omega, by omega, by omega, by omega⟩) ?_)))))))))))))))))
  rintro e W41 ⟨_, rfl, rfl, he41⟩
  refine ⟨_, rfl, ?_⟩
  refine ⟨Kp.of_ext he41, ?_⟩
  replace hE := Ext.trans hE he41
  replace h_aps := h_aps.ext he41
  replace h_bps := h_bps.ext he41
  replace hB4 := hB4.ext he41
  replace hB5 := hB5.ext he41
  replace hC16 := hC16.ext he41
  replace hB9 := hB9.ext he41
  replace hC18 := hC18.ext he41
  replace hB10 := hB10.ext he41
  replace hC22 := hC22.ext he41
  replace hC26 := hC26.ext he41
  replace hO27 := hO27.ext he41
  have hs41 := he41.size
  refine RO_l rfl rfl (Ld_call Try.func26 rfl (by kernel_rfl) rfl (refSameV hC22.vw ⟨by omega, by omega, by omega, by omega, by omega, by omega⟩ hC18.vw ⟨by omega, by omega, by omega, by omega, by omega, by omega⟩) ?_)
  rintro e W42 ⟨_, rfl, rfl, he42⟩
  refine ⟨_, rfl, ?_⟩
  refine ⟨Kp.of_ext he42, ?_⟩
  replace hE := Ext.trans hE he42
  replace h_aps := h_aps.ext he42
  replace h_bps := h_bps.ext he42
  replace hB4 := hB4.ext he42
  replace hB5 := hB5.ext he42
  replace hC16 := hC16.ext he42
  replace hB9 := hB9.ext he42
  replace hC18 := hC18.ext he42
  replace hB10 := hB10.ext he42
  replace hC22 := hC22.ext he42
  replace hC26 := hC26.ext he42
  replace hO27 := hO27.ext he42
  have hs42 := he42.size
  refine RO_q rfl rfl (Yd_neqB Try.underlying4 rfl rfl) (RO_nil (X_then (?_)))
  refine C_no rfl (by simp) (C_skip (X_block (X_then (C_region (RL_q rfl (Yd_move rfl) (RL_q rfl (Yd_add (r := 2) rfl rfl rfl) (RL_q rfl (Yd_assign rfl) (RL_nil (X_round (CR_sub (E' := [(9, .pointer (some ⟨W3.heap.size, 0, none⟩)), (11, .slice (some ⟨W11.heap.size, 0, none⟩) 4 4), (12, .int .i64 2), (13, .int .i64 2), (28, .int .i64 2), (29, .bool true)]) ⟨rfl, rfl, rfl, rfl, rfl, rfl, trivial⟩ (CR_succ (C_seq (C_seq (C_region (RL_q rfl (Yd_move rfl) (RL_q rfl (Yd_lss rfl rfl) (RL_nil (X_then (C_yes rfl rfl (C_skip (X_then (C_seq (C_block (C_seq (?_)))))))))))))))))))))))))
  refine C_regionD (NoB) (l := [(0, true), (1, true), (2, true), (3, true), (4, true), (5, true), (6, true), (7, true), (9, true), (10, true), (11, true), (12, true), (13, true), (14, true), (15, true), (16, true), (8, false), (17, false), (18, true)]) (by kernel_rfl) (by kernel_rfl) rfl (by kernel_rfl) (fun _ _ d _ _ h => by cases d <;> exact h) ?_
  intro W43 he43 hh43
  replace hE := Ext.trans hE he43
  replace h_aps := h_aps.ext he43
  replace h_bps := h_bps.ext he43
  replace hB4 := hB4.ext he43
  replace hB5 := hB5.ext he43
  replace hC16 := hC16.ext he43
  replace hB9 := hB9.ext he43
  replace hC18 := hC18.ext he43
  replace hB10 := hB10.ext he43
  replace hC22 := hC22.ext he43
  replace hC26 := hC26.ext he43
  replace hO27 := hO27.ext he43
  have hs43 := he43.size
  refine RO_q rfl rfl (Yd_move rfl) (RO_q rfl rfl (Yd_move rfl) (RO_q rfl rfl (Yd_idxL Try.underlying28 (sz := 4) (by kernel_rfl) rfl rfl (by omega) (by omega)) (RO_q rfl rfl (Yd_loadA (cs := [.int .i64 fr22, .int .i64 dp22, .int .i64 sc22, .slice AC22 nC22 cC22]) Try.underlying24 rfl (by kernel_rfl) rfl (fun W hW => (Vw.lqAL hO27.vw (i := 2) (a := (⟨fr22, dp22, sc22, AC22, nC22, cC22⟩ : CfH)) rfl rfl rfl) W hW.ext)) (RO_q rfl rfl (Yd_move rfl) (RO_q rfl rfl (Yd_move rfl) (RO_q rfl rfl (Yd_idxL Try.underlying28 (sz := 4) (by kernel_rfl) rfl rfl (by omega) (by omega)) (RO_q rfl rfl (Yd_loadA (cs := [.int .i64 fr22, .int .i64 dp22, .int .i64 sc22, .slice AC22 nC22 cC22]) Try.underlying24 rfl (by kernel_rfl) rfl (fun W hW => (Vw.lqAL hO27.vw (i := 2) (a := (⟨fr22, dp22, sc22, AC22, nC22, cC22⟩ : CfH)) rfl rfl rfl) W hW.ext)) (RO_q rfl rfl (Yd_move rfl) (RO_q rfl rfl (Yd_move rfl) (RO_q rfl rfl (Yd_idxL Try.underlying28 (sz := 4) (by kernel_rfl) rfl rfl (by omega) (by omega)) (RO_q rfl rfl (Yd_loadA (cs := [.int .i64 fr22, .int .i64 dp22, .int .i64 sc22, .slice AC22 nC22 cC22]) Try.underlying24 rfl (by kernel_rfl) rfl (fun W hW => (Vw.lqAL hO27.vw (i := 2) (a := (⟨fr22, dp22, sc22, AC22, nC22, cC22⟩ : CfH)) rfl rfl rfl) W hW.ext)) (RO_q rfl rfl (Yd_move rfl) (RO_q rfl rfl (Yd_move rfl) (RO_q rfl rfl (Yd_idxL Try.underlying28 (sz := 4) (by kernel_rfl) rfl rfl (by omega) (by omega)) (RO_q rfl rfl (Yd_loadA (cs := [.int .i64 fr22, .int .i64 dp22, .int .i64 sc22, .slice AC22 nC22 cC22]) Try.underlying24 rfl (by kernel_rfl) rfl (fun W hW => (Vw.lqAL hO27.vw (i := 2) (a := (⟨fr22, dp22, sc22, AC22, nC22, cC22⟩ : CfH)) rfl rfl rfl) W hW.ext)) (RO_l rfl rfl (Ld_call Try.func25 rfl (by kernel_rfl) rfl (SameV hC22.vw ⟨by omega, by omega, by omega, by omega, by omega, by omega⟩ hC22.vw ⟨by omega, by omega, by omega, by omega, by omega, by omega⟩) ?_)))))))))))))))))
  rintro e W44 ⟨_, rfl, rfl, he44⟩
  refine ⟨_, rfl, ?_⟩
  refine ⟨Kp.of_ext he44, ?_⟩
  replace hE := Ext.trans hE he44
  replace h_aps := h_aps.ext he44
  replace h_bps := h_bps.ext he44
  replace hB4 := hB4.ext he44
  replace hB5 := hB5.ext he44
  replace hC16 := hC16.ext he44
  replace hB9 := hB9.ext he44
  replace hC18 := hC18.ext he44
  replace hB10 := hB10.ext he44
  replace hC22 := hC22.ext he44
  replace hC26 := hC26.ext he44
  replace hO27 := hO27.ext he44
  have hs44 := he44.size
  refine RO_l rfl rfl (Ld_call Try.func26 rfl (by kernel_rfl) rfl (refSameV hC22.vw ⟨by omega, by omega, by omega, by omega, by omega, by omega⟩ hC22.vw ⟨by omega, by omega, by omega, by omega, by omega, by omega⟩) ?_)
  rintro e W45 ⟨_, rfl, rfl, he45⟩
  refine ⟨_, rfl, ?_⟩
  refine ⟨Kp.of_ext he45, ?_⟩
  replace hE := Ext.trans hE he45
  replace h_aps := h_aps.ext he45
  replace h_bps := h_bps.ext he45
  replace hB4 := hB4.ext he45
  replace hB5 := hB5.ext he45
  replace hC16 := hC16.ext he45
  replace hB9 := hB9.ext he45
  replace hC18 := hC18.ext he45
  replace hB10 := hB10.ext he45
  replace hC22 := hC22.ext he45
  replace hC26 := hC26.ext he45
  replace hO27 := hO27.ext he45
  have hs45 := he45.size
  refine RO_q rfl rfl (Yd_neqB Try.underlying4 rfl rfl) (RO_nil (X_then (?_)))
  refine C_no rfl (by simp) (C_skip (X_block (X_then (C_region (RL_q rfl (Yd_move rfl) (RL_q rfl (Yd_add (r := 3) rfl rfl rfl) (RL_q rfl (Yd_assign rfl) (RL_nil (X_round (CR_sub (E' := [(9, .pointer (some ⟨W3.heap.size, 0, none⟩)), (11, .slice (some ⟨W11.heap.size, 0, none⟩) 4 4), (12, .int .i64 2), (13, .int .i64 3), (28, .int .i64 2), (29, .bool true)]) ⟨rfl, rfl, rfl, rfl, rfl, rfl, trivial⟩ (CR_succ (C_seq (C_seq (C_region (RL_q rfl (Yd_move rfl) (RL_q rfl (Yd_lss rfl rfl) (RL_nil (X_then (C_yes rfl rfl (C_skip (X_then (C_seq (C_block (C_seq (?_)))))))))))))))))))))))))
  refine C_regionD (NoB) (l := [(0, true), (1, true), (2, true), (3, true), (4, true), (5, true), (6, true), (7, true), (9, true), (10, true), (11, true), (12, true), (13, true), (14, true), (15, true), (16, true), (8, false), (17, false), (18, true)]) (by kernel_rfl) (by kernel_rfl) rfl (by kernel_rfl) (fun _ _ d _ _ h => by cases d <;> exact h) ?_
  intro W46 he46 hh46
  replace hE := Ext.trans hE he46
  replace h_aps := h_aps.ext he46
  replace h_bps := h_bps.ext he46
  replace hB4 := hB4.ext he46
  replace hB5 := hB5.ext he46
  replace hC16 := hC16.ext he46
  replace hB9 := hB9.ext he46
  replace hC18 := hC18.ext he46
  replace hB10 := hB10.ext he46
  replace hC22 := hC22.ext he46
  replace hC26 := hC26.ext he46
  replace hO27 := hO27.ext he46
  have hs46 := he46.size
  refine RO_q rfl rfl (Yd_move rfl) (RO_q rfl rfl (Yd_move rfl) (RO_q rfl rfl (Yd_idxL Try.underlying28 (sz := 4) (by kernel_rfl) rfl rfl (by omega) (by omega)) (RO_q rfl rfl (Yd_loadA (cs := [.int .i64 fr22, .int .i64 dp22, .int .i64 sc22, .slice AC22 nC22 cC22]) Try.underlying24 rfl (by kernel_rfl) rfl (fun W hW => (Vw.lqAL hO27.vw (i := 2) (a := (⟨fr22, dp22, sc22, AC22, nC22, cC22⟩ : CfH)) rfl rfl rfl) W hW.ext)) (RO_q rfl rfl (Yd_move rfl) (RO_q rfl rfl (Yd_move rfl) (RO_q rfl rfl (Yd_idxL Try.underlying28 (sz := 4) (by kernel_rfl) rfl rfl (by omega) (by omega)) (RO_q rfl rfl (Yd_loadA (cs := [.int .i64 fr26, .int .i64 dp26, .int .i64 sc26, .slice AC26 nC26 cC26]) Try.underlying24 rfl (by kernel_rfl) rfl (fun W hW => (Vw.lqAL hO27.vw (i := 3) (a := (⟨fr26, dp26, sc26, AC26, nC26, cC26⟩ : CfH)) rfl rfl rfl) W hW.ext)) (RO_q rfl rfl (Yd_move rfl) (RO_q rfl rfl (Yd_move rfl) (RO_q rfl rfl (Yd_idxL Try.underlying28 (sz := 4) (by kernel_rfl) rfl rfl (by omega) (by omega)) (RO_q rfl rfl (Yd_loadA (cs := [.int .i64 fr22, .int .i64 dp22, .int .i64 sc22, .slice AC22 nC22 cC22]) Try.underlying24 rfl (by kernel_rfl) rfl (fun W hW => (Vw.lqAL hO27.vw (i := 2) (a := (⟨fr22, dp22, sc22, AC22, nC22, cC22⟩ : CfH)) rfl rfl rfl) W hW.ext)) (RO_q rfl rfl (Yd_move rfl) (RO_q rfl rfl (Yd_move rfl) (RO_q rfl rfl (Yd_idxL Try.underlying28 (sz := 4) (by kernel_rfl) rfl rfl (by omega) (by omega)) (RO_q rfl rfl (Yd_loadA (cs := [.int .i64 fr26, .int .i64 dp26, .int .i64 sc26, .slice AC26 nC26 cC26]) Try.underlying24 rfl (by kernel_rfl) rfl (fun W hW => (Vw.lqAL hO27.vw (i := 3) (a := (⟨fr26, dp26, sc26, AC26, nC26, cC26⟩ : CfH)) rfl rfl rfl) W hW.ext)) (RO_l rfl rfl (Ld_call Try.func25 rfl (by kernel_rfl) rfl (SameV hC22.vw ⟨by omega, by omega, by omega, by omega, by omega, by omega⟩ hC26.vw ⟨by omega, by omega, by omega, by omega, by omega, by omega⟩) ?_)))))))))))))))))
  rintro e W47 ⟨_, rfl, rfl, he47⟩
  refine ⟨_, rfl, ?_⟩
  refine ⟨Kp.of_ext he47, ?_⟩
  replace hE := Ext.trans hE he47
  replace h_aps := h_aps.ext he47
  replace h_bps := h_bps.ext he47
  replace hB4 := hB4.ext he47
  replace hB5 := hB5.ext he47
  replace hC16 := hC16.ext he47
  replace hB9 := hB9.ext he47
  replace hC18 := hC18.ext he47
  replace hB10 := hB10.ext he47
  replace hC22 := hC22.ext he47
  replace hC26 := hC26.ext he47
  replace hO27 := hO27.ext he47
  have hs47 := he47.size
  refine RO_l rfl rfl (Ld_call Try.func26 rfl (by kernel_rfl) rfl (refSameV hC22.vw ⟨by omega, by omega, by omega, by omega, by omega, by omega⟩ hC26.vw ⟨by omega, by omega, by omega, by omega, by omega, by omega⟩) ?_)
  rintro e W48 ⟨_, rfl, rfl, he48⟩
  refine ⟨_, rfl, ?_⟩
  refine ⟨Kp.of_ext he48, ?_⟩
  replace hE := Ext.trans hE he48
  replace h_aps := h_aps.ext he48
  replace h_bps := h_bps.ext he48
  replace hB4 := hB4.ext he48
  replace hB5 := hB5.ext he48
  replace hC16 := hC16.ext he48
  replace hB9 := hB9.ext he48
  replace hC18 := hC18.ext he48
  replace hB10 := hB10.ext he48
  replace hC22 := hC22.ext he48
  replace hC26 := hC26.ext he48
  replace hO27 := hO27.ext he48
  have hs48 := he48.size
  refine RO_q rfl rfl (Yd_neqB Try.underlying4 rfl rfl) (RO_nil (X_then (?_)))
  refine C_no rfl (by simp) (C_skip (X_block (X_then (C_region (RL_q rfl (Yd_move rfl) (RL_q rfl (Yd_add (r := 4) rfl rfl rfl) (RL_q rfl (Yd_assign rfl) (RL_nil (X_round (CR_sub (E' := [(9, .pointer (some ⟨W3.heap.size, 0, none⟩)), (11, .slice (some ⟨W11.heap.size, 0, none⟩) 4 4), (12, .int .i64 2), (13, .int .i64 4), (28, .int .i64 2), (29, .bool true)]) ⟨rfl, rfl, rfl, rfl, rfl, rfl, trivial⟩ (CR_succ (C_seq (C_seq (C_region (RL_q rfl (Yd_move rfl) (RL_q rfl (Yd_lss rfl rfl) (RL_nil (X_then (C_no rfl rfl (C_exit (X_thenE (X_thenE (X_blockE (X_block (X_then (C_region (RL_q rfl (Yd_move rfl) (RL_q rfl (Yd_add (r := 3) rfl rfl rfl) (RL_q rfl (Yd_assign rfl) (RL_nil (X_round (CR_sub (E' := [(9, .pointer (some ⟨W3.heap.size, 0, none⟩)), (11, .slice (some ⟨W11.heap.size, 0, none⟩) 4 4), (12, .int .i64 3)]) ⟨rfl, rfl, rfl, trivial⟩ (CR_succ (C_seq (C_seq (C_region (RL_q rfl (Yd_move rfl) (RL_q rfl (Yd_lss rfl rfl) (RL_nil (X_then (C_yes rfl rfl (C_skip (X_then (C_seq (C_block (C_seq (C_region (RL_q rfl (Yd_assign rfl) (RL_nil (X_then (C_block (C_rounds 5 (CR_succ (C_seq (C_seq (C_region (RL_q rfl (Yd_move rfl) (RL_q rfl (Yd_lss rfl rfl) (RL_nil (X_then (C_yes rfl rfl (C_skip (X_then (C_seq (C_block (C_seq (?_)))))))))))))))))))))))))))))))))))))))))))))))))))))))))))))))))))
  refine C_regionD (NoB) (l := [(0, true), (1, true), (2, true), (3, true), (4, true), (5, true), (6, true), (7, true), (9, true), (10, true), (11, true), (12, true), (13, true), (14, true), (15, true), (16, true), (8, false), (17, false), (18, true)]) (by kernel_rfl) (by kernel_rfl) rfl (by kernel_rfl) (fun _ _ d _ _ h => by cases d <;> exact h) ?_
  intro W49 he49 hh49
  replace hE := Ext.trans hE he49
  replace h_aps := h_aps.ext he49
  replace h_bps := h_bps.ext he49
  replace hB4 := hB4.ext he49
  replace hB5 := hB5.ext he49
  replace hC16 := hC16.ext he49
  replace hB9 := hB9.ext he49
  replace hC18 := hC18.ext he49
  replace hB10 := hB10.ext he49
  replace hC22 := hC22.ext he49
  replace hC26 := hC26.ext he49
  replace hO27 := hO27.ext he49
  have hs49 := he49.size
  refine RO_q rfl rfl (Yd_move rfl) (RO_q rfl rfl (Yd_move rfl) (RO_q rfl rfl (Yd_idxL Try.underlying28 (sz := 4) (by kernel_rfl) rfl rfl (by omega) (by omega)) (RO_q rfl rfl (Yd_loadA (cs := [.int .i64 fr26, .int .i64 dp26, .int .i64 sc26, .slice AC26 nC26 cC26]) Try.underlying24 rfl (by kernel_rfl) rfl (fun W hW => (Vw.lqAL hO27.vw (i := 3) (a := (⟨fr26, dp26, sc26, AC26, nC26, cC26⟩ : CfH)) rfl rfl rfl) W hW.ext)) (RO_q rfl rfl (Yd_move rfl) (RO_q rfl rfl (Yd_move rfl) (RO_q rfl rfl (Yd_idxL Try.underlying28 (sz := 4) (by kernel_rfl) rfl rfl (by omega) (by omega)) (RO_q rfl rfl (Yd_loadA (cs := [.int .i64 fr16, .int .i64 dp16, .int .i64 sc16, .slice AC16 nC16 cC16]) Try.underlying24 rfl (by kernel_rfl) rfl (fun W hW => (Vw.lqAL hO27.vw (i := 0) (a := (⟨fr16, dp16, sc16, AC16, nC16, cC16⟩ : CfH)) rfl rfl rfl) W hW.ext)) (RO_q rfl rfl (Yd_move rfl) (RO_q rfl rfl (Yd_move rfl) (RO_q rfl rfl (Yd_idxL Try.underlying28 (sz := 4) (by kernel_rfl) rfl rfl (by omega) (by omega)) (RO_q rfl rfl (Yd_loadA (cs := [.int .i64 fr26, .int .i64 dp26, .int .i64 sc26, .slice AC26 nC26 cC26]) Try.underlying24 rfl (by kernel_rfl) rfl (fun W hW => (Vw.lqAL hO27.vw (i := 3) (a := (⟨fr26, dp26, sc26, AC26, nC26, cC26⟩ : CfH)) rfl rfl rfl) W hW.ext)) (RO_q rfl rfl (Yd_move rfl) (RO_q rfl rfl (Yd_move rfl) (RO_q rfl rfl (Yd_idxL Try.underlying28 (sz := 4) (by kernel_rfl) rfl rfl (by omega) (by omega)) (RO_q rfl rfl (Yd_loadA (cs := [.int .i64 fr16, .int .i64 dp16, .int .i64 sc16, .slice AC16 nC16 cC16]) Try.underlying24 rfl (by kernel_rfl) rfl (fun W hW => (Vw.lqAL hO27.vw (i := 0) (a := (⟨fr16, dp16, sc16, AC16, nC16, cC16⟩ : CfH)) rfl rfl rfl) W hW.ext)) (RO_l rfl rfl (Ld_call Try.func25 rfl (by kernel_rfl) rfl (SameV hC26.vw ⟨by omega, by omega, by omega, by omega, by omega, by omega⟩ hC16.vw ⟨by omega, by omega, by omega, by omega, by omega, by omega⟩) ?_)))))))))))))))))
  rintro e W50 ⟨_, rfl, rfl, he50⟩
  refine ⟨_, rfl, ?_⟩
  refine ⟨Kp.of_ext he50, ?_⟩
  replace hE := Ext.trans hE he50
  replace h_aps := h_aps.ext he50
  replace h_bps := h_bps.ext he50
  replace hB4 := hB4.ext he50
  replace hB5 := hB5.ext he50
  replace hC16 := hC16.ext he50
  replace hB9 := hB9.ext he50
  replace hC18 := hC18.ext he50
  replace hB10 := hB10.ext he50
  replace hC22 := hC22.ext he50
  replace hC26 := hC26.ext he50
  replace hO27 := hO27.ext he50
  have hs50 := he50.size
  refine RO_l rfl rfl (Ld_call Try.func26 rfl (by kernel_rfl) rfl (refSameV hC26.vw ⟨by omega, by omega, by omega, by omega, by omega, by omega⟩ hC16.vw ⟨by omega, by omega, by omega, by omega, by omega, by omega⟩) ?_)
  rintro e W51 ⟨_, rfl, rfl, he51⟩
  refine ⟨_, rfl, ?_⟩
  refine ⟨Kp.of_ext he51, ?_⟩
  replace hE := Ext.trans hE he51
  replace h_aps := h_aps.ext he51
  replace h_bps := h_bps.ext he51
  replace hB4 := hB4.ext he51
  replace hB5 := hB5.ext he51
  replace hC16 := hC16.ext he51
  replace hB9 := hB9.ext he51
  replace hC18 := hC18.ext he51
  replace hB10 := hB10.ext he51
  replace hC22 := hC22.ext he51
  replace hC26 := hC26.ext he51
  replace hO27 := hO27.ext he51
  have hs51 := he51.size
  refine RO_q rfl rfl (Yd_neqB Try.underlying4 rfl rfl) (RO_nil (X_then (?_)))
  refine C_no rfl (by simp) (C_skip (X_block (X_then (C_region (RL_q rfl (Yd_move rfl) (RL_q rfl (Yd_add (r := 1) rfl rfl rfl) (RL_q rfl (Yd_assign rfl) (RL_nil (X_round (CR_sub (E' := [(9, .pointer (some ⟨W3.heap.size, 0, none⟩)), (11, .slice (some ⟨W11.heap.size, 0, none⟩) 4 4), (12, .int .i64 3), (13, .int .i64 1), (28, .int .i64 3), (29, .bool true)]) ⟨rfl, rfl, rfl, rfl, rfl, rfl, trivial⟩ (CR_succ (C_seq (C_seq (C_region (RL_q rfl (Yd_move rfl) (RL_q rfl (Yd_lss rfl rfl) (RL_nil (X_then (C_yes rfl rfl (C_skip (X_then (C_seq (C_block (C_seq (?_)))))))))))))))))))))))))
  refine C_regionD (NoB) (l := [(0, true), (1, true), (2, true), (3, true), (4, true), (5, true), (6, true), (7, true), (9, true), (10, true), (11, true), (12, true), (13, true), (14, true), (15, true), (16, true), (8, false), (17, false), (18, true)]) (by kernel_rfl) (by kernel_rfl) rfl (by kernel_rfl) (fun _ _ d _ _ h => by cases d <;> exact h) ?_
  intro W52 he52 hh52
  replace hE := Ext.trans hE he52
  replace h_aps := h_aps.ext he52
  replace h_bps := h_bps.ext he52
  replace hB4 := hB4.ext he52
  replace hB5 := hB5.ext he52
  replace hC16 := hC16.ext he52
  replace hB9 := hB9.ext he52
  replace hC18 := hC18.ext he52
  replace hB10 := hB10.ext he52
  replace hC22 := hC22.ext he52
  replace hC26 := hC26.ext he52
  replace hO27 := hO27.ext he52
  have hs52 := he52.size
  refine RO_q rfl rfl (Yd_move rfl) (RO_q rfl rfl (Yd_move rfl) (RO_q rfl rfl (Yd_idxL Try.underlying28 (sz := 4) (by kernel_rfl) rfl rfl (by omega) (by omega)) (RO_q rfl rfl (Yd_loadA (cs := [.int .i64 fr26, .int .i64 dp26, .int .i64 sc26, .slice AC26 nC26 cC26]) Try.underlying24 rfl (by kernel_rfl) rfl (fun W hW => (Vw.lqAL hO27.vw (i := 3) (a := (⟨fr26, dp26, sc26, AC26, nC26, cC26⟩ : CfH)) rfl rfl rfl) W hW.ext)) (RO_q rfl rfl (Yd_move rfl) (RO_q rfl rfl (Yd_move rfl) (RO_q rfl rfl (Yd_idxL Try.underlying28 (sz := 4) (by kernel_rfl) rfl rfl (by omega) (by omega)) (RO_q rfl rfl (Yd_loadA (cs := [.int .i64 fr18, .int .i64 dp18, .int .i64 sc18, .slice AC18 nC18 cC18]) Try.underlying24 rfl (by kernel_rfl) rfl (fun W hW => (Vw.lqAL hO27.vw (i := 1) (a := (⟨fr18, dp18, sc18, AC18, nC18, cC18⟩ : CfH)) rfl rfl rfl) W hW.ext)) (RO_q rfl rfl (Yd_move rfl) (RO_q rfl rfl (Yd_move rfl) (RO_q rfl rfl (Yd_idxL Try.underlying28 (sz := 4) (by kernel_rfl) rfl rfl (by omega) (by omega)) (RO_q rfl rfl (Yd_loadA (cs := [.int .i64 fr26, .int .i64 dp26, .int .i64 sc26, .slice AC26 nC26 cC26]) Try.underlying24 rfl (by kernel_rfl) rfl (fun W hW => (Vw.lqAL hO27.vw (i := 3) (a := (⟨fr26, dp26, sc26, AC26, nC26, cC26⟩ : CfH)) rfl rfl rfl) W hW.ext)) (RO_q rfl rfl (Yd_move rfl) (RO_q rfl rfl (Yd_move rfl) (RO_q rfl rfl (Yd_idxL Try.underlying28 (sz := 4) (by kernel_rfl) rfl rfl (by omega) (by omega)) (RO_q rfl rfl (Yd_loadA (cs := [.int .i64 fr18, .int .i64 dp18, .int .i64 sc18, .slice AC18 nC18 cC18]) Try.underlying24 rfl (by kernel_rfl) rfl (fun W hW => (Vw.lqAL hO27.vw (i := 1) (a := (⟨fr18, dp18, sc18, AC18, nC18, cC18⟩ : CfH)) rfl rfl rfl) W hW.ext)) (RO_l rfl rfl (Ld_call Try.func25 rfl (by kernel_rfl) rfl (SameV hC26.vw ⟨by omega, by omega, by omega, by omega, by omega, by omega⟩ hC18.vw ⟨by omega, by omega, by omega, by omega, by omega, by omega⟩) ?_)))))))))))))))))
  rintro e W53 ⟨_, rfl, rfl, he53⟩
  refine ⟨_, rfl, ?_⟩
  refine ⟨Kp.of_ext he53, ?_⟩
  replace hE := Ext.trans hE he53
  replace h_aps := h_aps.ext he53
  replace h_bps := h_bps.ext he53
  replace hB4 := hB4.ext he53
  replace hB5 := hB5.ext he53
  replace hC16 := hC16.ext he53
  replace hB9 := hB9.ext he53
  replace hC18 := hC18.ext he53
  replace hB10 := hB10.ext he53
  replace hC22 := hC22.ext he53
  replace hC26 := hC26.ext he53
  replace hO27 := hO27.ext he53
  have hs53 := he53.size
  refine RO_l rfl rfl (Ld_call Try.func26 rfl (by kernel_rfl) rfl (refSameV hC26.vw ⟨by omega, by omega, by omega, by omega, by omega, by omega⟩ hC18.vw ⟨by omega, by omega, by omega, by omega, by omega, by omega⟩) ?_)
  rintro e W54 ⟨_, rfl, rfl, he54⟩
  refine ⟨_, rfl, ?_⟩
  refine ⟨Kp.of_ext he54, ?_⟩
  replace hE := Ext.trans hE he54
  replace h_aps := h_aps.ext he54
  replace h_bps := h_bps.ext he54
  replace hB4 := hB4.ext he54
  replace hB5 := hB5.ext he54
  replace hC16 := hC16.ext he54
  replace hB9 := hB9.ext he54
  replace hC18 := hC18.ext he54
  replace hB10 := hB10.ext he54
  replace hC22 := hC22.ext he54
  replace hC26 := hC26.ext he54
  replace hO27 := hO27.ext he54
  have hs54 := he54.size
  refine RO_q rfl rfl (Yd_neqB Try.underlying4 rfl rfl) (RO_nil (X_then (?_)))
  refine C_no rfl (by simp) (C_skip (X_block (X_then (C_region (RL_q rfl (Yd_move rfl) (RL_q rfl (Yd_add (r := 2) rfl rfl rfl) (RL_q rfl (Yd_assign rfl) (RL_nil (X_round (CR_sub (E' := [(9, .pointer (some ⟨W3.heap.size, 0, none⟩)), (11, .slice (some ⟨W11.heap.size, 0, none⟩) 4 4), (12, .int .i64 3), (13, .int .i64 2), (28, .int .i64 3), (29, .bool true)]) ⟨rfl, rfl, rfl, rfl, rfl, rfl, trivial⟩ (CR_succ (C_seq (C_seq (C_region (RL_q rfl (Yd_move rfl) (RL_q rfl (Yd_lss rfl rfl) (RL_nil (X_then (C_yes rfl rfl (C_skip (X_then (C_seq (C_block (C_seq (?_)))))))))))))))))))))))))
  refine C_regionD (NoB) (l := [(0, true), (1, true), (2, true), (3, true), (4, true), (5, true), (6, true), (7, true), (9, true), (10, true), (11, true), (12, true), (13, true), (14, true), (15, true), (16, true), (8, false), (17, false), (18, true)]) (by kernel_rfl) (by kernel_rfl) rfl (by kernel_rfl) (fun _ _ d _ _ h => by cases d <;> exact h) ?_
  intro W55 he55 hh55
  replace hE := Ext.trans hE he55
  replace h_aps := h_aps.ext he55
  replace h_bps := h_bps.ext he55
  replace hB4 := hB4.ext he55
  replace hB5 := hB5.ext he55
  replace hC16 := hC16.ext he55
  replace hB9 := hB9.ext he55
  replace hC18 := hC18.ext he55
  replace hB10 := hB10.ext he55
  replace hC22 := hC22.ext he55
  replace hC26 := hC26.ext he55
  replace hO27 := hO27.ext he55
  have hs55 := he55.size
  refine RO_q rfl rfl (Yd_move rfl) (RO_q rfl rfl (Yd_move rfl) (RO_q rfl rfl (Yd_idxL Try.underlying28 (sz := 4) (by kernel_rfl) rfl rfl (by omega) (by omega)) (RO_q rfl rfl (Yd_loadA (cs := [.int .i64 fr26, .int .i64 dp26, .int .i64 sc26, .slice AC26 nC26 cC26]) Try.underlying24 rfl (by kernel_rfl) rfl (fun W hW => (Vw.lqAL hO27.vw (i := 3) (a := (⟨fr26, dp26, sc26, AC26, nC26, cC26⟩ : CfH)) rfl rfl rfl) W hW.ext)) (RO_q rfl rfl (Yd_move rfl) (RO_q rfl rfl (Yd_move rfl) (RO_q rfl rfl (Yd_idxL Try.underlying28 (sz := 4) (by kernel_rfl) rfl rfl (by omega) (by omega)) (RO_q rfl rfl (Yd_loadA (cs := [.int .i64 fr22, .int .i64 dp22, .int .i64 sc22, .slice AC22 nC22 cC22]) Try.underlying24 rfl (by kernel_rfl) rfl (fun W hW => (Vw.lqAL hO27.vw (i := 2) (a := (⟨fr22, dp22, sc22, AC22, nC22, cC22⟩ : CfH)) rfl rfl rfl) W hW.ext)) (RO_q rfl rfl (Yd_move rfl) (RO_q rfl rfl (Yd_move rfl) (RO_q rfl rfl (Yd_idxL Try.underlying28 (sz := 4) (by kernel_rfl) rfl rfl (by omega) (by omega)) (RO_q rfl rfl (Yd_loadA (cs := [.int .i64 fr26, .int .i64 dp26, .int .i64 sc26, .slice AC26 nC26 cC26]) Try.underlying24 rfl (by kernel_rfl) rfl (fun W hW => (Vw.lqAL hO27.vw (i := 3) (a := (⟨fr26, dp26, sc26, AC26, nC26, cC26⟩ : CfH)) rfl rfl rfl) W hW.ext)) (RO_q rfl rfl (Yd_move rfl) (RO_q rfl rfl (Yd_move rfl) (RO_q rfl rfl (Yd_idxL Try.underlying28 (sz := 4) (by kernel_rfl) rfl rfl (by omega) (by omega)) (RO_q rfl rfl (Yd_loadA (cs := [.int .i64 fr22, .int .i64 dp22, .int .i64 sc22, .slice AC22 nC22 cC22]) Try.underlying24 rfl (by kernel_rfl) rfl (fun W hW => (Vw.lqAL hO27.vw (i := 2) (a := (⟨fr22, dp22, sc22, AC22, nC22, cC22⟩ : CfH)) rfl rfl rfl) W hW.ext)) (RO_l rfl rfl (Ld_call Try.func25 rfl (by kernel_rfl) rfl (SameV hC26.vw ⟨by omega, by omega, by omega, by omega, by omega, by omega⟩ hC22.vw ⟨by omega, by omega, by omega, by omega, by omega, by omega⟩) ?_)))))))))))))))))
  rintro e W56 ⟨_, rfl, rfl, he56⟩
  refine ⟨_, rfl, ?_⟩
  refine ⟨Kp.of_ext he56, ?_⟩
  replace hE := Ext.trans hE he56
  replace h_aps := h_aps.ext he56
  replace h_bps := h_bps.ext he56
  replace hB4 := hB4.ext he56
  replace hB5 := hB5.ext he56
  replace hC16 := hC16.ext he56
  replace hB9 := hB9.ext he56
  replace hC18 := hC18.ext he56
  replace hB10 := hB10.ext he56
  replace hC22 := hC22.ext he56
  replace hC26 := hC26.ext he56
  replace hO27 := hO27.ext he56
  have hs56 := he56.size
  refine RO_l rfl rfl (Ld_call Try.func26 rfl (by kernel_rfl) rfl (refSameV hC26.vw ⟨by omega, by omega, by omega, by omega, by omega, by omega⟩ hC22.vw ⟨by omega, by omega, by omega, by omega, by omega, by omega⟩) ?_)
  rintro e W57 ⟨_, rfl, rfl, he57⟩
  refine ⟨_, rfl, ?_⟩
  refine ⟨Kp.of_ext he57, ?_⟩
  replace hE := Ext.trans hE he57
  replace h_aps := h_aps.ext he57
  replace h_bps := h_bps.ext he57
  replace hB4 := hB4.ext he57
  replace hB5 := hB5.ext he57
  replace hC16 := hC16.ext he57
  replace hB9 := hB9.ext he57
  replace hC18 := hC18.ext he57
  replace hB10 := hB10.ext he57
  replace hC22 := hC22.ext he57
  replace hC26 := hC26.ext he57
  replace hO27 := hO27.ext he57
  have hs57 := he57.size
  refine RO_q rfl rfl (Yd_neqB Try.underlying4 rfl rfl) (RO_nil (X_then (?_)))
  refine C_no rfl (by simp) (C_skip (X_block (X_then (C_region (RL_q rfl (Yd_move rfl) (RL_q rfl (Yd_add (r := 3) rfl rfl rfl) (RL_q rfl (Yd_assign rfl) (RL_nil (X_round (CR_sub (E' := [(9, .pointer (some ⟨W3.heap.size, 0, none⟩)), (11, .slice (some ⟨W11.heap.size, 0, none⟩) 4 4), (12, .int .i64 3), (13, .int .i64 3), (28, .int .i64 3), (29, .bool true)]) ⟨rfl, rfl, rfl, rfl, rfl, rfl, trivial⟩ (CR_succ (C_seq (C_seq (C_region (RL_q rfl (Yd_move rfl) (RL_q rfl (Yd_lss rfl rfl) (RL_nil (X_then (C_yes rfl rfl (C_skip (X_then (C_seq (C_block (C_seq (?_)))))))))))))))))))))))))
  refine C_regionD (NoB) (l := [(0, true), (1, true), (2, true), (3, true), (4, true), (5, true), (6, true), (7, true), (9, true), (10, true), (11, true), (12, true), (13, true), (14, true), (15, true), (16, true), (8, false), (17, false), (18, true)]) (by kernel_rfl) (by kernel_rfl) rfl (by kernel_rfl) (fun _ _ d _ _ h => by cases d <;> exact h) ?_
  intro W58 he58 hh58
  replace hE := Ext.trans hE he58
  replace h_aps := h_aps.ext he58
  replace h_bps := h_bps.ext he58
  replace hB4 := hB4.ext he58
  replace hB5 := hB5.ext he58
  replace hC16 := hC16.ext he58
  replace hB9 := hB9.ext he58
  replace hC18 := hC18.ext he58
  replace hB10 := hB10.ext he58
  replace hC22 := hC22.ext he58
  replace hC26 := hC26.ext he58
  replace hO27 := hO27.ext he58
  have hs58 := he58.size
  refine RO_q rfl rfl (Yd_move rfl) (RO_q rfl rfl (Yd_move rfl) (RO_q rfl rfl (Yd_idxL Try.underlying28 (sz := 4) (by kernel_rfl) rfl rfl (by omega) (by omega)) (RO_q rfl rfl (Yd_loadA (cs := [.int .i64 fr26, .int .i64 dp26, .int .i64 sc26, .slice AC26 nC26 cC26]) Try.underlying24 rfl (by kernel_rfl) rfl (fun W hW => (Vw.lqAL hO27.vw (i := 3) (a := (⟨fr26, dp26, sc26, AC26, nC26, cC26⟩ : CfH)) rfl rfl rfl) W hW.ext)) (RO_q rfl rfl (Yd_move rfl) (RO_q rfl rfl (Yd_move rfl) (RO_q rfl rfl (Yd_idxL Try.underlying28 (sz := 4) (by kernel_rfl) rfl rfl (by omega) (by omega)) (RO_q rfl rfl (Yd_loadA (cs := [.int .i64 fr26, .int .i64 dp26, .int .i64 sc26, .slice AC26 nC26 cC26]) Try.underlying24 rfl (by kernel_rfl) rfl (fun W hW => (Vw.lqAL hO27.vw (i := 3) (a := (⟨fr26, dp26, sc26, AC26, nC26, cC26⟩ : CfH)) rfl rfl rfl) W hW.ext)) (RO_q rfl rfl (Yd_move rfl) (RO_q rfl rfl (Yd_move rfl) (RO_q rfl rfl (Yd_idxL Try.underlying28 (sz := 4) (by kernel_rfl) rfl rfl (by omega) (by omega)) (RO_q rfl rfl (Yd_loadA (cs := [.int .i64 fr26, .int .i64 dp26, .int .i64 sc26, .slice AC26 nC26 cC26]) Try.underlying24 rfl (by kernel_rfl) rfl (fun W hW => (Vw.lqAL hO27.vw (i := 3) (a := (⟨fr26, dp26, sc26, AC26, nC26, cC26⟩ : CfH)) rfl rfl rfl) W hW.ext)) (RO_q rfl rfl (Yd_move rfl) (RO_q rfl rfl (Yd_move rfl) (RO_q rfl rfl (Yd_idxL Try.underlying28 (sz := 4) (by kernel_rfl) rfl rfl (by omega) (by omega)) (RO_q rfl rfl (Yd_loadA (cs := [.int .i64 fr26, .int .i64 dp26, .int .i64 sc26, .slice AC26 nC26 cC26]) Try.underlying24 rfl (by kernel_rfl) rfl (fun W hW => (Vw.lqAL hO27.vw (i := 3) (a := (⟨fr26, dp26, sc26, AC26, nC26, cC26⟩ : CfH)) rfl rfl rfl) W hW.ext)) (RO_l rfl rfl (Ld_call Try.func25 rfl (by kernel_rfl) rfl (SameV hC26.vw ⟨by omega, by omega, by omega, by omega, by omega, by omega⟩ hC26.vw ⟨by omega, by omega, by omega, by omega, by omega, by omega⟩) ?_)))))))))))))))))
  rintro e W59 ⟨_, rfl, rfl, he59⟩
  refine ⟨_, rfl, ?_⟩
  refine ⟨Kp.of_ext he59, ?_⟩
  replace hE := Ext.trans hE he59
  replace h_aps := h_aps.ext he59
  replace h_bps := h_bps.ext he59
  replace hB4 := hB4.ext he59
  replace hB5 := hB5.ext he59
  replace hC16 := hC16.ext he59
  replace hB9 := hB9.ext he59
  replace hC18 := hC18.ext he59
  replace hB10 := hB10.ext he59
  replace hC22 := hC22.ext he59
  replace hC26 := hC26.ext he59
  replace hO27 := hO27.ext he59
  have hs59 := he59.size
  refine RO_l rfl rfl (Ld_call Try.func26 rfl (by kernel_rfl) rfl (refSameV hC26.vw ⟨by omega, by omega, by omega, by omega, by omega, by omega⟩ hC26.vw ⟨by omega, by omega, by omega, by omega, by omega, by omega⟩) ?_)
  rintro e W60 ⟨_, rfl, rfl, he60⟩
  refine ⟨_, rfl, ?_⟩
  refine ⟨Kp.of_ext he60, ?_⟩
  replace hE := Ext.trans hE he60
  replace h_aps := h_aps.ext he60
  replace h_bps := h_bps.ext he60
  replace hB4 := hB4.ext he60
  replace hB5 := hB5.ext he60
  replace hC16 := hC16.ext he60
  replace hB9 := hB9.ext he60
  replace hC18 := hC18.ext he60
  replace hB10 := hB10.ext he60
  replace hC22 := hC22.ext he60
  replace hC26 := hC26.ext he60
  replace hO27 := hO27.ext he60
  have hs60 := he60.size
  refine RO_q rfl rfl (Yd_neqB Try.underlying4 rfl rfl) (RO_nil (X_then (?_)))
  refine C_no rfl (by simp) (C_skip (X_block (X_then (C_region (RL_q rfl (Yd_move rfl) (RL_q rfl (Yd_add (r := 4) rfl rfl rfl) (RL_q rfl (Yd_assign rfl) (RL_nil (X_round (CR_sub (E' := [(9, .pointer (some ⟨W3.heap.size, 0, none⟩)), (11, .slice (some ⟨W11.heap.size, 0, none⟩) 4 4), (12, .int .i64 3), (13, .int .i64 4), (28, .int .i64 3), (29, .bool true)]) ⟨rfl, rfl, rfl, rfl, rfl, rfl, trivial⟩ (CR_succ (C_seq (C_seq (C_region (RL_q rfl (Yd_move rfl) (RL_q rfl (Yd_lss rfl rfl) (RL_nil (X_then (C_no rfl rfl (C_exit (X_thenE (X_thenE (X_blockE (X_block (X_then (C_region (RL_q rfl (Yd_move rfl) (RL_q rfl (Yd_add (r := 4) rfl rfl rfl) (RL_q rfl (Yd_assign rfl) (RL_nil (X_round (CR_sub (E' := [(9, .pointer (some ⟨W3.heap.size, 0, none⟩)), (11, .slice (some ⟨W11.heap.size, 0, none⟩) 4 4), (12, .int .i64 4)]) ⟨rfl, rfl, rfl, trivial⟩ (CR_succ (C_seq (C_seq (C_region (RL_q rfl (Yd_move rfl) (RL_q rfl (Yd_lss rfl rfl) (RL_nil (X_then (C_no rfl rfl (C_exit (X_thenE (X_thenE (X_blockE (X_then (C_seq (C_region (RL_q rfl (Yd_loadA Try.underlying24 rfl (by kernel_rfl) rfl (ldBA hB9)) (RL_l rfl (Ld_call Try.func27 rfl (by kernel_rfl) rfl (CloneV hC16.vw ⟨by omega, by omega, by omega, by omega, by omega, by omega⟩ (by omega)) ?_)))))))))))))))))))))))))))))))))))))))))))))))))))
  rintro e W61 ⟨fr20056, dp20056, sc20056, AC20056, nC20056, cC20056, pC20056, rfl, hp20056, hC20056, he61⟩
  refine ⟨_, rfl, ?_⟩
  replace hE := Ext.trans hE he61
  replace h_aps := h_aps.ext he61
  replace h_bps := h_bps.ext he61
  replace hB4 := hB4.ext he61
  replace hB5 := hB5.ext he61
  replace hC16 := hC16.ext he61
  replace hB9 := hB9.ext he61
  replace hC18 := hC18.ext he61
  replace hB10 := hB10.ext he61
  replace hC22 := hC22.ext he61
  replace hC26 := hC26.ext he61
  replace hO27 := hO27.ext he61
  have hs61 := he61.size
  have hnC20056 := hC20056.ln
  have hcC20056 := hC20056.cap
  have hlq20056 := congrArg List.length hp20056.2.2.2
  refine RL_l rfl (Ld_alloc (v := (.agg #[(.int .i64 0), (.int .i64 0), (.int .i64 0), (.slice none 0 0)])) (by kernel_rfl) ?_)
  have hg_20014 := hE.size
  intro W62 he62 hz62 hB20014
  replace hE := Ext.trans hE he62
  replace h_aps := h_aps.ext he62
  replace h_bps := h_bps.ext he62
  replace hB4 := hB4.ext he62
  replace hB5 := hB5.ext he62
  replace hC16 := hC16.ext he62
  replace hB9 := hB9.ext he62
  replace hC18 := hC18.ext he62
  replace hB10 := hB10.ext he62
  replace hC22 := hC22.ext he62
  replace hC26 := hC26.ext he62
  replace hO27 := hO27.ext he62
  replace hC20056 := hC20056.ext he62
  refine RL_l0 (Ld_store (by kernel_rfl) rfl rfl hB20014 (Nat.le_of_ble_eq_true rfl) (by simp [cellsL, Value.cells, Value.oneCell']) ?_)
  intro W63 hu63 hz63 hB20014
  have hk63 := Kp.ofb hu63
  have hs63 := hk63.size
  replace hE := Ext.kp hE hk63 (fun k hk => by first | omega | (have hk := hk; dsimp only at hk; omega))
  replace h_aps := h_aps.kp hk63 (fun k hk => by first | omega | (have hk := hk; dsimp only at hk; omega))
  replace h_bps := h_bps.kp hk63 (fun k hk => by first | omega | (have hk := hk; dsimp only at hk; omega))
  replace hB4 := hB4.kp hk63 (fun hk => by first | omega | (have hk := hk; dsimp only at hk; omega))
  replace hB5 := hB5.kp hk63 (fun hk => by first | omega | (have hk := hk; dsimp only at hk; omega))
  replace hC16 := hC16.kp hk63 (fun k hk => by first | omega | (have hk := hk; dsimp only at hk; omega))
  replace hB9 := hB9.kp hk63 (fun hk => by first | omega | (have hk := hk; dsimp only at hk; omega))
  replace hC18 := hC18.kp hk63 (fun k hk => by first | omega | (have hk := hk; dsimp only at hk; omega))
  replace hB10 := hB10.kp hk63 (fun hk => by first | omega | (have hk := hk; dsimp only at hk; omega))
  replace hC22 := hC22.kp hk63 (fun k hk => by first | omega | (have hk := hk; dsimp only at hk; omega))
  replace hC26 := hC26.kp hk63 (fun k hk => by first | omega | (have hk := hk; dsimp only at hk; omega))
  replace hO27 := hO27.kp hk63 (fun k hk => by first | omega | (have hk := hk; dsimp only at hk; omega))
  replace hC20056 := hC20056.kp hk63 (fun k hk => by first | omega | (have hk := hk; dsimp only at hk; omega))
  refine RL_nil (X_then (C_seq (C_seq (C_region (RL_q rfl (Yd_loadA Try.underlying24 rfl (by kernel_rfl) rfl (ldBA hB20014)) (RL_q rfl (Yd_loadA Try.underlying24 rfl (by kernel_rfl) rfl (ldBA hB9)) (RL_l rfl (Ld_call Try.func26 rfl (by kernel_rfl) rfl (refSameV hC20056.vw ⟨by omega, by omega, by omega, by omega, by omega, by omega⟩ hC16.vw ⟨by omega, by omega, by omega, by omega, by omega, by omega⟩) ?_))))))))
  rintro e W64 ⟨_, rfl, rfl, he64⟩
  refine ⟨_, rfl, ?_⟩
  replace hE := Ext.trans hE he64
  replace h_aps := h_aps.ext he64
  replace h_bps := h_bps.ext he64
  replace hB4 := hB4.ext he64
  replace hB5 := hB5.ext he64
  replace hC16 := hC16.ext he64
  replace hB9 := hB9.ext he64
  replace hC18 := hC18.ext he64
  replace hB10 := hB10.ext he64
  replace hC22 := hC22.ext he64
  replace hC26 := hC26.ext he64
  replace hO27 := hO27.ext he64
  replace hC20056 := hC20056.ext he64
  replace hB20014 := hB20014.ext he64
  have hs64 := he64.size
  refine RL_q rfl (Yd_not rfl) (RL_q rfl (Yd_move rfl) (?_))
  refine RL_is (d := 61) (b' := false) rfl (by simp [*]) ?_
  refine RL_gq rfl rfl rfl (Yd_fld (off := 3) Try.underlying24 (by kernel_rfl) rfl) (RL_gq rfl rfl rfl (Yd_load Try.underlying22 rfl rfl (ldB hB20014 rfl)) (RL_gq rfl rfl rfl (Yd_len Try.underlying22 rfl) (RL_gq rfl rfl rfl (Yd_eql rfl rfl) (RL_q rfl (Yd_pickF rfl rfl) (RL_nil (X_then (?_)))))))
  refine C_no rfl (by simp; omega) (C_skip (X_then (C_seq (?_))))
  obtain ⟨gAC20056, rfl, hglAC20056, hghAC20056⟩ := Ow.at_ (i := 0) hC20056 (by omega)
  obtain ⟨x1, hx1, gx1⟩ := Vw.elem (i := 0) hC20056.vw (by omega)
  replace gx1 : (-9223372036854775808 ≤ x1.quota ∧ x1.quota ≤ 9223372036854775807) ∧ (-9223372036854775808 ≤ x1.base ∧ x1.base ≤ 9223372036854775807) ∧ (-9223372036854775808 ≤ x1.pages ∧ x1.pages ≤ 9223372036854775807) := gx1
  refine C_region (RL_q rfl (Yd_fld (off := 3) Try.underlying24 (by kernel_rfl) rfl) (RL_q rfl (Yd_load Try.underlying22 rfl rfl (ldB hB20014 rfl)) (RL_q rfl (Yd_idxL Try.underlying22 (sz := 3) (by kernel_rfl) rfl rfl (by omega) (by omega)) (RL_q rfl (Yd_fld (off := 0) Try.underlying35 (by kernel_rfl) rfl) (RL_l0 (Ld_putF (T := tP) (a := (⟨99, x1.base, x1.pages⟩ : Pt)) (by kernel_rfl) rfl rfl hC20056 (i := 0) (j := 0) hx1 rfl rfl rfl rfl (by decide) ⟨⟨by dsimp only; omega, by dsimp only; omega⟩, ⟨by dsimp only; omega, by dsimp only; omega⟩, ⟨by dsimp only; omega, by dsimp only; omega⟩⟩ ?_))))))
  intro W65 hC20056' hu65
  have hk65 := Kp.ofb hu65
  have hs65 := hk65.size
  replace hE := Ext.kp hE hk65 (fun k hk => by first | omega | (have hk := hk; dsimp only at hk; omega))
  replace h_aps := h_aps.kp hk65 (fun k hk => by first | omega | (have hk := hk; dsimp only at hk; omega))
  replace h_bps := h_bps.kp hk65 (fun k hk => by first | omega | (have hk := hk; dsimp only at hk; omega))
  replace hB4 := hB4.kp hk65 (fun hk => by first | omega | (have hk := hk; dsimp only at hk; omega))
  replace hB5 := hB5.kp hk65 (fun hk => by first | omega | (have hk := hk; dsimp only at hk; omega))
  replace hC16 := hC16.kp hk65 (fun k hk => by first | omega | (have hk := hk; dsimp only at hk; omega))
  replace hB9 := hB9.kp hk65 (fun hk => by first | omega | (have hk := hk; dsimp only at hk; omega))
  replace hC18 := hC18.kp hk65 (fun k hk => by first | omega | (have hk := hk; dsimp only at hk; omega))
  replace hB10 := hB10.kp hk65 (fun hk => by first | omega | (have hk := hk; dsimp only at hk; omega))
  replace hC22 := hC22.kp hk65 (fun k hk => by first | omega | (have hk := hk; dsimp only at hk; omega))
  replace hC26 := hC26.kp hk65 (fun k hk => by first | omega | (have hk := hk; dsimp only at hk; omega))
  replace hO27 := hO27.kp hk65 (fun k hk => by first | omega | (have hk := hk; dsimp only at hk; omega))
  replace hB20014 := hB20014.kp hk65 (fun hk => by first | omega | (have hk := hk; dsimp only at hk; omega))
  replace hC20056 := hC20056'
  have hnhC20056 := hC20056.ln
  refine RL_nil (X_then (C_seq (?_)))
  obtain ⟨gAC16, rfl, hglAC16, hghAC16⟩ := Ow.at_ (i := 0) hC16 (by omega)
  obtain ⟨x2, hx2, gx2⟩ := Vw.elem (i := 0) hC16.vw (by omega)
  replace gx2 : (-9223372036854775808 ≤ x2.quota ∧ x2.quota ≤ 9223372036854775807) ∧ (-9223372036854775808 ≤ x2.base ∧ x2.base ≤ 9223372036854775807) ∧ (-9223372036854775808 ≤ x2.pages ∧ x2.pages ≤ 9223372036854775807) := gx2
  refine C_region (RL_q rfl (Yd_fld (off := 3) Try.underlying24 (by kernel_rfl) rfl) (RL_q rfl (Yd_load Try.underlying22 rfl rfl (ldB hB9 rfl)) (RL_q rfl (Yd_idxL Try.underlying22 (sz := 3) (by kernel_rfl) rfl rfl (by omega) (by omega)) (RL_q rfl (Yd_fld (off := 0) Try.underlying35 (by kernel_rfl) rfl) (RL_q rfl (Yd_load Try.underlying3 rfl rfl (Vw.lqFL hC16.vw hx2 rfl rfl)) (RL_q rfl (Yd_neq rfl rfl) (RL_q rfl (Yd_move rfl) (?_))))))))
  refine RL_is (d := 77) (b' := true) rfl (by have := hp16.hpt _ (List.mem_of_getElem? hx2); simp; omega) ?_
  refine RL_gl rfl rfl rfl (Ld_call Try.func21 rfl (by kernel_rfl) rfl (lives05V ) ?_)
  rintro e W66 ⟨_, rfl, rfl, he66⟩
  refine ⟨_, rfl, ?_⟩
  replace hE := Ext.trans hE he66
  replace h_aps := h_aps.ext he66
  replace h_bps := h_bps.ext he66
  replace hB4 := hB4.ext he66
  replace hB5 := hB5.ext he66
  replace hC16 := hC16.ext he66
  replace hB9 := hB9.ext he66
  replace hC18 := hC18.ext he66
  replace hB10 := hB10.ext he66
  replace hC22 := hC22.ext he66
  replace hC26 := hC26.ext he66
  replace hO27 := hO27.ext he66
  replace hC20056 := hC20056.ext he66
  replace hB20014 := hB20014.ext he66
  have hs66 := he66.size
  refine RL_q rfl (Yd_pickT rfl rfl) (RL_q rfl (Yd_assign rfl) (RL_nil (X_then (C_ret (X_ret1 rfl rfl ?_)))))
  refine ⟨_, rfl, ?_, hE⟩
  all_goals (first | rfl | omega | simp)
end Go.Proofs.AL
