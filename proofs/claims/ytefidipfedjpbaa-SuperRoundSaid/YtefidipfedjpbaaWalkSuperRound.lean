import Derived.Test.YtefidipfedjpbaaSus
set_option linter.unusedVariables false
set_option linter.unusedSimpArgs false
namespace Go.Proofs.AL
open Go.RowKit
set_option maxHeartbeats 1600000 in
theorem SuperRoundV {n : Int} {cfr cdp csc : Int} {lo_cps B_cps : Nat} {A_cps : Option Addr} {n_cps c_cps : Nat} {cps : List Pt} {at_ : Int} {by_ : Int} {w : World}  (b_n : -9223372036854775808 ≤ n ∧ n ≤ 9223372036854775807) (h_cps : Vw tP w lo_cps B_cps A_cps n_cps c_cps cps) (b_c : -9223372036854775808 ≤ cfr ∧ cfr ≤ 9223372036854775807 ∧ -9223372036854775808 ≤ cdp ∧ cdp ≤ 9223372036854775807 ∧ -9223372036854775808 ≤ csc ∧ csc ≤ 9223372036854775807) (b_at_ : -9223372036854775808 ≤ at_ ∧ at_ ≤ 9223372036854775807) (b_by_ : 0 ≤ by_ ∧ by_ ≤ 255) :
    Calls Try.prog 13 #[.int .i64 n, .agg #[.int .i64 cfr, .int .i64 cdp, .int .i64 csc, .slice A_cps n_cps c_cps], .int .i64 at_, .int .u8 by_] w fun e w' => ∃ (x0 : Bool), e = .returned (.bool x0) ∧ x0 = (true) ∧ Ext w w' := by
  have hE := Ext.refl w
  replace h_cps := h_cps.fit
  have hn_cps := h_cps.ln
  have hc_cps := h_cps.cap
  have hm_cps := h_cps.max
  simp only [maxLen] at hm_cps
  refine calls_of (l := [.int .i64 n, .agg #[.int .i64 cfr, .int .i64 cdp, .int .i64 csc, .slice A_cps n_cps c_cps], .int .i64 at_, .int .u8 by_]) (N := 95) Try.func13 rfl rfl rfl ?_
  refine C_seq (C_region (RL_l rfl (Ld_box rfl ?_)))
  have hg_5 := hE.size
  intro W1 he1 hz1 hB5
  replace hE := Ext.trans hE he1
  replace h_cps := h_cps.ext he1
  refine RL_q rfl (Yd_assign rfl) (RL_nil (X_then (C_seq (C_region (RL_q rfl (Yd_move rfl) (RL_q rfl (Yd_loadA Try.underlying24 rfl (by kernel_rfl) rfl (ldBA hB5)) (RL_l rfl (Ld_call Try.func28 rfl (by kernel_rfl) rfl (sGoodV ⟨by first | omega | (dsimp only; omega), by first | omega | (dsimp only; omega)⟩ (cfr := cfr) (cdp := cdp) (csc := csc) h_cps ⟨by omega, by omega, by omega, by omega, by omega, by omega⟩) ?_))))))))
  rintro e W2 ⟨ep19, fr19, dp19, sc19, AC19, nC19, cC19, pC19, rfl, hp19, hC19, he2⟩
  refine ⟨_, rfl, ?_⟩
  replace hE := Ext.trans hE he2
  replace h_cps := h_cps.ext he2
  replace hB5 := hB5.ext he2
  have hs2 := he2.size
  have hnC19 := hC19.ln
  have hcC19 := hC19.cap
  have hfb19 := hp19.2.frb
  have hdb19 := hp19.2.hdp
  have hsb19 := hp19.2.hsc
  have hlb19 := hp19.2.hln
  refine RL_l rfl (Ld_alloc (v := (.agg #[(.int .i64 0), (.int .i64 0), (.int .i64 0), (.int .i64 0), (.slice none 0 0)])) (by kernel_rfl) ?_)
  have hg_9 := hE.size
  intro W3 he3 hz3 hB9
  replace hE := Ext.trans hE he3
  replace h_cps := h_cps.ext he3
  replace hB5 := hB5.ext he3
  replace hC19 := hC19.ext he3
  refine RL_l0 (Ld_store (by kernel_rfl) rfl rfl hB9 (Nat.le_of_ble_eq_true rfl) (by simp [cellsL, Value.cells, Value.oneCell']) ?_)
  intro W4 hu4 hz4 hB9
  have hk4 := Kp.ofb hu4
  have hs4 := hk4.size
  replace hE := Ext.kp hE hk4 (fun k hk => by first | omega | (have hk := hk; dsimp only at hk; omega))
  replace h_cps := h_cps.kp hk4 (fun k hk => by first | omega | (have hk := hk; dsimp only at hk; omega))
  replace hB5 := hB5.kp hk4 (fun hk => by first | omega | (have hk := hk; dsimp only at hk; omega))
  replace hC19 := hC19.kp hk4 (fun k hk => by first | omega | (have hk := hk; dsimp only at hk; omega))
  refine RL_nil (X_then (C_seq (C_region (RL_q rfl (Yd_loadA Try.underlying43 rfl (by kernel_rfl) rfl (ldBA hB9)) (RL_l rfl (Ld_call Try.func31 rfl (by kernel_rfl) rfl (ofV (sep := ep19) (sfr := fr19) (sdp := dp19) (ssc := sc19) hC19.vw ⟨by omega, by omega, by omega, by omega, by omega, by omega⟩ ⟨by omega, by omega⟩) ?_))))))
  rintro e W5 ⟨rfl, he5⟩
  refine ⟨_, rfl, ?_⟩
  replace hE := Ext.trans hE he5
  replace h_cps := h_cps.ext he5
  replace hB5 := hB5.ext he5
  replace hC19 := hC19.ext he5
  replace hB9 := hB9.ext he5
  have hs5 := he5.size
  refine RL_l rfl (Ld_call Try.func30 rfl (by kernel_rfl) rfl (WriteV (sep := ep19) (sfr := fr19) (sdp := dp19) (ssc := sc19) hC19.vw ⟨by omega, by omega, by omega, by omega, by omega, by omega⟩ ⟨by omega, by omega⟩) ?_)
  rintro e W6 ⟨A23_0, n23_0, c23_0, y23_1, rfl, hF23_0, hy23_1, he6⟩
  refine ⟨_, rfl, ?_⟩
  replace hE := Ext.trans hE he6
  replace h_cps := h_cps.ext he6
  replace hB5 := hB5.ext he6
  replace hC19 := hC19.ext he6
  replace hB9 := hB9.ext he6
  have hs6 := he6.size
  have hn23_0 := hF23_0.ln
  try simp only [List.length_append, List.length_cons, List.length_nil, List.length_set, List.length_take, List.length_drop, List.length_replicate, List.length_map, Nat.zero_add, Nat.add_zero, oneP_len, le_len, le8s_len, le8_len, ptB_len, ptI_len] at hn23_0
  have hc23_0 := hF23_0.cap
  have hM : SMay ep19 fr19 dp19 sc19 pC19 := ⟨hp19.1.1, hp19.1.2, by rw [good_zero hp19.2]⟩
  have hw := wr_yes hM
  replace hF23_0 := hF23_0.cast hw.1
  have hn23_0 := hF23_0.ln
  rw [supB_len] at hn23_0
  have he23 : y23_1 = 0 := hy23_1.trans hw.2
  refine RL_q rfl (Yd_move rfl) (RL_q rfl (Yd_extract rfl rfl) (RL_q rfl (Yd_extract rfl rfl) (RL_q rfl (Yd_assign rfl) (RL_q rfl (Yd_assign rfl) (RL_nil (X_then (C_seq (C_region (RL_q rfl (Yd_move rfl) (RL_l rfl (Ld_call Try.func39 rfl (by kernel_rfl) rfl (ReadK hF23_0.vw rfl (by assumption)) ?_)))))))))))
  rintro e W7 ⟨ep28, fr28, dp28, sc28, AC28, nC28, cC28, pC28, er28, rfl, hp28, hC28, he7⟩
  refine ⟨_, rfl, ?_⟩
  replace hE := Ext.trans hE he7
  replace h_cps := h_cps.ext he7
  replace hB5 := hB5.ext he7
  replace hC19 := hC19.ext he7
  replace hB9 := hB9.ext he7
  replace hF23_0 := hF23_0.ext he7
  have hs7 := he7.size
  have hnC28 := hC28.ln
  have hcC28 := hC28.cap
  refine RL_q rfl (Yd_move rfl) (RL_q rfl (Yd_extract rfl rfl) (RL_q rfl (Yd_extract rfl rfl) (RL_l rfl (Ld_alloc (v := (.agg #[(.int .i64 0), (.int .i64 0), (.int .i64 0), (.int .i64 0), (.slice none 0 0)])) (by kernel_rfl) ?_))))
  have hg_12 := hE.size
  intro W8 he8 hz8 hB12
  replace hE := Ext.trans hE he8
  replace h_cps := h_cps.ext he8
  replace hB5 := hB5.ext he8
  replace hC19 := hC19.ext he8
  replace hB9 := hB9.ext he8
  replace hF23_0 := hF23_0.ext he8
  replace hC28 := hC28.ext he8
  refine RL_l0 (Ld_store (by kernel_rfl) rfl rfl hB12 (Nat.le_of_ble_eq_true rfl) (by simp [cellsL, Value.cells, Value.oneCell']) ?_)
  intro W9 hu9 hz9 hB12
  have hk9 := Kp.ofb hu9
  have hs9 := hk9.size
  replace hE := Ext.kp hE hk9 (fun k hk => by first | omega | (have hk := hk; dsimp only at hk; omega))
  replace h_cps := h_cps.kp hk9 (fun k hk => by first | omega | (have hk := hk; dsimp only at hk; omega))
  replace hB5 := hB5.kp hk9 (fun hk => by first | omega | (have hk := hk; dsimp only at hk; omega))
  replace hC19 := hC19.kp hk9 (fun k hk => by first | omega | (have hk := hk; dsimp only at hk; omega))
  replace hB9 := hB9.kp hk9 (fun hk => by first | omega | (have hk := hk; dsimp only at hk; omega))
  replace hF23_0 := hF23_0.kp hk9 (fun k hk => by first | omega | (have hk := hk; dsimp only at hk; omega))
  replace hC28 := hC28.kp hk9 (fun k hk => by first | omega | (have hk := hk; dsimp only at hk; omega))
  refine RL_q rfl (Yd_assign rfl) (RL_nil (X_then (C_seq (C_seq (?_)))))
  refine C_regionD (NoB) (l := [(0, true), (1, true), (2, true), (3, true), (4, true), (5, true), (6, true), (7, true), (9, true), (8, false), (10, false), (11, true), (12, true), (13, true), (14, true), (15, true), (16, true), (17, true), (18, true), (19, true), (20, true), (21, true), (22, true), (23, true), (24, true), (25, true), (26, true)]) (by kernel_rfl) (by kernel_rfl) rfl (by kernel_rfl) (fun _ _ d _ _ h => by cases d <;> exact h) ?_
  intro W10 he10 hh10
  replace hE := Ext.trans hE he10
  replace h_cps := h_cps.ext he10
  replace hB5 := hB5.ext he10
  replace hC19 := hC19.ext he10
  replace hB9 := hB9.ext he10
  replace hF23_0 := hF23_0.ext he10
  replace hC28 := hC28.ext he10
  replace hB12 := hB12.ext he10
  have hs10 := he10.size
  refine RO_q rfl rfl (Yd_move rfl) (RO_q rfl rfl (Yd_neq rfl rfl) (RO_q rfl rfl (Yd_move rfl) (?_)))
  refine RO_is (d := 33) (b' := false) rfl (by rw [he23]; rfl) ?_
  refine RO_gq rfl rfl rfl rfl (Yd_move rfl) (RO_gq rfl rfl rfl rfl (Yd_neq rfl rfl) (RO_q rfl rfl (Yd_pickF rfl rfl) (RO_q rfl rfl (Yd_move rfl) (?_))))
  refine RO_is (d := 37) (b' := false) rfl (by rw [hp28.1]; rfl) ?_
  refine RO_gq rfl rfl rfl rfl (Yd_loadA Try.underlying52 rfl (by kernel_rfl) rfl (fun W hW => (ldBA hB12) W hW.ext)) (RO_gq rfl rfl rfl rfl (Yd_loadA Try.underlying43 rfl (by kernel_rfl) rfl (fun W hW => (ldBA hB9) W hW.ext)) (RO_gl rfl rfl rfl rfl (Ld_call Try.func38 rfl (by kernel_rfl) rfl (asV (sep := ep28) (sfr := fr28) (sdp := dp28) (ssc := sc28) hC28.vw ⟨by omega, by omega, by omega, by omega, by omega, by omega⟩ ⟨by omega, by omega⟩) ?_)))
  rintro e W11 ⟨rfl, he11⟩
  refine ⟨_, rfl, ?_⟩
  refine ⟨Kp.of_ext he11, ?_⟩
  replace hE := Ext.trans hE he11
  replace h_cps := h_cps.ext he11
  replace hB5 := hB5.ext he11
  replace hC19 := hC19.ext he11
  replace hB9 := hB9.ext he11
  replace hF23_0 := hF23_0.ext he11
  replace hC28 := hC28.ext he11
  replace hB12 := hB12.ext he11
  have hs11 := he11.size
  refine RO_gl rfl rfl rfl rfl (Ld_call Try.func36 rfl (by kernel_rfl) rfl (refsSameV (aep := ep28) (afr := fr28) (adp := dp28) (asc := sc28) hC28.vw ⟨by omega, by omega, by omega, by omega, by omega, by omega⟩ ⟨by omega, by omega⟩ (bep := ep19) (bfr := fr19) (bdp := dp19) (bsc := sc19) hC19.vw ⟨by omega, by omega, by omega, by omega, by omega, by omega⟩ ⟨by omega, by omega⟩) ?_)
  rintro e W12 ⟨_, rfl, rfl, he12⟩
  refine ⟨_, rfl, ?_⟩
  refine ⟨Kp.of_ext he12, ?_⟩
  replace hE := Ext.trans hE he12
  replace h_cps := h_cps.ext he12
  replace hB5 := hB5.ext he12
  replace hC19 := hC19.ext he12
  replace hB9 := hB9.ext he12
  replace hF23_0 := hF23_0.ext he12
  replace hC28 := hC28.ext he12
  replace hB12 := hB12.ext he12
  have hs12 := he12.size
  refine RO_gq rfl rfl rfl rfl (Yd_not rfl) (RO_q rfl rfl (Yd_pickF rfl rfl) (RO_q rfl rfl (Yd_move rfl) (?_)))
  refine RO_is (d := 44) (b' := false) rfl (by simp [hp28]) ?_
  refine RO_gq rfl rfl rfl rfl (Yd_fld (off := 1) Try.underlying52 (by kernel_rfl) rfl) (RO_gq rfl rfl rfl rfl (Yd_fld (off := 0) Try.underlying24 (by kernel_rfl) rfl) (RO_gq rfl rfl rfl rfl (Yd_load Try.underlying3 rfl rfl (fun W hW => (ldB hB12 rfl) W hW.ext)) (RO_gq rfl rfl rfl rfl (Yd_fld (off := 1) Try.underlying43 (by kernel_rfl) rfl) (RO_gq rfl rfl rfl rfl (Yd_fld (off := 0) Try.underlying24 (by kernel_rfl) rfl) (RO_gq rfl rfl rfl rfl (Yd_load Try.underlying3 rfl rfl (fun W hW => (ldB hB9 rfl) W hW.ext)) (RO_gq rfl rfl rfl rfl (Yd_neq rfl rfl) (RO_q rfl rfl (Yd_pickF rfl rfl) (RO_q rfl rfl (Yd_move rfl) (?_)))))))))
  refine RO_is (d := 53) (b' := false) rfl (by simp [hp28]) ?_
  refine RO_gq rfl rfl rfl rfl (Yd_move rfl) (RO_gq rfl rfl rfl rfl (Yd_len Try.underlying47 rfl) (RO_gq rfl rfl rfl rfl (Yd_eql rfl rfl) (RO_q rfl rfl (Yd_pickF rfl rfl) (RO_nil (X_then (?_))))))
  refine C_no rfl (by simp; omega) (C_skip (X_then (C_seq (C_seq (C_region (RL_q rfl (Yd_move rfl) (RL_q rfl (Yd_eql rfl rfl) (RL_nil (X_then (?_))))))))))
  refine C_cond rfl (fun hb59 => ?_) (fun hb59 => ?_)
  · skip
    simp only [decide_eq_true_eq] at hb59
    refine C_region (RL_q rfl (Yd_assign rfl) (RL_nil (X_then (C_seq (C_region (RL_q rfl (Yd_move rfl) (RL_q rfl (Yd_move rfl) (RL_q rfl (Yd_len Try.underlying47 rfl) (RL_l rfl (Ld_call Try.func17 rfl (by kernel_rfl) rfl (AroundV ⟨by first | omega | (dsimp only; omega), by first | omega | (dsimp only; omega)⟩ ⟨by first | omega | (dsimp only; omega), by first | omega | (dsimp only; omega)⟩) ?_))))))))))
    rintro e W13 ⟨y63, rfl, hy63, hra63, rfl⟩
    refine ⟨_, rfl, ?_⟩
    refine RL_q rfl (Yd_assign rfl) (RL_nil (X_then (C_seq (C_region (RL_q rfl (Yd_move rfl) (RL_q rfl (Yd_move rfl) (RL_q rfl (Yd_move rfl) (RL_q rfl (Yd_move rfl) (?_)))))))))
    obtain ⟨gA23_0, rfl, hglA23_0, hghA23_0⟩ := Ow.at_ (i := y63.toNat) hF23_0 (by omega)
    refine RL_q rfl (Yd_idxL Try.underlying47 (sz := 1) (by kernel_rfl) rfl rfl (by omega) (by omega)) (?_)
    obtain ⟨x1, hx1, gx1⟩ := Vw.elem (i := y63.toNat) hF23_0.vw (by omega)
    replace gx1 : 0 ≤ x1 ∧ x1 ≤ 255 := gx1
    refine RL_q rfl (Yd_load Try.underlying5 rfl rfl (Vw.lq1L hF23_0.vw hx1 rfl rfl)) (RL_q rfl (Yd_move rfl) (RL_q rfl (Yd_xor rfl rfl rfl) (?_)))
    have hx71 := turn (a := x1) (y := 1) gx1 ⟨by omega, by omega⟩ (by omega)
    have hT := take_turn (b := (le8s [1, ep19, fr19, dp19, sc19, (pC19.length : Int)] ++ ptB pC19)) ((le8s_byt _).append (ptB_byt _)) hx1 hx71.1 hx71.2
    refine RL_q rfl (Yd_idxL Try.underlying47 (sz := 1) (by kernel_rfl) rfl rfl (by omega) (by omega)) (RL_l0 (Ld_putO (T := tU8) (a := (bitsOp .xor .u8 x1 1)) (by kernel_rfl) rfl rfl hF23_0 (i := y63.toNat) (by omega) rfl rfl (by omega) ⟨by omega, by omega⟩ ?_))
    intro W14 hF23_0' hu14
    have hk14 := Kp.ofb hu14
    have hs14 := hk14.size
    replace hE := Ext.kp hE hk14 (fun k hk => by first | omega | (have hk := hk; dsimp only at hk; omega))
    replace h_cps := h_cps.kp hk14 (fun k hk => by first | omega | (have hk := hk; dsimp only at hk; omega))
    replace hB5 := hB5.kp hk14 (fun hk => by first | omega | (have hk := hk; dsimp only at hk; omega))
    replace hC19 := hC19.kp hk14 (fun k hk => by first | omega | (have hk := hk; dsimp only at hk; omega))
    replace hB9 := hB9.kp hk14 (fun hk => by first | omega | (have hk := hk; dsimp only at hk; omega))
    replace hC28 := hC28.kp hk14 (fun k hk => by first | omega | (have hk := hk; dsimp only at hk; omega))
    replace hB12 := hB12.kp hk14 (fun hk => by first | omega | (have hk := hk; dsimp only at hk; omega))
    replace hF23_0 := hF23_0'
    have hnhF23_0 := hF23_0.ln
    refine RL_nil (X_then (C_seq (C_region (RL_q rfl (Yd_move rfl) (RL_l rfl (Ld_call Try.func39 rfl (by kernel_rfl) rfl (ReadBad hF23_0.vw (by omega) (fun e => absurd (hT.1.symm.trans e) (by decide))) ?_))))))
    rintro e W15 ⟨ep75, fr75, dp75, sc75, AC75, nC75, cC75, pC75, er75, rfl, hp75, hC75, he15⟩
    refine ⟨_, rfl, ?_⟩
    replace hE := Ext.trans hE he15
    replace h_cps := h_cps.ext he15
    replace hB5 := hB5.ext he15
    replace hC19 := hC19.ext he15
    replace hB9 := hB9.ext he15
    replace hF23_0 := hF23_0.ext he15
    replace hC28 := hC28.ext he15
    replace hB12 := hB12.ext he15
    have hs15 := he15.size
    have hnC75 := hC75.ln
    have hcC75 := hC75.cap
    have hl75 := congrArg List.length hp75.2.2
    simp only [List.length_nil] at hl75
    refine RL_q rfl (Yd_move rfl) (RL_q rfl (Yd_extract rfl rfl) (RL_q rfl (Yd_extract rfl rfl) (RL_l rfl (Ld_alloc (v := (.agg #[(.int .i64 0), (.int .i64 0), (.int .i64 0), (.int .i64 0), (.slice none 0 0)])) (by kernel_rfl) ?_))))
    have hg_15 := hE.size
    intro W16 he16 hz16 hB15
    replace hE := Ext.trans hE he16
    replace h_cps := h_cps.ext he16
    replace hB5 := hB5.ext he16
    replace hC19 := hC19.ext he16
    replace hB9 := hB9.ext he16
    replace hF23_0 := hF23_0.ext he16
    replace hC28 := hC28.ext he16
    replace hB12 := hB12.ext he16
    replace hC75 := hC75.ext he16
    refine RL_l0 (Ld_store (by kernel_rfl) rfl rfl hB15 (Nat.le_of_ble_eq_true rfl) (by simp [cellsL, Value.cells, Value.oneCell']) ?_)
    intro W17 hu17 hz17 hB15
    have hk17 := Kp.ofb hu17
    have hs17 := hk17.size
    replace hE := Ext.kp hE hk17 (fun k hk => by first | omega | (have hk := hk; dsimp only at hk; omega))
    replace h_cps := h_cps.kp hk17 (fun k hk => by first | omega | (have hk := hk; dsimp only at hk; omega))
    replace hB5 := hB5.kp hk17 (fun hk => by first | omega | (have hk := hk; dsimp only at hk; omega))
    replace hC19 := hC19.kp hk17 (fun k hk => by first | omega | (have hk := hk; dsimp only at hk; omega))
    replace hB9 := hB9.kp hk17 (fun hk => by first | omega | (have hk := hk; dsimp only at hk; omega))
    replace hF23_0 := hF23_0.kp hk17 (fun k hk => by first | omega | (have hk := hk; dsimp only at hk; omega))
    replace hC28 := hC28.kp hk17 (fun k hk => by first | omega | (have hk := hk; dsimp only at hk; omega))
    replace hB12 := hB12.kp hk17 (fun hk => by first | omega | (have hk := hk; dsimp only at hk; omega))
    replace hC75 := hC75.kp hk17 (fun k hk => by first | omega | (have hk := hk; dsimp only at hk; omega))
    refine RL_q rfl (Yd_assign rfl) (RL_nil (X_then (C_seq (C_region (RL_q rfl (Yd_move rfl) (RL_q rfl (Yd_eql rfl rfl) (RL_q rfl (Yd_move rfl) (?_))))))))
    refine RL_is (d := 80) (b' := true) rfl (by rw [hp75.1]; exact decide_eq_true hT.1) ?_
    refine RL_gq rfl rfl rfl (Yd_fld (off := 0) Try.underlying52 (by kernel_rfl) rfl) (RL_gq rfl rfl rfl (Yd_load Try.underlying3 rfl rfl (ldB hB15 rfl)) (RL_gq rfl rfl rfl (Yd_eql rfl rfl) (RL_q rfl (Yd_pickT rfl rfl) (RL_q rfl (Yd_move rfl) (?_)))))
    refine RL_is (d := 85) (b' := true) rfl (by simp [hp75.2.1]) ?_
    refine RL_gq rfl rfl rfl (Yd_fld (off := 1) Try.underlying52 (by kernel_rfl) rfl) (RL_gq rfl rfl rfl (Yd_fld (off := 3) Try.underlying24 (by kernel_rfl) rfl) (RL_gq rfl rfl rfl (Yd_load Try.underlying22 rfl rfl (ldB hB15 rfl)) (RL_gq rfl rfl rfl (Yd_len Try.underlying22 rfl) (RL_gq rfl rfl rfl (Yd_eql rfl rfl) (RL_q rfl (Yd_pickT rfl rfl) (RL_q rfl (Yd_move rfl) (?_)))))))
    refine RL_is (d := 92) (b' := true) rfl (by simp; omega) ?_
    refine RL_gl rfl rfl rfl (Ld_call Try.func34 rfl (by kernel_rfl) rfl (lives06V ) ?_)
    rintro e W18 ⟨_, rfl, rfl, he18⟩
    refine ⟨_, rfl, ?_⟩
    replace hE := Ext.trans hE he18
    replace h_cps := h_cps.ext he18
    replace hB5 := hB5.ext he18
    replace hC19 := hC19.ext he18
    replace hB9 := hB9.ext he18
    replace hF23_0 := hF23_0.ext he18
    replace hC28 := hC28.ext he18
    replace hB12 := hB12.ext he18
    replace hC75 := hC75.ext he18
    replace hB15 := hB15.ext he18
    have hs18 := he18.size
    refine RL_q rfl (Yd_pickT rfl rfl) (RL_q rfl (Yd_assign rfl) (RL_nil (X_then (C_ret (X_ret1 rfl rfl ?_)))))
    refine ⟨_, rfl, ?_, hE⟩
    all_goals (first | rfl | omega | simp)
  · skip
    simp only [decide_eq_false_iff_not] at hb59
    refine C_skip (X_then (C_seq (C_region (RL_q rfl (Yd_move rfl) (RL_q rfl (Yd_move rfl) (RL_q rfl (Yd_len Try.underlying47 rfl) (RL_l rfl (Ld_call Try.func17 rfl (by kernel_rfl) rfl (AroundV ⟨by first | omega | (dsimp only; omega), by first | omega | (dsimp only; omega)⟩ ⟨by first | omega | (dsimp only; omega), by first | omega | (dsimp only; omega)⟩) ?_))))))))
    rintro e W13 ⟨y63, rfl, hy63, hra63, rfl⟩
    refine ⟨_, rfl, ?_⟩
    refine RL_q rfl (Yd_assign rfl) (RL_nil (X_then (C_seq (C_region (RL_q rfl (Yd_move rfl) (RL_q rfl (Yd_move rfl) (RL_q rfl (Yd_move rfl) (RL_q rfl (Yd_move rfl) (?_)))))))))
    obtain ⟨gA23_0, rfl, hglA23_0, hghA23_0⟩ := Ow.at_ (i := y63.toNat) hF23_0 (by omega)
    refine RL_q rfl (Yd_idxL Try.underlying47 (sz := 1) (by kernel_rfl) rfl rfl (by omega) (by omega)) (?_)
    obtain ⟨x2, hx2, gx2⟩ := Vw.elem (i := y63.toNat) hF23_0.vw (by omega)
    replace gx2 : 0 ≤ x2 ∧ x2 ≤ 255 := gx2
    refine RL_q rfl (Yd_load Try.underlying5 rfl rfl (Vw.lq1L hF23_0.vw hx2 rfl rfl)) (RL_q rfl (Yd_move rfl) (RL_q rfl (Yd_xor rfl rfl rfl) (?_)))
    have hx71 := turn (a := x2) (y := by_) gx2 ⟨by omega, by omega⟩ (by omega)
    have hT := take_turn (b := (le8s [1, ep19, fr19, dp19, sc19, (pC19.length : Int)] ++ ptB pC19)) ((le8s_byt _).append (ptB_byt _)) hx2 hx71.1 hx71.2
    refine RL_q rfl (Yd_idxL Try.underlying47 (sz := 1) (by kernel_rfl) rfl rfl (by omega) (by omega)) (RL_l0 (Ld_putO (T := tU8) (a := (bitsOp .xor .u8 x2 by_)) (by kernel_rfl) rfl rfl hF23_0 (i := y63.toNat) (by omega) rfl rfl (by omega) ⟨by omega, by omega⟩ ?_))
    intro W14 hF23_0' hu14
    have hk14 := Kp.ofb hu14
    have hs14 := hk14.size
    replace hE := Ext.kp hE hk14 (fun k hk => by first | omega | (have hk := hk; dsimp only at hk; omega))
    replace h_cps := h_cps.kp hk14 (fun k hk => by first | omega | (have hk := hk; dsimp only at hk; omega))
    replace hB5 := hB5.kp hk14 (fun hk => by first | omega | (have hk := hk; dsimp only at hk; omega))
    replace hC19 := hC19.kp hk14 (fun k hk => by first | omega | (have hk := hk; dsimp only at hk; omega))
    replace hB9 := hB9.kp hk14 (fun hk => by first | omega | (have hk := hk; dsimp only at hk; omega))
    replace hC28 := hC28.kp hk14 (fun k hk => by first | omega | (have hk := hk; dsimp only at hk; omega))
    replace hB12 := hB12.kp hk14 (fun hk => by first | omega | (have hk := hk; dsimp only at hk; omega))
    replace hF23_0 := hF23_0'
    have hnhF23_0 := hF23_0.ln
    refine RL_nil (X_then (C_seq (C_region (RL_q rfl (Yd_move rfl) (RL_l rfl (Ld_call Try.func39 rfl (by kernel_rfl) rfl (ReadBad hF23_0.vw (by omega) (fun e => absurd (hT.1.symm.trans e) (by decide))) ?_))))))
    rintro e W15 ⟨ep75, fr75, dp75, sc75, AC75, nC75, cC75, pC75, er75, rfl, hp75, hC75, he15⟩
    refine ⟨_, rfl, ?_⟩
    replace hE := Ext.trans hE he15
    replace h_cps := h_cps.ext he15
    replace hB5 := hB5.ext he15
    replace hC19 := hC19.ext he15
    replace hB9 := hB9.ext he15
    replace hF23_0 := hF23_0.ext he15
    replace hC28 := hC28.ext he15
    replace hB12 := hB12.ext he15
    have hs15 := he15.size
    have hnC75 := hC75.ln
    have hcC75 := hC75.cap
    have hl75 := congrArg List.length hp75.2.2
    simp only [List.length_nil] at hl75
    refine RL_q rfl (Yd_move rfl) (RL_q rfl (Yd_extract rfl rfl) (RL_q rfl (Yd_extract rfl rfl) (RL_l rfl (Ld_alloc (v := (.agg #[(.int .i64 0), (.int .i64 0), (.int .i64 0), (.int .i64 0), (.slice none 0 0)])) (by kernel_rfl) ?_))))
    have hg_15 := hE.size
    intro W16 he16 hz16 hB15
    replace hE := Ext.trans hE he16
    replace h_cps := h_cps.ext he16
    replace hB5 := hB5.ext he16
    replace hC19 := hC19.ext he16
    replace hB9 := hB9.ext he16
    replace hF23_0 := hF23_0.ext he16
    replace hC28 := hC28.ext he16
    replace hB12 := hB12.ext he16
    replace hC75 := hC75.ext he16
    refine RL_l0 (Ld_store (by kernel_rfl) rfl rfl hB15 (Nat.le_of_ble_eq_true rfl) (by simp [cellsL, Value.cells, Value.oneCell']) ?_)
    intro W17 hu17 hz17 hB15
    have hk17 := Kp.ofb hu17
    have hs17 := hk17.size
    replace hE := Ext.kp hE hk17 (fun k hk => by first | omega | (have hk := hk; dsimp only at hk; omega))
    replace h_cps := h_cps.kp hk17 (fun k hk => by first | omega | (have hk := hk; dsimp only at hk; omega))
    replace hB5 := hB5.kp hk17 (fun hk => by first | omega | (have hk := hk; dsimp only at hk; omega))
    replace hC19 := hC19.kp hk17 (fun k hk => by first | omega | (have hk := hk; dsimp only at hk; omega))
    replace hB9 := hB9.kp hk17 (fun hk => by first | omega | (have hk := hk; dsimp only at hk; omega))
    replace hF23_0 := hF23_0.kp hk17 (fun k hk => by first | omega | (have hk := hk; dsimp only at hk; omega))
    replace hC28 := hC28.kp hk17 (fun k hk => by first | omega | (have hk := hk; dsimp only at hk; omega))
    replace hB12 := hB12.kp hk17 (fun hk => by first | omega | (have hk := hk; dsimp only at hk; omega))
    replace hC75 := hC75.kp hk17 (fun k hk => by first | omega | (have hk := hk; dsimp only at hk; omega))
    refine RL_q rfl (Yd_assign rfl) (RL_nil (X_then (C_seq (C_region (RL_q rfl (Yd_move rfl) (RL_q rfl (Yd_eql rfl rfl) (RL_q rfl (Yd_move rfl) (?_))))))))
    refine RL_is (d := 80) (b' := true) rfl (by rw [hp75.1]; exact decide_eq_true hT.1) ?_
    refine RL_gq rfl rfl rfl (Yd_fld (off := 0) Try.underlying52 (by kernel_rfl) rfl) (RL_gq rfl rfl rfl (Yd_load Try.underlying3 rfl rfl (ldB hB15 rfl)) (RL_gq rfl rfl rfl (Yd_eql rfl rfl) (RL_q rfl (Yd_pickT rfl rfl) (RL_q rfl (Yd_move rfl) (?_)))))
    refine RL_is (d := 85) (b' := true) rfl (by simp [hp75.2.1]) ?_
    refine RL_gq rfl rfl rfl (Yd_fld (off := 1) Try.underlying52 (by kernel_rfl) rfl) (RL_gq rfl rfl rfl (Yd_fld (off := 3) Try.underlying24 (by kernel_rfl) rfl) (RL_gq rfl rfl rfl (Yd_load Try.underlying22 rfl rfl (ldB hB15 rfl)) (RL_gq rfl rfl rfl (Yd_len Try.underlying22 rfl) (RL_gq rfl rfl rfl (Yd_eql rfl rfl) (RL_q rfl (Yd_pickT rfl rfl) (RL_q rfl (Yd_move rfl) (?_)))))))
    refine RL_is (d := 92) (b' := true) rfl (by simp; omega) ?_
    refine RL_gl rfl rfl rfl (Ld_call Try.func34 rfl (by kernel_rfl) rfl (lives06V ) ?_)
    rintro e W18 ⟨_, rfl, rfl, he18⟩
    refine ⟨_, rfl, ?_⟩
    replace hE := Ext.trans hE he18
    replace h_cps := h_cps.ext he18
    replace hB5 := hB5.ext he18
    replace hC19 := hC19.ext he18
    replace hB9 := hB9.ext he18
    replace hF23_0 := hF23_0.ext he18
    replace hC28 := hC28.ext he18
    replace hB12 := hB12.ext he18
    replace hC75 := hC75.ext he18
    replace hB15 := hB15.ext he18
    have hs18 := he18.size
    refine RL_q rfl (Yd_pickT rfl rfl) (RL_q rfl (Yd_assign rfl) (RL_nil (X_then (C_ret (X_ret1 rfl rfl ?_)))))
    refine ⟨_, rfl, ?_, hE⟩
    all_goals (first | rfl | omega | simp)
end Go.Proofs.AL
