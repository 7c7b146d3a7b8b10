import Derived.Test.YtefidipfedjpbaaSup
set_option linter.unusedVariables false
set_option linter.unusedSimpArgs false
namespace Go.Proofs.AL
open Go.RowKit
set_option maxHeartbeats 4000000 in
theorem SuperMayV {n : Int} {cfr cdp csc : Int} {lo_cps B_cps : Nat} {A_cps : Option Addr} {n_cps c_cps : Nat} {cps : List Pt} {w : World}  (b_n : -9223372036854775808 ≤ n ∧ n ≤ 9223372036854775807) (h_cps : Vw tP w lo_cps B_cps A_cps n_cps c_cps cps) (b_c : -9223372036854775808 ≤ cfr ∧ cfr ≤ 9223372036854775807 ∧ -9223372036854775808 ≤ cdp ∧ cdp ≤ 9223372036854775807 ∧ -9223372036854775808 ≤ csc ∧ csc ≤ 9223372036854775807) :
    Calls Try.prog 9 #[.int .i64 n, .agg #[.int .i64 cfr, .int .i64 cdp, .int .i64 csc, .slice A_cps n_cps c_cps]] w fun e w' => ∃ (x0 : Bool), e = .returned (.bool x0) ∧ x0 = (true) ∧ Ext w w' := by
  have hE := Ext.refl w
  replace h_cps := h_cps.fit
  have hn_cps := h_cps.ln
  have hc_cps := h_cps.cap
  have hm_cps := h_cps.max
  simp only [maxLen] at hm_cps
  refine calls_of (l := [.int .i64 n, .agg #[.int .i64 cfr, .int .i64 cdp, .int .i64 csc, .slice A_cps n_cps c_cps]]) (N := 81) Try.func9 rfl rfl rfl ?_
  refine C_seq (C_region (RL_l rfl (Ld_box rfl ?_)))
  have hg_3 := hE.size
  intro W1 he1 hz1 hB3
  replace hE := Ext.trans hE he1
  replace h_cps := h_cps.ext he1
  refine RL_q rfl (Yd_assign rfl) (RL_nil (X_then (C_seq (C_region (RL_q rfl (Yd_move rfl) (RL_q rfl (Yd_loadA Try.underlying24 rfl (by kernel_rfl) rfl (ldBA hB3)) (RL_l rfl (Ld_call Try.func28 rfl (by kernel_rfl) rfl (sGoodV ⟨by first | omega | (dsimp only; omega), by first | omega | (dsimp only; omega)⟩ (cfr := cfr) (cdp := cdp) (csc := csc) h_cps ⟨by omega, by omega, by omega, by omega, by omega, by omega⟩) ?_))))))))
  rintro e W2 ⟨ep13, fr13, dp13, sc13, AC13, nC13, cC13, pC13, rfl, hp13, hC13, he2⟩
  refine ⟨_, rfl, ?_⟩
  replace hE := Ext.trans hE he2
  replace h_cps := h_cps.ext he2
  replace hB3 := hB3.ext he2
  have hs2 := he2.size
  have hnC13 := hC13.ln
  have hcC13 := hC13.cap
  have hfb13 := hp13.2.frb
  have hdb13 := hp13.2.hdp
  have hsb13 := hp13.2.hsc
  have hlb13 := hp13.2.hln
  refine RL_l rfl (Ld_alloc (v := (.agg #[(.int .i64 0), (.int .i64 0), (.int .i64 0), (.int .i64 0), (.slice none 0 0)])) (by kernel_rfl) ?_)
  have hg_5 := hE.size
  intro W3 he3 hz3 hB5
  replace hE := Ext.trans hE he3
  replace h_cps := h_cps.ext he3
  replace hB3 := hB3.ext he3
  replace hC13 := hC13.ext he3
  refine RL_l0 (Ld_store (by kernel_rfl) rfl rfl hB5 (Nat.le_of_ble_eq_true rfl) (by simp [cellsL, Value.cells, Value.oneCell']) ?_)
  intro W4 hu4 hz4 hB5
  have hk4 := Kp.ofb hu4
  have hs4 := hk4.size
  replace hE := Ext.kp hE hk4 (fun k hk => by first | omega | (have hk := hk; dsimp only at hk; omega))
  replace h_cps := h_cps.kp hk4 (fun k hk => by first | omega | (have hk := hk; dsimp only at hk; omega))
  replace hB3 := hB3.kp hk4 (fun hk => by first | omega | (have hk := hk; dsimp only at hk; omega))
  replace hC13 := hC13.kp hk4 (fun k hk => by first | omega | (have hk := hk; dsimp only at hk; omega))
  refine RL_nil (X_then (C_seq (?_)))
  refine C_regionD (NoB) (l := [(0, true), (1, true), (2, true), (3, true), (4, true), (5, true), (6, true), (7, true), (8, false), (9, true), (10, false), (11, true)]) (by kernel_rfl) (by kernel_rfl) rfl (by kernel_rfl) (fun _ _ d _ _ h => by cases d <;> exact h) ?_
  intro W5 he5 hh5
  replace hE := Ext.trans hE he5
  replace h_cps := h_cps.ext he5
  replace hB3 := hB3.ext he5
  replace hC13 := hC13.ext he5
  replace hB5 := hB5.ext he5
  have hs5 := he5.size
  refine RO_q rfl rfl (Yd_loadA Try.underlying43 rfl (by kernel_rfl) rfl (fun W hW => (ldBA hB5) W hW.ext)) (RO_q rfl rfl (Yd_move rfl) (RO_q rfl rfl (Yd_fld (off := 1) Try.underlying43 (by kernel_rfl) rfl) (RO_q rfl rfl (Yd_loadA (cs := [.int .i64 fr13, .int .i64 dp13, .int .i64 sc13, .slice AC13 nC13 cC13]) Try.underlying24 rfl (by kernel_rfl) rfl (fun W hW => ldBS hB5 1 [.int .i64 fr13, .int .i64 dp13, .int .i64 sc13, .slice AC13 nC13 cC13] rfl W hW.ext)) (RO_q rfl rfl (Yd_build Try.bld43 rfl rfl) (RO_q rfl rfl (Yd_fld (off := 0) Try.underlying43 (by kernel_rfl) rfl) (RO_q rfl rfl (Yd_load Try.underlying3 rfl rfl (fun W hW => (ldB hB5 rfl) W hW.ext)) (RO_q rfl rfl (Yd_loadA Try.underlying24 rfl (by kernel_rfl) rfl (fun W hW => (ldBA hB3) W hW.ext)) (RO_l rfl rfl (Ld_call Try.func15 rfl (by kernel_rfl) rfl (FewV (cfr := cfr) (cdp := cdp) (csc := csc) h_cps ⟨by omega, by omega, by omega, by omega, by omega, by omega⟩) ?_)))))))))
  rintro e W6 ⟨fr22, dp22, sc22, AC22, nC22, cC22, pC22, rfl, hp22, hC22, he6⟩
  refine ⟨_, rfl, ?_⟩
  refine ⟨Kp.of_ext he6, ?_⟩
  replace hE := Ext.trans hE he6
  replace h_cps := h_cps.ext he6
  replace hB3 := hB3.ext he6
  replace hC13 := hC13.ext he6
  replace hB5 := hB5.ext he6
  have hs6 := he6.size
  have hnC22 := hC22.ln
  have hcC22 := hC22.cap
  refine RO_q rfl rfl (Yd_build Try.bld43 rfl rfl) (RO_l rfl rfl (Ld_lit Try.underlying45 rfl (lit_flat Try.underlying45 Try.elt43 rfl rfl ⟨rfl, by decide⟩) ?_))
  intro W7 he7 hz7 hL24
  refine ⟨Kp.of_ext he7, ?_⟩
  replace hE := Ext.trans hE he7
  replace h_cps := h_cps.ext he7
  replace hB3 := hB3.ext he7
  replace hC13 := hC13.ext he7
  replace hB5 := hB5.ext he7
  replace hC22 := hC22.ext he7
  have hO24 := Ow.of_blk (T := tSp) (l := [(⟨ep13, fr13, dp13, sc13, AC13, nC13, cC13⟩ : SpH), (⟨n, fr13, dp13, sc13, AC13, nC13, cC13⟩ : SpH), (⟨ep13, fr22, dp22, sc22, AC22, nC22, cC22⟩ : SpH)]) hL24 rfl (n := 3) rfl (by simp [maxLen]) (okc trivial (okc trivial (okc trivial okn)))
  clear hL24
  have hM0 : SMay ep13 fr13 dp13 sc13 pC13 := ⟨hp13.1.1, hp13.1.2, by rw [good_zero hp13.2]⟩
  refine RO_q rfl rfl (Yd_assign rfl) (RO_nil (X_then (C_seq (C_seq (C_region (RL_q rfl (Yd_assign rfl) (RL_nil (X_then (C_block (C_rounds 4 (CR_succ (C_seq (C_seq (C_region (RL_q rfl (Yd_move rfl) (RL_q rfl (Yd_lss rfl rfl) (RL_nil (X_then (C_yes rfl rfl (C_skip (X_then (C_seq (C_block (C_seq (C_region (RL_q rfl (Yd_move rfl) (RL_q rfl (Yd_move rfl) (RL_q rfl (Yd_idxL Try.underlying45 (sz := 5) (by kernel_rfl) rfl rfl (by omega) (by omega)) (RL_q rfl (Yd_loadA (cs := [.int .i64 ep13, .int .i64 fr13, .int .i64 dp13, .int .i64 sc13, .slice AC13 nC13 cC13]) Try.underlying43 rfl (by kernel_rfl) rfl (Vw.lqAL hO24.vw (i := 0) (a := (⟨ep13, fr13, dp13, sc13, AC13, nC13, cC13⟩ : SpH)) rfl rfl rfl)) (RL_l rfl (Ld_call Try.func29 rfl (by kernel_rfl) rfl (refsMayV (sep := ep13) (sfr := fr13) (sdp := dp13) (ssc := sc13) hC13.vw ⟨by omega, by omega, by omega, by omega, by omega, by omega⟩ ⟨by omega, by omega⟩) ?_)))))))))))))))))))))))))))))))
  rintro e W8 ⟨_, rfl, rfl, he8⟩
  refine ⟨_, rfl, ?_⟩
  replace hE := Ext.trans hE he8
  replace h_cps := h_cps.ext he8
  replace hB3 := hB3.ext he8
  replace hC13 := hC13.ext he8
  replace hB5 := hB5.ext he8
  replace hC22 := hC22.ext he8
  replace hO24 := hO24.ext he8
  have hs8 := he8.size
  refine RL_q rfl (Yd_assign rfl) (RL_nil (X_then (C_seq (C_region (RL_q rfl (Yd_move rfl) (RL_q rfl (Yd_move rfl) (RL_q rfl (Yd_idxL Try.underlying45 (sz := 5) (by kernel_rfl) rfl rfl (by omega) (by omega)) (RL_q rfl (Yd_loadA (cs := [.int .i64 ep13, .int .i64 fr13, .int .i64 dp13, .int .i64 sc13, .slice AC13 nC13 cC13]) Try.underlying43 rfl (by kernel_rfl) rfl (Vw.lqAL hO24.vw (i := 0) (a := (⟨ep13, fr13, dp13, sc13, AC13, nC13, cC13⟩ : SpH)) rfl rfl rfl)) (RL_l rfl (Ld_call Try.func31 rfl (by kernel_rfl) rfl (ofV (sep := ep13) (sfr := fr13) (sdp := dp13) (ssc := sc13) hC13.vw ⟨by omega, by omega, by omega, by omega, by omega, by omega⟩ ⟨by omega, by omega⟩) ?_))))))))))
  rintro e W9 ⟨rfl, he9⟩
  refine ⟨_, rfl, ?_⟩
  replace hE := Ext.trans hE he9
  replace h_cps := h_cps.ext he9
  replace hB3 := hB3.ext he9
  replace hC13 := hC13.ext he9
  replace hB5 := hB5.ext he9
  replace hC22 := hC22.ext he9
  replace hO24 := hO24.ext he9
  have hs9 := he9.size
  refine RL_l rfl (Ld_call Try.func30 rfl (by kernel_rfl) rfl (WriteV (sep := ep13) (sfr := fr13) (sdp := dp13) (ssc := sc13) hC13.vw ⟨by omega, by omega, by omega, by omega, by omega, by omega⟩ ⟨by omega, by omega⟩) ?_)
  rintro e W10 ⟨A40_0, n40_0, c40_0, y40_1, rfl, hF40_0, hy40_1, he10⟩
  refine ⟨_, rfl, ?_⟩
  replace hE := Ext.trans hE he10
  replace h_cps := h_cps.ext he10
  replace hB3 := hB3.ext he10
  replace hC13 := hC13.ext he10
  replace hB5 := hB5.ext he10
  replace hC22 := hC22.ext he10
  replace hO24 := hO24.ext he10
  have hs10 := he10.size
  have hn40_0 := hF40_0.ln
  try simp only [List.length_append, List.length_cons, List.length_nil, List.length_set, List.length_take, List.length_drop, List.length_replicate, List.length_map, Nat.zero_add, Nat.add_zero, oneP_len, le_len, le8s_len, le8_len, ptB_len, ptI_len] at hn40_0
  have hc40_0 := hF40_0.cap
  refine RL_q rfl (Yd_move rfl) (RL_q rfl (Yd_extract rfl rfl) (RL_q rfl (Yd_extract rfl rfl) (RL_q rfl (Yd_assign rfl) (RL_q rfl (Yd_assign rfl) (RL_nil (X_then (C_seq (C_seq (C_region (RL_q rfl (Yd_move rfl) (RL_q rfl (Yd_move rfl) (RL_q rfl (Yd_idxL Try.underlying45 (sz := 5) (by kernel_rfl) rfl rfl (by omega) (by omega)) (RL_q rfl (Yd_loadA (cs := [.int .i64 ep13, .int .i64 fr13, .int .i64 dp13, .int .i64 sc13, .slice AC13 nC13 cC13]) Try.underlying43 rfl (by kernel_rfl) rfl (Vw.lqAL hO24.vw (i := 0) (a := (⟨ep13, fr13, dp13, sc13, AC13, nC13, cC13⟩ : SpH)) rfl rfl rfl)) (RL_l rfl (Ld_call Try.func31 rfl (by kernel_rfl) rfl (ofV (sep := ep13) (sfr := fr13) (sdp := dp13) (ssc := sc13) hC13.vw ⟨by omega, by omega, by omega, by omega, by omega, by omega⟩ ⟨by omega, by omega⟩) ?_)))))))))))))))
  rintro e W11 ⟨rfl, he11⟩
  refine ⟨_, rfl, ?_⟩
  replace hE := Ext.trans hE he11
  replace h_cps := h_cps.ext he11
  replace hB3 := hB3.ext he11
  replace hC13 := hC13.ext he11
  replace hB5 := hB5.ext he11
  replace hC22 := hC22.ext he11
  replace hO24 := hO24.ext he11
  replace hF40_0 := hF40_0.ext he11
  have hs11 := he11.size
  refine RL_l rfl (Ld_call Try.func32 rfl (by kernel_rfl) rfl (sMayV (sep := ep13) (sfr := fr13) (sdp := dp13) (ssc := sc13) hC13.vw ⟨by omega, by omega, by omega, by omega, by omega, by omega⟩ ⟨by omega, by omega⟩) ?_)
  rintro e W12 ⟨_, rfl, rfl, he12⟩
  refine ⟨_, rfl, ?_⟩
  replace hE := Ext.trans hE he12
  replace h_cps := h_cps.ext he12
  replace hB3 := hB3.ext he12
  replace hC13 := hC13.ext he12
  replace hB5 := hB5.ext he12
  replace hC22 := hC22.ext he12
  replace hO24 := hO24.ext he12
  replace hF40_0 := hF40_0.ext he12
  have hs12 := he12.size
  refine RL_q rfl (Yd_move rfl) (RL_q rfl (Yd_neqB Try.underlying4 rfl rfl) (RL_q rfl (Yd_move rfl) (?_)))
  refine RL_is (d := 51) (b' := false) rfl (by simp) ?_
  refine RL_gq rfl rfl rfl (Yd_move rfl) (RL_gq rfl rfl rfl (Yd_eql rfl rfl) (RL_gq rfl rfl rfl (Yd_move rfl) (RL_gq rfl rfl rfl (Yd_neqB Try.underlying4 rfl rfl) (RL_q rfl (Yd_pickF rfl rfl) (RL_nil (X_then (?_)))))))
  refine C_no rfl (by rw [hy40_1, (wr_yes hM0).2]; simp [hM0]) (C_skip (X_then (C_seq (C_seq (?_)))))
  have hln0 := (chk_ok hM0.2.2).hln
  refine C_regionD (NoB) (l := [(0, true), (1, true), (2, true), (3, true), (4, true), (5, true), (6, true), (7, true), (8, false), (9, true), (10, true), (11, true)]) (by kernel_rfl) (by kernel_rfl) rfl (by kernel_rfl) (fun _ _ d _ _ h => by cases d <;> exact h) ?_
  intro W13 he13 hh13
  replace hE := Ext.trans hE he13
  replace h_cps := h_cps.ext he13
  replace hB3 := hB3.ext he13
  replace hC13 := hC13.ext he13
  replace hB5 := hB5.ext he13
  replace hC22 := hC22.ext he13
  replace hO24 := hO24.ext he13
  replace hF40_0 := hF40_0.ext he13
  have hs13 := he13.size
  refine RO_q rfl rfl (Yd_move rfl) (RO_q rfl rfl (Yd_move rfl) (?_))
  refine RO_is (d := 58) (b' := true) rfl (decide_eq_true hM0) ?_
  refine RO_gq rfl rfl rfl rfl (Yd_move rfl) (RO_gq rfl rfl rfl rfl (Yd_str Try.underlying47 Try.underlying5 Try.underlying9 rfl (fun W hW => Rd.ext (hF40_0.vw).u8 hW.ext)) (RO_gq rfl rfl rfl rfl (Yd_move rfl) (RO_gq rfl rfl rfl rfl (Yd_move rfl) (RO_gq rfl rfl rfl rfl (Yd_idxL Try.underlying45 (sz := 5) (by kernel_rfl) rfl rfl (by omega) (by omega)) (RO_gq rfl rfl rfl rfl (Yd_loadA (cs := [.int .i64 ep13, .int .i64 fr13, .int .i64 dp13, .int .i64 sc13, .slice AC13 nC13 cC13]) Try.underlying43 rfl (by kernel_rfl) rfl (fun W hW => (Vw.lqAL hO24.vw (i := 0) (a := (⟨ep13, fr13, dp13, sc13, AC13, nC13, cC13⟩ : SpH)) rfl rfl rfl) W hW.ext)) (RO_gl rfl rfl rfl rfl (Ld_call Try.func33 rfl (by kernel_rfl) rfl (refBytesV (sep := ep13) (sfr := fr13) (sdp := dp13) (ssc := sc13) hC13.vw ⟨by omega, by omega, by omega, by omega, by omega, by omega⟩ ⟨by omega, by omega⟩ (by omega)) ?_)))))))
  rintro e W14 ⟨A65, n65, c65, rfl, hF65, he14⟩
  refine ⟨_, rfl, ?_⟩
  refine ⟨Kp.of_ext he14, ?_⟩
  replace hE := Ext.trans hE he14
  replace h_cps := h_cps.ext he14
  replace hB3 := hB3.ext he14
  replace hC13 := hC13.ext he14
  replace hB5 := hB5.ext he14
  replace hC22 := hC22.ext he14
  replace hO24 := hO24.ext he14
  replace hF40_0 := hF40_0.ext he14
  have hs14 := he14.size
  have hn65 := hF65.ln
  try simp only [List.length_append, List.length_cons, List.length_nil, List.length_set, List.length_take, List.length_drop, List.length_replicate, List.length_map, Nat.zero_add, Nat.add_zero, oneP_len, le_len, le8s_len, le8_len, ptB_len, ptI_len] at hn65
  have hc65 := hF65.cap
  refine RO_gq rfl rfl rfl rfl (Yd_str Try.underlying47 Try.underlying5 Try.underlying9 rfl (fun W hW => Rd.ext (hF65.vw).u8 hW.ext)) (RO_gq rfl rfl rfl rfl (Yd_neqSB rfl rfl hF40_0.byt hF65.byt) (RO_q rfl rfl (Yd_pickT rfl rfl) (RO_nil (X_then (?_)))))
  refine C_no rfl (by rw [(wr_yes hM0).1]; simp) (C_skip (X_then (C_seq (C_region (RL_q rfl (Yd_move rfl) (RL_q rfl (Yd_not rfl) (RL_q rfl (Yd_move rfl) (?_))))))))
  refine RL_is (d := 71) (b' := false) rfl (by simp [hM0]) ?_
  refine RL_gn rfl rfl rfl rfl (RL_gn rfl rfl rfl rfl (RL_gn rfl rfl rfl rfl (RL_gu rfl rfl rfl (RL_gu rfl rfl rfl (RL_gu rfl rfl rfl (RL_gn rfl rfl rfl rfl (RL_q rfl (Yd_pickF rfl rfl) (RL_nil (X_then (C_no rfl rfl (C_skip (X_block (X_then (?_))))))))))))))
  by_cases hM1 : SMay n fr13 dp13 sc13 pC13
  · skip
    refine C_region (RL_q rfl (Yd_move rfl) (RL_q rfl (Yd_add (r := 1) rfl rfl rfl) (RL_q rfl (Yd_assign rfl) (RL_nil (X_round (CR_sub (E' := [(6, .slice (some ⟨W6.heap.size, 0, none⟩) 3 3), (7, .int .i64 1)]) ⟨rfl, rfl, trivial⟩ (CR_succ (C_seq (C_seq (C_region (RL_q rfl (Yd_move rfl) (RL_q rfl (Yd_lss rfl rfl) (RL_nil (X_then (C_yes rfl rfl (C_skip (X_then (C_seq (C_block (C_seq (C_region (RL_q rfl (Yd_move rfl) (RL_q rfl (Yd_move rfl) (RL_q rfl (Yd_idxL Try.underlying45 (sz := 5) (by kernel_rfl) rfl rfl (by omega) (by omega)) (RL_q rfl (Yd_loadA (cs := [.int .i64 n, .int .i64 fr13, .int .i64 dp13, .int .i64 sc13, .slice AC13 nC13 cC13]) Try.underlying43 rfl (by kernel_rfl) rfl (Vw.lqAL hO24.vw (i := 1) (a := (⟨n, fr13, dp13, sc13, AC13, nC13, cC13⟩ : SpH)) rfl rfl rfl)) (RL_l rfl (Ld_call Try.func29 rfl (by kernel_rfl) rfl (refsMayV (sep := n) (sfr := fr13) (sdp := dp13) (ssc := sc13) hC13.vw ⟨by omega, by omega, by omega, by omega, by omega, by omega⟩ ⟨by omega, by omega⟩) ?_)))))))))))))))))))))))))))
    rintro e W15 ⟨_, rfl, rfl, he15⟩
    refine ⟨_, rfl, ?_⟩
    replace hE := Ext.trans hE he15
    replace h_cps := h_cps.ext he15
    replace hB3 := hB3.ext he15
    replace hC13 := hC13.ext he15
    replace hB5 := hB5.ext he15
    replace hC22 := hC22.ext he15
    replace hO24 := hO24.ext he15
    replace hF40_0 := hF40_0.ext he15
    replace hF65 := hF65.ext he15
    have hs15 := he15.size
    refine RL_q rfl (Yd_assign rfl) (RL_nil (X_then (C_seq (C_region (RL_q rfl (Yd_move rfl) (RL_q rfl (Yd_move rfl) (RL_q rfl (Yd_idxL Try.underlying45 (sz := 5) (by kernel_rfl) rfl rfl (by omega) (by omega)) (RL_q rfl (Yd_loadA (cs := [.int .i64 n, .int .i64 fr13, .int .i64 dp13, .int .i64 sc13, .slice AC13 nC13 cC13]) Try.underlying43 rfl (by kernel_rfl) rfl (Vw.lqAL hO24.vw (i := 1) (a := (⟨n, fr13, dp13, sc13, AC13, nC13, cC13⟩ : SpH)) rfl rfl rfl)) (RL_l rfl (Ld_call Try.func31 rfl (by kernel_rfl) rfl (ofV (sep := n) (sfr := fr13) (sdp := dp13) (ssc := sc13) hC13.vw ⟨by omega, by omega, by omega, by omega, by omega, by omega⟩ ⟨by omega, by omega⟩) ?_))))))))))
    rintro e W16 ⟨rfl, he16⟩
    refine ⟨_, rfl, ?_⟩
    replace hE := Ext.trans hE he16
    replace h_cps := h_cps.ext he16
    replace hB3 := hB3.ext he16
    replace hC13 := hC13.ext he16
    replace hB5 := hB5.ext he16
    replace hC22 := hC22.ext he16
    replace hO24 := hO24.ext he16
    replace hF40_0 := hF40_0.ext he16
    replace hF65 := hF65.ext he16
    have hs16 := he16.size
    refine RL_l rfl (Ld_call Try.func30 rfl (by kernel_rfl) rfl (WriteV (sep := n) (sfr := fr13) (sdp := dp13) (ssc := sc13) hC13.vw ⟨by omega, by omega, by omega, by omega, by omega, by omega⟩ ⟨by omega, by omega⟩) ?_)
    rintro e W17 ⟨A1040_0, n1040_0, c1040_0, y1040_1, rfl, hF1040_0, hy1040_1, he17⟩
    refine ⟨_, rfl, ?_⟩
    replace hE := Ext.trans hE he17
    replace h_cps := h_cps.ext he17
    replace hB3 := hB3.ext he17
    replace hC13 := hC13.ext he17
    replace hB5 := hB5.ext he17
    replace hC22 := hC22.ext he17
    replace hO24 := hO24.ext he17
    replace hF40_0 := hF40_0.ext he17
    replace hF65 := hF65.ext he17
    have hs17 := he17.size
    have hn1040_0 := hF1040_0.ln
    try simp only [List.length_append, List.length_cons, List.length_nil, List.length_set, List.length_take, List.length_drop, List.length_replicate, List.length_map, Nat.zero_add, Nat.add_zero, oneP_len, le_len, le8s_len, le8_len, ptB_len, ptI_len] at hn1040_0
    have hc1040_0 := hF1040_0.cap
    refine RL_q rfl (Yd_move rfl) (RL_q rfl (Yd_extract rfl rfl) (RL_q rfl (Yd_extract rfl rfl) (RL_q rfl (Yd_assign rfl) (RL_q rfl (Yd_assign rfl) (RL_nil (X_then (C_seq (C_seq (C_region (RL_q rfl (Yd_move rfl) (RL_q rfl (Yd_move rfl) (RL_q rfl (Yd_idxL Try.underlying45 (sz := 5) (by kernel_rfl) rfl rfl (by omega) (by omega)) (RL_q rfl (Yd_loadA (cs := [.int .i64 n, .int .i64 fr13, .int .i64 dp13, .int .i64 sc13, .slice AC13 nC13 cC13]) Try.underlying43 rfl (by kernel_rfl) rfl (Vw.lqAL hO24.vw (i := 1) (a := (⟨n, fr13, dp13, sc13, AC13, nC13, cC13⟩ : SpH)) rfl rfl rfl)) (RL_l rfl (Ld_call Try.func31 rfl (by kernel_rfl) rfl (ofV (sep := n) (sfr := fr13) (sdp := dp13) (ssc := sc13) hC13.vw ⟨by omega, by omega, by omega, by omega, by omega, by omega⟩ ⟨by omega, by omega⟩) ?_)))))))))))))))
    rintro e W18 ⟨rfl, he18⟩
    refine ⟨_, rfl, ?_⟩
    replace hE := Ext.trans hE he18
    replace h_cps := h_cps.ext he18
    replace hB3 := hB3.ext he18
    replace hC13 := hC13.ext he18
    replace hB5 := hB5.ext he18
    replace hC22 := hC22.ext he18
    replace hO24 := hO24.ext he18
    replace hF40_0 := hF40_0.ext he18
    replace hF65 := hF65.ext he18
    replace hF1040_0 := hF1040_0.ext he18
    have hs18 := he18.size
    refine RL_l rfl (Ld_call Try.func32 rfl (by kernel_rfl) rfl (sMayV (sep := n) (sfr := fr13) (sdp := dp13) (ssc := sc13) hC13.vw ⟨by omega, by omega, by omega, by omega, by omega, by omega⟩ ⟨by omega, by omega⟩) ?_)
    rintro e W19 ⟨_, rfl, rfl, he19⟩
    refine ⟨_, rfl, ?_⟩
    replace hE := Ext.trans hE he19
    replace h_cps := h_cps.ext he19
    replace hB3 := hB3.ext he19
    replace hC13 := hC13.ext he19
    replace hB5 := hB5.ext he19
    replace hC22 := hC22.ext he19
    replace hO24 := hO24.ext he19
    replace hF40_0 := hF40_0.ext he19
    replace hF65 := hF65.ext he19
    replace hF1040_0 := hF1040_0.ext he19
    have hs19 := he19.size
    refine RL_q rfl (Yd_move rfl) (RL_q rfl (Yd_neqB Try.underlying4 rfl rfl) (RL_q rfl (Yd_move rfl) (?_)))
    refine RL_is (d := 51) (b' := false) rfl (by simp) ?_
    refine RL_gq rfl rfl rfl (Yd_move rfl) (RL_gq rfl rfl rfl (Yd_eql rfl rfl) (RL_gq rfl rfl rfl (Yd_move rfl) (RL_gq rfl rfl rfl (Yd_neqB Try.underlying4 rfl rfl) (RL_q rfl (Yd_pickF rfl rfl) (RL_nil (X_then (?_)))))))
    refine C_no rfl (by rw [hy1040_1, (wr_yes hM1).2]; simp [hM1]) (C_skip (X_then (C_seq (C_seq (?_)))))
    have hln1 := (chk_ok hM1.2.2).hln
    refine C_regionD (NoB) (l := [(0, true), (1, true), (2, true), (3, true), (4, true), (5, true), (6, true), (7, true), (8, false), (9, true), (10, true), (11, true)]) (by kernel_rfl) (by kernel_rfl) rfl (by kernel_rfl) (fun _ _ d _ _ h => by cases d <;> exact h) ?_
    intro W20 he20 hh20
    replace hE := Ext.trans hE he20
    replace h_cps := h_cps.ext he20
    replace hB3 := hB3.ext he20
    replace hC13 := hC13.ext he20
    replace hB5 := hB5.ext he20
    replace hC22 := hC22.ext he20
    replace hO24 := hO24.ext he20
    replace hF40_0 := hF40_0.ext he20
    replace hF65 := hF65.ext he20
    replace hF1040_0 := hF1040_0.ext he20
    have hs20 := he20.size
    refine RO_q rfl rfl (Yd_move rfl) (RO_q rfl rfl (Yd_move rfl) (?_))
    refine RO_is (d := 58) (b' := true) rfl (decide_eq_true hM1) ?_
    refine RO_gq rfl rfl rfl rfl (Yd_move rfl) (RO_gq rfl rfl rfl rfl (Yd_str Try.underlying47 Try.underlying5 Try.underlying9 rfl (fun W hW => Rd.ext (hF1040_0.vw).u8 hW.ext)) (RO_gq rfl rfl rfl rfl (Yd_move rfl) (RO_gq rfl rfl rfl rfl (Yd_move rfl) (RO_gq rfl rfl rfl rfl (Yd_idxL Try.underlying45 (sz := 5) (by kernel_rfl) rfl rfl (by omega) (by omega)) (RO_gq rfl rfl rfl rfl (Yd_loadA (cs := [.int .i64 n, .int .i64 fr13, .int .i64 dp13, .int .i64 sc13, .slice AC13 nC13 cC13]) Try.underlying43 rfl (by kernel_rfl) rfl (fun W hW => (Vw.lqAL hO24.vw (i := 1) (a := (⟨n, fr13, dp13, sc13, AC13, nC13, cC13⟩ : SpH)) rfl rfl rfl) W hW.ext)) (RO_gl rfl rfl rfl rfl (Ld_call Try.func33 rfl (by kernel_rfl) rfl (refBytesV (sep := n) (sfr := fr13) (sdp := dp13) (ssc := sc13) hC13.vw ⟨by omega, by omega, by omega, by omega, by omega, by omega⟩ ⟨by omega, by omega⟩ (by omega)) ?_)))))))
    rintro e W21 ⟨A1065, n1065, c1065, rfl, hF1065, he21⟩
    refine ⟨_, rfl, ?_⟩
    refine ⟨Kp.of_ext he21, ?_⟩
    replace hE := Ext.trans hE he21
    replace h_cps := h_cps.ext he21
    replace hB3 := hB3.ext he21
    replace hC13 := hC13.ext he21
    replace hB5 := hB5.ext he21
    replace hC22 := hC22.ext he21
    replace hO24 := hO24.ext he21
    replace hF40_0 := hF40_0.ext he21
    replace hF65 := hF65.ext he21
    replace hF1040_0 := hF1040_0.ext he21
    have hs21 := he21.size
    have hn1065 := hF1065.ln
    try simp only [List.length_append, List.length_cons, List.length_nil, List.length_set, List.length_take, List.length_drop, List.length_replicate, List.length_map, Nat.zero_add, Nat.add_zero, oneP_len, le_len, le8s_len, le8_len, ptB_len, ptI_len] at hn1065
    have hc1065 := hF1065.cap
    refine RO_gq rfl rfl rfl rfl (Yd_str Try.underlying47 Try.underlying5 Try.underlying9 rfl (fun W hW => Rd.ext (hF1065.vw).u8 hW.ext)) (RO_gq rfl rfl rfl rfl (Yd_neqSB rfl rfl hF1040_0.byt hF1065.byt) (RO_q rfl rfl (Yd_pickT rfl rfl) (RO_nil (X_then (?_)))))
    refine C_no rfl (by rw [(wr_yes hM1).1]; simp) (C_skip (X_then (C_seq (C_region (RL_q rfl (Yd_move rfl) (RL_q rfl (Yd_not rfl) (RL_q rfl (Yd_move rfl) (?_))))))))
    refine RL_is (d := 71) (b' := false) rfl (by simp [hM1]) ?_
    refine RL_gn rfl rfl rfl rfl (RL_gn rfl rfl rfl rfl (RL_gn rfl rfl rfl rfl (RL_gu rfl rfl rfl (RL_gu rfl rfl rfl (RL_gu rfl rfl rfl (RL_gn rfl rfl rfl rfl (RL_q rfl (Yd_pickF rfl rfl) (RL_nil (X_then (C_no rfl rfl (C_skip (X_block (X_then (?_))))))))))))))
    by_cases hM2 : SMay ep13 fr22 dp22 sc22 pC22
    · skip
      refine C_region (RL_q rfl (Yd_move rfl) (RL_q rfl (Yd_add (r := 2) rfl rfl rfl) (RL_q rfl (Yd_assign rfl) (RL_nil (X_round (CR_sub (E' := [(6, .slice (some ⟨W6.heap.size, 0, none⟩) 3 3), (7, .int .i64 2)]) ⟨rfl, rfl, trivial⟩ (CR_succ (C_seq (C_seq (C_region (RL_q rfl (Yd_move rfl) (RL_q rfl (Yd_lss rfl rfl) (RL_nil (X_then (C_yes rfl rfl (C_skip (X_then (C_seq (C_block (C_seq (C_region (RL_q rfl (Yd_move rfl) (RL_q rfl (Yd_move rfl) (RL_q rfl (Yd_idxL Try.underlying45 (sz := 5) (by kernel_rfl) rfl rfl (by omega) (by omega)) (RL_q rfl (Yd_loadA (cs := [.int .i64 ep13, .int .i64 fr22, .int .i64 dp22, .int .i64 sc22, .slice AC22 nC22 cC22]) Try.underlying43 rfl (by kernel_rfl) rfl (Vw.lqAL hO24.vw (i := 2) (a := (⟨ep13, fr22, dp22, sc22, AC22, nC22, cC22⟩ : SpH)) rfl rfl rfl)) (RL_l rfl (Ld_call Try.func29 rfl (by kernel_rfl) rfl (refsMayV (sep := ep13) (sfr := fr22) (sdp := dp22) (ssc := sc22) hC22.vw ⟨by omega, by omega, by omega, by omega, by omega, by omega⟩ ⟨by omega, by omega⟩) ?_)))))))))))))))))))))))))))
      rintro e W22 ⟨_, rfl, rfl, he22⟩
      refine ⟨_, rfl, ?_⟩
      replace hE := Ext.trans hE he22
      replace h_cps := h_cps.ext he22
      replace hB3 := hB3.ext he22
      replace hC13 := hC13.ext he22
      replace hB5 := hB5.ext he22
      replace hC22 := hC22.ext he22
      replace hO24 := hO24.ext he22
      replace hF40_0 := hF40_0.ext he22
      replace hF65 := hF65.ext he22
      replace hF1040_0 := hF1040_0.ext he22
      replace hF1065 := hF1065.ext he22
      have hs22 := he22.size
      refine RL_q rfl (Yd_assign rfl) (RL_nil (X_then (C_seq (C_region (RL_q rfl (Yd_move rfl) (RL_q rfl (Yd_move rfl) (RL_q rfl (Yd_idxL Try.underlying45 (sz := 5) (by kernel_rfl) rfl rfl (by omega) (by omega)) (RL_q rfl (Yd_loadA (cs := [.int .i64 ep13, .int .i64 fr22, .int .i64 dp22, .int .i64 sc22, .slice AC22 nC22 cC22]) Try.underlying43 rfl (by kernel_rfl) rfl (Vw.lqAL hO24.vw (i := 2) (a := (⟨ep13, fr22, dp22, sc22, AC22, nC22, cC22⟩ : SpH)) rfl rfl rfl)) (RL_l rfl (Ld_call Try.func31 rfl (by kernel_rfl) rfl (ofV (sep := ep13) (sfr := fr22) (sdp := dp22) (ssc := sc22) hC22.vw ⟨by omega, by omega, by omega, by omega, by omega, by omega⟩ ⟨by omega, by omega⟩) ?_))))))))))
      rintro e W23 ⟨rfl, he23⟩
      refine ⟨_, rfl, ?_⟩
      replace hE := Ext.trans hE he23
      replace h_cps := h_cps.ext he23
      replace hB3 := hB3.ext he23
      replace hC13 := hC13.ext he23
      replace hB5 := hB5.ext he23
      replace hC22 := hC22.ext he23
      replace hO24 := hO24.ext he23
      replace hF40_0 := hF40_0.ext he23
      replace hF65 := hF65.ext he23
      replace hF1040_0 := hF1040_0.ext he23
      replace hF1065 := hF1065.ext he23
      have hs23 := he23.size
      refine RL_l rfl (Ld_call Try.func30 rfl (by kernel_rfl) rfl (WriteV (sep := ep13) (sfr := fr22) (sdp := dp22) (ssc := sc22) hC22.vw ⟨by omega, by omega, by omega, by omega, by omega, by omega⟩ ⟨by omega, by omega⟩) ?_)
      rintro e W24 ⟨A2040_0, n2040_0, c2040_0, y2040_1, rfl, hF2040_0, hy2040_1, he24⟩
      refine ⟨_, rfl, ?_⟩
      replace hE := Ext.trans hE he24
      replace h_cps := h_cps.ext he24
      replace hB3 := hB3.ext he24
      replace hC13 := hC13.ext he24
      replace hB5 := hB5.ext he24
      replace hC22 := hC22.ext he24
      replace hO24 := hO24.ext he24
      replace hF40_0 := hF40_0.ext he24
      replace hF65 := hF65.ext he24
      replace hF1040_0 := hF1040_0.ext he24
      replace hF1065 := hF1065.ext he24
      have hs24 := he24.size
      have hn2040_0 := hF2040_0.ln
      try simp only [List.length_append, List.length_cons, List.length_nil, List.length_set, List.length_take, List.length_drop, List.length_replicate, List.length_map, Nat.zero_add, Nat.add_zero, oneP_len, le_len, le8s_len, le8_len, ptB_len, ptI_len] at hn2040_0
      have hc2040_0 := hF2040_0.cap
      refine RL_q rfl (Yd_move rfl) (RL_q rfl (Yd_extract rfl rfl) (RL_q rfl (Yd_extract rfl rfl) (RL_q rfl (Yd_assign rfl) (RL_q rfl (Yd_assign rfl) (RL_nil (X_then (C_seq (C_seq (C_region (RL_q rfl (Yd_move rfl) (RL_q rfl (Yd_move rfl) (RL_q rfl (Yd_idxL Try.underlying45 (sz := 5) (by kernel_rfl) rfl rfl (by omega) (by omega)) (RL_q rfl (Yd_loadA (cs := [.int .i64 ep13, .int .i64 fr22, .int .i64 dp22, .int .i64 sc22, .slice AC22 nC22 cC22]) Try.underlying43 rfl (by kernel_rfl) rfl (Vw.lqAL hO24.vw (i := 2) (a := (⟨ep13, fr22, dp22, sc22, AC22, nC22, cC22⟩ : SpH)) rfl rfl rfl)) (RL_l rfl (Ld_call Try.func31 rfl (by kernel_rfl) rfl (ofV (sep := ep13) (sfr := fr22) (sdp := dp22) (ssc := sc22) hC22.vw ⟨by omega, by omega, by omega, by omega, by omega, by omega⟩ ⟨by omega, by omega⟩) ?_)))))))))))))))
      rintro e W25 ⟨rfl, he25⟩
      refine ⟨_, rfl, ?_⟩
      replace hE := Ext.trans hE he25
      replace h_cps := h_cps.ext he25
      replace hB3 := hB3.ext he25
      replace hC13 := hC13.ext he25
      replace hB5 := hB5.ext he25
      replace hC22 := hC22.ext he25
      replace hO24 := hO24.ext he25
      replace hF40_0 := hF40_0.ext he25
      replace hF65 := hF65.ext he25
      replace hF1040_0 := hF1040_0.ext he25
      replace hF1065 := hF1065.ext he25
      replace hF2040_0 := hF2040_0.ext he25
      have hs25 := he25.size
      refine RL_l rfl (Ld_call Try.func32 rfl (by kernel_rfl) rfl (sMayV (sep := ep13) (sfr := fr22) (sdp := dp22) (ssc := sc22) hC22.vw ⟨by omega, by omega, by omega, by omega, by omega, by omega⟩ ⟨by omega, by omega⟩) ?_)
      rintro e W26 ⟨_, rfl, rfl, he26⟩
      refine ⟨_, rfl, ?_⟩
      replace hE := Ext.trans hE he26
      replace h_cps := h_cps.ext he26
      replace hB3 := hB3.ext he26
      replace hC13 := hC13.ext he26
      replace hB5 := hB5.ext he26
      replace hC22 := hC22.ext he26
      replace hO24 := hO24.ext he26
      replace hF40_0 := hF40_0.ext he26
      replace hF65 := hF65.ext he26
      replace hF1040_0 := hF1040_0.ext he26
      replace hF1065 := hF1065.ext he26
      replace hF2040_0 := hF2040_0.ext he26
      have hs26 := he26.size
      refine RL_q rfl (Yd_move rfl) (RL_q rfl (Yd_neqB Try.underlying4 rfl rfl) (RL_q rfl (Yd_move rfl) (?_)))
      refine RL_is (d := 51) (b' := false) rfl (by simp) ?_
      refine RL_gq rfl rfl rfl (Yd_move rfl) (RL_gq rfl rfl rfl (Yd_eql rfl rfl) (RL_gq rfl rfl rfl (Yd_move rfl) (RL_gq rfl rfl rfl (Yd_neqB Try.underlying4 rfl rfl) (RL_q rfl (Yd_pickF rfl rfl) (RL_nil (X_then (?_)))))))
      refine C_no rfl (by rw [hy2040_1, (wr_yes hM2).2]; simp [hM2]) (C_skip (X_then (C_seq (C_seq (?_)))))
      have hln2 := (chk_ok hM2.2.2).hln
      refine C_regionD (NoB) (l := [(0, true), (1, true), (2, true), (3, true), (4, true), (5, true), (6, true), (7, true), (8, false), (9, true), (10, true), (11, true)]) (by kernel_rfl) (by kernel_rfl) rfl (by kernel_rfl) (fun _ _ d _ _ h => by cases d <;> exact h) ?_
      intro W27 he27 hh27
      replace hE := Ext.trans hE he27
      replace h_cps := h_cps.ext he27
      replace hB3 := hB3.ext he27
      replace hC13 := hC13.ext he27
      replace hB5 := hB5.ext he27
      replace hC22 := hC22.ext he27
      replace hO24 := hO24.ext he27
      replace hF40_0 := hF40_0.ext he27
      replace hF65 := hF65.ext he27
      replace hF1040_0 := hF1040_0.ext he27
      replace hF1065 := hF1065.ext he27
      replace hF2040_0 := hF2040_0.ext he27
      have hs27 := he27.size
      refine RO_q rfl rfl (Yd_move rfl) (RO_q rfl rfl (Yd_move rfl) (?_))
      refine RO_is (d := 58) (b' := true) rfl (decide_eq_true hM2) ?_
      refine RO_gq rfl rfl rfl rfl (Yd_move rfl) (RO_gq rfl rfl rfl rfl (Yd_str Try.underlying47 Try.underlying5 Try.underlying9 rfl (fun W hW => Rd.ext (hF2040_0.vw).u8 hW.ext)) (RO_gq rfl rfl rfl rfl (Yd_move rfl) (RO_gq rfl rfl rfl rfl (Yd_move rfl) (RO_gq rfl rfl rfl rfl (Yd_idxL Try.underlying45 (sz := 5) (by kernel_rfl) rfl rfl (by omega) (by omega)) (RO_gq rfl rfl rfl rfl (Yd_loadA (cs := [.int .i64 ep13, .int .i64 fr22, .int .i64 dp22, .int .i64 sc22, .slice AC22 nC22 cC22]) Try.underlying43 rfl (by kernel_rfl) rfl (fun W hW => (Vw.lqAL hO24.vw (i := 2) (a := (⟨ep13, fr22, dp22, sc22, AC22, nC22, cC22⟩ : SpH)) rfl rfl rfl) W hW.ext)) (RO_gl rfl rfl rfl rfl (Ld_call Try.func33 rfl (by kernel_rfl) rfl (refBytesV (sep := ep13) (sfr := fr22) (sdp := dp22) (ssc := sc22) hC22.vw ⟨by omega, by omega, by omega, by omega, by omega, by omega⟩ ⟨by omega, by omega⟩ (by omega)) ?_)))))))
      rintro e W28 ⟨A2065, n2065, c2065, rfl, hF2065, he28⟩
      refine ⟨_, rfl, ?_⟩
      refine ⟨Kp.of_ext he28, ?_⟩
      replace hE := Ext.trans hE he28
      replace h_cps := h_cps.ext he28
      replace hB3 := hB3.ext he28
      replace hC13 := hC13.ext he28
      replace hB5 := hB5.ext he28
      replace hC22 := hC22.ext he28
      replace hO24 := hO24.ext he28
      replace hF40_0 := hF40_0.ext he28
      replace hF65 := hF65.ext he28
      replace hF1040_0 := hF1040_0.ext he28
      replace hF1065 := hF1065.ext he28
      replace hF2040_0 := hF2040_0.ext he28
      have hs28 := he28.size
      have hn2065 := hF2065.ln
      try simp only [List.length_append, List.length_cons, List.length_nil, List.length_set, List.length_take, List.length_drop, List.length_replicate, List.length_map, Nat.zero_add, Nat.add_zero, oneP_len, le_len, le8s_len, le8_len, ptB_len, ptI_len] at hn2065
      have hc2065 := hF2065.cap
      refine RO_gq rfl rfl rfl rfl (Yd_str Try.underlying47 Try.underlying5 Try.underlying9 rfl (fun W hW => Rd.ext (hF2065.vw).u8 hW.ext)) (RO_gq rfl rfl rfl rfl (Yd_neqSB rfl rfl hF2040_0.byt hF2065.byt) (RO_q rfl rfl (Yd_pickT rfl rfl) (RO_nil (X_then (?_)))))
      refine C_no rfl (by rw [(wr_yes hM2).1]; simp) (C_skip (X_then (C_seq (C_region (RL_q rfl (Yd_move rfl) (RL_q rfl (Yd_not rfl) (RL_q rfl (Yd_move rfl) (?_))))))))
      refine RL_is (d := 71) (b' := false) rfl (by simp [hM2]) ?_
      refine RL_gn rfl rfl rfl rfl (RL_gn rfl rfl rfl rfl (RL_gn rfl rfl rfl rfl (RL_gu rfl rfl rfl (RL_gu rfl rfl rfl (RL_gu rfl rfl rfl (RL_gn rfl rfl rfl rfl (RL_q rfl (Yd_pickF rfl rfl) (RL_nil (X_then (C_no rfl rfl (C_skip (X_block (X_then (C_region (RL_q rfl (Yd_move rfl) (RL_q rfl (Yd_add (r := 3) rfl rfl rfl) (RL_q rfl (Yd_assign rfl) (RL_nil (X_round (CR_sub (E' := [(6, .slice (some ⟨W6.heap.size, 0, none⟩) 3 3), (7, .int .i64 3)]) ⟨rfl, rfl, trivial⟩ (CR_succ (C_seq (C_seq (C_region (RL_q rfl (Yd_move rfl) (RL_q rfl (Yd_lss rfl rfl) (RL_nil (X_then (C_no rfl rfl (C_exit (X_thenE (X_thenE (X_blockE (X_then (C_seq (C_region (RL_l rfl (Ld_call Try.func34 rfl (by kernel_rfl) rfl (lives06V ) ?_))))))))))))))))))))))))))))))))))))))
      rintro e W29 ⟨_, rfl, rfl, he29⟩
      refine ⟨_, rfl, ?_⟩
      replace hE := Ext.trans hE he29
      replace h_cps := h_cps.ext he29
      replace hB3 := hB3.ext he29
      replace hC13 := hC13.ext he29
      replace hB5 := hB5.ext he29
      replace hC22 := hC22.ext he29
      replace hO24 := hO24.ext he29
      replace hF40_0 := hF40_0.ext he29
      replace hF65 := hF65.ext he29
      replace hF1040_0 := hF1040_0.ext he29
      replace hF1065 := hF1065.ext he29
      replace hF2040_0 := hF2040_0.ext he29
      replace hF2065 := hF2065.ext he29
      have hs29 := he29.size
      refine RL_q rfl (Yd_assign rfl) (RL_nil (X_then (C_ret (X_ret1 rfl rfl ?_))))
      refine ⟨_, rfl, ?_, hE⟩
      all_goals (first | rfl | omega | simp)
    · skip
      refine C_region (RL_q rfl (Yd_move rfl) (RL_q rfl (Yd_add (r := 2) rfl rfl rfl) (RL_q rfl (Yd_assign rfl) (RL_nil (X_round (CR_sub (E' := [(6, .slice (some ⟨W6.heap.size, 0, none⟩) 3 3), (7, .int .i64 2)]) ⟨rfl, rfl, trivial⟩ (CR_succ (C_seq (C_seq (C_region (RL_q rfl (Yd_move rfl) (RL_q rfl (Yd_lss rfl rfl) (RL_nil (X_then (C_yes rfl rfl (C_skip (X_then (C_seq (C_block (C_seq (C_region (RL_q rfl (Yd_move rfl) (RL_q rfl (Yd_move rfl) (RL_q rfl (Yd_idxL Try.underlying45 (sz := 5) (by kernel_rfl) rfl rfl (by omega) (by omega)) (RL_q rfl (Yd_loadA (cs := [.int .i64 ep13, .int .i64 fr22, .int .i64 dp22, .int .i64 sc22, .slice AC22 nC22 cC22]) Try.underlying43 rfl (by kernel_rfl) rfl (Vw.lqAL hO24.vw (i := 2) (a := (⟨ep13, fr22, dp22, sc22, AC22, nC22, cC22⟩ : SpH)) rfl rfl rfl)) (RL_l rfl (Ld_call Try.func29 rfl (by kernel_rfl) rfl (refsMayV (sep := ep13) (sfr := fr22) (sdp := dp22) (ssc := sc22) hC22.vw ⟨by omega, by omega, by omega, by omega, by omega, by omega⟩ ⟨by omega, by omega⟩) ?_)))))))))))))))))))))))))))
      rintro e W22 ⟨_, rfl, rfl, he22⟩
      refine ⟨_, rfl, ?_⟩
      replace hE := Ext.trans hE he22
      replace h_cps := h_cps.ext he22
      replace hB3 := hB3.ext he22
      replace hC13 := hC13.ext he22
      replace hB5 := hB5.ext he22
      replace hC22 := hC22.ext he22
      replace hO24 := hO24.ext he22
      replace hF40_0 := hF40_0.ext he22
      replace hF65 := hF65.ext he22
      replace hF1040_0 := hF1040_0.ext he22
      replace hF1065 := hF1065.ext he22
      have hs22 := he22.size
      refine RL_q rfl (Yd_assign rfl) (RL_nil (X_then (C_seq (C_region (RL_q rfl (Yd_move rfl) (RL_q rfl (Yd_move rfl) (RL_q rfl (Yd_idxL Try.underlying45 (sz := 5) (by kernel_rfl) rfl rfl (by omega) (by omega)) (RL_q rfl (Yd_loadA (cs := [.int .i64 ep13, .int .i64 fr22, .int .i64 dp22, .int .i64 sc22, .slice AC22 nC22 cC22]) Try.underlying43 rfl (by kernel_rfl) rfl (Vw.lqAL hO24.vw (i := 2) (a := (⟨ep13, fr22, dp22, sc22, AC22, nC22, cC22⟩ : SpH)) rfl rfl rfl)) (RL_l rfl (Ld_call Try.func31 rfl (by kernel_rfl) rfl (ofV (sep := ep13) (sfr := fr22) (sdp := dp22) (ssc := sc22) hC22.vw ⟨by omega, by omega, by omega, by omega, by omega, by omega⟩ ⟨by omega, by omega⟩) ?_))))))))))
      rintro e W23 ⟨rfl, he23⟩
      refine ⟨_, rfl, ?_⟩
      replace hE := Ext.trans hE he23
      replace h_cps := h_cps.ext he23
      replace hB3 := hB3.ext he23
      replace hC13 := hC13.ext he23
      replace hB5 := hB5.ext he23
      replace hC22 := hC22.ext he23
      replace hO24 := hO24.ext he23
      replace hF40_0 := hF40_0.ext he23
      replace hF65 := hF65.ext he23
      replace hF1040_0 := hF1040_0.ext he23
      replace hF1065 := hF1065.ext he23
      have hs23 := he23.size
      refine RL_l rfl (Ld_call Try.func30 rfl (by kernel_rfl) rfl (WriteV (sep := ep13) (sfr := fr22) (sdp := dp22) (ssc := sc22) hC22.vw ⟨by omega, by omega, by omega, by omega, by omega, by omega⟩ ⟨by omega, by omega⟩) ?_)
      rintro e W24 ⟨A2040_0, n2040_0, c2040_0, y2040_1, rfl, hF2040_0, hy2040_1, he24⟩
      refine ⟨_, rfl, ?_⟩
      replace hE := Ext.trans hE he24
      replace h_cps := h_cps.ext he24
      replace hB3 := hB3.ext he24
      replace hC13 := hC13.ext he24
      replace hB5 := hB5.ext he24
      replace hC22 := hC22.ext he24
      replace hO24 := hO24.ext he24
      replace hF40_0 := hF40_0.ext he24
      replace hF65 := hF65.ext he24
      replace hF1040_0 := hF1040_0.ext he24
      replace hF1065 := hF1065.ext he24
      have hs24 := he24.size
      have hn2040_0 := hF2040_0.ln
      try simp only [List.length_append, List.length_cons, List.length_nil, List.length_set, List.length_take, List.length_drop, List.length_replicate, List.length_map, Nat.zero_add, Nat.add_zero, oneP_len, le_len, le8s_len, le8_len, ptB_len, ptI_len] at hn2040_0
      have hc2040_0 := hF2040_0.cap
      refine RL_q rfl (Yd_move rfl) (RL_q rfl (Yd_extract rfl rfl) (RL_q rfl (Yd_extract rfl rfl) (RL_q rfl (Yd_assign rfl) (RL_q rfl (Yd_assign rfl) (RL_nil (X_then (C_seq (C_seq (C_region (RL_q rfl (Yd_move rfl) (RL_q rfl (Yd_move rfl) (RL_q rfl (Yd_idxL Try.underlying45 (sz := 5) (by kernel_rfl) rfl rfl (by omega) (by omega)) (RL_q rfl (Yd_loadA (cs := [.int .i64 ep13, .int .i64 fr22, .int .i64 dp22, .int .i64 sc22, .slice AC22 nC22 cC22]) Try.underlying43 rfl (by kernel_rfl) rfl (Vw.lqAL hO24.vw (i := 2) (a := (⟨ep13, fr22, dp22, sc22, AC22, nC22, cC22⟩ : SpH)) rfl rfl rfl)) (RL_l rfl (Ld_call Try.func31 rfl (by kernel_rfl) rfl (ofV (sep := ep13) (sfr := fr22) (sdp := dp22) (ssc := sc22) hC22.vw ⟨by omega, by omega, by omega, by omega, by omega, by omega⟩ ⟨by omega, by omega⟩) ?_)))))))))))))))
      rintro e W25 ⟨rfl, he25⟩
      refine ⟨_, rfl, ?_⟩
      replace hE := Ext.trans hE he25
      replace h_cps := h_cps.ext he25
      replace hB3 := hB3.ext he25
      replace hC13 := hC13.ext he25
      replace hB5 := hB5.ext he25
      replace hC22 := hC22.ext he25
      replace hO24 := hO24.ext he25
      replace hF40_0 := hF40_0.ext he25
      replace hF65 := hF65.ext he25
      replace hF1040_0 := hF1040_0.ext he25
      replace hF1065 := hF1065.ext he25
      replace hF2040_0 := hF2040_0.ext he25
      have hs25 := he25.size
      refine RL_l rfl (Ld_call Try.func32 rfl (by kernel_rfl) rfl (sMayV (sep := ep13) (sfr := fr22) (sdp := dp22) (ssc := sc22) hC22.vw ⟨by omega, by omega, by omega, by omega, by omega, by omega⟩ ⟨by omega, by omega⟩) ?_)
      rintro e W26 ⟨_, rfl, rfl, he26⟩
      refine ⟨_, rfl, ?_⟩
      replace hE := Ext.trans hE he26
      replace h_cps := h_cps.ext he26
      replace hB3 := hB3.ext he26
      replace hC13 := hC13.ext he26
      replace hB5 := hB5.ext he26
      replace hC22 := hC22.ext he26
      replace hO24 := hO24.ext he26
      replace hF40_0 := hF40_0.ext he26
      replace hF65 := hF65.ext he26
      replace hF1040_0 := hF1040_0.ext he26
      replace hF1065 := hF1065.ext he26
      replace hF2040_0 := hF2040_0.ext he26
      have hs26 := he26.size
      refine RL_q rfl (Yd_move rfl) (RL_q rfl (Yd_neqB Try.underlying4 rfl rfl) (RL_q rfl (Yd_move rfl) (?_)))
      refine RL_is (d := 51) (b' := false) rfl (by simp) ?_
      refine RL_gq rfl rfl rfl (Yd_move rfl) (RL_gq rfl rfl rfl (Yd_eql rfl rfl) (RL_gq rfl rfl rfl (Yd_move rfl) (RL_gq rfl rfl rfl (Yd_neqB Try.underlying4 rfl rfl) (RL_q rfl (Yd_pickF rfl rfl) (RL_nil (X_then (?_)))))))
      refine C_no rfl (by rw [hy2040_1, (wr_no hM2).2]; simp [hM2]) (C_skip (X_then (C_seq (C_seq (?_)))))
      rw [(wr_no hM2).1, List.length_nil] at hn2040_0
      refine C_regionD (NoB) (l := [(0, true), (1, true), (2, true), (3, true), (4, true), (5, true), (6, true), (7, true), (8, false), (9, true), (10, true), (11, true)]) (by kernel_rfl) (by kernel_rfl) rfl (by kernel_rfl) (fun _ _ d _ _ h => by cases d <;> exact h) ?_
      intro W27 he27 hh27
      replace hE := Ext.trans hE he27
      replace h_cps := h_cps.ext he27
      replace hB3 := hB3.ext he27
      replace hC13 := hC13.ext he27
      replace hB5 := hB5.ext he27
      replace hC22 := hC22.ext he27
      replace hO24 := hO24.ext he27
      replace hF40_0 := hF40_0.ext he27
      replace hF65 := hF65.ext he27
      replace hF1040_0 := hF1040_0.ext he27
      replace hF1065 := hF1065.ext he27
      replace hF2040_0 := hF2040_0.ext he27
      have hs27 := he27.size
      refine RO_q rfl rfl (Yd_move rfl) (RO_q rfl rfl (Yd_move rfl) (?_))
      refine RO_is (d := 58) (b' := false) rfl (decide_eq_false hM2) ?_
      refine RO_gn rfl rfl rfl rfl rfl (RO_gn rfl rfl rfl rfl rfl (RO_gn rfl rfl rfl rfl rfl (RO_gn rfl rfl rfl rfl rfl (RO_gn rfl rfl rfl rfl rfl (RO_gn rfl rfl rfl rfl rfl (RO_gnL rfl rfl rfl rfl rfl (RO_gn rfl rfl rfl rfl rfl (RO_gn rfl rfl rfl rfl rfl (RO_q rfl rfl (Yd_pickF rfl rfl) (RO_nil (X_then (C_no rfl rfl (C_skip (X_then (C_seq (C_region (RL_q rfl (Yd_move rfl) (RL_q rfl (Yd_not rfl) (RL_q rfl (Yd_move rfl) (?_))))))))))))))))))))
      refine RL_is (d := 71) (b' := true) rfl (by simp [hM2]) ?_
      refine RL_gq rfl rfl rfl (Yd_move rfl) (RL_gq rfl rfl rfl (Yd_neq rfl rfl) (RL_gq rfl rfl rfl (Yd_move rfl) (?_)))
      refine RL_is (d := 74) (b' := false) rfl (by rw [hy2040_1, (wr_no hM2).2]; rfl) ?_
      refine RL_gq rfl rfl rfl (Yd_move rfl) (RL_gq rfl rfl rfl (Yd_len Try.underlying47 rfl) (RL_gq rfl rfl rfl (Yd_gtr rfl rfl) (RL_gq rfl rfl rfl (Yd_pickF rfl rfl) (RL_q rfl (Yd_pickT rfl rfl) (RL_nil (X_then (?_)))))))
      refine C_no rfl (by simp; omega) (C_skip (X_block (X_then (C_region (RL_q rfl (Yd_move rfl) (RL_q rfl (Yd_add (r := 3) rfl rfl rfl) (RL_q rfl (Yd_assign rfl) (RL_nil (X_round (CR_sub (E' := [(6, .slice (some ⟨W6.heap.size, 0, none⟩) 3 3), (7, .int .i64 3)]) ⟨rfl, rfl, trivial⟩ (CR_succ (C_seq (C_seq (C_region (RL_q rfl (Yd_move rfl) (RL_q rfl (Yd_lss rfl rfl) (RL_nil (X_then (C_no rfl rfl (C_exit (X_thenE (X_thenE (X_blockE (X_then (C_seq (C_region (RL_l rfl (Ld_call Try.func34 rfl (by kernel_rfl) rfl (lives06V ) ?_))))))))))))))))))))))))))))
      rintro e W28 ⟨_, rfl, rfl, he28⟩
      refine ⟨_, rfl, ?_⟩
      replace hE := Ext.trans hE he28
      replace h_cps := h_cps.ext he28
      replace hB3 := hB3.ext he28
      replace hC13 := hC13.ext he28
      replace hB5 := hB5.ext he28
      replace hC22 := hC22.ext he28
      replace hO24 := hO24.ext he28
      replace hF40_0 := hF40_0.ext he28
      replace hF65 := hF65.ext he28
      replace hF1040_0 := hF1040_0.ext he28
      replace hF1065 := hF1065.ext he28
      replace hF2040_0 := hF2040_0.ext he28
      have hs28 := he28.size
      refine RL_q rfl (Yd_assign rfl) (RL_nil (X_then (C_ret (X_ret1 rfl rfl ?_))))
      refine ⟨_, rfl, ?_, hE⟩
      all_goals (first | rfl | omega | simp)
  · skip
    refine C_region (RL_q rfl (Yd_move rfl) (RL_q rfl (Yd_add (r := 1) rfl rfl rfl) (RL_q rfl (Yd_assign rfl) (RL_nil (X_round (CR_sub (E' := [(6, .slice (some ⟨W6.heap.size, 0, none⟩) 3 3), (7, .int .i64 1)]) ⟨rfl, rfl, trivial⟩ (CR_succ (C_seq (C_seq (C_region (RL_q rfl (Yd_move rfl) (RL_q rfl (Yd_lss rfl rfl) (RL_nil (X_then (C_yes rfl rfl (C_skip (X_then (C_seq (C_block (C_seq (C_region (RL_q rfl (Yd_move rfl) (RL_q rfl (Yd_move rfl) (RL_q rfl (Yd_idxL Try.underlying45 (sz := 5) (by kernel_rfl) rfl rfl (by omega) (by omega)) (RL_q rfl (Yd_loadA (cs := [.int .i64 n, .int .i64 fr13, .int .i64 dp13, .int .i64 sc13, .slice AC13 nC13 cC13]) Try.underlying43 rfl (by kernel_rfl) rfl (Vw.lqAL hO24.vw (i := 1) (a := (⟨n, fr13, dp13, sc13, AC13, nC13, cC13⟩ : SpH)) rfl rfl rfl)) (RL_l rfl (Ld_call Try.func29 rfl (by kernel_rfl) rfl (refsMayV (sep := n) (sfr := fr13) (sdp := dp13) (ssc := sc13) hC13.vw ⟨by omega, by omega, by omega, by omega, by omega, by omega⟩ ⟨by omega, by omega⟩) ?_)))))))))))))))))))))))))))
    rintro e W15 ⟨_, rfl, rfl, he15⟩
    refine ⟨_, rfl, ?_⟩
    replace hE := Ext.trans hE he15
    replace h_cps := h_cps.ext he15
    replace hB3 := hB3.ext he15
    replace hC13 := hC13.ext he15
    replace hB5 := hB5.ext he15
    replace hC22 := hC22.ext he15
    replace hO24 := hO24.ext he15
    replace hF40_0 := hF40_0.ext he15
    replace hF65 := hF65.ext he15
    have hs15 := he15.size
    refine RL_q rfl (Yd_assign rfl) (RL_nil (X_then (C_seq (C_region (RL_q rfl (Yd_move rfl) (RL_q rfl (Yd_move rfl) (RL_q rfl (Yd_idxL Try.underlying45 (sz := 5) (by kernel_rfl) rfl rfl (by omega) (by omega)) (RL_q rfl (Yd_loadA (cs := [.int .i64 n, .int .i64 fr13, .int .i64 dp13, .int .i64 sc13, .slice AC13 nC13 cC13]) Try.underlying43 rfl (by kernel_rfl) rfl (Vw.lqAL hO24.vw (i := 1) (a := (⟨n, fr13, dp13, sc13, AC13, nC13, cC13⟩ : SpH)) rfl rfl rfl)) (RL_l rfl (Ld_call Try.func31 rfl (by kernel_rfl) rfl (ofV (sep := n) (sfr := fr13) (sdp := dp13) (ssc := sc13) hC13.vw ⟨by omega, by omega, by omega, by omega, by omega, by omega⟩ ⟨by omega, by omega⟩) ?_))))))))))
    rintro e W16 ⟨rfl, he16⟩
    refine ⟨_, rfl, ?_⟩
    replace hE := Ext.trans hE he16
    replace h_cps := h_cps.ext he16
    replace hB3 := hB3.ext he16
    replace hC13 := hC13.ext he16
    replace hB5 := hB5.ext he16
    replace hC22 := hC22.ext he16
    replace hO24 := hO24.ext he16
    replace hF40_0 := hF40_0.ext he16
    replace hF65 := hF65.ext he16
    have hs16 := he16.size
    refine RL_l rfl (Ld_call Try.func30 rfl (by kernel_rfl) rfl (WriteV (sep := n) (sfr := fr13) (sdp := dp13) (ssc := sc13) hC13.vw ⟨by omega, by omega, by omega, by omega, by omega, by omega⟩ ⟨by omega, by omega⟩) ?_)
    rintro e W17 ⟨A1040_0, n1040_0, c1040_0, y1040_1, rfl, hF1040_0, hy1040_1, he17⟩
    refine ⟨_, rfl, ?_⟩
    replace hE := Ext.trans hE he17
    replace h_cps := h_cps.ext he17
    replace hB3 := hB3.ext he17
    replace hC13 := hC13.ext he17
    replace hB5 := hB5.ext he17
    replace hC22 := hC22.ext he17
    replace hO24 := hO24.ext he17
    replace hF40_0 := hF40_0.ext he17
    replace hF65 := hF65.ext he17
    have hs17 := he17.size
    have hn1040_0 := hF1040_0.ln
    try simp only [List.length_append, List.length_cons, List.length_nil, List.length_set, List.length_take, List.length_drop, List.length_replicate, List.length_map, Nat.zero_add, Nat.add_zero, oneP_len, le_len, le8s_len, le8_len, ptB_len, ptI_len] at hn1040_0
    have hc1040_0 := hF1040_0.cap
    refine RL_q rfl (Yd_move rfl) (RL_q rfl (Yd_extract rfl rfl) (RL_q rfl (Yd_extract rfl rfl) (RL_q rfl (Yd_assign rfl) (RL_q rfl (Yd_assign rfl) (RL_nil (X_then (C_seq (C_seq (C_region (RL_q rfl (Yd_move rfl) (RL_q rfl (Yd_move rfl) (RL_q rfl (Yd_idxL Try.underlying45 (sz := 5) (by kernel_rfl) rfl rfl (by omega) (by omega)) (RL_q rfl (Yd_loadA (cs := [.int .i64 n, .int .i64 fr13, .int .i64 dp13, .int .i64 sc13, .slice AC13 nC13 cC13]) Try.underlying43 rfl (by kernel_rfl) rfl (Vw.lqAL hO24.vw (i := 1) (a := (⟨n, fr13, dp13, sc13, AC13, nC13, cC13⟩ : SpH)) rfl rfl rfl)) (RL_l rfl (Ld_call Try.func31 rfl (by kernel_rfl) rfl (ofV (sep := n) (sfr := fr13) (sdp := dp13) (ssc := sc13) hC13.vw ⟨by omega, by omega, by omega, by omega, by omega, by omega⟩ ⟨by omega, by omega⟩) ?_)))))))))))))))
    rintro e W18 ⟨rfl, he18⟩
    refine ⟨_, rfl, ?_⟩
    replace hE := Ext.trans hE he18
    replace h_cps := h_cps.ext he18
    replace hB3 := hB3.ext he18
    replace hC13 := hC13.ext he18
    replace hB5 := hB5.ext he18
    replace hC22 := hC22.ext he18
    replace hO24 := hO24.ext he18
    replace hF40_0 := hF40_0.ext he18
    replace hF65 := hF65.ext he18
    replace hF1040_0 := hF1040_0.ext he18
    have hs18 := he18.size
    refine RL_l rfl (Ld_call Try.func32 rfl (by kernel_rfl) rfl (sMayV (sep := n) (sfr := fr13) (sdp := dp13) (ssc := sc13) hC13.vw ⟨by omega, by omega, by omega, by omega, by omega, by omega⟩ ⟨by omega, by omega⟩) ?_)
    rintro e W19 ⟨_, rfl, rfl, he19⟩
    refine ⟨_, rfl, ?_⟩
    replace hE := Ext.trans hE he19
    replace h_cps := h_cps.ext he19
    replace hB3 := hB3.ext he19
    replace hC13 := hC13.ext he19
    replace hB5 := hB5.ext he19
    replace hC22 := hC22.ext he19
    replace hO24 := hO24.ext he19
    replace hF40_0 := hF40_0.ext he19
    replace hF65 := hF65.ext he19
    replace hF1040_0 := hF1040_0.ext he19
    have hs19 := he19.size
    refine RL_q rfl (Yd_move rfl) (RL_q rfl (Yd_neqB Try.underlying4 rfl rfl) (RL_q rfl (Yd_move rfl) (?_)))
    refine RL_is (d := 51) (b' := false) rfl (by simp) ?_
    refine RL_gq rfl rfl rfl (Yd_move rfl) (RL_gq rfl rfl rfl (Yd_eql rfl rfl) (RL_gq rfl rfl rfl (Yd_move rfl) (RL_gq rfl rfl rfl (Yd_neqB Try.underlying4 rfl rfl) (RL_q rfl (Yd_pickF rfl rfl) (RL_nil (X_then (?_)))))))
    refine C_no rfl (by rw [hy1040_1, (wr_no hM1).2]; simp [hM1]) (C_skip (X_then (C_seq (C_seq (?_)))))
    rw [(wr_no hM1).1, List.length_nil] at hn1040_0
    refine C_regionD (NoB) (l := [(0, true), (1, true), (2, true), (3, true), (4, true), (5, true), (6, true), (7, true), (8, false), (9, true), (10, true), (11, true)]) (by kernel_rfl) (by kernel_rfl) rfl (by kernel_rfl) (fun _ _ d _ _ h => by cases d <;> exact h) ?_
    intro W20 he20 hh20
    replace hE := Ext.trans hE he20
    replace h_cps := h_cps.ext he20
    replace hB3 := hB3.ext he20
    replace hC13 := hC13.ext he20
    replace hB5 := hB5.ext he20
    replace hC22 := hC22.ext he20
    replace hO24 := hO24.ext he20
    replace hF40_0 := hF40_0.ext he20
    replace hF65 := hF65.ext he20
    replace hF1040_0 := hF1040_0.ext he20
    have hs20 := he20.size
    refine RO_q rfl rfl (Yd_move rfl) (RO_q rfl rfl (Yd_move rfl) (?_))
    refine RO_is (d := 58) (b' := false) rfl (decide_eq_false hM1) ?_
    refine RO_gn rfl rfl rfl rfl rfl (RO_gn rfl rfl rfl rfl rfl (RO_gn rfl rfl rfl rfl rfl (RO_gn rfl rfl rfl rfl rfl (RO_gn rfl rfl rfl rfl rfl (RO_gn rfl rfl rfl rfl rfl (RO_gnL rfl rfl rfl rfl rfl (RO_gn rfl rfl rfl rfl rfl (RO_gn rfl rfl rfl rfl rfl (RO_q rfl rfl (Yd_pickF rfl rfl) (RO_nil (X_then (C_no rfl rfl (C_skip (X_then (C_seq (C_region (RL_q rfl (Yd_move rfl) (RL_q rfl (Yd_not rfl) (RL_q rfl (Yd_move rfl) (?_))))))))))))))))))))
    refine RL_is (d := 71) (b' := true) rfl (by simp [hM1]) ?_
    refine RL_gq rfl rfl rfl (Yd_move rfl) (RL_gq rfl rfl rfl (Yd_neq rfl rfl) (RL_gq rfl rfl rfl (Yd_move rfl) (?_)))
    refine RL_is (d := 74) (b' := false) rfl (by rw [hy1040_1, (wr_no hM1).2]; rfl) ?_
    refine RL_gq rfl rfl rfl (Yd_move rfl) (RL_gq rfl rfl rfl (Yd_len Try.underlying47 rfl) (RL_gq rfl rfl rfl (Yd_gtr rfl rfl) (RL_gq rfl rfl rfl (Yd_pickF rfl rfl) (RL_q rfl (Yd_pickT rfl rfl) (RL_nil (X_then (?_)))))))
    refine C_no rfl (by simp; omega) (C_skip (X_block (X_then (?_))))
    by_cases hM2 : SMay ep13 fr22 dp22 sc22 pC22
    · skip
      refine C_region (RL_q rfl (Yd_move rfl) (RL_q rfl (Yd_add (r := 2) rfl rfl rfl) (RL_q rfl (Yd_assign rfl) (RL_nil (X_round (CR_sub (E' := [(6, .slice (some ⟨W6.heap.size, 0, none⟩) 3 3), (7, .int .i64 2)]) ⟨rfl, rfl, trivial⟩ (CR_succ (C_seq (C_seq (C_region (RL_q rfl (Yd_move rfl) (RL_q rfl (Yd_lss rfl rfl) (RL_nil (X_then (C_yes rfl rfl (C_skip (X_then (C_seq (C_block (C_seq (C_region (RL_q rfl (Yd_move rfl) (RL_q rfl (Yd_move rfl) (RL_q rfl (Yd_idxL Try.underlying45 (sz := 5) (by kernel_rfl) rfl rfl (by omega) (by omega)) (RL_q rfl (Yd_loadA (cs := [.int .i64 ep13, .int .i64 fr22, .int .i64 dp22, .int .i64 sc22, .slice AC22 nC22 cC22]) Try.underlying43 rfl (by kernel_rfl) rfl (Vw.lqAL hO24.vw (i := 2) (a := (⟨ep13, fr22, dp22, sc22, AC22, nC22, cC22⟩ : SpH)) rfl rfl rfl)) (RL_l rfl (Ld_call Try.func29 rfl (by kernel_rfl) rfl (refsMayV (sep := ep13) (sfr := fr22) (sdp := dp22) (ssc := sc22) hC22.vw ⟨by omega, by omega, by omega, by omega, by omega, by omega⟩ ⟨by omega, by omega⟩) ?_)))))))))))))))))))))))))))
      rintro e W21 ⟨_, rfl, rfl, he21⟩
      refine ⟨_, rfl, ?_⟩
      replace hE := Ext.trans hE he21
      replace h_cps := h_cps.ext he21
      replace hB3 := hB3.ext he21
      replace hC13 := hC13.ext he21
      replace hB5 := hB5.ext he21
      replace hC22 := hC22.ext he21
      replace hO24 := hO24.ext he21
      replace hF40_0 := hF40_0.ext he21
      replace hF65 := hF65.ext he21
      replace hF1040_0 := hF1040_0.ext he21
      have hs21 := he21.size
      refine RL_q rfl (Yd_assign rfl) (RL_nil (X_then (C_seq (C_region (RL_q rfl (Yd_move rfl) (RL_q rfl (Yd_move rfl) (RL_q rfl (Yd_idxL Try.underlying45 (sz := 5) (by kernel_rfl) rfl rfl (by omega) (by omega)) (RL_q rfl (Yd_loadA (cs := [.int .i64 ep13, .int .i64 fr22, .int .i64 dp22, .int .i64 sc22, .slice AC22 nC22 cC22]) Try.underlying43 rfl (by kernel_rfl) rfl (Vw.lqAL hO24.vw (i := 2) (a := (⟨ep13, fr22, dp22, sc22, AC22, nC22, cC22⟩ : SpH)) rfl rfl rfl)) (RL_l rfl (Ld_call Try.func31 rfl (by kernel_rfl) rfl (ofV (sep := ep13) (sfr := fr22) (sdp := dp22) (ssc := sc22) hC22.vw ⟨by omega, by omega, by omega, by omega, by omega, by omega⟩ ⟨by omega, by omega⟩) ?_))))))))))
      rintro e W22 ⟨rfl, he22⟩
      refine ⟨_, rfl, ?_⟩
      replace hE := Ext.trans hE he22
      replace h_cps := h_cps.ext he22
      replace hB3 := hB3.ext he22
      replace hC13 := hC13.ext he22
      replace hB5 := hB5.ext he22
      replace hC22 := hC22.ext he22
      replace hO24 := hO24.ext he22
      replace hF40_0 := hF40_0.ext he22
      replace hF65 := hF65.ext he22
      replace hF1040_0 := hF1040_0.ext he22
      have hs22 := he22.size
      refine RL_l rfl (Ld_call Try.func30 rfl (by kernel_rfl) rfl (WriteV (sep := ep13) (sfr := fr22) (sdp := dp22) (ssc := sc22) hC22.vw ⟨by omega, by omega, by omega, by omega, by omega, by omega⟩ ⟨by omega, by omega⟩) ?_)
      rintro e W23 ⟨A2040_0, n2040_0, c2040_0, y2040_1, rfl, hF2040_0, hy2040_1, he23⟩
      refine ⟨_, rfl, ?_⟩
      replace hE := Ext.trans hE he23
      replace h_cps := h_cps.ext he23
      replace hB3 := hB3.ext he23
      replace hC13 := hC13.ext he23
      replace hB5 := hB5.ext he23
      replace hC22 := hC22.ext he23
      replace hO24 := hO24.ext he23
      replace hF40_0 := hF40_0.ext he23
      replace hF65 := hF65.ext he23
      replace hF1040_0 := hF1040_0.ext he23
      have hs23 := he23.size
      have hn2040_0 := hF2040_0.ln
      try simp only [List.length_append, List.length_cons, List.length_nil, List.length_set, List.length_take, List.length_drop, List.length_replicate, List.length_map, Nat.zero_add, Nat.add_zero, oneP_len, le_len, le8s_len, le8_len, ptB_len, ptI_len] at hn2040_0
      have hc2040_0 := hF2040_0.cap
      refine RL_q rfl (Yd_move rfl) (RL_q rfl (Yd_extract rfl rfl) (RL_q rfl (Yd_extract rfl rfl) (RL_q rfl (Yd_assign rfl) (RL_q rfl (Yd_assign rfl) (RL_nil (X_then (C_seq (C_seq (C_region (RL_q rfl (Yd_move rfl) (RL_q rfl (Yd_move rfl) (RL_q rfl (Yd_idxL Try.underlying45 (sz := 5) (by kernel_rfl) rfl rfl (by omega) (by omega)) (RL_q rfl (Yd_loadA (cs := [.int .i64 ep13, .int .i64 fr22, .int .i64 dp22, .int .i64 sc22, .slice AC22 nC22 cC22]) Try.underlying43 rfl (by kernel_rfl) rfl (Vw.lqAL hO24.vw (i := 2) (a := (⟨ep13, fr22, dp22, sc22, AC22, nC22, cC22⟩ : SpH)) rfl rfl rfl)) (RL_l rfl (Ld_call Try.func31 rfl (by kernel_rfl) rfl (ofV (sep := ep13) (sfr := fr22) (sdp := dp22) (ssc := sc22) hC22.vw ⟨by omega, by omega, by omega, by omega, by omega, by omega⟩ ⟨by omega, by omega⟩) ?_)))))))))))))))
      rintro e W24 ⟨rfl, he24⟩
      refine ⟨_, rfl, ?_⟩
      replace hE := Ext.trans hE he24
      replace h_cps := h_cps.ext he24
      replace hB3 := hB3.ext he24
      replace hC13 := hC13.ext he24
      replace hB5 := hB5.ext he24
      replace hC22 := hC22.ext he24
      replace hO24 := hO24.ext he24
      replace hF40_0 := hF40_0.ext he24
      replace hF65 := hF65.ext he24
      replace hF1040_0 := hF1040_0.ext he24
      replace hF2040_0 := hF2040_0.ext he24
      have hs24 := he24.size
      refine RL_l rfl (Ld_call Try.func32 rfl (by kernel_rfl) rfl (sMayV (sep := ep13) (sfr := fr22) (sdp := dp22) (ssc := sc22) hC22.vw ⟨by omega, by omega, by omega, by omega, by omega, by omega⟩ ⟨by omega, by omega⟩) ?_)
      rintro e W25 ⟨_, rfl, rfl, he25⟩
      refine ⟨_, rfl, ?_⟩
      replace hE := Ext.trans hE he25
      replace h_cps := h_cps.ext he25
      replace hB3 := hB3.ext he25
      replace hC13 := hC13.ext he25
      replace hB5 := hB5.ext he25
      replace hC22 := hC22.ext he25
      replace hO24 := hO24.ext he25
      replace hF40_0 := hF40_0.ext he25
      replace hF65 := hF65.ext he25
      replace hF1040_0 := hF1040_0.ext he25
      replace hF2040_0 := hF2040_0.ext he25
      have hs25 := he25.size
      refine RL_q rfl (Yd_move rfl) (RL_q rfl (Yd_neqB Try.underlying4 rfl rfl) (RL_q rfl (Yd_move rfl) (?_)))
      refine RL_is (d := 51) (b' := false) rfl (by simp) ?_
      refine RL_gq rfl rfl rfl (Yd_move rfl) (RL_gq rfl rfl rfl (Yd_eql rfl rfl) (RL_gq rfl rfl rfl (Yd_move rfl) (RL_gq rfl rfl rfl (Yd_neqB Try.underlying4 rfl rfl) (RL_q rfl (Yd_pickF rfl rfl) (RL_nil (X_then (?_)))))))
      refine C_no rfl (by rw [hy2040_1, (wr_yes hM2).2]; simp [hM2]) (C_skip (X_then (C_seq (C_seq (?_)))))
      have hln2 := (chk_ok hM2.2.2).hln
      refine C_regionD (NoB) (l := [(0, true), (1, true), (2, true), (3, true), (4, true), (5, true), (6, true), (7, true), (8, false), (9, true), (10, true), (11, true)]) (by kernel_rfl) (by kernel_rfl) rfl (by kernel_rfl) (fun _ _ d _ _ h => by cases d <;> exact h) ?_
      intro W26 he26 hh26
      replace hE := Ext.trans hE he26
      replace h_cps := h_cps.ext he26
      replace hB3 := hB3.ext he26
      replace hC13 := hC13.ext he26
      replace hB5 := hB5.ext he26
      replace hC22 := hC22.ext he26
      replace hO24 := hO24.ext he26
      replace hF40_0 := hF40_0.ext he26
      replace hF65 := hF65.ext he26
      replace hF1040_0 := hF1040_0.ext he26
      replace hF2040_0 := hF2040_0.ext he26
      have hs26 := he26.size
      refine RO_q rfl rfl (Yd_move rfl) (RO_q rfl rfl (Yd_move rfl) (?_))
      refine RO_is (d := 58) (b' := true) rfl (decide_eq_true hM2) ?_
      refine RO_gq rfl rfl rfl rfl (Yd_move rfl) (RO_gq rfl rfl rfl rfl (Yd_str Try.underlying47 Try.underlying5 Try.underlying9 rfl (fun W hW => Rd.ext (hF2040_0.vw).u8 hW.ext)) (RO_gq rfl rfl rfl rfl (Yd_move rfl) (RO_gq rfl rfl rfl rfl (Yd_move rfl) (RO_gq rfl rfl rfl rfl (Yd_idxL Try.underlying45 (sz := 5) (by kernel_rfl) rfl rfl (by omega) (by omega)) (RO_gq rfl rfl rfl rfl (Yd_loadA (cs := [.int .i64 ep13, .int .i64 fr22, .int .i64 dp22, .int .i64 sc22, .slice AC22 nC22 cC22]) Try.underlying43 rfl (by kernel_rfl) rfl (fun W hW => (Vw.lqAL hO24.vw (i := 2) (a := (⟨ep13, fr22, dp22, sc22, AC22, nC22, cC22⟩ : SpH)) rfl rfl rfl) W hW.ext)) (RO_gl rfl rfl rfl rfl (Ld_call Try.func33 rfl (by kernel_rfl) rfl (refBytesV (sep := ep13) (sfr := fr22) (sdp := dp22) (ssc := sc22) hC22.vw ⟨by omega, by omega, by omega, by omega, by omega, by omega⟩ ⟨by omega, by omega⟩ (by omega)) ?_)))))))
      rintro e W27 ⟨A2065, n2065, c2065, rfl, hF2065, he27⟩
      refine ⟨_, rfl, ?_⟩
      refine ⟨Kp.of_ext he27, ?_⟩
      replace hE := Ext.trans hE he27
      replace h_cps := h_cps.ext he27
      replace hB3 := hB3.ext he27
      replace hC13 := hC13.ext he27
      replace hB5 := hB5.ext he27
      replace hC22 := hC22.ext he27
      replace hO24 := hO24.ext he27
      replace hF40_0 := hF40_0.ext he27
      replace hF65 := hF65.ext he27
      replace hF1040_0 := hF1040_0.ext he27
      replace hF2040_0 := hF2040_0.ext he27
      have hs27 := he27.size
      have hn2065 := hF2065.ln
      try simp only [List.length_append, List.length_cons, List.length_nil, List.length_set, List.length_take, List.length_drop, List.length_replicate, List.length_map, Nat.zero_add, Nat.add_zero, oneP_len, le_len, le8s_len, le8_len, ptB_len, ptI_len] at hn2065
      have hc2065 := hF2065.cap
      refine RO_gq rfl rfl rfl rfl (Yd_str Try.underlying47 Try.underlying5 Try.underlying9 rfl (fun W hW => Rd.ext (hF2065.vw).u8 hW.ext)) (RO_gq rfl rfl rfl rfl (Yd_neqSB rfl rfl hF2040_0.byt hF2065.byt) (RO_q rfl rfl (Yd_pickT rfl rfl) (RO_nil (X_then (?_)))))
      refine C_no rfl (by rw [(wr_yes hM2).1]; simp) (C_skip (X_then (C_seq (C_region (RL_q rfl (Yd_move rfl) (RL_q rfl (Yd_not rfl) (RL_q rfl (Yd_move rfl) (?_))))))))
      refine RL_is (d := 71) (b' := false) rfl (by simp [hM2]) ?_
      refine RL_gn rfl rfl rfl rfl (RL_gn rfl rfl rfl rfl (RL_gn rfl rfl rfl rfl (RL_gu rfl rfl rfl (RL_gu rfl rfl rfl (RL_gu rfl rfl rfl (RL_gn rfl rfl rfl rfl (RL_q rfl (Yd_pickF rfl rfl) (RL_nil (X_then (C_no rfl rfl (C_skip (X_block (X_then (C_region (RL_q rfl (Yd_move rfl) (RL_q rfl (Yd_add (r := 3) rfl rfl rfl) (RL_q rfl (Yd_assign rfl) (RL_nil (X_round (CR_sub (E' := [(6, .slice (some ⟨W6.heap.size, 0, none⟩) 3 3), (7, .int .i64 3)]) ⟨rfl, rfl, trivial⟩ (CR_succ (C_seq (C_seq (C_region (RL_q rfl (Yd_move rfl) (RL_q rfl (Yd_lss rfl rfl) (RL_nil (X_then (C_no rfl rfl (C_exit (X_thenE (X_thenE (X_blockE (X_then (C_seq (C_region (RL_l rfl (Ld_call Try.func34 rfl (by kernel_rfl) rfl (lives06V ) ?_))))))))))))))))))))))))))))))))))))))
      rintro e W28 ⟨_, rfl, rfl, he28⟩
      refine ⟨_, rfl, ?_⟩
      replace hE := Ext.trans hE he28
      replace h_cps := h_cps.ext he28
      replace hB3 := hB3.ext he28
      replace hC13 := hC13.ext he28
      replace hB5 := hB5.ext he28
      replace hC22 := hC22.ext he28
      replace hO24 := hO24.ext he28
      replace hF40_0 := hF40_0.ext he28
      replace hF65 := hF65.ext he28
      replace hF1040_0 := hF1040_0.ext he28
      replace hF2040_0 := hF2040_0.ext he28
      replace hF2065 := hF2065.ext he28
      have hs28 := he28.size
      refine RL_q rfl (Yd_assign rfl) (RL_nil (X_then (C_ret (X_ret1 rfl rfl ?_))))
      refine ⟨_, rfl, ?_, hE⟩
      all_goals (first | rfl | omega | simp)
    · skip
      refine C_region (RL_q rfl (Yd_move rfl) (RL_q rfl (Yd_add (r := 2) rfl rfl rfl) (RL_q rfl (Yd_assign rfl) (RL_nil (X_round (CR_sub (E' := [(6, .slice (some ⟨W6.heap.size, 0, none⟩) 3 3), (7, .int .i64 2)]) ⟨rfl, rfl, trivial⟩ (CR_succ (C_seq (C_seq (C_region (RL_q rfl (Yd_move rfl) (RL_q rfl (Yd_lss rfl rfl) (RL_nil (X_then (C_yes rfl rfl (C_skip (X_then (C_seq (C_block (C_seq (C_region (RL_q rfl (Yd_move rfl) (RL_q rfl (Yd_move rfl) (RL_q rfl (Yd_idxL Try.underlying45 (sz := 5) (by kernel_rfl) rfl rfl (by omega) (by omega)) (RL_q rfl (Yd_loadA (cs := [.int .i64 ep13, .int .i64 fr22, .int .i64 dp22, .int .i64 sc22, .slice AC22 nC22 cC22]) Try.underlying43 rfl (by kernel_rfl) rfl (Vw.lqAL hO24.vw (i := 2) (a := (⟨ep13, fr22, dp22, sc22, AC22, nC22, cC22⟩ : SpH)) rfl rfl rfl)) (RL_l rfl (Ld_call Try.func29 rfl (by kernel_rfl) rfl (refsMayV (sep := ep13) (sfr := fr22) (sdp := dp22) (ssc := sc22) hC22.vw ⟨by omega, by omega, by omega, by omega, by omega, by omega⟩ ⟨by omega, by omega⟩) ?_)))))))))))))))))))))))))))
      rintro e W21 ⟨_, rfl, rfl, he21⟩
      refine ⟨_, rfl, ?_⟩
      replace hE := Ext.trans hE he21
      replace h_cps := h_cps.ext he21
      replace hB3 := hB3.ext he21
      replace hC13 := hC13.ext he21
      replace hB5 := hB5.ext he21
      replace hC22 := hC22.ext he21
      replace hO24 := hO24.ext he21
      replace hF40_0 := hF40_0.ext he21
      replace hF65 := hF65.ext he21
      replace hF1040_0 := hF1040_0.ext he21
      have hs21 := he21.size
      refine RL_q rfl (Yd_assign rfl) (RL_nil (X_then (C_seq (C_region (RL_q rfl (Yd_move rfl) (RL_q rfl (Yd_move rfl) (RL_q rfl (Yd_idxL Try.underlying45 (sz := 5) (by kernel_rfl) rfl rfl (by omega) (by omega)) (RL_q rfl (Yd_loadA (cs := [.int .i64 ep13, .int .i64 fr22, .int .i64 dp22, .int .i64 sc22, .slice AC22 nC22 cC22]) Try.underlying43 rfl (by kernel_rfl) rfl (Vw.lqAL hO24.vw (i := 2) (a := (⟨ep13, fr22, dp22, sc22, AC22, nC22, cC22⟩ : SpH)) rfl rfl rfl)) (RL_l rfl (Ld_call Try.func31 rfl (by kernel_rfl) rfl (ofV (sep := ep13) (sfr := fr22) (sdp := dp22) (ssc := sc22) hC22.vw ⟨by omega, by omega, by omega, by omega, by omega, by omega⟩ ⟨by omega, by omega⟩) ?_))))))))))
      rintro e W22 ⟨rfl, he22⟩
      refine ⟨_, rfl, ?_⟩
      replace hE := Ext.trans hE he22
      replace h_cps := h_cps.ext he22
      replace hB3 := hB3.ext he22
      replace hC13 := hC13.ext he22
      replace hB5 := hB5.ext he22
      replace hC22 := hC22.ext he22
      replace hO24 := hO24.ext he22
      replace hF40_0 := hF40_0.ext he22
      replace hF65 := hF65.ext he22
      replace hF1040_0 := hF1040_0.ext he22
      have hs22 := he22.size
      refine RL_l rfl (Ld_call Try.func30 rfl (by kernel_rfl) rfl (WriteV (sep := ep13) (sfr := fr22) (sdp := dp22) (ssc := sc22) hC22.vw ⟨by omega, by omega, by omega, by omega, by omega, by omega⟩ ⟨by omega, by omega⟩) ?_)
      rintro e W23 ⟨A2040_0, n2040_0, c2040_0, y2040_1, rfl, hF2040_0, hy2040_1, he23⟩
      refine ⟨_, rfl, ?_⟩
      replace hE := Ext.trans hE he23
      replace h_cps := h_cps.ext he23
      replace hB3 := hB3.ext he23
      replace hC13 := hC13.ext he23
      replace hB5 := hB5.ext he23
      replace hC22 := hC22.ext he23
      replace hO24 := hO24.ext he23
      replace hF40_0 := hF40_0.ext he23
      replace hF65 := hF65.ext he23
      replace hF1040_0 := hF1040_0.ext he23
      have hs23 := he23.size
      have hn2040_0 := hF2040_0.ln
      try simp only [List.length_append, List.length_cons, List.length_nil, List.length_set, List.length_take, List.length_drop, List.length_replicate, List.length_map, Nat.zero_add, Nat.add_zero, oneP_len, le_len, le8s_len, le8_len, ptB_len, ptI_len] at hn2040_0
      have hc2040_0 := hF2040_0.cap
      refine RL_q rfl (Yd_move rfl) (RL_q rfl (Yd_extract rfl rfl) (RL_q rfl (Yd_extract rfl rfl) (RL_q rfl (Yd_assign rfl) (RL_q rfl (Yd_assign rfl) (RL_nil (X_then (C_seq (C_seq (C_region (RL_q rfl (Yd_move rfl) (RL_q rfl (Yd_move rfl) (RL_q rfl (Yd_idxL Try.underlying45 (sz := 5) (by kernel_rfl) rfl rfl (by omega) (by omega)) (RL_q rfl (Yd_loadA (cs := [.int .i64 ep13, .int .i64 fr22, .int .i64 dp22, .int .i64 sc22, .slice AC22 nC22 cC22]) Try.underlying43 rfl (by kernel_rfl) rfl (Vw.lqAL hO24.vw (i := 2) (a := (⟨ep13, fr22, dp22, sc22, AC22, nC22, cC22⟩ : SpH)) rfl rfl rfl)) (RL_l rfl (Ld_call Try.func31 rfl (by kernel_rfl) rfl (ofV (sep := ep13) (sfr := fr22) (sdp := dp22) (ssc := sc22) hC22.vw ⟨by omega, by omega, by omega, by omega, by omega, by omega⟩ ⟨by omega, by omega⟩) ?_)))))))))))))))
      rintro e W24 ⟨rfl, he24⟩
      refine ⟨_, rfl, ?_⟩
      replace hE := Ext.trans hE he24
      replace h_cps := h_cps.ext he24
      replace hB3 := hB3.ext he24
      replace hC13 := hC13.ext he24
      replace hB5 := hB5.ext he24
      replace hC22 := hC22.ext he24
      replace hO24 := hO24.ext he24
      replace hF40_0 := hF40_0.ext he24
      replace hF65 := hF65.ext he24
      replace hF1040_0 := hF1040_0.ext he24
      replace hF2040_0 := hF2040_0.ext he24
      have hs24 := he24.size
      refine RL_l rfl (Ld_call Try.func32 rfl (by kernel_rfl) rfl (sMayV (sep := ep13) (sfr := fr22) (sdp := dp22) (ssc := sc22) hC22.vw ⟨by omega, by omega, by omega, by omega, by omega, by omega⟩ ⟨by omega, by omega⟩) ?_)
      rintro e W25 ⟨_, rfl, rfl, he25⟩
      refine ⟨_, rfl, ?_⟩
      replace hE := Ext.trans hE he25
      replace h_cps := h_cps.ext he25
      replace hB3 := hB3.ext he25
      replace hC13 := hC13.ext he25
      replace hB5 := hB5.ext he25
      replace hC22 := hC22.ext he25
      replace hO24 := hO24.ext he25
      replace hF40_0 := hF40_0.ext he25
      replace hF65 := hF65.ext he25
      replace hF1040_0 := hF1040_0.ext he25
      replace hF2040_0 := hF2040_0.ext he25
      have hs25 := he25.size
      refine RL_q rfl (Yd_move rfl) (RL_q rfl (Yd_neqB Try.underlying4 rfl rfl) (RL_q rfl (Yd_move rfl) (?_)))
      refine RL_is (d := 51) (b' := false) rfl (by simp) ?_
      refine RL_gq rfl rfl rfl (Yd_move rfl) (RL_gq rfl rfl rfl (Yd_eql rfl rfl) (RL_gq rfl rfl rfl (Yd_move rfl) (RL_gq rfl rfl rfl (Yd_neqB Try.underlying4 rfl rfl) (RL_q rfl (Yd_pickF rfl rfl) (RL_nil (X_then (?_)))))))
      refine C_no rfl (by rw [hy2040_1, (wr_no hM2).2]; simp [hM2]) (C_skip (X_then (C_seq (C_seq (?_)))))
      rw [(wr_no hM2).1, List.length_nil] at hn2040_0
      refine C_regionD (NoB) (l := [(0, true), (1, true), (2, true), (3, true), (4, true), (5, true), (6, true), (7, true), (8, false), (9, true), (10, true), (11, true)]) (by kernel_rfl) (by kernel_rfl) rfl (by kernel_rfl) (fun _ _ d _ _ h => by cases d <;> exact h) ?_
      intro W26 he26 hh26
      replace hE := Ext.trans hE he26
      replace h_cps := h_cps.ext he26
      replace hB3 := hB3.ext he26
      replace hC13 := hC13.ext he26
      replace hB5 := hB5.ext he26
      replace hC22 := hC22.ext he26
      replace hO24 := hO24.ext he26
      replace hF40_0 := hF40_0.ext he26
      replace hF65 := hF65.ext he26
      replace hF1040_0 := hF1040_0.ext he26
      replace hF2040_0 := hF2040_0.ext he26
      have hs26 := he26.size
      refine RO_q rfl rfl (Yd_move rfl) (RO_q rfl rfl (Yd_move rfl) (?_))
      refine RO_is (d := 58) (b' := false) rfl (decide_eq_false hM2) ?_
      refine RO_gn rfl rfl rfl rfl rfl (RO_gn rfl rfl rfl rfl rfl (RO_gn rfl rfl rfl rfl rfl (RO_gn rfl rfl rfl rfl rfl (RO_gn rfl rfl rfl rfl rfl (RO_gn rfl rfl rfl rfl rfl (RO_gnL rfl rfl rfl rfl rfl (RO_gn rfl rfl rfl rfl rfl (RO_gn rfl rfl rfl rfl rfl (RO_q rfl rfl (Yd_pickF rfl rfl) (RO_nil (X_then (C_no rfl rfl (C_skip (X_then (C_seq (C_region (RL_q rfl (Yd_move rfl) (RL_q rfl (Yd_not rfl) (RL_q rfl (Yd_move rfl) (?_))))))))))))))))))))
      refine RL_is (d := 71) (b' := true) rfl (by simp [hM2]) ?_
      refine RL_gq rfl rfl rfl (Yd_move rfl) (RL_gq rfl rfl rfl (Yd_neq rfl rfl) (RL_gq rfl rfl rfl (Yd_move rfl) (?_)))
      refine RL_is (d := 74) (b' := false) rfl (by rw [hy2040_1, (wr_no hM2).2]; rfl) ?_
      refine RL_gq rfl rfl rfl (Yd_move rfl) (RL_gq rfl rfl rfl (Yd_len Try.underlying47 rfl) (RL_gq rfl rfl rfl (Yd_gtr rfl rfl) (RL_gq rfl rfl rfl (Yd_pickF rfl rfl) (RL_q rfl (Yd_pickT rfl rfl) (RL_nil (X_then (?_)))))))
      refine C_no rfl (by simp; omega) (C_skip (X_block (X_then (C_region (RL_q rfl (Yd_move rfl) (RL_q rfl (Yd_add (r := 3) rfl rfl rfl) (RL_q rfl (Yd_assign rfl) (RL_nil (X_round (CR_sub (E' := [(6, .slice (some ⟨W6.heap.size, 0, none⟩) 3 3), (7, .int .i64 3)]) ⟨rfl, rfl, trivial⟩ (CR_succ (C_seq (C_seq (C_region (RL_q rfl (Yd_move rfl) (RL_q rfl (Yd_lss rfl rfl) (RL_nil (X_then (C_no rfl rfl (C_exit (X_thenE (X_thenE (X_blockE (X_then (C_seq (C_region (RL_l rfl (Ld_call Try.func34 rfl (by kernel_rfl) rfl (lives06V ) ?_))))))))))))))))))))))))))))
      rintro e W27 ⟨_, rfl, rfl, he27⟩
      refine ⟨_, rfl, ?_⟩
      replace hE := Ext.trans hE he27
      replace h_cps := h_cps.ext he27
      replace hB3 := hB3.ext he27
      replace hC13 := hC13.ext he27
      replace hB5 := hB5.ext he27
      replace hC22 := hC22.ext he27
      replace hO24 := hO24.ext he27
      replace hF40_0 := hF40_0.ext he27
      replace hF65 := hF65.ext he27
      replace hF1040_0 := hF1040_0.ext he27
      replace hF2040_0 := hF2040_0.ext he27
      have hs27 := he27.size
      refine RL_q rfl (Yd_assign rfl) (RL_nil (X_then (C_ret (X_ret1 rfl rfl ?_))))
      refine ⟨_, rfl, ?_, hE⟩
      all_goals (first | rfl | omega | simp)
end Go.Proofs.AL
