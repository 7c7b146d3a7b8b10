import Derived.Test.YtefidipfedjpbaaSur
set_option linter.unusedVariables false
set_option linter.unusedSimpArgs false
namespace Go.Proofs.AL
open Go.RowKit
theorem ReadBad {lo_b B_b : Nat} {A_b : Option Addr} {n_b c_b : Nat} {b : List Int} {w : World}  (h_b : Vw tU8 w lo_b B_b A_b n_b c_b b) (h6 : n_b ≤ 65000) (hT : takeE b ≠ 0) :
    Calls Try.prog 39 #[.slice A_b n_b c_b] w fun e w' => ∃ (ep fr dp sc : Int) (A : Option Addr) (n c : Nat) (ps : List Pt) (er : Int), e = .returned (.tuple #[.agg #[.int .i64 ep, .int .i64 fr, .int .i64 dp, .int .i64 sc, .slice A n c], .int .i64 er]) ∧ (er = takeE b ∧ ep = 0 ∧ ps = []) ∧ Ow tP 35 w' w.heap.size w'.heap.size A n c ps ∧ Ext w w' := by
  have hE := Ext.refl w
  replace h_b := h_b.fit
  have hn_b := h_b.ln
  have hc_b := h_b.cap
  have hm_b := h_b.max
  simp only [maxLen] at hm_b
  refine calls_of (l := [.slice A_b n_b c_b]) (N := 74) Try.func39 rfl rfl rfl ?_
  refine C_seq (C_region (RL_l rfl (Ld_alloc (v := (.agg #[(.int .i64 0), (.int .i64 0), (.int .i64 0), (.int .i64 0), (.slice none 0 0)])) (by kernel_rfl) ?_)))
  have hg_2 := hE.size
  intro W1 he1 hz1 hB2
  replace hE := Ext.trans hE he1
  replace h_b := h_b.ext he1
  refine RL_q rfl (Yd_assign rfl) (RL_nil (X_then (C_seq (C_region (RL_q rfl (Yd_move rfl) (RL_l rfl (Ld_call Try.func52 rfl (by kernel_rfl) rfl (TakeV h_b (by omega)) ?_)))))))
  rintro e W2 ⟨A12_0, n12_0, c12_0, y12_1, rfl, hF12_0, hy12_1, he2⟩
  refine ⟨_, rfl, ?_⟩
  replace hE := Ext.trans hE he2
  replace h_b := h_b.ext he2
  replace hB2 := hB2.ext he2
  have hs2 := he2.size
  have hn12_0 := hF12_0.ln
  try simp only [List.length_append, List.length_cons, List.length_nil, List.length_set, List.length_take, List.length_drop, List.length_replicate, List.length_map, Nat.zero_add, Nat.add_zero, oneP_len, le_len, le8s_len, le8_len, ptB_len, ptI_len] at hn12_0
  have hc12_0 := hF12_0.cap
  refine RL_q rfl (Yd_move rfl) (RL_q rfl (Yd_extract rfl rfl) (RL_q rfl (Yd_extract rfl rfl) (RL_q rfl (Yd_assign rfl) (RL_q rfl (Yd_assign rfl) (RL_nil (X_then (C_seq (C_seq (C_region (RL_q rfl (Yd_move rfl) (RL_q rfl (Yd_neq rfl rfl) (RL_nil (X_then (?_))))))))))))))
  refine C_yes rfl (by rw [hy12_1]; simpa using hT) (C_seq (C_region (RL_q rfl (Yd_build Try.bld52 rfl rfl) (RL_q rfl (Yd_move rfl) (RL_l0 (Ld_store (by kernel_rfl) rfl rfl hB2 (Nat.le_of_ble_eq_true rfl) (by simp [cellsL, Value.cells, Value.oneCell']) ?_))))))
  intro W3 hu3 hz3 hB2
  have hk3 := Kp.ofb hu3
  have hs3 := hk3.size
  replace hE := Ext.kp hE hk3 (fun k hk => by first | omega | (have hk := hk; dsimp only at hk; omega))
  replace h_b := h_b.kp hk3 (fun k hk => by first | omega | (have hk := hk; dsimp only at hk; omega))
  replace hF12_0 := hF12_0.kp hk3 (fun k hk => by first | omega | (have hk := hk; dsimp only at hk; omega))
  refine RL_q rfl (Yd_assign rfl) (RL_nil (X_then (C_ret (X_thenR (X_retCT rfl rfl rfl Try.underlying52 rfl (by kernel_rfl) hB2 ?_)))))
  refine ⟨_, _, _, _, _, _, _, _, _, rfl, ?_, Ow.nil, hE⟩
  exact ⟨by assumption, rfl, rfl⟩
theorem ReadK {lo_b B_b : Nat} {A_b : Option Addr} {n_b c_b : Nat} {b : List Int} {w : World} {sep sfr sdp ssc : Int} {sps : List Pt} (h_b : Vw tU8 w lo_b B_b A_b n_b c_b b) (hb : b = supB sep sfr sdp ssc sps) (hM : SMay sep sfr sdp ssc sps) :
    Calls Try.prog 39 #[.slice A_b n_b c_b] w fun e w' => ∃ (ep fr dp sc : Int) (A : Option Addr) (n c : Nat) (ps : List Pt) (er : Int), e = .returned (.tuple #[.agg #[.int .i64 ep, .int .i64 fr, .int .i64 dp, .int .i64 sc, .slice A n c], .int .i64 er]) ∧ (er = 0 ∧ ep = sep ∧ fr = sfr ∧ dp = sdp ∧ sc = ssc ∧ ps = sps) ∧ Ow tP 35 w' w.heap.size w'.heap.size A n c ps ∧ Ext w w' := by
  have hE := Ext.refl w
  replace h_b := h_b.fit
  have hn_b := h_b.ln
  have hc_b := h_b.cap
  have hm_b := h_b.max
  simp only [maxLen] at hm_b
  subst hb
  have hok := chk_ok hM.2.2
  have hln := hok.hln
  have hsc := hok.hsc
  have hrng := chk_rng hM.2.2
  have hM1 := hM.1
  have hM2 := hM.2.1
  rw [supB_len] at hn_b
  refine calls_of (l := [.slice A_b n_b c_b]) (N := 74) Try.func39 rfl rfl rfl ?_
  refine C_seq (C_region (RL_l rfl (Ld_alloc (v := (.agg #[(.int .i64 0), (.int .i64 0), (.int .i64 0), (.int .i64 0), (.slice none 0 0)])) (by kernel_rfl) ?_)))
  have hg_2 := hE.size
  intro W1 he1 hz1 hB2
  replace hE := Ext.trans hE he1
  replace h_b := h_b.ext he1
  refine RL_q rfl (Yd_assign rfl) (RL_nil (X_then (C_seq (C_region (RL_q rfl (Yd_move rfl) (RL_l rfl (Ld_call Try.func52 rfl (by kernel_rfl) rfl (TakeV h_b (by omega)) ?_)))))))
  rintro e W2 ⟨A12_0, n12_0, c12_0, y12_1, rfl, hF12_0, hy12_1, he2⟩
  refine ⟨_, rfl, ?_⟩
  replace hE := Ext.trans hE he2
  replace h_b := h_b.ext he2
  replace hB2 := hB2.ext he2
  have hs2 := he2.size
  have hn12_0 := hF12_0.ln
  try simp only [List.length_append, List.length_cons, List.length_nil, List.length_set, List.length_take, List.length_drop, List.length_replicate, List.length_map, Nat.zero_add, Nat.add_zero, oneP_len, le_len, le8s_len, le8_len, ptB_len, ptI_len] at hn12_0
  have hc12_0 := hF12_0.cap
  have hTk := takeE_put (le8s [1, sep, sfr, sdp, ssc, (sps.length : Int)] ++ ptB sps)
  replace hy12_1 : y12_1 = 0 := hy12_1.trans hTk.1
  replace hF12_0 := hF12_0.cast hTk.2
  have hn12_0 := hF12_0.ln
  simp only [List.length_append, le8s_len, ptB_len, List.length_cons, List.length_nil] at hn12_0
  refine RL_q rfl (Yd_move rfl) (RL_q rfl (Yd_extract rfl rfl) (RL_q rfl (Yd_extract rfl rfl) (RL_q rfl (Yd_assign rfl) (RL_q rfl (Yd_assign rfl) (RL_nil (X_then (C_seq (C_seq (C_region (RL_q rfl (Yd_move rfl) (RL_q rfl (Yd_neq rfl rfl) (RL_nil (X_then (?_))))))))))))))
  refine C_no rfl (by rw [hy12_1]; rfl) (C_skip (X_then (C_seq (C_region (RL_q rfl (Yd_move rfl) (RL_l rfl (Ld_call Try.func53 rfl (by kernel_rfl) rfl (lrReadV hF12_0.vw (by omega)) ?_)))))))
  rintro e W3 ⟨gr20, lim20, rfl, hlm20, hLR20, hGhLR20, he3⟩
  refine ⟨_, rfl, ?_⟩
  replace hE := Ext.trans hE he3
  replace h_b := h_b.ext he3
  replace hB2 := hB2.ext he3
  replace hF12_0 := hF12_0.ext he3
  have hs3 := he3.size
  have hlt20 := hLR20.lt
  have hlg20 := hLR20.lim
  rw [supB_flat] at hLR20 hGhLR20
  refine RL_q rfl (Yd_assign rfl) (RL_nil (X_then (C_seq (C_region (RL_q rfl (Yd_move rfl) (RL_l rfl (Ld_call Try.func54 rfl (by kernel_rfl) rfl (lrIntK (x := 1) hLR20 hGhLR20 ⟨by omega, by omega⟩) ?_)))))))
  rintro e W4 ⟨rfl, hLR20n, hGhLR20n, hk4⟩
  refine ⟨_, rfl, ?_⟩
  have hs4 := hk4.size
  replace hE := Ext.kp hE hk4 (fun k hk => by first | omega | (have hk := hk; dsimp only at hk; omega))
  replace h_b := h_b.kp hk4 (fun k hk => by first | omega | (have hk := hk; dsimp only at hk; omega))
  replace hB2 := hB2.kp hk4 (fun hk => by first | omega | (have hk := hk; dsimp only at hk; omega))
  replace hF12_0 := hF12_0.kp hk4 (fun k hk => by first | omega | (have hk := hk; dsimp only at hk; omega))
  replace hLR20 := hLR20n
  replace hGhLR20 := hGhLR20n
  refine RL_q rfl (Yd_assign rfl) (RL_nil (X_then (C_seq (C_region (RL_q rfl (Yd_move rfl) (RL_l rfl (Ld_call Try.func54 rfl (by kernel_rfl) rfl (lrIntK (x := sep) hLR20 hGhLR20 ⟨by omega, by omega⟩) ?_)))))))
  rintro e W5 ⟨rfl, hLR20n, hGhLR20n, hk5⟩
  refine ⟨_, rfl, ?_⟩
  have hs5 := hk5.size
  replace hE := Ext.kp hE hk5 (fun k hk => by first | omega | (have hk := hk; dsimp only at hk; omega))
  replace h_b := h_b.kp hk5 (fun k hk => by first | omega | (have hk := hk; dsimp only at hk; omega))
  replace hB2 := hB2.kp hk5 (fun hk => by first | omega | (have hk := hk; dsimp only at hk; omega))
  replace hF12_0 := hF12_0.kp hk5 (fun k hk => by first | omega | (have hk := hk; dsimp only at hk; omega))
  replace hLR20 := hLR20n
  replace hGhLR20 := hGhLR20n
  refine RL_q rfl (Yd_move rfl) (RL_l rfl (Ld_call Try.func54 rfl (by kernel_rfl) rfl (lrIntK (x := sfr) hLR20 hGhLR20 ⟨by omega, by omega⟩) ?_))
  rintro e W6 ⟨rfl, hLR20n, hGhLR20n, hk6⟩
  refine ⟨_, rfl, ?_⟩
  have hs6 := hk6.size
  replace hE := Ext.kp hE hk6 (fun k hk => by first | omega | (have hk := hk; dsimp only at hk; omega))
  replace h_b := h_b.kp hk6 (fun k hk => by first | omega | (have hk := hk; dsimp only at hk; omega))
  replace hB2 := hB2.kp hk6 (fun hk => by first | omega | (have hk := hk; dsimp only at hk; omega))
  replace hF12_0 := hF12_0.kp hk6 (fun k hk => by first | omega | (have hk := hk; dsimp only at hk; omega))
  replace hLR20 := hLR20n
  replace hGhLR20 := hGhLR20n
  refine RL_q rfl (Yd_move rfl) (RL_l rfl (Ld_call Try.func54 rfl (by kernel_rfl) rfl (lrIntK (x := sdp) hLR20 hGhLR20 ⟨by omega, by omega⟩) ?_))
  rintro e W7 ⟨rfl, hLR20n, hGhLR20n, hk7⟩
  refine ⟨_, rfl, ?_⟩
  have hs7 := hk7.size
  replace hE := Ext.kp hE hk7 (fun k hk => by first | omega | (have hk := hk; dsimp only at hk; omega))
  replace h_b := h_b.kp hk7 (fun k hk => by first | omega | (have hk := hk; dsimp only at hk; omega))
  replace hB2 := hB2.kp hk7 (fun hk => by first | omega | (have hk := hk; dsimp only at hk; omega))
  replace hF12_0 := hF12_0.kp hk7 (fun k hk => by first | omega | (have hk := hk; dsimp only at hk; omega))
  replace hLR20 := hLR20n
  replace hGhLR20 := hGhLR20n
  refine RL_q rfl (Yd_move rfl) (RL_l rfl (Ld_call Try.func54 rfl (by kernel_rfl) rfl (lrIntK (x := ssc) hLR20 hGhLR20 ⟨by omega, by omega⟩) ?_))
  rintro e W8 ⟨rfl, hLR20n, hGhLR20n, hk8⟩
  refine ⟨_, rfl, ?_⟩
  have hs8 := hk8.size
  replace hE := Ext.kp hE hk8 (fun k hk => by first | omega | (have hk := hk; dsimp only at hk; omega))
  replace h_b := h_b.kp hk8 (fun k hk => by first | omega | (have hk := hk; dsimp only at hk; omega))
  replace hB2 := hB2.kp hk8 (fun hk => by first | omega | (have hk := hk; dsimp only at hk; omega))
  replace hF12_0 := hF12_0.kp hk8 (fun k hk => by first | omega | (have hk := hk; dsimp only at hk; omega))
  replace hLR20 := hLR20n
  replace hGhLR20 := hGhLR20n
  refine RL_q rfl (Yd_build Try.bld24 rfl rfl) (RL_q rfl (Yd_build Try.bld52 rfl rfl) (RL_l rfl (Ld_alloc (v := (.agg #[(.int .i64 0), (.int .i64 0), (.int .i64 0), (.int .i64 0), (.slice none 0 0)])) (by kernel_rfl) ?_)))
  have hg_8 := hE.size
  intro W9 he9 hz9 hB8
  replace hE := Ext.trans hE he9
  replace h_b := h_b.ext he9
  replace hB2 := hB2.ext he9
  replace hF12_0 := hF12_0.ext he9
  replace hLR20 := LR.ext hLR20 he9
  refine RL_l0 (Ld_store (by kernel_rfl) rfl rfl hB8 (Nat.le_of_ble_eq_true rfl) (by simp [cellsL, Value.cells, Value.oneCell']) ?_)
  intro W10 hu10 hz10 hB8
  have hk10 := Kp.ofb hu10
  have hs10 := hk10.size
  replace hE := Ext.kp hE hk10 (fun k hk => by first | omega | (have hk := hk; dsimp only at hk; omega))
  replace h_b := h_b.kp hk10 (fun k hk => by first | omega | (have hk := hk; dsimp only at hk; omega))
  replace hB2 := hB2.kp hk10 (fun hk => by first | omega | (have hk := hk; dsimp only at hk; omega))
  replace hF12_0 := hF12_0.kp hk10 (fun k hk => by first | omega | (have hk := hk; dsimp only at hk; omega))
  replace hLR20 := LR.kp hLR20 hk10 (fun hk => by first | omega | (have hk := hk; dsimp only at hk; omega)) (fun k hk => by first | omega | (have hk := hk; dsimp only at hk; omega))
  refine RL_nil (X_then (C_seq (C_region (RL_q rfl (Yd_move rfl) (RL_l rfl (Ld_call Try.func54 rfl (by kernel_rfl) rfl (lrIntK (x := (sps.length : Int)) hLR20 hGhLR20 ⟨by omega, by omega⟩) ?_))))))
  rintro e W11 ⟨rfl, hLR20n, hGhLR20n, hk11⟩
  refine ⟨_, rfl, ?_⟩
  have hs11 := hk11.size
  replace hE := Ext.kp hE hk11 (fun k hk => by first | omega | (have hk := hk; dsimp only at hk; omega))
  replace h_b := h_b.kp hk11 (fun k hk => by first | omega | (have hk := hk; dsimp only at hk; omega))
  replace hB2 := hB2.kp hk11 (fun hk => by first | omega | (have hk := hk; dsimp only at hk; omega))
  replace hF12_0 := hF12_0.kp hk11 (fun k hk => by first | omega | (have hk := hk; dsimp only at hk; omega))
  replace hB8 := hB8.kp hk11 (fun hk => by first | omega | (have hk := hk; dsimp only at hk; omega))
  replace hLR20 := hLR20n
  replace hGhLR20 := hGhLR20n
  refine RL_q rfl (Yd_assign rfl) (RL_nil (X_then (C_seq (C_seq (C_region (RL_q rfl (Yd_move rfl) (RL_q rfl (Yd_lss rfl rfl) (RL_q rfl (Yd_move rfl) (?_)))))))))
  apply RL_or (dj := 37) 40 3 rfl
  · intro hb37
    try simp only [decide_eq_true_eq, decide_eq_false_iff_not, Bool.not_eq_true', Bool.not_eq_false', Decidable.not_not, Int.not_lt, Int.not_le, Bool.or_eq_true, Bool.and_eq_true, Bool.or_eq_false_iff, Bool.and_eq_false_iff] at hb37
    refine QL_gq rfl rfl rfl (Yd_move rfl) (QL_gq rfl rfl rfl (Yd_gtr rfl rfl) (QL_q rfl (Yd_pickF rfl rfl) ((QL_nil 3 rfl rfl rfl))))
  · intro hb37
    try simp only [decide_eq_true_eq, decide_eq_false_iff_not, Bool.not_eq_true', Bool.not_eq_false', Decidable.not_not, Int.not_lt, Int.not_le, Bool.or_eq_true, Bool.and_eq_true, Bool.or_eq_false_iff, Bool.and_eq_false_iff] at hb37
    refine QL_gn rfl rfl rfl rfl (QL_gn rfl rfl rfl rfl (QL_q rfl (Yd_pickT rfl rfl) ((QL_nil 3 rfl rfl rfl))))
  · skip
    refine RL_nil (X_then (?_))
    refine C_cond rfl (fun hb40 => ?_) (fun hb40 => ?_)
    · skip
      try simp only [decide_eq_true_eq, decide_eq_false_iff_not, Bool.not_eq_true', Bool.not_eq_false', Decidable.not_not, Int.not_lt, Int.not_le, Bool.or_eq_true, Bool.and_eq_true, Bool.or_eq_false_iff, Bool.and_eq_false_iff] at hb40
      refine C_seq (C_region (RL_q rfl (Yd_build Try.bld52 rfl rfl) (RL_l0 (Ld_store (by kernel_rfl) rfl rfl hB2 (Nat.le_of_ble_eq_true rfl) (by simp [cellsL, Value.cells, Value.oneCell']) ?_))))
      intro W12 hu12 hz12 hB2
      have hk12 := Kp.ofb hu12
      have hs12 := hk12.size
      replace hE := Ext.kp hE hk12 (fun k hk => by first | omega | (have hk := hk; dsimp only at hk; omega))
      replace h_b := h_b.kp hk12 (fun k hk => by first | omega | (have hk := hk; dsimp only at hk; omega))
      replace hF12_0 := hF12_0.kp hk12 (fun k hk => by first | omega | (have hk := hk; dsimp only at hk; omega))
      replace hLR20 := LR.kp hLR20 hk12 (fun hk => by first | omega | (have hk := hk; dsimp only at hk; omega)) (fun k hk => by first | omega | (have hk := hk; dsimp only at hk; omega))
      replace hB8 := hB8.kp hk12 (fun hk => by first | omega | (have hk := hk; dsimp only at hk; omega))
      refine RL_q rfl (Yd_assign rfl) (RL_nil (X_then (C_ret (X_thenR (X_retCT rfl rfl rfl Try.underlying52 rfl (by kernel_rfl) hB2 ?_)))))
      refine ⟨_, _, _, _, _, _, _, _, _, rfl, ?_, Ow.nil, hE⟩
      first | exact ⟨rfl, rfl, rfl, rfl, rfl, rfl⟩ | (exfalso; omega)
    · skip
      try simp only [decide_eq_true_eq, decide_eq_false_iff_not, Bool.not_eq_true', Bool.not_eq_false', Decidable.not_not, Int.not_lt, Int.not_le, Bool.or_eq_true, Bool.and_eq_true, Bool.or_eq_false_iff, Bool.and_eq_false_iff] at hb40
      refine C_skip (X_then (C_seq (C_seq (C_region (RL_q rfl (Yd_move rfl) (RL_q rfl (Yd_move rfl) (RL_nil (X_then (C_block (?_))))))))))
      refine C_loop (T := Nat × Option Addr × Nat × Nat) (fun ⟨k, bA8_4, bn8_4, bc8_4⟩ => [(2, .pointer (some ⟨w.heap.size, 0, none⟩)), (3, .int .i64 0), (6, .pointer (some ⟨gr20, 0, none⟩)), (7, .int .i64 1), (8, .pointer (some ⟨W8.heap.size, 0, none⟩)), (42, .int .i64 (sps.length : Int)), (43, .int .i64 (k : Int))]) (fun ⟨k, bA8_4, bn8_4, bc8_4⟩ lw11 => LR 89 W2.heap.size lim20 lw11 gr20 (some (ptB (sps.drop k))) ∧ rGood (some (ptB (sps.drop k))) ∧ Ow tP 35 lw11 W11.heap.size lw11.heap.size bA8_4 bn8_4 bc8_4 (sps.take k) ∧ Blk lw11 W8.heap.size 52 [.int .i64 sep, .int .i64 sfr, .int .i64 sdp, .int .i64 ssc, .slice bA8_4 bn8_4 bc8_4] ∧ (k ≤ sps.length) ∧ Kp (fun k => k = gr20 ∨ k = W8.heap.size) W11 lw11) (fun ⟨k, bA8_4, bn8_4, bc8_4⟩ => sps.length - k) (⟨0, none, 0, 0⟩) ⟨rfl, rfl, rfl, rfl, rfl, rfl, rfl, trivial⟩ ?_ ?_
      · refine ⟨hLR20, hGhLR20, (Ow.nil (lo := W11.heap.size)).cast ?_, hB8, ?_, Kp.refl _ _⟩
        all_goals (try dsimp only)
        all_goals (first | omega | rfl)
      · rintro ⟨k, bA8_4, bn8_4, bc8_4⟩ lw11 ⟨hLR20, hGhLR20, hb_8_4, hB8, hi11_0, hL11⟩
        replace hE := Ext.kp hE hL11 (fun k hk => by first | omega | (have hk := hk; dsimp only at hk; omega))
        replace h_b := h_b.kp hL11 (fun k hk => by first | omega | (have hk := hk; dsimp only at hk; omega))
        replace hB2 := hB2.kp hL11 (fun hk => by first | omega | (have hk := hk; dsimp only at hk; omega))
        replace hF12_0 := hF12_0.kp hL11 (fun k hk => by first | omega | (have hk := hk; dsimp only at hk; omega))
        have hsL11 := hL11.size
        have hnhb_8_4 := hb_8_4.ln
        try simp only [List.length_append, List.length_cons, List.length_nil, List.length_set, List.length_take, List.length_drop, List.length_replicate, List.length_map, Nat.zero_add, Nat.add_zero, oneP_len, le_len, le8s_len, le8_len, ptB_len, ptI_len] at hnhb_8_4
        have hchb_8_4 := hb_8_4.cap
        refine C_seq (?_)
        refine C_region (RL_q rfl (Yd_lss rfl rfl) (RL_nil (X_then (C_seq (?_)))))
        refine C_cond rfl (fun hb44 => ?_) (fun hb44 => ?_)
        · skip
          try simp only [decide_eq_true_eq, decide_eq_false_iff_not, Bool.not_eq_true', Bool.not_eq_false', Decidable.not_not, Int.not_lt, Int.not_le, Bool.or_eq_true, Bool.and_eq_true, Bool.or_eq_false_iff, Bool.and_eq_false_iff] at hb44
          refine C_skip (X_then (C_seq (C_block (?_))))
          obtain ⟨x, hx⟩ : ∃ x, sps[k]? = some x := ⟨_, List.getElem?_eq_getElem (by omega)⟩
          have hpz := partC_zero (hok.hpt _ (List.mem_of_getElem? hx))
          rw [ptB_drop hx] at hLR20 hGhLR20
          refine C_regionP (fun k => k = gr20 ∨ (W11.heap.size ≤ k ∧ k < lw11.heap.size) ∨ k = W8.heap.size) (p := (.q 0 (.q 1 (.q 3 (.q 5 (.q 7 (.two 2 4 (.l 4 (.l 6 (.l 8 (.q 9 (.l 10 (.l 11 (.q 12 (.q 13 (.l 14 .nil))))))))) (.two 2 6 (.l 6 (.l 8 (.q 9 (.l 10 (.l 11 (.q 12 (.q 13 (.l 14 .nil)))))))) (.two 2 8 (.l 8 (.q 9 (.l 10 (.l 11 (.q 12 (.q 13 (.l 14 .nil))))))) (.q 9 (.two 2 10 (.l 10 (.l 11 (.q 12 (.q 13 (.l 14 .nil))))) (.l 2 (.l 11 (.q 12 (.q 13 (.l 14 .nil)))))))))))))))) (by kernel_rfl) (by kernel_rfl) rfl (by kernel_rfl) (fun _ _ d _ _ h => by cases d <;> exact h) ?_
          intro W12 he12 hh12
          replace hE := Ext.trans hE he12
          replace h_b := h_b.ext he12
          replace hB2 := hB2.ext he12
          replace hF12_0 := hF12_0.ext he12
          replace hb_8_4 := hb_8_4.ext he12
          replace hL11 := Kp.go hL11 (Kp.of_ext (G := NoB) he12) (fun _ h => h.elim)
          replace hB8 := hB8.ext he12
          replace hLR20 := LR.ext hLR20 he12
          have hs12 := he12.size
          refine RP_q rfl rfl (Yd_fld (off := 1) Try.underlying52 (by kernel_rfl) rfl) (RP_q rfl rfl (Yd_fld (off := 3) Try.underlying24 (by kernel_rfl) rfl) (RP_q rfl rfl (Yd_move rfl) (RP_q rfl rfl (Yd_move rfl) (RP_q rfl rfl (Yd_move rfl) (?_)))))
          refine RP_two rfl rfl ?_ ?_
          · skip
            refine RPl_l rfl (Ld_yd (Yd_load Try.underlying22 rfl rfl (fun W hW => by subst hW; exact (ldB hB8 rfl) _ (Ext.refl _))) ?_)
            refine ⟨Kp.refl _ _, ?_⟩
            refine RP_loud rfl (RPl_l rfl (Ld_call Try.func54 rfl (by kernel_rfl) rfl (lrIntK (x := x.quota) hLR20 hGhLR20 ⟨by omega, by omega⟩) ?_))
            rintro e W13 ⟨rfl, hLR20n, hGhLR20n, hk13⟩
            refine ⟨_, rfl, ?_⟩
            refine ⟨hk13.mono (fun k hk => by first | omega | exact hk | (have hk := hk; dsimp only at hk; first | omega | (dsimp only; omega))), ?_⟩
            have hs13 := hk13.size
            replace hE := Ext.kp hE hk13 (fun k hk => by first | omega | (have hk := hk; dsimp only at hk; omega))
            replace h_b := h_b.kp hk13 (fun k hk => by first | omega | (have hk := hk; dsimp only at hk; omega))
            replace hB2 := hB2.kp hk13 (fun hk => by first | omega | (have hk := hk; dsimp only at hk; omega))
            replace hF12_0 := hF12_0.kp hk13 (fun k hk => by first | omega | (have hk := hk; dsimp only at hk; omega))
            replace hb_8_4 := hb_8_4.kp hk13 (fun k hk => by first | omega | (have hk := hk; dsimp only at hk; omega))
            try replace hL11 := hL11.go hk13 (fun k hk => by first | omega | (have hk := hk; dsimp only at hk; dsimp only; omega))
            replace hB8 := hB8.kp hk13 (fun hk => by first | omega | (have hk := hk; dsimp only at hk; omega))
            replace hLR20 := hLR20n
            replace hGhLR20 := hGhLR20n
            refine RP_loud rfl (RPl_l rfl (Ld_call Try.func54 rfl (by kernel_rfl) rfl (lrIntK (x := x.base) hLR20 hGhLR20 ⟨by omega, by omega⟩) ?_))
            rintro e W14 ⟨rfl, hLR20n, hGhLR20n, hk14⟩
            refine ⟨_, rfl, ?_⟩
            refine ⟨hk14.mono (fun k hk => by first | omega | exact hk | (have hk := hk; dsimp only at hk; first | omega | (dsimp only; omega))), ?_⟩
            have hs14 := hk14.size
            replace hE := Ext.kp hE hk14 (fun k hk => by first | omega | (have hk := hk; dsimp only at hk; omega))
            replace h_b := h_b.kp hk14 (fun k hk => by first | omega | (have hk := hk; dsimp only at hk; omega))
            replace hB2 := hB2.kp hk14 (fun hk => by first | omega | (have hk := hk; dsimp only at hk; omega))
            replace hF12_0 := hF12_0.kp hk14 (fun k hk => by first | omega | (have hk := hk; dsimp only at hk; omega))
            replace hb_8_4 := hb_8_4.kp hk14 (fun k hk => by first | omega | (have hk := hk; dsimp only at hk; omega))
            try replace hL11 := hL11.go hk14 (fun k hk => by first | omega | (have hk := hk; dsimp only at hk; dsimp only; omega))
            replace hB8 := hB8.kp hk14 (fun hk => by first | omega | (have hk := hk; dsimp only at hk; omega))
            replace hLR20 := hLR20n
            replace hGhLR20 := hGhLR20n
            refine RP_loud rfl (RPl_l rfl (Ld_call Try.func54 rfl (by kernel_rfl) rfl (lrIntK (x := x.pages) hLR20 hGhLR20 ⟨by omega, by omega⟩) ?_))
            rintro e W15 ⟨rfl, hLR20n, hGhLR20n, hk15⟩
            refine ⟨_, rfl, ?_⟩
            refine ⟨hk15.mono (fun k hk => by first | omega | exact hk | (have hk := hk; dsimp only at hk; first | omega | (dsimp only; omega))), ?_⟩
            have hs15 := hk15.size
            replace hE := Ext.kp hE hk15 (fun k hk => by first | omega | (have hk := hk; dsimp only at hk; omega))
            replace h_b := h_b.kp hk15 (fun k hk => by first | omega | (have hk := hk; dsimp only at hk; omega))
            replace hB2 := hB2.kp hk15 (fun hk => by first | omega | (have hk := hk; dsimp only at hk; omega))
            replace hF12_0 := hF12_0.kp hk15 (fun k hk => by first | omega | (have hk := hk; dsimp only at hk; omega))
            replace hb_8_4 := hb_8_4.kp hk15 (fun k hk => by first | omega | (have hk := hk; dsimp only at hk; omega))
            try replace hL11 := hL11.go hk15 (fun k hk => by first | omega | (have hk := hk; dsimp only at hk; dsimp only; omega))
            replace hB8 := hB8.kp hk15 (fun hk => by first | omega | (have hk := hk; dsimp only at hk; omega))
            replace hLR20 := hLR20n
            replace hGhLR20 := hGhLR20n
            refine RP_q rfl rfl (Yd_build Try.bld35 rfl rfl) (RP_loud rfl (RPl_l rfl (Ld_lit Try.underlying22 rfl (lit_flat Try.underlying22 Try.elt35 rfl rfl ⟨rfl, by decide⟩) ?_)))
            intro W16 he16 hz16 hL55
            refine ⟨Kp.of_ext he16, ?_⟩
            replace hE := Ext.trans hE he16
            replace h_b := h_b.ext he16
            replace hB2 := hB2.ext he16
            replace hF12_0 := hF12_0.ext he16
            replace hb_8_4 := hb_8_4.ext he16
            replace hL11 := Kp.go hL11 (Kp.of_ext (G := NoB) he16) (fun _ h => h.elim)
            replace hB8 := hB8.ext he16
            replace hLR20 := LR.ext hLR20 he16
            have hO55 := Ow.of_blk (T := tP) (l := [x]) hL55 rfl (n := 1) rfl (by simp [maxLen]) (okc ⟨⟨by (try dsimp only); omega, by (try dsimp only); omega⟩, ⟨by (try dsimp only); omega, by (try dsimp only); omega⟩, ⟨by (try dsimp only); omega, by (try dsimp only); omega⟩⟩ okn)
            clear hL55
            refine RP_loud rfl (RPl_l rfl (Ld_apO (T := tP) Try.underlying22 Try.elt35 rfl rfl rfl hb_8_4 hO55.vw (by simp only [maxLen]; omega) (by omega) (by omega) ?_))
            intro A56 c56 W17 hO56 hk17
            refine ⟨hk17.mono (fun k hk => by first | omega | exact hk | (have hk := hk; dsimp only at hk; first | omega | (dsimp only; omega))), ?_⟩
            have hs17 := hk17.size
            replace hE := Ext.kp hE hk17 (fun k hk => by first | omega | (have hk := hk; dsimp only at hk; omega))
            replace h_b := h_b.kp hk17 (fun k hk => by first | omega | (have hk := hk; dsimp only at hk; omega))
            replace hB2 := hB2.kp hk17 (fun hk => by first | omega | (have hk := hk; dsimp only at hk; omega))
            replace hF12_0 := hF12_0.kp hk17 (fun k hk => by first | omega | (have hk := hk; dsimp only at hk; omega))
            try replace hL11 := hL11.go hk17 (fun k hk => by first | omega | (have hk := hk; dsimp only at hk; dsimp only; omega))
            replace hB8 := hB8.kp hk17 (fun hk => by first | omega | (have hk := hk; dsimp only at hk; omega))
            replace hLR20 := LR.kp hLR20 hk17 (fun hk => by first | omega | (have hk := hk; dsimp only at hk; omega)) (fun k hk => by first | omega | (have hk := hk; dsimp only at hk; omega))
            replace hO55 := hO55.kp hk17 (fun k hk => by first | omega | (have hk := hk; dsimp only at hk; omega))
            have hn56 := hO56.ln
            try simp only [List.length_append, List.length_cons, List.length_nil, List.length_set, List.length_take, List.length_drop, List.length_replicate, List.length_map, Nat.zero_add, Nat.add_zero, oneP_len, le_len, le8s_len, le8_len, ptB_len, ptI_len] at hn56
            have hc56 := hO56.cap
            refine RP_q rfl rfl (Yd_fld (off := 1) Try.underlying52 (by kernel_rfl) rfl) (RP_q rfl rfl (Yd_fld (off := 3) Try.underlying24 (by kernel_rfl) rfl) (RP_loud rfl (RPl_l0 (Ld_store (by kernel_rfl) rfl rfl hB8 (Nat.le_of_ble_eq_true rfl) (by simp [cellsL, Value.cells, Value.oneCell']) ?_))))
            intro W18 hu18 hz18 hB8
            refine ⟨Kp.of_but hu18 (by first | rfl | omega | (dsimp only; omega)), ?_⟩
            have hk18 := Kp.ofb hu18
            have hs18 := hk18.size
            replace hE := Ext.kp hE hk18 (fun k hk => by first | omega | (have hk := hk; dsimp only at hk; omega))
            replace h_b := h_b.kp hk18 (fun k hk => by first | omega | (have hk := hk; dsimp only at hk; omega))
            replace hB2 := hB2.kp hk18 (fun hk => by first | omega | (have hk := hk; dsimp only at hk; omega))
            replace hF12_0 := hF12_0.kp hk18 (fun k hk => by first | omega | (have hk := hk; dsimp only at hk; omega))
            try replace hL11 := hL11.go hk18 (fun k hk => by first | omega | (have hk := hk; dsimp only at hk; dsimp only; omega))
            replace hLR20 := LR.kp hLR20 hk18 (fun hk => by first | omega | (have hk := hk; dsimp only at hk; omega)) (fun k hk => by first | omega | (have hk := hk; dsimp only at hk; omega))
            replace hO55 := hO55.kp hk18 (fun k hk => by first | omega | (have hk := hk; dsimp only at hk; omega))
            replace hO56 := hO56.kp hk18 (fun k hk => by first | omega | (have hk := hk; dsimp only at hk; omega))
            refine RP_nil (X_block (X_then (C_region (RL_q rfl (Yd_add rfl rfl (i64w (by omega) (by omega))) (RL_q rfl (Yd_move rfl) (RL_nil (?_)))))))
            refine X_again (⟨k + 1, A56, (bn8_4 + 1), c56⟩) ⟨rfl, rfl, rfl, rfl, rfl, rfl, rfl, trivial⟩ ?_ (by show sps.length - (k + 1) < sps.length - k; omega)
            refine ⟨hLR20, hGhLR20, hO56.fit.cast ?_, hB8, ?_, hL11⟩
            all_goals (try dsimp only)
            all_goals (first | omega | exact take_next' hx)
          · skip
            refine RPl_l rfl (Ld_call Try.func54 rfl (by kernel_rfl) rfl (lrIntK (x := x.quota) hLR20 hGhLR20 ⟨by omega, by omega⟩) ?_)
            rintro e W13 ⟨rfl, hLR20n, hGhLR20n, hk13⟩
            refine ⟨_, rfl, ?_⟩
            refine ⟨hk13.mono (fun k hk => by first | omega | exact hk | (have hk := hk; dsimp only at hk; first | omega | (dsimp only; omega))), ?_⟩
            have hs13 := hk13.size
            replace hE := Ext.kp hE hk13 (fun k hk => by first | omega | (have hk := hk; dsimp only at hk; omega))
            replace h_b := h_b.kp hk13 (fun k hk => by first | omega | (have hk := hk; dsimp only at hk; omega))
            replace hB2 := hB2.kp hk13 (fun hk => by first | omega | (have hk := hk; dsimp only at hk; omega))
            replace hF12_0 := hF12_0.kp hk13 (fun k hk => by first | omega | (have hk := hk; dsimp only at hk; omega))
            replace hb_8_4 := hb_8_4.kp hk13 (fun k hk => by first | omega | (have hk := hk; dsimp only at hk; omega))
            try replace hL11 := hL11.go hk13 (fun k hk => by first | omega | (have hk := hk; dsimp only at hk; dsimp only; omega))
            replace hB8 := hB8.kp hk13 (fun hk => by first | omega | (have hk := hk; dsimp only at hk; omega))
            replace hLR20 := hLR20n
            replace hGhLR20 := hGhLR20n
            refine RP_two rfl rfl ?_ ?_
            · skip
              refine RPl_l rfl (Ld_yd (Yd_load Try.underlying22 rfl rfl (fun W hW => by subst hW; exact (ldB hB8 rfl) _ (Ext.refl _))) ?_)
              refine ⟨Kp.refl _ _, ?_⟩
              refine RP_loud rfl (RPl_l rfl (Ld_call Try.func54 rfl (by kernel_rfl) rfl (lrIntK (x := x.base) hLR20 hGhLR20 ⟨by omega, by omega⟩) ?_))
              rintro e W14 ⟨rfl, hLR20n, hGhLR20n, hk14⟩
              refine ⟨_, rfl, ?_⟩
              refine ⟨hk14.mono (fun k hk => by first | omega | exact hk | (have hk := hk; dsimp only at hk; first | omega | (dsimp only; omega))), ?_⟩
              have hs14 := hk14.size
              replace hE := Ext.kp hE hk14 (fun k hk => by first | omega | (have hk := hk; dsimp only at hk; omega))
              replace h_b := h_b.kp hk14 (fun k hk => by first | omega | (have hk := hk; dsimp only at hk; omega))
              replace hB2 := hB2.kp hk14 (fun hk => by first | omega | (have hk := hk; dsimp only at hk; omega))
              replace hF12_0 := hF12_0.kp hk14 (fun k hk => by first | omega | (have hk := hk; dsimp only at hk; omega))
              replace hb_8_4 := hb_8_4.kp hk14 (fun k hk => by first | omega | (have hk := hk; dsimp only at hk; omega))
              try replace hL11 := hL11.go hk14 (fun k hk => by first | omega | (have hk := hk; dsimp only at hk; dsimp only; omega))
              replace hB8 := hB8.kp hk14 (fun hk => by first | omega | (have hk := hk; dsimp only at hk; omega))
              replace hLR20 := hLR20n
              replace hGhLR20 := hGhLR20n
              refine RP_loud rfl (RPl_l rfl (Ld_call Try.func54 rfl (by kernel_rfl) rfl (lrIntK (x := x.pages) hLR20 hGhLR20 ⟨by omega, by omega⟩) ?_))
              rintro e W15 ⟨rfl, hLR20n, hGhLR20n, hk15⟩
              refine ⟨_, rfl, ?_⟩
              refine ⟨hk15.mono (fun k hk => by first | omega | exact hk | (have hk := hk; dsimp only at hk; first | omega | (dsimp only; omega))), ?_⟩
              have hs15 := hk15.size
              replace hE := Ext.kp hE hk15 (fun k hk => by first | omega | (have hk := hk; dsimp only at hk; omega))
              replace h_b := h_b.kp hk15 (fun k hk => by first | omega | (have hk := hk; dsimp only at hk; omega))
              replace hB2 := hB2.kp hk15 (fun hk => by first | omega | (have hk := hk; dsimp only at hk; omega))
              replace hF12_0 := hF12_0.kp hk15 (fun k hk => by first | omega | (have hk := hk; dsimp only at hk; omega))
              replace hb_8_4 := hb_8_4.kp hk15 (fun k hk => by first | omega | (have hk := hk; dsimp only at hk; omega))
              try replace hL11 := hL11.go hk15 (fun k hk => by first | omega | (have hk := hk; dsimp only at hk; dsimp only; omega))
              replace hB8 := hB8.kp hk15 (fun hk => by first | omega | (have hk := hk; dsimp only at hk; omega))
              replace hLR20 := hLR20n
              replace hGhLR20 := hGhLR20n
              refine RP_q rfl rfl (Yd_build Try.bld35 rfl rfl) (RP_loud rfl (RPl_l rfl (Ld_lit Try.underlying22 rfl (lit_flat Try.underlying22 Try.elt35 rfl rfl ⟨rfl, by decide⟩) ?_)))
              intro W16 he16 hz16 hL55
              refine ⟨Kp.of_ext he16, ?_⟩
              replace hE := Ext.trans hE he16
              replace h_b := h_b.ext he16
              replace hB2 := hB2.ext he16
              replace hF12_0 := hF12_0.ext he16
              replace hb_8_4 := hb_8_4.ext he16
              replace hL11 := Kp.go hL11 (Kp.of_ext (G := NoB) he16) (fun _ h => h.elim)
              replace hB8 := hB8.ext he16
              replace hLR20 := LR.ext hLR20 he16
              have hO55 := Ow.of_blk (T := tP) (l := [x]) hL55 rfl (n := 1) rfl (by simp [maxLen]) (okc ⟨⟨by (try dsimp only); omega, by (try dsimp only); omega⟩, ⟨by (try dsimp only); omega, by (try dsimp only); omega⟩, ⟨by (try dsimp only); omega, by (try dsimp only); omega⟩⟩ okn)
              clear hL55
              refine RP_loud rfl (RPl_l rfl (Ld_apO (T := tP) Try.underlying22 Try.elt35 rfl rfl rfl hb_8_4 hO55.vw (by simp only [maxLen]; omega) (by omega) (by omega) ?_))
              intro A56 c56 W17 hO56 hk17
              refine ⟨hk17.mono (fun k hk => by first | omega | exact hk | (have hk := hk; dsimp only at hk; first | omega | (dsimp only; omega))), ?_⟩
              have hs17 := hk17.size
              replace hE := Ext.kp hE hk17 (fun k hk => by first | omega | (have hk := hk; dsimp only at hk; omega))
              replace h_b := h_b.kp hk17 (fun k hk => by first | omega | (have hk := hk; dsimp only at hk; omega))
              replace hB2 := hB2.kp hk17 (fun hk => by first | omega | (have hk := hk; dsimp only at hk; omega))
              replace hF12_0 := hF12_0.kp hk17 (fun k hk => by first | omega | (have hk := hk; dsimp only at hk; omega))
              try replace hL11 := hL11.go hk17 (fun k hk => by first | omega | (have hk := hk; dsimp only at hk; dsimp only; omega))
              replace hB8 := hB8.kp hk17 (fun hk => by first | omega | (have hk := hk; dsimp only at hk; omega))
              replace hLR20 := LR.kp hLR20 hk17 (fun hk => by first | omega | (have hk := hk; dsimp only at hk; omega)) (fun k hk => by first | omega | (have hk := hk; dsimp only at hk; omega))
              replace hO55 := hO55.kp hk17 (fun k hk => by first | omega | (have hk := hk; dsimp only at hk; omega))
              have hn56 := hO56.ln
              try simp only [List.length_append, List.length_cons, List.length_nil, List.length_set, List.length_take, List.length_drop, List.length_replicate, List.length_map, Nat.zero_add, Nat.add_zero, oneP_len, le_len, le8s_len, le8_len, ptB_len, ptI_len] at hn56
              have hc56 := hO56.cap
              refine RP_q rfl rfl (Yd_fld (off := 1) Try.underlying52 (by kernel_rfl) rfl) (RP_q rfl rfl (Yd_fld (off := 3) Try.underlying24 (by kernel_rfl) rfl) (RP_loud rfl (RPl_l0 (Ld_store (by kernel_rfl) rfl rfl hB8 (Nat.le_of_ble_eq_true rfl) (by simp [cellsL, Value.cells, Value.oneCell']) ?_))))
              intro W18 hu18 hz18 hB8
              refine ⟨Kp.of_but hu18 (by first | rfl | omega | (dsimp only; omega)), ?_⟩
              have hk18 := Kp.ofb hu18
              have hs18 := hk18.size
              replace hE := Ext.kp hE hk18 (fun k hk => by first | omega | (have hk := hk; dsimp only at hk; omega))
              replace h_b := h_b.kp hk18 (fun k hk => by first | omega | (have hk := hk; dsimp only at hk; omega))
              replace hB2 := hB2.kp hk18 (fun hk => by first | omega | (have hk := hk; dsimp only at hk; omega))
              replace hF12_0 := hF12_0.kp hk18 (fun k hk => by first | omega | (have hk := hk; dsimp only at hk; omega))
              try replace hL11 := hL11.go hk18 (fun k hk => by first | omega | (have hk := hk; dsimp only at hk; dsimp only; omega))
              replace hLR20 := LR.kp hLR20 hk18 (fun hk => by first | omega | (have hk := hk; dsimp only at hk; omega)) (fun k hk => by first | omega | (have hk := hk; dsimp only at hk; omega))
              replace hO55 := hO55.kp hk18 (fun k hk => by first | omega | (have hk := hk; dsimp only at hk; omega))
              replace hO56 := hO56.kp hk18 (fun k hk => by first | omega | (have hk := hk; dsimp only at hk; omega))
              refine RP_nil (X_block (X_then (C_region (RL_q rfl (Yd_add rfl rfl (i64w (by omega) (by omega))) (RL_q rfl (Yd_move rfl) (RL_nil (?_)))))))
              refine X_again (⟨k + 1, A56, (bn8_4 + 1), c56⟩) ⟨rfl, rfl, rfl, rfl, rfl, rfl, rfl, trivial⟩ ?_ (by show sps.length - (k + 1) < sps.length - k; omega)
              refine ⟨hLR20, hGhLR20, hO56.fit.cast ?_, hB8, ?_, hL11⟩
              all_goals (try dsimp only)
              all_goals (first | omega | exact take_next' hx)
            · skip
              refine RPl_l rfl (Ld_call Try.func54 rfl (by kernel_rfl) rfl (lrIntK (x := x.base) hLR20 hGhLR20 ⟨by omega, by omega⟩) ?_)
              rintro e W14 ⟨rfl, hLR20n, hGhLR20n, hk14⟩
              refine ⟨_, rfl, ?_⟩
              refine ⟨hk14.mono (fun k hk => by first | omega | exact hk | (have hk := hk; dsimp only at hk; first | omega | (dsimp only; omega))), ?_⟩
              have hs14 := hk14.size
              replace hE := Ext.kp hE hk14 (fun k hk => by first | omega | (have hk := hk; dsimp only at hk; omega))
              replace h_b := h_b.kp hk14 (fun k hk => by first | omega | (have hk := hk; dsimp only at hk; omega))
              replace hB2 := hB2.kp hk14 (fun hk => by first | omega | (have hk := hk; dsimp only at hk; omega))
              replace hF12_0 := hF12_0.kp hk14 (fun k hk => by first | omega | (have hk := hk; dsimp only at hk; omega))
              replace hb_8_4 := hb_8_4.kp hk14 (fun k hk => by first | omega | (have hk := hk; dsimp only at hk; omega))
              try replace hL11 := hL11.go hk14 (fun k hk => by first | omega | (have hk := hk; dsimp only at hk; dsimp only; omega))
              replace hB8 := hB8.kp hk14 (fun hk => by first | omega | (have hk := hk; dsimp only at hk; omega))
              replace hLR20 := hLR20n
              replace hGhLR20 := hGhLR20n
              refine RP_two rfl rfl ?_ ?_
              · skip
                refine RPl_l rfl (Ld_yd (Yd_load Try.underlying22 rfl rfl (fun W hW => by subst hW; exact (ldB hB8 rfl) _ (Ext.refl _))) ?_)
                refine ⟨Kp.refl _ _, ?_⟩
                refine RP_loud rfl (RPl_l rfl (Ld_call Try.func54 rfl (by kernel_rfl) rfl (lrIntK (x := x.pages) hLR20 hGhLR20 ⟨by omega, by omega⟩) ?_))
                rintro e W15 ⟨rfl, hLR20n, hGhLR20n, hk15⟩
                refine ⟨_, rfl, ?_⟩
                refine ⟨hk15.mono (fun k hk => by first | omega | exact hk | (have hk := hk; dsimp only at hk; first | omega | (dsimp only; omega))), ?_⟩
                have hs15 := hk15.size
                replace hE := Ext.kp hE hk15 (fun k hk => by first | omega | (have hk := hk; dsimp only at hk; omega))
                replace h_b := h_b.kp hk15 (fun k hk => by first | omega | (have hk := hk; dsimp only at hk; omega))
                replace hB2 := hB2.kp hk15 (fun hk => by first | omega | (have hk := hk; dsimp only at hk; omega))
                replace hF12_0 := hF12_0.kp hk15 (fun k hk => by first | omega | (have hk := hk; dsimp only at hk; omega))
                replace hb_8_4 := hb_8_4.kp hk15 (fun k hk => by first | omega | (have hk := hk; dsimp only at hk; omega))
                try replace hL11 := hL11.go hk15 (fun k hk => by first | omega | (have hk := hk; dsimp only at hk; dsimp only; omega))
                replace hB8 := hB8.kp hk15 (fun hk => by first | omega | (have hk := hk; dsimp only at hk; omega))
                replace hLR20 := hLR20n
                replace hGhLR20 := hGhLR20n
                refine RP_q rfl rfl (Yd_build Try.bld35 rfl rfl) (RP_loud rfl (RPl_l rfl (Ld_lit Try.underlying22 rfl (lit_flat Try.underlying22 Try.elt35 rfl rfl ⟨rfl, by decide⟩) ?_)))
                intro W16 he16 hz16 hL55
                refine ⟨Kp.of_ext he16, ?_⟩
                replace hE := Ext.trans hE he16
                replace h_b := h_b.ext he16
                replace hB2 := hB2.ext he16
                replace hF12_0 := hF12_0.ext he16
                replace hb_8_4 := hb_8_4.ext he16
                replace hL11 := Kp.go hL11 (Kp.of_ext (G := NoB) he16) (fun _ h => h.elim)
                replace hB8 := hB8.ext he16
                replace hLR20 := LR.ext hLR20 he16
                have hO55 := Ow.of_blk (T := tP) (l := [x]) hL55 rfl (n := 1) rfl (by simp [maxLen]) (okc ⟨⟨by (try dsimp only); omega, by (try dsimp only); omega⟩, ⟨by (try dsimp only); omega, by (try dsimp only); omega⟩, ⟨by (try dsimp only); omega, by (try dsimp only); omega⟩⟩ okn)
                clear hL55
                refine RP_loud rfl (RPl_l rfl (Ld_apO (T := tP) Try.underlying22 Try.elt35 rfl rfl rfl hb_8_4 hO55.vw (by simp only [maxLen]; omega) (by omega) (by omega) ?_))
                intro A56 c56 W17 hO56 hk17
                refine ⟨hk17.mono (fun k hk => by first | omega | exact hk | (have hk := hk; dsimp only at hk; first | omega | (dsimp only; omega))), ?_⟩
                have hs17 := hk17.size
                replace hE := Ext.kp hE hk17 (fun k hk => by first | omega | (have hk := hk; dsimp only at hk; omega))
                replace h_b := h_b.kp hk17 (fun k hk => by first | omega | (have hk := hk; dsimp only at hk; omega))
                replace hB2 := hB2.kp hk17 (fun hk => by first | omega | (have hk := hk; dsimp only at hk; omega))
                replace hF12_0 := hF12_0.kp hk17 (fun k hk => by first | omega | (have hk := hk; dsimp only at hk; omega))
                try replace hL11 := hL11.go hk17 (fun k hk => by first | omega | (have hk := hk; dsimp only at hk; dsimp only; omega))
                replace hB8 := hB8.kp hk17 (fun hk => by first | omega | (have hk := hk; dsimp only at hk; omega))
                replace hLR20 := LR.kp hLR20 hk17 (fun hk => by first | omega | (have hk := hk; dsimp only at hk; omega)) (fun k hk => by first | omega | (have hk := hk; dsimp only at hk; omega))
                replace hO55 := hO55.kp hk17 (fun k hk => by first | omega | (have hk := hk; dsimp only at hk; omega))
                have hn56 := hO56.ln
                try simp only [List.length_append, List.length_cons, List.length_nil, List.length_set, List.length_take, List.length_drop, List.length_replicate, List.length_map, Nat.zero_add, Nat.add_zero, oneP_len, le_len, le8s_len, le8_len, ptB_len, ptI_len] at hn56
                have hc56 := hO56.cap
                refine RP_q rfl rfl (Yd_fld (off := 1) Try.underlying52 (by kernel_rfl) rfl) (RP_q rfl rfl (Yd_fld (off := 3) Try.underlying24 (by kernel_rfl) rfl) (RP_loud rfl (RPl_l0 (Ld_store (by kernel_rfl) rfl rfl hB8 (Nat.le_of_ble_eq_true rfl) (by simp [cellsL, Value.cells, Value.oneCell']) ?_))))
                intro W18 hu18 hz18 hB8
                refine ⟨Kp.of_but hu18 (by first | rfl | omega | (dsimp only; omega)), ?_⟩
                have hk18 := Kp.ofb hu18
                have hs18 := hk18.size
                replace hE := Ext.kp hE hk18 (fun k hk => by first | omega | (have hk := hk; dsimp only at hk; omega))
                replace h_b := h_b.kp hk18 (fun k hk => by first | omega | (have hk := hk; dsimp only at hk; omega))
                replace hB2 := hB2.kp hk18 (fun hk => by first | omega | (have hk := hk; dsimp only at hk; omega))
                replace hF12_0 := hF12_0.kp hk18 (fun k hk => by first | omega | (have hk := hk; dsimp only at hk; omega))
                try replace hL11 := hL11.go hk18 (fun k hk => by first | omega | (have hk := hk; dsimp only at hk; dsimp only; omega))
                replace hLR20 := LR.kp hLR20 hk18 (fun hk => by first | omega | (have hk := hk; dsimp only at hk; omega)) (fun k hk => by first | omega | (have hk := hk; dsimp only at hk; omega))
                replace hO55 := hO55.kp hk18 (fun k hk => by first | omega | (have hk := hk; dsimp only at hk; omega))
                replace hO56 := hO56.kp hk18 (fun k hk => by first | omega | (have hk := hk; dsimp only at hk; omega))
                refine RP_nil (X_block (X_then (C_region (RL_q rfl (Yd_add rfl rfl (i64w (by omega) (by omega))) (RL_q rfl (Yd_move rfl) (RL_nil (?_)))))))
                refine X_again (⟨k + 1, A56, (bn8_4 + 1), c56⟩) ⟨rfl, rfl, rfl, rfl, rfl, rfl, rfl, trivial⟩ ?_ (by show sps.length - (k + 1) < sps.length - k; omega)
                refine ⟨hLR20, hGhLR20, hO56.fit.cast ?_, hB8, ?_, hL11⟩
                all_goals (try dsimp only)
                all_goals (first | omega | exact take_next' hx)
              · skip
                refine RPl_l rfl (Ld_call Try.func54 rfl (by kernel_rfl) rfl (lrIntK (x := x.pages) hLR20 hGhLR20 ⟨by omega, by omega⟩) ?_)
                rintro e W15 ⟨rfl, hLR20n, hGhLR20n, hk15⟩
                refine ⟨_, rfl, ?_⟩
                refine ⟨hk15.mono (fun k hk => by first | omega | exact hk | (have hk := hk; dsimp only at hk; first | omega | (dsimp only; omega))), ?_⟩
                have hs15 := hk15.size
                replace hE := Ext.kp hE hk15 (fun k hk => by first | omega | (have hk := hk; dsimp only at hk; omega))
                replace h_b := h_b.kp hk15 (fun k hk => by first | omega | (have hk := hk; dsimp only at hk; omega))
                replace hB2 := hB2.kp hk15 (fun hk => by first | omega | (have hk := hk; dsimp only at hk; omega))
                replace hF12_0 := hF12_0.kp hk15 (fun k hk => by first | omega | (have hk := hk; dsimp only at hk; omega))
                replace hb_8_4 := hb_8_4.kp hk15 (fun k hk => by first | omega | (have hk := hk; dsimp only at hk; omega))
                try replace hL11 := hL11.go hk15 (fun k hk => by first | omega | (have hk := hk; dsimp only at hk; dsimp only; omega))
                replace hB8 := hB8.kp hk15 (fun hk => by first | omega | (have hk := hk; dsimp only at hk; omega))
                replace hLR20 := hLR20n
                replace hGhLR20 := hGhLR20n
                refine RP_q rfl rfl (Yd_build Try.bld35 rfl rfl) (?_)
                refine RP_two rfl rfl ?_ ?_
                · skip
                  refine RPl_l rfl (Ld_yd (Yd_load Try.underlying22 rfl rfl (fun W hW => by subst hW; exact (ldB hB8 rfl) _ (Ext.refl _))) ?_)
                  refine ⟨Kp.refl _ _, ?_⟩
                  refine RP_loud rfl (RPl_l rfl (Ld_lit Try.underlying22 rfl (lit_flat Try.underlying22 Try.elt35 rfl rfl ⟨rfl, by decide⟩) ?_))
                  intro W16 he16 hz16 hL55
                  refine ⟨Kp.of_ext he16, ?_⟩
                  replace hE := Ext.trans hE he16
                  replace h_b := h_b.ext he16
                  replace hB2 := hB2.ext he16
                  replace hF12_0 := hF12_0.ext he16
                  replace hb_8_4 := hb_8_4.ext he16
                  replace hL11 := Kp.go hL11 (Kp.of_ext (G := NoB) he16) (fun _ h => h.elim)
                  replace hB8 := hB8.ext he16
                  replace hLR20 := LR.ext hLR20 he16
                  have hO55 := Ow.of_blk (T := tP) (l := [x]) hL55 rfl (n := 1) rfl (by simp [maxLen]) (okc ⟨⟨by (try dsimp only); omega, by (try dsimp only); omega⟩, ⟨by (try dsimp only); omega, by (try dsimp only); omega⟩, ⟨by (try dsimp only); omega, by (try dsimp only); omega⟩⟩ okn)
                  clear hL55
                  refine RP_loud rfl (RPl_l rfl (Ld_apO (T := tP) Try.underlying22 Try.elt35 rfl rfl rfl hb_8_4 hO55.vw (by simp only [maxLen]; omega) (by omega) (by omega) ?_))
                  intro A56 c56 W17 hO56 hk17
                  refine ⟨hk17.mono (fun k hk => by first | omega | exact hk | (have hk := hk; dsimp only at hk; first | omega | (dsimp only; omega))), ?_⟩
                  have hs17 := hk17.size
                  replace hE := Ext.kp hE hk17 (fun k hk => by first | omega | (have hk := hk; dsimp only at hk; omega))
                  replace h_b := h_b.kp hk17 (fun k hk => by first | omega | (have hk := hk; dsimp only at hk; omega))
                  replace hB2 := hB2.kp hk17 (fun hk => by first | omega | (have hk := hk; dsimp only at hk; omega))
                  replace hF12_0 := hF12_0.kp hk17 (fun k hk => by first | omega | (have hk := hk; dsimp only at hk; omega))
                  try replace hL11 := hL11.go hk17 (fun k hk => by first | omega | (have hk := hk; dsimp only at hk; dsimp only; omega))
                  replace hB8 := hB8.kp hk17 (fun hk => by first | omega | (have hk := hk; dsimp only at hk; omega))
                  replace hLR20 := LR.kp hLR20 hk17 (fun hk => by first | omega | (have hk := hk; dsimp only at hk; omega)) (fun k hk => by first | omega | (have hk := hk; dsimp only at hk; omega))
                  replace hO55 := hO55.kp hk17 (fun k hk => by first | omega | (have hk := hk; dsimp only at hk; omega))
                  have hn56 := hO56.ln
                  try simp only [List.length_append, List.length_cons, List.length_nil, List.length_set, List.length_take, List.length_drop, List.length_replicate, List.length_map, Nat.zero_add, Nat.add_zero, oneP_len, le_len, le8s_len, le8_len, ptB_len, ptI_len] at hn56
                  have hc56 := hO56.cap
                  refine RP_q rfl rfl (Yd_fld (off := 1) Try.underlying52 (by kernel_rfl) rfl) (RP_q rfl rfl (Yd_fld (off := 3) Try.underlying24 (by kernel_rfl) rfl) (RP_loud rfl (RPl_l0 (Ld_store (by kernel_rfl) rfl rfl hB8 (Nat.le_of_ble_eq_true rfl) (by simp [cellsL, Value.cells, Value.oneCell']) ?_))))
                  intro W18 hu18 hz18 hB8
                  refine ⟨Kp.of_but hu18 (by first | rfl | omega | (dsimp only; omega)), ?_⟩
                  have hk18 := Kp.ofb hu18
                  have hs18 := hk18.size
                  replace hE := Ext.kp hE hk18 (fun k hk => by first | omega | (have hk := hk; dsimp only at hk; omega))
                  replace h_b := h_b.kp hk18 (fun k hk => by first | omega | (have hk := hk; dsimp only at hk; omega))
                  replace hB2 := hB2.kp hk18 (fun hk => by first | omega | (have hk := hk; dsimp only at hk; omega))
                  replace hF12_0 := hF12_0.kp hk18 (fun k hk => by first | omega | (have hk := hk; dsimp only at hk; omega))
                  try replace hL11 := hL11.go hk18 (fun k hk => by first | omega | (have hk := hk; dsimp only at hk; dsimp only; omega))
                  replace hLR20 := LR.kp hLR20 hk18 (fun hk => by first | omega | (have hk := hk; dsimp only at hk; omega)) (fun k hk => by first | omega | (have hk := hk; dsimp only at hk; omega))
                  replace hO55 := hO55.kp hk18 (fun k hk => by first | omega | (have hk := hk; dsimp only at hk; omega))
                  replace hO56 := hO56.kp hk18 (fun k hk => by first | omega | (have hk := hk; dsimp only at hk; omega))
                  refine RP_nil (X_block (X_then (C_region (RL_q rfl (Yd_add rfl rfl (i64w (by omega) (by omega))) (RL_q rfl (Yd_move rfl) (RL_nil (?_)))))))
                  refine X_again (⟨k + 1, A56, (bn8_4 + 1), c56⟩) ⟨rfl, rfl, rfl, rfl, rfl, rfl, rfl, trivial⟩ ?_ (by show sps.length - (k + 1) < sps.length - k; omega)
                  refine ⟨hLR20, hGhLR20, hO56.fit.cast ?_, hB8, ?_, hL11⟩
                  all_goals (try dsimp only)
                  all_goals (first | omega | exact take_next' hx)
                · skip
                  refine RPl_l rfl (Ld_lit Try.underlying22 rfl (lit_flat Try.underlying22 Try.elt35 rfl rfl ⟨rfl, by decide⟩) ?_)
                  intro W16 he16 hz16 hL55
                  refine ⟨Kp.of_ext he16, ?_⟩
                  replace hE := Ext.trans hE he16
                  replace h_b := h_b.ext he16
                  replace hB2 := hB2.ext he16
                  replace hF12_0 := hF12_0.ext he16
                  replace hb_8_4 := hb_8_4.ext he16
                  replace hL11 := Kp.go hL11 (Kp.of_ext (G := NoB) he16) (fun _ h => h.elim)
                  replace hB8 := hB8.ext he16
                  replace hLR20 := LR.ext hLR20 he16
                  have hO55 := Ow.of_blk (T := tP) (l := [x]) hL55 rfl (n := 1) rfl (by simp [maxLen]) (okc ⟨⟨by (try dsimp only); omega, by (try dsimp only); omega⟩, ⟨by (try dsimp only); omega, by (try dsimp only); omega⟩, ⟨by (try dsimp only); omega, by (try dsimp only); omega⟩⟩ okn)
                  clear hL55
                  refine RP_loud rfl (RPl_l rfl (Ld_yd (Yd_load Try.underlying22 rfl rfl (fun W hW => by subst hW; exact (ldB hB8 rfl) _ (Ext.refl _))) ?_))
                  refine ⟨Kp.refl _ _, ?_⟩
                  refine RP_loud rfl (RPl_l rfl (Ld_apO (T := tP) Try.underlying22 Try.elt35 rfl rfl rfl hb_8_4 hO55.vw (by simp only [maxLen]; omega) (by omega) (by omega) ?_))
                  intro A56 c56 W17 hO56 hk17
                  refine ⟨hk17.mono (fun k hk => by first | omega | exact hk | (have hk := hk; dsimp only at hk; first | omega | (dsimp only; omega))), ?_⟩
                  have hs17 := hk17.size
                  replace hE := Ext.kp hE hk17 (fun k hk => by first | omega | (have hk := hk; dsimp only at hk; omega))
                  replace h_b := h_b.kp hk17 (fun k hk => by first | omega | (have hk := hk; dsimp only at hk; omega))
                  replace hB2 := hB2.kp hk17 (fun hk => by first | omega | (have hk := hk; dsimp only at hk; omega))
                  replace hF12_0 := hF12_0.kp hk17 (fun k hk => by first | omega | (have hk := hk; dsimp only at hk; omega))
                  try replace hL11 := hL11.go hk17 (fun k hk => by first | omega | (have hk := hk; dsimp only at hk; dsimp only; omega))
                  replace hB8 := hB8.kp hk17 (fun hk => by first | omega | (have hk := hk; dsimp only at hk; omega))
                  replace hLR20 := LR.kp hLR20 hk17 (fun hk => by first | omega | (have hk := hk; dsimp only at hk; omega)) (fun k hk => by first | omega | (have hk := hk; dsimp only at hk; omega))
                  replace hO55 := hO55.kp hk17 (fun k hk => by first | omega | (have hk := hk; dsimp only at hk; omega))
                  have hn56 := hO56.ln
                  try simp only [List.length_append, List.length_cons, List.length_nil, List.length_set, List.length_take, List.length_drop, List.length_replicate, List.length_map, Nat.zero_add, Nat.add_zero, oneP_len, le_len, le8s_len, le8_len, ptB_len, ptI_len] at hn56
                  have hc56 := hO56.cap
                  refine RP_q rfl rfl (Yd_fld (off := 1) Try.underlying52 (by kernel_rfl) rfl) (RP_q rfl rfl (Yd_fld (off := 3) Try.underlying24 (by kernel_rfl) rfl) (RP_loud rfl (RPl_l0 (Ld_store (by kernel_rfl) rfl rfl hB8 (Nat.le_of_ble_eq_true rfl) (by simp [cellsL, Value.cells, Value.oneCell']) ?_))))
                  intro W18 hu18 hz18 hB8
                  refine ⟨Kp.of_but hu18 (by first | rfl | omega | (dsimp only; omega)), ?_⟩
                  have hk18 := Kp.ofb hu18
                  have hs18 := hk18.size
                  replace hE := Ext.kp hE hk18 (fun k hk => by first | omega | (have hk := hk; dsimp only at hk; omega))
                  replace h_b := h_b.kp hk18 (fun k hk => by first | omega | (have hk := hk; dsimp only at hk; omega))
                  replace hB2 := hB2.kp hk18 (fun hk => by first | omega | (have hk := hk; dsimp only at hk; omega))
                  replace hF12_0 := hF12_0.kp hk18 (fun k hk => by first | omega | (have hk := hk; dsimp only at hk; omega))
                  try replace hL11 := hL11.go hk18 (fun k hk => by first | omega | (have hk := hk; dsimp only at hk; dsimp only; omega))
                  replace hLR20 := LR.kp hLR20 hk18 (fun hk => by first | omega | (have hk := hk; dsimp only at hk; omega)) (fun k hk => by first | omega | (have hk := hk; dsimp only at hk; omega))
                  replace hO55 := hO55.kp hk18 (fun k hk => by first | omega | (have hk := hk; dsimp only at hk; omega))
                  replace hO56 := hO56.kp hk18 (fun k hk => by first | omega | (have hk := hk; dsimp only at hk; omega))
                  refine RP_nil (X_block (X_then (C_region (RL_q rfl (Yd_add rfl rfl (i64w (by omega) (by omega))) (RL_q rfl (Yd_move rfl) (RL_nil (?_)))))))
                  refine X_again (⟨k + 1, A56, (bn8_4 + 1), c56⟩) ⟨rfl, rfl, rfl, rfl, rfl, rfl, rfl, trivial⟩ ?_ (by show sps.length - (k + 1) < sps.length - k; omega)
                  refine ⟨hLR20, hGhLR20, hO56.fit.cast ?_, hB8, ?_, hL11⟩
                  all_goals (try dsimp only)
                  all_goals (first | omega | exact take_next' hx)
        · skip
          try simp only [decide_eq_true_eq, decide_eq_false_iff_not, Bool.not_eq_true', Bool.not_eq_false', Decidable.not_not, Int.not_lt, Int.not_le, Bool.or_eq_true, Bool.and_eq_true, Bool.or_eq_false_iff, Bool.and_eq_false_iff] at hb44
          refine C_exit (X_thenE (X_thenE (X_blockE (X_then (C_seq (C_seq (C_region (RL_q rfl (Yd_move rfl) (?_)))))))))
          have hE0 : ptB (sps.drop k) = [] := by rw [List.drop_of_length_le (by omega)]; rfl
          rw [hE0] at hLR20 hGhLR20
          have htk : sps.take k = sps := List.take_of_length_le (by omega)
          rw [htk] at hb_8_4
          refine RL_l rfl (Ld_call Try.func55 rfl (by kernel_rfl) rfl (lrEndK hLR20) ?_)
          rintro e W12 ⟨rfl, rfl⟩
          refine ⟨_, rfl, ?_⟩
          refine RL_q rfl (Yd_neq rfl rfl) (RL_q rfl (Yd_move rfl) (RL_gq rfl rfl rfl (Yd_move rfl) (RL_gq rfl rfl rfl (Yd_neq rfl rfl) (RL_q rfl (Yd_pickF rfl rfl) (RL_q rfl (Yd_move rfl) (RL_gq rfl rfl rfl (Yd_loadA Try.underlying52 rfl (by kernel_rfl) rfl (ldBA hB8)) (RL_gl rfl rfl rfl (Ld_call Try.func32 rfl (by kernel_rfl) rfl (sMayV (sep := sep) (sfr := sfr) (sdp := sdp) (ssc := ssc) hb_8_4.vw ⟨by omega, by omega, by omega, by omega, by omega, by omega⟩ ⟨by omega, by omega⟩) ?_))))))))
          rintro e W13 ⟨_, rfl, rfl, he13⟩
          refine ⟨_, rfl, ?_⟩
          replace hE := Ext.trans hE he13
          replace h_b := h_b.ext he13
          replace hB2 := hB2.ext he13
          replace hF12_0 := hF12_0.ext he13
          replace hb_8_4 := hb_8_4.ext he13
          replace hL11 := Kp.go hL11 (Kp.of_ext (G := NoB) he13) (fun _ h => h.elim)
          replace hB8 := hB8.ext he13
          replace hLR20 := LR.ext hLR20 he13
          have hs13 := he13.size
          refine RL_gq rfl rfl rfl (Yd_not rfl) (RL_q rfl (Yd_pickF rfl rfl) (RL_nil (X_then (?_))))
          refine C_no rfl (by simp [hM]) (C_skip (X_then (C_seq (C_region (RL_q rfl (Yd_loadA Try.underlying52 rfl (by kernel_rfl) rfl (ldBA hB8)) (RL_l0 (Ld_store (by kernel_rfl) rfl rfl hB2 (Nat.le_of_ble_eq_true rfl) (by simp [cellsL, Value.cells, Value.oneCell']) ?_)))))))
          intro W14 hu14 hz14 hB2
          have hk14 := Kp.ofb hu14
          have hs14 := hk14.size
          replace hE := Ext.kp hE hk14 (fun k hk => by first | omega | (have hk := hk; dsimp only at hk; omega))
          replace h_b := h_b.kp hk14 (fun k hk => by first | omega | (have hk := hk; dsimp only at hk; omega))
          replace hF12_0 := hF12_0.kp hk14 (fun k hk => by first | omega | (have hk := hk; dsimp only at hk; omega))
          replace hb_8_4 := hb_8_4.kp hk14 (fun k hk => by first | omega | (have hk := hk; dsimp only at hk; omega))
          try replace hL11 := hL11.go hk14 (fun k hk => by first | omega | (have hk := hk; dsimp only at hk; dsimp only; omega))
          replace hB8 := hB8.kp hk14 (fun hk => by first | omega | (have hk := hk; dsimp only at hk; omega))
          replace hLR20 := LR.kp hLR20 hk14 (fun hk => by first | omega | (have hk := hk; dsimp only at hk; omega)) (fun k hk => by first | omega | (have hk := hk; dsimp only at hk; omega))
          refine RL_q rfl (Yd_assign rfl) (RL_nil (X_then (C_ret (X_retCT rfl rfl rfl Try.underlying52 rfl (by kernel_rfl) hB2 ?_))))
          refine ⟨_, _, _, _, _, _, _, _, _, rfl, ?_, hb_8_4.fit.more (by omega) (Nat.le_refl _), hE⟩
          first | exact ⟨rfl, rfl, rfl, rfl, rfl, rfl⟩ | (exfalso; omega)
end Go.Proofs.AL
