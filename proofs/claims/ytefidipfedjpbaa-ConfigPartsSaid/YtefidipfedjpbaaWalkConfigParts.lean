import Derived.Test.YtefidipfedjpbaaCong
set_option linter.unusedVariables false
set_option linter.unusedSimpArgs false
namespace Go.Proofs.AL
open Go.RowKit
theorem ConfigPartsV {n : Int} {w : World}  (b_n : -9223372036854775808 ≤ n ∧ n ≤ 9223372036854775807) :
    Calls Try.prog 4 #[.int .i64 n] w fun e w' => ∃ (x0 : Bool), e = .returned (.bool x0) ∧ x0 = (true) ∧ Ext w w' := by
  have hE := Ext.refl w
  refine calls_of (l := [.int .i64 n]) (N := 54) Try.func4 rfl rfl rfl ?_
  refine C_seq (C_region (RL_q rfl (Yd_assign rfl) (RL_nil (X_then (C_seq (C_region (RL_q rfl (Yd_move rfl) (RL_l rfl (Ld_call Try.func17 rfl (by kernel_rfl) rfl (AroundV ⟨by first | omega | (dsimp only; omega), by first | omega | (dsimp only; omega)⟩ ⟨by first | omega | (dsimp only; omega), by first | omega | (dsimp only; omega)⟩) ?_)))))))))
  rintro e W1 ⟨y9, rfl, hy9, hra9, rfl⟩
  refine ⟨_, rfl, ?_⟩
  refine RL_q rfl (Yd_assign rfl) (RL_nil (X_then (C_seq (C_region (RL_q rfl (Yd_move rfl) (?_))))))
  obtain ⟨m11, hm11⟩ : ∃ r : Int, (if y9 < 1 then 1 else y9) = r := ⟨_, rfl⟩
  have hmb11 : m11 ≥ y9 ∧ m11 ≥ 1 ∧ (m11 = y9 ∨ m11 = 1) := by rw [← hm11]; split <;> omega
  refine RL_q rfl (Yd_maxw rfl rfl hm11) (RL_q rfl (Yd_build Try.bld24 rfl rfl) (RL_l rfl (Ld_alloc (v := (.agg #[(.int .i64 0), (.int .i64 0), (.int .i64 0), (.slice none 0 0)])) (by kernel_rfl) ?_)))
  have hg_4 := hE.size
  intro W2 he2 hz2 hB4
  replace hE := Ext.trans hE he2
  refine RL_l0 (Ld_store (by kernel_rfl) rfl rfl hB4 (Nat.le_of_ble_eq_true rfl) (by simp [cellsL, Value.cells, Value.oneCell']) ?_)
  intro W3 hu3 hz3 hB4
  have hk3 := Kp.ofb hu3
  have hs3 := hk3.size
  replace hE := Ext.kp hE hk3 (fun k hk => by first | omega | (have hk := hk; dsimp only at hk; omega))
  refine RL_nil (X_then (C_seq (C_seq (C_region (RL_q rfl (Yd_assign rfl) (RL_nil (X_then (C_block (?_)))))))))
  refine C_loop (T := Nat × Option Addr × Nat × Nat) (fun ⟨k, bA4_3, bn4_3, bc4_3⟩ => [(2, .bool false), (3, .int .i64 y9), (4, .pointer (some ⟨w.heap.size, 0, none⟩)), (5, .int .i64 (k : Int))]) (fun ⟨k, bA4_3, bn4_3, bc4_3⟩ lw3 => Ow tP 35 lw3 W3.heap.size lw3.heap.size bA4_3 bn4_3 bc4_3 (oneP k) ∧ Blk lw3 w.heap.size 24 [.int .i64 m11, .int .i64 1, .int .i64 64, .slice bA4_3 bn4_3 bc4_3] ∧ ((k : Int) ≤ y9) ∧ Kp (fun k => k = w.heap.size) W3 lw3) (fun ⟨k, bA4_3, bn4_3, bc4_3⟩ => y9.toNat - k) (⟨0, none, 0, 0⟩) ⟨rfl, rfl, rfl, rfl, trivial⟩ ?_ ?_
  · refine ⟨(Ow.nil (lo := W3.heap.size)).cast ?_, hB4, ?_, Kp.refl _ _⟩
    all_goals (try dsimp only)
    all_goals (first | omega | rfl)
  · rintro ⟨k, bA4_3, bn4_3, bc4_3⟩ lw3 ⟨hb_4_3, hB4, hi3_0, hL3⟩
    replace hE := Ext.kp hE hL3 (fun k hk => by first | omega | (have hk := hk; dsimp only at hk; omega))
    have hsL3 := hL3.size
    have hnhb_4_3 := hb_4_3.ln
    try simp only [List.length_append, List.length_cons, List.length_nil, List.length_set, List.length_take, List.length_drop, List.length_replicate, List.length_map, Nat.zero_add, Nat.add_zero, oneP_len] at hnhb_4_3
    have hchb_4_3 := hb_4_3.cap
    refine C_seq (C_seq (C_region (RL_q rfl (Yd_move rfl) (RL_q rfl (Yd_move rfl) (RL_q rfl (Yd_lss rfl rfl) (RL_nil (X_then (?_))))))))
    refine C_cond rfl (fun hb15 => ?_) (fun hb15 => ?_)
    · skip
      try simp only [decide_eq_true_eq, decide_eq_false_iff_not, Bool.not_eq_true', Bool.not_eq_false', Decidable.not_not, Int.not_lt, Int.not_le, Bool.or_eq_true, Bool.and_eq_true, Bool.or_eq_false_iff, Bool.and_eq_false_iff] at hb15
      refine C_skip (X_then (C_seq (C_block (C_region (RL_q rfl (Yd_fld (off := 3) Try.underlying24 (by kernel_rfl) rfl) (RL_q rfl (Yd_load Try.underlying22 rfl rfl (ldB hB4 rfl)) (RL_q rfl (Yd_move rfl) (RL_q rfl (Yd_mul rfl rfl (i64w (by omega) (by omega))) (RL_q rfl (Yd_build Try.bld35 rfl rfl) (RL_l rfl (Ld_lit Try.underlying22 rfl (lit_flat Try.underlying22 Try.elt35 rfl rfl ⟨rfl, by decide⟩) ?_)))))))))))
      intro W4 he4 hz4 hL23
      replace hE := Ext.trans hE he4
      replace hb_4_3 := hb_4_3.ext he4
      replace hL3 := Kp.go hL3 (Kp.of_ext (G := NoB) he4) (fun _ h => h.elim)
      replace hB4 := hB4.ext he4
      have hO23 := Ow.of_blk (T := tP) (l := [(⟨1, (2 * (k : Int)), 1⟩ : Pt)]) hL23 rfl (n := 1) rfl (by simp [maxLen]) (okc ⟨⟨by dsimp only; omega, by dsimp only; omega⟩, ⟨by dsimp only; omega, by dsimp only; omega⟩, ⟨by dsimp only; omega, by dsimp only; omega⟩⟩ okn)
      clear hL23
      refine RL_l rfl (Ld_apO (T := tP) Try.underlying22 Try.elt35 rfl rfl rfl hb_4_3 hO23.vw (by simp only [maxLen]; omega) (by omega) (by omega) ?_)
      intro A24 c24 W5 hO24 hk5
      have hs5 := hk5.size
      replace hE := Ext.kp hE hk5 (fun k hk => by first | omega | (have hk := hk; dsimp only at hk; omega))
      try replace hL3 := hL3.go hk5 (fun k hk => by first | omega | (have hk := hk; dsimp only at hk; dsimp only; omega))
      replace hB4 := hB4.kp hk5 (fun hk => by first | omega | (have hk := hk; dsimp only at hk; omega))
      replace hO23 := hO23.kp hk5 (fun k hk => by first | omega | (have hk := hk; dsimp only at hk; omega))
      have hn24 := hO24.ln
      try simp only [List.length_append, List.length_cons, List.length_nil, List.length_set, List.length_take, List.length_drop, List.length_replicate, List.length_map, Nat.zero_add, Nat.add_zero, oneP_len] at hn24
      have hc24 := hO24.cap
      refine RL_q rfl (Yd_fld (off := 3) Try.underlying24 (by kernel_rfl) rfl) (RL_l0 (Ld_store (by kernel_rfl) rfl rfl hB4 (Nat.le_of_ble_eq_true rfl) (by simp [cellsL, Value.cells, Value.oneCell']) ?_))
      intro W6 hu6 hz6 hB4
      have hk6 := Kp.ofb hu6
      have hs6 := hk6.size
      replace hE := Ext.kp hE hk6 (fun k hk => by first | omega | (have hk := hk; dsimp only at hk; omega))
      try replace hL3 := hL3.go hk6 (fun k hk => by first | omega | (have hk := hk; dsimp only at hk; dsimp only; omega))
      replace hO23 := hO23.kp hk6 (fun k hk => by first | omega | (have hk := hk; dsimp only at hk; omega))
      replace hO24 := hO24.kp hk6 (fun k hk => by first | omega | (have hk := hk; dsimp only at hk; omega))
      refine RL_nil (X_block (X_then (C_region (RL_q rfl (Yd_move rfl) (RL_q rfl (Yd_add rfl rfl (i64w (by omega) (by omega))) (RL_q rfl (Yd_assign rfl) (RL_nil (?_))))))))
      refine X_again (⟨k + 1, A24, (bn4_3 + 1), c24⟩) ⟨rfl, rfl, rfl, rfl, trivial⟩ ?_ (by show y9.toNat - (k + 1) < y9.toNat - k; omega)
      refine ⟨hO24.fit.cast ?_, hB4, ?_, hL3⟩
      all_goals (try dsimp only)
      all_goals (first | omega | exact oneP_next k)
    · skip
      try simp only [decide_eq_true_eq, decide_eq_false_iff_not, Bool.not_eq_true', Bool.not_eq_false', Decidable.not_not, Int.not_lt, Int.not_le, Bool.or_eq_true, Bool.and_eq_true, Bool.or_eq_false_iff, Bool.and_eq_false_iff] at hb15
      refine C_exit (X_thenE (X_thenE (X_blockE (X_then (C_seq (?_))))))
      have hT := oneP_chk (k := k) (by omega)
      rw [show (k : Int) = y9 by omega, hm11] at hT
      by_cases hk1 : k < 1
      · skip
        refine C_region (RL_q rfl (Yd_loadA Try.underlying24 rfl (by kernel_rfl) rfl (ldBA hB4)) (RL_l rfl (Ld_call Try.func18 rfl (by kernel_rfl) rfl (CheckV hb_4_3.vw ⟨by omega, by omega, by omega, by omega, by omega, by omega⟩) ?_)))
        rintro e W4 ⟨z28_0, y28_1, rfl, ⟨hz28_0, hby28_0⟩, hy28_1, he4⟩
        refine ⟨_, rfl, ?_⟩
        replace hE := Ext.trans hE he4
        replace hb_4_3 := hb_4_3.ext he4
        replace hL3 := Kp.go hL3 (Kp.of_ext (G := NoB) he4) (fun _ h => h.elim)
        replace hB4 := hB4.ext he4
        have hs4 := he4.size
        refine RL_q rfl (Yd_move rfl) (RL_q rfl (Yd_extract rfl rfl) (RL_q rfl (Yd_extract rfl rfl) (RL_q rfl (Yd_assign rfl) (RL_q rfl (Yd_assign rfl) (RL_nil (X_then (C_seq (C_region (RL_q rfl (Yd_loadA Try.underlying24 rfl (by kernel_rfl) rfl (ldBA hB4)) (RL_l rfl (Ld_call Try.func20 rfl (by kernel_rfl) rfl (MayV hb_4_3.vw ⟨by omega, by omega, by omega, by omega, by omega, by omega⟩) ?_)))))))))))
        rintro e W5 ⟨_, rfl, rfl, he5⟩
        refine ⟨_, rfl, ?_⟩
        replace hE := Ext.trans hE he5
        replace hb_4_3 := hb_4_3.ext he5
        replace hL3 := Kp.go hL3 (Kp.of_ext (G := NoB) he5) (fun _ h => h.elim)
        replace hB4 := hB4.ext he5
        have hs5 := he5.size
        refine RL_q rfl (Yd_move rfl) (RL_q rfl (Yd_geq rfl rfl) (RL_q rfl (Yd_move rfl) (?_)))
        refine RL_is (d := 35) (b' := false) rfl (by simp; omega) ?_
        refine RL_gn rfl rfl rfl rfl (RL_gn rfl rfl rfl rfl (RL_q rfl (Yd_pickF rfl rfl) (RL_q rfl (Yd_eqlB Try.underlying4 rfl rfl) (RL_q rfl (Yd_move rfl) (?_)))))
        refine RL_is (d := 40) (b' := true) rfl (by rw [hT]; split <;> simp <;> omega) ?_
        refine RL_gq rfl rfl rfl (Yd_move rfl) (RL_gq rfl rfl rfl (Yd_eqlSB (b := [112, 97, 114, 116, 115]) rfl rfl hby28_0 (by decide)) (RL_gq rfl rfl rfl (Yd_move rfl) (RL_gq rfl rfl rfl (Yd_lss rfl rfl) (RL_gq rfl rfl rfl (Yd_move rfl) (?_)))))
        refine RL_is (d := 45) (b' := true) rfl (by simp; omega) ?_
        refine RL_gn rfl rfl rfl rfl (RL_gn rfl rfl rfl rfl (RL_gq rfl rfl rfl (Yd_pickT rfl rfl) (RL_gq rfl rfl rfl (Yd_eqlB Try.underlying4 rfl rfl) (RL_q rfl (Yd_pickT rfl rfl) (RL_q rfl (Yd_move rfl) (?_))))))
        refine RL_is (d := 51) (b' := true) rfl (by rw [hz28_0, hT]; split <;> simp [cS, codes] <;> omega) ?_
        refine RL_gl rfl rfl rfl (Ld_call Try.func21 rfl (by kernel_rfl) rfl (lives05V ) ?_)
        rintro e W6 ⟨_, rfl, rfl, he6⟩
        refine ⟨_, rfl, ?_⟩
        replace hE := Ext.trans hE he6
        replace hb_4_3 := hb_4_3.ext he6
        replace hL3 := Kp.go hL3 (Kp.of_ext (G := NoB) he6) (fun _ h => h.elim)
        replace hB4 := hB4.ext he6
        have hs6 := he6.size
        refine RL_q rfl (Yd_pickT rfl rfl) (RL_q rfl (Yd_assign rfl) (RL_nil (X_then (C_ret (X_ret1 rfl rfl ?_)))))
        refine ⟨_, rfl, ?_, hE⟩
        all_goals (first | rfl | omega | simp)
      · skip
        refine C_region (RL_q rfl (Yd_loadA Try.underlying24 rfl (by kernel_rfl) rfl (ldBA hB4)) (RL_l rfl (Ld_call Try.func18 rfl (by kernel_rfl) rfl (CheckV hb_4_3.vw ⟨by omega, by omega, by omega, by omega, by omega, by omega⟩) ?_)))
        rintro e W4 ⟨z28_0, y28_1, rfl, ⟨hz28_0, hby28_0⟩, hy28_1, he4⟩
        refine ⟨_, rfl, ?_⟩
        replace hE := Ext.trans hE he4
        replace hb_4_3 := hb_4_3.ext he4
        replace hL3 := Kp.go hL3 (Kp.of_ext (G := NoB) he4) (fun _ h => h.elim)
        replace hB4 := hB4.ext he4
        have hs4 := he4.size
        refine RL_q rfl (Yd_move rfl) (RL_q rfl (Yd_extract rfl rfl) (RL_q rfl (Yd_extract rfl rfl) (RL_q rfl (Yd_assign rfl) (RL_q rfl (Yd_assign rfl) (RL_nil (X_then (C_seq (C_region (RL_q rfl (Yd_loadA Try.underlying24 rfl (by kernel_rfl) rfl (ldBA hB4)) (RL_l rfl (Ld_call Try.func20 rfl (by kernel_rfl) rfl (MayV hb_4_3.vw ⟨by omega, by omega, by omega, by omega, by omega, by omega⟩) ?_)))))))))))
        rintro e W5 ⟨_, rfl, rfl, he5⟩
        refine ⟨_, rfl, ?_⟩
        replace hE := Ext.trans hE he5
        replace hb_4_3 := hb_4_3.ext he5
        replace hL3 := Kp.go hL3 (Kp.of_ext (G := NoB) he5) (fun _ h => h.elim)
        replace hB4 := hB4.ext he5
        have hs5 := he5.size
        refine RL_q rfl (Yd_move rfl) (RL_q rfl (Yd_geq rfl rfl) (RL_q rfl (Yd_move rfl) (?_)))
        refine RL_is (d := 35) (b' := true) rfl (by simp; omega) ?_
        refine RL_gq rfl rfl rfl (Yd_move rfl) (RL_gq rfl rfl rfl (Yd_leq rfl rfl) (RL_q rfl (Yd_pickT rfl rfl) (RL_q rfl (Yd_eqlB Try.underlying4 rfl rfl) (RL_q rfl (Yd_move rfl) (?_)))))
        refine RL_is (d := 40) (b' := true) rfl (by rw [hT]; split <;> simp <;> omega) ?_
        refine RL_gq rfl rfl rfl (Yd_move rfl) (RL_gq rfl rfl rfl (Yd_eqlSB (b := [112, 97, 114, 116, 115]) rfl rfl hby28_0 (by decide)) (RL_gq rfl rfl rfl (Yd_move rfl) (RL_gq rfl rfl rfl (Yd_lss rfl rfl) (RL_gq rfl rfl rfl (Yd_move rfl) (?_)))))
        refine RL_is (d := 45) (b' := false) rfl (by simp; omega) ?_
        refine RL_gq rfl rfl rfl (Yd_move rfl) (RL_gq rfl rfl rfl (Yd_gtr rfl rfl) (RL_gq rfl rfl rfl (Yd_pickF rfl rfl) (RL_gq rfl rfl rfl (Yd_eqlB Try.underlying4 rfl rfl) (RL_q rfl (Yd_pickT rfl rfl) (RL_q rfl (Yd_move rfl) (?_))))))
        refine RL_is (d := 51) (b' := true) rfl (by rw [hz28_0, hT]; split <;> simp [cS, codes] <;> omega) ?_
        refine RL_gl rfl rfl rfl (Ld_call Try.func21 rfl (by kernel_rfl) rfl (lives05V ) ?_)
        rintro e W6 ⟨_, rfl, rfl, he6⟩
        refine ⟨_, rfl, ?_⟩
        replace hE := Ext.trans hE he6
        replace hb_4_3 := hb_4_3.ext he6
        replace hL3 := Kp.go hL3 (Kp.of_ext (G := NoB) he6) (fun _ h => h.elim)
        replace hB4 := hB4.ext he6
        have hs6 := he6.size
        refine RL_q rfl (Yd_pickT rfl rfl) (RL_q rfl (Yd_assign rfl) (RL_nil (X_then (C_ret (X_ret1 rfl rfl ?_)))))
        refine ⟨_, rfl, ?_, hE⟩
        all_goals (first | rfl | omega | simp)
end Go.Proofs.AL
