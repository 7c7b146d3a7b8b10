import Derived.Test.YtikfkmcgdceaoaaSpec
set_option linter.unusedVariables false
set_option linter.unusedSimpArgs false
namespace Go.Proofs.AL
open Go.RowKit
theorem ClockTouchesV {lo_l B_l : Nat} {A_l : Option Addr} {n_l c_l : Nat} {l : List F} {hand : Int} {w : World}  (h_l : Vw tF w lo_l B_l A_l n_l c_l l) (b_hand : -9223372036854775808 ≤ hand ∧ hand ≤ 9223372036854775807) (hz : n_l * 16 ≤ 140737488351232) :
    Calls Try.prog 11 #[.slice A_l n_l c_l, .int .i64 hand] w fun e w' => ∃ (x0 : Bool), e = .returned (.bool x0) ∧ x0 = (true) ∧ Ext w w' := by
  have hE := Ext.refl w
  replace h_l := h_l.fit
  have hn_l := h_l.ln
  have hc_l := h_l.cap
  have hm_l := h_l.max
  simp only [maxLen] at hm_l
  refine calls_of (l := [.slice A_l n_l c_l, .int .i64 hand]) (N := 81) Try.func11 rfl rfl rfl ?_
  refine C_seq (C_region (RL_q rfl (Yd_assign rfl) (RL_nil (X_then (C_seq (C_region (RL_q rfl (Yd_move rfl) (RL_l rfl (Ld_call Try.func34 rfl (by kernel_rfl) rfl (asV h_l (by omega)) ?_)))))))))
  rintro e W1 ⟨A14, n14, c14, rfl, hF14, he1⟩
  refine ⟨_, rfl, ?_⟩
  replace hE := Ext.trans hE he1
  replace h_l := h_l.ext he1
  have hs1 := he1.size
  have hn14 := hF14.ln
  try simp only [List.length_append, List.length_cons, List.length_nil, List.length_set, List.length_take, List.length_drop, List.length_replicate, List.length_map, Nat.zero_add, Nat.add_zero, turn0_len] at hn14
  have hc14 := hF14.cap
  refine RL_l rfl (Ld_call Try.func33 rfl (by kernel_rfl) rfl (GoodR hF14.vw) ?_)
  rintro e W2 ⟨A15, n15, c15, rfl, hF15, hgl15, he2⟩
  refine ⟨_, rfl, ?_⟩
  replace hE := Ext.trans hE he2
  replace h_l := h_l.ext he2
  replace hF14 := hF14.ext he2
  have hs2 := he2.size
  have hn15 := hF15.ln
  try simp only [List.length_append, List.length_cons, List.length_nil, List.length_set, List.length_take, List.length_drop, List.length_replicate, List.length_map, Nat.zero_add, Nat.add_zero, turn0_len] at hn15
  have hc15 := hF15.cap
  refine RL_l rfl (Ld_call Try.func32 rfl (by kernel_rfl) rfl (ofV hF15.vw (by omega)) ?_)
  rintro e W3 ⟨A16, n16, c16, rfl, hF16, he3⟩
  refine ⟨_, rfl, ?_⟩
  replace hE := Ext.trans hE he3
  replace h_l := h_l.ext he3
  replace hF14 := hF14.ext he3
  replace hF15 := hF15.ext he3
  have hs3 := he3.size
  have hn16 := hF16.ln
  try simp only [List.length_append, List.length_cons, List.length_nil, List.length_set, List.length_take, List.length_drop, List.length_replicate, List.length_map, Nat.zero_add, Nat.add_zero, turn0_len] at hn16
  have hc16 := hF16.cap
  refine RL_q rfl (Yd_assign rfl) (RL_nil (X_then (C_seq (C_region (RL_q rfl (Yd_move rfl) (RL_q rfl (Yd_move rfl) (RL_q rfl (Yd_len Try.underlying56 rfl) (RL_l rfl (Ld_call Try.func15 rfl (by kernel_rfl) rfl (AroundV ⟨by first | omega | (dsimp only; omega), by first | omega | (dsimp only; omega)⟩ ⟨by first | omega | (dsimp only; omega), by first | omega | (dsimp only; omega)⟩) ?_)))))))))
  rintro e W4 ⟨y20, rfl, hy20, hra20, rfl⟩
  refine ⟨_, rfl, ?_⟩
  refine RL_q rfl (Yd_assign rfl) (RL_nil (X_then (C_seq (C_region (RL_q rfl (Yd_move rfl) (RL_q rfl (Yd_move rfl) (RL_l rfl (Ld_call Try.func35 rfl (by kernel_rfl) rfl (TurnZ hF16.vw ⟨by first | omega | (dsimp only; omega), by first | omega | (dsimp only; omega)⟩ (by omega) (by omega) (by omega)) ?_))))))))
  rintro e W5 ⟨y24_0, y24_1, A24_2, n24_2, c24_2, _, rfl, hy24_0, hy24_1, hF24_2, rfl, he5⟩
  refine ⟨_, rfl, ?_⟩
  replace hE := Ext.trans hE he5
  replace h_l := h_l.ext he5
  replace hF14 := hF14.ext he5
  replace hF15 := hF15.ext he5
  replace hF16 := hF16.ext he5
  have hs5 := he5.size
  have hn24_2 := hF24_2.ln
  try simp only [List.length_append, List.length_cons, List.length_nil, List.length_set, List.length_take, List.length_drop, List.length_replicate, List.length_map, Nat.zero_add, Nat.add_zero, turn0_len] at hn24_2
  have hc24_2 := hF24_2.cap
  have hS := turn_spec (h := y20.toNat) (l := goodL l) (by omega) (by omega)
  refine RL_q rfl (Yd_move rfl) (RL_q rfl (Yd_extract rfl rfl) (RL_q rfl (Yd_extract rfl rfl) (RL_q rfl (Yd_extract rfl rfl) (RL_q rfl (Yd_extract rfl rfl) (RL_q rfl (Yd_assign rfl) (RL_q rfl (Yd_assign rfl) (RL_q rfl (Yd_assign rfl) (RL_q rfl (Yd_assign rfl) (RL_nil (X_then (C_seq (C_seq (C_region (RL_q rfl (Yd_move rfl) (RL_q rfl (Yd_len Try.underlying56 rfl) (RL_q rfl (Yd_move rfl) (RL_q rfl (Yd_len Try.underlying56 rfl) (RL_q rfl (Yd_neq rfl rfl) (RL_nil (X_then (?_)))))))))))))))))))))
  refine C_no rfl (by simp; omega) (C_skip (X_then (C_seq (C_seq (C_region (RL_q rfl (Yd_assign rfl) (RL_nil (X_then (C_block (?_))))))))))
  refine C_loop (T := Nat) (fun k => [(5, .slice A16 n16 c16), (9, .slice A24_2 n24_2 c24_2), (11, .int .i64 (k : Int))]) (fun k lw5 => (k ≤ n16) ∧ Ext W5 lw5) (fun k => n16 - k) (0) ⟨rfl, rfl, rfl, trivial⟩ ?_ ?_
  · refine ⟨?_, Ext.refl _⟩
    all_goals (try dsimp only)
    all_goals (omega)
  · rintro k lw5 ⟨hi5_0, hL5⟩
    replace hE := Ext.trans hE hL5
    replace h_l := h_l.ext hL5
    replace hF14 := hF14.ext hL5
    replace hF15 := hF15.ext hL5
    replace hF16 := hF16.ext hL5
    replace hF24_2 := hF24_2.ext hL5
    have hsL5 := hL5.size
    refine C_seq (C_seq (C_region (RL_q rfl (Yd_move rfl) (RL_q rfl (Yd_move rfl) (RL_q rfl (Yd_len Try.underlying56 rfl) (RL_q rfl (Yd_lss rfl rfl) (RL_nil (X_then (?_)))))))))
    refine C_cond rfl (fun hb37 => ?_) (fun hb37 => ?_)
    · skip
      try simp only [decide_eq_true_eq, decide_eq_false_iff_not, Bool.not_eq_true', Bool.not_eq_false', Decidable.not_not, Int.not_lt, Int.not_le, Bool.or_eq_true, Bool.and_eq_true, Bool.or_eq_false_iff, Bool.and_eq_false_iff] at hb37
      refine C_skip (X_then (C_seq (C_block (C_seq (C_region (RL_q rfl (Yd_move rfl) (RL_q rfl (Yd_move rfl) (?_))))))))
      obtain ⟨gA24_2, rfl, hglA24_2, hghA24_2⟩ := Ow.at_ (i := k) hF24_2 (by omega)
      refine RL_q rfl (Yd_idxL Try.underlying56 (sz := 4) (by kernel_rfl) rfl rfl (by omega) (by omega)) (?_)
      obtain ⟨x1, hx1, gx1⟩ := Vw.elem (i := k) hF24_2.vw (by omega)
      replace gx1 : -9223372036854775808 ≤ x1.pins ∧ x1.pins ≤ 9223372036854775807 := gx1
      refine RL_q rfl (Yd_loadA (cs := [.bool x1.used, .bool x1.dirty, .bool x1.ref, .int .i64 x1.pins]) Try.underlying25 rfl (by kernel_rfl) rfl (Vw.lqAL hF24_2.vw hx1 rfl rfl)) (RL_l rfl (Ld_alloc (v := (.agg #[(.bool false), (.bool false), (.bool false), (.int .i64 0)])) (by kernel_rfl) ?_))
      have hg_12 := hE.size
      intro W6 he6 hz6 hB12
      replace hE := Ext.trans hE he6
      replace h_l := h_l.ext he6
      replace hF14 := hF14.ext he6
      replace hF15 := hF15.ext he6
      replace hF16 := hF16.ext he6
      replace hF24_2 := hF24_2.ext he6
      replace hL5 := Ext.trans hL5 he6
      refine RL_l0 (Ld_store (by kernel_rfl) rfl rfl hB12 (Nat.le_of_ble_eq_true rfl) (by simp [cellsL, Value.cells, Value.oneCell']) ?_)
      intro W7 hu7 hz7 hB12
      have hk7 := Kp.ofb hu7
      have hs7 := hk7.size
      replace hE := Ext.kp hE hk7 (fun k hk => by first | omega | (have hk := hk; dsimp only at hk; omega))
      replace h_l := h_l.kp hk7 (fun k hk => by first | omega | (have hk := hk; dsimp only at hk; omega))
      replace hF14 := hF14.kp hk7 (fun k hk => by first | omega | (have hk := hk; dsimp only at hk; omega))
      replace hF15 := hF15.kp hk7 (fun k hk => by first | omega | (have hk := hk; dsimp only at hk; omega))
      replace hF16 := hF16.kp hk7 (fun k hk => by first | omega | (have hk := hk; dsimp only at hk; omega))
      replace hF24_2 := hF24_2.kp hk7 (fun k hk => by first | omega | (have hk := hk; dsimp only at hk; omega))
      try replace hL5 := Ext.kp hL5 hk7 (fun k hk => by first | omega | (have hk := hk; dsimp only at hk; omega))
      refine RL_nil (X_then (C_seq (C_seq (?_))))
      refine C_regionD (NoB) (l := [(0, true), (1, true), (2, true), (3, true), (4, true), (5, true), (6, true), (7, true), (8, true), (9, true), (10, true), (11, true), (12, true), (13, true)]) (by kernel_rfl) (by kernel_rfl) rfl (by kernel_rfl) (fun _ _ d _ _ h => by cases d <;> exact h) ?_
      intro W8 he8 hh8
      replace hE := Ext.trans hE he8
      replace h_l := h_l.ext he8
      replace hF14 := hF14.ext he8
      replace hF15 := hF15.ext he8
      replace hF16 := hF16.ext he8
      replace hF24_2 := hF24_2.ext he8
      replace hL5 := Ext.trans hL5 he8
      replace hB12 := hB12.ext he8
      have hs8 := he8.size
      refine RO_q rfl rfl (Yd_move rfl) (RO_q rfl rfl (Yd_move rfl) (?_))
      obtain ⟨gA16, rfl, hglA16, hghA16⟩ := Ow.at_ (i := k) hF16 (by omega)
      refine RO_q rfl rfl (Yd_idxL Try.underlying56 (sz := 4) (by kernel_rfl) rfl rfl (by omega) (by omega)) (RO_q rfl rfl (Yd_fld (off := 3) Try.underlying25 (by kernel_rfl) rfl) (?_))
      obtain ⟨x2, hx2, gx2⟩ := Vw.elem (i := k) hF16.vw (by omega)
      replace gx2 : -9223372036854775808 ≤ x2.pins ∧ x2.pins ≤ 9223372036854775807 := gx2
      refine RO_q rfl rfl (Yd_load Try.underlying3 rfl rfl (fun W hW => (Vw.lqFL hF16.vw hx2 rfl rfl) W hW.ext)) (?_)
      have hx12 : x1 = x2 ∨ x1 = clr x2 := by have h2 := hS.2.1 k; rw [fat_of hx1, fat_of hx2] at h2; exact h2
      refine RO_q rfl rfl (Yd_gtr rfl rfl) (RO_q rfl rfl (Yd_move rfl) (?_))
      refine RO_case (d := 50) rfl (fun hb50 => ?_) (fun hb50 => ?_)
      · skip
        try simp only [decide_eq_true_eq, decide_eq_false_iff_not, Bool.not_eq_true', Bool.not_eq_false', Decidable.not_not, Int.not_lt, Int.not_le, Bool.or_eq_true, Bool.and_eq_true, Bool.or_eq_false_iff, Bool.and_eq_false_iff] at hb50
        refine RO_gq rfl rfl rfl rfl (Yd_loadA Try.underlying25 rfl (by kernel_rfl) rfl (fun W hW => (ldBA hB12) W hW.ext)) (RO_gq rfl rfl rfl rfl (Yd_move rfl) (RO_gq rfl rfl rfl rfl (Yd_move rfl) (RO_gq rfl rfl rfl rfl (Yd_idxL Try.underlying56 (sz := 4) (by kernel_rfl) rfl rfl (by omega) (by omega)) (RO_gq rfl rfl rfl rfl (Yd_loadA (cs := [.bool x2.used, .bool x2.dirty, .bool x2.ref, .int .i64 x2.pins]) Try.underlying25 rfl (by kernel_rfl) rfl (fun W hW => (Vw.lqAL hF16.vw hx2 rfl rfl) W hW.ext)) (RO_gq rfl rfl rfl rfl (Yd_neqA Try.underlying25 (by kernel_rfl) (by kernel_rfl) (tb := [(false, 0, 1), (false, 1, 1), (false, 2, 1), (false, 3, 0)]) (by kernel_rfl) rfl rfl rfl (F_eq (⟨x1.used, x1.dirty, x1.ref, x1.pins⟩ : F) (⟨x2.used, x2.dirty, x2.ref, x2.pins⟩ : F))) (RO_q rfl rfl (Yd_pickT rfl rfl) (RO_nil (X_then (?_)))))))))
        refine C_cond rfl (fun hb57 => ?_) (fun hb57 => ?_)
        · skip
          try simp only [decide_eq_true_eq, decide_eq_false_iff_not, Bool.not_eq_true', Bool.not_eq_false', Decidable.not_not, Int.not_lt, Int.not_le, Bool.or_eq_true, Bool.and_eq_true, Bool.or_eq_false_iff, Bool.and_eq_false_iff] at hb57
          refine C_seq (C_region (RL_q rfl (Yd_assign rfl) (RL_nil (X_then (C_ret (X_thenR (X_blockR (X_thenR (X_thenR (X_blockR (X_thenR (X_ret1 rfl rfl ?_))))))))))))
          refine ⟨_, rfl, ?_, hE⟩
          all_goals (first | rfl | omega | exact absurd (touch1 hx12 hb50) hb57 | (have h5 := touch2 hx12 hb67.1; rw [h5] at hb67; cases hb67.2; done) | exact absurd (touch3 hx12) hb79)
        · skip
          try simp only [decide_eq_true_eq, decide_eq_false_iff_not, Bool.not_eq_true', Bool.not_eq_false', Decidable.not_not, Int.not_lt, Int.not_le, Bool.or_eq_true, Bool.and_eq_true, Bool.or_eq_false_iff, Bool.and_eq_false_iff] at hb57
          refine C_skip (X_then (C_seq (C_seq (C_region (RL_q rfl (Yd_fld (off := 2) Try.underlying25 (by kernel_rfl) rfl) (RL_q rfl (Yd_load Try.underlying4 rfl rfl (ldB hB12 rfl)) (RL_q rfl (Yd_move rfl) (?_))))))))
          apply RL_and (dj := 60) 67 7 rfl
          · intro hb60
            try simp only [decide_eq_true_eq, decide_eq_false_iff_not, Bool.not_eq_true', Bool.not_eq_false', Decidable.not_not, Int.not_lt, Int.not_le, Bool.or_eq_true, Bool.and_eq_true, Bool.or_eq_false_iff, Bool.and_eq_false_iff] at hb60
            refine QL_gq rfl rfl rfl (Yd_move rfl) (QL_gq rfl rfl rfl (Yd_move rfl) (QL_gq rfl rfl rfl (Yd_idxL Try.underlying56 (sz := 4) (by kernel_rfl) rfl rfl (by omega) (by omega)) (QL_gq rfl rfl rfl (Yd_fld (off := 2) Try.underlying25 (by kernel_rfl) rfl) (QL_gq rfl rfl rfl (Yd_load Try.underlying4 rfl rfl (Vw.lqFL hF16.vw hx2 rfl rfl)) (QL_gq rfl rfl rfl (Yd_not rfl) (QL_q rfl (Yd_pickT rfl rfl) ((QL_nil 7 rfl rfl rfl))))))))
          · intro hb60
            try simp only [decide_eq_true_eq, decide_eq_false_iff_not, Bool.not_eq_true', Bool.not_eq_false', Decidable.not_not, Int.not_lt, Int.not_le, Bool.or_eq_true, Bool.and_eq_true, Bool.or_eq_false_iff, Bool.and_eq_false_iff] at hb60
            refine QL_gn rfl rfl rfl rfl (QL_gn rfl rfl rfl rfl (QL_gn rfl rfl rfl rfl (QL_gn rfl rfl rfl rfl (QL_gn rfl rfl rfl rfl (QL_gn rfl rfl rfl rfl (QL_q rfl (Yd_pickF rfl rfl) ((QL_nil 7 rfl rfl rfl))))))))
          · skip
            refine RL_nil (X_then (?_))
            refine C_cond rfl (fun hb67 => ?_) (fun hb67 => ?_)
            · skip
              try simp only [decide_eq_true_eq, decide_eq_false_iff_not, Bool.not_eq_true', Bool.not_eq_false', Decidable.not_not, Int.not_lt, Int.not_le, Bool.or_eq_true, Bool.and_eq_true, Bool.or_eq_false_iff, Bool.and_eq_false_iff] at hb67
              refine C_seq (C_region (RL_q rfl (Yd_assign rfl) (RL_nil (X_then (C_ret (X_thenR (X_blockR (X_thenR (X_thenR (X_blockR (X_thenR (X_ret1 rfl rfl ?_))))))))))))
              refine ⟨_, rfl, ?_, hE⟩
              all_goals (first | rfl | omega | exact absurd (touch1 hx12 hb50) hb57 | (have h5 := touch2 hx12 hb67.1; rw [h5] at hb67; cases hb67.2; done) | exact absurd (touch3 hx12) hb79)
            · skip
              try simp only [decide_eq_true_eq, decide_eq_false_iff_not, Bool.not_eq_true', Bool.not_eq_false', Decidable.not_not, Int.not_lt, Int.not_le, Bool.or_eq_true, Bool.and_eq_true, Bool.or_eq_false_iff, Bool.and_eq_false_iff] at hb67
              refine C_skip (X_then (C_seq (C_region (RL_q rfl (Yd_move rfl) (RL_q rfl (Yd_move rfl) (RL_q rfl (Yd_idxL Try.underlying56 (sz := 4) (by kernel_rfl) rfl rfl (by omega) (by omega)) (RL_q rfl (Yd_fld (off := 2) Try.underlying25 (by kernel_rfl) rfl) (RL_q rfl (Yd_load Try.underlying4 rfl rfl (Vw.lqFL hF16.vw hx2 rfl rfl)) (RL_q rfl (Yd_fld (off := 2) Try.underlying25 (by kernel_rfl) rfl) (RL_l0 (Ld_store (by kernel_rfl) rfl rfl hB12 (Nat.le_of_ble_eq_true rfl) (by simp [cellsL, Value.cells, Value.oneCell']) ?_)))))))))))
              intro W9 hu9 hz9 hB12
              have hk9 := Kp.ofb hu9
              have hs9 := hk9.size
              replace hE := Ext.kp hE hk9 (fun k hk => by first | omega | (have hk := hk; dsimp only at hk; omega))
              replace h_l := h_l.kp hk9 (fun k hk => by first | omega | (have hk := hk; dsimp only at hk; omega))
              replace hF14 := hF14.kp hk9 (fun k hk => by first | omega | (have hk := hk; dsimp only at hk; omega))
              replace hF15 := hF15.kp hk9 (fun k hk => by first | omega | (have hk := hk; dsimp only at hk; omega))
              replace hF16 := hF16.kp hk9 (fun k hk => by first | omega | (have hk := hk; dsimp only at hk; omega))
              replace hF24_2 := hF24_2.kp hk9 (fun k hk => by first | omega | (have hk := hk; dsimp only at hk; omega))
              try replace hL5 := Ext.kp hL5 hk9 (fun k hk => by first | omega | (have hk := hk; dsimp only at hk; omega))
              refine RL_nil (X_then (C_seq (?_)))
              refine C_regionD (NoB) (l := [(0, true), (1, true), (2, true), (3, true), (4, true), (5, true)]) (by kernel_rfl) (by kernel_rfl) rfl (by kernel_rfl) (fun _ _ d _ _ h => by cases d <;> exact h) ?_
              intro W10 he10 hh10
              replace hE := Ext.trans hE he10
              replace h_l := h_l.ext he10
              replace hF14 := hF14.ext he10
              replace hF15 := hF15.ext he10
              replace hF16 := hF16.ext he10
              replace hF24_2 := hF24_2.ext he10
              replace hL5 := Ext.trans hL5 he10
              replace hB12 := hB12.ext he10
              have hs10 := he10.size
              refine RO_q rfl rfl (Yd_loadA Try.underlying25 rfl (by kernel_rfl) rfl (fun W hW => (ldBA hB12) W hW.ext)) (RO_q rfl rfl (Yd_move rfl) (RO_q rfl rfl (Yd_move rfl) (RO_q rfl rfl (Yd_idxL Try.underlying56 (sz := 4) (by kernel_rfl) rfl rfl (by omega) (by omega)) (RO_q rfl rfl (Yd_loadA (cs := [.bool x2.used, .bool x2.dirty, .bool x2.ref, .int .i64 x2.pins]) Try.underlying25 rfl (by kernel_rfl) rfl (fun W hW => (Vw.lqAL hF16.vw hx2 rfl rfl) W hW.ext)) (RO_q rfl rfl (Yd_neqA Try.underlying25 (by kernel_rfl) (by kernel_rfl) (tb := [(false, 0, 1), (false, 1, 1), (false, 2, 1), (false, 3, 0)]) (by kernel_rfl) rfl rfl rfl (F_eq (⟨x1.used, x1.dirty, x2.ref, x1.pins⟩ : F) (⟨x2.used, x2.dirty, x2.ref, x2.pins⟩ : F))) (RO_nil (X_then (?_))))))))
              refine C_cond rfl (fun hb79 => ?_) (fun hb79 => ?_)
              · skip
                try simp only [decide_eq_true_eq, decide_eq_false_iff_not, Bool.not_eq_true', Bool.not_eq_false', Decidable.not_not, Int.not_lt, Int.not_le, Bool.or_eq_true, Bool.and_eq_true, Bool.or_eq_false_iff, Bool.and_eq_false_iff] at hb79
                refine C_seq (C_region (RL_q rfl (Yd_assign rfl) (RL_nil (X_then (C_ret (X_blockR (X_thenR (X_thenR (X_blockR (X_thenR (X_ret1 rfl rfl ?_)))))))))))
                refine ⟨_, rfl, ?_, hE⟩
                all_goals (first | rfl | omega | exact absurd (touch1 hx12 hb50) hb57 | (have h5 := touch2 hx12 hb67.1; rw [h5] at hb67; cases hb67.2; done) | exact absurd (touch3 hx12) hb79)
              · skip
                try simp only [decide_eq_true_eq, decide_eq_false_iff_not, Bool.not_eq_true', Bool.not_eq_false', Decidable.not_not, Int.not_lt, Int.not_le, Bool.or_eq_true, Bool.and_eq_true, Bool.or_eq_false_iff, Bool.and_eq_false_iff] at hb79
                refine C_skip (X_block (X_then (C_region (RL_q rfl (Yd_move rfl) (RL_q rfl (Yd_add rfl rfl (i64w (by omega) (by omega))) (RL_q rfl (Yd_assign rfl) (RL_nil (?_))))))))
                refine X_again (k + 1) ⟨rfl, rfl, rfl, trivial⟩ ?_ (by show n16 - (k + 1) < n16 - k; omega)
                refine ⟨?_, hL5⟩
                all_goals (try dsimp only)
                all_goals (omega)
      · skip
        try simp only [decide_eq_true_eq, decide_eq_false_iff_not, Bool.not_eq_true', Bool.not_eq_false', Decidable.not_not, Int.not_lt, Int.not_le, Bool.or_eq_true, Bool.and_eq_true, Bool.or_eq_false_iff, Bool.and_eq_false_iff] at hb50
        refine RO_gn rfl rfl rfl rfl rfl (RO_gn rfl rfl rfl rfl rfl (RO_gn rfl rfl rfl rfl rfl (RO_gn rfl rfl rfl rfl rfl (RO_gn rfl rfl rfl rfl rfl (RO_gn rfl rfl rfl rfl rfl (RO_q rfl rfl (Yd_pickF rfl rfl) (RO_nil (X_then (C_no rfl rfl (C_skip (X_then (C_seq (C_seq (C_region (RL_q rfl (Yd_fld (off := 2) Try.underlying25 (by kernel_rfl) rfl) (RL_q rfl (Yd_load Try.underlying4 rfl rfl (ldB hB12 rfl)) (RL_q rfl (Yd_move rfl) (?_))))))))))))))))))
        apply RL_and (dj := 60) 67 7 rfl
        · intro hb60
          try simp only [decide_eq_true_eq, decide_eq_false_iff_not, Bool.not_eq_true', Bool.not_eq_false', Decidable.not_not, Int.not_lt, Int.not_le, Bool.or_eq_true, Bool.and_eq_true, Bool.or_eq_false_iff, Bool.and_eq_false_iff] at hb60
          refine QL_gq rfl rfl rfl (Yd_move rfl) (QL_gq rfl rfl rfl (Yd_move rfl) (QL_gq rfl rfl rfl (Yd_idxL Try.underlying56 (sz := 4) (by kernel_rfl) rfl rfl (by omega) (by omega)) (QL_gq rfl rfl rfl (Yd_fld (off := 2) Try.underlying25 (by kernel_rfl) rfl) (QL_gq rfl rfl rfl (Yd_load Try.underlying4 rfl rfl (Vw.lqFL hF16.vw hx2 rfl rfl)) (QL_gq rfl rfl rfl (Yd_not rfl) (QL_q rfl (Yd_pickT rfl rfl) ((QL_nil 7 rfl rfl rfl))))))))
        · intro hb60
          try simp only [decide_eq_true_eq, decide_eq_false_iff_not, Bool.not_eq_true', Bool.not_eq_false', Decidable.not_not, Int.not_lt, Int.not_le, Bool.or_eq_true, Bool.and_eq_true, Bool.or_eq_false_iff, Bool.and_eq_false_iff] at hb60
          refine QL_gn rfl rfl rfl rfl (QL_gn rfl rfl rfl rfl (QL_gn rfl rfl rfl rfl (QL_gn rfl rfl rfl rfl (QL_gn rfl rfl rfl rfl (QL_gn rfl rfl rfl rfl (QL_q rfl (Yd_pickF rfl rfl) ((QL_nil 7 rfl rfl rfl))))))))
        · skip
          refine RL_nil (X_then (?_))
          refine C_cond rfl (fun hb67 => ?_) (fun hb67 => ?_)
          · skip
            try simp only [decide_eq_true_eq, decide_eq_false_iff_not, Bool.not_eq_true', Bool.not_eq_false', Decidable.not_not, Int.not_lt, Int.not_le, Bool.or_eq_true, Bool.and_eq_true, Bool.or_eq_false_iff, Bool.and_eq_false_iff] at hb67
            refine C_seq (C_region (RL_q rfl (Yd_assign rfl) (RL_nil (X_then (C_ret (X_thenR (X_blockR (X_thenR (X_thenR (X_blockR (X_thenR (X_ret1 rfl rfl ?_))))))))))))
            refine ⟨_, rfl, ?_, hE⟩
            all_goals (first | rfl | omega | exact absurd (touch1 hx12 hb50) hb57 | (have h5 := touch2 hx12 hb67.1; rw [h5] at hb67; cases hb67.2; done) | exact absurd (touch3 hx12) hb79)
          · skip
            try simp only [decide_eq_true_eq, decide_eq_false_iff_not, Bool.not_eq_true', Bool.not_eq_false', Decidable.not_not, Int.not_lt, Int.not_le, Bool.or_eq_true, Bool.and_eq_true, Bool.or_eq_false_iff, Bool.and_eq_false_iff] at hb67
            refine C_skip (X_then (C_seq (C_region (RL_q rfl (Yd_move rfl) (RL_q rfl (Yd_move rfl) (RL_q rfl (Yd_idxL Try.underlying56 (sz := 4) (by kernel_rfl) rfl rfl (by omega) (by omega)) (RL_q rfl (Yd_fld (off := 2) Try.underlying25 (by kernel_rfl) rfl) (RL_q rfl (Yd_load Try.underlying4 rfl rfl (Vw.lqFL hF16.vw hx2 rfl rfl)) (RL_q rfl (Yd_fld (off := 2) Try.underlying25 (by kernel_rfl) rfl) (RL_l0 (Ld_store (by kernel_rfl) rfl rfl hB12 (Nat.le_of_ble_eq_true rfl) (by simp [cellsL, Value.cells, Value.oneCell']) ?_)))))))))))
            intro W9 hu9 hz9 hB12
            have hk9 := Kp.ofb hu9
            have hs9 := hk9.size
            replace hE := Ext.kp hE hk9 (fun k hk => by first | omega | (have hk := hk; dsimp only at hk; omega))
            replace h_l := h_l.kp hk9 (fun k hk => by first | omega | (have hk := hk; dsimp only at hk; omega))
            replace hF14 := hF14.kp hk9 (fun k hk => by first | omega | (have hk := hk; dsimp only at hk; omega))
            replace hF15 := hF15.kp hk9 (fun k hk => by first | omega | (have hk := hk; dsimp only at hk; omega))
            replace hF16 := hF16.kp hk9 (fun k hk => by first | omega | (have hk := hk; dsimp only at hk; omega))
            replace hF24_2 := hF24_2.kp hk9 (fun k hk => by first | omega | (have hk := hk; dsimp only at hk; omega))
            try replace hL5 := Ext.kp hL5 hk9 (fun k hk => by first | omega | (have hk := hk; dsimp only at hk; omega))
            refine RL_nil (X_then (C_seq (?_)))
            refine C_regionD (NoB) (l := [(0, true), (1, true), (2, true), (3, true), (4, true), (5, true)]) (by kernel_rfl) (by kernel_rfl) rfl (by kernel_rfl) (fun _ _ d _ _ h => by cases d <;> exact h) ?_
            intro W10 he10 hh10
            replace hE := Ext.trans hE he10
            replace h_l := h_l.ext he10
            replace hF14 := hF14.ext he10
            replace hF15 := hF15.ext he10
            replace hF16 := hF16.ext he10
            replace hF24_2 := hF24_2.ext he10
            replace hL5 := Ext.trans hL5 he10
            replace hB12 := hB12.ext he10
            have hs10 := he10.size
            refine RO_q rfl rfl (Yd_loadA Try.underlying25 rfl (by kernel_rfl) rfl (fun W hW => (ldBA hB12) W hW.ext)) (RO_q rfl rfl (Yd_move rfl) (RO_q rfl rfl (Yd_move rfl) (RO_q rfl rfl (Yd_idxL Try.underlying56 (sz := 4) (by kernel_rfl) rfl rfl (by omega) (by omega)) (RO_q rfl rfl (Yd_loadA (cs := [.bool x2.used, .bool x2.dirty, .bool x2.ref, .int .i64 x2.pins]) Try.underlying25 rfl (by kernel_rfl) rfl (fun W hW => (Vw.lqAL hF16.vw hx2 rfl rfl) W hW.ext)) (RO_q rfl rfl (Yd_neqA Try.underlying25 (by kernel_rfl) (by kernel_rfl) (tb := [(false, 0, 1), (false, 1, 1), (false, 2, 1), (false, 3, 0)]) (by kernel_rfl) rfl rfl rfl (F_eq (⟨x1.used, x1.dirty, x2.ref, x1.pins⟩ : F) (⟨x2.used, x2.dirty, x2.ref, x2.pins⟩ : F))) (RO_nil (X_then (?_))))))))
            refine C_cond rfl (fun hb79 => ?_) (fun hb79 => ?_)
            · skip
              try simp only [decide_eq_true_eq, decide_eq_false_iff_not, Bool.not_eq_true', Bool.not_eq_false', Decidable.not_not, Int.not_lt, Int.not_le, Bool.or_eq_true, Bool.and_eq_true, Bool.or_eq_false_iff, Bool.and_eq_false_iff] at hb79
              refine C_seq (C_region (RL_q rfl (Yd_assign rfl) (RL_nil (X_then (C_ret (X_blockR (X_thenR (X_thenR (X_blockR (X_thenR (X_ret1 rfl rfl ?_)))))))))))
              refine ⟨_, rfl, ?_, hE⟩
              all_goals (first | rfl | omega | exact absurd (touch1 hx12 hb50) hb57 | (have h5 := touch2 hx12 hb67.1; rw [h5] at hb67; cases hb67.2; done) | exact absurd (touch3 hx12) hb79)
            · skip
              try simp only [decide_eq_true_eq, decide_eq_false_iff_not, Bool.not_eq_true', Bool.not_eq_false', Decidable.not_not, Int.not_lt, Int.not_le, Bool.or_eq_true, Bool.and_eq_true, Bool.or_eq_false_iff, Bool.and_eq_false_iff] at hb79
              refine C_skip (X_block (X_then (C_region (RL_q rfl (Yd_move rfl) (RL_q rfl (Yd_add rfl rfl (i64w (by omega) (by omega))) (RL_q rfl (Yd_assign rfl) (RL_nil (?_))))))))
              refine X_again (k + 1) ⟨rfl, rfl, rfl, trivial⟩ ?_ (by show n16 - (k + 1) < n16 - k; omega)
              refine ⟨?_, hL5⟩
              all_goals (try dsimp only)
              all_goals (omega)
    · skip
      try simp only [decide_eq_true_eq, decide_eq_false_iff_not, Bool.not_eq_true', Bool.not_eq_false', Decidable.not_not, Int.not_lt, Int.not_le, Bool.or_eq_true, Bool.and_eq_true, Bool.or_eq_false_iff, Bool.and_eq_false_iff] at hb37
      refine C_exit (X_thenE (X_thenE (X_blockE (X_then (C_seq (C_region (RL_l rfl (Ld_call Try.func39 rfl (by kernel_rfl) rfl (lives13V ) ?_))))))))
      rintro e W6 ⟨_, rfl, rfl, he6⟩
      refine ⟨_, rfl, ?_⟩
      replace hE := Ext.trans hE he6
      replace h_l := h_l.ext he6
      replace hF14 := hF14.ext he6
      replace hF15 := hF15.ext he6
      replace hF16 := hF16.ext he6
      replace hF24_2 := hF24_2.ext he6
      replace hL5 := Ext.trans hL5 he6
      have hs6 := he6.size
      refine RL_q rfl (Yd_assign rfl) (RL_nil (X_then (C_ret (X_ret1 rfl rfl ?_))))
      refine ⟨_, rfl, ?_, hE⟩
      all_goals (first | rfl | omega | exact absurd (touch1 hx12 hb50) hb57 | (have h5 := touch2 hx12 hb67.1; rw [h5] at hb67; cases hb67.2; done) | exact absurd (touch3 hx12) hb79)
end Go.Proofs.AL
