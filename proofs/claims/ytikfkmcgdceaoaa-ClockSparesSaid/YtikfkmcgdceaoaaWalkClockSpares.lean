import Derived.Test.YtikfkmcgdceaoaaSpec
set_option linter.unusedVariables false
set_option linter.unusedSimpArgs false
namespace Go.Proofs.AL
open Go.RowKit
theorem ClockSparesV {lo_l B_l : Nat} {A_l : Option Addr} {n_l c_l : Nat} {l : List F} {hand : Int} {w : World}  (h_l : Vw tF w lo_l B_l A_l n_l c_l l) (b_hand : -9223372036854775808 ≤ hand ∧ hand ≤ 9223372036854775807) (hz : n_l * 16 ≤ 140737488351232) :
    Calls Try.prog 10 #[.slice A_l n_l c_l, .int .i64 hand] w fun e w' => ∃ (x0 : Bool), e = .returned (.bool x0) ∧ x0 = (true) ∧ Ext w w' := by
  have hE := Ext.refl w
  replace h_l := h_l.fit
  have hn_l := h_l.ln
  have hc_l := h_l.cap
  have hm_l := h_l.max
  simp only [maxLen] at hm_l
  refine calls_of (l := [.slice A_l n_l c_l, .int .i64 hand]) (N := 92) Try.func10 rfl rfl rfl ?_
  refine C_seq (C_region (RL_q rfl (Yd_assign rfl) (RL_nil (X_then (C_seq (C_region (RL_q rfl (Yd_move rfl) (RL_l rfl (Ld_call Try.func34 rfl (by kernel_rfl) rfl (asV h_l (by omega)) ?_)))))))))
  rintro e W1 ⟨A14, n14, c14, rfl, hF14, he1⟩
  refine ⟨_, rfl, ?_⟩
  replace hE := Ext.trans hE he1
  replace h_l := h_l.ext he1
  have hs1 := he1.size
  have hn14 := hF14.ln
  try simp only [List.length_append, List.length_cons, List.length_nil, List.length_set, List.length_take, List.length_drop, List.length_replicate, List.length_map, Nat.zero_add, Nat.add_zero, turn0_len] at hn14
  have hc14 := hF14.cap
  refine RL_l rfl (Ld_call Try.func33 rfl (by kernel_rfl) rfl (GoodR hF14.vw) ?_)
  rintro e W2 ⟨A15, n15, c15, rfl, hF15, hgl15, he2⟩
  refine ⟨_, rfl, ?_⟩
  replace hE := Ext.trans hE he2
  replace h_l := h_l.ext he2
  replace hF14 := hF14.ext he2
  have hs2 := he2.size
  have hn15 := hF15.ln
  try simp only [List.length_append, List.length_cons, List.length_nil, List.length_set, List.length_take, List.length_drop, List.length_replicate, List.length_map, Nat.zero_add, Nat.add_zero, turn0_len] at hn15
  have hc15 := hF15.cap
  refine RL_l rfl (Ld_call Try.func32 rfl (by kernel_rfl) rfl (ofV hF15.vw (by omega)) ?_)
  rintro e W3 ⟨A16, n16, c16, rfl, hF16, he3⟩
  refine ⟨_, rfl, ?_⟩
  replace hE := Ext.trans hE he3
  replace h_l := h_l.ext he3
  replace hF14 := hF14.ext he3
  replace hF15 := hF15.ext he3
  have hs3 := he3.size
  have hn16 := hF16.ln
  try simp only [List.length_append, List.length_cons, List.length_nil, List.length_set, List.length_take, List.length_drop, List.length_replicate, List.length_map, Nat.zero_add, Nat.add_zero, turn0_len] at hn16
  have hc16 := hF16.cap
  refine RL_q rfl (Yd_assign rfl) (RL_nil (X_then (C_seq (C_region (RL_q rfl (Yd_move rfl) (RL_q rfl (Yd_move rfl) (RL_q rfl (Yd_len Try.underlying56 rfl) (RL_l rfl (Ld_call Try.func15 rfl (by kernel_rfl) rfl (AroundV ⟨by first | omega | (dsimp only; omega), by first | omega | (dsimp only; omega)⟩ ⟨by first | omega | (dsimp only; omega), by first | omega | (dsimp only; omega)⟩) ?_)))))))))
  rintro e W4 ⟨y20, rfl, hy20, hra20, rfl⟩
  refine ⟨_, rfl, ?_⟩
  refine RL_q rfl (Yd_assign rfl) (RL_nil (X_then (C_seq (C_region (RL_q rfl (Yd_move rfl) (RL_q rfl (Yd_move rfl) (RL_l rfl (Ld_call Try.func35 rfl (by kernel_rfl) rfl (TurnZ hF16.vw ⟨by first | omega | (dsimp only; omega), by first | omega | (dsimp only; omega)⟩ (by omega) (by omega) (by omega)) ?_))))))))
  rintro e W5 ⟨y24_0, y24_1, A24_2, n24_2, c24_2, _, rfl, hy24_0, hy24_1, hF24_2, rfl, he5⟩
  refine ⟨_, rfl, ?_⟩
  replace hE := Ext.trans hE he5
  replace h_l := h_l.ext he5
  replace hF14 := hF14.ext he5
  replace hF15 := hF15.ext he5
  replace hF16 := hF16.ext he5
  have hs5 := he5.size
  have hn24_2 := hF24_2.ln
  try simp only [List.length_append, List.length_cons, List.length_nil, List.length_set, List.length_take, List.length_drop, List.length_replicate, List.length_map, Nat.zero_add, Nat.add_zero, turn0_len] at hn24_2
  have hc24_2 := hF24_2.cap
  have hS := turn_spec (h := y20.toNat) (l := goodL l) (by omega) (by omega)
  refine RL_q rfl (Yd_move rfl) (RL_q rfl (Yd_extract rfl rfl) (RL_q rfl (Yd_extract rfl rfl) (RL_q rfl (Yd_extract rfl rfl) (RL_q rfl (Yd_extract rfl rfl) (RL_q rfl (Yd_assign rfl) (RL_q rfl (Yd_assign rfl) (RL_q rfl (Yd_assign rfl) (RL_q rfl (Yd_assign rfl) (RL_nil (X_then (C_seq (C_seq (C_region (RL_q rfl (Yd_move rfl) (RL_q rfl (Yd_not rfl) (RL_nil (X_then (?_))))))))))))))))))
  refine C_cond rfl (fun hb30 => ?_) (fun hb30 => ?_)
  · skip
    refine C_seq (C_region (RL_l rfl (Ld_call Try.func39 rfl (by kernel_rfl) rfl (lives13V ) ?_)))
    rintro e W6 ⟨_, rfl, rfl, he6⟩
    refine ⟨_, rfl, ?_⟩
    replace hE := Ext.trans hE he6
    replace h_l := h_l.ext he6
    replace hF14 := hF14.ext he6
    replace hF15 := hF15.ext he6
    replace hF16 := hF16.ext he6
    replace hF24_2 := hF24_2.ext he6
    have hs6 := he6.size
    refine RL_q rfl (Yd_assign rfl) (RL_nil (X_then (C_ret (X_thenR (X_ret1 rfl rfl ?_)))))
    refine ⟨_, rfl, ?_, hE⟩
    all_goals (first | rfl | omega | simp)
  · skip
    have hpos : 0 < tL (turn0 y20.toNat (goodL l).length (goodL l)) := by simpa using hb30
    obtain ⟨v, hv, hv1, hv2, hv3, hv4, hv5⟩ := spec_yes hS (by omega) hpos
    obtain rfl : y24_0 = (v : Int) := hy24_0.trans hv1
    refine C_skip (X_then (C_seq (C_seq (C_region (RL_q rfl (Yd_move rfl) (RL_q rfl (Yd_lss rfl rfl) (RL_q rfl (Yd_move rfl) (?_))))))))
    apply RL_or (dj := 34) 39 5 rfl
    · intro hb34
      try simp only [decide_eq_true_eq, decide_eq_false_iff_not, Bool.not_eq_true', Bool.not_eq_false', Decidable.not_not, Int.not_lt, Int.not_le, Bool.or_eq_true, Bool.and_eq_true, Bool.or_eq_false_iff, Bool.and_eq_false_iff] at hb34
      refine QL_gq rfl rfl rfl (Yd_move rfl) (QL_gq rfl rfl rfl (Yd_move rfl) (QL_gq rfl rfl rfl (Yd_len Try.underlying56 rfl) (QL_gq rfl rfl rfl (Yd_geq rfl rfl) (QL_q rfl (Yd_pickF rfl rfl) ((QL_nil 5 rfl rfl rfl))))))
    · intro hb34
      try simp only [decide_eq_true_eq, decide_eq_false_iff_not, Bool.not_eq_true', Bool.not_eq_false', Decidable.not_not, Int.not_lt, Int.not_le, Bool.or_eq_true, Bool.and_eq_true, Bool.or_eq_false_iff, Bool.and_eq_false_iff] at hb34
      refine QL_gn rfl rfl rfl rfl (QL_gn rfl rfl rfl rfl (QL_gn rfl rfl rfl rfl (QL_gn rfl rfl rfl rfl (QL_q rfl (Yd_pickT rfl rfl) ((QL_nil 5 rfl rfl rfl))))))
    · skip
      refine RL_nil (X_then (?_))
      refine C_no rfl (by simp; omega) (C_skip (X_then (C_seq (C_region (RL_q rfl (Yd_assign rfl) (RL_nil (X_then (C_seq (C_seq (C_region (RL_q rfl (Yd_assign rfl) (RL_nil (X_then (C_block (?_)))))))))))))))
      refine C_loop (T := Nat × Bool) (fun ⟨k, o⟩ => [(4, .bool false), (5, .slice A16 n16 c16), (7, .int .i64 (v : Int)), (11, .bool o), (12, .int .i64 (k : Int))]) (fun ⟨k, o⟩ lw5 => (k ≤ n16) ∧ (o = true → ∃ j, j < (goodL l).length ∧ found (fat (goodL l) j) = true) ∧ Ext W5 lw5) (fun ⟨k, o⟩ => n16 - k) (⟨0, false⟩) ⟨rfl, rfl, rfl, rfl, rfl, trivial⟩ ?_ ?_
      · refine ⟨?_, ?_, Ext.refl _⟩
        all_goals (try dsimp only)
        all_goals (first | omega | (intro h; cases h; done) | exact spare_next ho (by assumption))
      · rintro ⟨k, o⟩ lw5 ⟨hi5_0, ho, hL5⟩
        replace hE := Ext.trans hE hL5
        replace h_l := h_l.ext hL5
        replace hF14 := hF14.ext hL5
        replace hF15 := hF15.ext hL5
        replace hF16 := hF16.ext hL5
        replace hF24_2 := hF24_2.ext hL5
        have hsL5 := hL5.size
        refine C_seq (C_seq (?_))
        refine C_region (RL_q rfl (Yd_move rfl) (RL_q rfl (Yd_move rfl) (RL_q rfl (Yd_len Try.underlying56 rfl) (RL_q rfl (Yd_lss rfl rfl) (RL_nil (X_then (?_)))))))
        refine C_cond rfl (fun hb43 => ?_) (fun hb43 => ?_)
        · skip
          try simp only [decide_eq_true_eq, decide_eq_false_iff_not, Bool.not_eq_true', Bool.not_eq_false', Decidable.not_not, Int.not_lt, Int.not_le, Bool.or_eq_true, Bool.and_eq_true, Bool.or_eq_false_iff, Bool.and_eq_false_iff] at hb43
          refine C_skip (X_then (C_seq (C_block (?_))))
          obtain ⟨gA16, rfl, hglA16, hghA16⟩ := Ow.at_ (i := k) hF16 (by omega)
          obtain ⟨x1, hx1, gx1⟩ := Vw.elem (i := k) hF16.vw (by omega)
          refine C_region (RL_q rfl (Yd_move rfl) (RL_q rfl (Yd_move rfl) (?_)))
          apply RL_or (dj := 47) 54 7 rfl
          · intro hb47
            try simp only [decide_eq_true_eq, decide_eq_false_iff_not, Bool.not_eq_true', Bool.not_eq_false', Decidable.not_not, Int.not_lt, Int.not_le, Bool.or_eq_true, Bool.and_eq_true, Bool.or_eq_false_iff, Bool.and_eq_false_iff] at hb47
            refine QL_gq rfl rfl rfl (Yd_move rfl) (QL_gq rfl rfl rfl (Yd_move rfl) (QL_gq rfl rfl rfl (Yd_idxL Try.underlying56 (sz := 4) (by kernel_rfl) rfl rfl (by omega) (by omega)) (QL_gq rfl rfl rfl (Yd_fld (off := 0) Try.underlying25 (by kernel_rfl) rfl) (QL_gq rfl rfl rfl (Yd_load Try.underlying4 rfl rfl (Vw.lqFL hF16.vw hx1 rfl rfl)) (QL_gq rfl rfl rfl (Yd_not rfl) (QL_q rfl (Yd_pickF rfl rfl) ((QL_nil 7 rfl rfl rfl))))))))
          · intro hb47
            try simp only [decide_eq_true_eq, decide_eq_false_iff_not, Bool.not_eq_true', Bool.not_eq_false', Decidable.not_not, Int.not_lt, Int.not_le, Bool.or_eq_true, Bool.and_eq_true, Bool.or_eq_false_iff, Bool.and_eq_false_iff] at hb47
            refine QL_gn rfl rfl rfl rfl (QL_gn rfl rfl rfl rfl (QL_gn rfl rfl rfl rfl (QL_gn rfl rfl rfl rfl (QL_gn rfl rfl rfl rfl (QL_gn rfl rfl rfl rfl (QL_q rfl (Yd_pickT rfl rfl) ((QL_nil 7 rfl rfl rfl))))))))
          · skip
            refine RL_q rfl (Yd_move rfl) (?_)
            apply RL_or (dj := 55) 70 15 rfl
            · intro hb55
              try simp only [decide_eq_true_eq, decide_eq_false_iff_not, Bool.not_eq_true', Bool.not_eq_false', Decidable.not_not, Int.not_lt, Int.not_le, Bool.or_eq_true, Bool.and_eq_true, Bool.or_eq_false_iff, Bool.and_eq_false_iff] at hb55
              refine QL_gq rfl rfl rfl (Yd_move rfl) (QL_gq rfl rfl rfl (Yd_move rfl) (QL_gq rfl rfl rfl (Yd_idxL Try.underlying56 (sz := 4) (by kernel_rfl) rfl rfl (by omega) (by omega)) (QL_gq rfl rfl rfl (Yd_fld (off := 3) Try.underlying25 (by kernel_rfl) rfl) (QL_gq rfl rfl rfl (Yd_load Try.underlying3 rfl rfl (Vw.lqFL hF16.vw hx1 rfl rfl)) (QL_gq rfl rfl rfl (Yd_eql rfl rfl) (QL_gq rfl rfl rfl (Yd_move rfl) (?_)))))))
              apply QL_and (dj := 62) 69 7 rfl
              · intro hb62
                try simp only [decide_eq_true_eq, decide_eq_false_iff_not, Bool.not_eq_true', Bool.not_eq_false', Decidable.not_not, Int.not_lt, Int.not_le, Bool.or_eq_true, Bool.and_eq_true, Bool.or_eq_false_iff, Bool.and_eq_false_iff] at hb62
                refine QL_gq rfl rfl rfl (Yd_move rfl) (QL_gq rfl rfl rfl (Yd_move rfl) (QL_gq rfl rfl rfl (Yd_idxL Try.underlying56 (sz := 4) (by kernel_rfl) rfl rfl (by omega) (by omega)) (QL_gq rfl rfl rfl (Yd_fld (off := 2) Try.underlying25 (by kernel_rfl) rfl) (QL_gq rfl rfl rfl (Yd_load Try.underlying4 rfl rfl (Vw.lqFL hF16.vw hx1 rfl rfl)) (QL_gq rfl rfl rfl (Yd_not rfl) (QL_gq rfl rfl rfl (Yd_pickT rfl rfl) ((QL_nil 7 rfl rfl rfl))))))))
              · intro hb62
                try simp only [decide_eq_true_eq, decide_eq_false_iff_not, Bool.not_eq_true', Bool.not_eq_false', Decidable.not_not, Int.not_lt, Int.not_le, Bool.or_eq_true, Bool.and_eq_true, Bool.or_eq_false_iff, Bool.and_eq_false_iff] at hb62
                refine QL_gn rfl rfl rfl rfl (QL_gn rfl rfl rfl rfl (QL_gn rfl rfl rfl rfl (QL_gn rfl rfl rfl rfl (QL_gn rfl rfl rfl rfl (QL_gn rfl rfl rfl rfl (QL_gq rfl rfl rfl (Yd_pickF rfl rfl) ((QL_nil 7 rfl rfl rfl))))))))
              · skip
                refine QL_q rfl (Yd_pickF rfl rfl) ((QL_nil 9 rfl rfl rfl))
            · intro hb55
              try simp only [decide_eq_true_eq, decide_eq_false_iff_not, Bool.not_eq_true', Bool.not_eq_false', Decidable.not_not, Int.not_lt, Int.not_le, Bool.or_eq_true, Bool.and_eq_true, Bool.or_eq_false_iff, Bool.and_eq_false_iff] at hb55
              refine QL_gn rfl rfl rfl rfl (QL_gn rfl rfl rfl rfl (QL_gn rfl rfl rfl rfl (QL_gn rfl rfl rfl rfl (QL_gn rfl rfl rfl rfl (QL_gn rfl rfl rfl rfl (QL_gn rfl rfl rfl rfl (QL_gu rfl rfl rfl (QL_gu rfl rfl rfl (QL_gu rfl rfl rfl (QL_gu rfl rfl rfl (QL_gu rfl rfl rfl (QL_gu rfl rfl rfl (QL_gn rfl rfl rfl rfl (QL_q rfl (Yd_pickT rfl rfl) ((QL_nil 15 rfl rfl rfl))))))))))))))))
            · skip
              refine RL_q rfl (Yd_assign rfl) (RL_nil (X_block (X_then (C_region (RL_q rfl (Yd_move rfl) (RL_q rfl (Yd_add rfl rfl (i64w (by omega) (by omega))) (RL_q rfl (Yd_assign rfl) (RL_nil (?_)))))))))
              refine X_again (⟨k + 1, ((o || !x1.used) || (decide (x1.pins = 0) && !x1.ref))⟩) ⟨rfl, rfl, rfl, rfl, rfl, trivial⟩ ?_ (by show n16 - (k + 1) < n16 - k; omega)
              refine ⟨?_, ?_, hL5⟩
              all_goals (try dsimp only)
              all_goals (first | omega | (intro h; cases h; done) | exact spare_next ho (by assumption))
        · skip
          try simp only [decide_eq_true_eq, decide_eq_false_iff_not, Bool.not_eq_true', Bool.not_eq_false', Decidable.not_not, Int.not_lt, Int.not_le, Bool.or_eq_true, Bool.and_eq_true, Bool.or_eq_false_iff, Bool.and_eq_false_iff] at hb43
          refine C_exit (X_thenE (X_thenE (X_blockE (X_then (C_seq (?_))))))
          obtain ⟨gA16, rfl, hglA16, hghA16⟩ := Ow.at_ (i := v) hF16 (by omega)
          obtain ⟨x2, hx2, gx2⟩ := Vw.elem (i := v) hF16.vw (by omega)
          refine C_region (RL_q rfl (Yd_move rfl) (RL_q rfl (Yd_not rfl) (RL_q rfl (Yd_move rfl) (?_))))
          apply RL_or (dj := 73) 80 7 rfl
          · intro hb73
            try simp only [decide_eq_true_eq, decide_eq_false_iff_not, Bool.not_eq_true', Bool.not_eq_false', Decidable.not_not, Int.not_lt, Int.not_le, Bool.or_eq_true, Bool.and_eq_true, Bool.or_eq_false_iff, Bool.and_eq_false_iff] at hb73
            refine QL_gq rfl rfl rfl (Yd_move rfl) (QL_gq rfl rfl rfl (Yd_move rfl) (QL_gq rfl rfl rfl (Yd_idxL Try.underlying56 (sz := 4) (by kernel_rfl) rfl rfl (by omega) (by omega)) (QL_gq rfl rfl rfl (Yd_fld (off := 0) Try.underlying25 (by kernel_rfl) rfl) (QL_gq rfl rfl rfl (Yd_load Try.underlying4 rfl rfl (Vw.lqFL hF16.vw hx2 rfl rfl)) (QL_gq rfl rfl rfl (Yd_not rfl) (QL_q rfl (Yd_pickF rfl rfl) ((QL_nil 7 rfl rfl rfl))))))))
          · intro hb73
            try simp only [decide_eq_true_eq, decide_eq_false_iff_not, Bool.not_eq_true', Bool.not_eq_false', Decidable.not_not, Int.not_lt, Int.not_le, Bool.or_eq_true, Bool.and_eq_true, Bool.or_eq_false_iff, Bool.and_eq_false_iff] at hb73
            refine QL_gn rfl rfl rfl rfl (QL_gn rfl rfl rfl rfl (QL_gn rfl rfl rfl rfl (QL_gn rfl rfl rfl rfl (QL_gn rfl rfl rfl rfl (QL_gn rfl rfl rfl rfl (QL_q rfl (Yd_pickT rfl rfl) ((QL_nil 7 rfl rfl rfl))))))))
          · skip
            refine RL_q rfl (Yd_move rfl) (?_)
            apply RL_or (dj := 81) 88 7 rfl
            · intro hb81
              try simp only [decide_eq_true_eq, decide_eq_false_iff_not, Bool.not_eq_true', Bool.not_eq_false', Decidable.not_not, Int.not_lt, Int.not_le, Bool.or_eq_true, Bool.and_eq_true, Bool.or_eq_false_iff, Bool.and_eq_false_iff] at hb81
              refine QL_gq rfl rfl rfl (Yd_move rfl) (QL_gq rfl rfl rfl (Yd_move rfl) (QL_gq rfl rfl rfl (Yd_idxL Try.underlying56 (sz := 4) (by kernel_rfl) rfl rfl (by omega) (by omega)) (QL_gq rfl rfl rfl (Yd_fld (off := 2) Try.underlying25 (by kernel_rfl) rfl) (QL_gq rfl rfl rfl (Yd_load Try.underlying4 rfl rfl (Vw.lqFL hF16.vw hx2 rfl rfl)) (QL_gq rfl rfl rfl (Yd_not rfl) (QL_q rfl (Yd_pickF rfl rfl) ((QL_nil 7 rfl rfl rfl))))))))
            · intro hb81
              try simp only [decide_eq_true_eq, decide_eq_false_iff_not, Bool.not_eq_true', Bool.not_eq_false', Decidable.not_not, Int.not_lt, Int.not_le, Bool.or_eq_true, Bool.and_eq_true, Bool.or_eq_false_iff, Bool.and_eq_false_iff] at hb81
              refine QL_gn rfl rfl rfl rfl (QL_gn rfl rfl rfl rfl (QL_gn rfl rfl rfl rfl (QL_gn rfl rfl rfl rfl (QL_gn rfl rfl rfl rfl (QL_gn rfl rfl rfl rfl (QL_q rfl (Yd_pickT rfl rfl) ((QL_nil 7 rfl rfl rfl))))))))
            · skip
              refine RL_q rfl (Yd_move rfl) (?_)
              refine RL_is (d := 89) (b' := true) rfl (spare_end hn16.symm ho (by rw [hn16] at hv4; exact hv4) hx2) ?_
              refine RL_gl rfl rfl rfl (Ld_call Try.func39 rfl (by kernel_rfl) rfl (lives13V ) ?_)
              rintro e W6 ⟨_, rfl, rfl, he6⟩
              refine ⟨_, rfl, ?_⟩
              replace hE := Ext.trans hE he6
              replace h_l := h_l.ext he6
              replace hF14 := hF14.ext he6
              replace hF15 := hF15.ext he6
              replace hF16 := hF16.ext he6
              replace hF24_2 := hF24_2.ext he6
              replace hL5 := Ext.trans hL5 he6
              have hs6 := he6.size
              refine RL_q rfl (Yd_pickT rfl rfl) (RL_q rfl (Yd_assign rfl) (RL_nil (X_then (C_ret (X_ret1 rfl rfl ?_)))))
              refine ⟨_, rfl, ?_, hE⟩
              all_goals (first | rfl | omega | simp)
end Go.Proofs.AL
