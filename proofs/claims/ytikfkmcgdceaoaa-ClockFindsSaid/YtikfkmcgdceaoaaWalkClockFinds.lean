import Derived.Test.YtikfkmcgdceaoaaSpec
set_option linter.unusedVariables false
set_option linter.unusedSimpArgs false
namespace Go.Proofs.AL
open Go.RowKit
theorem ClockFindsV {lo_l B_l : Nat} {A_l : Option Addr} {n_l c_l : Nat} {l : List F} {hand : Int} {w : World}  (h_l : Vw tF w lo_l B_l A_l n_l c_l l) (b_hand : -9223372036854775808 ≤ hand ∧ hand ≤ 9223372036854775807) (hz : n_l * 16 ≤ 140737488351232) :
    Calls Try.prog 9 #[.slice A_l n_l c_l, .int .i64 hand] w fun e w' => ∃ (x0 : Bool), e = .returned (.bool x0) ∧ x0 = (true) ∧ Ext w w' := by
  have hE := Ext.refl w
  replace h_l := h_l.fit
  have hn_l := h_l.ln
  have hc_l := h_l.cap
  have hm_l := h_l.max
  simp only [maxLen] at hm_l
  refine calls_of (l := [.slice A_l n_l c_l, .int .i64 hand]) (N := 105) Try.func9 rfl rfl rfl ?_
  refine C_seq (C_region (RL_q rfl (Yd_assign rfl) (RL_nil (X_then (C_seq (C_region (RL_q rfl (Yd_move rfl) (RL_l rfl (Ld_call Try.func34 rfl (by kernel_rfl) rfl (asV h_l (by omega)) ?_)))))))))
  rintro e W1 ⟨A14, n14, c14, rfl, hF14, he1⟩
  refine ⟨_, rfl, ?_⟩
  replace hE := Ext.trans hE he1
  replace h_l := h_l.ext he1
  have hs1 := he1.size
  have hn14 := hF14.ln
  try simp only [List.length_append, List.length_cons, List.length_nil, List.length_set, List.length_take, List.length_drop, List.length_replicate, List.length_map, Nat.zero_add, Nat.add_zero, turn0_len] at hn14
  have hc14 := hF14.cap
  refine RL_l rfl (Ld_call Try.func33 rfl (by kernel_rfl) rfl (GoodR hF14.vw) ?_)
  rintro e W2 ⟨A15, n15, c15, rfl, hF15, hgl15, he2⟩
  refine ⟨_, rfl, ?_⟩
  replace hE := Ext.trans hE he2
  replace h_l := h_l.ext he2
  replace hF14 := hF14.ext he2
  have hs2 := he2.size
  have hn15 := hF15.ln
  try simp only [List.length_append, List.length_cons, List.length_nil, List.length_set, List.length_take, List.length_drop, List.length_replicate, List.length_map, Nat.zero_add, Nat.add_zero, turn0_len] at hn15
  have hc15 := hF15.cap
  refine RL_l rfl (Ld_call Try.func32 rfl (by kernel_rfl) rfl (ofV hF15.vw (by omega)) ?_)
  rintro e W3 ⟨A16, n16, c16, rfl, hF16, he3⟩
  refine ⟨_, rfl, ?_⟩
  replace hE := Ext.trans hE he3
  replace h_l := h_l.ext he3
  replace hF14 := hF14.ext he3
  replace hF15 := hF15.ext he3
  have hs3 := he3.size
  have hn16 := hF16.ln
  try simp only [List.length_append, List.length_cons, List.length_nil, List.length_set, List.length_take, List.length_drop, List.length_replicate, List.length_map, Nat.zero_add, Nat.add_zero, turn0_len] at hn16
  have hc16 := hF16.cap
  refine RL_q rfl (Yd_assign rfl) (RL_nil (X_then (C_seq (C_region (RL_q rfl (Yd_move rfl) (RL_q rfl (Yd_move rfl) (RL_q rfl (Yd_len Try.underlying56 rfl) (RL_l rfl (Ld_call Try.func15 rfl (by kernel_rfl) rfl (AroundV ⟨by first | omega | (dsimp only; omega), by first | omega | (dsimp only; omega)⟩ ⟨by first | omega | (dsimp only; omega), by first | omega | (dsimp only; omega)⟩) ?_)))))))))
  rintro e W4 ⟨y20, rfl, hy20, hra20, rfl⟩
  refine ⟨_, rfl, ?_⟩
  refine RL_q rfl (Yd_assign rfl) (RL_nil (X_then (C_seq (C_region (RL_q rfl (Yd_move rfl) (RL_q rfl (Yd_move rfl) (RL_l rfl (Ld_call Try.func35 rfl (by kernel_rfl) rfl (TurnZ hF16.vw ⟨by first | omega | (dsimp only; omega), by first | omega | (dsimp only; omega)⟩ (by omega) (by omega) (by omega)) ?_))))))))
  rintro e W5 ⟨y24_0, y24_1, A24_2, n24_2, c24_2, _, rfl, hy24_0, hy24_1, hF24_2, rfl, he5⟩
  refine ⟨_, rfl, ?_⟩
  replace hE := Ext.trans hE he5
  replace h_l := h_l.ext he5
  replace hF14 := hF14.ext he5
  replace hF15 := hF15.ext he5
  replace hF16 := hF16.ext he5
  have hs5 := he5.size
  have hn24_2 := hF24_2.ln
  try simp only [List.length_append, List.length_cons, List.length_nil, List.length_set, List.length_take, List.length_drop, List.length_replicate, List.length_map, Nat.zero_add, Nat.add_zero, turn0_len] at hn24_2
  have hc24_2 := hF24_2.cap
  have hS := turn_spec (h := y20.toNat) (l := goodL l) (by omega) (by omega)
  refine RL_q rfl (Yd_move rfl) (RL_q rfl (Yd_extract rfl rfl) (RL_q rfl (Yd_extract rfl rfl) (RL_q rfl (Yd_extract rfl rfl) (RL_q rfl (Yd_extract rfl rfl) (RL_q rfl (Yd_assign rfl) (RL_q rfl (Yd_assign rfl) (RL_q rfl (Yd_assign rfl) (RL_q rfl (Yd_assign rfl) (RL_nil (X_then (C_seq (C_region (RL_q rfl (Yd_move rfl) (RL_l rfl (Ld_call Try.func34 rfl (by kernel_rfl) rfl (asV hF16.vw (by omega)) ?_)))))))))))))))
  rintro e W6 ⟨A30, n30, c30, rfl, hF30, he6⟩
  refine ⟨_, rfl, ?_⟩
  replace hE := Ext.trans hE he6
  replace h_l := h_l.ext he6
  replace hF14 := hF14.ext he6
  replace hF15 := hF15.ext he6
  replace hF16 := hF16.ext he6
  replace hF24_2 := hF24_2.ext he6
  have hs6 := he6.size
  have hn30 := hF30.ln
  try simp only [List.length_append, List.length_cons, List.length_nil, List.length_set, List.length_take, List.length_drop, List.length_replicate, List.length_map, Nat.zero_add, Nat.add_zero, turn0_len] at hn30
  have hc30 := hF30.cap
  refine RL_l rfl (Ld_call Try.func36 rfl (by kernel_rfl) rfl (refFree hF30.vw (by omega)) ?_)
  rintro e W7 ⟨y31, rfl, hy31, he7⟩
  refine ⟨_, rfl, ?_⟩
  replace hE := Ext.trans hE he7
  replace h_l := h_l.ext he7
  replace hF14 := hF14.ext he7
  replace hF15 := hF15.ext he7
  replace hF16 := hF16.ext he7
  replace hF24_2 := hF24_2.ext he7
  replace hF30 := hF30.ext he7
  have hs7 := he7.size
  refine RL_q rfl (Yd_assign rfl) (RL_nil (X_then (C_seq (C_region (RL_q rfl (Yd_move rfl) (RL_q rfl (Yd_move rfl) (RL_l rfl (Ld_call Try.func37 rfl (by kernel_rfl) rfl (RoundsZ hF16.vw ⟨by first | omega | (dsimp only; omega), by first | omega | (dsimp only; omega)⟩ (by omega) (by omega) (by omega)) ?_))))))))
  rintro e W8 ⟨y34, rfl, hy34, he8⟩
  refine ⟨_, rfl, ?_⟩
  replace hE := Ext.trans hE he8
  replace h_l := h_l.ext he8
  replace hF14 := hF14.ext he8
  replace hF15 := hF15.ext he8
  replace hF16 := hF16.ext he8
  replace hF24_2 := hF24_2.ext he8
  replace hF30 := hF30.ext he8
  have hs8 := he8.size
  refine RL_q rfl (Yd_assign rfl) (RL_nil (X_then (C_seq (C_seq (C_region (RL_q rfl (Yd_move rfl) (RL_q rfl (Yd_move rfl) (RL_q rfl (Yd_gtr rfl rfl) (RL_q rfl (Yd_neqB Try.underlying4 rfl rfl) (RL_q rfl (Yd_move rfl) (?_)))))))))))
  refine RL_is (d := 39) (b' := false) rfl (by rw [hy31]; have h := spec_is hS (by omega); simp [h]) ?_
  refine RL_gq rfl rfl rfl (Yd_move rfl) (RL_gq rfl rfl rfl (Yd_move rfl) (RL_gq rfl rfl rfl (Yd_len Try.underlying56 rfl) (RL_gq rfl rfl rfl (Yd_mul rfl rfl (i64w (by omega) (by omega))) (RL_gq rfl rfl rfl (Yd_gtr rfl rfl) (RL_q rfl (Yd_pickF rfl rfl) (RL_q rfl (Yd_move rfl) (?_)))))))
  refine RL_is (d := 46) (b' := false) rfl (by have h1 := tL_le hS; rw [hy34]; simp; omega) ?_
  refine RL_gq rfl rfl rfl (Yd_move rfl) (RL_gq rfl rfl rfl (Yd_gtr rfl rfl) (RL_gq rfl rfl rfl (Yd_move rfl) (RL_gq rfl rfl rfl (Yd_neqB Try.underlying4 rfl rfl) (RL_q rfl (Yd_pickF rfl rfl) (RL_nil (X_then (?_)))))))
  refine C_no rfl (by rw [hy34]; simp) (C_skip (X_then (C_seq (C_seq (C_region (RL_q rfl (Yd_move rfl) (RL_q rfl (Yd_not rfl) (RL_nil (X_then (?_))))))))))
  refine C_cond rfl (fun hb53 => ?_) (fun hb53 => ?_)
  · skip
    have hneg : ¬ 0 < tL (turn0 y20.toNat (goodL l).length (goodL l)) := by simpa using hb53
    obtain ⟨e1, e2, e3, e4⟩ := spec_no hS hneg
    refine C_seq (C_region (RL_q rfl (Yd_move rfl) (RL_q rfl (Yd_eql rfl rfl) (RL_q rfl (Yd_move rfl) (?_)))))
    refine RL_is (d := 56) (b' := true) rfl (by rw [hy24_0, e1]; rfl) ?_
    refine RL_gq rfl rfl rfl (Yd_move rfl) (RL_gq rfl rfl rfl (Yd_move rfl) (RL_gq rfl rfl rfl (Yd_eql rfl rfl) (RL_q rfl (Yd_pickT rfl rfl) (RL_q rfl (Yd_move rfl) (?_)))))
    refine RL_is (d := 61) (b' := true) rfl (by rw [hy24_1, e2]; simp; omega) ?_
    refine RL_gq rfl rfl rfl (Yd_move rfl) (RL_gl rfl rfl rfl (Ld_call Try.func34 rfl (by kernel_rfl) rfl (asV hF24_2.vw (by omega)) ?_))
    rintro e W9 ⟨A63, n63, c63, rfl, hF63, he9⟩
    refine ⟨_, rfl, ?_⟩
    replace hE := Ext.trans hE he9
    replace h_l := h_l.ext he9
    replace hF14 := hF14.ext he9
    replace hF15 := hF15.ext he9
    replace hF16 := hF16.ext he9
    replace hF24_2 := hF24_2.ext he9
    replace hF30 := hF30.ext he9
    have hs9 := he9.size
    have hn63 := hF63.ln
    try simp only [List.length_append, List.length_cons, List.length_nil, List.length_set, List.length_take, List.length_drop, List.length_replicate, List.length_map, Nat.zero_add, Nat.add_zero, turn0_len] at hn63
    have hc63 := hF63.cap
    refine RL_gq rfl rfl rfl (Yd_move rfl) (RL_gl rfl rfl rfl (Ld_call Try.func34 rfl (by kernel_rfl) rfl (asV hF16.vw (by omega)) ?_))
    rintro e W10 ⟨A65, n65, c65, rfl, hF65, he10⟩
    refine ⟨_, rfl, ?_⟩
    replace hE := Ext.trans hE he10
    replace h_l := h_l.ext he10
    replace hF14 := hF14.ext he10
    replace hF15 := hF15.ext he10
    replace hF16 := hF16.ext he10
    replace hF24_2 := hF24_2.ext he10
    replace hF30 := hF30.ext he10
    replace hF63 := hF63.ext he10
    have hs10 := he10.size
    have hn65 := hF65.ln
    try simp only [List.length_append, List.length_cons, List.length_nil, List.length_set, List.length_take, List.length_drop, List.length_replicate, List.length_map, Nat.zero_add, Nat.add_zero, turn0_len] at hn65
    have hc65 := hF65.cap
    refine RL_gl rfl rfl rfl (Ld_call Try.func38 rfl (by kernel_rfl) rfl (SameV hF63.vw hF65.vw) ?_)
    rintro e W11 ⟨_, rfl, rfl, he11⟩
    refine ⟨_, rfl, ?_⟩
    replace hE := Ext.trans hE he11
    replace h_l := h_l.ext he11
    replace hF14 := hF14.ext he11
    replace hF15 := hF15.ext he11
    replace hF16 := hF16.ext he11
    replace hF24_2 := hF24_2.ext he11
    replace hF30 := hF30.ext he11
    replace hF63 := hF63.ext he11
    replace hF65 := hF65.ext he11
    have hs11 := he11.size
    refine RL_q rfl (Yd_pickT rfl rfl) (RL_q rfl (Yd_move rfl) (?_))
    refine RL_is (d := 68) (b' := true) rfl (by simpa using e3) ?_
    refine RL_gl rfl rfl rfl (Ld_call Try.func39 rfl (by kernel_rfl) rfl (lives13V ) ?_)
    rintro e W12 ⟨_, rfl, rfl, he12⟩
    refine ⟨_, rfl, ?_⟩
    replace hE := Ext.trans hE he12
    replace h_l := h_l.ext he12
    replace hF14 := hF14.ext he12
    replace hF15 := hF15.ext he12
    replace hF16 := hF16.ext he12
    replace hF24_2 := hF24_2.ext he12
    replace hF30 := hF30.ext he12
    replace hF63 := hF63.ext he12
    replace hF65 := hF65.ext he12
    have hs12 := he12.size
    refine RL_q rfl (Yd_pickT rfl rfl) (RL_q rfl (Yd_assign rfl) (RL_nil (X_then (C_ret (X_thenR (X_ret1 rfl rfl ?_))))))
    refine ⟨_, rfl, ?_, hE⟩
    all_goals (first | rfl | omega | simp)
  · skip
    have hpos : 0 < tL (turn0 y20.toNat (goodL l).length (goodL l)) := by simpa using hb53
    obtain ⟨v, hv, hv1, hv2, hv3, hv4, hv5⟩ := spec_yes hS (by omega) hpos
    obtain rfl : y24_0 = (v : Int) := hy24_0.trans hv1
    refine C_skip (X_then (C_seq (C_seq (C_region (RL_q rfl (Yd_move rfl) (RL_q rfl (Yd_lss rfl rfl) (RL_q rfl (Yd_move rfl) (?_))))))))
    apply RL_or (dj := 73) 78 5 rfl
    · intro hb73
      try simp only [decide_eq_true_eq, decide_eq_false_iff_not, Bool.not_eq_true', Bool.not_eq_false', Decidable.not_not, Int.not_lt, Int.not_le, Bool.or_eq_true, Bool.and_eq_true, Bool.or_eq_false_iff, Bool.and_eq_false_iff] at hb73
      refine QL_gq rfl rfl rfl (Yd_move rfl) (QL_gq rfl rfl rfl (Yd_move rfl) (QL_gq rfl rfl rfl (Yd_len Try.underlying56 rfl) (QL_gq rfl rfl rfl (Yd_geq rfl rfl) (QL_q rfl (Yd_pickF rfl rfl) ((QL_nil 5 rfl rfl rfl))))))
    · intro hb73
      try simp only [decide_eq_true_eq, decide_eq_false_iff_not, Bool.not_eq_true', Bool.not_eq_false', Decidable.not_not, Int.not_lt, Int.not_le, Bool.or_eq_true, Bool.and_eq_true, Bool.or_eq_false_iff, Bool.and_eq_false_iff] at hb73
      refine QL_gn rfl rfl rfl rfl (QL_gn rfl rfl rfl rfl (QL_gn rfl rfl rfl rfl (QL_gn rfl rfl rfl rfl (QL_q rfl (Yd_pickT rfl rfl) ((QL_nil 5 rfl rfl rfl))))))
    · skip
      refine RL_nil (X_then (?_))
      refine C_no rfl (by simp; omega) (C_skip (X_then (C_seq (C_region (RL_q rfl (Yd_move rfl) (RL_q rfl (Yd_move rfl) (?_)))))))
      obtain ⟨gA16, rfl, hglA16, hghA16⟩ := Ow.at_ (i := v) hF16 (by omega)
      refine RL_q rfl (Yd_idxL Try.underlying56 (sz := 4) (by kernel_rfl) rfl rfl (by omega) (by omega)) (RL_q rfl (Yd_fld (off := 0) Try.underlying25 (by kernel_rfl) rfl) (?_))
      obtain ⟨x1, hx1, gx1⟩ := Vw.elem (i := v) hF16.vw (by omega)
      replace gx1 : -9223372036854775808 ≤ x1.pins ∧ x1.pins ≤ 9223372036854775807 := gx1
      refine RL_q rfl (Yd_load Try.underlying4 rfl rfl (Vw.lqFL hF16.vw hx1 rfl rfl)) (RL_q rfl (Yd_not rfl) (RL_q rfl (Yd_move rfl) (?_)))
      apply RL_or (dj := 85) 92 7 rfl
      · intro hb85
        try simp only [decide_eq_true_eq, decide_eq_false_iff_not, Bool.not_eq_true', Bool.not_eq_false', Decidable.not_not, Int.not_lt, Int.not_le, Bool.or_eq_true, Bool.and_eq_true, Bool.or_eq_false_iff, Bool.and_eq_false_iff] at hb85
        refine QL_gq rfl rfl rfl (Yd_move rfl) (QL_gq rfl rfl rfl (Yd_move rfl) (QL_gq rfl rfl rfl (Yd_idxL Try.underlying56 (sz := 4) (by kernel_rfl) rfl rfl (by omega) (by omega)) (QL_gq rfl rfl rfl (Yd_fld (off := 3) Try.underlying25 (by kernel_rfl) rfl) (QL_gq rfl rfl rfl (Yd_load Try.underlying3 rfl rfl (Vw.lqFL hF16.vw hx1 rfl rfl)) (QL_gq rfl rfl rfl (Yd_eql rfl rfl) (QL_q rfl (Yd_pickF rfl rfl) ((QL_nil 7 rfl rfl rfl))))))))
      · intro hb85
        try simp only [decide_eq_true_eq, decide_eq_false_iff_not, Bool.not_eq_true', Bool.not_eq_false', Decidable.not_not, Int.not_lt, Int.not_le, Bool.or_eq_true, Bool.and_eq_true, Bool.or_eq_false_iff, Bool.and_eq_false_iff] at hb85
        refine QL_gn rfl rfl rfl rfl (QL_gn rfl rfl rfl rfl (QL_gn rfl rfl rfl rfl (QL_gn rfl rfl rfl rfl (QL_gn rfl rfl rfl rfl (QL_gn rfl rfl rfl rfl (QL_q rfl (Yd_pickT rfl rfl) ((QL_nil 7 rfl rfl rfl))))))))
      · skip
        refine RL_q rfl (Yd_move rfl) (?_)
        apply RL_and (dj := 93) 101 8 rfl
        · intro hb93
          try simp only [decide_eq_true_eq, decide_eq_false_iff_not, Bool.not_eq_true', Bool.not_eq_false', Decidable.not_not, Int.not_lt, Int.not_le, Bool.or_eq_true, Bool.and_eq_true, Bool.or_eq_false_iff, Bool.and_eq_false_iff] at hb93
          refine QL_gq rfl rfl rfl (Yd_move rfl) (QL_gq rfl rfl rfl (Yd_move rfl) (QL_gq rfl rfl rfl (Yd_add rfl rfl (i64w (by omega) (by omega))) (QL_gq rfl rfl rfl (Yd_move rfl) (QL_gq rfl rfl rfl (Yd_len Try.underlying56 rfl) (QL_gq rfl rfl rfl (Yd_rem rfl rfl (by omega) (tmodw (by omega))) (QL_gq rfl rfl rfl (Yd_eql rfl rfl) (QL_q rfl (Yd_pickT rfl rfl) ((QL_nil 8 rfl rfl rfl)))))))))
        · intro hb93
          try simp only [decide_eq_true_eq, decide_eq_false_iff_not, Bool.not_eq_true', Bool.not_eq_false', Decidable.not_not, Int.not_lt, Int.not_le, Bool.or_eq_true, Bool.and_eq_true, Bool.or_eq_false_iff, Bool.and_eq_false_iff] at hb93
          refine QL_gn rfl rfl rfl rfl (QL_gn rfl rfl rfl rfl (QL_gn rfl rfl rfl rfl (QL_gn rfl rfl rfl rfl (QL_gn rfl rfl rfl rfl (QL_gn rfl rfl rfl rfl (QL_gn rfl rfl rfl rfl (QL_q rfl (Yd_pickF rfl rfl) ((QL_nil 8 rfl rfl rfl)))))))))
        · skip
          refine RL_q rfl (Yd_move rfl) (?_)
          refine RL_is (d := 102) (b' := true) rfl (by have h3 := hv3; rw [fat_of hx1] at h3; simp only [fGoes] at h3; rw [h3, hy24_1, hv2, hn16]; simp) ?_
          refine RL_gl rfl rfl rfl (Ld_call Try.func39 rfl (by kernel_rfl) rfl (lives13V ) ?_)
          rintro e W9 ⟨_, rfl, rfl, he9⟩
          refine ⟨_, rfl, ?_⟩
          replace hE := Ext.trans hE he9
          replace h_l := h_l.ext he9
          replace hF14 := hF14.ext he9
          replace hF15 := hF15.ext he9
          replace hF16 := hF16.ext he9
          replace hF24_2 := hF24_2.ext he9
          replace hF30 := hF30.ext he9
          have hs9 := he9.size
          refine RL_q rfl (Yd_pickT rfl rfl) (RL_q rfl (Yd_assign rfl) (RL_nil (X_then (C_ret (X_ret1 rfl rfl ?_)))))
          refine ⟨_, rfl, ?_, hE⟩
          all_goals (first | rfl | omega | simp)
end Go.Proofs.AL
