import Derived.Test.YtkognjdmoibpeaaCell
set_option linter.unusedVariables false
set_option linter.unusedSimpArgs false
namespace Go.Proofs.AL
open Go.RowKit
theorem CrcTurnsV {lo_b B_b : Nat} {A_b : Option Addr} {n_b c_b : Nat} {b : List Int} {at_ : Int} {by_ : Int} {w : World}  (h_b : Vw tU8 w lo_b B_b A_b n_b c_b b) (b_at_ : -9223372036854775808 ≤ at_ ∧ at_ ≤ 9223372036854775807) (b_by_ : 0 ≤ by_ ∧ by_ ≤ 255) :
    Calls Try.prog 8 #[.slice A_b n_b c_b, .int .i64 at_, .int .u8 by_] w fun e w' => ∃ (x0 : Bool), e = .returned (.bool x0) ∧ x0 = (true) ∧ Ext w w' := by
  have hE := Ext.refl w
  replace h_b := h_b.fit
  have hn_b := h_b.ln
  have hc_b := h_b.cap
  have hm_b := h_b.max
  simp only [maxLen] at hm_b
  have h40 := few_le b 40 (by omega)
  refine calls_of (l := [.slice A_b n_b c_b, .int .i64 at_, .int .u8 by_]) (N := 47) Try.func8 rfl rfl rfl ?_
  refine C_seq (C_region (RL_q rfl (Yd_assign rfl) (RL_nil (X_then (C_seq (C_region (RL_q rfl (Yd_move rfl) (RL_l rfl (Ld_call Try.func15 rfl (by kernel_rfl) rfl (FewV h_b ⟨by first | omega | (dsimp only; omega), by first | omega | (dsimp only; omega)⟩) ?_)))))))))
  rintro e W1 ⟨A12, n12, c12, rfl, hF12, hle12, he1⟩
  refine ⟨_, rfl, ?_⟩
  replace hE := Ext.trans hE he1
  replace h_b := h_b.ext he1
  have hs1 := he1.size
  have hn12 := hF12.ln
  try simp only [List.length_append, List.length_cons, List.length_nil, List.length_set, List.length_take, List.length_drop, List.length_replicate, Nat.zero_add, Nat.add_zero, le_len] at hn12
  have hc12 := hF12.cap
  try rw [hle12.2.2.1 (by omega)] at hF12 hn12
  refine RL_l rfl (Ld_call Try.func21 rfl (by kernel_rfl) rfl (PutV hF12.vw (by omega)) ?_)
  rintro e W2 ⟨A13, n13, c13, rfl, hF13, he2⟩
  refine ⟨_, rfl, ?_⟩
  replace hE := Ext.trans hE he2
  replace h_b := h_b.ext he2
  replace hF12 := hF12.ext he2
  have hs2 := he2.size
  have hn13 := hF13.ln
  try simp only [List.length_append, List.length_cons, List.length_nil, List.length_set, List.length_take, List.length_drop, List.length_replicate, Nat.zero_add, Nat.add_zero, le_len] at hn13
  have hc13 := hF13.cap
  refine RL_q rfl (Yd_assign rfl) (RL_nil (X_then (C_seq (C_seq (C_region (RL_q rfl (Yd_move rfl) (RL_q rfl (Yd_len Try.underlying22 rfl) (RL_q rfl (Yd_lss rfl rfl) (RL_nil (X_then (?_)))))))))))
  refine C_no rfl (by simp; omega) (C_skip (X_then (C_seq (C_seq (C_region (RL_q rfl (Yd_move rfl) (RL_q rfl (Yd_eql rfl rfl) (RL_nil (X_then (?_))))))))))
  refine C_cond rfl (fun hb18 => ?_) (fun hb18 => ?_)
  · skip
    try simp only [decide_eq_true_eq, decide_eq_false_iff_not, Bool.not_eq_true', Bool.not_eq_false', Decidable.not_not, Int.not_lt, Int.not_le, Bool.or_eq_true, Bool.and_eq_true, Bool.or_eq_false_iff, Bool.and_eq_false_iff] at hb18
    refine C_region (RL_q rfl (Yd_assign rfl) (RL_nil (X_then (C_seq (C_region (RL_q rfl (Yd_move rfl) (RL_q rfl (Yd_move rfl) (RL_q rfl (Yd_len Try.underlying22 rfl) (RL_l rfl (Ld_call Try.func20 rfl (by kernel_rfl) rfl (AroundV ⟨by first | omega | (dsimp only; omega), by first | omega | (dsimp only; omega)⟩ ⟨by first | omega | (dsimp only; omega), by first | omega | (dsimp only; omega)⟩) ?_))))))))))
    rintro e W3 ⟨y22, rfl, hy22, hra22, rfl⟩
    refine ⟨_, rfl, ?_⟩
    refine RL_q rfl (Yd_assign rfl) (RL_nil (X_then (C_seq (C_region (RL_q rfl (Yd_move rfl) (RL_q rfl (Yd_move rfl) (RL_q rfl (Yd_move rfl) (RL_q rfl (Yd_move rfl) (?_)))))))))
    obtain ⟨gA13, rfl, hglA13, hghA13⟩ := Ow.at_ (i := y22.toNat) hF13 (by omega)
    refine RL_q rfl (Yd_idxL Try.underlying22 (sz := 1) (by kernel_rfl) rfl rfl (by omega) (by omega)) (?_)
    obtain ⟨x1, hx1, gx1⟩ := Vw.elem (i := y22.toNat) hF13.vw (by omega)
    replace gx1 : 0 ≤ x1 ∧ x1 ≤ 255 := gx1
    refine RL_q rfl (Yd_load Try.underlying5 rfl rfl (Vw.lq1L hF13.vw hx1 rfl rfl)) (RL_q rfl (Yd_move rfl) (RL_q rfl (Yd_xor rfl rfl rfl) (?_)))
    have hx30 := turn (a := x1) (y := 1) gx1 ⟨by omega, by omega⟩ (by omega)
    have hT := take_turn (few_byt h_b.byt 40) hx1 hx30.1 hx30.2
    refine RL_q rfl (Yd_idxL Try.underlying22 (sz := 1) (by kernel_rfl) rfl rfl (by omega) (by omega)) (RL_l0 (Ld_putO (T := tU8) (a := (bitsOp .xor .u8 x1 1)) (by kernel_rfl) rfl rfl hF13 (i := y22.toNat) (by omega) rfl rfl (by omega) ⟨by omega, by omega⟩ ?_))
    intro W4 hF13' hu4
    have hk4 := Kp.ofb hu4
    have hs4 := hk4.size
    replace hE := Ext.kp hE hk4 (fun k hk => by first | omega | (have hk := hk; dsimp only at hk; omega))
    replace h_b := h_b.kp hk4 (fun k hk => by first | omega | (have hk := hk; dsimp only at hk; omega))
    replace hF12 := hF12.kp hk4 (fun k hk => by first | omega | (have hk := hk; dsimp only at hk; omega))
    replace hF13 := hF13'
    have hnhF13 := hF13.ln
    refine RL_nil (X_then (C_seq (C_region (RL_q rfl (Yd_move rfl) (RL_l rfl (Ld_call Try.func22 rfl (by kernel_rfl) rfl (TakeV hF13.vw (by omega)) ?_))))))
    rintro e W5 ⟨A34_0, n34_0, c34_0, y34_1, rfl, hF34_0, hy34_1, he5⟩
    refine ⟨_, rfl, ?_⟩
    replace hE := Ext.trans hE he5
    replace h_b := h_b.ext he5
    replace hF12 := hF12.ext he5
    replace hF13 := hF13.ext he5
    have hs5 := he5.size
    have hn34_0 := hF34_0.ln
    try simp only [List.length_append, List.length_cons, List.length_nil, List.length_set, List.length_take, List.length_drop, List.length_replicate, Nat.zero_add, Nat.add_zero, le_len] at hn34_0
    have hc34_0 := hF34_0.cap
    refine RL_q rfl (Yd_move rfl) (RL_q rfl (Yd_extract rfl rfl) (RL_q rfl (Yd_extract rfl rfl) (RL_q rfl (Yd_assign rfl) (RL_q rfl (Yd_assign rfl) (RL_nil (X_then (C_seq (C_region (RL_q rfl (Yd_move rfl) (RL_q rfl (Yd_eql rfl rfl) (RL_q rfl (Yd_move rfl) (?_))))))))))))
    refine RL_is (d := 39) (b' := true) rfl (by rw [hy34_1, hT.1]; rfl) ?_
    refine RL_gq rfl rfl rfl (Yd_move rfl) (RL_gq rfl rfl rfl (Yd_len Try.underlying22 rfl) (RL_gq rfl rfl rfl (Yd_eql rfl rfl) (RL_q rfl (Yd_pickT rfl rfl) (RL_q rfl (Yd_move rfl) (?_)))))
    refine RL_is (d := 44) (b' := true) rfl (by rw [hT.2] at hn34_0; simp at hn34_0 ⊢; omega) ?_
    refine RL_gl rfl rfl rfl (Ld_call Try.func19 rfl (by kernel_rfl) rfl (lives02V ) ?_)
    rintro e W6 ⟨_, rfl, rfl, he6⟩
    refine ⟨_, rfl, ?_⟩
    replace hE := Ext.trans hE he6
    replace h_b := h_b.ext he6
    replace hF12 := hF12.ext he6
    replace hF13 := hF13.ext he6
    replace hF34_0 := hF34_0.ext he6
    have hs6 := he6.size
    refine RL_q rfl (Yd_pickT rfl rfl) (RL_q rfl (Yd_assign rfl) (RL_nil (X_then (C_ret (X_ret1 rfl rfl ?_)))))
    refine ⟨_, rfl, ?_, hE⟩
    all_goals (first | rfl | omega | simp)
  · skip
    try simp only [decide_eq_true_eq, decide_eq_false_iff_not, Bool.not_eq_true', Bool.not_eq_false', Decidable.not_not, Int.not_lt, Int.not_le, Bool.or_eq_true, Bool.and_eq_true, Bool.or_eq_false_iff, Bool.and_eq_false_iff] at hb18
    refine C_skip (X_then (C_seq (C_region (RL_q rfl (Yd_move rfl) (RL_q rfl (Yd_move rfl) (RL_q rfl (Yd_len Try.underlying22 rfl) (RL_l rfl (Ld_call Try.func20 rfl (by kernel_rfl) rfl (AroundV ⟨by first | omega | (dsimp only; omega), by first | omega | (dsimp only; omega)⟩ ⟨by first | omega | (dsimp only; omega), by first | omega | (dsimp only; omega)⟩) ?_))))))))
    rintro e W3 ⟨y22, rfl, hy22, hra22, rfl⟩
    refine ⟨_, rfl, ?_⟩
    refine RL_q rfl (Yd_assign rfl) (RL_nil (X_then (C_seq (C_region (RL_q rfl (Yd_move rfl) (RL_q rfl (Yd_move rfl) (RL_q rfl (Yd_move rfl) (RL_q rfl (Yd_move rfl) (?_)))))))))
    obtain ⟨gA13, rfl, hglA13, hghA13⟩ := Ow.at_ (i := y22.toNat) hF13 (by omega)
    refine RL_q rfl (Yd_idxL Try.underlying22 (sz := 1) (by kernel_rfl) rfl rfl (by omega) (by omega)) (?_)
    obtain ⟨x2, hx2, gx2⟩ := Vw.elem (i := y22.toNat) hF13.vw (by omega)
    replace gx2 : 0 ≤ x2 ∧ x2 ≤ 255 := gx2
    refine RL_q rfl (Yd_load Try.underlying5 rfl rfl (Vw.lq1L hF13.vw hx2 rfl rfl)) (RL_q rfl (Yd_move rfl) (RL_q rfl (Yd_xor rfl rfl rfl) (?_)))
    have hx30 := turn (a := x2) (y := by_) gx2 ⟨by omega, by omega⟩ (by omega)
    have hT := take_turn (few_byt h_b.byt 40) hx2 hx30.1 hx30.2
    refine RL_q rfl (Yd_idxL Try.underlying22 (sz := 1) (by kernel_rfl) rfl rfl (by omega) (by omega)) (RL_l0 (Ld_putO (T := tU8) (a := (bitsOp .xor .u8 x2 by_)) (by kernel_rfl) rfl rfl hF13 (i := y22.toNat) (by omega) rfl rfl (by omega) ⟨by omega, by omega⟩ ?_))
    intro W4 hF13' hu4
    have hk4 := Kp.ofb hu4
    have hs4 := hk4.size
    replace hE := Ext.kp hE hk4 (fun k hk => by first | omega | (have hk := hk; dsimp only at hk; omega))
    replace h_b := h_b.kp hk4 (fun k hk => by first | omega | (have hk := hk; dsimp only at hk; omega))
    replace hF12 := hF12.kp hk4 (fun k hk => by first | omega | (have hk := hk; dsimp only at hk; omega))
    replace hF13 := hF13'
    have hnhF13 := hF13.ln
    refine RL_nil (X_then (C_seq (C_region (RL_q rfl (Yd_move rfl) (RL_l rfl (Ld_call Try.func22 rfl (by kernel_rfl) rfl (TakeV hF13.vw (by omega)) ?_))))))
    rintro e W5 ⟨A34_0, n34_0, c34_0, y34_1, rfl, hF34_0, hy34_1, he5⟩
    refine ⟨_, rfl, ?_⟩
    replace hE := Ext.trans hE he5
    replace h_b := h_b.ext he5
    replace hF12 := hF12.ext he5
    replace hF13 := hF13.ext he5
    have hs5 := he5.size
    have hn34_0 := hF34_0.ln
    try simp only [List.length_append, List.length_cons, List.length_nil, List.length_set, List.length_take, List.length_drop, List.length_replicate, Nat.zero_add, Nat.add_zero, le_len] at hn34_0
    have hc34_0 := hF34_0.cap
    refine RL_q rfl (Yd_move rfl) (RL_q rfl (Yd_extract rfl rfl) (RL_q rfl (Yd_extract rfl rfl) (RL_q rfl (Yd_assign rfl) (RL_q rfl (Yd_assign rfl) (RL_nil (X_then (C_seq (C_region (RL_q rfl (Yd_move rfl) (RL_q rfl (Yd_eql rfl rfl) (RL_q rfl (Yd_move rfl) (?_))))))))))))
    refine RL_is (d := 39) (b' := true) rfl (by rw [hy34_1, hT.1]; rfl) ?_
    refine RL_gq rfl rfl rfl (Yd_move rfl) (RL_gq rfl rfl rfl (Yd_len Try.underlying22 rfl) (RL_gq rfl rfl rfl (Yd_eql rfl rfl) (RL_q rfl (Yd_pickT rfl rfl) (RL_q rfl (Yd_move rfl) (?_)))))
    refine RL_is (d := 44) (b' := true) rfl (by rw [hT.2] at hn34_0; simp at hn34_0 ⊢; omega) ?_
    refine RL_gl rfl rfl rfl (Ld_call Try.func19 rfl (by kernel_rfl) rfl (lives02V ) ?_)
    rintro e W6 ⟨_, rfl, rfl, he6⟩
    refine ⟨_, rfl, ?_⟩
    replace hE := Ext.trans hE he6
    replace h_b := h_b.ext he6
    replace hF12 := hF12.ext he6
    replace hF13 := hF13.ext he6
    replace hF34_0 := hF34_0.ext he6
    have hs6 := he6.size
    refine RL_q rfl (Yd_pickT rfl rfl) (RL_q rfl (Yd_assign rfl) (RL_nil (X_then (C_ret (X_ret1 rfl rfl ?_)))))
    refine ⟨_, rfl, ?_, hE⟩
    all_goals (first | rfl | omega | simp)
end Go.Proofs.AL
