import Derived.Test.YtkognjdmoibpeaaCel
set_option linter.unusedVariables false
set_option linter.unusedSimpArgs false
namespace Go.Proofs.AL
open Go.RowKit
theorem CellSealsV {lo_b B_b : Nat} {A_b : Option Addr} {n_b c_b : Nat} {b : List Int} {w : World}  (h_b : Vw tU8 w lo_b B_b A_b n_b c_b b) :
    Calls Try.prog 13 #[.slice A_b n_b c_b] w fun e w' => ∃ (x0 : Bool), e = .returned (.bool x0) ∧ x0 = (true) ∧ Ext w w' := by
  have hE := Ext.refl w
  replace h_b := h_b.fit
  have hn_b := h_b.ln
  have hc_b := h_b.cap
  have hm_b := h_b.max
  simp only [maxLen] at hm_b
  refine calls_of (l := [.slice A_b n_b c_b]) (N := 88) Try.func13 rfl rfl rfl ?_
  refine C_seq (?_)
  by_cases hb : (few b 20).length = 16
  · skip
    refine C_region (RL_q rfl (Yd_assign rfl) (RL_nil (X_then (C_seq (C_region (RL_q rfl (Yd_move rfl) (RL_l rfl (Ld_call Try.func15 rfl (by kernel_rfl) rfl (FewV h_b ⟨by first | omega | (dsimp only; omega), by first | omega | (dsimp only; omega)⟩) ?_))))))))
    rintro e W1 ⟨A12, n12, c12, rfl, hF12, hle12, he1⟩
    refine ⟨_, rfl, ?_⟩
    replace hE := Ext.trans hE he1
    replace h_b := h_b.ext he1
    have hs1 := he1.size
    have hn12 := hF12.ln
    try simp only [List.length_append, List.length_cons, List.length_nil, List.length_set, List.length_take, List.length_drop, List.length_replicate, Nat.zero_add, Nat.add_zero, le_len] at hn12
    have hc12 := hF12.cap
    try rw [hle12.2.2.1 (by omega)] at hF12 hn12
    refine RL_q rfl (Yd_assign rfl) (RL_nil (X_then (C_seq (C_region (RL_q rfl (Yd_move rfl) (RL_l rfl (Ld_call Try.func25 rfl (by kernel_rfl) rfl (FillV h_b ⟨by first | omega | (dsimp only; omega), by first | omega | (dsimp only; omega)⟩) ?_)))))))
    rintro e W2 ⟨A14, n14, c14, rfl, hF14, hfl14, he2⟩
    refine ⟨_, rfl, ?_⟩
    replace hE := Ext.trans hE he2
    replace h_b := h_b.ext he2
    replace hF12 := hF12.ext he2
    have hs2 := he2.size
    have hn14 := hF14.ln
    try simp only [List.length_append, List.length_cons, List.length_nil, List.length_set, List.length_take, List.length_drop, List.length_replicate, Nat.zero_add, Nat.add_zero, le_len] at hn14
    have hc14 := hF14.cap
    refine RL_q rfl (Yd_assign rfl) (RL_nil (X_then (C_seq (C_region (RL_q rfl (Yd_move rfl) (RL_l rfl (Ld_call Try.func35 rfl (by kernel_rfl) rfl (SealV hF14.vw) ?_)))))))
    rintro e W3 ⟨A17_0, n17_0, c17_0, y17_1, rfl, hF17_0, hy17_1, he3⟩
    refine ⟨_, rfl, ?_⟩
    replace hE := Ext.trans hE he3
    replace h_b := h_b.ext he3
    replace hF12 := hF12.ext he3
    replace hF14 := hF14.ext he3
    have hs3 := he3.size
    have hn17_0 := hF17_0.ln
    try simp only [List.length_append, List.length_cons, List.length_nil, List.length_set, List.length_take, List.length_drop, List.length_replicate, Nat.zero_add, Nat.add_zero, le_len] at hn17_0
    have hc17_0 := hF17_0.cap
    have hO := open_seal (b := fill b (16 : Int).toNat) (by omega)
    refine RL_q rfl (Yd_move rfl) (RL_q rfl (Yd_extract rfl rfl) (RL_q rfl (Yd_extract rfl rfl) (RL_q rfl (Yd_assign rfl) (RL_q rfl (Yd_assign rfl) (RL_nil (X_then (C_seq (C_region (RL_q rfl (Yd_move rfl) (RL_l rfl (Ld_call Try.func33 rfl (by kernel_rfl) rfl (OpenV hF17_0.vw) ?_)))))))))))
    rintro e W4 ⟨A22_0, n22_0, c22_0, y22_1, rfl, hF22_0, hy22_1, he4⟩
    refine ⟨_, rfl, ?_⟩
    replace hE := Ext.trans hE he4
    replace h_b := h_b.ext he4
    replace hF12 := hF12.ext he4
    replace hF14 := hF14.ext he4
    replace hF17_0 := hF17_0.ext he4
    have hs4 := he4.size
    have hn22_0 := hF22_0.ln
    try simp only [List.length_append, List.length_cons, List.length_nil, List.length_set, List.length_take, List.length_drop, List.length_replicate, Nat.zero_add, Nat.add_zero, le_len] at hn22_0
    have hc22_0 := hF22_0.cap
    refine RL_q rfl (Yd_move rfl) (RL_q rfl (Yd_extract rfl rfl) (RL_q rfl (Yd_extract rfl rfl) (RL_q rfl (Yd_assign rfl) (RL_q rfl (Yd_assign rfl) (RL_nil (X_then (C_seq (C_region (RL_q rfl (Yd_move rfl) (RL_l rfl (Ld_call Try.func35 rfl (by kernel_rfl) rfl (SealV hF12.vw) ?_)))))))))))
    rintro e W5 ⟨A27_0, n27_0, c27_0, y27_1, rfl, hF27_0, hy27_1, he5⟩
    refine ⟨_, rfl, ?_⟩
    replace hE := Ext.trans hE he5
    replace h_b := h_b.ext he5
    replace hF12 := hF12.ext he5
    replace hF14 := hF14.ext he5
    replace hF17_0 := hF17_0.ext he5
    replace hF22_0 := hF22_0.ext he5
    have hs5 := he5.size
    have hn27_0 := hF27_0.ln
    try simp only [List.length_append, List.length_cons, List.length_nil, List.length_set, List.length_take, List.length_drop, List.length_replicate, Nat.zero_add, Nat.add_zero, le_len] at hn27_0
    have hc27_0 := hF27_0.cap
    refine RL_q rfl (Yd_move rfl) (RL_q rfl (Yd_extract rfl rfl) (RL_q rfl (Yd_extract rfl rfl) (RL_q rfl (Yd_assign rfl) (RL_q rfl (Yd_assign rfl) (RL_nil (X_then (C_seq (C_seq (?_)))))))))
    refine C_regionD (NoB) (l := [(0, true), (1, true), (2, true), (3, true), (4, true), (5, true), (6, true), (7, true), (8, true), (9, true), (10, false), (11, true), (12, true), (13, true), (14, true)]) (by kernel_rfl) (by kernel_rfl) rfl (by kernel_rfl) (fun _ _ d _ _ h => by cases d <;> exact h) ?_
    intro W6 he6 hh6
    replace hE := Ext.trans hE he6
    replace h_b := h_b.ext he6
    replace hF12 := hF12.ext he6
    replace hF14 := hF14.ext he6
    replace hF17_0 := hF17_0.ext he6
    replace hF22_0 := hF22_0.ext he6
    replace hF27_0 := hF27_0.ext he6
    have hs6 := he6.size
    refine RO_q rfl rfl (Yd_move rfl) (RO_q rfl rfl (Yd_len Try.underlying22 rfl) (RO_q rfl rfl (Yd_eql rfl rfl) (RO_q rfl rfl (Yd_move rfl) (?_))))
    refine RO_is (d := 33) (b' := true) rfl (by simp; omega) ?_
    refine RO_gq rfl rfl rfl rfl (Yd_move rfl) (RO_gq rfl rfl rfl rfl (Yd_neq rfl rfl) (RO_gq rfl rfl rfl rfl (Yd_move rfl) (?_)))
    refine RO_is (d := 36) (b' := false) rfl (by rw [hy27_1, if_pos (by omega)]; rfl) ?_
    refine RO_gq rfl rfl rfl rfl (Yd_move rfl) (RO_gq rfl rfl rfl rfl (Yd_str Try.underlying22 Try.underlying5 Try.underlying9 rfl (fun W hW => Rd.ext (hF27_0.vw).u8 hW.ext)) (RO_gq rfl rfl rfl rfl (Yd_move rfl) (RO_gl rfl rfl rfl rfl (Ld_call Try.func23 rfl (by kernel_rfl) rfl (refPutV hF12.vw (by omega)) ?_))))
    rintro e W7 ⟨A40, n40, c40, rfl, hF40, he7⟩
    refine ⟨_, rfl, ?_⟩
    refine ⟨Kp.of_ext he7, ?_⟩
    replace hE := Ext.trans hE he7
    replace h_b := h_b.ext he7
    replace hF12 := hF12.ext he7
    replace hF14 := hF14.ext he7
    replace hF17_0 := hF17_0.ext he7
    replace hF22_0 := hF22_0.ext he7
    replace hF27_0 := hF27_0.ext he7
    have hs7 := he7.size
    have hn40 := hF40.ln
    try simp only [List.length_append, List.length_cons, List.length_nil, List.length_set, List.length_take, List.length_drop, List.length_replicate, Nat.zero_add, Nat.add_zero, le_len] at hn40
    have hc40 := hF40.cap
    refine RO_gq rfl rfl rfl rfl (Yd_str Try.underlying22 Try.underlying5 Try.underlying9 rfl (fun W hW => Rd.ext (hF40.vw).u8 hW.ext)) (RO_gq rfl rfl rfl rfl (Yd_neqSB rfl rfl hF27_0.byt hF40.byt) (RO_gq rfl rfl rfl rfl (Yd_pickF rfl rfl) (RO_q rfl rfl (Yd_pickT rfl rfl) (RO_nil (X_then (?_))))))
    refine C_no rfl (by simp [← sealL_ok hb]) (C_skip (X_then (C_seq (C_seq (C_region (RL_q rfl (Yd_move rfl) (RL_q rfl (Yd_len Try.underlying22 rfl) (RL_q rfl (Yd_neq rfl rfl) (RL_q rfl (Yd_move rfl) (?_))))))))))
    refine RL_is (d := 48) (b' := false) rfl (by simp; omega) ?_
    refine RL_gn rfl rfl rfl rfl (RL_gn rfl rfl rfl rfl (RL_gn rfl rfl rfl rfl (RL_gu rfl rfl rfl (RL_gu rfl rfl rfl (RL_gu rfl rfl rfl (RL_gn rfl rfl rfl rfl (RL_q rfl (Yd_pickF rfl rfl) (RL_nil (X_then (C_no rfl rfl (C_skip (X_then (C_seq (?_))))))))))))))
    refine C_regionP (NoB) (p := (.q 0 (.q 1 (.q 2 (.q 3 (.q 4 (.q 5 (.l 6 (.q 7 (.q 8 (.q 9 (.q 10 (.q 11 (.q 12 (.q 13 (.q 14 (.q 15 (.q 16 (.q 17 (.q 18 (.q 19 (.q 20 (.q 21 (.two 22 24 (.q 23 (.l 24 (.q 25 (.q 26 (.q 27 (.q 28 (.l 29 (.q 30 (.q 31 .nil))))))))) (.q 25 (.l 22 (.q 23 (.q 26 (.q 27 (.q 28 (.l 29 (.q 30 (.q 31 .nil))))))))))))))))))))))))))))))))) (by kernel_rfl) (by kernel_rfl) rfl (by kernel_rfl) (fun _ _ d _ _ h => by cases d <;> exact h) ?_
    intro W8 he8 hh8
    replace hE := Ext.trans hE he8
    replace h_b := h_b.ext he8
    replace hF12 := hF12.ext he8
    replace hF14 := hF14.ext he8
    replace hF17_0 := hF17_0.ext he8
    replace hF22_0 := hF22_0.ext he8
    replace hF27_0 := hF27_0.ext he8
    replace hF40 := hF40.ext he8
    have hs8 := he8.size
    refine RP_q rfl rfl (Yd_move rfl) (RP_q rfl rfl (Yd_eql rfl rfl) (RP_q rfl rfl (Yd_move rfl) (?_)))
    refine RP_is (d := 59) (b' := true) rfl (by simp [hy17_1]; omega) ?_
    refine RP_gq rfl rfl rfl rfl (Yd_move rfl) (RP_gq rfl rfl rfl rfl (Yd_str Try.underlying22 Try.underlying5 Try.underlying9 rfl (fun W hW => Rd.ext (hF17_0.vw).u8 hW.ext)) (RP_gq rfl rfl rfl rfl (Yd_move rfl) (RP_loud rfl (RPl_gl rfl rfl rfl (Ld_call Try.func23 rfl (by kernel_rfl) rfl (refPutV hF14.vw (by omega)) ?_)))))
    rintro e W9 ⟨A63, n63, c63, rfl, hF63, he9⟩
    refine ⟨_, rfl, ?_⟩
    refine ⟨Kp.of_ext he9, ?_⟩
    replace hE := Ext.trans hE he9
    replace h_b := h_b.ext he9
    replace hF12 := hF12.ext he9
    replace hF14 := hF14.ext he9
    replace hF17_0 := hF17_0.ext he9
    replace hF22_0 := hF22_0.ext he9
    replace hF27_0 := hF27_0.ext he9
    replace hF40 := hF40.ext he9
    have hs9 := he9.size
    have hn63 := hF63.ln
    try simp only [List.length_append, List.length_cons, List.length_nil, List.length_set, List.length_take, List.length_drop, List.length_replicate, Nat.zero_add, Nat.add_zero, le_len] at hn63
    have hc63 := hF63.cap
    refine RP_gq rfl rfl rfl rfl (Yd_str Try.underlying22 Try.underlying5 Try.underlying9 rfl (fun W hW => Rd.ext (hF63.vw).u8 hW.ext)) (RP_gq rfl rfl rfl rfl (Yd_eqlSB rfl rfl hF17_0.byt hF63.byt) (RP_q rfl rfl (Yd_pickT rfl rfl) (RP_q rfl rfl (Yd_move rfl) (?_))))
    refine RP_is (d := 67) (b' := true) rfl (by simpa using hO.2.2.1) ?_
    refine RP_gq rfl rfl rfl rfl (Yd_move rfl) (RP_gq rfl rfl rfl rfl (Yd_eql rfl rfl) (RP_q rfl rfl (Yd_pickT rfl rfl) (RP_q rfl rfl (Yd_move rfl) (?_))))
    refine RP_is (d := 71) (b' := true) rfl (by rw [hy22_1, hO.2.1]; rfl) ?_
    refine RP_gq rfl rfl rfl rfl (Yd_move rfl) (RP_gq rfl rfl rfl rfl (Yd_str Try.underlying22 Try.underlying5 Try.underlying9 rfl (fun W hW => Rd.ext (hF22_0.vw).u8 hW.ext)) (RP_gq rfl rfl rfl rfl (Yd_move rfl) (RP_gq rfl rfl rfl rfl (Yd_str Try.underlying22 Try.underlying5 Try.underlying9 rfl (fun W hW => Rd.ext (hF14.vw).u8 hW.ext)) (RP_gq rfl rfl rfl rfl (Yd_eqlSB rfl rfl hF22_0.byt hF14.byt) (RP_q rfl rfl (Yd_pickT rfl rfl) (RP_q rfl rfl (Yd_move rfl) (?_)))))))
    refine RP_is (d := 78) (b' := true) rfl (by simpa using hO.1) ?_
    refine RP_two rfl rfl ?_ ?_
    · skip
      refine RPl_gl rfl rfl rfl (Ld_call Try.func36 rfl (by kernel_rfl) rfl (ZeroV ) ?_)
      rintro e W10 ⟨A79, n79, c79, rfl, hF79, he10⟩
      refine ⟨_, rfl, ?_⟩
      refine ⟨Kp.of_ext he10, ?_⟩
      replace hE := Ext.trans hE he10
      replace h_b := h_b.ext he10
      replace hF12 := hF12.ext he10
      replace hF14 := hF14.ext he10
      replace hF17_0 := hF17_0.ext he10
      replace hF22_0 := hF22_0.ext he10
      replace hF27_0 := hF27_0.ext he10
      replace hF40 := hF40.ext he10
      replace hF63 := hF63.ext he10
      have hs10 := he10.size
      have hn79 := hF79.ln
      try simp only [List.length_append, List.length_cons, List.length_nil, List.length_set, List.length_take, List.length_drop, List.length_replicate, Nat.zero_add, Nat.add_zero, le_len] at hn79
      have hc79 := hF79.cap
      refine RP_gq rfl rfl rfl rfl (Yd_str Try.underlying22 Try.underlying5 Try.underlying9 rfl (fun W hW => Rd.ext (hF79.vw).u8 hW.ext)) (RP_loud rfl (RPl_gl rfl rfl rfl (Ld_mk Try.underlying22 Try.elt5 rfl rfl rfl (n := 16) (by omega) (by omega) (T := tU8) (a := 0) rfl (by omega) (by simp only [maxLen]; omega) ⟨by decide, by decide⟩ ?_)))
      intro W11 hO81 he11
      refine ⟨Kp.of_ext he11, ?_⟩
      replace hE := Ext.trans hE he11
      replace h_b := h_b.ext he11
      replace hF12 := hF12.ext he11
      replace hF14 := hF14.ext he11
      replace hF17_0 := hF17_0.ext he11
      replace hF22_0 := hF22_0.ext he11
      replace hF27_0 := hF27_0.ext he11
      replace hF40 := hF40.ext he11
      replace hF63 := hF63.ext he11
      replace hF79 := hF79.ext he11
      have hs11 := he11.size
      have hn81 := hO81.ln
      refine RP_gq rfl rfl rfl rfl (Yd_str Try.underlying22 Try.underlying5 Try.underlying9 rfl (fun W hW => Rd.ext (hO81.vw).u8 hW.ext)) (RP_gq rfl rfl rfl rfl (Yd_eqlSB rfl rfl hF79.byt hO81.byt) (RP_q rfl rfl (Yd_pickT rfl rfl) (RP_q rfl rfl (Yd_move rfl) (?_))))
      refine RP_is (d := 85) (b' := true) rfl (by rfl) ?_
      refine RP_loud rfl (RPl_gl rfl rfl rfl (Ld_call Try.func30 rfl (by kernel_rfl) rfl (lives08V ) ?_))
      rintro e W12 ⟨_, rfl, rfl, he12⟩
      refine ⟨_, rfl, ?_⟩
      refine ⟨Kp.of_ext he12, ?_⟩
      replace hE := Ext.trans hE he12
      replace h_b := h_b.ext he12
      replace hF12 := hF12.ext he12
      replace hF14 := hF14.ext he12
      replace hF17_0 := hF17_0.ext he12
      replace hF22_0 := hF22_0.ext he12
      replace hF27_0 := hF27_0.ext he12
      replace hF40 := hF40.ext he12
      replace hF63 := hF63.ext he12
      replace hF79 := hF79.ext he12
      replace hO81 := hO81.ext he12
      have hs12 := he12.size
      refine RP_q rfl rfl (Yd_pickT rfl rfl) (RP_q rfl rfl (Yd_assign rfl) (RP_nil (X_then (C_ret (X_ret1 rfl rfl ?_)))))
      refine ⟨_, rfl, ?_, hE⟩
      all_goals (first | rfl | omega | simp)
    · skip
      refine RPl_gl rfl rfl rfl (Ld_mk Try.underlying22 Try.elt5 rfl rfl rfl (n := 16) (by omega) (by omega) (T := tU8) (a := 0) rfl (by omega) (by simp only [maxLen]; omega) ⟨by decide, by decide⟩ ?_)
      intro W10 hO81 he10
      refine ⟨Kp.of_ext he10, ?_⟩
      replace hE := Ext.trans hE he10
      replace h_b := h_b.ext he10
      replace hF12 := hF12.ext he10
      replace hF14 := hF14.ext he10
      replace hF17_0 := hF17_0.ext he10
      replace hF22_0 := hF22_0.ext he10
      replace hF27_0 := hF27_0.ext he10
      replace hF40 := hF40.ext he10
      replace hF63 := hF63.ext he10
      have hs10 := he10.size
      have hn81 := hO81.ln
      refine RP_gq rfl rfl rfl rfl (Yd_str Try.underlying22 Try.underlying5 Try.underlying9 rfl (fun W hW => Rd.ext (hO81.vw).u8 hW.ext)) (RP_loud rfl (RPl_gl rfl rfl rfl (Ld_call Try.func36 rfl (by kernel_rfl) rfl (ZeroV ) ?_)))
      rintro e W11 ⟨A79, n79, c79, rfl, hF79, he11⟩
      refine ⟨_, rfl, ?_⟩
      refine ⟨Kp.of_ext he11, ?_⟩
      replace hE := Ext.trans hE he11
      replace h_b := h_b.ext he11
      replace hF12 := hF12.ext he11
      replace hF14 := hF14.ext he11
      replace hF17_0 := hF17_0.ext he11
      replace hF22_0 := hF22_0.ext he11
      replace hF27_0 := hF27_0.ext he11
      replace hF40 := hF40.ext he11
      replace hF63 := hF63.ext he11
      replace hO81 := hO81.ext he11
      have hs11 := he11.size
      have hn79 := hF79.ln
      try simp only [List.length_append, List.length_cons, List.length_nil, List.length_set, List.length_take, List.length_drop, List.length_replicate, Nat.zero_add, Nat.add_zero, le_len] at hn79
      have hc79 := hF79.cap
      refine RP_gq rfl rfl rfl rfl (Yd_str Try.underlying22 Try.underlying5 Try.underlying9 rfl (fun W hW => Rd.ext (hF79.vw).u8 hW.ext)) (RP_gq rfl rfl rfl rfl (Yd_eqlSB rfl rfl hF79.byt hO81.byt) (RP_q rfl rfl (Yd_pickT rfl rfl) (RP_q rfl rfl (Yd_move rfl) (?_))))
      refine RP_is (d := 85) (b' := true) rfl (by rfl) ?_
      refine RP_loud rfl (RPl_gl rfl rfl rfl (Ld_call Try.func30 rfl (by kernel_rfl) rfl (lives08V ) ?_))
      rintro e W12 ⟨_, rfl, rfl, he12⟩
      refine ⟨_, rfl, ?_⟩
      refine ⟨Kp.of_ext he12, ?_⟩
      replace hE := Ext.trans hE he12
      replace h_b := h_b.ext he12
      replace hF12 := hF12.ext he12
      replace hF14 := hF14.ext he12
      replace hF17_0 := hF17_0.ext he12
      replace hF22_0 := hF22_0.ext he12
      replace hF27_0 := hF27_0.ext he12
      replace hF40 := hF40.ext he12
      replace hF63 := hF63.ext he12
      replace hO81 := hO81.ext he12
      replace hF79 := hF79.ext he12
      have hs12 := he12.size
      refine RP_q rfl rfl (Yd_pickT rfl rfl) (RP_q rfl rfl (Yd_assign rfl) (RP_nil (X_then (C_ret (X_ret1 rfl rfl ?_)))))
      refine ⟨_, rfl, ?_, hE⟩
      all_goals (first | rfl | omega | simp)
  · skip
    refine C_region (RL_q rfl (Yd_assign rfl) (RL_nil (X_then (C_seq (C_region (RL_q rfl (Yd_move rfl) (RL_l rfl (Ld_call Try.func15 rfl (by kernel_rfl) rfl (FewV h_b ⟨by first | omega | (dsimp only; omega), by first | omega | (dsimp only; omega)⟩) ?_))))))))
    rintro e W1 ⟨A12, n12, c12, rfl, hF12, hle12, he1⟩
    refine ⟨_, rfl, ?_⟩
    replace hE := Ext.trans hE he1
    replace h_b := h_b.ext he1
    have hs1 := he1.size
    have hn12 := hF12.ln
    try simp only [List.length_append, List.length_cons, List.length_nil, List.length_set, List.length_take, List.length_drop, List.length_replicate, Nat.zero_add, Nat.add_zero, le_len] at hn12
    have hc12 := hF12.cap
    try rw [hle12.2.2.1 (by omega)] at hF12 hn12
    refine RL_q rfl (Yd_assign rfl) (RL_nil (X_then (C_seq (C_region (RL_q rfl (Yd_move rfl) (RL_l rfl (Ld_call Try.func25 rfl (by kernel_rfl) rfl (FillV h_b ⟨by first | omega | (dsimp only; omega), by first | omega | (dsimp only; omega)⟩) ?_)))))))
    rintro e W2 ⟨A14, n14, c14, rfl, hF14, hfl14, he2⟩
    refine ⟨_, rfl, ?_⟩
    replace hE := Ext.trans hE he2
    replace h_b := h_b.ext he2
    replace hF12 := hF12.ext he2
    have hs2 := he2.size
    have hn14 := hF14.ln
    try simp only [List.length_append, List.length_cons, List.length_nil, List.length_set, List.length_take, List.length_drop, List.length_replicate, Nat.zero_add, Nat.add_zero, le_len] at hn14
    have hc14 := hF14.cap
    refine RL_q rfl (Yd_assign rfl) (RL_nil (X_then (C_seq (C_region (RL_q rfl (Yd_move rfl) (RL_l rfl (Ld_call Try.func35 rfl (by kernel_rfl) rfl (SealV hF14.vw) ?_)))))))
    rintro e W3 ⟨A17_0, n17_0, c17_0, y17_1, rfl, hF17_0, hy17_1, he3⟩
    refine ⟨_, rfl, ?_⟩
    replace hE := Ext.trans hE he3
    replace h_b := h_b.ext he3
    replace hF12 := hF12.ext he3
    replace hF14 := hF14.ext he3
    have hs3 := he3.size
    have hn17_0 := hF17_0.ln
    try simp only [List.length_append, List.length_cons, List.length_nil, List.length_set, List.length_take, List.length_drop, List.length_replicate, Nat.zero_add, Nat.add_zero, le_len] at hn17_0
    have hc17_0 := hF17_0.cap
    have hO := open_seal (b := fill b (16 : Int).toNat) (by omega)
    refine RL_q rfl (Yd_move rfl) (RL_q rfl (Yd_extract rfl rfl) (RL_q rfl (Yd_extract rfl rfl) (RL_q rfl (Yd_assign rfl) (RL_q rfl (Yd_assign rfl) (RL_nil (X_then (C_seq (C_region (RL_q rfl (Yd_move rfl) (RL_l rfl (Ld_call Try.func33 rfl (by kernel_rfl) rfl (OpenV hF17_0.vw) ?_)))))))))))
    rintro e W4 ⟨A22_0, n22_0, c22_0, y22_1, rfl, hF22_0, hy22_1, he4⟩
    refine ⟨_, rfl, ?_⟩
    replace hE := Ext.trans hE he4
    replace h_b := h_b.ext he4
    replace hF12 := hF12.ext he4
    replace hF14 := hF14.ext he4
    replace hF17_0 := hF17_0.ext he4
    have hs4 := he4.size
    have hn22_0 := hF22_0.ln
    try simp only [List.length_append, List.length_cons, List.length_nil, List.length_set, List.length_take, List.length_drop, List.length_replicate, Nat.zero_add, Nat.add_zero, le_len] at hn22_0
    have hc22_0 := hF22_0.cap
    refine RL_q rfl (Yd_move rfl) (RL_q rfl (Yd_extract rfl rfl) (RL_q rfl (Yd_extract rfl rfl) (RL_q rfl (Yd_assign rfl) (RL_q rfl (Yd_assign rfl) (RL_nil (X_then (C_seq (C_region (RL_q rfl (Yd_move rfl) (RL_l rfl (Ld_call Try.func35 rfl (by kernel_rfl) rfl (SealV hF12.vw) ?_)))))))))))
    rintro e W5 ⟨A27_0, n27_0, c27_0, y27_1, rfl, hF27_0, hy27_1, he5⟩
    refine ⟨_, rfl, ?_⟩
    replace hE := Ext.trans hE he5
    replace h_b := h_b.ext he5
    replace hF12 := hF12.ext he5
    replace hF14 := hF14.ext he5
    replace hF17_0 := hF17_0.ext he5
    replace hF22_0 := hF22_0.ext he5
    have hs5 := he5.size
    have hn27_0 := hF27_0.ln
    try simp only [List.length_append, List.length_cons, List.length_nil, List.length_set, List.length_take, List.length_drop, List.length_replicate, Nat.zero_add, Nat.add_zero, le_len] at hn27_0
    have hc27_0 := hF27_0.cap
    refine RL_q rfl (Yd_move rfl) (RL_q rfl (Yd_extract rfl rfl) (RL_q rfl (Yd_extract rfl rfl) (RL_q rfl (Yd_assign rfl) (RL_q rfl (Yd_assign rfl) (RL_nil (X_then (C_seq (C_seq (?_)))))))))
    refine C_regionD (NoB) (l := [(0, true), (1, true), (2, true), (3, true), (4, true), (5, true), (6, true), (7, true), (8, true), (9, true), (10, false), (11, true), (12, true), (13, true), (14, true)]) (by kernel_rfl) (by kernel_rfl) rfl (by kernel_rfl) (fun _ _ d _ _ h => by cases d <;> exact h) ?_
    intro W6 he6 hh6
    replace hE := Ext.trans hE he6
    replace h_b := h_b.ext he6
    replace hF12 := hF12.ext he6
    replace hF14 := hF14.ext he6
    replace hF17_0 := hF17_0.ext he6
    replace hF22_0 := hF22_0.ext he6
    replace hF27_0 := hF27_0.ext he6
    have hs6 := he6.size
    refine RO_q rfl rfl (Yd_move rfl) (RO_q rfl rfl (Yd_len Try.underlying22 rfl) (RO_q rfl rfl (Yd_eql rfl rfl) (RO_q rfl rfl (Yd_move rfl) (?_))))
    refine RO_is (d := 33) (b' := false) rfl (by simp; omega) ?_
    refine RO_gn rfl rfl rfl rfl rfl (RO_gn rfl rfl rfl rfl rfl (RO_gn rfl rfl rfl rfl rfl (RO_gu rfl rfl rfl rfl (RO_gu rfl rfl rfl rfl (RO_gu rfl rfl rfl rfl (RO_guL rfl rfl rfl rfl (RO_gu rfl rfl rfl rfl (RO_gu rfl rfl rfl rfl (RO_gn rfl rfl rfl rfl rfl (RO_q rfl rfl (Yd_pickF rfl rfl) (RO_nil (X_then (C_no rfl rfl (C_skip (X_then (C_seq (C_seq (C_region (RL_q rfl (Yd_move rfl) (RL_q rfl (Yd_len Try.underlying22 rfl) (RL_q rfl (Yd_neq rfl rfl) (RL_q rfl (Yd_move rfl) (?_)))))))))))))))))))))))
    refine RL_is (d := 48) (b' := true) rfl (by simp; omega) ?_
    refine RL_gq rfl rfl rfl (Yd_move rfl) (RL_gq rfl rfl rfl (Yd_neq rfl rfl) (RL_gq rfl rfl rfl (Yd_move rfl) (?_)))
    refine RL_is (d := 51) (b' := false) rfl (by rw [hy27_1, if_neg (by omega)]; rfl) ?_
    refine RL_gq rfl rfl rfl (Yd_move rfl) (RL_gq rfl rfl rfl (Yd_len Try.underlying22 rfl) (RL_gq rfl rfl rfl (Yd_gtr rfl rfl) (RL_gq rfl rfl rfl (Yd_pickF rfl rfl) (RL_q rfl (Yd_pickT rfl rfl) (RL_nil (X_then (?_)))))))
    refine C_no rfl (by (have hsn := sealL_no (b := few b 20) (by omega)); rw [← hsn] at hn27_0; simp at hn27_0 ⊢; omega) (C_skip (X_then (C_seq (?_))))
    refine C_regionP (NoB) (p := (.q 0 (.q 1 (.q 2 (.q 3 (.q 4 (.q 5 (.l 6 (.q 7 (.q 8 (.q 9 (.q 10 (.q 11 (.q 12 (.q 13 (.q 14 (.q 15 (.q 16 (.q 17 (.q 18 (.q 19 (.q 20 (.q 21 (.two 22 24 (.q 23 (.l 24 (.q 25 (.q 26 (.q 27 (.q 28 (.l 29 (.q 30 (.q 31 .nil))))))))) (.q 25 (.l 22 (.q 23 (.q 26 (.q 27 (.q 28 (.l 29 (.q 30 (.q 31 .nil))))))))))))))))))))))))))))))))) (by kernel_rfl) (by kernel_rfl) rfl (by kernel_rfl) (fun _ _ d _ _ h => by cases d <;> exact h) ?_
    intro W7 he7 hh7
    replace hE := Ext.trans hE he7
    replace h_b := h_b.ext he7
    replace hF12 := hF12.ext he7
    replace hF14 := hF14.ext he7
    replace hF17_0 := hF17_0.ext he7
    replace hF22_0 := hF22_0.ext he7
    replace hF27_0 := hF27_0.ext he7
    have hs7 := he7.size
    refine RP_q rfl rfl (Yd_move rfl) (RP_q rfl rfl (Yd_eql rfl rfl) (RP_q rfl rfl (Yd_move rfl) (?_)))
    refine RP_is (d := 59) (b' := true) rfl (by simp [hy17_1]; omega) ?_
    refine RP_gq rfl rfl rfl rfl (Yd_move rfl) (RP_gq rfl rfl rfl rfl (Yd_str Try.underlying22 Try.underlying5 Try.underlying9 rfl (fun W hW => Rd.ext (hF17_0.vw).u8 hW.ext)) (RP_gq rfl rfl rfl rfl (Yd_move rfl) (RP_loud rfl (RPl_gl rfl rfl rfl (Ld_call Try.func23 rfl (by kernel_rfl) rfl (refPutV hF14.vw (by omega)) ?_)))))
    rintro e W8 ⟨A63, n63, c63, rfl, hF63, he8⟩
    refine ⟨_, rfl, ?_⟩
    refine ⟨Kp.of_ext he8, ?_⟩
    replace hE := Ext.trans hE he8
    replace h_b := h_b.ext he8
    replace hF12 := hF12.ext he8
    replace hF14 := hF14.ext he8
    replace hF17_0 := hF17_0.ext he8
    replace hF22_0 := hF22_0.ext he8
    replace hF27_0 := hF27_0.ext he8
    have hs8 := he8.size
    have hn63 := hF63.ln
    try simp only [List.length_append, List.length_cons, List.length_nil, List.length_set, List.length_take, List.length_drop, List.length_replicate, Nat.zero_add, Nat.add_zero, le_len] at hn63
    have hc63 := hF63.cap
    refine RP_gq rfl rfl rfl rfl (Yd_str Try.underlying22 Try.underlying5 Try.underlying9 rfl (fun W hW => Rd.ext (hF63.vw).u8 hW.ext)) (RP_gq rfl rfl rfl rfl (Yd_eqlSB rfl rfl hF17_0.byt hF63.byt) (RP_q rfl rfl (Yd_pickT rfl rfl) (RP_q rfl rfl (Yd_move rfl) (?_))))
    refine RP_is (d := 67) (b' := true) rfl (by simpa using hO.2.2.1) ?_
    refine RP_gq rfl rfl rfl rfl (Yd_move rfl) (RP_gq rfl rfl rfl rfl (Yd_eql rfl rfl) (RP_q rfl rfl (Yd_pickT rfl rfl) (RP_q rfl rfl (Yd_move rfl) (?_))))
    refine RP_is (d := 71) (b' := true) rfl (by rw [hy22_1, hO.2.1]; rfl) ?_
    refine RP_gq rfl rfl rfl rfl (Yd_move rfl) (RP_gq rfl rfl rfl rfl (Yd_str Try.underlying22 Try.underlying5 Try.underlying9 rfl (fun W hW => Rd.ext (hF22_0.vw).u8 hW.ext)) (RP_gq rfl rfl rfl rfl (Yd_move rfl) (RP_gq rfl rfl rfl rfl (Yd_str Try.underlying22 Try.underlying5 Try.underlying9 rfl (fun W hW => Rd.ext (hF14.vw).u8 hW.ext)) (RP_gq rfl rfl rfl rfl (Yd_eqlSB rfl rfl hF22_0.byt hF14.byt) (RP_q rfl rfl (Yd_pickT rfl rfl) (RP_q rfl rfl (Yd_move rfl) (?_)))))))
    refine RP_is (d := 78) (b' := true) rfl (by simpa using hO.1) ?_
    refine RP_two rfl rfl ?_ ?_
    · skip
      refine RPl_gl rfl rfl rfl (Ld_call Try.func36 rfl (by kernel_rfl) rfl (ZeroV ) ?_)
      rintro e W9 ⟨A79, n79, c79, rfl, hF79, he9⟩
      refine ⟨_, rfl, ?_⟩
      refine ⟨Kp.of_ext he9, ?_⟩
      replace hE := Ext.trans hE he9
      replace h_b := h_b.ext he9
      replace hF12 := hF12.ext he9
      replace hF14 := hF14.ext he9
      replace hF17_0 := hF17_0.ext he9
      replace hF22_0 := hF22_0.ext he9
      replace hF27_0 := hF27_0.ext he9
      replace hF63 := hF63.ext he9
      have hs9 := he9.size
      have hn79 := hF79.ln
      try simp only [List.length_append, List.length_cons, List.length_nil, List.length_set, List.length_take, List.length_drop, List.length_replicate, Nat.zero_add, Nat.add_zero, le_len] at hn79
      have hc79 := hF79.cap
      refine RP_gq rfl rfl rfl rfl (Yd_str Try.underlying22 Try.underlying5 Try.underlying9 rfl (fun W hW => Rd.ext (hF79.vw).u8 hW.ext)) (RP_loud rfl (RPl_gl rfl rfl rfl (Ld_mk Try.underlying22 Try.elt5 rfl rfl rfl (n := 16) (by omega) (by omega) (T := tU8) (a := 0) rfl (by omega) (by simp only [maxLen]; omega) ⟨by decide, by decide⟩ ?_)))
      intro W10 hO81 he10
      refine ⟨Kp.of_ext he10, ?_⟩
      replace hE := Ext.trans hE he10
      replace h_b := h_b.ext he10
      replace hF12 := hF12.ext he10
      replace hF14 := hF14.ext he10
      replace hF17_0 := hF17_0.ext he10
      replace hF22_0 := hF22_0.ext he10
      replace hF27_0 := hF27_0.ext he10
      replace hF63 := hF63.ext he10
      replace hF79 := hF79.ext he10
      have hs10 := he10.size
      have hn81 := hO81.ln
      refine RP_gq rfl rfl rfl rfl (Yd_str Try.underlying22 Try.underlying5 Try.underlying9 rfl (fun W hW => Rd.ext (hO81.vw).u8 hW.ext)) (RP_gq rfl rfl rfl rfl (Yd_eqlSB rfl rfl hF79.byt hO81.byt) (RP_q rfl rfl (Yd_pickT rfl rfl) (RP_q rfl rfl (Yd_move rfl) (?_))))
      refine RP_is (d := 85) (b' := true) rfl (by rfl) ?_
      refine RP_loud rfl (RPl_gl rfl rfl rfl (Ld_call Try.func30 rfl (by kernel_rfl) rfl (lives08V ) ?_))
      rintro e W11 ⟨_, rfl, rfl, he11⟩
      refine ⟨_, rfl, ?_⟩
      refine ⟨Kp.of_ext he11, ?_⟩
      replace hE := Ext.trans hE he11
      replace h_b := h_b.ext he11
      replace hF12 := hF12.ext he11
      replace hF14 := hF14.ext he11
      replace hF17_0 := hF17_0.ext he11
      replace hF22_0 := hF22_0.ext he11
      replace hF27_0 := hF27_0.ext he11
      replace hF63 := hF63.ext he11
      replace hF79 := hF79.ext he11
      replace hO81 := hO81.ext he11
      have hs11 := he11.size
      refine RP_q rfl rfl (Yd_pickT rfl rfl) (RP_q rfl rfl (Yd_assign rfl) (RP_nil (X_then (C_ret (X_ret1 rfl rfl ?_)))))
      refine ⟨_, rfl, ?_, hE⟩
      all_goals (first | rfl | omega | simp)
    · skip
      refine RPl_gl rfl rfl rfl (Ld_mk Try.underlying22 Try.elt5 rfl rfl rfl (n := 16) (by omega) (by omega) (T := tU8) (a := 0) rfl (by omega) (by simp only [maxLen]; omega) ⟨by decide, by decide⟩ ?_)
      intro W9 hO81 he9
      refine ⟨Kp.of_ext he9, ?_⟩
      replace hE := Ext.trans hE he9
      replace h_b := h_b.ext he9
      replace hF12 := hF12.ext he9
      replace hF14 := hF14.ext he9
      replace hF17_0 := hF17_0.ext he9
      replace hF22_0 := hF22_0.ext he9
      replace hF27_0 := hF27_0.ext he9
      replace hF63 := hF63.ext he9
      have hs9 := he9.size
      have hn81 := hO81.ln
      refine RP_gq rfl rfl rfl rfl (Yd_str Try.underlying22 Try.underlying5 Try.underlying9 rfl (fun W hW => Rd.ext (hO81.vw).u8 hW.ext)) (RP_loud rfl (RPl_gl rfl rfl rfl (Ld_call Try.func36 rfl (by kernel_rfl) rfl (ZeroV ) ?_)))
      rintro e W10 ⟨A79, n79, c79, rfl, hF79, he10⟩
      refine ⟨_, rfl, ?_⟩
      refine ⟨Kp.of_ext he10, ?_⟩
      replace hE := Ext.trans hE he10
      replace h_b := h_b.ext he10
      replace hF12 := hF12.ext he10
      replace hF14 := hF14.ext he10
      replace hF17_0 := hF17_0.ext he10
      replace hF22_0 := hF22_0.ext he10
      replace hF27_0 := hF27_0.ext he10
      replace hF63 := hF63.ext he10
      replace hO81 := hO81.ext he10
      have hs10 := he10.size
      have hn79 := hF79.ln
      try simp only [List.length_append, List.length_cons, List.length_nil, List.length_set, List.length_take, List.length_drop, List.length_replicate, Nat.zero_add, Nat.add_zero, le_len] at hn79
      have hc79 := hF79.cap
      refine RP_gq rfl rfl rfl rfl (Yd_str Try.underlying22 Try.underlying5 Try.underlying9 rfl (fun W hW => Rd.ext (hF79.vw).u8 hW.ext)) (RP_gq rfl rfl rfl rfl (Yd_eqlSB rfl rfl hF79.byt hO81.byt) (RP_q rfl rfl (Yd_pickT rfl rfl) (RP_q rfl rfl (Yd_move rfl) (?_))))
      refine RP_is (d := 85) (b' := true) rfl (by rfl) ?_
      refine RP_loud rfl (RPl_gl rfl rfl rfl (Ld_call Try.func30 rfl (by kernel_rfl) rfl (lives08V ) ?_))
      rintro e W11 ⟨_, rfl, rfl, he11⟩
      refine ⟨_, rfl, ?_⟩
      refine ⟨Kp.of_ext he11, ?_⟩
      replace hE := Ext.trans hE he11
      replace h_b := h_b.ext he11
      replace hF12 := hF12.ext he11
      replace hF14 := hF14.ext he11
      replace hF17_0 := hF17_0.ext he11
      replace hF22_0 := hF22_0.ext he11
      replace hF27_0 := hF27_0.ext he11
      replace hF63 := hF63.ext he11
      replace hO81 := hO81.ext he11
      replace hF79 := hF79.ext he11
      have hs11 := he11.size
      refine RP_q rfl rfl (Yd_pickT rfl rfl) (RP_q rfl rfl (Yd_assign rfl) (RP_nil (X_then (C_ret (X_ret1 rfl rfl ?_)))))
      refine ⟨_, rfl, ?_, hE⟩
      all_goals (first | rfl | omega | simp)
end Go.Proofs.AL
