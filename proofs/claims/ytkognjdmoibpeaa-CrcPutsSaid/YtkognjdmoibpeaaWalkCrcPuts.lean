import Derived.Test.YtkognjdmoibpeaaCell
set_option linter.unusedVariables false
set_option linter.unusedSimpArgs false
namespace Go.Proofs.AL
open Go.RowKit
theorem CrcPutsV {lo_b B_b : Nat} {A_b : Option Addr} {n_b c_b : Nat} {b : List Int} {w : World}  (h_b : Vw tU8 w lo_b B_b A_b n_b c_b b) :
    Calls Try.prog 6 #[.slice A_b n_b c_b] w fun e w' => ∃ (x0 : Bool), e = .returned (.bool x0) ∧ x0 = (true) ∧ Ext w w' := by
  have hE := Ext.refl w
  replace h_b := h_b.fit
  have hn_b := h_b.ln
  have hc_b := h_b.cap
  have hm_b := h_b.max
  simp only [maxLen] at hm_b
  have h40 := few_le b 40 (by omega)
  refine calls_of (l := [.slice A_b n_b c_b]) (N := 44) Try.func6 rfl rfl rfl ?_
  refine C_seq (C_region (RL_q rfl (Yd_assign rfl) (RL_nil (X_then (C_seq (C_region (RL_q rfl (Yd_move rfl) (RL_l rfl (Ld_call Try.func15 rfl (by kernel_rfl) rfl (FewV h_b ⟨by first | omega | (dsimp only; omega), by first | omega | (dsimp only; omega)⟩) ?_)))))))))
  rintro e W1 ⟨A8, n8, c8, rfl, hF8, hle8, he1⟩
  refine ⟨_, rfl, ?_⟩
  replace hE := Ext.trans hE he1
  replace h_b := h_b.ext he1
  have hs1 := he1.size
  have hn8 := hF8.ln
  try simp only [List.length_append, List.length_cons, List.length_nil, List.length_set, List.length_take, List.length_drop, List.length_replicate, Nat.zero_add, Nat.add_zero, le_len] at hn8
  have hc8 := hF8.cap
  try rw [hle8.2.2.1 (by omega)] at hF8 hn8
  refine RL_q rfl (Yd_assign rfl) (RL_nil (X_then (C_seq (C_region (RL_q rfl (Yd_move rfl) (RL_l rfl (Ld_call Try.func21 rfl (by kernel_rfl) rfl (PutV hF8.vw (by omega)) ?_)))))))
  rintro e W2 ⟨A10, n10, c10, rfl, hF10, he2⟩
  refine ⟨_, rfl, ?_⟩
  replace hE := Ext.trans hE he2
  replace h_b := h_b.ext he2
  replace hF8 := hF8.ext he2
  have hs2 := he2.size
  have hn10 := hF10.ln
  try simp only [List.length_append, List.length_cons, List.length_nil, List.length_set, List.length_take, List.length_drop, List.length_replicate, Nat.zero_add, Nat.add_zero, le_len] at hn10
  have hc10 := hF10.cap
  refine RL_q rfl (Yd_assign rfl) (RL_nil (X_then (C_seq (C_region (RL_q rfl (Yd_move rfl) (RL_l rfl (Ld_call Try.func22 rfl (by kernel_rfl) rfl (TakeV hF10.vw (by omega)) ?_)))))))
  rintro e W3 ⟨A13_0, n13_0, c13_0, y13_1, rfl, hF13_0, hy13_1, he3⟩
  refine ⟨_, rfl, ?_⟩
  replace hE := Ext.trans hE he3
  replace h_b := h_b.ext he3
  replace hF8 := hF8.ext he3
  replace hF10 := hF10.ext he3
  have hs3 := he3.size
  have hn13_0 := hF13_0.ln
  try simp only [List.length_append, List.length_cons, List.length_nil, List.length_set, List.length_take, List.length_drop, List.length_replicate, Nat.zero_add, Nat.add_zero, le_len] at hn13_0
  have hc13_0 := hF13_0.cap
  refine RL_q rfl (Yd_move rfl) (RL_q rfl (Yd_extract rfl rfl) (RL_q rfl (Yd_extract rfl rfl) (RL_q rfl (Yd_assign rfl) (RL_q rfl (Yd_assign rfl) (RL_nil (X_then (C_seq (?_))))))))
  refine C_regionD (NoB) (l := [(0, true), (1, true), (2, true), (3, false), (4, true), (5, true), (6, true), (7, true), (8, true), (9, true), (10, true), (11, true), (12, true), (13, true), (14, true), (15, true), (16, true), (17, true), (18, true), (19, true), (20, true), (21, false), (22, true), (23, true), (24, true), (25, true), (26, false), (27, true), (28, true)]) (by kernel_rfl) (by kernel_rfl) rfl (by kernel_rfl) (fun _ _ d _ _ h => by cases d <;> exact h) ?_
  intro W4 he4 hh4
  replace hE := Ext.trans hE he4
  replace h_b := h_b.ext he4
  replace hF8 := hF8.ext he4
  replace hF10 := hF10.ext he4
  replace hF13_0 := hF13_0.ext he4
  have hs4 := he4.size
  refine RO_q rfl rfl (Yd_move rfl) (RO_q rfl rfl (Yd_str Try.underlying22 Try.underlying5 Try.underlying9 rfl (fun W hW => Rd.ext (hF10.vw).u8 hW.ext)) (RO_q rfl rfl (Yd_move rfl) (RO_l rfl rfl (Ld_call Try.func23 rfl (by kernel_rfl) rfl (refPutV hF8.vw (by omega)) ?_))))
  rintro e W5 ⟨A19, n19, c19, rfl, hF19, he5⟩
  refine ⟨_, rfl, ?_⟩
  refine ⟨Kp.of_ext he5, ?_⟩
  replace hE := Ext.trans hE he5
  replace h_b := h_b.ext he5
  replace hF8 := hF8.ext he5
  replace hF10 := hF10.ext he5
  replace hF13_0 := hF13_0.ext he5
  have hs5 := he5.size
  have hn19 := hF19.ln
  try simp only [List.length_append, List.length_cons, List.length_nil, List.length_set, List.length_take, List.length_drop, List.length_replicate, Nat.zero_add, Nat.add_zero, le_len] at hn19
  have hc19 := hF19.cap
  refine RO_q rfl rfl (Yd_str Try.underlying22 Try.underlying5 Try.underlying9 rfl (fun W hW => Rd.ext (hF19.vw).u8 hW.ext)) (RO_q rfl rfl (Yd_eqlSB rfl rfl hF10.byt hF19.byt) (RO_q rfl rfl (Yd_move rfl) (?_)))
  refine RO_is (d := 22) (b' := true) rfl (by simp) ?_
  refine RO_gq rfl rfl rfl rfl (Yd_move rfl) (RO_gq rfl rfl rfl rfl (Yd_eql rfl rfl) (RO_q rfl rfl (Yd_pickT rfl rfl) (RO_q rfl rfl (Yd_move rfl) (?_))))
  refine RO_is (d := 26) (b' := true) rfl (by simp [hy13_1, takeE_put]) ?_
  refine RO_gq rfl rfl rfl rfl (Yd_move rfl) (RO_gq rfl rfl rfl rfl (Yd_str Try.underlying22 Try.underlying5 Try.underlying9 rfl (fun W hW => Rd.ext (hF13_0.vw).u8 hW.ext)) (RO_gq rfl rfl rfl rfl (Yd_move rfl) (RO_gq rfl rfl rfl rfl (Yd_str Try.underlying22 Try.underlying5 Try.underlying9 rfl (fun W hW => Rd.ext (hF8.vw).u8 hW.ext)) (RO_gq rfl rfl rfl rfl (Yd_eqlSB rfl rfl hF13_0.byt hF8.byt) (RO_q rfl rfl (Yd_pickT rfl rfl) (RO_q rfl rfl (Yd_move rfl) (?_)))))))
  refine RO_is (d := 33) (b' := true) rfl (by simp [takeE_put]) ?_
  refine RO_gq rfl rfl rfl rfl (Yd_move rfl) (RO_gq rfl rfl rfl rfl (Yd_str Try.underlying22 Try.underlying5 Try.underlying9 rfl (fun W hW => Rd.ext (hF8.vw).u8 hW.ext)) (RO_gq rfl rfl rfl rfl (Yd_move rfl) (RO_gl rfl rfl rfl rfl (Ld_call Try.func15 rfl (by kernel_rfl) rfl (FewV h_b ⟨by first | omega | (dsimp only; omega), by first | omega | (dsimp only; omega)⟩) ?_))))
  rintro e W6 ⟨A37, n37, c37, rfl, hF37, hle37, he6⟩
  refine ⟨_, rfl, ?_⟩
  refine ⟨Kp.of_ext he6, ?_⟩
  replace hE := Ext.trans hE he6
  replace h_b := h_b.ext he6
  replace hF8 := hF8.ext he6
  replace hF10 := hF10.ext he6
  replace hF13_0 := hF13_0.ext he6
  replace hF19 := hF19.ext he6
  have hs6 := he6.size
  have hn37 := hF37.ln
  try simp only [List.length_append, List.length_cons, List.length_nil, List.length_set, List.length_take, List.length_drop, List.length_replicate, Nat.zero_add, Nat.add_zero, le_len] at hn37
  have hc37 := hF37.cap
  try rw [hle37.2.2.1 (by omega)] at hF37 hn37
  refine RO_gq rfl rfl rfl rfl (Yd_str Try.underlying22 Try.underlying5 Try.underlying9 rfl (fun W hW => Rd.ext (hF37.vw).u8 hW.ext)) (RO_gq rfl rfl rfl rfl (Yd_eqlSB rfl rfl hF8.byt hF37.byt) (RO_q rfl rfl (Yd_pickT rfl rfl) (RO_q rfl rfl (Yd_move rfl) (?_))))
  refine RO_is (d := 41) (b' := true) rfl (by simp) ?_
  refine RO_gl rfl rfl rfl rfl (Ld_call Try.func19 rfl (by kernel_rfl) rfl (lives02V ) ?_)
  rintro e W7 ⟨_, rfl, rfl, he7⟩
  refine ⟨_, rfl, ?_⟩
  refine ⟨Kp.of_ext he7, ?_⟩
  replace hE := Ext.trans hE he7
  replace h_b := h_b.ext he7
  replace hF8 := hF8.ext he7
  replace hF10 := hF10.ext he7
  replace hF13_0 := hF13_0.ext he7
  replace hF19 := hF19.ext he7
  replace hF37 := hF37.ext he7
  have hs7 := he7.size
  refine RO_q rfl rfl (Yd_pickT rfl rfl) (RO_q rfl rfl (Yd_assign rfl) (RO_nil (X_then (C_ret (X_ret1 rfl rfl ?_)))))
  refine ⟨_, rfl, ?_, hE⟩
  all_goals (first | rfl | omega | simp)
end Go.Proofs.AL
