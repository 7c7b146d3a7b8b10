import Derived.Test.YtkognjdmoibpeaaCel
set_option linter.unusedVariables false
set_option linter.unusedSimpArgs false
namespace Go.Proofs.AL
open Go.RowKit
theorem CellPutsV {lo_b B_b : Nat} {A_b : Option Addr} {n_b c_b : Nat} {b : List Int} {off : Int} {lo_put B_put : Nat} {A_put : Option Addr} {n_put c_put : Nat} {put : List Int} {w : World}  (h_b : Vw tU8 w lo_b B_b A_b n_b c_b b) (b_off : -9223372036854775808 ≤ off ∧ off ≤ 9223372036854775807) (h_put : Vw tU8 w lo_put B_put A_put n_put c_put put) :
    Calls Try.prog 10 #[.slice A_b n_b c_b, .int .i64 off, .slice A_put n_put c_put] w fun e w' => ∃ (x0 : Bool), e = .returned (.bool x0) ∧ x0 = (true) ∧ Ext w w' := by
  have hE := Ext.refl w
  replace h_b := h_b.fit
  have hn_b := h_b.ln
  have hc_b := h_b.cap
  have hm_b := h_b.max
  simp only [maxLen] at hm_b
  replace h_put := h_put.fit
  have hn_put := h_put.ln
  have hc_put := h_put.cap
  have hm_put := h_put.max
  simp only [maxLen] at hm_put
  refine calls_of (l := [.slice A_b n_b c_b, .int .i64 off, .slice A_put n_put c_put]) (N := 106) Try.func10 rfl rfl rfl ?_
  refine C_seq (C_region (RL_q rfl (Yd_assign rfl) (RL_nil (X_then (C_seq (C_region (RL_q rfl (Yd_move rfl) (RL_l rfl (Ld_call Try.func25 rfl (by kernel_rfl) rfl (FillV h_b ⟨by first | omega | (dsimp only; omega), by first | omega | (dsimp only; omega)⟩) ?_)))))))))
  rintro e W1 ⟨A19, n19, c19, rfl, hF19, hfl19, he1⟩
  refine ⟨_, rfl, ?_⟩
  replace hE := Ext.trans hE he1
  replace h_b := h_b.ext he1
  replace h_put := h_put.ext he1
  have hs1 := he1.size
  have hn19 := hF19.ln
  try simp only [List.length_append, List.length_cons, List.length_nil, List.length_set, List.length_take, List.length_drop, List.length_replicate, Nat.zero_add, Nat.add_zero, le_len] at hn19
  have hc19 := hF19.cap
  refine RL_q rfl (Yd_assign rfl) (RL_nil (X_then (C_seq (C_region (RL_q rfl (Yd_move rfl) (RL_l rfl (Ld_call Try.func20 rfl (by kernel_rfl) rfl (AroundV ⟨by first | omega | (dsimp only; omega), by first | omega | (dsimp only; omega)⟩ ⟨by first | omega | (dsimp only; omega), by first | omega | (dsimp only; omega)⟩) ?_)))))))
  rintro e W2 ⟨y21, rfl, hy21, hra21, rfl⟩
  refine ⟨_, rfl, ?_⟩
  refine RL_q rfl (Yd_assign rfl) (RL_nil (X_then (C_seq (C_region (RL_q rfl (Yd_move rfl) (RL_q rfl (Yd_move rfl) (RL_q rfl (Yd_sub rfl rfl (i64w (by omega) (by omega))) (RL_l rfl (Ld_call Try.func15 rfl (by kernel_rfl) rfl (FewV h_put ⟨by first | omega | (dsimp only; omega), by first | omega | (dsimp only; omega)⟩) ?_)))))))))
  rintro e W3 ⟨A25, n25, c25, rfl, hF25, hle25, he3⟩
  refine ⟨_, rfl, ?_⟩
  replace hE := Ext.trans hE he3
  replace h_b := h_b.ext he3
  replace h_put := h_put.ext he3
  replace hF19 := hF19.ext he3
  have hs3 := he3.size
  have hn25 := hF25.ln
  try simp only [List.length_append, List.length_cons, List.length_nil, List.length_set, List.length_take, List.length_drop, List.length_replicate, Nat.zero_add, Nat.add_zero, le_len] at hn25
  have hc25 := hF25.cap
  try rw [hle25.2.2.1 (by omega)] at hF25 hn25
  refine RL_q rfl (Yd_assign rfl) (RL_nil (X_then (C_seq (C_region (RL_q rfl (Yd_move rfl) (RL_q rfl (Yd_move rfl) (RL_q rfl (Yd_move rfl) (RL_l rfl (Ld_call Try.func28 rfl (by kernel_rfl) rfl (cPutV hF19.vw ⟨by first | omega | (dsimp only; omega), by first | omega | (dsimp only; omega)⟩ hF25.vw) ?_)))))))))
  rintro e W4 ⟨A30_0, n30_0, c30_0, y30_1, rfl, hF30_0, hy30_1, he4⟩
  refine ⟨_, rfl, ?_⟩
  replace hE := Ext.trans hE he4
  replace h_b := h_b.ext he4
  replace h_put := h_put.ext he4
  replace hF19 := hF19.ext he4
  replace hF25 := hF25.ext he4
  have hs4 := he4.size
  have hn30_0 := hF30_0.ln
  try simp only [List.length_append, List.length_cons, List.length_nil, List.length_set, List.length_take, List.length_drop, List.length_replicate, Nat.zero_add, Nat.add_zero, le_len] at hn30_0
  have hc30_0 := hF30_0.cap
  have hP := put_parts (off := y21) hn25 hn19 (by omega) (by omega) (by omega) hn30_0
  refine RL_q rfl (Yd_move rfl) (RL_q rfl (Yd_extract rfl rfl) (RL_q rfl (Yd_extract rfl rfl) (RL_q rfl (Yd_assign rfl) (RL_q rfl (Yd_assign rfl) (RL_nil (X_then (C_seq (C_region (RL_q rfl (Yd_move rfl) (RL_q rfl (Yd_move rfl) (RL_q rfl (Yd_move rfl) (RL_q rfl (Yd_len Try.underlying22 rfl) (RL_l rfl (Ld_call Try.func26 rfl (by kernel_rfl) rfl (cGetV hF30_0.vw ⟨by first | omega | (dsimp only; omega), by first | omega | (dsimp only; omega)⟩ ⟨by first | omega | (dsimp only; omega), by first | omega | (dsimp only; omega)⟩) ?_))))))))))))))
  rintro e W5 ⟨A38_0, n38_0, c38_0, y38_1, rfl, hF38_0, hy38_1, he5⟩
  refine ⟨_, rfl, ?_⟩
  replace hE := Ext.trans hE he5
  replace h_b := h_b.ext he5
  replace h_put := h_put.ext he5
  replace hF19 := hF19.ext he5
  replace hF25 := hF25.ext he5
  replace hF30_0 := hF30_0.ext he5
  have hs5 := he5.size
  have hn38_0 := hF38_0.ln
  try simp only [List.length_append, List.length_cons, List.length_nil, List.length_set, List.length_take, List.length_drop, List.length_replicate, Nat.zero_add, Nat.add_zero, le_len] at hn38_0
  have hc38_0 := hF38_0.cap
  refine RL_q rfl (Yd_move rfl) (RL_q rfl (Yd_extract rfl rfl) (RL_q rfl (Yd_extract rfl rfl) (RL_q rfl (Yd_assign rfl) (RL_q rfl (Yd_assign rfl) (RL_nil (X_then (C_seq (C_region (RL_q rfl (Yd_move rfl) (RL_q rfl (Yd_move rfl) (RL_l rfl (Ld_call Try.func26 rfl (by kernel_rfl) rfl (cGetV hF30_0.vw ⟨by first | omega | (dsimp only; omega), by first | omega | (dsimp only; omega)⟩ ⟨by first | omega | (dsimp only; omega), by first | omega | (dsimp only; omega)⟩) ?_))))))))))))
  rintro e W6 ⟨A44_0, n44_0, c44_0, y44_1, rfl, hF44_0, hy44_1, he6⟩
  refine ⟨_, rfl, ?_⟩
  replace hE := Ext.trans hE he6
  replace h_b := h_b.ext he6
  replace h_put := h_put.ext he6
  replace hF19 := hF19.ext he6
  replace hF25 := hF25.ext he6
  replace hF30_0 := hF30_0.ext he6
  replace hF38_0 := hF38_0.ext he6
  have hs6 := he6.size
  have hn44_0 := hF44_0.ln
  try simp only [List.length_append, List.length_cons, List.length_nil, List.length_set, List.length_take, List.length_drop, List.length_replicate, Nat.zero_add, Nat.add_zero, le_len] at hn44_0
  have hc44_0 := hF44_0.cap
  refine RL_q rfl (Yd_move rfl) (RL_q rfl (Yd_extract rfl rfl) (RL_q rfl (Yd_extract rfl rfl) (RL_q rfl (Yd_assign rfl) (RL_q rfl (Yd_assign rfl) (RL_nil (X_then (C_seq (C_region (RL_q rfl (Yd_move rfl) (RL_q rfl (Yd_move rfl) (RL_q rfl (Yd_move rfl) (RL_q rfl (Yd_len Try.underlying22 rfl) (RL_q rfl (Yd_add rfl rfl (i64w (by omega) (by omega))) (RL_q rfl (Yd_move rfl) (RL_q rfl (Yd_sub rfl rfl (i64w (by omega) (by omega))) (RL_q rfl (Yd_move rfl) (RL_q rfl (Yd_len Try.underlying22 rfl) (RL_q rfl (Yd_sub rfl rfl (i64w (by omega) (by omega))) (RL_l rfl (Ld_call Try.func26 rfl (by kernel_rfl) rfl (cGetV hF30_0.vw ⟨by first | omega | (dsimp only; omega), by first | omega | (dsimp only; omega)⟩ ⟨by first | omega | (dsimp only; omega), by first | omega | (dsimp only; omega)⟩) ?_))))))))))))))))))))
  rintro e W7 ⟨A58_0, n58_0, c58_0, y58_1, rfl, hF58_0, hy58_1, he7⟩
  refine ⟨_, rfl, ?_⟩
  replace hE := Ext.trans hE he7
  replace h_b := h_b.ext he7
  replace h_put := h_put.ext he7
  replace hF19 := hF19.ext he7
  replace hF25 := hF25.ext he7
  replace hF30_0 := hF30_0.ext he7
  replace hF38_0 := hF38_0.ext he7
  replace hF44_0 := hF44_0.ext he7
  have hs7 := he7.size
  have hn58_0 := hF58_0.ln
  try simp only [List.length_append, List.length_cons, List.length_nil, List.length_set, List.length_take, List.length_drop, List.length_replicate, Nat.zero_add, Nat.add_zero, le_len] at hn58_0
  have hc58_0 := hF58_0.cap
  refine RL_q rfl (Yd_move rfl) (RL_q rfl (Yd_extract rfl rfl) (RL_q rfl (Yd_extract rfl rfl) (RL_q rfl (Yd_assign rfl) (RL_q rfl (Yd_assign rfl) (RL_nil (X_then (C_seq (?_))))))))
  refine C_regionD (NoB) (l := [(0, true), (1, true), (2, true), (3, true), (4, true), (5, true), (6, true), (7, true), (8, true), (9, true), (10, true), (11, true), (12, true), (13, true), (14, true), (15, true), (16, true), (17, true), (18, true), (19, true), (20, true), (21, true), (22, true), (23, true), (24, true), (25, true), (26, true), (27, true), (28, true), (29, true), (30, true), (31, true), (32, true), (33, true), (34, true), (35, true), (36, true), (37, true), (38, true), (39, true), (40, true), (41, true), (42, true), (43, false), (44, true), (45, true)]) (by kernel_rfl) (by kernel_rfl) rfl (by kernel_rfl) (fun _ _ d _ _ h => by cases d <;> exact h) ?_
  intro W8 he8 hh8
  replace hE := Ext.trans hE he8
  replace h_b := h_b.ext he8
  replace h_put := h_put.ext he8
  replace hF19 := hF19.ext he8
  replace hF25 := hF25.ext he8
  replace hF30_0 := hF30_0.ext he8
  replace hF38_0 := hF38_0.ext he8
  replace hF44_0 := hF44_0.ext he8
  replace hF58_0 := hF58_0.ext he8
  have hs8 := he8.size
  refine RO_q rfl rfl (Yd_move rfl) (RO_q rfl rfl (Yd_eql rfl rfl) (RO_q rfl rfl (Yd_move rfl) (?_)))
  refine RO_is (d := 63) (b' := true) rfl (by rw [hy30_1, hP.2.1]; rfl) ?_
  refine RO_gq rfl rfl rfl rfl (Yd_move rfl) (RO_gq rfl rfl rfl rfl (Yd_eql rfl rfl) (RO_q rfl rfl (Yd_pickT rfl rfl) (RO_q rfl rfl (Yd_move rfl) (?_))))
  refine RO_is (d := 67) (b' := true) rfl (by rw [hy38_1, hP.2.2.1]; rfl) ?_
  refine RO_gq rfl rfl rfl rfl (Yd_move rfl) (RO_gq rfl rfl rfl rfl (Yd_eql rfl rfl) (RO_q rfl rfl (Yd_pickT rfl rfl) (RO_q rfl rfl (Yd_move rfl) (?_))))
  refine RO_is (d := 71) (b' := true) rfl (by rw [hy44_1, hP.2.2.2.1]; rfl) ?_
  refine RO_gq rfl rfl rfl rfl (Yd_move rfl) (RO_gq rfl rfl rfl rfl (Yd_eql rfl rfl) (RO_q rfl rfl (Yd_pickT rfl rfl) (RO_q rfl rfl (Yd_move rfl) (?_))))
  refine RO_is (d := 75) (b' := true) rfl (by rw [hy58_1, hP.2.2.2.2.1]; rfl) ?_
  refine RO_gq rfl rfl rfl rfl (Yd_move rfl) (RO_gq rfl rfl rfl rfl (Yd_str Try.underlying22 Try.underlying5 Try.underlying9 rfl (fun W hW => Rd.ext (hF38_0.vw).u8 hW.ext)) (RO_gq rfl rfl rfl rfl (Yd_move rfl) (RO_gq rfl rfl rfl rfl (Yd_str Try.underlying22 Try.underlying5 Try.underlying9 rfl (fun W hW => Rd.ext (hF25.vw).u8 hW.ext)) (RO_gq rfl rfl rfl rfl (Yd_eqlSB rfl rfl hF38_0.byt hF25.byt) (RO_q rfl rfl (Yd_pickT rfl rfl) (RO_q rfl rfl (Yd_move rfl) (?_)))))))
  refine RO_is (d := 82) (b' := true) rfl (by simpa using hP.2.2.2.2.2.1) ?_
  refine RO_gq rfl rfl rfl rfl (Yd_move rfl) (RO_gq rfl rfl rfl rfl (Yd_str Try.underlying22 Try.underlying5 Try.underlying9 rfl (fun W hW => Rd.ext (hF44_0.vw).u8 hW.ext)) (RO_gq rfl rfl rfl rfl (Yd_move rfl) (RO_gq rfl rfl rfl rfl (Yd_move rfl) (RO_gq rfl rfl rfl rfl (Yd_sliceH Try.underlying22 (sz := 1) (by kernel_rfl) rfl rfl (by omega) (by omega)) (RO_gq rfl rfl rfl rfl (Yd_str Try.underlying22 Try.underlying5 Try.underlying9 rfl (fun W hW => Rd.ext ((Vw.take hF19.vw (by omega))).u8 hW.ext)) (RO_gq rfl rfl rfl rfl (Yd_eqlSB rfl rfl hF44_0.byt (Vw.take hF19.vw (by omega)).byt) (RO_q rfl rfl (Yd_pickT rfl rfl) (RO_q rfl rfl (Yd_move rfl) (?_)))))))))
  refine RO_is (d := 91) (b' := true) rfl (by simpa using hP.2.2.2.2.2.2.1) ?_
  refine RO_gq rfl rfl rfl rfl (Yd_move rfl) (RO_gq rfl rfl rfl rfl (Yd_str Try.underlying22 Try.underlying5 Try.underlying9 rfl (fun W hW => Rd.ext (hF58_0.vw).u8 hW.ext)) (RO_gq rfl rfl rfl rfl (Yd_move rfl) (RO_gq rfl rfl rfl rfl (Yd_move rfl) (RO_gq rfl rfl rfl rfl (Yd_move rfl) (RO_gq rfl rfl rfl rfl (Yd_len Try.underlying22 rfl) (RO_gq rfl rfl rfl rfl (Yd_add rfl rfl (i64w (by omega) (by omega))) (RO_gq rfl rfl rfl rfl (Yd_sliceL Try.underlying22 (sz := 1) (by kernel_rfl) rfl rfl (by omega) (by omega)) (RO_gq rfl rfl rfl rfl (Yd_str Try.underlying22 Try.underlying5 Try.underlying9 rfl (fun W hW => Rd.ext ((Vw.drop hF19.vw (by omega))).u8 hW.ext)) (RO_gq rfl rfl rfl rfl (Yd_eqlSB rfl rfl hF58_0.byt (Vw.drop hF19.vw (by omega)).byt) (RO_q rfl rfl (Yd_pickT rfl rfl) (RO_q rfl rfl (Yd_move rfl) (?_))))))))))))
  refine RO_is (d := 103) (b' := true) rfl (by simpa using hP.2.2.2.2.2.2.2) ?_
  refine RO_gl rfl rfl rfl rfl (Ld_call Try.func30 rfl (by kernel_rfl) rfl (lives08V ) ?_)
  rintro e W9 ⟨_, rfl, rfl, he9⟩
  refine ⟨_, rfl, ?_⟩
  refine ⟨Kp.of_ext he9, ?_⟩
  replace hE := Ext.trans hE he9
  replace h_b := h_b.ext he9
  replace h_put := h_put.ext he9
  replace hF19 := hF19.ext he9
  replace hF25 := hF25.ext he9
  replace hF30_0 := hF30_0.ext he9
  replace hF38_0 := hF38_0.ext he9
  replace hF44_0 := hF44_0.ext he9
  replace hF58_0 := hF58_0.ext he9
  have hs9 := he9.size
  refine RO_q rfl rfl (Yd_pickT rfl rfl) (RO_q rfl rfl (Yd_assign rfl) (RO_nil (X_then (C_ret (X_ret1 rfl rfl ?_)))))
  refine ⟨_, rfl, ?_, hE⟩
  all_goals (first | rfl | omega | simp)
end Go.Proofs.AL
