import Derived.Test.YtikfkmcgdceaoaaSpec
set_option linter.unusedVariables false
set_option linter.unusedSimpArgs false
namespace Go.Proofs.AL
open Go.RowKit
theorem ClockTurnsV {lo_l B_l : Nat} {A_l : Option Addr} {n_l c_l : Nat} {l : List F} {hand : Int} {w : World}  (h_l : Vw tF w lo_l B_l A_l n_l c_l l) (b_hand : -9223372036854775808 ≤ hand ∧ hand ≤ 9223372036854775807) (hz : n_l * 16 ≤ 140737488351232) :
    Calls Try.prog 14 #[.slice A_l n_l c_l, .int .i64 hand] w fun e w' => ∃ (x0 : Bool), e = .returned (.bool x0) ∧ x0 = (true) ∧ Ext w w' := by
  have hE := Ext.refl w
  replace h_l := h_l.fit
  have hn_l := h_l.ln
  have hc_l := h_l.cap
  have hm_l := h_l.max
  simp only [maxLen] at hm_l
  refine calls_of (l := [.slice A_l n_l c_l, .int .i64 hand]) (N := 86) Try.func14 rfl rfl rfl ?_
  refine C_seq (C_region (RL_q rfl (Yd_assign rfl) (RL_nil (X_then (C_seq (C_region (RL_q rfl (Yd_move rfl) (RL_l rfl (Ld_call Try.func34 rfl (by kernel_rfl) rfl (asV h_l (by omega)) ?_)))))))))
  rintro e W1 ⟨A14, n14, c14, rfl, hF14, he1⟩
  refine ⟨_, rfl, ?_⟩
  replace hE := Ext.trans hE he1
  replace h_l := h_l.ext he1
  have hs1 := he1.size
  have hn14 := hF14.ln
  try simp only [List.length_append, List.length_cons, List.length_nil, List.length_set, List.length_take, List.length_drop, List.length_replicate, List.length_map, Nat.zero_add, Nat.add_zero, turn0_len] at hn14
  have hc14 := hF14.cap
  refine RL_l rfl (Ld_call Try.func33 rfl (by kernel_rfl) rfl (GoodR hF14.vw) ?_)
  rintro e W2 ⟨A15, n15, c15, rfl, hF15, hgl15, he2⟩
  refine ⟨_, rfl, ?_⟩
  replace hE := Ext.trans hE he2
  replace h_l := h_l.ext he2
  replace hF14 := hF14.ext he2
  have hs2 := he2.size
  have hn15 := hF15.ln
  try simp only [List.length_append, List.length_cons, List.length_nil, List.length_set, List.length_take, List.length_drop, List.length_replicate, List.length_map, Nat.zero_add, Nat.add_zero, turn0_len] at hn15
  have hc15 := hF15.cap
  refine RL_l rfl (Ld_call Try.func32 rfl (by kernel_rfl) rfl (ofV hF15.vw (by omega)) ?_)
  rintro e W3 ⟨A16, n16, c16, rfl, hF16, he3⟩
  refine ⟨_, rfl, ?_⟩
  replace hE := Ext.trans hE he3
  replace h_l := h_l.ext he3
  replace hF14 := hF14.ext he3
  replace hF15 := hF15.ext he3
  have hs3 := he3.size
  have hn16 := hF16.ln
  try simp only [List.length_append, List.length_cons, List.length_nil, List.length_set, List.length_take, List.length_drop, List.length_replicate, List.length_map, Nat.zero_add, Nat.add_zero, turn0_len] at hn16
  have hc16 := hF16.cap
  refine RL_q rfl (Yd_assign rfl) (RL_nil (X_then (C_seq (C_region (RL_q rfl (Yd_assign rfl) (RL_nil (X_then (C_seq (C_region (RL_q rfl (Yd_move rfl) (RL_q rfl (Yd_move rfl) (RL_l rfl (Ld_apO (T := tF) Try.underlying56 Try.elt25 rfl rfl rfl (Ow.nil (lo := W3.heap.size) (B := W3.heap.size)) hF16.vw (by simp only [maxLen]; omega) (by omega) (by omega) ?_)))))))))))))
  intro A19 c19 W4 hO19 hk4
  have he4 : Ext W3 W4 := Ext.kp (Ext.refl _) hk4 (fun k hk => by first | omega | (have hk := hk; dsimp only at hk; omega))
  replace hE := Ext.trans hE he4
  replace h_l := h_l.ext he4
  replace hF14 := hF14.ext he4
  replace hF15 := hF15.ext he4
  replace hF16 := hF16.ext he4
  have hs4 := he4.size
  have hn19 := hO19.ln
  try simp only [List.length_append, List.length_cons, List.length_nil, List.length_set, List.length_take, List.length_drop, List.length_replicate, List.length_map, Nat.zero_add, Nat.add_zero, turn0_len] at hn19
  have hc19 := hO19.cap
  refine RL_q rfl (Yd_assign rfl) (RL_nil (X_then (C_seq (C_region (RL_q rfl (Yd_move rfl) (RL_q rfl (Yd_move rfl) (RL_q rfl (Yd_len Try.underlying56 rfl) (RL_l rfl (Ld_call Try.func15 rfl (by kernel_rfl) rfl (AroundV ⟨by first | omega | (dsimp only; omega), by first | omega | (dsimp only; omega)⟩ ⟨by first | omega | (dsimp only; omega), by first | omega | (dsimp only; omega)⟩) ?_)))))))))
  rintro e W5 ⟨y23, rfl, hy23, hra23, rfl⟩
  refine ⟨_, rfl, ?_⟩
  refine RL_q rfl (Yd_assign rfl) (RL_nil (X_then (C_seq (C_region (RL_q rfl (Yd_move rfl) (RL_l rfl (Ld_call Try.func34 rfl (by kernel_rfl) rfl (asV hO19.vw (by omega)) ?_)))))))
  rintro e W6 ⟨A25, n25, c25, rfl, hF25, he6⟩
  refine ⟨_, rfl, ?_⟩
  replace hE := Ext.trans hE he6
  replace h_l := h_l.ext he6
  replace hF14 := hF14.ext he6
  replace hF15 := hF15.ext he6
  replace hF16 := hF16.ext he6
  replace hO19 := hO19.ext he6
  have hs6 := he6.size
  have hn25 := hF25.ln
  try simp only [List.length_append, List.length_cons, List.length_nil, List.length_set, List.length_take, List.length_drop, List.length_replicate, List.length_map, Nat.zero_add, Nat.add_zero, turn0_len] at hn25
  have hc25 := hF25.cap
  refine RL_q rfl (Yd_move rfl) (RL_l rfl (Ld_call Try.func40 rfl (by kernel_rfl) rfl (refTurnZ hF25.vw ⟨by first | omega | (dsimp only; omega), by first | omega | (dsimp only; omega)⟩ (by omega) (by omega) (by omega)) ?_))
  rintro e W7 ⟨v27, nx27, lk27, AR27, nR27, cR27, rfl, hv27, hnx27, hlk27, hR27, he7⟩
  refine ⟨_, rfl, ?_⟩
  replace hE := Ext.trans hE he7
  replace h_l := h_l.ext he7
  replace hF14 := hF14.ext he7
  replace hF15 := hF15.ext he7
  replace hF16 := hF16.ext he7
  replace hO19 := hO19.ext he7
  replace hF25 := hF25.ext he7
  have hs7 := he7.size
  have hnR27 := hR27.ln
  rw [turn0_len] at hnR27
  refine RL_l rfl (Ld_alloc (v := (.agg #[(.int .i64 0), (.int .i64 0), (.slice none 0 0), (.int .i64 0)])) (by kernel_rfl) ?_)
  have hg_8 := hE.size
  intro W8 he8 hz8 hB8
  replace hE := Ext.trans hE he8
  replace h_l := h_l.ext he8
  replace hF14 := hF14.ext he8
  replace hF15 := hF15.ext he8
  replace hF16 := hF16.ext he8
  replace hO19 := hO19.ext he8
  replace hF25 := hF25.ext he8
  replace hR27 := hR27.ext he8
  refine RL_l0 (Ld_store (by kernel_rfl) rfl rfl hB8 (Nat.le_of_ble_eq_true rfl) (by simp [cellsL, Value.cells, Value.oneCell']) ?_)
  intro W9 hu9 hz9 hB8
  have hk9 := Kp.ofb hu9
  have hs9 := hk9.size
  replace hE := Ext.kp hE hk9 (fun k hk => by first | omega | (have hk := hk; dsimp only at hk; omega))
  replace h_l := h_l.kp hk9 (fun k hk => by first | omega | (have hk := hk; dsimp only at hk; omega))
  replace hF14 := hF14.kp hk9 (fun k hk => by first | omega | (have hk := hk; dsimp only at hk; omega))
  replace hF15 := hF15.kp hk9 (fun k hk => by first | omega | (have hk := hk; dsimp only at hk; omega))
  replace hF16 := hF16.kp hk9 (fun k hk => by first | omega | (have hk := hk; dsimp only at hk; omega))
  replace hO19 := hO19.kp hk9 (fun k hk => by first | omega | (have hk := hk; dsimp only at hk; omega))
  replace hF25 := hF25.kp hk9 (fun k hk => by first | omega | (have hk := hk; dsimp only at hk; omega))
  replace hR27 := hR27.kp hk9 (fun k hk => by first | omega | (have hk := hk; dsimp only at hk; omega))
  refine RL_nil (X_then (C_seq (C_region (RL_q rfl (Yd_move rfl) (RL_q rfl (Yd_move rfl) (RL_l rfl (Ld_call Try.func35 rfl (by kernel_rfl) rfl (TurnZ hF16.vw ⟨by first | omega | (dsimp only; omega), by first | omega | (dsimp only; omega)⟩ (by omega) (by omega) (by omega)) ?_)))))))
  rintro e W10 ⟨y31_0, y31_1, A31_2, n31_2, c31_2, _, rfl, hy31_0, hy31_1, hF31_2, rfl, he10⟩
  refine ⟨_, rfl, ?_⟩
  replace hE := Ext.trans hE he10
  replace h_l := h_l.ext he10
  replace hF14 := hF14.ext he10
  replace hF15 := hF15.ext he10
  replace hF16 := hF16.ext he10
  replace hO19 := hO19.ext he10
  replace hF25 := hF25.ext he10
  replace hR27 := hR27.ext he10
  replace hB8 := hB8.ext he10
  have hs10 := he10.size
  have hn31_2 := hF31_2.ln
  try simp only [List.length_append, List.length_cons, List.length_nil, List.length_set, List.length_take, List.length_drop, List.length_replicate, List.length_map, Nat.zero_add, Nat.add_zero, turn0_len] at hn31_2
  have hc31_2 := hF31_2.cap
  refine RL_q rfl (Yd_move rfl) (RL_q rfl (Yd_extract rfl rfl) (RL_q rfl (Yd_extract rfl rfl) (RL_q rfl (Yd_extract rfl rfl) (RL_q rfl (Yd_extract rfl rfl) (RL_q rfl (Yd_assign rfl) (RL_q rfl (Yd_assign rfl) (RL_q rfl (Yd_assign rfl) (RL_q rfl (Yd_assign rfl) (RL_nil (X_then (C_seq (?_))))))))))))
  refine C_regionD (NoB) (l := [(0, true), (1, true), (2, true), (3, true), (4, true), (5, true), (6, true), (7, true), (8, true), (9, true), (10, true), (11, true), (13, true), (14, true), (12, false), (15, false), (16, true), (17, true), (18, true), (19, true), (20, true), (21, true), (22, true), (23, true), (24, true), (25, true), (26, true), (28, true), (29, true), (27, false), (30, true), (31, true), (32, true), (33, true), (35, true), (34, false), (36, false), (37, false), (38, true), (39, true), (40, true), (41, true), (43, true), (42, false), (44, false), (45, false), (46, true), (47, true), (48, false), (49, true), (50, true)]) (by kernel_rfl) (by kernel_rfl) rfl (by kernel_rfl) (fun _ _ d _ _ h => by cases d <;> exact h) ?_
  intro W11 he11 hh11
  replace hE := Ext.trans hE he11
  replace h_l := h_l.ext he11
  replace hF14 := hF14.ext he11
  replace hF15 := hF15.ext he11
  replace hF16 := hF16.ext he11
  replace hO19 := hO19.ext he11
  replace hF25 := hF25.ext he11
  replace hR27 := hR27.ext he11
  replace hB8 := hB8.ext he11
  replace hF31_2 := hF31_2.ext he11
  have hs11 := he11.size
  refine RO_q rfl rfl (Yd_move rfl) (RO_q rfl rfl (Yd_fld (off := 0) Try.underlying69 (by kernel_rfl) rfl) (RO_q rfl rfl (Yd_load Try.underlying3 rfl rfl (fun W hW => (ldB hB8 rfl) W hW.ext)) (RO_q rfl rfl (Yd_eql rfl rfl) (RO_q rfl rfl (Yd_move rfl) (?_)))))
  refine RO_is (d := 40) (b' := true) rfl (by rw [hy31_0, hv27]; simp) ?_
  refine RO_gq rfl rfl rfl rfl (Yd_move rfl) (RO_gq rfl rfl rfl rfl (Yd_fld (off := 1) Try.underlying69 (by kernel_rfl) rfl) (RO_gq rfl rfl rfl rfl (Yd_load Try.underlying3 rfl rfl (fun W hW => (ldB hB8 rfl) W hW.ext)) (RO_gq rfl rfl rfl rfl (Yd_eql rfl rfl) (RO_q rfl rfl (Yd_pickT rfl rfl) (RO_q rfl rfl (Yd_move rfl) (?_))))))
  refine RO_is (d := 46) (b' := true) rfl (by rw [hy31_1, hnx27]; simp) ?_
  refine RO_gq rfl rfl rfl rfl (Yd_move rfl) (RO_gq rfl rfl rfl rfl (Yd_fld (off := 2) Try.underlying69 (by kernel_rfl) rfl) (RO_gq rfl rfl rfl rfl (Yd_load Try.underlying58 rfl rfl (fun W hW => (ldB hB8 rfl) W hW.ext)) (RO_gl rfl rfl rfl rfl (Ld_call Try.func34 rfl (by kernel_rfl) rfl (asV hF31_2.vw (by omega)) ?_))))
  rintro e W12 ⟨A48, n48, c48, rfl, hF48, he12⟩
  refine ⟨_, rfl, ?_⟩
  refine ⟨Kp.of_ext he12, ?_⟩
  replace hE := Ext.trans hE he12
  replace h_l := h_l.ext he12
  replace hF14 := hF14.ext he12
  replace hF15 := hF15.ext he12
  replace hF16 := hF16.ext he12
  replace hO19 := hO19.ext he12
  replace hF25 := hF25.ext he12
  replace hR27 := hR27.ext he12
  replace hB8 := hB8.ext he12
  replace hF31_2 := hF31_2.ext he12
  have hs12 := he12.size
  have hn48 := hF48.ln
  try simp only [List.length_append, List.length_cons, List.length_nil, List.length_set, List.length_take, List.length_drop, List.length_replicate, List.length_map, Nat.zero_add, Nat.add_zero, turn0_len] at hn48
  have hc48 := hF48.cap
  refine RO_gl rfl rfl rfl rfl (Ld_call Try.func38 rfl (by kernel_rfl) rfl (SameV hF48.vw hR27.vw) ?_)
  rintro e W13 ⟨_, rfl, rfl, he13⟩
  refine ⟨_, rfl, ?_⟩
  refine ⟨Kp.of_ext he13, ?_⟩
  replace hE := Ext.trans hE he13
  replace h_l := h_l.ext he13
  replace hF14 := hF14.ext he13
  replace hF15 := hF15.ext he13
  replace hF16 := hF16.ext he13
  replace hO19 := hO19.ext he13
  replace hF25 := hF25.ext he13
  replace hR27 := hR27.ext he13
  replace hB8 := hB8.ext he13
  replace hF31_2 := hF31_2.ext he13
  replace hF48 := hF48.ext he13
  have hs13 := he13.size
  refine RO_q rfl rfl (Yd_pickT rfl rfl) (RO_q rfl rfl (Yd_move rfl) (?_))
  refine RO_is (d := 53) (b' := true) rfl (by simp) ?_
  refine RO_gq rfl rfl rfl rfl (Yd_move rfl) (RO_gq rfl rfl rfl rfl (Yd_fld (off := 3) Try.underlying69 (by kernel_rfl) rfl) (RO_gq rfl rfl rfl rfl (Yd_load Try.underlying3 rfl rfl (fun W hW => (ldB hB8 rfl) W hW.ext)) (RO_gq rfl rfl rfl rfl (Yd_gtr rfl rfl) (RO_gq rfl rfl rfl rfl (Yd_eqlB Try.underlying4 rfl rfl) (RO_q rfl rfl (Yd_pickT rfl rfl) (RO_q rfl rfl (Yd_move rfl) (?_)))))))
  refine RO_is (d := 60) (b' := true) rfl (by rw [hlk27]; simp) ?_
  refine RO_gq rfl rfl rfl rfl (Yd_move rfl) (RO_gq rfl rfl rfl rfl (Yd_move rfl) (RO_gq rfl rfl rfl rfl (Yd_fld (off := 3) Try.underlying69 (by kernel_rfl) rfl) (RO_gq rfl rfl rfl rfl (Yd_load Try.underlying3 rfl rfl (fun W hW => (ldB hB8 rfl) W hW.ext)) (RO_gl rfl rfl rfl rfl (Ld_call Try.func37 rfl (by kernel_rfl) rfl (RoundsZ hF16.vw ⟨by first | omega | (dsimp only; omega), by first | omega | (dsimp only; omega)⟩ (by omega) (by omega) (by omega)) ?_)))))
  rintro e W14 ⟨y63, rfl, hy63, he14⟩
  refine ⟨_, rfl, ?_⟩
  refine ⟨Kp.of_ext he14, ?_⟩
  replace hE := Ext.trans hE he14
  replace h_l := h_l.ext he14
  replace hF14 := hF14.ext he14
  replace hF15 := hF15.ext he14
  replace hF16 := hF16.ext he14
  replace hO19 := hO19.ext he14
  replace hF25 := hF25.ext he14
  replace hR27 := hR27.ext he14
  replace hB8 := hB8.ext he14
  replace hF31_2 := hF31_2.ext he14
  replace hF48 := hF48.ext he14
  have hs14 := he14.size
  refine RO_gq rfl rfl rfl rfl (Yd_eql rfl rfl) (RO_q rfl rfl (Yd_pickT rfl rfl) (RO_q rfl rfl (Yd_move rfl) (?_)))
  refine RO_is (d := 68) (b' := true) rfl (by rw [hy63, hlk27]; simp) ?_
  refine RO_gq rfl rfl rfl rfl (Yd_move rfl) (RO_gq rfl rfl rfl rfl (Yd_move rfl) (RO_gl rfl rfl rfl rfl (Ld_call Try.func41 rfl (by kernel_rfl) rfl (FreeZ hF16.vw (by omega)) ?_)))
  rintro e W15 ⟨y70, rfl, hy70, he15⟩
  refine ⟨_, rfl, ?_⟩
  refine ⟨Kp.of_ext he15, ?_⟩
  replace hE := Ext.trans hE he15
  replace h_l := h_l.ext he15
  replace hF14 := hF14.ext he15
  replace hF15 := hF15.ext he15
  replace hF16 := hF16.ext he15
  replace hO19 := hO19.ext he15
  replace hF25 := hF25.ext he15
  replace hR27 := hR27.ext he15
  replace hB8 := hB8.ext he15
  replace hF31_2 := hF31_2.ext he15
  replace hF48 := hF48.ext he15
  have hs15 := he15.size
  refine RO_gl rfl rfl rfl rfl (Ld_call Try.func34 rfl (by kernel_rfl) rfl (asV hF16.vw (by omega)) ?_)
  rintro e W16 ⟨A72, n72, c72, rfl, hF72, he16⟩
  refine ⟨_, rfl, ?_⟩
  refine ⟨Kp.of_ext he16, ?_⟩
  replace hE := Ext.trans hE he16
  replace h_l := h_l.ext he16
  replace hF14 := hF14.ext he16
  replace hF15 := hF15.ext he16
  replace hF16 := hF16.ext he16
  replace hO19 := hO19.ext he16
  replace hF25 := hF25.ext he16
  replace hR27 := hR27.ext he16
  replace hB8 := hB8.ext he16
  replace hF31_2 := hF31_2.ext he16
  replace hF48 := hF48.ext he16
  have hs16 := he16.size
  have hn72 := hF72.ln
  try simp only [List.length_append, List.length_cons, List.length_nil, List.length_set, List.length_take, List.length_drop, List.length_replicate, List.length_map, Nat.zero_add, Nat.add_zero, turn0_len] at hn72
  have hc72 := hF72.cap
  refine RO_gl rfl rfl rfl rfl (Ld_call Try.func36 rfl (by kernel_rfl) rfl (refFree hF72.vw (by omega)) ?_)
  rintro e W17 ⟨y73, rfl, hy73, he17⟩
  refine ⟨_, rfl, ?_⟩
  refine ⟨Kp.of_ext he17, ?_⟩
  replace hE := Ext.trans hE he17
  replace h_l := h_l.ext he17
  replace hF14 := hF14.ext he17
  replace hF15 := hF15.ext he17
  replace hF16 := hF16.ext he17
  replace hO19 := hO19.ext he17
  replace hF25 := hF25.ext he17
  replace hR27 := hR27.ext he17
  replace hB8 := hB8.ext he17
  replace hF31_2 := hF31_2.ext he17
  replace hF48 := hF48.ext he17
  replace hF72 := hF72.ext he17
  have hs17 := he17.size
  refine RO_gq rfl rfl rfl rfl (Yd_eql rfl rfl) (RO_q rfl rfl (Yd_pickT rfl rfl) (RO_q rfl rfl (Yd_move rfl) (?_)))
  refine RO_is (d := 76) (b' := true) rfl (by rw [hy70, hy73]; simp) ?_
  refine RO_gq rfl rfl rfl rfl (Yd_move rfl) (RO_gq rfl rfl rfl rfl (Yd_move rfl) (RO_gl rfl rfl rfl rfl (Ld_call Try.func34 rfl (by kernel_rfl) rfl (asV hF16.vw (by omega)) ?_)))
  rintro e W18 ⟨A78, n78, c78, rfl, hF78, he18⟩
  refine ⟨_, rfl, ?_⟩
  refine ⟨Kp.of_ext he18, ?_⟩
  replace hE := Ext.trans hE he18
  replace h_l := h_l.ext he18
  replace hF14 := hF14.ext he18
  replace hF15 := hF15.ext he18
  replace hF16 := hF16.ext he18
  replace hO19 := hO19.ext he18
  replace hF25 := hF25.ext he18
  replace hR27 := hR27.ext he18
  replace hB8 := hB8.ext he18
  replace hF31_2 := hF31_2.ext he18
  replace hF48 := hF48.ext he18
  replace hF72 := hF72.ext he18
  have hs18 := he18.size
  have hn78 := hF78.ln
  try simp only [List.length_append, List.length_cons, List.length_nil, List.length_set, List.length_take, List.length_drop, List.length_replicate, List.length_map, Nat.zero_add, Nat.add_zero, turn0_len] at hn78
  have hc78 := hF78.cap
  refine RO_gl rfl rfl rfl rfl (Ld_call Try.func34 rfl (by kernel_rfl) rfl (asV hO19.vw (by omega)) ?_)
  rintro e W19 ⟨A80, n80, c80, rfl, hF80, he19⟩
  refine ⟨_, rfl, ?_⟩
  refine ⟨Kp.of_ext he19, ?_⟩
  replace hE := Ext.trans hE he19
  replace h_l := h_l.ext he19
  replace hF14 := hF14.ext he19
  replace hF15 := hF15.ext he19
  replace hF16 := hF16.ext he19
  replace hO19 := hO19.ext he19
  replace hF25 := hF25.ext he19
  replace hR27 := hR27.ext he19
  replace hB8 := hB8.ext he19
  replace hF31_2 := hF31_2.ext he19
  replace hF48 := hF48.ext he19
  replace hF72 := hF72.ext he19
  replace hF78 := hF78.ext he19
  have hs19 := he19.size
  have hn80 := hF80.ln
  try simp only [List.length_append, List.length_cons, List.length_nil, List.length_set, List.length_take, List.length_drop, List.length_replicate, List.length_map, Nat.zero_add, Nat.add_zero, turn0_len] at hn80
  have hc80 := hF80.cap
  refine RO_gl rfl rfl rfl rfl (Ld_call Try.func38 rfl (by kernel_rfl) rfl (SameV hF78.vw hF80.vw) ?_)
  rintro e W20 ⟨_, rfl, rfl, he20⟩
  refine ⟨_, rfl, ?_⟩
  refine ⟨Kp.of_ext he20, ?_⟩
  replace hE := Ext.trans hE he20
  replace h_l := h_l.ext he20
  replace hF14 := hF14.ext he20
  replace hF15 := hF15.ext he20
  replace hF16 := hF16.ext he20
  replace hO19 := hO19.ext he20
  replace hF25 := hF25.ext he20
  replace hR27 := hR27.ext he20
  replace hB8 := hB8.ext he20
  replace hF31_2 := hF31_2.ext he20
  replace hF48 := hF48.ext he20
  replace hF72 := hF72.ext he20
  replace hF78 := hF78.ext he20
  replace hF80 := hF80.ext he20
  have hs20 := he20.size
  refine RO_q rfl rfl (Yd_pickT rfl rfl) (RO_q rfl rfl (Yd_move rfl) (?_))
  refine RO_is (d := 83) (b' := true) rfl (by simp) ?_
  refine RO_gl rfl rfl rfl rfl (Ld_call Try.func39 rfl (by kernel_rfl) rfl (lives13V ) ?_)
  rintro e W21 ⟨_, rfl, rfl, he21⟩
  refine ⟨_, rfl, ?_⟩
  refine ⟨Kp.of_ext he21, ?_⟩
  replace hE := Ext.trans hE he21
  replace h_l := h_l.ext he21
  replace hF14 := hF14.ext he21
  replace hF15 := hF15.ext he21
  replace hF16 := hF16.ext he21
  replace hO19 := hO19.ext he21
  replace hF25 := hF25.ext he21
  replace hR27 := hR27.ext he21
  replace hB8 := hB8.ext he21
  replace hF31_2 := hF31_2.ext he21
  replace hF48 := hF48.ext he21
  replace hF72 := hF72.ext he21
  replace hF78 := hF78.ext he21
  replace hF80 := hF80.ext he21
  have hs21 := he21.size
  refine RO_q rfl rfl (Yd_pickT rfl rfl) (RO_q rfl rfl (Yd_assign rfl) (RO_nil (X_then (C_ret (X_ret1 rfl rfl ?_)))))
  refine ⟨_, rfl, ?_, hE⟩
  all_goals (first | rfl | omega | simp)
end Go.Proofs.AL
