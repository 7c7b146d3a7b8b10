import Derived.Test.YtkognjdmoibpeaaCel
set_option linter.unusedVariables false
set_option linter.unusedSimpArgs false
namespace Go.Proofs.AL
open Go.RowKit
theorem CellBytesV {lo_b B_b : Nat} {A_b : Option Addr} {n_b c_b : Nat} {b : List Int} {off : Int} {n : Int} {lo_put B_put : Nat} {A_put : Option Addr} {n_put c_put : Nat} {put : List Int} {w : World}  (h_b : Vw tU8 w lo_b B_b A_b n_b c_b b) (b_off : -9223372036854775808 ≤ off ∧ off ≤ 9223372036854775807) (b_n : -9223372036854775808 ≤ n ∧ n ≤ 9223372036854775807) (h_put : Vw tU8 w lo_put B_put A_put n_put c_put put) :
    Calls Try.prog 9 #[.slice A_b n_b c_b, .int .i64 off, .int .i64 n, .slice A_put n_put c_put] w fun e w' => ∃ (x0 : Bool), e = .returned (.bool x0) ∧ x0 = (true) ∧ Ext w w' := by
  have hE := Ext.refl w
  replace h_b := h_b.fit
  have hn_b := h_b.ln
  have hc_b := h_b.cap
  have hm_b := h_b.max
  simp only [maxLen] at hm_b
  replace h_put := h_put.fit
  have hn_put := h_put.ln
  have hc_put := h_put.cap
  have hm_put := h_put.max
  simp only [maxLen] at hm_put
  refine calls_of (l := [.slice A_b n_b c_b, .int .i64 off, .int .i64 n, .slice A_put n_put c_put]) (N := 138) Try.func9 rfl rfl rfl ?_
  refine C_seq (C_region (RL_q rfl (Yd_assign rfl) (RL_nil (X_then (C_seq (C_region (RL_q rfl (Yd_move rfl) (RL_l rfl (Ld_call Try.func25 rfl (by kernel_rfl) rfl (FillV h_b ⟨by first | omega | (dsimp only; omega), by first | omega | (dsimp only; omega)⟩) ?_)))))))))
  rintro e W1 ⟨A23, n23, c23, rfl, hF23, hfl23, he1⟩
  refine ⟨_, rfl, ?_⟩
  replace hE := Ext.trans hE he1
  replace h_b := h_b.ext he1
  replace h_put := h_put.ext he1
  have hs1 := he1.size
  have hn23 := hF23.ln
  try simp only [List.length_append, List.length_cons, List.length_nil, List.length_set, List.length_take, List.length_drop, List.length_replicate, Nat.zero_add, Nat.add_zero, le_len] at hn23
  have hc23 := hF23.cap
  refine RL_q rfl (Yd_move rfl) (RL_l rfl (Ld_call Try.func25 rfl (by kernel_rfl) rfl (FillV h_b ⟨by first | omega | (dsimp only; omega), by first | omega | (dsimp only; omega)⟩) ?_))
  rintro e W2 ⟨A25, n25, c25, rfl, hF25, hfl25, he2⟩
  refine ⟨_, rfl, ?_⟩
  replace hE := Ext.trans hE he2
  replace h_b := h_b.ext he2
  replace h_put := h_put.ext he2
  replace hF23 := hF23.ext he2
  have hs2 := he2.size
  have hn25 := hF25.ln
  try simp only [List.length_append, List.length_cons, List.length_nil, List.length_set, List.length_take, List.length_drop, List.length_replicate, Nat.zero_add, Nat.add_zero, le_len] at hn25
  have hc25 := hF25.cap
  refine RL_q rfl (Yd_move rfl) (RL_l rfl (Ld_call Try.func15 rfl (by kernel_rfl) rfl (FewV h_b ⟨by first | omega | (dsimp only; omega), by first | omega | (dsimp only; omega)⟩) ?_))
  rintro e W3 ⟨A27, n27, c27, rfl, hF27, hle27, he3⟩
  refine ⟨_, rfl, ?_⟩
  replace hE := Ext.trans hE he3
  replace h_b := h_b.ext he3
  replace h_put := h_put.ext he3
  replace hF23 := hF23.ext he3
  replace hF25 := hF25.ext he3
  have hs3 := he3.size
  have hn27 := hF27.ln
  try simp only [List.length_append, List.length_cons, List.length_nil, List.length_set, List.length_take, List.length_drop, List.length_replicate, Nat.zero_add, Nat.add_zero, le_len] at hn27
  have hc27 := hF27.cap
  try rw [hle27.2.2.1 (by omega)] at hF27 hn27
  refine RL_l rfl (Ld_lit Try.underlying37 rfl (lit_flat Try.underlying37 Try.elt22 rfl rfl ⟨rfl, by decide⟩) ?_)
  intro W4 he4 hz4 hL28
  replace hE := Ext.trans hE he4
  replace h_b := h_b.ext he4
  replace h_put := h_put.ext he4
  replace hF23 := hF23.ext he4
  replace hF25 := hF25.ext he4
  replace hF27 := hF27.ext he4
  have hO28 := Ow.of_blk (T := tSl) (l := [⟨A23, n23, c23⟩, ⟨A25, n25, c25⟩, ⟨A27, n27, c27⟩]) hL28 rfl (n := 3) rfl (by simp [maxLen]) (okc trivial (okc trivial (okc trivial okn)))
  have hV28 := Vws.ofs (T := tU8) (N := 400) (hs := [⟨A23, n23, c23⟩, ⟨A25, n25, c25⟩, ⟨A27, n27, c27⟩]) (Vws.cons (hF23.vw.fit.more (Nat.zero_le _) (Nat.le_refl _)) (by omega) (Vws.cons (hF25.vw.fit.more (Nat.zero_le _) (Nat.le_refl _)) (by omega) (Vws.cons (hF27.vw.fit.more (Nat.zero_le _) (Nat.le_refl _)) (by omega) Vws.nil)))
  clear hL28
  refine RL_q rfl (Yd_assign rfl) (RL_nil (X_then (C_seq (C_region (RL_q rfl (Yd_move rfl) (RL_l rfl (Ld_call Try.func20 rfl (by kernel_rfl) rfl (AroundV ⟨by first | omega | (dsimp only; omega), by first | omega | (dsimp only; omega)⟩ ⟨by first | omega | (dsimp only; omega), by first | omega | (dsimp only; omega)⟩) ?_)))))))
  rintro e W5 ⟨y30, rfl, hy30, hra30, rfl⟩
  refine ⟨_, rfl, ?_⟩
  refine RL_q rfl (Yd_move rfl) (RL_q rfl (Yd_move rfl) (RL_l rfl (Ld_call Try.func20 rfl (by kernel_rfl) rfl (AroundV ⟨by first | omega | (dsimp only; omega), by first | omega | (dsimp only; omega)⟩ ⟨by first | omega | (dsimp only; omega), by first | omega | (dsimp only; omega)⟩) ?_)))
  rintro e W6 ⟨y33, rfl, hy33, hra33, rfl⟩
  refine ⟨_, rfl, ?_⟩
  refine RL_l rfl (Ld_lit Try.underlying38 rfl (lit_flat Try.underlying38 Try.elt3 rfl rfl ⟨rfl, by decide⟩) ?_)
  intro W7 he7 hz7 hL34
  replace hE := Ext.trans hE he7
  replace h_b := h_b.ext he7
  replace h_put := h_put.ext he7
  replace hF23 := hF23.ext he7
  replace hF25 := hF25.ext he7
  replace hF27 := hF27.ext he7
  replace hO28 := hO28.ext he7
  try replace hV28 := hV28.ext he7
  have hO34 := Ow.of_blk (T := tI64) (l := [y30, off, y33]) hL34 rfl (n := 3) rfl (by simp [maxLen]) (okc ⟨by omega, by omega⟩ (okc ⟨by omega, by omega⟩ (okc ⟨by omega, by omega⟩ okn)))
  clear hL34
  refine RL_q rfl (Yd_assign rfl) (RL_nil (X_then (C_seq (C_region (RL_q rfl (Yd_move rfl) (RL_l rfl (Ld_call Try.func20 rfl (by kernel_rfl) rfl (AroundV ⟨by first | omega | (dsimp only; omega), by first | omega | (dsimp only; omega)⟩ ⟨by first | omega | (dsimp only; omega), by first | omega | (dsimp only; omega)⟩) ?_)))))))
  rintro e W8 ⟨y36, rfl, hy36, hra36, rfl⟩
  refine ⟨_, rfl, ?_⟩
  refine RL_q rfl (Yd_move rfl) (RL_q rfl (Yd_move rfl) (RL_l rfl (Ld_call Try.func20 rfl (by kernel_rfl) rfl (AroundV ⟨by first | omega | (dsimp only; omega), by first | omega | (dsimp only; omega)⟩ ⟨by first | omega | (dsimp only; omega), by first | omega | (dsimp only; omega)⟩) ?_)))
  rintro e W9 ⟨y39, rfl, hy39, hra39, rfl⟩
  refine ⟨_, rfl, ?_⟩
  refine RL_l rfl (Ld_lit Try.underlying38 rfl (lit_flat Try.underlying38 Try.elt3 rfl rfl ⟨rfl, by decide⟩) ?_)
  intro W10 he10 hz10 hL40
  replace hE := Ext.trans hE he10
  replace h_b := h_b.ext he10
  replace h_put := h_put.ext he10
  replace hF23 := hF23.ext he10
  replace hF25 := hF25.ext he10
  replace hF27 := hF27.ext he10
  replace hO28 := hO28.ext he10
  try replace hV28 := hV28.ext he10
  replace hO34 := hO34.ext he10
  have hO40 := Ow.of_blk (T := tI64) (l := [y36, n, y39]) hL40 rfl (n := 3) rfl (by simp [maxLen]) (okc ⟨by omega, by omega⟩ (okc ⟨by omega, by omega⟩ (okc ⟨by omega, by omega⟩ okn)))
  clear hL40
  refine RL_q rfl (Yd_assign rfl) (RL_nil (X_then (C_seq (C_region (RL_q rfl (Yd_move rfl) (RL_l rfl (Ld_call Try.func15 rfl (by kernel_rfl) rfl (FewV h_put ⟨by first | omega | (dsimp only; omega), by first | omega | (dsimp only; omega)⟩) ?_)))))))
  rintro e W11 ⟨A42, n42, c42, rfl, hF42, hle42, he11⟩
  refine ⟨_, rfl, ?_⟩
  replace hE := Ext.trans hE he11
  replace h_b := h_b.ext he11
  replace h_put := h_put.ext he11
  replace hF23 := hF23.ext he11
  replace hF25 := hF25.ext he11
  replace hF27 := hF27.ext he11
  replace hO28 := hO28.ext he11
  try replace hV28 := hV28.ext he11
  replace hO34 := hO34.ext he11
  replace hO40 := hO40.ext he11
  have hs11 := he11.size
  have hn42 := hF42.ln
  try simp only [List.length_append, List.length_cons, List.length_nil, List.length_set, List.length_take, List.length_drop, List.length_replicate, Nat.zero_add, Nat.add_zero, le_len] at hn42
  have hc42 := hF42.cap
  try rw [hle42.2.2.1 (by omega)] at hF42 hn42
  refine RL_q rfl (Yd_assign rfl) (RL_nil (X_then (C_seq (C_seq (C_region (RL_q rfl (Yd_assign rfl) (RL_nil (X_then (C_block (C_rounds 4 (CR_succ (C_seq (C_seq (C_region (RL_q rfl (Yd_move rfl) (RL_q rfl (Yd_lss rfl rfl) (RL_nil (X_then (C_yes rfl rfl (C_skip (X_then (C_seq (C_block (C_seq (?_)))))))))))))))))))))))))
  refine C_regionD (NoB) (l := [(0, true), (1, true), (2, true), (3, true), (4, true), (5, true), (6, true), (7, true), (8, true), (9, true), (10, true), (11, true), (12, false), (13, true), (14, true), (15, true), (16, true), (17, true)]) (by kernel_rfl) (by kernel_rfl) rfl (by kernel_rfl) (fun _ _ d _ _ h => by cases d <;> exact h) ?_
  intro W12 he12 hh12
  replace hE := Ext.trans hE he12
  replace h_b := h_b.ext he12
  replace h_put := h_put.ext he12
  replace hF23 := hF23.ext he12
  replace hF25 := hF25.ext he12
  replace hF27 := hF27.ext he12
  replace hO28 := hO28.ext he12
  try replace hV28 := hV28.ext he12
  replace hO34 := hO34.ext he12
  replace hO40 := hO40.ext he12
  replace hF42 := hF42.ext he12
  have hs12 := he12.size
  refine RO_q rfl rfl (Yd_move rfl) (RO_q rfl rfl (Yd_move rfl) (RO_q rfl rfl (Yd_idxL Try.underlying37 (sz := 1) (by kernel_rfl) rfl rfl (by omega) (by omega)) (RO_q rfl rfl (Yd_load (v := .slice A23 n23 c23) Try.underlying22 rfl rfl (fun W hW => (Vw.lq1L hO28.vw (i := 0) (a := ⟨A23, n23, c23⟩) rfl rfl rfl) W hW.ext)) (RO_q rfl rfl (Yd_move rfl) (RO_q rfl rfl (Yd_move rfl) (RO_q rfl rfl (Yd_idxL Try.underlying38 (sz := 1) (by kernel_rfl) rfl rfl (by omega) (by omega)) (RO_q rfl rfl (Yd_load (v := .int .i64 y30) Try.underlying3 rfl rfl (fun W hW => (Vw.lq1L hO34.vw (i := 0) (a := y30) rfl rfl rfl) W hW.ext)) (RO_q rfl rfl (Yd_move rfl) (RO_q rfl rfl (Yd_move rfl) (RO_q rfl rfl (Yd_idxL Try.underlying38 (sz := 1) (by kernel_rfl) rfl rfl (by omega) (by omega)) (RO_q rfl rfl (Yd_load (v := .int .i64 y36) Try.underlying3 rfl rfl (fun W hW => (Vw.lq1L hO40.vw (i := 0) (a := y36) rfl rfl rfl) W hW.ext)) (RO_l rfl rfl (Ld_call Try.func26 rfl (by kernel_rfl) rfl (cGetV hF23.vw ⟨by first | omega | (dsimp only; omega), by first | omega | (dsimp only; omega)⟩ ⟨by first | omega | (dsimp only; omega), by first | omega | (dsimp only; omega)⟩) ?_)))))))))))))
  rintro e W13 ⟨A60_0, n60_0, c60_0, y60_1, rfl, hF60_0, hy60_1, he13⟩
  refine ⟨_, rfl, ?_⟩
  refine ⟨Kp.of_ext he13, ?_⟩
  replace hE := Ext.trans hE he13
  replace h_b := h_b.ext he13
  replace h_put := h_put.ext he13
  replace hF23 := hF23.ext he13
  replace hF25 := hF25.ext he13
  replace hF27 := hF27.ext he13
  replace hO28 := hO28.ext he13
  try replace hV28 := hV28.ext he13
  replace hO34 := hO34.ext he13
  replace hO40 := hO40.ext he13
  replace hF42 := hF42.ext he13
  have hs13 := he13.size
  have hn60_0 := hF60_0.ln
  try simp only [List.length_append, List.length_cons, List.length_nil, List.length_set, List.length_take, List.length_drop, List.length_replicate, Nat.zero_add, Nat.add_zero, le_len] at hn60_0
  have hc60_0 := hF60_0.cap
  refine RO_q rfl rfl (Yd_move rfl) (RO_q rfl rfl (Yd_extract rfl rfl) (RO_q rfl rfl (Yd_extract rfl rfl) (RO_q rfl rfl (Yd_assign rfl) (RO_q rfl rfl (Yd_assign rfl) (RO_nil (X_then (C_seq (?_))))))))
  refine C_regionD (NoB) (l := [(0, true), (1, true), (2, true), (3, true), (4, true), (5, true), (6, true), (7, true), (8, true), (9, true), (10, true), (11, true), (12, false), (13, true), (14, true), (15, true), (16, true), (17, true)]) (by kernel_rfl) (by kernel_rfl) rfl (by kernel_rfl) (fun _ _ d _ _ h => by cases d <;> exact h) ?_
  intro W14 he14 hh14
  replace hE := Ext.trans hE he14
  replace h_b := h_b.ext he14
  replace h_put := h_put.ext he14
  replace hF23 := hF23.ext he14
  replace hF25 := hF25.ext he14
  replace hF27 := hF27.ext he14
  replace hO28 := hO28.ext he14
  try replace hV28 := hV28.ext he14
  replace hO34 := hO34.ext he14
  replace hO40 := hO40.ext he14
  replace hF42 := hF42.ext he14
  replace hF60_0 := hF60_0.ext he14
  have hs14 := he14.size
  refine RO_q rfl rfl (Yd_move rfl) (RO_q rfl rfl (Yd_move rfl) (RO_q rfl rfl (Yd_idxL Try.underlying37 (sz := 1) (by kernel_rfl) rfl rfl (by omega) (by omega)) (RO_q rfl rfl (Yd_load (v := .slice A23 n23 c23) Try.underlying22 rfl rfl (fun W hW => (Vw.lq1L hO28.vw (i := 0) (a := ⟨A23, n23, c23⟩) rfl rfl rfl) W hW.ext)) (RO_q rfl rfl (Yd_move rfl) (RO_q rfl rfl (Yd_move rfl) (RO_q rfl rfl (Yd_idxL Try.underlying38 (sz := 1) (by kernel_rfl) rfl rfl (by omega) (by omega)) (RO_q rfl rfl (Yd_load (v := .int .i64 y30) Try.underlying3 rfl rfl (fun W hW => (Vw.lq1L hO34.vw (i := 0) (a := y30) rfl rfl rfl) W hW.ext)) (RO_q rfl rfl (Yd_move rfl) (RO_q rfl rfl (Yd_move rfl) (RO_q rfl rfl (Yd_idxL Try.underlying38 (sz := 1) (by kernel_rfl) rfl rfl (by omega) (by omega)) (RO_q rfl rfl (Yd_load (v := .int .i64 y36) Try.underlying3 rfl rfl (fun W hW => (Vw.lq1L hO40.vw (i := 0) (a := y36) rfl rfl rfl) W hW.ext)) (RO_l rfl rfl (Ld_call Try.func27 rfl (by kernel_rfl) rfl (refGetV hF23.vw ⟨by first | omega | (dsimp only; omega), by first | omega | (dsimp only; omega)⟩ ⟨by first | omega | (dsimp only; omega), by first | omega | (dsimp only; omega)⟩) ?_)))))))))))))
  rintro e W15 ⟨A76_0, n76_0, c76_0, y76_1, rfl, hF76_0, hy76_1, he15⟩
  refine ⟨_, rfl, ?_⟩
  refine ⟨Kp.of_ext he15, ?_⟩
  replace hE := Ext.trans hE he15
  replace h_b := h_b.ext he15
  replace h_put := h_put.ext he15
  replace hF23 := hF23.ext he15
  replace hF25 := hF25.ext he15
  replace hF27 := hF27.ext he15
  replace hO28 := hO28.ext he15
  try replace hV28 := hV28.ext he15
  replace hO34 := hO34.ext he15
  replace hO40 := hO40.ext he15
  replace hF42 := hF42.ext he15
  replace hF60_0 := hF60_0.ext he15
  have hs15 := he15.size
  have hn76_0 := hF76_0.ln
  try simp only [List.length_append, List.length_cons, List.length_nil, List.length_set, List.length_take, List.length_drop, List.length_replicate, Nat.zero_add, Nat.add_zero, le_len] at hn76_0
  have hc76_0 := hF76_0.cap
  refine RO_q rfl rfl (Yd_move rfl) (RO_q rfl rfl (Yd_extract rfl rfl) (RO_q rfl rfl (Yd_extract rfl rfl) (RO_q rfl rfl (Yd_assign rfl) (RO_q rfl rfl (Yd_assign rfl) (RO_nil (X_then (C_seq (?_))))))))
  refine C_regionD (NoB) (l := [(0, true), (1, true), (2, true), (3, true), (4, true), (5, true), (6, true), (7, true), (8, true), (9, false), (10, true), (11, true), (12, true), (13, true), (14, true)]) (by kernel_rfl) (by kernel_rfl) rfl (by kernel_rfl) (fun _ _ d _ _ h => by cases d <;> exact h) ?_
  intro W16 he16 hh16
  replace hE := Ext.trans hE he16
  replace h_b := h_b.ext he16
  replace h_put := h_put.ext he16
  replace hF23 := hF23.ext he16
  replace hF25 := hF25.ext he16
  replace hF27 := hF27.ext he16
  replace hO28 := hO28.ext he16
  try replace hV28 := hV28.ext he16
  replace hO34 := hO34.ext he16
  replace hO40 := hO40.ext he16
  replace hF42 := hF42.ext he16
  replace hF60_0 := hF60_0.ext he16
  replace hF76_0 := hF76_0.ext he16
  have hs16 := he16.size
  refine RO_q rfl rfl (Yd_move rfl) (RO_q rfl rfl (Yd_move rfl) (RO_q rfl rfl (Yd_idxL Try.underlying37 (sz := 1) (by kernel_rfl) rfl rfl (by omega) (by omega)) (RO_q rfl rfl (Yd_load (v := .slice A23 n23 c23) Try.underlying22 rfl rfl (fun W hW => (Vw.lq1L hO28.vw (i := 0) (a := ⟨A23, n23, c23⟩) rfl rfl rfl) W hW.ext)) (RO_q rfl rfl (Yd_move rfl) (RO_q rfl rfl (Yd_move rfl) (RO_q rfl rfl (Yd_idxL Try.underlying38 (sz := 1) (by kernel_rfl) rfl rfl (by omega) (by omega)) (RO_q rfl rfl (Yd_load (v := .int .i64 y30) Try.underlying3 rfl rfl (fun W hW => (Vw.lq1L hO34.vw (i := 0) (a := y30) rfl rfl rfl) W hW.ext)) (RO_q rfl rfl (Yd_move rfl) (RO_l rfl rfl (Ld_call Try.func28 rfl (by kernel_rfl) rfl (cPutV hF23.vw ⟨by first | omega | (dsimp only; omega), by first | omega | (dsimp only; omega)⟩ hF42.vw) ?_))))))))))
  rintro e W17 ⟨A89_0, n89_0, c89_0, y89_1, rfl, hF89_0, hy89_1, he17⟩
  refine ⟨_, rfl, ?_⟩
  refine ⟨Kp.of_ext he17, ?_⟩
  replace hE := Ext.trans hE he17
  replace h_b := h_b.ext he17
  replace h_put := h_put.ext he17
  replace hF23 := hF23.ext he17
  replace hF25 := hF25.ext he17
  replace hF27 := hF27.ext he17
  replace hO28 := hO28.ext he17
  try replace hV28 := hV28.ext he17
  replace hO34 := hO34.ext he17
  replace hO40 := hO40.ext he17
  replace hF42 := hF42.ext he17
  replace hF60_0 := hF60_0.ext he17
  replace hF76_0 := hF76_0.ext he17
  have hs17 := he17.size
  have hn89_0 := hF89_0.ln
  try simp only [List.length_append, List.length_cons, List.length_nil, List.length_set, List.length_take, List.length_drop, List.length_replicate, Nat.zero_add, Nat.add_zero, le_len] at hn89_0
  have hc89_0 := hF89_0.cap
  refine RO_q rfl rfl (Yd_move rfl) (RO_q rfl rfl (Yd_extract rfl rfl) (RO_q rfl rfl (Yd_extract rfl rfl) (RO_q rfl rfl (Yd_assign rfl) (RO_q rfl rfl (Yd_assign rfl) (RO_nil (X_then (C_seq (?_))))))))
  refine C_regionD (NoB) (l := [(0, true), (1, true), (2, true), (3, true), (4, true), (5, true), (6, true), (7, true), (8, true), (9, false), (10, true), (11, true), (12, true), (13, true), (14, true)]) (by kernel_rfl) (by kernel_rfl) rfl (by kernel_rfl) (fun _ _ d _ _ h => by cases d <;> exact h) ?_
  intro W18 he18 hh18
  replace hE := Ext.trans hE he18
  replace h_b := h_b.ext he18
  replace h_put := h_put.ext he18
  replace hF23 := hF23.ext he18
  replace hF25 := hF25.ext he18
  replace hF27 := hF27.ext he18
  replace hO28 := hO28.ext he18
  try replace hV28 := hV28.ext he18
  replace hO34 := hO34.ext he18
  replace hO40 := hO40.ext he18
  replace hF42 := hF42.ext he18
  replace hF60_0 := hF60_0.ext he18
  replace hF76_0 := hF76_0.ext he18
  replace hF89_0 := hF89_0.ext he18
  have hs18 := he18.size
  refine RO_q rfl rfl (Yd_move rfl) (RO_q rfl rfl (Yd_move rfl) (RO_q rfl rfl (Yd_idxL Try.underlying37 (sz := 1) (by kernel_rfl) rfl rfl (by omega) (by omega)) (RO_q rfl rfl (Yd_load (v := .slice A23 n23 c23) Try.underlying22 rfl rfl (fun W hW => (Vw.lq1L hO28.vw (i := 0) (a := ⟨A23, n23, c23⟩) rfl rfl rfl) W hW.ext)) (RO_q rfl rfl (Yd_move rfl) (RO_q rfl rfl (Yd_move rfl) (RO_q rfl rfl (Yd_idxL Try.underlying38 (sz := 1) (by kernel_rfl) rfl rfl (by omega) (by omega)) (RO_q rfl rfl (Yd_load (v := .int .i64 y30) Try.underlying3 rfl rfl (fun W hW => (Vw.lq1L hO34.vw (i := 0) (a := y30) rfl rfl rfl) W hW.ext)) (RO_q rfl rfl (Yd_move rfl) (RO_l rfl rfl (Ld_call Try.func29 rfl (by kernel_rfl) rfl (refPutV8 hF23.vw ⟨by first | omega | (dsimp only; omega), by first | omega | (dsimp only; omega)⟩ hF42.vw) ?_))))))))))
  rintro e W19 ⟨A102_0, n102_0, c102_0, y102_1, rfl, hF102_0, hy102_1, he19⟩
  refine ⟨_, rfl, ?_⟩
  refine ⟨Kp.of_ext he19, ?_⟩
  replace hE := Ext.trans hE he19
  replace h_b := h_b.ext he19
  replace h_put := h_put.ext he19
  replace hF23 := hF23.ext he19
  replace hF25 := hF25.ext he19
  replace hF27 := hF27.ext he19
  replace hO28 := hO28.ext he19
  try replace hV28 := hV28.ext he19
  replace hO34 := hO34.ext he19
  replace hO40 := hO40.ext he19
  replace hF42 := hF42.ext he19
  replace hF60_0 := hF60_0.ext he19
  replace hF76_0 := hF76_0.ext he19
  replace hF89_0 := hF89_0.ext he19
  have hs19 := he19.size
  have hn102_0 := hF102_0.ln
  try simp only [List.length_append, List.length_cons, List.length_nil, List.length_set, List.length_take, List.length_drop, List.length_replicate, Nat.zero_add, Nat.add_zero, le_len] at hn102_0
  have hc102_0 := hF102_0.cap
  refine RO_q rfl rfl (Yd_move rfl) (RO_q rfl rfl (Yd_extract rfl rfl) (RO_q rfl rfl (Yd_extract rfl rfl) (RO_q rfl rfl (Yd_assign rfl) (RO_q rfl rfl (Yd_assign rfl) (RO_nil (X_then (C_seq (C_region (RL_q rfl (Yd_move rfl) (RL_q rfl (Yd_move rfl) (RL_q rfl (Yd_neq rfl rfl) (RL_q rfl (Yd_move rfl) (?_)))))))))))))
  apply RL_or (dj := 108) 114 6 rfl
  · intro hb108
    try simp only [decide_eq_true_eq, decide_eq_false_iff_not, Bool.not_eq_true', Bool.not_eq_false', Decidable.not_not, Int.not_lt, Int.not_le, Bool.or_eq_true, Bool.and_eq_true, Bool.or_eq_false_iff, Bool.and_eq_false_iff] at hb108
    refine QL_gq rfl rfl rfl (Yd_move rfl) (QL_gq rfl rfl rfl (Yd_str Try.underlying22 Try.underlying5 Try.underlying9 rfl (fun W hW => Rd.ext (hF60_0.vw).u8 hW)) (QL_gq rfl rfl rfl (Yd_move rfl) (QL_gq rfl rfl rfl (Yd_str Try.underlying22 Try.underlying5 Try.underlying9 rfl (fun W hW => Rd.ext (hF76_0.vw).u8 hW)) (QL_gq rfl rfl rfl (Yd_neqSB rfl rfl hF60_0.byt hF76_0.byt) (QL_q rfl (Yd_pickF rfl rfl) ((QL_nil 6 rfl rfl rfl)))))))
  · intro hb108
    try simp only [decide_eq_true_eq, decide_eq_false_iff_not, Bool.not_eq_true', Bool.not_eq_false', Decidable.not_not, Int.not_lt, Int.not_le, Bool.or_eq_true, Bool.and_eq_true, Bool.or_eq_false_iff, Bool.and_eq_false_iff] at hb108
    refine QL_gn rfl rfl rfl rfl (QL_gn rfl rfl rfl rfl (QL_gn rfl rfl rfl rfl (QL_gn rfl rfl rfl rfl (QL_gn rfl rfl rfl rfl (QL_q rfl (Yd_pickT rfl rfl) ((QL_nil 6 rfl rfl rfl)))))))
  · skip
    refine RL_q rfl (Yd_move rfl) (?_)
    apply RL_or (dj := 115) 119 4 rfl
    · intro hb115
      try simp only [decide_eq_true_eq, decide_eq_false_iff_not, Bool.not_eq_true', Bool.not_eq_false', Decidable.not_not, Int.not_lt, Int.not_le, Bool.or_eq_true, Bool.and_eq_true, Bool.or_eq_false_iff, Bool.and_eq_false_iff] at hb115
      refine QL_gq rfl rfl rfl (Yd_move rfl) (QL_gq rfl rfl rfl (Yd_move rfl) (QL_gq rfl rfl rfl (Yd_neq rfl rfl) (QL_q rfl (Yd_pickF rfl rfl) ((QL_nil 4 rfl rfl rfl)))))
    · intro hb115
      try simp only [decide_eq_true_eq, decide_eq_false_iff_not, Bool.not_eq_true', Bool.not_eq_false', Decidable.not_not, Int.not_lt, Int.not_le, Bool.or_eq_true, Bool.and_eq_true, Bool.or_eq_false_iff, Bool.and_eq_false_iff] at hb115
      refine QL_gn rfl rfl rfl rfl (QL_gn rfl rfl rfl rfl (QL_gn rfl rfl rfl rfl (QL_q rfl (Yd_pickT rfl rfl) ((QL_nil 4 rfl rfl rfl)))))
    · skip
      refine RL_q rfl (Yd_move rfl) (?_)
      apply RL_or (dj := 120) 126 6 rfl
      · intro hb120
        try simp only [decide_eq_true_eq, decide_eq_false_iff_not, Bool.not_eq_true', Bool.not_eq_false', Decidable.not_not, Int.not_lt, Int.not_le, Bool.or_eq_true, Bool.and_eq_true, Bool.or_eq_false_iff, Bool.and_eq_false_iff] at hb120
        refine QL_gq rfl rfl rfl (Yd_move rfl) (QL_gq rfl rfl rfl (Yd_str Try.underlying22 Try.underlying5 Try.underlying9 rfl (fun W hW => Rd.ext (hF89_0.vw).u8 hW)) (QL_gq rfl rfl rfl (Yd_move rfl) (QL_gq rfl rfl rfl (Yd_str Try.underlying22 Try.underlying5 Try.underlying9 rfl (fun W hW => Rd.ext (hF102_0.vw).u8 hW)) (QL_gq rfl rfl rfl (Yd_neqSB rfl rfl hF89_0.byt hF102_0.byt) (QL_q rfl (Yd_pickF rfl rfl) ((QL_nil 6 rfl rfl rfl)))))))
      · intro hb120
        try simp only [decide_eq_true_eq, decide_eq_false_iff_not, Bool.not_eq_true', Bool.not_eq_false', Decidable.not_not, Int.not_lt, Int.not_le, Bool.or_eq_true, Bool.and_eq_true, Bool.or_eq_false_iff, Bool.and_eq_false_iff] at hb120
        refine QL_gn rfl rfl rfl rfl (QL_gn rfl rfl rfl rfl (QL_gn rfl rfl rfl rfl (QL_gn rfl rfl rfl rfl (QL_gn rfl rfl rfl rfl (QL_q rfl (Yd_pickT rfl rfl) ((QL_nil 6 rfl rfl rfl)))))))
      · skip
        refine RL_nil (X_then (?_))
        refine C_no rfl (by simp [hy60_1, hy76_1, hy89_1, hy102_1]) (C_skip (X_block (X_then (C_region (RL_q rfl (Yd_move rfl) (RL_q rfl (Yd_add (r := 1) rfl rfl rfl) (RL_q rfl (Yd_assign rfl) (RL_nil (X_round (CR_sub (E' := [(0, .slice A_b n_b c_b), (9, .slice (some ⟨W3.heap.size, 0, none⟩) 3 3), (10, .slice (some ⟨W4.heap.size, 0, none⟩) 3 3), (11, .slice (some ⟨W7.heap.size, 0, none⟩) 3 3), (12, .slice A42 n42 c42), (13, .int .i64 1)]) ⟨rfl, rfl, rfl, rfl, rfl, rfl, trivial⟩ (CR_succ (C_seq (C_seq (C_region (RL_q rfl (Yd_move rfl) (RL_q rfl (Yd_lss rfl rfl) (RL_nil (X_then (C_yes rfl rfl (C_skip (X_then (C_seq (C_block (C_seq (?_)))))))))))))))))))))))))
        refine C_regionD (NoB) (l := [(0, true), (1, true), (2, true), (3, true), (4, true), (5, true), (6, true), (7, true), (8, true), (9, true), (10, true), (11, true), (12, false), (13, true), (14, true), (15, true), (16, true), (17, true)]) (by kernel_rfl) (by kernel_rfl) rfl (by kernel_rfl) (fun _ _ d _ _ h => by cases d <;> exact h) ?_
        intro W20 he20 hh20
        replace hE := Ext.trans hE he20
        replace h_b := h_b.ext he20
        replace h_put := h_put.ext he20
        replace hF23 := hF23.ext he20
        replace hF25 := hF25.ext he20
        replace hF27 := hF27.ext he20
        replace hO28 := hO28.ext he20
        try replace hV28 := hV28.ext he20
        replace hO34 := hO34.ext he20
        replace hO40 := hO40.ext he20
        replace hF42 := hF42.ext he20
        replace hF60_0 := hF60_0.ext he20
        replace hF76_0 := hF76_0.ext he20
        replace hF89_0 := hF89_0.ext he20
        replace hF102_0 := hF102_0.ext he20
        have hs20 := he20.size
        refine RO_q rfl rfl (Yd_move rfl) (RO_q rfl rfl (Yd_move rfl) (RO_q rfl rfl (Yd_idxL Try.underlying37 (sz := 1) (by kernel_rfl) rfl rfl (by omega) (by omega)) (RO_q rfl rfl (Yd_load (v := .slice A25 n25 c25) Try.underlying22 rfl rfl (fun W hW => (Vw.lq1L hO28.vw (i := 1) (a := ⟨A25, n25, c25⟩) rfl rfl rfl) W hW.ext)) (RO_q rfl rfl (Yd_move rfl) (RO_q rfl rfl (Yd_move rfl) (RO_q rfl rfl (Yd_idxL Try.underlying38 (sz := 1) (by kernel_rfl) rfl rfl (by omega) (by omega)) (RO_q rfl rfl (Yd_load (v := .int .i64 off) Try.underlying3 rfl rfl (fun W hW => (Vw.lq1L hO34.vw (i := 1) (a := off) rfl rfl rfl) W hW.ext)) (RO_q rfl rfl (Yd_move rfl) (RO_q rfl rfl (Yd_move rfl) (RO_q rfl rfl (Yd_idxL Try.underlying38 (sz := 1) (by kernel_rfl) rfl rfl (by omega) (by omega)) (RO_q rfl rfl (Yd_load (v := .int .i64 n) Try.underlying3 rfl rfl (fun W hW => (Vw.lq1L hO40.vw (i := 1) (a := n) rfl rfl rfl) W hW.ext)) (RO_l rfl rfl (Ld_call Try.func26 rfl (by kernel_rfl) rfl (cGetV hF25.vw ⟨by first | omega | (dsimp only; omega), by first | omega | (dsimp only; omega)⟩ ⟨by first | omega | (dsimp only; omega), by first | omega | (dsimp only; omega)⟩) ?_)))))))))))))
        rintro e W21 ⟨A1060_0, n1060_0, c1060_0, y1060_1, rfl, hF1060_0, hy1060_1, he21⟩
        refine ⟨_, rfl, ?_⟩
        refine ⟨Kp.of_ext he21, ?_⟩
        replace hE := Ext.trans hE he21
        replace h_b := h_b.ext he21
        replace h_put := h_put.ext he21
        replace hF23 := hF23.ext he21
        replace hF25 := hF25.ext he21
        replace hF27 := hF27.ext he21
        replace hO28 := hO28.ext he21
        try replace hV28 := hV28.ext he21
        replace hO34 := hO34.ext he21
        replace hO40 := hO40.ext he21
        replace hF42 := hF42.ext he21
        replace hF60_0 := hF60_0.ext he21
        replace hF76_0 := hF76_0.ext he21
        replace hF89_0 := hF89_0.ext he21
        replace hF102_0 := hF102_0.ext he21
        have hs21 := he21.size
        have hn1060_0 := hF1060_0.ln
        try simp only [List.length_append, List.length_cons, List.length_nil, List.length_set, List.length_take, List.length_drop, List.length_replicate, Nat.zero_add, Nat.add_zero, le_len] at hn1060_0
        have hc1060_0 := hF1060_0.cap
        refine RO_q rfl rfl (Yd_move rfl) (RO_q rfl rfl (Yd_extract rfl rfl) (RO_q rfl rfl (Yd_extract rfl rfl) (RO_q rfl rfl (Yd_assign rfl) (RO_q rfl rfl (Yd_assign rfl) (RO_nil (X_then (C_seq (?_))))))))
        refine C_regionD (NoB) (l := [(0, true), (1, true), (2, true), (3, true), (4, true), (5, true), (6, true), (7, true), (8, true), (9, true), (10, true), (11, true), (12, false), (13, true), (14, true), (15, true), (16, true), (17, true)]) (by kernel_rfl) (by kernel_rfl) rfl (by kernel_rfl) (fun _ _ d _ _ h => by cases d <;> exact h) ?_
        intro W22 he22 hh22
        replace hE := Ext.trans hE he22
        replace h_b := h_b.ext he22
        replace h_put := h_put.ext he22
        replace hF23 := hF23.ext he22
        replace hF25 := hF25.ext he22
        replace hF27 := hF27.ext he22
        replace hO28 := hO28.ext he22
        try replace hV28 := hV28.ext he22
        replace hO34 := hO34.ext he22
        replace hO40 := hO40.ext he22
        replace hF42 := hF42.ext he22
        replace hF60_0 := hF60_0.ext he22
        replace hF76_0 := hF76_0.ext he22
        replace hF89_0 := hF89_0.ext he22
        replace hF102_0 := hF102_0.ext he22
        replace hF1060_0 := hF1060_0.ext he22
        have hs22 := he22.size
        refine RO_q rfl rfl (Yd_move rfl) (RO_q rfl rfl (Yd_move rfl) (RO_q rfl rfl (Yd_idxL Try.underlying37 (sz := 1) (by kernel_rfl) rfl rfl (by omega) (by omega)) (RO_q rfl rfl (Yd_load (v := .slice A25 n25 c25) Try.underlying22 rfl rfl (fun W hW => (Vw.lq1L hO28.vw (i := 1) (a := ⟨A25, n25, c25⟩) rfl rfl rfl) W hW.ext)) (RO_q rfl rfl (Yd_move rfl) (RO_q rfl rfl (Yd_move rfl) (RO_q rfl rfl (Yd_idxL Try.underlying38 (sz := 1) (by kernel_rfl) rfl rfl (by omega) (by omega)) (RO_q rfl rfl (Yd_load (v := .int .i64 off) Try.underlying3 rfl rfl (fun W hW => (Vw.lq1L hO34.vw (i := 1) (a := off) rfl rfl rfl) W hW.ext)) (RO_q rfl rfl (Yd_move rfl) (RO_q rfl rfl (Yd_move rfl) (RO_q rfl rfl (Yd_idxL Try.underlying38 (sz := 1) (by kernel_rfl) rfl rfl (by omega) (by omega)) (RO_q rfl rfl (Yd_load (v := .int .i64 n) Try.underlying3 rfl rfl (fun W hW => (Vw.lq1L hO40.vw (i := 1) (a := n) rfl rfl rfl) W hW.ext)) (RO_l rfl rfl (Ld_call Try.func27 rfl (by kernel_rfl) rfl (refGetV hF25.vw ⟨by first | omega | (dsimp only; omega), by first | omega | (dsimp only; omega)⟩ ⟨by first | omega | (dsimp only; omega), by first | omega | (dsimp only; omega)⟩) ?_)))))))))))))
        rintro e W23 ⟨A1076_0, n1076_0, c1076_0, y1076_1, rfl, hF1076_0, hy1076_1, he23⟩
        refine ⟨_, rfl, ?_⟩
        refine ⟨Kp.of_ext he23, ?_⟩
        replace hE := Ext.trans hE he23
        replace h_b := h_b.ext he23
        replace h_put := h_put.ext he23
        replace hF23 := hF23.ext he23
        replace hF25 := hF25.ext he23
        replace hF27 := hF27.ext he23
        replace hO28 := hO28.ext he23
        try replace hV28 := hV28.ext he23
        replace hO34 := hO34.ext he23
        replace hO40 := hO40.ext he23
        replace hF42 := hF42.ext he23
        replace hF60_0 := hF60_0.ext he23
        replace hF76_0 := hF76_0.ext he23
        replace hF89_0 := hF89_0.ext he23
        replace hF102_0 := hF102_0.ext he23
        replace hF1060_0 := hF1060_0.ext he23
        have hs23 := he23.size
        have hn1076_0 := hF1076_0.ln
        try simp only [List.length_append, List.length_cons, List.length_nil, List.length_set, List.length_take, List.length_drop, List.length_replicate, Nat.zero_add, Nat.add_zero, le_len] at hn1076_0
        have hc1076_0 := hF1076_0.cap
        refine RO_q rfl rfl (Yd_move rfl) (RO_q rfl rfl (Yd_extract rfl rfl) (RO_q rfl rfl (Yd_extract rfl rfl) (RO_q rfl rfl (Yd_assign rfl) (RO_q rfl rfl (Yd_assign rfl) (RO_nil (X_then (C_seq (?_))))))))
        refine C_regionD (NoB) (l := [(0, true), (1, true), (2, true), (3, true), (4, true), (5, true), (6, true), (7, true), (8, true), (9, false), (10, true), (11, true), (12, true), (13, true), (14, true)]) (by kernel_rfl) (by kernel_rfl) rfl (by kernel_rfl) (fun _ _ d _ _ h => by cases d <;> exact h) ?_
        intro W24 he24 hh24
        replace hE := Ext.trans hE he24
        replace h_b := h_b.ext he24
        replace h_put := h_put.ext he24
        replace hF23 := hF23.ext he24
        replace hF25 := hF25.ext he24
        replace hF27 := hF27.ext he24
        replace hO28 := hO28.ext he24
        try replace hV28 := hV28.ext he24
        replace hO34 := hO34.ext he24
        replace hO40 := hO40.ext he24
        replace hF42 := hF42.ext he24
        replace hF60_0 := hF60_0.ext he24
        replace hF76_0 := hF76_0.ext he24
        replace hF89_0 := hF89_0.ext he24
        replace hF102_0 := hF102_0.ext he24
        replace hF1060_0 := hF1060_0.ext he24
        replace hF1076_0 := hF1076_0.ext he24
        have hs24 := he24.size
        refine RO_q rfl rfl (Yd_move rfl) (RO_q rfl rfl (Yd_move rfl) (RO_q rfl rfl (Yd_idxL Try.underlying37 (sz := 1) (by kernel_rfl) rfl rfl (by omega) (by omega)) (RO_q rfl rfl (Yd_load (v := .slice A25 n25 c25) Try.underlying22 rfl rfl (fun W hW => (Vw.lq1L hO28.vw (i := 1) (a := ⟨A25, n25, c25⟩) rfl rfl rfl) W hW.ext)) (RO_q rfl rfl (Yd_move rfl) (RO_q rfl rfl (Yd_move rfl) (RO_q rfl rfl (Yd_idxL Try.underlying38 (sz := 1) (by kernel_rfl) rfl rfl (by omega) (by omega)) (RO_q rfl rfl (Yd_load (v := .int .i64 off) Try.underlying3 rfl rfl (fun W hW => (Vw.lq1L hO34.vw (i := 1) (a := off) rfl rfl rfl) W hW.ext)) (RO_q rfl rfl (Yd_move rfl) (RO_l rfl rfl (Ld_call Try.func28 rfl (by kernel_rfl) rfl (cPutV hF25.vw ⟨by first | omega | (dsimp only; omega), by first | omega | (dsimp only; omega)⟩ hF42.vw) ?_))))))))))
        rintro e W25 ⟨A1089_0, n1089_0, c1089_0, y1089_1, rfl, hF1089_0, hy1089_1, he25⟩
        refine ⟨_, rfl, ?_⟩
        refine ⟨Kp.of_ext he25, ?_⟩
        replace hE := Ext.trans hE he25
        replace h_b := h_b.ext he25
        replace h_put := h_put.ext he25
        replace hF23 := hF23.ext he25
        replace hF25 := hF25.ext he25
        replace hF27 := hF27.ext he25
        replace hO28 := hO28.ext he25
        try replace hV28 := hV28.ext he25
        replace hO34 := hO34.ext he25
        replace hO40 := hO40.ext he25
        replace hF42 := hF42.ext he25
        replace hF60_0 := hF60_0.ext he25
        replace hF76_0 := hF76_0.ext he25
        replace hF89_0 := hF89_0.ext he25
        replace hF102_0 := hF102_0.ext he25
        replace hF1060_0 := hF1060_0.ext he25
        replace hF1076_0 := hF1076_0.ext he25
        have hs25 := he25.size
        have hn1089_0 := hF1089_0.ln
        try simp only [List.length_append, List.length_cons, List.length_nil, List.length_set, List.length_take, List.length_drop, List.length_replicate, Nat.zero_add, Nat.add_zero, le_len] at hn1089_0
        have hc1089_0 := hF1089_0.cap
        refine RO_q rfl rfl (Yd_move rfl) (RO_q rfl rfl (Yd_extract rfl rfl) (RO_q rfl rfl (Yd_extract rfl rfl) (RO_q rfl rfl (Yd_assign rfl) (RO_q rfl rfl (Yd_assign rfl) (RO_nil (X_then (C_seq (?_))))))))
        refine C_regionD (NoB) (l := [(0, true), (1, true), (2, true), (3, true), (4, true), (5, true), (6, true), (7, true), (8, true), (9, false), (10, true), (11, true), (12, true), (13, true), (14, true)]) (by kernel_rfl) (by kernel_rfl) rfl (by kernel_rfl) (fun _ _ d _ _ h => by cases d <;> exact h) ?_
        intro W26 he26 hh26
        replace hE := Ext.trans hE he26
        replace h_b := h_b.ext he26
        replace h_put := h_put.ext he26
        replace hF23 := hF23.ext he26
        replace hF25 := hF25.ext he26
        replace hF27 := hF27.ext he26
        replace hO28 := hO28.ext he26
        try replace hV28 := hV28.ext he26
        replace hO34 := hO34.ext he26
        replace hO40 := hO40.ext he26
        replace hF42 := hF42.ext he26
        replace hF60_0 := hF60_0.ext he26
        replace hF76_0 := hF76_0.ext he26
        replace hF89_0 := hF89_0.ext he26
        replace hF102_0 := hF102_0.ext he26
        replace hF1060_0 := hF1060_0.ext he26
        replace hF1076_0 := hF1076_0.ext he26
        replace hF1089_0 := hF1089_0.ext he26
        have hs26 := he26.size
        refine RO_q rfl rfl (Yd_move rfl) (RO_q rfl rfl (Yd_move rfl) (RO_q rfl rfl (Yd_idxL Try.underlying37 (sz := 1) (by kernel_rfl) rfl rfl (by omega) (by omega)) (RO_q rfl rfl (Yd_load (v := .slice A25 n25 c25) Try.underlying22 rfl rfl (fun W hW => (Vw.lq1L hO28.vw (i := 1) (a := ⟨A25, n25, c25⟩) rfl rfl rfl) W hW.ext)) (RO_q rfl rfl (Yd_move rfl) (RO_q rfl rfl (Yd_move rfl) (RO_q rfl rfl (Yd_idxL Try.underlying38 (sz := 1) (by kernel_rfl) rfl rfl (by omega) (by omega)) (RO_q rfl rfl (Yd_load (v := .int .i64 off) Try.underlying3 rfl rfl (fun W hW => (Vw.lq1L hO34.vw (i := 1) (a := off) rfl rfl rfl) W hW.ext)) (RO_q rfl rfl (Yd_move rfl) (RO_l rfl rfl (Ld_call Try.func29 rfl (by kernel_rfl) rfl (refPutV8 hF25.vw ⟨by first | omega | (dsimp only; omega), by first | omega | (dsimp only; omega)⟩ hF42.vw) ?_))))))))))
        rintro e W27 ⟨A1102_0, n1102_0, c1102_0, y1102_1, rfl, hF1102_0, hy1102_1, he27⟩
        refine ⟨_, rfl, ?_⟩
        refine ⟨Kp.of_ext he27, ?_⟩
        replace hE := Ext.trans hE he27
        replace h_b := h_b.ext he27
        replace h_put := h_put.ext he27
        replace hF23 := hF23.ext he27
        replace hF25 := hF25.ext he27
        replace hF27 := hF27.ext he27
        replace hO28 := hO28.ext he27
        try replace hV28 := hV28.ext he27
        replace hO34 := hO34.ext he27
        replace hO40 := hO40.ext he27
        replace hF42 := hF42.ext he27
        replace hF60_0 := hF60_0.ext he27
        replace hF76_0 := hF76_0.ext he27
        replace hF89_0 := hF89_0.ext he27
        replace hF102_0 := hF102_0.ext he27
        replace hF1060_0 := hF1060_0.ext he27
        replace hF1076_0 := hF1076_0.ext he27
        replace hF1089_0 := hF1089_0.ext he27
        have hs27 := he27.size
        have hn1102_0 := hF1102_0.ln
        try simp only [List.length_append, List.length_cons, List.length_nil, List.length_set, List.length_take, List.length_drop, List.length_replicate, Nat.zero_add, Nat.add_zero, le_len] at hn1102_0
        have hc1102_0 := hF1102_0.cap
        refine RO_q rfl rfl (Yd_move rfl) (RO_q rfl rfl (Yd_extract rfl rfl) (RO_q rfl rfl (Yd_extract rfl rfl) (RO_q rfl rfl (Yd_assign rfl) (RO_q rfl rfl (Yd_assign rfl) (RO_nil (X_then (C_seq (C_region (RL_q rfl (Yd_move rfl) (RL_q rfl (Yd_move rfl) (RL_q rfl (Yd_neq rfl rfl) (RL_q rfl (Yd_move rfl) (?_)))))))))))))
        apply RL_or (dj := 108) 114 6 rfl
        · intro hb108
          try simp only [decide_eq_true_eq, decide_eq_false_iff_not, Bool.not_eq_true', Bool.not_eq_false', Decidable.not_not, Int.not_lt, Int.not_le, Bool.or_eq_true, Bool.and_eq_true, Bool.or_eq_false_iff, Bool.and_eq_false_iff] at hb108
          refine QL_gq rfl rfl rfl (Yd_move rfl) (QL_gq rfl rfl rfl (Yd_str Try.underlying22 Try.underlying5 Try.underlying9 rfl (fun W hW => Rd.ext (hF1060_0.vw).u8 hW)) (QL_gq rfl rfl rfl (Yd_move rfl) (QL_gq rfl rfl rfl (Yd_str Try.underlying22 Try.underlying5 Try.underlying9 rfl (fun W hW => Rd.ext (hF1076_0.vw).u8 hW)) (QL_gq rfl rfl rfl (Yd_neqSB rfl rfl hF1060_0.byt hF1076_0.byt) (QL_q rfl (Yd_pickF rfl rfl) ((QL_nil 6 rfl rfl rfl)))))))
        · intro hb108
          try simp only [decide_eq_true_eq, decide_eq_false_iff_not, Bool.not_eq_true', Bool.not_eq_false', Decidable.not_not, Int.not_lt, Int.not_le, Bool.or_eq_true, Bool.and_eq_true, Bool.or_eq_false_iff, Bool.and_eq_false_iff] at hb108
          refine QL_gn rfl rfl rfl rfl (QL_gn rfl rfl rfl rfl (QL_gn rfl rfl rfl rfl (QL_gn rfl rfl rfl rfl (QL_gn rfl rfl rfl rfl (QL_q rfl (Yd_pickT rfl rfl) ((QL_nil 6 rfl rfl rfl)))))))
        · skip
          refine RL_q rfl (Yd_move rfl) (?_)
          apply RL_or (dj := 115) 119 4 rfl
          · intro hb115
            try simp only [decide_eq_true_eq, decide_eq_false_iff_not, Bool.not_eq_true', Bool.not_eq_false', Decidable.not_not, Int.not_lt, Int.not_le, Bool.or_eq_true, Bool.and_eq_true, Bool.or_eq_false_iff, Bool.and_eq_false_iff] at hb115
            refine QL_gq rfl rfl rfl (Yd_move rfl) (QL_gq rfl rfl rfl (Yd_move rfl) (QL_gq rfl rfl rfl (Yd_neq rfl rfl) (QL_q rfl (Yd_pickF rfl rfl) ((QL_nil 4 rfl rfl rfl)))))
          · intro hb115
            try simp only [decide_eq_true_eq, decide_eq_false_iff_not, Bool.not_eq_true', Bool.not_eq_false', Decidable.not_not, Int.not_lt, Int.not_le, Bool.or_eq_true, Bool.and_eq_true, Bool.or_eq_false_iff, Bool.and_eq_false_iff] at hb115
            refine QL_gn rfl rfl rfl rfl (QL_gn rfl rfl rfl rfl (QL_gn rfl rfl rfl rfl (QL_q rfl (Yd_pickT rfl rfl) ((QL_nil 4 rfl rfl rfl)))))
          · skip
            refine RL_q rfl (Yd_move rfl) (?_)
            apply RL_or (dj := 120) 126 6 rfl
            · intro hb120
              try simp only [decide_eq_true_eq, decide_eq_false_iff_not, Bool.not_eq_true', Bool.not_eq_false', Decidable.not_not, Int.not_lt, Int.not_le, Bool.or_eq_true, Bool.and_eq_true, Bool.or_eq_false_iff, Bool.and_eq_false_iff] at hb120
              refine QL_gq rfl rfl rfl (Yd_move rfl) (QL_gq rfl rfl rfl (Yd_str Try.underlying22 Try.underlying5 Try.underlying9 rfl (fun W hW => Rd.ext (hF1089_0.vw).u8 hW)) (QL_gq rfl rfl rfl (Yd_move rfl) (QL_gq rfl rfl rfl (Yd_str Try.underlying22 Try.underlying5 Try.underlying9 rfl (fun W hW => Rd.ext (hF1102_0.vw).u8 hW)) (QL_gq rfl rfl rfl (Yd_neqSB rfl rfl hF1089_0.byt hF1102_0.byt) (QL_q rfl (Yd_pickF rfl rfl) ((QL_nil 6 rfl rfl rfl)))))))
            · intro hb120
              try simp only [decide_eq_true_eq, decide_eq_false_iff_not, Bool.not_eq_true', Bool.not_eq_false', Decidable.not_not, Int.not_lt, Int.not_le, Bool.or_eq_true, Bool.and_eq_true, Bool.or_eq_false_iff, Bool.and_eq_false_iff] at hb120
              refine QL_gn rfl rfl rfl rfl (QL_gn rfl rfl rfl rfl (QL_gn rfl rfl rfl rfl (QL_gn rfl rfl rfl rfl (QL_gn rfl rfl rfl rfl (QL_q rfl (Yd_pickT rfl rfl) ((QL_nil 6 rfl rfl rfl)))))))
            · skip
              refine RL_nil (X_then (?_))
              refine C_no rfl (by simp [hy1060_1, hy1076_1, hy1089_1, hy1102_1]) (C_skip (X_block (X_then (C_region (RL_q rfl (Yd_move rfl) (RL_q rfl (Yd_add (r := 2) rfl rfl rfl) (RL_q rfl (Yd_assign rfl) (RL_nil (X_round (CR_sub (E' := [(0, .slice A_b n_b c_b), (9, .slice (some ⟨W3.heap.size, 0, none⟩) 3 3), (10, .slice (some ⟨W4.heap.size, 0, none⟩) 3 3), (11, .slice (some ⟨W7.heap.size, 0, none⟩) 3 3), (12, .slice A42 n42 c42), (13, .int .i64 2)]) ⟨rfl, rfl, rfl, rfl, rfl, rfl, trivial⟩ (CR_succ (C_seq (C_seq (C_region (RL_q rfl (Yd_move rfl) (RL_q rfl (Yd_lss rfl rfl) (RL_nil (X_then (C_yes rfl rfl (C_skip (X_then (C_seq (C_block (C_seq (?_)))))))))))))))))))))))))
              refine C_regionD (NoB) (l := [(0, true), (1, true), (2, true), (3, true), (4, true), (5, true), (6, true), (7, true), (8, true), (9, true), (10, true), (11, true), (12, false), (13, true), (14, true), (15, true), (16, true), (17, true)]) (by kernel_rfl) (by kernel_rfl) rfl (by kernel_rfl) (fun _ _ d _ _ h => by cases d <;> exact h) ?_
              intro W28 he28 hh28
              replace hE := Ext.trans hE he28
              replace h_b := h_b.ext he28
              replace h_put := h_put.ext he28
              replace hF23 := hF23.ext he28
              replace hF25 := hF25.ext he28
              replace hF27 := hF27.ext he28
              replace hO28 := hO28.ext he28
              try replace hV28 := hV28.ext he28
              replace hO34 := hO34.ext he28
              replace hO40 := hO40.ext he28
              replace hF42 := hF42.ext he28
              replace hF60_0 := hF60_0.ext he28
              replace hF76_0 := hF76_0.ext he28
              replace hF89_0 := hF89_0.ext he28
              replace hF102_0 := hF102_0.ext he28
              replace hF1060_0 := hF1060_0.ext he28
              replace hF1076_0 := hF1076_0.ext he28
              replace hF1089_0 := hF1089_0.ext he28
              replace hF1102_0 := hF1102_0.ext he28
              have hs28 := he28.size
              refine RO_q rfl rfl (Yd_move rfl) (RO_q rfl rfl (Yd_move rfl) (RO_q rfl rfl (Yd_idxL Try.underlying37 (sz := 1) (by kernel_rfl) rfl rfl (by omega) (by omega)) (RO_q rfl rfl (Yd_load (v := .slice A27 n27 c27) Try.underlying22 rfl rfl (fun W hW => (Vw.lq1L hO28.vw (i := 2) (a := ⟨A27, n27, c27⟩) rfl rfl rfl) W hW.ext)) (RO_q rfl rfl (Yd_move rfl) (RO_q rfl rfl (Yd_move rfl) (RO_q rfl rfl (Yd_idxL Try.underlying38 (sz := 1) (by kernel_rfl) rfl rfl (by omega) (by omega)) (RO_q rfl rfl (Yd_load (v := .int .i64 y33) Try.underlying3 rfl rfl (fun W hW => (Vw.lq1L hO34.vw (i := 2) (a := y33) rfl rfl rfl) W hW.ext)) (RO_q rfl rfl (Yd_move rfl) (RO_q rfl rfl (Yd_move rfl) (RO_q rfl rfl (Yd_idxL Try.underlying38 (sz := 1) (by kernel_rfl) rfl rfl (by omega) (by omega)) (RO_q rfl rfl (Yd_load (v := .int .i64 y39) Try.underlying3 rfl rfl (fun W hW => (Vw.lq1L hO40.vw (i := 2) (a := y39) rfl rfl rfl) W hW.ext)) (RO_l rfl rfl (Ld_call Try.func26 rfl (by kernel_rfl) rfl (cGetV hF27.vw ⟨by first | omega | (dsimp only; omega), by first | omega | (dsimp only; omega)⟩ ⟨by first | omega | (dsimp only; omega), by first | omega | (dsimp only; omega)⟩) ?_)))))))))))))
              rintro e W29 ⟨A2060_0, n2060_0, c2060_0, y2060_1, rfl, hF2060_0, hy2060_1, he29⟩
              refine ⟨_, rfl, ?_⟩
              refine ⟨Kp.of_ext he29, ?_⟩
              replace hE := Ext.trans hE he29
              replace h_b := h_b.ext he29
              replace h_put := h_put.ext he29
              replace hF23 := hF23.ext he29
              replace hF25 := hF25.ext he29
              replace hF27 := hF27.ext he29
              replace hO28 := hO28.ext he29
              try replace hV28 := hV28.ext he29
              replace hO34 := hO34.ext he29
              replace hO40 := hO40.ext he29
              replace hF42 := hF42.ext he29
              replace hF60_0 := hF60_0.ext he29
              replace hF76_0 := hF76_0.ext he29
              replace hF89_0 := hF89_0.ext he29
              replace hF102_0 := hF102_0.ext he29
              replace hF1060_0 := hF1060_0.ext he29
              replace hF1076_0 := hF1076_0.ext he29
              replace hF1089_0 := hF1089_0.ext he29
              replace hF1102_0 := hF1102_0.ext he29
              have hs29 := he29.size
              have hn2060_0 := hF2060_0.ln
              try simp only [List.length_append, List.length_cons, List.length_nil, List.length_set, List.length_take, List.length_drop, List.length_replicate, Nat.zero_add, Nat.add_zero, le_len] at hn2060_0
              have hc2060_0 := hF2060_0.cap
              refine RO_q rfl rfl (Yd_move rfl) (RO_q rfl rfl (Yd_extract rfl rfl) (RO_q rfl rfl (Yd_extract rfl rfl) (RO_q rfl rfl (Yd_assign rfl) (RO_q rfl rfl (Yd_assign rfl) (RO_nil (X_then (C_seq (?_))))))))
              refine C_regionD (NoB) (l := [(0, true), (1, true), (2, true), (3, true), (4, true), (5, true), (6, true), (7, true), (8, true), (9, true), (10, true), (11, true), (12, false), (13, true), (14, true), (15, true), (16, true), (17, true)]) (by kernel_rfl) (by kernel_rfl) rfl (by kernel_rfl) (fun _ _ d _ _ h => by cases d <;> exact h) ?_
              intro W30 he30 hh30
              replace hE := Ext.trans hE he30
              replace h_b := h_b.ext he30
              replace h_put := h_put.ext he30
              replace hF23 := hF23.ext he30
              replace hF25 := hF25.ext he30
              replace hF27 := hF27.ext he30
              replace hO28 := hO28.ext he30
              try replace hV28 := hV28.ext he30
              replace hO34 := hO34.ext he30
              replace hO40 := hO40.ext he30
              replace hF42 := hF42.ext he30
              replace hF60_0 := hF60_0.ext he30
              replace hF76_0 := hF76_0.ext he30
              replace hF89_0 := hF89_0.ext he30
              replace hF102_0 := hF102_0.ext he30
              replace hF1060_0 := hF1060_0.ext he30
              replace hF1076_0 := hF1076_0.ext he30
              replace hF1089_0 := hF1089_0.ext he30
              replace hF1102_0 := hF1102_0.ext he30
              replace hF2060_0 := hF2060_0.ext he30
              have hs30 := he30.size
              refine RO_q rfl rfl (Yd_move rfl) (RO_q rfl rfl (Yd_move rfl) (RO_q rfl rfl (Yd_idxL Try.underlying37 (sz := 1) (by kernel_rfl) rfl rfl (by omega) (by omega)) (RO_q rfl rfl (Yd_load (v := .slice A27 n27 c27) Try.underlying22 rfl rfl (fun W hW => (Vw.lq1L hO28.vw (i := 2) (a := ⟨A27, n27, c27⟩) rfl rfl rfl) W hW.ext)) (RO_q rfl rfl (Yd_move rfl) (RO_q rfl rfl (Yd_move rfl) (RO_q rfl rfl (Yd_idxL Try.underlying38 (sz := 1) (by kernel_rfl) rfl rfl (by omega) (by omega)) (RO_q rfl rfl (Yd_load (v := .int .i64 y33) Try.underlying3 rfl rfl (fun W hW => (Vw.lq1L hO34.vw (i := 2) (a := y33) rfl rfl rfl) W hW.ext)) (RO_q rfl rfl (Yd_move rfl) (RO_q rfl rfl (Yd_move rfl) (RO_q rfl rfl (Yd_idxL Try.underlying38 (sz := 1) (by kernel_rfl) rfl rfl (by omega) (by omega)) (RO_q rfl rfl (Yd_load (v := .int .i64 y39) Try.underlying3 rfl rfl (fun W hW => (Vw.lq1L hO40.vw (i := 2) (a := y39) rfl rfl rfl) W hW.ext)) (RO_l rfl rfl (Ld_call Try.func27 rfl (by kernel_rfl) rfl (refGetV hF27.vw ⟨by first | omega | (dsimp only; omega), by first | omega | (dsimp only; omega)⟩ ⟨by first | omega | (dsimp only; omega), by first | omega | (dsimp only; omega)⟩) ?_)))))))))))))
              rintro e W31 ⟨A2076_0, n2076_0, c2076_0, y2076_1, rfl, hF2076_0, hy2076_1, he31⟩
              refine ⟨_, rfl, ?_⟩
              refine ⟨Kp.of_ext he31, ?_⟩
              replace hE := Ext.trans hE he31
              replace h_b := h_b.ext he31
              replace h_put := h_put.ext he31
              replace hF23 := hF23.ext he31
              replace hF25 := hF25.ext he31
              replace hF27 := hF27.ext he31
              replace hO28 := hO28.ext he31
              try replace hV28 := hV28.ext he31
              replace hO34 := hO34.ext he31
              replace hO40 := hO40.ext he31
              replace hF42 := hF42.ext he31
              replace hF60_0 := hF60_0.ext he31
              replace hF76_0 := hF76_0.ext he31
              replace hF89_0 := hF89_0.ext he31
              replace hF102_0 := hF102_0.ext he31
              replace hF1060_0 := hF1060_0.ext he31
              replace hF1076_0 := hF1076_0.ext he31
              replace hF1089_0 := hF1089_0.ext he31
              replace hF1102_0 := hF1102_0.ext he31
              replace hF2060_0 := hF2060_0.ext he31
              have hs31 := he31.size
              have hn2076_0 := hF2076_0.ln
              try simp only [List.length_append, List.length_cons, List.length_nil, List.length_set, List.length_take, List.length_drop, List.length_replicate, Nat.zero_add, Nat.add_zero, le_len] at hn2076_0
              have hc2076_0 := hF2076_0.cap
              refine RO_q rfl rfl (Yd_move rfl) (RO_q rfl rfl (Yd_extract rfl rfl) (RO_q rfl rfl (Yd_extract rfl rfl) (RO_q rfl rfl (Yd_assign rfl) (RO_q rfl rfl (Yd_assign rfl) (RO_nil (X_then (C_seq (?_))))))))
              refine C_regionD (NoB) (l := [(0, true), (1, true), (2, true), (3, true), (4, true), (5, true), (6, true), (7, true), (8, true), (9, false), (10, true), (11, true), (12, true), (13, true), (14, true)]) (by kernel_rfl) (by kernel_rfl) rfl (by kernel_rfl) (fun _ _ d _ _ h => by cases d <;> exact h) ?_
              intro W32 he32 hh32
              replace hE := Ext.trans hE he32
              replace h_b := h_b.ext he32
              replace h_put := h_put.ext he32
              replace hF23 := hF23.ext he32
              replace hF25 := hF25.ext he32
              replace hF27 := hF27.ext he32
              replace hO28 := hO28.ext he32
              try replace hV28 := hV28.ext he32
              replace hO34 := hO34.ext he32
              replace hO40 := hO40.ext he32
              replace hF42 := hF42.ext he32
              replace hF60_0 := hF60_0.ext he32
              replace hF76_0 := hF76_0.ext he32
              replace hF89_0 := hF89_0.ext he32
              replace hF102_0 := hF102_0.ext he32
              replace hF1060_0 := hF1060_0.ext he32
              replace hF1076_0 := hF1076_0.ext he32
              replace hF1089_0 := hF1089_0.ext he32
              replace hF1102_0 := hF1102_0.ext he32
              replace hF2060_0 := hF2060_0.ext he32
              replace hF2076_0 := hF2076_0.ext he32
              have hs32 := he32.size
              refine RO_q rfl rfl (Yd_move rfl) (RO_q rfl rfl (Yd_move rfl) (RO_q rfl rfl (Yd_idxL Try.underlying37 (sz := 1) (by kernel_rfl) rfl rfl (by omega) (by omega)) (RO_q rfl rfl (Yd_load (v := .slice A27 n27 c27) Try.underlying22 rfl rfl (fun W hW => (Vw.lq1L hO28.vw (i := 2) (a := ⟨A27, n27, c27⟩) rfl rfl rfl) W hW.ext)) (RO_q rfl rfl (Yd_move rfl) (RO_q rfl rfl (Yd_move rfl) (RO_q rfl rfl (Yd_idxL Try.underlying38 (sz := 1) (by kernel_rfl) rfl rfl (by omega) (by omega)) (RO_q rfl rfl (Yd_load (v := .int .i64 y33) Try.underlying3 rfl rfl (fun W hW => (Vw.lq1L hO34.vw (i := 2) (a := y33) rfl rfl rfl) W hW.ext)) (RO_q rfl rfl (Yd_move rfl) (RO_l rfl rfl (Ld_call Try.func28 rfl (by kernel_rfl) rfl (cPutV hF27.vw ⟨by first | omega | (dsimp only; omega), by first | omega | (dsimp only; omega)⟩ hF42.vw) ?_))))))))))
              rintro e W33 ⟨A2089_0, n2089_0, c2089_0, y2089_1, rfl, hF2089_0, hy2089_1, he33⟩
              refine ⟨_, rfl, ?_⟩
              refine ⟨Kp.of_ext he33, ?_⟩
              replace hE := Ext.trans hE he33
              replace h_b := h_b.ext he33
              replace h_put := h_put.ext he33
              replace hF23 := hF23.ext he33
              replace hF25 := hF25.ext he33
              replace hF27 := hF27.ext he33
              replace hO28 := hO28.ext he33
              try replace hV28 := hV28.ext he33
              replace hO34 := hO34.ext he33
              replace hO40 := hO40.ext he33
              replace hF42 := hF42.ext he33
              replace hF60_0 := hF60_0.ext he33
              replace hF76_0 := hF76_0.ext he33
              replace hF89_0 := hF89_0.ext he33
              replace hF102_0 := hF102_0.ext he33
              replace hF1060_0 := hF1060_0.ext he33
              replace hF1076_0 := hF1076_0.ext he33
              replace hF1089_0 := hF1089_0.ext he33
              replace hF1102_0 := hF1102_0.ext he33
              replace hF2060_0 := hF2060_0.ext he33
              replace hF2076_0 := hF2076_0.ext he33
              have hs33 := he33.size
              have hn2089_0 := hF2089_0.ln
              try simp only [List.length_append, List.length_cons, List.length_nil, List.length_set, List.length_take, List.length_drop, List.length_replicate, Nat.zero_add, Nat.add_zero, le_len] at hn2089_0
              have hc2089_0 := hF2089_0.cap
              refine RO_q rfl rfl (Yd_move rfl) (RO_q rfl rfl (Yd_extract rfl rfl) (RO_q rfl rfl (Yd_extract rfl rfl) (RO_q rfl rfl (Yd_assign rfl) (RO_q rfl rfl (Yd_assign rfl) (RO_nil (X_then (C_seq (?_))))))))
              refine C_regionD (NoB) (l := [(0, true), (1, true), (2, true), (3, true), (4, true), (5, true), (6, true), (7, true), (8, true), (9, false), (10, true), (11, true), (12, true), (13, true), (14, true)]) (by kernel_rfl) (by kernel_rfl) rfl (by kernel_rfl) (fun _ _ d _ _ h => by cases d <;> exact h) ?_
              intro W34 he34 hh34
              replace hE := Ext.trans hE he34
              replace h_b := h_b.ext he34
              replace h_put := h_put.ext he34
              replace hF23 := hF23.ext he34
              replace hF25 := hF25.ext he34
              replace hF27 := hF27.ext he34
              replace hO28 := hO28.ext he34
              try replace hV28 := hV28.ext he34
              replace hO34 := hO34.ext he34
              replace hO40 := hO40.ext he34
              replace hF42 := hF42.ext he34
              replace hF60_0 := hF60_0.ext he34
              replace hF76_0 := hF76_0.ext he34
              replace hF89_0 := hF89_0.ext he34
              replace hF102_0 := hF102_0.ext he34
              replace hF1060_0 := hF1060_0.ext he34
              replace hF1076_0 := hF1076_0.ext he34
              replace hF1089_0 := hF1089_0.ext he34
              replace hF1102_0 := hF1102_0.ext he34
              replace hF2060_0 := hF2060_0.ext he34
              replace hF2076_0 := hF2076_0.ext he34
              replace hF2089_0 := hF2089_0.ext he34
              have hs34 := he34.size
              refine RO_q rfl rfl (Yd_move rfl) (RO_q rfl rfl (Yd_move rfl) (RO_q rfl rfl (Yd_idxL Try.underlying37 (sz := 1) (by kernel_rfl) rfl rfl (by omega) (by omega)) (RO_q rfl rfl (Yd_load (v := .slice A27 n27 c27) Try.underlying22 rfl rfl (fun W hW => (Vw.lq1L hO28.vw (i := 2) (a := ⟨A27, n27, c27⟩) rfl rfl rfl) W hW.ext)) (RO_q rfl rfl (Yd_move rfl) (RO_q rfl rfl (Yd_move rfl) (RO_q rfl rfl (Yd_idxL Try.underlying38 (sz := 1) (by kernel_rfl) rfl rfl (by omega) (by omega)) (RO_q rfl rfl (Yd_load (v := .int .i64 y33) Try.underlying3 rfl rfl (fun W hW => (Vw.lq1L hO34.vw (i := 2) (a := y33) rfl rfl rfl) W hW.ext)) (RO_q rfl rfl (Yd_move rfl) (RO_l rfl rfl (Ld_call Try.func29 rfl (by kernel_rfl) rfl (refPutV8 hF27.vw ⟨by first | omega | (dsimp only; omega), by first | omega | (dsimp only; omega)⟩ hF42.vw) ?_))))))))))
              rintro e W35 ⟨A2102_0, n2102_0, c2102_0, y2102_1, rfl, hF2102_0, hy2102_1, he35⟩
              refine ⟨_, rfl, ?_⟩
              refine ⟨Kp.of_ext he35, ?_⟩
              replace hE := Ext.trans hE he35
              replace h_b := h_b.ext he35
              replace h_put := h_put.ext he35
              replace hF23 := hF23.ext he35
              replace hF25 := hF25.ext he35
              replace hF27 := hF27.ext he35
              replace hO28 := hO28.ext he35
              try replace hV28 := hV28.ext he35
              replace hO34 := hO34.ext he35
              replace hO40 := hO40.ext he35
              replace hF42 := hF42.ext he35
              replace hF60_0 := hF60_0.ext he35
              replace hF76_0 := hF76_0.ext he35
              replace hF89_0 := hF89_0.ext he35
              replace hF102_0 := hF102_0.ext he35
              replace hF1060_0 := hF1060_0.ext he35
              replace hF1076_0 := hF1076_0.ext he35
              replace hF1089_0 := hF1089_0.ext he35
              replace hF1102_0 := hF1102_0.ext he35
              replace hF2060_0 := hF2060_0.ext he35
              replace hF2076_0 := hF2076_0.ext he35
              replace hF2089_0 := hF2089_0.ext he35
              have hs35 := he35.size
              have hn2102_0 := hF2102_0.ln
              try simp only [List.length_append, List.length_cons, List.length_nil, List.length_set, List.length_take, List.length_drop, List.length_replicate, Nat.zero_add, Nat.add_zero, le_len] at hn2102_0
              have hc2102_0 := hF2102_0.cap
              refine RO_q rfl rfl (Yd_move rfl) (RO_q rfl rfl (Yd_extract rfl rfl) (RO_q rfl rfl (Yd_extract rfl rfl) (RO_q rfl rfl (Yd_assign rfl) (RO_q rfl rfl (Yd_assign rfl) (RO_nil (X_then (C_seq (C_region (RL_q rfl (Yd_move rfl) (RL_q rfl (Yd_move rfl) (RL_q rfl (Yd_neq rfl rfl) (RL_q rfl (Yd_move rfl) (?_)))))))))))))
              apply RL_or (dj := 108) 114 6 rfl
              · intro hb108
                try simp only [decide_eq_true_eq, decide_eq_false_iff_not, Bool.not_eq_true', Bool.not_eq_false', Decidable.not_not, Int.not_lt, Int.not_le, Bool.or_eq_true, Bool.and_eq_true, Bool.or_eq_false_iff, Bool.and_eq_false_iff] at hb108
                refine QL_gq rfl rfl rfl (Yd_move rfl) (QL_gq rfl rfl rfl (Yd_str Try.underlying22 Try.underlying5 Try.underlying9 rfl (fun W hW => Rd.ext (hF2060_0.vw).u8 hW)) (QL_gq rfl rfl rfl (Yd_move rfl) (QL_gq rfl rfl rfl (Yd_str Try.underlying22 Try.underlying5 Try.underlying9 rfl (fun W hW => Rd.ext (hF2076_0.vw).u8 hW)) (QL_gq rfl rfl rfl (Yd_neqSB rfl rfl hF2060_0.byt hF2076_0.byt) (QL_q rfl (Yd_pickF rfl rfl) ((QL_nil 6 rfl rfl rfl)))))))
              · intro hb108
                try simp only [decide_eq_true_eq, decide_eq_false_iff_not, Bool.not_eq_true', Bool.not_eq_false', Decidable.not_not, Int.not_lt, Int.not_le, Bool.or_eq_true, Bool.and_eq_true, Bool.or_eq_false_iff, Bool.and_eq_false_iff] at hb108
                refine QL_gn rfl rfl rfl rfl (QL_gn rfl rfl rfl rfl (QL_gn rfl rfl rfl rfl (QL_gn rfl rfl rfl rfl (QL_gn rfl rfl rfl rfl (QL_q rfl (Yd_pickT rfl rfl) ((QL_nil 6 rfl rfl rfl)))))))
              · skip
                refine RL_q rfl (Yd_move rfl) (?_)
                apply RL_or (dj := 115) 119 4 rfl
                · intro hb115
                  try simp only [decide_eq_true_eq, decide_eq_false_iff_not, Bool.not_eq_true', Bool.not_eq_false', Decidable.not_not, Int.not_lt, Int.not_le, Bool.or_eq_true, Bool.and_eq_true, Bool.or_eq_false_iff, Bool.and_eq_false_iff] at hb115
                  refine QL_gq rfl rfl rfl (Yd_move rfl) (QL_gq rfl rfl rfl (Yd_move rfl) (QL_gq rfl rfl rfl (Yd_neq rfl rfl) (QL_q rfl (Yd_pickF rfl rfl) ((QL_nil 4 rfl rfl rfl)))))
                · intro hb115
                  try simp only [decide_eq_true_eq, decide_eq_false_iff_not, Bool.not_eq_true', Bool.not_eq_false', Decidable.not_not, Int.not_lt, Int.not_le, Bool.or_eq_true, Bool.and_eq_true, Bool.or_eq_false_iff, Bool.and_eq_false_iff] at hb115
                  refine QL_gn rfl rfl rfl rfl (QL_gn rfl rfl rfl rfl (QL_gn rfl rfl rfl rfl (QL_q rfl (Yd_pickT rfl rfl) ((QL_nil 4 rfl rfl rfl)))))
                · skip
                  refine RL_q rfl (Yd_move rfl) (?_)
                  apply RL_or (dj := 120) 126 6 rfl
                  · intro hb120
                    try simp only [decide_eq_true_eq, decide_eq_false_iff_not, Bool.not_eq_true', Bool.not_eq_false', Decidable.not_not, Int.not_lt, Int.not_le, Bool.or_eq_true, Bool.and_eq_true, Bool.or_eq_false_iff, Bool.and_eq_false_iff] at hb120
                    refine QL_gq rfl rfl rfl (Yd_move rfl) (QL_gq rfl rfl rfl (Yd_str Try.underlying22 Try.underlying5 Try.underlying9 rfl (fun W hW => Rd.ext (hF2089_0.vw).u8 hW)) (QL_gq rfl rfl rfl (Yd_move rfl) (QL_gq rfl rfl rfl (Yd_str Try.underlying22 Try.underlying5 Try.underlying9 rfl (fun W hW => Rd.ext (hF2102_0.vw).u8 hW)) (QL_gq rfl rfl rfl (Yd_neqSB rfl rfl hF2089_0.byt hF2102_0.byt) (QL_q rfl (Yd_pickF rfl rfl) ((QL_nil 6 rfl rfl rfl)))))))
                  · intro hb120
                    try simp only [decide_eq_true_eq, decide_eq_false_iff_not, Bool.not_eq_true', Bool.not_eq_false', Decidable.not_not, Int.not_lt, Int.not_le, Bool.or_eq_true, Bool.and_eq_true, Bool.or_eq_false_iff, Bool.and_eq_false_iff] at hb120
                    refine QL_gn rfl rfl rfl rfl (QL_gn rfl rfl rfl rfl (QL_gn rfl rfl rfl rfl (QL_gn rfl rfl rfl rfl (QL_gn rfl rfl rfl rfl (QL_q rfl (Yd_pickT rfl rfl) ((QL_nil 6 rfl rfl rfl)))))))
                  · skip
                    refine RL_nil (X_then (?_))
                    refine C_no rfl (by simp [hy2060_1, hy2076_1, hy2089_1, hy2102_1]) (C_skip (X_block (X_then (C_region (RL_q rfl (Yd_move rfl) (RL_q rfl (Yd_add (r := 3) rfl rfl rfl) (RL_q rfl (Yd_assign rfl) (RL_nil (X_round (CR_sub (E' := [(0, .slice A_b n_b c_b), (9, .slice (some ⟨W3.heap.size, 0, none⟩) 3 3), (10, .slice (some ⟨W4.heap.size, 0, none⟩) 3 3), (11, .slice (some ⟨W7.heap.size, 0, none⟩) 3 3), (12, .slice A42 n42 c42), (13, .int .i64 3)]) ⟨rfl, rfl, rfl, rfl, rfl, rfl, trivial⟩ (CR_succ (C_seq (C_seq (C_region (RL_q rfl (Yd_move rfl) (RL_q rfl (Yd_lss rfl rfl) (RL_nil (X_then (C_no rfl rfl (C_exit (X_thenE (X_thenE (X_blockE (X_then (C_seq (?_))))))))))))))))))))))))))
                    refine C_regionD (NoB) (l := [(0, true), (1, true), (2, true), (3, true), (4, true), (5, false), (6, true), (7, true), (8, true), (9, false), (10, true), (11, true)]) (by kernel_rfl) (by kernel_rfl) rfl (by kernel_rfl) (fun _ _ d _ _ h => by cases d <;> exact h) ?_
                    intro W36 he36 hh36
                    replace hE := Ext.trans hE he36
                    replace h_b := h_b.ext he36
                    replace h_put := h_put.ext he36
                    replace hF23 := hF23.ext he36
                    replace hF25 := hF25.ext he36
                    replace hF27 := hF27.ext he36
                    replace hO28 := hO28.ext he36
                    try replace hV28 := hV28.ext he36
                    replace hO34 := hO34.ext he36
                    replace hO40 := hO40.ext he36
                    replace hF42 := hF42.ext he36
                    replace hF60_0 := hF60_0.ext he36
                    replace hF76_0 := hF76_0.ext he36
                    replace hF89_0 := hF89_0.ext he36
                    replace hF102_0 := hF102_0.ext he36
                    replace hF1060_0 := hF1060_0.ext he36
                    replace hF1076_0 := hF1076_0.ext he36
                    replace hF1089_0 := hF1089_0.ext he36
                    replace hF1102_0 := hF1102_0.ext he36
                    replace hF2060_0 := hF2060_0.ext he36
                    replace hF2076_0 := hF2076_0.ext he36
                    replace hF2089_0 := hF2089_0.ext he36
                    replace hF2102_0 := hF2102_0.ext he36
                    have hs36 := he36.size
                    refine RO_q rfl rfl (Yd_move rfl) (RO_q rfl rfl (Yd_idxL Try.underlying37 (sz := 1) (by kernel_rfl) rfl rfl (by omega) (by omega)) (RO_q rfl rfl (Yd_load (v := .slice A23 n23 c23) Try.underlying22 rfl rfl (fun W hW => (Vw.lq1L hO28.vw (i := 0) (a := ⟨A23, n23, c23⟩) rfl rfl rfl) W hW.ext)) (RO_q rfl rfl (Yd_str Try.underlying22 Try.underlying5 Try.underlying9 rfl (fun W hW => Rd.ext (hF23.vw).u8 hW.ext)) (RO_q rfl rfl (Yd_move rfl) (RO_l rfl rfl (Ld_call Try.func25 rfl (by kernel_rfl) rfl (FillV h_b ⟨by first | omega | (dsimp only; omega), by first | omega | (dsimp only; omega)⟩) ?_))))))
                    rintro e W37 ⟨A3132, n3132, c3132, rfl, hF3132, hfl3132, he37⟩
                    refine ⟨_, rfl, ?_⟩
                    refine ⟨Kp.of_ext he37, ?_⟩
                    replace hE := Ext.trans hE he37
                    replace h_b := h_b.ext he37
                    replace h_put := h_put.ext he37
                    replace hF23 := hF23.ext he37
                    replace hF25 := hF25.ext he37
                    replace hF27 := hF27.ext he37
                    replace hO28 := hO28.ext he37
                    try replace hV28 := hV28.ext he37
                    replace hO34 := hO34.ext he37
                    replace hO40 := hO40.ext he37
                    replace hF42 := hF42.ext he37
                    replace hF60_0 := hF60_0.ext he37
                    replace hF76_0 := hF76_0.ext he37
                    replace hF89_0 := hF89_0.ext he37
                    replace hF102_0 := hF102_0.ext he37
                    replace hF1060_0 := hF1060_0.ext he37
                    replace hF1076_0 := hF1076_0.ext he37
                    replace hF1089_0 := hF1089_0.ext he37
                    replace hF1102_0 := hF1102_0.ext he37
                    replace hF2060_0 := hF2060_0.ext he37
                    replace hF2076_0 := hF2076_0.ext he37
                    replace hF2089_0 := hF2089_0.ext he37
                    replace hF2102_0 := hF2102_0.ext he37
                    have hs37 := he37.size
                    have hn3132 := hF3132.ln
                    try simp only [List.length_append, List.length_cons, List.length_nil, List.length_set, List.length_take, List.length_drop, List.length_replicate, Nat.zero_add, Nat.add_zero, le_len] at hn3132
                    have hc3132 := hF3132.cap
                    refine RO_q rfl rfl (Yd_str Try.underlying22 Try.underlying5 Try.underlying9 rfl (fun W hW => Rd.ext (hF3132.vw).u8 hW.ext)) (RO_q rfl rfl (Yd_eqlSB rfl rfl hF23.byt hF3132.byt) (RO_q rfl rfl (Yd_move rfl) (?_)))
                    refine RO_is (d := 135) (b' := true) rfl (by simp) ?_
                    refine RO_gl rfl rfl rfl rfl (Ld_call Try.func30 rfl (by kernel_rfl) rfl (lives08V ) ?_)
                    rintro e W38 ⟨_, rfl, rfl, he38⟩
                    refine ⟨_, rfl, ?_⟩
                    refine ⟨Kp.of_ext he38, ?_⟩
                    replace hE := Ext.trans hE he38
                    replace h_b := h_b.ext he38
                    replace h_put := h_put.ext he38
                    replace hF23 := hF23.ext he38
                    replace hF25 := hF25.ext he38
                    replace hF27 := hF27.ext he38
                    replace hO28 := hO28.ext he38
                    try replace hV28 := hV28.ext he38
                    replace hO34 := hO34.ext he38
                    replace hO40 := hO40.ext he38
                    replace hF42 := hF42.ext he38
                    replace hF60_0 := hF60_0.ext he38
                    replace hF76_0 := hF76_0.ext he38
                    replace hF89_0 := hF89_0.ext he38
                    replace hF102_0 := hF102_0.ext he38
                    replace hF1060_0 := hF1060_0.ext he38
                    replace hF1076_0 := hF1076_0.ext he38
                    replace hF1089_0 := hF1089_0.ext he38
                    replace hF1102_0 := hF1102_0.ext he38
                    replace hF2060_0 := hF2060_0.ext he38
                    replace hF2076_0 := hF2076_0.ext he38
                    replace hF2089_0 := hF2089_0.ext he38
                    replace hF2102_0 := hF2102_0.ext he38
                    replace hF3132 := hF3132.ext he38
                    have hs38 := he38.size
                    refine RO_q rfl rfl (Yd_pickT rfl rfl) (RO_q rfl rfl (Yd_assign rfl) (RO_nil (X_then (C_ret (X_ret1 rfl rfl ?_)))))
                    refine ⟨_, rfl, ?_, hE⟩
                    all_goals (first | rfl | omega | simp)
end Go.Proofs.AL
