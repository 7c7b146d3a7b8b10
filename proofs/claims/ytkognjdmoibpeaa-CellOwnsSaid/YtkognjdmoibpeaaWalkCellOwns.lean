import Derived.Test.YtkognjdmoibpeaaCel
set_option linter.unusedVariables false
set_option linter.unusedSimpArgs false
namespace Go.Proofs.AL
open Go.RowKit
theorem CellOwnsV {lo_b B_b : Nat} {A_b : Option Addr} {n_b c_b : Nat} {b : List Int} {by_ : Int} {w : World}  (h_b : Vw tU8 w lo_b B_b A_b n_b c_b b) (b_by_ : 0 ≤ by_ ∧ by_ ≤ 255) :
    Calls Try.prog 14 #[.slice A_b n_b c_b, .int .u8 by_] w fun e w' => ∃ (x0 : Bool), e = .returned (.bool x0) ∧ x0 = (true) ∧ Ext w w' := by
  have hE := Ext.refl w
  replace h_b := h_b.fit
  have hn_b := h_b.ln
  have hc_b := h_b.cap
  have hm_b := h_b.max
  simp only [maxLen] at hm_b
  refine calls_of (l := [.slice A_b n_b c_b, .int .u8 by_]) (N := 128) Try.func14 rfl rfl rfl ?_
  refine C_seq (C_region (RL_q rfl (Yd_assign rfl) (RL_nil (X_then (C_seq (C_region (RL_q rfl (Yd_move rfl) (RL_l rfl (Ld_call Try.func25 rfl (by kernel_rfl) rfl (FillV h_b ⟨by first | omega | (dsimp only; omega), by first | omega | (dsimp only; omega)⟩) ?_)))))))))
  rintro e W1 ⟨A17, n17, c17, rfl, hF17, hfl17, he1⟩
  refine ⟨_, rfl, ?_⟩
  replace hE := Ext.trans hE he1
  replace h_b := h_b.ext he1
  have hs1 := he1.size
  have hn17 := hF17.ln
  try simp only [List.length_append, List.length_cons, List.length_nil, List.length_set, List.length_take, List.length_drop, List.length_replicate, Nat.zero_add, Nat.add_zero, le_len] at hn17
  have hc17 := hF17.cap
  refine RL_q rfl (Yd_assign rfl) (RL_nil (X_then (C_seq (C_region (RL_q rfl (Yd_move rfl) (RL_l rfl (Ld_call Try.func31 rfl (by kernel_rfl) rfl (SplitOk hF17.vw (by omega)) ?_)))))))
  rintro e W2 ⟨AS20, cS20, A1_20, A2_20, c1_20, c2_20, m20, rfl, hm20, hA20, hB_20, hS20, he2⟩
  refine ⟨_, rfl, ?_⟩
  replace hE := Ext.trans hE he2
  replace h_b := h_b.ext he2
  replace hF17 := hF17.ext he2
  have hs2 := he2.size
  have hcS20 := hS20.cap
  have hln1_20 := hA20.ln
  have hln2_20 := hB_20.ln
  have hcp1_20 := hA20.cap
  have hcp2_20 := hB_20.cap
  refine RL_q rfl (Yd_move rfl) (RL_q rfl (Yd_extract rfl rfl) (RL_q rfl (Yd_extract rfl rfl) (RL_q rfl (Yd_assign rfl) (RL_q rfl (Yd_assign rfl) (RL_nil (X_then (C_seq (C_region (RL_q rfl (Yd_move rfl) (RL_q rfl (Yd_move rfl) (RL_q rfl (Yd_sliceH Try.underlying22 (sz := 1) (by kernel_rfl) rfl rfl (by omega) (by omega)) (RL_l rfl (Ld_call Try.func28 rfl (by kernel_rfl) rfl (cPutV hF17.vw ⟨by first | omega | (dsimp only; omega), by first | omega | (dsimp only; omega)⟩ (Vw.take hF17.vw (by omega))) ?_)))))))))))))
  rintro e W3 ⟨A27_0, n27_0, c27_0, y27_1, rfl, hF27_0, hy27_1, he3⟩
  refine ⟨_, rfl, ?_⟩
  replace hE := Ext.trans hE he3
  replace h_b := h_b.ext he3
  replace hF17 := hF17.ext he3
  replace hA20 := hA20.ext he3
  replace hB_20 := hB_20.ext he3
  replace hS20 := hS20.ext he3
  have hs3 := he3.size
  have hn27_0 := hF27_0.ln
  try simp only [List.length_append, List.length_cons, List.length_nil, List.length_set, List.length_take, List.length_drop, List.length_replicate, Nat.zero_add, Nat.add_zero, le_len] at hn27_0
  have hc27_0 := hF27_0.cap
  have f27 : fitsE (n17 : Int) 0 ((4 : Int).toNat : Int) = 0 := fitsE_ok (by omega) (by omega) (by omega) (by omega) (by omega)
  have e27 := pPut_ok (p := fill b (32 : Int).toNat) (b := (fill b (32 : Int).toNat).take (4 : Int).toNat) (off := 0) (m := n17) (k := ((4 : Int).toNat : Int)) (by omega) (by simp) f27
  have l27 : (pPut (fill b (32 : Int).toNat) 0 ((fill b (32 : Int).toNat).take (4 : Int).toNat)).length = 32 := by rw [e27]; simp
  refine RL_q rfl (Yd_move rfl) (RL_q rfl (Yd_extract rfl rfl) (RL_q rfl (Yd_extract rfl rfl) (RL_q rfl (Yd_assign rfl) (RL_q rfl (Yd_assign rfl) (RL_nil (X_then (C_seq (C_region (RL_q rfl (Yd_move rfl) (RL_l rfl (Ld_call Try.func26 rfl (by kernel_rfl) rfl (cGetV hF17.vw ⟨by first | omega | (dsimp only; omega), by first | omega | (dsimp only; omega)⟩ ⟨by first | omega | (dsimp only; omega), by first | omega | (dsimp only; omega)⟩) ?_)))))))))))
  rintro e W4 ⟨A32_0, n32_0, c32_0, y32_1, rfl, hF32_0, hy32_1, he4⟩
  refine ⟨_, rfl, ?_⟩
  replace hE := Ext.trans hE he4
  replace h_b := h_b.ext he4
  replace hF17 := hF17.ext he4
  replace hA20 := hA20.ext he4
  replace hB_20 := hB_20.ext he4
  replace hS20 := hS20.ext he4
  replace hF27_0 := hF27_0.ext he4
  have hs4 := he4.size
  have hn32_0 := hF32_0.ln
  try simp only [List.length_append, List.length_cons, List.length_nil, List.length_set, List.length_take, List.length_drop, List.length_replicate, Nat.zero_add, Nat.add_zero, le_len] at hn32_0
  have hc32_0 := hF32_0.cap
  have f32 : fitsE (n17 : Int) 3 9 = 0 := fitsE_ok (by omega) (by omega) (by omega) (by omega) (by omega)
  have l32 : (pGet (fill b (32 : Int).toNat) 3 9).length = 9 := by rw [pGet_ok (m := n17) (by omega) f32]; simp
  refine RL_q rfl (Yd_move rfl) (RL_q rfl (Yd_extract rfl rfl) (RL_q rfl (Yd_extract rfl rfl) (RL_q rfl (Yd_assign rfl) (RL_q rfl (Yd_assign rfl) (RL_nil (X_then (C_seq (C_seq (C_region (RL_q rfl (Yd_move rfl) (RL_q rfl (Yd_neq rfl rfl) (RL_q rfl (Yd_move rfl) (RL_gq rfl rfl rfl (Yd_move rfl) (RL_gq rfl rfl rfl (Yd_neq rfl rfl) (RL_q rfl (Yd_pickF rfl rfl) (RL_q rfl (Yd_move rfl) (?_)))))))))))))))))
  refine RL_is (d := 41) (b' := false) rfl (by rw [hy27_1, f27]; rfl) ?_
  refine RL_gq rfl rfl rfl (Yd_move rfl) (RL_gq rfl rfl rfl (Yd_neq rfl rfl) (RL_q rfl (Yd_pickF rfl rfl) (RL_q rfl (Yd_move rfl) (?_))))
  refine RL_is (d := 45) (b' := false) rfl (by rw [hy32_1, f32]; rfl) ?_
  refine RL_gq rfl rfl rfl (Yd_move rfl) (RL_gq rfl rfl rfl (Yd_len Try.underlying37 rfl) (RL_gq rfl rfl rfl (Yd_neq rfl rfl) (RL_q rfl (Yd_pickF rfl rfl) (RL_q rfl (Yd_move rfl) (RL_gq rfl rfl rfl (Yd_move rfl) (RL_gq rfl rfl rfl (Yd_len Try.underlying22 rfl) (RL_gq rfl rfl rfl (Yd_neq rfl rfl) (RL_q rfl (Yd_pickF rfl rfl) (RL_q rfl (Yd_move rfl) (?_))))))))))
  refine RL_is (d := 55) (b' := false) rfl (by simp; omega) ?_
  refine RL_gq rfl rfl rfl (Yd_move rfl) (RL_gq rfl rfl rfl (Yd_len Try.underlying22 rfl) (RL_gq rfl rfl rfl (Yd_neq rfl rfl) (RL_q rfl (Yd_pickF rfl rfl) (RL_nil (X_then (?_))))))
  refine C_no rfl (by simp; omega) (C_skip (X_then (C_seq (C_seq (C_region (RL_q rfl (Yd_move rfl) (?_)))))))
  obtain ⟨gE, rfl, hgEl, hgEh⟩ := Ow.at_ (i := 1) hA20 (by omega)
  obtain ⟨gAS20, rfl, hglAS20, hghAS20⟩ := Ow.at_ (i := 0) hS20 (by omega)
  refine RL_q rfl (Yd_idxL Try.underlying37 (sz := 1) (by kernel_rfl) rfl rfl (by omega) (by omega)) (RL_q rfl (Yd_load (v := .slice (some ⟨gE, 0, none⟩) 16 c1_20) Try.underlying22 rfl rfl (Vw.lq1L hS20.vw (i := 0) (a := ⟨(some ⟨gE, 0, none⟩), 16, c1_20⟩) rfl rfl rfl)) (RL_q rfl (Yd_len Try.underlying22 rfl) (RL_q rfl (Yd_neq rfl rfl) (RL_nil (X_then (C_no rfl rfl (C_skip (X_then (C_seq (?_))))))))))
  refine C_regionD (fun k => k = gE) (l := [(0, true), (1, true), (2, true), (3, true), (4, true), (5, true), (6, true), (8, true), (7, false), (9, true), (10, true), (11, false)]) (by kernel_rfl) (by kernel_rfl) rfl (by kernel_rfl) (fun _ _ d _ _ h => by cases d <;> exact h) ?_
  intro W5 he5 hh5
  replace hE := Ext.trans hE he5
  replace h_b := h_b.ext he5
  replace hF17 := hF17.ext he5
  replace hA20 := hA20.ext he5
  replace hB_20 := hB_20.ext he5
  replace hS20 := hS20.ext he5
  replace hF27_0 := hF27_0.ext he5
  replace hF32_0 := hF32_0.ext he5
  have hs5 := he5.size
  refine RO_q rfl rfl (Yd_move rfl) (RO_q rfl rfl (Yd_idxL Try.underlying37 (sz := 1) (by kernel_rfl) rfl rfl (by omega) (by omega)) (RO_q rfl rfl (Yd_load (v := .slice (some ⟨gE, 0, none⟩) 16 c1_20) Try.underlying22 rfl rfl (fun W hW => (Vw.lq1L (Vw.kp hS20.vw hW (fun k hk => by first | omega | (have hk := hk; dsimp only at hk; omega))) (i := 0) (a := ⟨(some ⟨gE, 0, none⟩), 16, c1_20⟩) rfl rfl rfl) W (Ext.refl W))) (RO_q rfl rfl (Yd_move rfl) (RO_q rfl rfl (Yd_idxL Try.underlying37 (sz := 1) (by kernel_rfl) rfl rfl (by omega) (by omega)) (RO_q rfl rfl (Yd_load (v := .slice (some ⟨gE, 0, none⟩) 16 c1_20) Try.underlying22 rfl rfl (fun W hW => (Vw.lq1L (Vw.kp hS20.vw hW (fun k hk => by first | omega | (have hk := hk; dsimp only at hk; omega))) (i := 0) (a := ⟨(some ⟨gE, 0, none⟩), 16, c1_20⟩) rfl rfl rfl) W (Ext.refl W))) (RO_q rfl rfl (Yd_idxL Try.underlying22 (sz := 1) (by kernel_rfl) rfl rfl (by omega) (by omega)) (RO_q rfl rfl (Yd_move rfl) (?_))))))))
  obtain ⟨x1, hx1, gx1⟩ := Vw.elem (i := 1) hA20.vw (by omega)
  replace gx1 : 0 ≤ x1 ∧ x1 ≤ 255 := gx1
  refine RO_l rfl rfl (Ld_yd (Yd_load Try.underlying5 rfl rfl (fun W hW => by subst hW; exact (Vw.lq1L hA20.vw hx1 rfl rfl) _ (Ext.refl _))) ?_)
  refine ⟨Kp.refl _ _, ?_⟩
  refine RO_q rfl rfl (Yd_xor rfl rfl rfl) (?_)
  have hxr74 := xorr (a := x1) (y := by_) ⟨by omega, by omega⟩ ⟨by omega, by omega⟩
  refine RO_q rfl rfl (Yd_idxL Try.underlying22 (sz := 1) (by kernel_rfl) rfl rfl (by omega) (by omega)) (RO_l0 rfl (Ld_putO (T := tU8) (a := (bitsOp .xor .u8 x1 by_)) (by kernel_rfl) rfl rfl hA20 (i := 1) (by omega) rfl rfl (by omega) ⟨by omega, by omega⟩ ?_))
  intro W6 hA20' hu6
  refine ⟨Kp.of_but hu6 rfl, ?_⟩
  have hk6 := Kp.ofb hu6
  have hs6 := hk6.size
  replace hE := Ext.kp hE hk6 (fun k hk => by first | omega | (have hk := hk; dsimp only at hk; omega))
  replace h_b := h_b.kp hk6 (fun k hk => by first | omega | (have hk := hk; dsimp only at hk; omega))
  replace hF17 := hF17.kp hk6 (fun k hk => by first | omega | (have hk := hk; dsimp only at hk; omega))
  replace hB_20 := hB_20.kp hk6 (fun k hk => by first | omega | (have hk := hk; dsimp only at hk; omega))
  replace hS20 := hS20.kp hk6 (fun k hk => by first | omega | (have hk := hk; dsimp only at hk; omega))
  replace hF27_0 := hF27_0.kp hk6 (fun k hk => by first | omega | (have hk := hk; dsimp only at hk; omega))
  replace hF32_0 := hF32_0.kp hk6 (fun k hk => by first | omega | (have hk := hk; dsimp only at hk; omega))
  replace hA20 := hA20'
  have hnhA20 := hA20.ln
  refine RO_nil (X_then (C_seq (C_region (RL_q rfl (Yd_move rfl) (RL_q rfl (Yd_move rfl) (?_))))))
  obtain ⟨gA27_0, rfl, hglA27_0, hghA27_0⟩ := Ow.at_ (i := 2) hF27_0 (by omega)
  refine RL_q rfl (Yd_idxL Try.underlying22 (sz := 1) (by kernel_rfl) rfl rfl (by omega) (by omega)) (?_)
  obtain ⟨x2, hx2, gx2⟩ := Vw.elem (i := 2) hF27_0.vw (by omega)
  replace gx2 : 0 ≤ x2 ∧ x2 ≤ 255 := gx2
  refine RL_q rfl (Yd_load Try.underlying5 rfl rfl (Vw.lq1L hF27_0.vw hx2 rfl rfl)) (RL_q rfl (Yd_move rfl) (RL_q rfl (Yd_xor rfl rfl rfl) (?_)))
  have hxr81 := xorr (a := x2) (y := by_) ⟨by omega, by omega⟩ ⟨by omega, by omega⟩
  refine RL_q rfl (Yd_idxL Try.underlying22 (sz := 1) (by kernel_rfl) rfl rfl (by omega) (by omega)) (RL_l0 (Ld_putO (T := tU8) (a := (bitsOp .xor .u8 x2 by_)) (by kernel_rfl) rfl rfl hF27_0 (i := 2) (by omega) rfl rfl (by omega) ⟨by omega, by omega⟩ ?_))
  intro W7 hF27_0' hu7
  have hk7 := Kp.ofb hu7
  have hs7 := hk7.size
  replace hE := Ext.kp hE hk7 (fun k hk => by first | omega | (have hk := hk; dsimp only at hk; omega))
  replace h_b := h_b.kp hk7 (fun k hk => by first | omega | (have hk := hk; dsimp only at hk; omega))
  replace hF17 := hF17.kp hk7 (fun k hk => by first | omega | (have hk := hk; dsimp only at hk; omega))
  replace hA20 := hA20.kp hk7 (fun k hk => by first | omega | (have hk := hk; dsimp only at hk; omega))
  replace hB_20 := hB_20.kp hk7 (fun k hk => by first | omega | (have hk := hk; dsimp only at hk; omega))
  replace hS20 := hS20.kp hk7 (fun k hk => by first | omega | (have hk := hk; dsimp only at hk; omega))
  replace hF32_0 := hF32_0.kp hk7 (fun k hk => by first | omega | (have hk := hk; dsimp only at hk; omega))
  replace hF27_0 := hF27_0'
  have hnhF27_0 := hF27_0.ln
  refine RL_nil (X_then (C_seq (C_region (RL_q rfl (Yd_move rfl) (RL_q rfl (Yd_move rfl) (?_))))))
  obtain ⟨gA32_0, rfl, hglA32_0, hghA32_0⟩ := Ow.at_ (i := 0) hF32_0 (by omega)
  refine RL_q rfl (Yd_idxL Try.underlying22 (sz := 1) (by kernel_rfl) rfl rfl (by omega) (by omega)) (?_)
  obtain ⟨x3, hx3, gx3⟩ := Vw.elem (i := 0) hF32_0.vw (by omega)
  replace gx3 : 0 ≤ x3 ∧ x3 ≤ 255 := gx3
  refine RL_q rfl (Yd_load Try.underlying5 rfl rfl (Vw.lq1L hF32_0.vw hx3 rfl rfl)) (RL_q rfl (Yd_move rfl) (RL_q rfl (Yd_xor rfl rfl rfl) (?_)))
  have hxr88 := xorr (a := x3) (y := by_) ⟨by omega, by omega⟩ ⟨by omega, by omega⟩
  refine RL_q rfl (Yd_idxL Try.underlying22 (sz := 1) (by kernel_rfl) rfl rfl (by omega) (by omega)) (RL_l0 (Ld_putO (T := tU8) (a := (bitsOp .xor .u8 x3 by_)) (by kernel_rfl) rfl rfl hF32_0 (i := 0) (by omega) rfl rfl (by omega) ⟨by omega, by omega⟩ ?_))
  intro W8 hF32_0' hu8
  have hk8 := Kp.ofb hu8
  have hs8 := hk8.size
  replace hE := Ext.kp hE hk8 (fun k hk => by first | omega | (have hk := hk; dsimp only at hk; omega))
  replace h_b := h_b.kp hk8 (fun k hk => by first | omega | (have hk := hk; dsimp only at hk; omega))
  replace hF17 := hF17.kp hk8 (fun k hk => by first | omega | (have hk := hk; dsimp only at hk; omega))
  replace hA20 := hA20.kp hk8 (fun k hk => by first | omega | (have hk := hk; dsimp only at hk; omega))
  replace hB_20 := hB_20.kp hk8 (fun k hk => by first | omega | (have hk := hk; dsimp only at hk; omega))
  replace hS20 := hS20.kp hk8 (fun k hk => by first | omega | (have hk := hk; dsimp only at hk; omega))
  replace hF27_0 := hF27_0.kp hk8 (fun k hk => by first | omega | (have hk := hk; dsimp only at hk; omega))
  replace hF32_0 := hF32_0'
  have hnhF32_0 := hF32_0.ln
  refine RL_nil (X_then (C_seq (C_seq (?_))))
  refine C_regionD (NoB) (l := [(0, true), (1, true), (2, true), (3, false), (4, true), (5, true)]) (by kernel_rfl) (by kernel_rfl) rfl (by kernel_rfl) (fun _ _ d _ _ h => by cases d <;> exact h) ?_
  intro W9 he9 hh9
  replace hE := Ext.trans hE he9
  replace h_b := h_b.ext he9
  replace hF17 := hF17.ext he9
  replace hA20 := hA20.ext he9
  replace hB_20 := hB_20.ext he9
  replace hS20 := hS20.ext he9
  replace hF27_0 := hF27_0.ext he9
  replace hF32_0 := hF32_0.ext he9
  have hs9 := he9.size
  refine RO_q rfl rfl (Yd_move rfl) (RO_q rfl rfl (Yd_str Try.underlying22 Try.underlying5 Try.underlying9 rfl (fun W hW => Rd.ext (hF17.vw).u8 hW.ext)) (RO_q rfl rfl (Yd_move rfl) (RO_l rfl rfl (Ld_call Try.func25 rfl (by kernel_rfl) rfl (FillV h_b ⟨by first | omega | (dsimp only; omega), by first | omega | (dsimp only; omega)⟩) ?_))))
  rintro e W10 ⟨A93, n93, c93, rfl, hF93, hfl93, he10⟩
  refine ⟨_, rfl, ?_⟩
  refine ⟨Kp.of_ext he10, ?_⟩
  replace hE := Ext.trans hE he10
  replace h_b := h_b.ext he10
  replace hF17 := hF17.ext he10
  replace hA20 := hA20.ext he10
  replace hB_20 := hB_20.ext he10
  replace hS20 := hS20.ext he10
  replace hF27_0 := hF27_0.ext he10
  replace hF32_0 := hF32_0.ext he10
  have hs10 := he10.size
  have hn93 := hF93.ln
  try simp only [List.length_append, List.length_cons, List.length_nil, List.length_set, List.length_take, List.length_drop, List.length_replicate, Nat.zero_add, Nat.add_zero, le_len] at hn93
  have hc93 := hF93.cap
  refine RO_q rfl rfl (Yd_str Try.underlying22 Try.underlying5 Try.underlying9 rfl (fun W hW => Rd.ext (hF93.vw).u8 hW.ext)) (RO_q rfl rfl (Yd_neqSB rfl rfl hF17.byt hF93.byt) (RO_nil (X_then (?_))))
  refine C_no rfl (by simp) (C_skip (X_then (C_seq (C_region (RL_q rfl (Yd_move rfl) (RL_q rfl (Yd_sliceH Try.underlying22 (sz := 1) (by kernel_rfl) rfl rfl (by omega) (by omega)) (RL_l rfl (Ld_call Try.func35 rfl (by kernel_rfl) rfl (SealV (Vw.take hF17.vw (by omega))) ?_))))))))
  rintro e W11 ⟨A99_0, n99_0, c99_0, y99_1, rfl, hF99_0, hy99_1, he11⟩
  refine ⟨_, rfl, ?_⟩
  replace hE := Ext.trans hE he11
  replace h_b := h_b.ext he11
  replace hF17 := hF17.ext he11
  replace hA20 := hA20.ext he11
  replace hB_20 := hB_20.ext he11
  replace hS20 := hS20.ext he11
  replace hF27_0 := hF27_0.ext he11
  replace hF32_0 := hF32_0.ext he11
  replace hF93 := hF93.ext he11
  have hs11 := he11.size
  have hn99_0 := hF99_0.ln
  try simp only [List.length_append, List.length_cons, List.length_nil, List.length_set, List.length_take, List.length_drop, List.length_replicate, Nat.zero_add, Nat.add_zero, le_len] at hn99_0
  have hc99_0 := hF99_0.cap
  have hO := open_seal (b := (fill b (32 : Int).toNat).take (16 : Int).toNat) (by rw [List.length_take]; omega)
  refine RL_q rfl (Yd_move rfl) (RL_q rfl (Yd_extract rfl rfl) (RL_q rfl (Yd_extract rfl rfl) (RL_q rfl (Yd_assign rfl) (RL_q rfl (Yd_assign rfl) (RL_nil (X_then (C_seq (C_region (RL_q rfl (Yd_move rfl) (RL_q rfl (Yd_move rfl) (?_)))))))))))
  obtain ⟨gA17, rfl, hglA17, hghA17⟩ := Ow.at_ (i := 5) hF17 (by omega)
  refine RL_q rfl (Yd_idxL Try.underlying22 (sz := 1) (by kernel_rfl) rfl rfl (by omega) (by omega)) (?_)
  obtain ⟨x4, hx4, gx4⟩ := Vw.elem (i := 5) hF17.vw (by omega)
  replace gx4 : 0 ≤ x4 ∧ x4 ≤ 255 := gx4
  refine RL_q rfl (Yd_load Try.underlying5 rfl rfl (Vw.lq1L hF17.vw hx4 rfl rfl)) (RL_q rfl (Yd_move rfl) (RL_q rfl (Yd_xor rfl rfl rfl) (?_)))
  have hxr107 := xorr (a := x4) (y := by_) ⟨by omega, by omega⟩ ⟨by omega, by omega⟩
  refine RL_q rfl (Yd_idxL Try.underlying22 (sz := 1) (by kernel_rfl) rfl rfl (by omega) (by omega)) (RL_l0 (Ld_putO (T := tU8) (a := (bitsOp .xor .u8 x4 by_)) (by kernel_rfl) rfl rfl hF17 (i := 5) (by omega) rfl rfl (by omega) ⟨by omega, by omega⟩ ?_))
  intro W12 hF17' hu12
  have hk12 := Kp.ofb hu12
  have hs12 := hk12.size
  replace hE := Ext.kp hE hk12 (fun k hk => by first | omega | (have hk := hk; dsimp only at hk; omega))
  replace h_b := h_b.kp hk12 (fun k hk => by first | omega | (have hk := hk; dsimp only at hk; omega))
  replace hA20 := hA20.kp hk12 (fun k hk => by first | omega | (have hk := hk; dsimp only at hk; omega))
  replace hB_20 := hB_20.kp hk12 (fun k hk => by first | omega | (have hk := hk; dsimp only at hk; omega))
  replace hS20 := hS20.kp hk12 (fun k hk => by first | omega | (have hk := hk; dsimp only at hk; omega))
  replace hF27_0 := hF27_0.kp hk12 (fun k hk => by first | omega | (have hk := hk; dsimp only at hk; omega))
  replace hF32_0 := hF32_0.kp hk12 (fun k hk => by first | omega | (have hk := hk; dsimp only at hk; omega))
  replace hF93 := hF93.kp hk12 (fun k hk => by first | omega | (have hk := hk; dsimp only at hk; omega))
  replace hF99_0 := hF99_0.kp hk12 (fun k hk => by first | omega | (have hk := hk; dsimp only at hk; omega))
  replace hF17 := hF17'
  have hnhF17 := hF17.ln
  refine RL_nil (X_then (C_seq (C_region (RL_q rfl (Yd_move rfl) (RL_l rfl (Ld_call Try.func33 rfl (by kernel_rfl) rfl (OpenV hF99_0.vw) ?_))))))
  rintro e W13 ⟨A111_0, n111_0, c111_0, y111_1, rfl, hF111_0, hy111_1, he13⟩
  refine ⟨_, rfl, ?_⟩
  replace hE := Ext.trans hE he13
  replace h_b := h_b.ext he13
  replace hF17 := hF17.ext he13
  replace hA20 := hA20.ext he13
  replace hB_20 := hB_20.ext he13
  replace hS20 := hS20.ext he13
  replace hF27_0 := hF27_0.ext he13
  replace hF32_0 := hF32_0.ext he13
  replace hF93 := hF93.ext he13
  replace hF99_0 := hF99_0.ext he13
  have hs13 := he13.size
  have hn111_0 := hF111_0.ln
  try simp only [List.length_append, List.length_cons, List.length_nil, List.length_set, List.length_take, List.length_drop, List.length_replicate, Nat.zero_add, Nat.add_zero, le_len] at hn111_0
  have hc111_0 := hF111_0.cap
  refine RL_q rfl (Yd_move rfl) (RL_q rfl (Yd_extract rfl rfl) (RL_q rfl (Yd_extract rfl rfl) (RL_q rfl (Yd_assign rfl) (RL_q rfl (Yd_assign rfl) (RL_nil (X_then (C_seq (?_))))))))
  refine C_regionD (NoB) (l := [(0, true), (1, true), (2, true), (3, true), (4, true), (5, true), (6, false), (7, true), (8, true), (9, true), (10, true), (11, true), (12, false), (13, true), (14, true)]) (by kernel_rfl) (by kernel_rfl) rfl (by kernel_rfl) (fun _ _ d _ _ h => by cases d <;> exact h) ?_
  intro W14 he14 hh14
  replace hE := Ext.trans hE he14
  replace h_b := h_b.ext he14
  replace hF17 := hF17.ext he14
  replace hA20 := hA20.ext he14
  replace hB_20 := hB_20.ext he14
  replace hS20 := hS20.ext he14
  replace hF27_0 := hF27_0.ext he14
  replace hF32_0 := hF32_0.ext he14
  replace hF93 := hF93.ext he14
  replace hF99_0 := hF99_0.ext he14
  replace hF111_0 := hF111_0.ext he14
  have hs14 := he14.size
  refine RO_q rfl rfl (Yd_move rfl) (RO_q rfl rfl (Yd_eql rfl rfl) (RO_q rfl rfl (Yd_move rfl) (?_)))
  refine RO_is (d := 116) (b' := true) rfl (by rw [hy111_1, hO.2.1]; rfl) ?_
  refine RO_gq rfl rfl rfl rfl (Yd_move rfl) (RO_gq rfl rfl rfl rfl (Yd_str Try.underlying22 Try.underlying5 Try.underlying9 rfl (fun W hW => Rd.ext (hF111_0.vw).u8 hW.ext)) (RO_gq rfl rfl rfl rfl (Yd_move rfl) (RO_gl rfl rfl rfl rfl (Ld_call Try.func25 rfl (by kernel_rfl) rfl (FillV h_b ⟨by first | omega | (dsimp only; omega), by first | omega | (dsimp only; omega)⟩) ?_))))
  rintro e W15 ⟨A120, n120, c120, rfl, hF120, hfl120, he15⟩
  refine ⟨_, rfl, ?_⟩
  refine ⟨Kp.of_ext he15, ?_⟩
  replace hE := Ext.trans hE he15
  replace h_b := h_b.ext he15
  replace hF17 := hF17.ext he15
  replace hA20 := hA20.ext he15
  replace hB_20 := hB_20.ext he15
  replace hS20 := hS20.ext he15
  replace hF27_0 := hF27_0.ext he15
  replace hF32_0 := hF32_0.ext he15
  replace hF93 := hF93.ext he15
  replace hF99_0 := hF99_0.ext he15
  replace hF111_0 := hF111_0.ext he15
  have hs15 := he15.size
  have hn120 := hF120.ln
  try simp only [List.length_append, List.length_cons, List.length_nil, List.length_set, List.length_take, List.length_drop, List.length_replicate, Nat.zero_add, Nat.add_zero, le_len] at hn120
  have hc120 := hF120.cap
  refine RO_gq rfl rfl rfl rfl (Yd_sliceH Try.underlying22 (sz := 1) (by kernel_rfl) rfl rfl (by omega) (by omega)) (RO_gq rfl rfl rfl rfl (Yd_str Try.underlying22 Try.underlying5 Try.underlying9 rfl (fun W hW => Rd.ext ((Vw.take hF120.vw (by omega))).u8 hW.ext)) (RO_gq rfl rfl rfl rfl (Yd_eqlSB rfl rfl hF111_0.byt (Vw.take hF120.vw (by omega)).byt) (RO_q rfl rfl (Yd_pickT rfl rfl) (RO_q rfl rfl (Yd_move rfl) (?_)))))
  refine RO_is (d := 125) (b' := true) rfl (by simpa using hO.1) ?_
  refine RO_gl rfl rfl rfl rfl (Ld_call Try.func30 rfl (by kernel_rfl) rfl (lives08V ) ?_)
  rintro e W16 ⟨_, rfl, rfl, he16⟩
  refine ⟨_, rfl, ?_⟩
  refine ⟨Kp.of_ext he16, ?_⟩
  replace hE := Ext.trans hE he16
  replace h_b := h_b.ext he16
  replace hF17 := hF17.ext he16
  replace hA20 := hA20.ext he16
  replace hB_20 := hB_20.ext he16
  replace hS20 := hS20.ext he16
  replace hF27_0 := hF27_0.ext he16
  replace hF32_0 := hF32_0.ext he16
  replace hF93 := hF93.ext he16
  replace hF99_0 := hF99_0.ext he16
  replace hF111_0 := hF111_0.ext he16
  replace hF120 := hF120.ext he16
  have hs16 := he16.size
  refine RO_q rfl rfl (Yd_pickT rfl rfl) (RO_q rfl rfl (Yd_assign rfl) (RO_nil (X_then (C_ret (X_ret1 rfl rfl ?_)))))
  refine ⟨_, rfl, ?_, hE⟩
  all_goals (first | rfl | omega | simp)
end Go.Proofs.AL
