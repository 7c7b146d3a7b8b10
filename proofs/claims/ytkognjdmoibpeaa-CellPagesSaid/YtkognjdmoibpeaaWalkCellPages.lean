import Derived.Test.YtkognjdmoibpeaaCel
set_option linter.unusedVariables false
set_option linter.unusedSimpArgs false
namespace Go.Proofs.AL
open Go.RowKit
theorem CellPagesV {lo_b B_b : Nat} {A_b : Option Addr} {n_b c_b : Nat} {b : List Int} {lo_s B_s : Nat} {A_s : Option Addr} {n_s c_s : Nat} {s : List Int} {w : World}  (h_b : Vw tU8 w lo_b B_b A_b n_b c_b b) (h_s : Vw tU8 w lo_s B_s A_s n_s c_s s) :
    Calls Try.prog 11 #[.slice A_b n_b c_b, .slice A_s n_s c_s] w fun e w' => ∃ (x0 : Bool), e = .returned (.bool x0) ∧ x0 = (true) ∧ Ext w w' := by
  have hE := Ext.refl w
  replace h_b := h_b.fit
  have hn_b := h_b.ln
  have hc_b := h_b.cap
  have hm_b := h_b.max
  simp only [maxLen] at hm_b
  replace h_s := h_s.fit
  have hn_s := h_s.ln
  have hc_s := h_s.cap
  have hm_s := h_s.max
  simp only [maxLen] at hm_s
  refine calls_of (l := [.slice A_b n_b c_b, .slice A_s n_s c_s]) (N := 148) Try.func11 rfl rfl rfl ?_
  refine C_seq (?_)
  by_cases hb32 : (few s 40).length = 32
  · skip
    refine C_region (RL_q rfl (Yd_assign rfl) (RL_nil (X_then (C_seq (C_region (RL_q rfl (Yd_move rfl) (RL_l rfl (Ld_call Try.func25 rfl (by kernel_rfl) rfl (FillV h_b ⟨by first | omega | (dsimp only; omega), by first | omega | (dsimp only; omega)⟩) ?_))))))))
    rintro e W1 ⟨A20, n20, c20, rfl, hF20, hfl20, he1⟩
    refine ⟨_, rfl, ?_⟩
    replace hE := Ext.trans hE he1
    replace h_b := h_b.ext he1
    replace h_s := h_s.ext he1
    have hs1 := he1.size
    have hn20 := hF20.ln
    try simp only [List.length_append, List.length_cons, List.length_nil, List.length_set, List.length_take, List.length_drop, List.length_replicate, Nat.zero_add, Nat.add_zero, le_len] at hn20
    have hc20 := hF20.cap
    refine RL_q rfl (Yd_assign rfl) (RL_nil (X_then (C_seq (C_region (RL_q rfl (Yd_move rfl) (RL_l rfl (Ld_call Try.func31 rfl (by kernel_rfl) rfl (SplitOk hF20.vw (by omega)) ?_)))))))
    rintro e W2 ⟨AS23, cS23, A1_23, A2_23, c1_23, c2_23, m23, rfl, hm23, hA23, hB_23, hS23, he2⟩
    refine ⟨_, rfl, ?_⟩
    replace hE := Ext.trans hE he2
    replace h_b := h_b.ext he2
    replace h_s := h_s.ext he2
    replace hF20 := hF20.ext he2
    have hs2 := he2.size
    have hcS23 := hS23.cap
    have hln1_23 := hA23.ln
    have hln2_23 := hB_23.ln
    have hcp1_23 := hA23.cap
    have hcp2_23 := hB_23.cap
    refine RL_q rfl (Yd_move rfl) (RL_q rfl (Yd_extract rfl rfl) (RL_q rfl (Yd_extract rfl rfl) (RL_q rfl (Yd_assign rfl) (RL_q rfl (Yd_assign rfl) (RL_nil (X_then (C_seq (C_region (RL_q rfl (Yd_move rfl) (RL_l rfl (Ld_call Try.func32 rfl (by kernel_rfl) rfl (JoinV hS23.vw hA23.vw hB_23.vw) ?_)))))))))))
    rintro e W3 ⟨A28_0, n28_0, c28_0, y28_1, rfl, hF28_0, hy28_1, he3⟩
    refine ⟨_, rfl, ?_⟩
    replace hE := Ext.trans hE he3
    replace h_b := h_b.ext he3
    replace h_s := h_s.ext he3
    replace hF20 := hF20.ext he3
    replace hA23 := hA23.ext he3
    replace hB_23 := hB_23.ext he3
    replace hS23 := hS23.ext he3
    have hs3 := he3.size
    have hn28_0 := hF28_0.ln
    try simp only [List.length_append, List.length_cons, List.length_nil, List.length_set, List.length_take, List.length_drop, List.length_replicate, Nat.zero_add, Nat.add_zero, le_len] at hn28_0
    have hc28_0 := hF28_0.cap
    have hj : joinL ((fill b (32 : Int).toNat).take 16) ((fill b (32 : Int).toNat).drop 16) = fill b (32 : Int).toNat := by rw [joinL_ok (by omega) (by omega), List.take_append_drop]
    refine RL_q rfl (Yd_move rfl) (RL_q rfl (Yd_extract rfl rfl) (RL_q rfl (Yd_extract rfl rfl) (RL_q rfl (Yd_assign rfl) (RL_q rfl (Yd_assign rfl) (RL_nil (X_then (C_seq (C_seq (C_region (RL_q rfl (Yd_move rfl) (RL_q rfl (Yd_neq rfl rfl) (RL_q rfl (Yd_move rfl) (RL_gq rfl rfl rfl (Yd_move rfl) (RL_gq rfl rfl rfl (Yd_neq rfl rfl) (RL_q rfl (Yd_pickF rfl rfl) (RL_q rfl (Yd_move rfl) (?_)))))))))))))))))
    refine RL_is (d := 37) (b' := false) rfl (by rw [hy28_1]; simp [joinE]) ?_
    refine RL_gq rfl rfl rfl (Yd_move rfl) (RL_gq rfl rfl rfl (Yd_len Try.underlying37 rfl) (RL_gq rfl rfl rfl (Yd_neq rfl rfl) (RL_q rfl (Yd_pickF rfl rfl) (RL_nil (X_then (C_no rfl rfl (C_skip (X_then (C_seq (C_seq (?_)))))))))))
    refine C_regionD (NoB) (l := [(0, true), (1, true), (2, true), (3, true), (4, true), (5, true), (6, true), (7, true), (8, true), (9, true), (10, true), (11, true), (12, true), (13, true), (14, true), (15, true), (16, true), (17, true), (18, true), (19, true), (20, true), (21, true), (22, true), (23, true), (24, true)]) (by kernel_rfl) (by kernel_rfl) rfl (by kernel_rfl) (fun _ _ d _ _ h => by cases d <;> exact h) ?_
    intro W4 he4 hh4
    replace hE := Ext.trans hE he4
    replace h_b := h_b.ext he4
    replace h_s := h_s.ext he4
    replace hF20 := hF20.ext he4
    replace hA23 := hA23.ext he4
    replace hB_23 := hB_23.ext he4
    replace hS23 := hS23.ext he4
    replace hF28_0 := hF28_0.ext he4
    have hs4 := he4.size
    refine RO_q rfl rfl (Yd_move rfl) (?_)
    obtain ⟨gAS23, rfl, hglAS23, hghAS23⟩ := Ow.at_ (i := 0) hS23 (by omega)
    refine RO_q rfl rfl (Yd_idxL Try.underlying37 (sz := 1) (by kernel_rfl) rfl rfl (by omega) (by omega)) (RO_q rfl rfl (Yd_load (v := .slice A1_23 16 c1_23) Try.underlying22 rfl rfl (fun W hW => (Vw.lq1L hS23.vw (i := 0) (a := ⟨A1_23, 16, c1_23⟩) rfl rfl rfl) W hW.ext)) (RO_q rfl rfl (Yd_str Try.underlying22 Try.underlying5 Try.underlying9 rfl (fun W hW => Rd.ext (hA23.vw).u8 hW.ext)) (RO_q rfl rfl (Yd_move rfl) (RO_q rfl rfl (Yd_sliceH Try.underlying22 (sz := 1) (by kernel_rfl) rfl rfl (by omega) (by omega)) (RO_q rfl rfl (Yd_str Try.underlying22 Try.underlying5 Try.underlying9 rfl (fun W hW => Rd.ext ((Vw.take hF20.vw (by omega))).u8 hW.ext)) (RO_q rfl rfl (Yd_neqSB rfl rfl hA23.byt (Vw.take hF20.vw (by omega)).byt) (RO_q rfl rfl (Yd_move rfl) (?_))))))))
    refine RO_is (d := 50) (b' := false) rfl (by simp) ?_
    refine RO_gq rfl rfl rfl rfl (Yd_move rfl) (RO_gq rfl rfl rfl rfl (Yd_idxL Try.underlying37 (sz := 1) (by kernel_rfl) rfl rfl (by omega) (by omega)) (RO_gq rfl rfl rfl rfl (Yd_load (v := .slice A2_23 16 c2_23) Try.underlying22 rfl rfl (fun W hW => (Vw.lq1L hS23.vw (i := 1) (a := ⟨A2_23, 16, c2_23⟩) rfl rfl rfl) W hW.ext)) (RO_gq rfl rfl rfl rfl (Yd_str Try.underlying22 Try.underlying5 Try.underlying9 rfl (fun W hW => Rd.ext (hB_23.vw).u8 hW.ext)) (RO_gq rfl rfl rfl rfl (Yd_move rfl) (RO_gq rfl rfl rfl rfl (Yd_sliceL Try.underlying22 (sz := 1) (by kernel_rfl) rfl rfl (by omega) (by omega)) (RO_gq rfl rfl rfl rfl (Yd_str Try.underlying22 Try.underlying5 Try.underlying9 rfl (fun W hW => Rd.ext ((Vw.drop hF20.vw (by omega))).u8 hW.ext)) (RO_gq rfl rfl rfl rfl (Yd_neqSB rfl rfl hB_23.byt (Vw.drop hF20.vw (by omega)).byt) (RO_q rfl rfl (Yd_pickF rfl rfl) (RO_q rfl rfl (Yd_move rfl) (?_))))))))))
    refine RO_is (d := 60) (b' := false) rfl (by simp) ?_
    refine RO_gq rfl rfl rfl rfl (Yd_move rfl) (RO_gq rfl rfl rfl rfl (Yd_str Try.underlying22 Try.underlying5 Try.underlying9 rfl (fun W hW => Rd.ext (hF28_0.vw).u8 hW.ext)) (RO_gq rfl rfl rfl rfl (Yd_move rfl) (RO_gq rfl rfl rfl rfl (Yd_str Try.underlying22 Try.underlying5 Try.underlying9 rfl (fun W hW => Rd.ext (hF20.vw).u8 hW.ext)) (RO_gq rfl rfl rfl rfl (Yd_neqSB rfl rfl hF28_0.byt hF20.byt) (RO_q rfl rfl (Yd_pickF rfl rfl) (RO_nil (X_then (?_))))))))
    refine C_no rfl (by rw [hj]; simp) (C_skip (X_then (C_seq (C_region (RL_q rfl (Yd_move rfl) (?_))))))
    refine RL_l rfl (Ld_call Try.func15 rfl (by kernel_rfl) rfl (FewV h_s ⟨by first | omega | (dsimp only; omega), by first | omega | (dsimp only; omega)⟩) ?_)
    rintro e W5 ⟨A68, n68, c68, rfl, hF68, hle68, he5⟩
    refine ⟨_, rfl, ?_⟩
    replace hE := Ext.trans hE he5
    replace h_b := h_b.ext he5
    replace h_s := h_s.ext he5
    replace hF20 := hF20.ext he5
    replace hA23 := hA23.ext he5
    replace hB_23 := hB_23.ext he5
    replace hS23 := hS23.ext he5
    replace hF28_0 := hF28_0.ext he5
    have hs5 := he5.size
    have hn68 := hF68.ln
    try simp only [List.length_append, List.length_cons, List.length_nil, List.length_set, List.length_take, List.length_drop, List.length_replicate, Nat.zero_add, Nat.add_zero, le_len] at hn68
    have hc68 := hF68.cap
    try rw [hle68.2.2.1 (by omega)] at hF68 hn68
    refine RL_q rfl (Yd_assign rfl) (RL_nil (X_then (C_seq (C_region (RL_q rfl (Yd_move rfl) (RL_l rfl (Ld_call Try.func31 rfl (by kernel_rfl) rfl (SplitOk hF68.vw (by omega)) ?_)))))))
    rintro e W6 ⟨AS71, cS71, A1_71, A2_71, c1_71, c2_71, m71, rfl, hm71, hA71, hB_71, hS71, he6⟩
    refine ⟨_, rfl, ?_⟩
    replace hE := Ext.trans hE he6
    replace h_b := h_b.ext he6
    replace h_s := h_s.ext he6
    replace hF20 := hF20.ext he6
    replace hA23 := hA23.ext he6
    replace hB_23 := hB_23.ext he6
    replace hS23 := hS23.ext he6
    replace hF28_0 := hF28_0.ext he6
    replace hF68 := hF68.ext he6
    have hs6 := he6.size
    have hcS71 := hS71.cap
    have hln1_71 := hA71.ln
    have hln2_71 := hB_71.ln
    have hcp1_71 := hA71.cap
    have hcp2_71 := hB_71.cap
    refine RL_q rfl (Yd_move rfl) (RL_q rfl (Yd_extract rfl rfl) (RL_q rfl (Yd_extract rfl rfl) (RL_q rfl (Yd_assign rfl) (RL_q rfl (Yd_assign rfl) (RL_nil (X_then (C_seq (C_seq (C_region (RL_q rfl (Yd_move rfl) (RL_q rfl (Yd_len Try.underlying22 rfl) (RL_q rfl (Yd_neq rfl rfl) (RL_q rfl (Yd_move rfl) (?_))))))))))))))
    refine RL_is (d := 77) (b' := false) rfl (by simp; omega) ?_
    refine RL_gn rfl rfl rfl rfl (RL_gn rfl rfl rfl rfl (RL_gn rfl rfl rfl rfl (RL_gu rfl rfl rfl (RL_gu rfl rfl rfl (RL_gu rfl rfl rfl (RL_gn rfl rfl rfl rfl (RL_q rfl (Yd_pickF rfl rfl) (RL_nil (X_then (C_no rfl rfl (C_skip (X_then (C_seq (?_))))))))))))))
    by_cases hb16 : (few s 40).length = 16
    · skip
      refine C_region (RL_q rfl (Yd_move rfl) (RL_q rfl (Yd_idxL Try.underlying37 (sz := 1) (by kernel_rfl) rfl rfl (by omega) (by omega)) (RL_q rfl (Yd_load (v := .slice A1_23 16 c1_23) Try.underlying22 rfl rfl (Vw.lq1L hS23.vw (i := 0) (a := ⟨A1_23, 16, c1_23⟩) rfl rfl rfl)) (RL_l rfl (Ld_lit Try.underlying37 rfl (lit_flat Try.underlying37 Try.elt22 rfl rfl ⟨rfl, by decide⟩) ?_)))))
      intro W7 he7 hz7 hL90
      replace hE := Ext.trans hE he7
      replace h_b := h_b.ext he7
      replace h_s := h_s.ext he7
      replace hF20 := hF20.ext he7
      replace hA23 := hA23.ext he7
      replace hB_23 := hB_23.ext he7
      replace hS23 := hS23.ext he7
      replace hF28_0 := hF28_0.ext he7
      replace hF68 := hF68.ext he7
      replace hA71 := hA71.ext he7
      replace hB_71 := hB_71.ext he7
      replace hS71 := hS71.ext he7
      have hO90 := Ow.of_blk (T := tSl) (l := [⟨A1_23, 16, c1_23⟩]) hL90 rfl (n := 1) rfl (by simp [maxLen]) (okc trivial okn)
      have hV90 := Vws.ofs (T := tU8) (N := 400) (hs := [⟨A1_23, 16, c1_23⟩]) (Vws.cons (hA23.vw.fit.more (Nat.zero_le _) (Nat.le_refl _)) (by omega) Vws.nil)
      clear hL90
      refine RL_l rfl (Ld_call Try.func32 rfl (by kernel_rfl) rfl (JoinBad (by omega)) ?_)
      rintro e W8 ⟨rfl, he8⟩
      refine ⟨_, rfl, ?_⟩
      replace hE := Ext.trans hE he8
      replace h_b := h_b.ext he8
      replace h_s := h_s.ext he8
      replace hF20 := hF20.ext he8
      replace hA23 := hA23.ext he8
      replace hB_23 := hB_23.ext he8
      replace hS23 := hS23.ext he8
      replace hF28_0 := hF28_0.ext he8
      replace hF68 := hF68.ext he8
      replace hA71 := hA71.ext he8
      replace hB_71 := hB_71.ext he8
      replace hS71 := hS71.ext he8
      replace hO90 := hO90.ext he8
      try replace hV90 := hV90.ext he8
      have hs8 := he8.size
      refine RL_q rfl (Yd_move rfl) (RL_q rfl (Yd_extract rfl rfl) (RL_q rfl (Yd_extract rfl rfl) (RL_q rfl (Yd_assign rfl) (RL_q rfl (Yd_assign rfl) (RL_nil (X_then (C_seq (?_))))))))
      refine C_regionD (NoB) (l := [(0, true), (1, true), (2, true), (3, true), (4, true), (5, true), (6, true), (7, true), (8, true), (9, false), (10, false), (11, true), (12, true), (13, true), (14, true), (15, true)]) (by kernel_rfl) (by kernel_rfl) rfl (by kernel_rfl) (fun _ _ d _ _ h => by cases d <;> exact h) ?_
      intro W9 he9 hh9
      replace hE := Ext.trans hE he9
      replace h_b := h_b.ext he9
      replace h_s := h_s.ext he9
      replace hF20 := hF20.ext he9
      replace hA23 := hA23.ext he9
      replace hB_23 := hB_23.ext he9
      replace hS23 := hS23.ext he9
      replace hF28_0 := hF28_0.ext he9
      replace hF68 := hF68.ext he9
      replace hA71 := hA71.ext he9
      replace hB_71 := hB_71.ext he9
      replace hS71 := hS71.ext he9
      replace hO90 := hO90.ext he9
      try replace hV90 := hV90.ext he9
      have hs9 := he9.size
      refine RO_q rfl rfl (Yd_move rfl) (RO_q rfl rfl (Yd_idxL Try.underlying37 (sz := 1) (by kernel_rfl) rfl rfl (by omega) (by omega)) (RO_q rfl rfl (Yd_load (v := .slice A1_23 16 c1_23) Try.underlying22 rfl rfl (fun W hW => (Vw.lq1L hS23.vw (i := 0) (a := ⟨A1_23, 16, c1_23⟩) rfl rfl rfl) W hW.ext)) (RO_q rfl rfl (Yd_move rfl) (RO_q rfl rfl (Yd_idxL Try.underlying37 (sz := 1) (by kernel_rfl) rfl rfl (by omega) (by omega)) (RO_q rfl rfl (Yd_load (v := .slice A2_23 16 c2_23) Try.underlying22 rfl rfl (fun W hW => (Vw.lq1L hS23.vw (i := 1) (a := ⟨A2_23, 16, c2_23⟩) rfl rfl rfl) W hW.ext)) (RO_q rfl rfl (Yd_move rfl) (RO_q rfl rfl (Yd_idxL Try.underlying37 (sz := 1) (by kernel_rfl) rfl rfl (by omega) (by omega)) (RO_q rfl rfl (Yd_load (v := .slice A1_23 16 c1_23) Try.underlying22 rfl rfl (fun W hW => (Vw.lq1L hS23.vw (i := 0) (a := ⟨A1_23, 16, c1_23⟩) rfl rfl rfl) W hW.ext)) (RO_l rfl rfl (Ld_lit Try.underlying37 rfl (lit_flat Try.underlying37 Try.elt22 rfl rfl ⟨rfl, by decide⟩) ?_))))))))))
      intro W10 he10 hz10 hL104
      refine ⟨Kp.of_ext he10, ?_⟩
      replace hE := Ext.trans hE he10
      replace h_b := h_b.ext he10
      replace h_s := h_s.ext he10
      replace hF20 := hF20.ext he10
      replace hA23 := hA23.ext he10
      replace hB_23 := hB_23.ext he10
      replace hS23 := hS23.ext he10
      replace hF28_0 := hF28_0.ext he10
      replace hF68 := hF68.ext he10
      replace hA71 := hA71.ext he10
      replace hB_71 := hB_71.ext he10
      replace hS71 := hS71.ext he10
      replace hO90 := hO90.ext he10
      try replace hV90 := hV90.ext he10
      have hO104 := Ow.of_blk (T := tSl) (l := [⟨A1_23, 16, c1_23⟩, ⟨A2_23, 16, c2_23⟩, ⟨A1_23, 16, c1_23⟩]) hL104 rfl (n := 3) rfl (by simp [maxLen]) (okc trivial (okc trivial (okc trivial okn)))
      have hV104 := Vws.ofs (T := tU8) (N := 400) (hs := [⟨A1_23, 16, c1_23⟩, ⟨A2_23, 16, c2_23⟩, ⟨A1_23, 16, c1_23⟩]) (Vws.cons (hA23.vw.fit.more (Nat.zero_le _) (Nat.le_refl _)) (by omega) (Vws.cons (hB_23.vw.fit.more (Nat.zero_le _) (Nat.le_refl _)) (by omega) (Vws.cons (hA23.vw.fit.more (Nat.zero_le _) (Nat.le_refl _)) (by omega) Vws.nil)))
      clear hL104
      refine RO_l rfl rfl (Ld_call Try.func32 rfl (by kernel_rfl) rfl (JoinBad (by omega)) ?_)
      rintro e W11 ⟨rfl, he11⟩
      refine ⟨_, rfl, ?_⟩
      refine ⟨Kp.of_ext he11, ?_⟩
      replace hE := Ext.trans hE he11
      replace h_b := h_b.ext he11
      replace h_s := h_s.ext he11
      replace hF20 := hF20.ext he11
      replace hA23 := hA23.ext he11
      replace hB_23 := hB_23.ext he11
      replace hS23 := hS23.ext he11
      replace hF28_0 := hF28_0.ext he11
      replace hF68 := hF68.ext he11
      replace hA71 := hA71.ext he11
      replace hB_71 := hB_71.ext he11
      replace hS71 := hS71.ext he11
      replace hO90 := hO90.ext he11
      try replace hV90 := hV90.ext he11
      replace hO104 := hO104.ext he11
      try replace hV104 := hV104.ext he11
      have hs11 := he11.size
      refine RO_q rfl rfl (Yd_move rfl) (RO_q rfl rfl (Yd_extract rfl rfl) (RO_q rfl rfl (Yd_extract rfl rfl) (RO_q rfl rfl (Yd_assign rfl) (RO_q rfl rfl (Yd_assign rfl) (RO_nil (X_then (C_seq (C_region (RL_q rfl (Yd_move rfl) (RL_q rfl (Yd_idxL Try.underlying37 (sz := 1) (by kernel_rfl) rfl rfl (by omega) (by omega)) (RL_q rfl (Yd_load (v := .slice A1_23 16 c1_23) Try.underlying22 rfl rfl (Vw.lq1L hS23.vw (i := 0) (a := ⟨A1_23, 16, c1_23⟩) rfl rfl rfl)) (RL_q rfl (Yd_move rfl) (RL_l rfl (Ld_lit Try.underlying37 rfl (lit_flat Try.underlying37 Try.elt22 rfl rfl ⟨rfl, by decide⟩) ?_))))))))))))))
      intro W12 he12 hz12 hL113
      replace hE := Ext.trans hE he12
      replace h_b := h_b.ext he12
      replace h_s := h_s.ext he12
      replace hF20 := hF20.ext he12
      replace hA23 := hA23.ext he12
      replace hB_23 := hB_23.ext he12
      replace hS23 := hS23.ext he12
      replace hF28_0 := hF28_0.ext he12
      replace hF68 := hF68.ext he12
      replace hA71 := hA71.ext he12
      replace hB_71 := hB_71.ext he12
      replace hS71 := hS71.ext he12
      replace hO90 := hO90.ext he12
      try replace hV90 := hV90.ext he12
      replace hO104 := hO104.ext he12
      try replace hV104 := hV104.ext he12
      have hO113 := Ow.of_blk (T := tSl) (l := [⟨A1_23, 16, c1_23⟩, ⟨A68, n68, c68⟩]) hL113 rfl (n := 2) rfl (by simp [maxLen]) (okc trivial (okc trivial okn))
      have hV113 := Vws.ofs (T := tU8) (N := 400) (hs := [⟨A1_23, 16, c1_23⟩, ⟨A68, n68, c68⟩]) (Vws.cons (hA23.vw.fit.more (Nat.zero_le _) (Nat.le_refl _)) (by omega) (Vws.cons (hF68.vw.fit.more (Nat.zero_le _) (Nat.le_refl _)) (by omega) Vws.nil))
      clear hL113
      refine RL_l rfl (Ld_call Try.func32 rfl (by kernel_rfl) rfl (JoinV hO113.vw hA23.vw hF68.vw) ?_)
      rintro e W13 ⟨A114_0, n114_0, c114_0, y114_1, rfl, hF114_0, hy114_1, he13⟩
      refine ⟨_, rfl, ?_⟩
      replace hE := Ext.trans hE he13
      replace h_b := h_b.ext he13
      replace h_s := h_s.ext he13
      replace hF20 := hF20.ext he13
      replace hA23 := hA23.ext he13
      replace hB_23 := hB_23.ext he13
      replace hS23 := hS23.ext he13
      replace hF28_0 := hF28_0.ext he13
      replace hF68 := hF68.ext he13
      replace hA71 := hA71.ext he13
      replace hB_71 := hB_71.ext he13
      replace hS71 := hS71.ext he13
      replace hO90 := hO90.ext he13
      try replace hV90 := hV90.ext he13
      replace hO104 := hO104.ext he13
      try replace hV104 := hV104.ext he13
      replace hO113 := hO113.ext he13
      try replace hV113 := hV113.ext he13
      have hs13 := he13.size
      have hn114_0 := hF114_0.ln
      try simp only [List.length_append, List.length_cons, List.length_nil, List.length_set, List.length_take, List.length_drop, List.length_replicate, Nat.zero_add, Nat.add_zero, le_len] at hn114_0
      have hc114_0 := hF114_0.cap
      refine RL_q rfl (Yd_move rfl) (RL_q rfl (Yd_extract rfl rfl) (RL_q rfl (Yd_extract rfl rfl) (RL_q rfl (Yd_assign rfl) (RL_q rfl (Yd_assign rfl) (RL_nil (X_then (C_seq (C_seq (C_region (RL_q rfl (Yd_move rfl) (RL_q rfl (Yd_len Try.underlying22 rfl) (RL_q rfl (Yd_neq rfl rfl) (RL_q rfl (Yd_move rfl) (?_))))))))))))))
      refine RL_is (d := 120) (b' := false) rfl (by simp; omega) ?_
      refine RL_gn rfl rfl rfl rfl (RL_gn rfl rfl rfl rfl (RL_gn rfl rfl rfl rfl (RL_gu rfl rfl rfl (RL_gu rfl rfl rfl (RL_gu rfl rfl rfl (RL_gn rfl rfl rfl rfl (RL_q rfl (Yd_pickF rfl rfl) (RL_nil (X_then (C_no rfl rfl (C_skip (X_then (C_seq (C_region (RL_q rfl (Yd_move rfl) (RL_q rfl (Yd_eql rfl rfl) (RL_q rfl (Yd_move rfl) (RL_gq rfl rfl rfl (Yd_move rfl) (RL_gq rfl rfl rfl (Yd_eql rfl rfl) (RL_q rfl (Yd_pickT rfl rfl) (RL_q rfl (Yd_move rfl) (RL_gq rfl rfl rfl (Yd_move rfl) (RL_gq rfl rfl rfl (Yd_len Try.underlying22 rfl) (RL_gq rfl rfl rfl (Yd_eql rfl rfl) (RL_q rfl (Yd_pickT rfl rfl) (RL_q rfl (Yd_move rfl) (RL_gq rfl rfl rfl (Yd_move rfl) (RL_gq rfl rfl rfl (Yd_len Try.underlying22 rfl) (RL_gq rfl rfl rfl (Yd_eql rfl rfl) (RL_q rfl (Yd_pickT rfl rfl) (RL_q rfl (Yd_move rfl) (RL_gl rfl rfl rfl (Ld_call Try.func30 rfl (by kernel_rfl) rfl (lives08V ) ?_)))))))))))))))))))))))))))))))))
      rintro e W14 ⟨_, rfl, rfl, he14⟩
      refine ⟨_, rfl, ?_⟩
      replace hE := Ext.trans hE he14
      replace h_b := h_b.ext he14
      replace h_s := h_s.ext he14
      replace hF20 := hF20.ext he14
      replace hA23 := hA23.ext he14
      replace hB_23 := hB_23.ext he14
      replace hS23 := hS23.ext he14
      replace hF28_0 := hF28_0.ext he14
      replace hF68 := hF68.ext he14
      replace hA71 := hA71.ext he14
      replace hB_71 := hB_71.ext he14
      replace hS71 := hS71.ext he14
      replace hO90 := hO90.ext he14
      try replace hV90 := hV90.ext he14
      replace hO104 := hO104.ext he14
      try replace hV104 := hV104.ext he14
      replace hO113 := hO113.ext he14
      try replace hV113 := hV113.ext he14
      replace hF114_0 := hF114_0.ext he14
      have hs14 := he14.size
      refine RL_q rfl (Yd_pickT rfl rfl) (RL_q rfl (Yd_assign rfl) (RL_nil (X_then (C_ret (X_ret1 rfl rfl ?_)))))
      refine ⟨_, rfl, ?_, hE⟩
      all_goals (first | rfl | omega | simp)
    · skip
      refine C_region (RL_q rfl (Yd_move rfl) (RL_q rfl (Yd_idxL Try.underlying37 (sz := 1) (by kernel_rfl) rfl rfl (by omega) (by omega)) (RL_q rfl (Yd_load (v := .slice A1_23 16 c1_23) Try.underlying22 rfl rfl (Vw.lq1L hS23.vw (i := 0) (a := ⟨A1_23, 16, c1_23⟩) rfl rfl rfl)) (RL_l rfl (Ld_lit Try.underlying37 rfl (lit_flat Try.underlying37 Try.elt22 rfl rfl ⟨rfl, by decide⟩) ?_)))))
      intro W7 he7 hz7 hL90
      replace hE := Ext.trans hE he7
      replace h_b := h_b.ext he7
      replace h_s := h_s.ext he7
      replace hF20 := hF20.ext he7
      replace hA23 := hA23.ext he7
      replace hB_23 := hB_23.ext he7
      replace hS23 := hS23.ext he7
      replace hF28_0 := hF28_0.ext he7
      replace hF68 := hF68.ext he7
      replace hA71 := hA71.ext he7
      replace hB_71 := hB_71.ext he7
      replace hS71 := hS71.ext he7
      have hO90 := Ow.of_blk (T := tSl) (l := [⟨A1_23, 16, c1_23⟩]) hL90 rfl (n := 1) rfl (by simp [maxLen]) (okc trivial okn)
      have hV90 := Vws.ofs (T := tU8) (N := 400) (hs := [⟨A1_23, 16, c1_23⟩]) (Vws.cons (hA23.vw.fit.more (Nat.zero_le _) (Nat.le_refl _)) (by omega) Vws.nil)
      clear hL90
      refine RL_l rfl (Ld_call Try.func32 rfl (by kernel_rfl) rfl (JoinBad (by omega)) ?_)
      rintro e W8 ⟨rfl, he8⟩
      refine ⟨_, rfl, ?_⟩
      replace hE := Ext.trans hE he8
      replace h_b := h_b.ext he8
      replace h_s := h_s.ext he8
      replace hF20 := hF20.ext he8
      replace hA23 := hA23.ext he8
      replace hB_23 := hB_23.ext he8
      replace hS23 := hS23.ext he8
      replace hF28_0 := hF28_0.ext he8
      replace hF68 := hF68.ext he8
      replace hA71 := hA71.ext he8
      replace hB_71 := hB_71.ext he8
      replace hS71 := hS71.ext he8
      replace hO90 := hO90.ext he8
      try replace hV90 := hV90.ext he8
      have hs8 := he8.size
      refine RL_q rfl (Yd_move rfl) (RL_q rfl (Yd_extract rfl rfl) (RL_q rfl (Yd_extract rfl rfl) (RL_q rfl (Yd_assign rfl) (RL_q rfl (Yd_assign rfl) (RL_nil (X_then (C_seq (?_))))))))
      refine C_regionD (NoB) (l := [(0, true), (1, true), (2, true), (3, true), (4, true), (5, true), (6, true), (7, true), (8, true), (9, false), (10, false), (11, true), (12, true), (13, true), (14, true), (15, true)]) (by kernel_rfl) (by kernel_rfl) rfl (by kernel_rfl) (fun _ _ d _ _ h => by cases d <;> exact h) ?_
      intro W9 he9 hh9
      replace hE := Ext.trans hE he9
      replace h_b := h_b.ext he9
      replace h_s := h_s.ext he9
      replace hF20 := hF20.ext he9
      replace hA23 := hA23.ext he9
      replace hB_23 := hB_23.ext he9
      replace hS23 := hS23.ext he9
      replace hF28_0 := hF28_0.ext he9
      replace hF68 := hF68.ext he9
      replace hA71 := hA71.ext he9
      replace hB_71 := hB_71.ext he9
      replace hS71 := hS71.ext he9
      replace hO90 := hO90.ext he9
      try replace hV90 := hV90.ext he9
      have hs9 := he9.size
      refine RO_q rfl rfl (Yd_move rfl) (RO_q rfl rfl (Yd_idxL Try.underlying37 (sz := 1) (by kernel_rfl) rfl rfl (by omega) (by omega)) (RO_q rfl rfl (Yd_load (v := .slice A1_23 16 c1_23) Try.underlying22 rfl rfl (fun W hW => (Vw.lq1L hS23.vw (i := 0) (a := ⟨A1_23, 16, c1_23⟩) rfl rfl rfl) W hW.ext)) (RO_q rfl rfl (Yd_move rfl) (RO_q rfl rfl (Yd_idxL Try.underlying37 (sz := 1) (by kernel_rfl) rfl rfl (by omega) (by omega)) (RO_q rfl rfl (Yd_load (v := .slice A2_23 16 c2_23) Try.underlying22 rfl rfl (fun W hW => (Vw.lq1L hS23.vw (i := 1) (a := ⟨A2_23, 16, c2_23⟩) rfl rfl rfl) W hW.ext)) (RO_q rfl rfl (Yd_move rfl) (RO_q rfl rfl (Yd_idxL Try.underlying37 (sz := 1) (by kernel_rfl) rfl rfl (by omega) (by omega)) (RO_q rfl rfl (Yd_load (v := .slice A1_23 16 c1_23) Try.underlying22 rfl rfl (fun W hW => (Vw.lq1L hS23.vw (i := 0) (a := ⟨A1_23, 16, c1_23⟩) rfl rfl rfl) W hW.ext)) (RO_l rfl rfl (Ld_lit Try.underlying37 rfl (lit_flat Try.underlying37 Try.elt22 rfl rfl ⟨rfl, by decide⟩) ?_))))))))))
      intro W10 he10 hz10 hL104
      refine ⟨Kp.of_ext he10, ?_⟩
      replace hE := Ext.trans hE he10
      replace h_b := h_b.ext he10
      replace h_s := h_s.ext he10
      replace hF20 := hF20.ext he10
      replace hA23 := hA23.ext he10
      replace hB_23 := hB_23.ext he10
      replace hS23 := hS23.ext he10
      replace hF28_0 := hF28_0.ext he10
      replace hF68 := hF68.ext he10
      replace hA71 := hA71.ext he10
      replace hB_71 := hB_71.ext he10
      replace hS71 := hS71.ext he10
      replace hO90 := hO90.ext he10
      try replace hV90 := hV90.ext he10
      have hO104 := Ow.of_blk (T := tSl) (l := [⟨A1_23, 16, c1_23⟩, ⟨A2_23, 16, c2_23⟩, ⟨A1_23, 16, c1_23⟩]) hL104 rfl (n := 3) rfl (by simp [maxLen]) (okc trivial (okc trivial (okc trivial okn)))
      have hV104 := Vws.ofs (T := tU8) (N := 400) (hs := [⟨A1_23, 16, c1_23⟩, ⟨A2_23, 16, c2_23⟩, ⟨A1_23, 16, c1_23⟩]) (Vws.cons (hA23.vw.fit.more (Nat.zero_le _) (Nat.le_refl _)) (by omega) (Vws.cons (hB_23.vw.fit.more (Nat.zero_le _) (Nat.le_refl _)) (by omega) (Vws.cons (hA23.vw.fit.more (Nat.zero_le _) (Nat.le_refl _)) (by omega) Vws.nil)))
      clear hL104
      refine RO_l rfl rfl (Ld_call Try.func32 rfl (by kernel_rfl) rfl (JoinBad (by omega)) ?_)
      rintro e W11 ⟨rfl, he11⟩
      refine ⟨_, rfl, ?_⟩
      refine ⟨Kp.of_ext he11, ?_⟩
      replace hE := Ext.trans hE he11
      replace h_b := h_b.ext he11
      replace h_s := h_s.ext he11
      replace hF20 := hF20.ext he11
      replace hA23 := hA23.ext he11
      replace hB_23 := hB_23.ext he11
      replace hS23 := hS23.ext he11
      replace hF28_0 := hF28_0.ext he11
      replace hF68 := hF68.ext he11
      replace hA71 := hA71.ext he11
      replace hB_71 := hB_71.ext he11
      replace hS71 := hS71.ext he11
      replace hO90 := hO90.ext he11
      try replace hV90 := hV90.ext he11
      replace hO104 := hO104.ext he11
      try replace hV104 := hV104.ext he11
      have hs11 := he11.size
      refine RO_q rfl rfl (Yd_move rfl) (RO_q rfl rfl (Yd_extract rfl rfl) (RO_q rfl rfl (Yd_extract rfl rfl) (RO_q rfl rfl (Yd_assign rfl) (RO_q rfl rfl (Yd_assign rfl) (RO_nil (X_then (C_seq (C_region (RL_q rfl (Yd_move rfl) (RL_q rfl (Yd_idxL Try.underlying37 (sz := 1) (by kernel_rfl) rfl rfl (by omega) (by omega)) (RL_q rfl (Yd_load (v := .slice A1_23 16 c1_23) Try.underlying22 rfl rfl (Vw.lq1L hS23.vw (i := 0) (a := ⟨A1_23, 16, c1_23⟩) rfl rfl rfl)) (RL_q rfl (Yd_move rfl) (RL_l rfl (Ld_lit Try.underlying37 rfl (lit_flat Try.underlying37 Try.elt22 rfl rfl ⟨rfl, by decide⟩) ?_))))))))))))))
      intro W12 he12 hz12 hL113
      replace hE := Ext.trans hE he12
      replace h_b := h_b.ext he12
      replace h_s := h_s.ext he12
      replace hF20 := hF20.ext he12
      replace hA23 := hA23.ext he12
      replace hB_23 := hB_23.ext he12
      replace hS23 := hS23.ext he12
      replace hF28_0 := hF28_0.ext he12
      replace hF68 := hF68.ext he12
      replace hA71 := hA71.ext he12
      replace hB_71 := hB_71.ext he12
      replace hS71 := hS71.ext he12
      replace hO90 := hO90.ext he12
      try replace hV90 := hV90.ext he12
      replace hO104 := hO104.ext he12
      try replace hV104 := hV104.ext he12
      have hO113 := Ow.of_blk (T := tSl) (l := [⟨A1_23, 16, c1_23⟩, ⟨A68, n68, c68⟩]) hL113 rfl (n := 2) rfl (by simp [maxLen]) (okc trivial (okc trivial okn))
      have hV113 := Vws.ofs (T := tU8) (N := 400) (hs := [⟨A1_23, 16, c1_23⟩, ⟨A68, n68, c68⟩]) (Vws.cons (hA23.vw.fit.more (Nat.zero_le _) (Nat.le_refl _)) (by omega) (Vws.cons (hF68.vw.fit.more (Nat.zero_le _) (Nat.le_refl _)) (by omega) Vws.nil))
      clear hL113
      refine RL_l rfl (Ld_call Try.func32 rfl (by kernel_rfl) rfl (JoinV hO113.vw hA23.vw hF68.vw) ?_)
      rintro e W13 ⟨A114_0, n114_0, c114_0, y114_1, rfl, hF114_0, hy114_1, he13⟩
      refine ⟨_, rfl, ?_⟩
      replace hE := Ext.trans hE he13
      replace h_b := h_b.ext he13
      replace h_s := h_s.ext he13
      replace hF20 := hF20.ext he13
      replace hA23 := hA23.ext he13
      replace hB_23 := hB_23.ext he13
      replace hS23 := hS23.ext he13
      replace hF28_0 := hF28_0.ext he13
      replace hF68 := hF68.ext he13
      replace hA71 := hA71.ext he13
      replace hB_71 := hB_71.ext he13
      replace hS71 := hS71.ext he13
      replace hO90 := hO90.ext he13
      try replace hV90 := hV90.ext he13
      replace hO104 := hO104.ext he13
      try replace hV104 := hV104.ext he13
      replace hO113 := hO113.ext he13
      try replace hV113 := hV113.ext he13
      have hs13 := he13.size
      have hn114_0 := hF114_0.ln
      try simp only [List.length_append, List.length_cons, List.length_nil, List.length_set, List.length_take, List.length_drop, List.length_replicate, Nat.zero_add, Nat.add_zero, le_len] at hn114_0
      have hc114_0 := hF114_0.cap
      refine RL_q rfl (Yd_move rfl) (RL_q rfl (Yd_extract rfl rfl) (RL_q rfl (Yd_extract rfl rfl) (RL_q rfl (Yd_assign rfl) (RL_q rfl (Yd_assign rfl) (RL_nil (X_then (C_seq (C_seq (C_region (RL_q rfl (Yd_move rfl) (RL_q rfl (Yd_len Try.underlying22 rfl) (RL_q rfl (Yd_neq rfl rfl) (RL_q rfl (Yd_move rfl) (?_))))))))))))))
      refine RL_is (d := 120) (b' := true) rfl (by simp; omega) ?_
      refine RL_gq rfl rfl rfl (Yd_move rfl) (RL_gq rfl rfl rfl (Yd_neq rfl rfl) (RL_gq rfl rfl rfl (Yd_move rfl) (?_)))
      refine RL_is (d := 123) (b' := false) rfl (by rw [hy114_1, joinE, if_neg (by omega)]; rfl) ?_
      refine RL_gq rfl rfl rfl (Yd_move rfl) (RL_gq rfl rfl rfl (Yd_len Try.underlying22 rfl) (RL_gq rfl rfl rfl (Yd_gtr rfl rfl) (RL_gq rfl rfl rfl (Yd_pickF rfl rfl) (RL_q rfl (Yd_pickT rfl rfl) (RL_nil (X_then (?_)))))))
      refine C_no rfl (by rw [joinL_no (by omega)] at hn114_0; simp at hn114_0 ⊢; omega) (C_skip (X_then (C_seq (C_region (RL_q rfl (Yd_move rfl) (RL_q rfl (Yd_eql rfl rfl) (RL_q rfl (Yd_move rfl) (RL_gq rfl rfl rfl (Yd_move rfl) (RL_gq rfl rfl rfl (Yd_eql rfl rfl) (RL_q rfl (Yd_pickT rfl rfl) (RL_q rfl (Yd_move rfl) (RL_gq rfl rfl rfl (Yd_move rfl) (RL_gq rfl rfl rfl (Yd_len Try.underlying22 rfl) (RL_gq rfl rfl rfl (Yd_eql rfl rfl) (RL_q rfl (Yd_pickT rfl rfl) (RL_q rfl (Yd_move rfl) (RL_gq rfl rfl rfl (Yd_move rfl) (RL_gq rfl rfl rfl (Yd_len Try.underlying22 rfl) (RL_gq rfl rfl rfl (Yd_eql rfl rfl) (RL_q rfl (Yd_pickT rfl rfl) (RL_q rfl (Yd_move rfl) (RL_gl rfl rfl rfl (Ld_call Try.func30 rfl (by kernel_rfl) rfl (lives08V ) ?_)))))))))))))))))))))))
      rintro e W14 ⟨_, rfl, rfl, he14⟩
      refine ⟨_, rfl, ?_⟩
      replace hE := Ext.trans hE he14
      replace h_b := h_b.ext he14
      replace h_s := h_s.ext he14
      replace hF20 := hF20.ext he14
      replace hA23 := hA23.ext he14
      replace hB_23 := hB_23.ext he14
      replace hS23 := hS23.ext he14
      replace hF28_0 := hF28_0.ext he14
      replace hF68 := hF68.ext he14
      replace hA71 := hA71.ext he14
      replace hB_71 := hB_71.ext he14
      replace hS71 := hS71.ext he14
      replace hO90 := hO90.ext he14
      try replace hV90 := hV90.ext he14
      replace hO104 := hO104.ext he14
      try replace hV104 := hV104.ext he14
      replace hO113 := hO113.ext he14
      try replace hV113 := hV113.ext he14
      replace hF114_0 := hF114_0.ext he14
      have hs14 := he14.size
      refine RL_q rfl (Yd_pickT rfl rfl) (RL_q rfl (Yd_assign rfl) (RL_nil (X_then (C_ret (X_ret1 rfl rfl ?_)))))
      refine ⟨_, rfl, ?_, hE⟩
      all_goals (first | rfl | omega | simp)
  · skip
    refine C_region (RL_q rfl (Yd_assign rfl) (RL_nil (X_then (C_seq (C_region (RL_q rfl (Yd_move rfl) (RL_l rfl (Ld_call Try.func25 rfl (by kernel_rfl) rfl (FillV h_b ⟨by first | omega | (dsimp only; omega), by first | omega | (dsimp only; omega)⟩) ?_))))))))
    rintro e W1 ⟨A20, n20, c20, rfl, hF20, hfl20, he1⟩
    refine ⟨_, rfl, ?_⟩
    replace hE := Ext.trans hE he1
    replace h_b := h_b.ext he1
    replace h_s := h_s.ext he1
    have hs1 := he1.size
    have hn20 := hF20.ln
    try simp only [List.length_append, List.length_cons, List.length_nil, List.length_set, List.length_take, List.length_drop, List.length_replicate, Nat.zero_add, Nat.add_zero, le_len] at hn20
    have hc20 := hF20.cap
    refine RL_q rfl (Yd_assign rfl) (RL_nil (X_then (C_seq (C_region (RL_q rfl (Yd_move rfl) (RL_l rfl (Ld_call Try.func31 rfl (by kernel_rfl) rfl (SplitOk hF20.vw (by omega)) ?_)))))))
    rintro e W2 ⟨AS23, cS23, A1_23, A2_23, c1_23, c2_23, m23, rfl, hm23, hA23, hB_23, hS23, he2⟩
    refine ⟨_, rfl, ?_⟩
    replace hE := Ext.trans hE he2
    replace h_b := h_b.ext he2
    replace h_s := h_s.ext he2
    replace hF20 := hF20.ext he2
    have hs2 := he2.size
    have hcS23 := hS23.cap
    have hln1_23 := hA23.ln
    have hln2_23 := hB_23.ln
    have hcp1_23 := hA23.cap
    have hcp2_23 := hB_23.cap
    refine RL_q rfl (Yd_move rfl) (RL_q rfl (Yd_extract rfl rfl) (RL_q rfl (Yd_extract rfl rfl) (RL_q rfl (Yd_assign rfl) (RL_q rfl (Yd_assign rfl) (RL_nil (X_then (C_seq (C_region (RL_q rfl (Yd_move rfl) (RL_l rfl (Ld_call Try.func32 rfl (by kernel_rfl) rfl (JoinV hS23.vw hA23.vw hB_23.vw) ?_)))))))))))
    rintro e W3 ⟨A28_0, n28_0, c28_0, y28_1, rfl, hF28_0, hy28_1, he3⟩
    refine ⟨_, rfl, ?_⟩
    replace hE := Ext.trans hE he3
    replace h_b := h_b.ext he3
    replace h_s := h_s.ext he3
    replace hF20 := hF20.ext he3
    replace hA23 := hA23.ext he3
    replace hB_23 := hB_23.ext he3
    replace hS23 := hS23.ext he3
    have hs3 := he3.size
    have hn28_0 := hF28_0.ln
    try simp only [List.length_append, List.length_cons, List.length_nil, List.length_set, List.length_take, List.length_drop, List.length_replicate, Nat.zero_add, Nat.add_zero, le_len] at hn28_0
    have hc28_0 := hF28_0.cap
    have hj : joinL ((fill b (32 : Int).toNat).take 16) ((fill b (32 : Int).toNat).drop 16) = fill b (32 : Int).toNat := by rw [joinL_ok (by omega) (by omega), List.take_append_drop]
    refine RL_q rfl (Yd_move rfl) (RL_q rfl (Yd_extract rfl rfl) (RL_q rfl (Yd_extract rfl rfl) (RL_q rfl (Yd_assign rfl) (RL_q rfl (Yd_assign rfl) (RL_nil (X_then (C_seq (C_seq (C_region (RL_q rfl (Yd_move rfl) (RL_q rfl (Yd_neq rfl rfl) (RL_q rfl (Yd_move rfl) (RL_gq rfl rfl rfl (Yd_move rfl) (RL_gq rfl rfl rfl (Yd_neq rfl rfl) (RL_q rfl (Yd_pickF rfl rfl) (RL_q rfl (Yd_move rfl) (?_)))))))))))))))))
    refine RL_is (d := 37) (b' := false) rfl (by rw [hy28_1]; simp [joinE]) ?_
    refine RL_gq rfl rfl rfl (Yd_move rfl) (RL_gq rfl rfl rfl (Yd_len Try.underlying37 rfl) (RL_gq rfl rfl rfl (Yd_neq rfl rfl) (RL_q rfl (Yd_pickF rfl rfl) (RL_nil (X_then (C_no rfl rfl (C_skip (X_then (C_seq (C_seq (?_)))))))))))
    refine C_regionD (NoB) (l := [(0, true), (1, true), (2, true), (3, true), (4, true), (5, true), (6, true), (7, true), (8, true), (9, true), (10, true), (11, true), (12, true), (13, true), (14, true), (15, true), (16, true), (17, true), (18, true), (19, true), (20, true), (21, true), (22, true), (23, true), (24, true)]) (by kernel_rfl) (by kernel_rfl) rfl (by kernel_rfl) (fun _ _ d _ _ h => by cases d <;> exact h) ?_
    intro W4 he4 hh4
    replace hE := Ext.trans hE he4
    replace h_b := h_b.ext he4
    replace h_s := h_s.ext he4
    replace hF20 := hF20.ext he4
    replace hA23 := hA23.ext he4
    replace hB_23 := hB_23.ext he4
    replace hS23 := hS23.ext he4
    replace hF28_0 := hF28_0.ext he4
    have hs4 := he4.size
    refine RO_q rfl rfl (Yd_move rfl) (?_)
    obtain ⟨gAS23, rfl, hglAS23, hghAS23⟩ := Ow.at_ (i := 0) hS23 (by omega)
    refine RO_q rfl rfl (Yd_idxL Try.underlying37 (sz := 1) (by kernel_rfl) rfl rfl (by omega) (by omega)) (RO_q rfl rfl (Yd_load (v := .slice A1_23 16 c1_23) Try.underlying22 rfl rfl (fun W hW => (Vw.lq1L hS23.vw (i := 0) (a := ⟨A1_23, 16, c1_23⟩) rfl rfl rfl) W hW.ext)) (RO_q rfl rfl (Yd_str Try.underlying22 Try.underlying5 Try.underlying9 rfl (fun W hW => Rd.ext (hA23.vw).u8 hW.ext)) (RO_q rfl rfl (Yd_move rfl) (RO_q rfl rfl (Yd_sliceH Try.underlying22 (sz := 1) (by kernel_rfl) rfl rfl (by omega) (by omega)) (RO_q rfl rfl (Yd_str Try.underlying22 Try.underlying5 Try.underlying9 rfl (fun W hW => Rd.ext ((Vw.take hF20.vw (by omega))).u8 hW.ext)) (RO_q rfl rfl (Yd_neqSB rfl rfl hA23.byt (Vw.take hF20.vw (by omega)).byt) (RO_q rfl rfl (Yd_move rfl) (?_))))))))
    refine RO_is (d := 50) (b' := false) rfl (by simp) ?_
    refine RO_gq rfl rfl rfl rfl (Yd_move rfl) (RO_gq rfl rfl rfl rfl (Yd_idxL Try.underlying37 (sz := 1) (by kernel_rfl) rfl rfl (by omega) (by omega)) (RO_gq rfl rfl rfl rfl (Yd_load (v := .slice A2_23 16 c2_23) Try.underlying22 rfl rfl (fun W hW => (Vw.lq1L hS23.vw (i := 1) (a := ⟨A2_23, 16, c2_23⟩) rfl rfl rfl) W hW.ext)) (RO_gq rfl rfl rfl rfl (Yd_str Try.underlying22 Try.underlying5 Try.underlying9 rfl (fun W hW => Rd.ext (hB_23.vw).u8 hW.ext)) (RO_gq rfl rfl rfl rfl (Yd_move rfl) (RO_gq rfl rfl rfl rfl (Yd_sliceL Try.underlying22 (sz := 1) (by kernel_rfl) rfl rfl (by omega) (by omega)) (RO_gq rfl rfl rfl rfl (Yd_str Try.underlying22 Try.underlying5 Try.underlying9 rfl (fun W hW => Rd.ext ((Vw.drop hF20.vw (by omega))).u8 hW.ext)) (RO_gq rfl rfl rfl rfl (Yd_neqSB rfl rfl hB_23.byt (Vw.drop hF20.vw (by omega)).byt) (RO_q rfl rfl (Yd_pickF rfl rfl) (RO_q rfl rfl (Yd_move rfl) (?_))))))))))
    refine RO_is (d := 60) (b' := false) rfl (by simp) ?_
    refine RO_gq rfl rfl rfl rfl (Yd_move rfl) (RO_gq rfl rfl rfl rfl (Yd_str Try.underlying22 Try.underlying5 Try.underlying9 rfl (fun W hW => Rd.ext (hF28_0.vw).u8 hW.ext)) (RO_gq rfl rfl rfl rfl (Yd_move rfl) (RO_gq rfl rfl rfl rfl (Yd_str Try.underlying22 Try.underlying5 Try.underlying9 rfl (fun W hW => Rd.ext (hF20.vw).u8 hW.ext)) (RO_gq rfl rfl rfl rfl (Yd_neqSB rfl rfl hF28_0.byt hF20.byt) (RO_q rfl rfl (Yd_pickF rfl rfl) (RO_nil (X_then (?_))))))))
    refine C_no rfl (by rw [hj]; simp) (C_skip (X_then (C_seq (C_region (RL_q rfl (Yd_move rfl) (?_))))))
    refine RL_l rfl (Ld_call Try.func15 rfl (by kernel_rfl) rfl (FewV h_s ⟨by first | omega | (dsimp only; omega), by first | omega | (dsimp only; omega)⟩) ?_)
    rintro e W5 ⟨A68, n68, c68, rfl, hF68, hle68, he5⟩
    refine ⟨_, rfl, ?_⟩
    replace hE := Ext.trans hE he5
    replace h_b := h_b.ext he5
    replace h_s := h_s.ext he5
    replace hF20 := hF20.ext he5
    replace hA23 := hA23.ext he5
    replace hB_23 := hB_23.ext he5
    replace hS23 := hS23.ext he5
    replace hF28_0 := hF28_0.ext he5
    have hs5 := he5.size
    have hn68 := hF68.ln
    try simp only [List.length_append, List.length_cons, List.length_nil, List.length_set, List.length_take, List.length_drop, List.length_replicate, Nat.zero_add, Nat.add_zero, le_len] at hn68
    have hc68 := hF68.cap
    try rw [hle68.2.2.1 (by omega)] at hF68 hn68
    refine RL_q rfl (Yd_assign rfl) (RL_nil (X_then (C_seq (C_region (RL_q rfl (Yd_move rfl) (RL_l rfl (Ld_call Try.func31 rfl (by kernel_rfl) rfl (SplitBad hF68.vw (by omega)) ?_)))))))
    rintro e W6 ⟨rfl, he6⟩
    refine ⟨_, rfl, ?_⟩
    replace hE := Ext.trans hE he6
    replace h_b := h_b.ext he6
    replace h_s := h_s.ext he6
    replace hF20 := hF20.ext he6
    replace hA23 := hA23.ext he6
    replace hB_23 := hB_23.ext he6
    replace hS23 := hS23.ext he6
    replace hF28_0 := hF28_0.ext he6
    replace hF68 := hF68.ext he6
    have hs6 := he6.size
    refine RL_q rfl (Yd_move rfl) (RL_q rfl (Yd_extract rfl rfl) (RL_q rfl (Yd_extract rfl rfl) (RL_q rfl (Yd_assign rfl) (RL_q rfl (Yd_assign rfl) (RL_nil (X_then (C_seq (C_seq (C_region (RL_q rfl (Yd_move rfl) (RL_q rfl (Yd_len Try.underlying22 rfl) (RL_q rfl (Yd_neq rfl rfl) (RL_q rfl (Yd_move rfl) (?_))))))))))))))
    refine RL_is (d := 77) (b' := true) rfl (by simp; omega) ?_
    refine RL_gq rfl rfl rfl (Yd_move rfl) (RL_gq rfl rfl rfl (Yd_neq rfl rfl) (RL_gq rfl rfl rfl (Yd_move rfl) (RL_gq rfl rfl rfl (Yd_move rfl) (RL_gq rfl rfl rfl (Yd_len Try.underlying37 rfl) (RL_gq rfl rfl rfl (Yd_gtr rfl rfl) (RL_gq rfl rfl rfl (Yd_pickF rfl rfl) (RL_q rfl (Yd_pickT rfl rfl) (RL_nil (X_then (C_no rfl rfl (C_skip (X_then (C_seq (?_))))))))))))))
    by_cases hb16 : (few s 40).length = 16
    · skip
      refine C_region (RL_q rfl (Yd_move rfl) (RL_q rfl (Yd_idxL Try.underlying37 (sz := 1) (by kernel_rfl) rfl rfl (by omega) (by omega)) (RL_q rfl (Yd_load (v := .slice A1_23 16 c1_23) Try.underlying22 rfl rfl (Vw.lq1L hS23.vw (i := 0) (a := ⟨A1_23, 16, c1_23⟩) rfl rfl rfl)) (RL_l rfl (Ld_lit Try.underlying37 rfl (lit_flat Try.underlying37 Try.elt22 rfl rfl ⟨rfl, by decide⟩) ?_)))))
      intro W7 he7 hz7 hL90
      replace hE := Ext.trans hE he7
      replace h_b := h_b.ext he7
      replace h_s := h_s.ext he7
      replace hF20 := hF20.ext he7
      replace hA23 := hA23.ext he7
      replace hB_23 := hB_23.ext he7
      replace hS23 := hS23.ext he7
      replace hF28_0 := hF28_0.ext he7
      replace hF68 := hF68.ext he7
      have hO90 := Ow.of_blk (T := tSl) (l := [⟨A1_23, 16, c1_23⟩]) hL90 rfl (n := 1) rfl (by simp [maxLen]) (okc trivial okn)
      have hV90 := Vws.ofs (T := tU8) (N := 400) (hs := [⟨A1_23, 16, c1_23⟩]) (Vws.cons (hA23.vw.fit.more (Nat.zero_le _) (Nat.le_refl _)) (by omega) Vws.nil)
      clear hL90
      refine RL_l rfl (Ld_call Try.func32 rfl (by kernel_rfl) rfl (JoinBad (by omega)) ?_)
      rintro e W8 ⟨rfl, he8⟩
      refine ⟨_, rfl, ?_⟩
      replace hE := Ext.trans hE he8
      replace h_b := h_b.ext he8
      replace h_s := h_s.ext he8
      replace hF20 := hF20.ext he8
      replace hA23 := hA23.ext he8
      replace hB_23 := hB_23.ext he8
      replace hS23 := hS23.ext he8
      replace hF28_0 := hF28_0.ext he8
      replace hF68 := hF68.ext he8
      replace hO90 := hO90.ext he8
      try replace hV90 := hV90.ext he8
      have hs8 := he8.size
      refine RL_q rfl (Yd_move rfl) (RL_q rfl (Yd_extract rfl rfl) (RL_q rfl (Yd_extract rfl rfl) (RL_q rfl (Yd_assign rfl) (RL_q rfl (Yd_assign rfl) (RL_nil (X_then (C_seq (?_))))))))
      refine C_regionD (NoB) (l := [(0, true), (1, true), (2, true), (3, true), (4, true), (5, true), (6, true), (7, true), (8, true), (9, false), (10, false), (11, true), (12, true), (13, true), (14, true), (15, true)]) (by kernel_rfl) (by kernel_rfl) rfl (by kernel_rfl) (fun _ _ d _ _ h => by cases d <;> exact h) ?_
      intro W9 he9 hh9
      replace hE := Ext.trans hE he9
      replace h_b := h_b.ext he9
      replace h_s := h_s.ext he9
      replace hF20 := hF20.ext he9
      replace hA23 := hA23.ext he9
      replace hB_23 := hB_23.ext he9
      replace hS23 := hS23.ext he9
      replace hF28_0 := hF28_0.ext he9
      replace hF68 := hF68.ext he9
      replace hO90 := hO90.ext he9
      try replace hV90 := hV90.ext he9
      have hs9 := he9.size
      refine RO_q rfl rfl (Yd_move rfl) (RO_q rfl rfl (Yd_idxL Try.underlying37 (sz := 1) (by kernel_rfl) rfl rfl (by omega) (by omega)) (RO_q rfl rfl (Yd_load (v := .slice A1_23 16 c1_23) Try.underlying22 rfl rfl (fun W hW => (Vw.lq1L hS23.vw (i := 0) (a := ⟨A1_23, 16, c1_23⟩) rfl rfl rfl) W hW.ext)) (RO_q rfl rfl (Yd_move rfl) (RO_q rfl rfl (Yd_idxL Try.underlying37 (sz := 1) (by kernel_rfl) rfl rfl (by omega) (by omega)) (RO_q rfl rfl (Yd_load (v := .slice A2_23 16 c2_23) Try.underlying22 rfl rfl (fun W hW => (Vw.lq1L hS23.vw (i := 1) (a := ⟨A2_23, 16, c2_23⟩) rfl rfl rfl) W hW.ext)) (RO_q rfl rfl (Yd_move rfl) (RO_q rfl rfl (Yd_idxL Try.underlying37 (sz := 1) (by kernel_rfl) rfl rfl (by omega) (by omega)) (RO_q rfl rfl (Yd_load (v := .slice A1_23 16 c1_23) Try.underlying22 rfl rfl (fun W hW => (Vw.lq1L hS23.vw (i := 0) (a := ⟨A1_23, 16, c1_23⟩) rfl rfl rfl) W hW.ext)) (RO_l rfl rfl (Ld_lit Try.underlying37 rfl (lit_flat Try.underlying37 Try.elt22 rfl rfl ⟨rfl, by decide⟩) ?_))))))))))
      intro W10 he10 hz10 hL104
      refine ⟨Kp.of_ext he10, ?_⟩
      replace hE := Ext.trans hE he10
      replace h_b := h_b.ext he10
      replace h_s := h_s.ext he10
      replace hF20 := hF20.ext he10
      replace hA23 := hA23.ext he10
      replace hB_23 := hB_23.ext he10
      replace hS23 := hS23.ext he10
      replace hF28_0 := hF28_0.ext he10
      replace hF68 := hF68.ext he10
      replace hO90 := hO90.ext he10
      try replace hV90 := hV90.ext he10
      have hO104 := Ow.of_blk (T := tSl) (l := [⟨A1_23, 16, c1_23⟩, ⟨A2_23, 16, c2_23⟩, ⟨A1_23, 16, c1_23⟩]) hL104 rfl (n := 3) rfl (by simp [maxLen]) (okc trivial (okc trivial (okc trivial okn)))
      have hV104 := Vws.ofs (T := tU8) (N := 400) (hs := [⟨A1_23, 16, c1_23⟩, ⟨A2_23, 16, c2_23⟩, ⟨A1_23, 16, c1_23⟩]) (Vws.cons (hA23.vw.fit.more (Nat.zero_le _) (Nat.le_refl _)) (by omega) (Vws.cons (hB_23.vw.fit.more (Nat.zero_le _) (Nat.le_refl _)) (by omega) (Vws.cons (hA23.vw.fit.more (Nat.zero_le _) (Nat.le_refl _)) (by omega) Vws.nil)))
      clear hL104
      refine RO_l rfl rfl (Ld_call Try.func32 rfl (by kernel_rfl) rfl (JoinBad (by omega)) ?_)
      rintro e W11 ⟨rfl, he11⟩
      refine ⟨_, rfl, ?_⟩
      refine ⟨Kp.of_ext he11, ?_⟩
      replace hE := Ext.trans hE he11
      replace h_b := h_b.ext he11
      replace h_s := h_s.ext he11
      replace hF20 := hF20.ext he11
      replace hA23 := hA23.ext he11
      replace hB_23 := hB_23.ext he11
      replace hS23 := hS23.ext he11
      replace hF28_0 := hF28_0.ext he11
      replace hF68 := hF68.ext he11
      replace hO90 := hO90.ext he11
      try replace hV90 := hV90.ext he11
      replace hO104 := hO104.ext he11
      try replace hV104 := hV104.ext he11
      have hs11 := he11.size
      refine RO_q rfl rfl (Yd_move rfl) (RO_q rfl rfl (Yd_extract rfl rfl) (RO_q rfl rfl (Yd_extract rfl rfl) (RO_q rfl rfl (Yd_assign rfl) (RO_q rfl rfl (Yd_assign rfl) (RO_nil (X_then (C_seq (C_region (RL_q rfl (Yd_move rfl) (RL_q rfl (Yd_idxL Try.underlying37 (sz := 1) (by kernel_rfl) rfl rfl (by omega) (by omega)) (RL_q rfl (Yd_load (v := .slice A1_23 16 c1_23) Try.underlying22 rfl rfl (Vw.lq1L hS23.vw (i := 0) (a := ⟨A1_23, 16, c1_23⟩) rfl rfl rfl)) (RL_q rfl (Yd_move rfl) (RL_l rfl (Ld_lit Try.underlying37 rfl (lit_flat Try.underlying37 Try.elt22 rfl rfl ⟨rfl, by decide⟩) ?_))))))))))))))
      intro W12 he12 hz12 hL113
      replace hE := Ext.trans hE he12
      replace h_b := h_b.ext he12
      replace h_s := h_s.ext he12
      replace hF20 := hF20.ext he12
      replace hA23 := hA23.ext he12
      replace hB_23 := hB_23.ext he12
      replace hS23 := hS23.ext he12
      replace hF28_0 := hF28_0.ext he12
      replace hF68 := hF68.ext he12
      replace hO90 := hO90.ext he12
      try replace hV90 := hV90.ext he12
      replace hO104 := hO104.ext he12
      try replace hV104 := hV104.ext he12
      have hO113 := Ow.of_blk (T := tSl) (l := [⟨A1_23, 16, c1_23⟩, ⟨A68, n68, c68⟩]) hL113 rfl (n := 2) rfl (by simp [maxLen]) (okc trivial (okc trivial okn))
      have hV113 := Vws.ofs (T := tU8) (N := 400) (hs := [⟨A1_23, 16, c1_23⟩, ⟨A68, n68, c68⟩]) (Vws.cons (hA23.vw.fit.more (Nat.zero_le _) (Nat.le_refl _)) (by omega) (Vws.cons (hF68.vw.fit.more (Nat.zero_le _) (Nat.le_refl _)) (by omega) Vws.nil))
      clear hL113
      refine RL_l rfl (Ld_call Try.func32 rfl (by kernel_rfl) rfl (JoinV hO113.vw hA23.vw hF68.vw) ?_)
      rintro e W13 ⟨A114_0, n114_0, c114_0, y114_1, rfl, hF114_0, hy114_1, he13⟩
      refine ⟨_, rfl, ?_⟩
      replace hE := Ext.trans hE he13
      replace h_b := h_b.ext he13
      replace h_s := h_s.ext he13
      replace hF20 := hF20.ext he13
      replace hA23 := hA23.ext he13
      replace hB_23 := hB_23.ext he13
      replace hS23 := hS23.ext he13
      replace hF28_0 := hF28_0.ext he13
      replace hF68 := hF68.ext he13
      replace hO90 := hO90.ext he13
      try replace hV90 := hV90.ext he13
      replace hO104 := hO104.ext he13
      try replace hV104 := hV104.ext he13
      replace hO113 := hO113.ext he13
      try replace hV113 := hV113.ext he13
      have hs13 := he13.size
      have hn114_0 := hF114_0.ln
      try simp only [List.length_append, List.length_cons, List.length_nil, List.length_set, List.length_take, List.length_drop, List.length_replicate, Nat.zero_add, Nat.add_zero, le_len] at hn114_0
      have hc114_0 := hF114_0.cap
      refine RL_q rfl (Yd_move rfl) (RL_q rfl (Yd_extract rfl rfl) (RL_q rfl (Yd_extract rfl rfl) (RL_q rfl (Yd_assign rfl) (RL_q rfl (Yd_assign rfl) (RL_nil (X_then (C_seq (C_seq (C_region (RL_q rfl (Yd_move rfl) (RL_q rfl (Yd_len Try.underlying22 rfl) (RL_q rfl (Yd_neq rfl rfl) (RL_q rfl (Yd_move rfl) (?_))))))))))))))
      refine RL_is (d := 120) (b' := false) rfl (by simp; omega) ?_
      refine RL_gn rfl rfl rfl rfl (RL_gn rfl rfl rfl rfl (RL_gn rfl rfl rfl rfl (RL_gu rfl rfl rfl (RL_gu rfl rfl rfl (RL_gu rfl rfl rfl (RL_gn rfl rfl rfl rfl (RL_q rfl (Yd_pickF rfl rfl) (RL_nil (X_then (C_no rfl rfl (C_skip (X_then (C_seq (C_region (RL_q rfl (Yd_move rfl) (RL_q rfl (Yd_eql rfl rfl) (RL_q rfl (Yd_move rfl) (RL_gq rfl rfl rfl (Yd_move rfl) (RL_gq rfl rfl rfl (Yd_eql rfl rfl) (RL_q rfl (Yd_pickT rfl rfl) (RL_q rfl (Yd_move rfl) (RL_gq rfl rfl rfl (Yd_move rfl) (RL_gq rfl rfl rfl (Yd_len Try.underlying22 rfl) (RL_gq rfl rfl rfl (Yd_eql rfl rfl) (RL_q rfl (Yd_pickT rfl rfl) (RL_q rfl (Yd_move rfl) (RL_gq rfl rfl rfl (Yd_move rfl) (RL_gq rfl rfl rfl (Yd_len Try.underlying22 rfl) (RL_gq rfl rfl rfl (Yd_eql rfl rfl) (RL_q rfl (Yd_pickT rfl rfl) (RL_q rfl (Yd_move rfl) (RL_gl rfl rfl rfl (Ld_call Try.func30 rfl (by kernel_rfl) rfl (lives08V ) ?_)))))))))))))))))))))))))))))))))
      rintro e W14 ⟨_, rfl, rfl, he14⟩
      refine ⟨_, rfl, ?_⟩
      replace hE := Ext.trans hE he14
      replace h_b := h_b.ext he14
      replace h_s := h_s.ext he14
      replace hF20 := hF20.ext he14
      replace hA23 := hA23.ext he14
      replace hB_23 := hB_23.ext he14
      replace hS23 := hS23.ext he14
      replace hF28_0 := hF28_0.ext he14
      replace hF68 := hF68.ext he14
      replace hO90 := hO90.ext he14
      try replace hV90 := hV90.ext he14
      replace hO104 := hO104.ext he14
      try replace hV104 := hV104.ext he14
      replace hO113 := hO113.ext he14
      try replace hV113 := hV113.ext he14
      replace hF114_0 := hF114_0.ext he14
      have hs14 := he14.size
      refine RL_q rfl (Yd_pickT rfl rfl) (RL_q rfl (Yd_assign rfl) (RL_nil (X_then (C_ret (X_ret1 rfl rfl ?_)))))
      refine ⟨_, rfl, ?_, hE⟩
      all_goals (first | rfl | omega | simp)
    · skip
      refine C_region (RL_q rfl (Yd_move rfl) (RL_q rfl (Yd_idxL Try.underlying37 (sz := 1) (by kernel_rfl) rfl rfl (by omega) (by omega)) (RL_q rfl (Yd_load (v := .slice A1_23 16 c1_23) Try.underlying22 rfl rfl (Vw.lq1L hS23.vw (i := 0) (a := ⟨A1_23, 16, c1_23⟩) rfl rfl rfl)) (RL_l rfl (Ld_lit Try.underlying37 rfl (lit_flat Try.underlying37 Try.elt22 rfl rfl ⟨rfl, by decide⟩) ?_)))))
      intro W7 he7 hz7 hL90
      replace hE := Ext.trans hE he7
      replace h_b := h_b.ext he7
      replace h_s := h_s.ext he7
      replace hF20 := hF20.ext he7
      replace hA23 := hA23.ext he7
      replace hB_23 := hB_23.ext he7
      replace hS23 := hS23.ext he7
      replace hF28_0 := hF28_0.ext he7
      replace hF68 := hF68.ext he7
      have hO90 := Ow.of_blk (T := tSl) (l := [⟨A1_23, 16, c1_23⟩]) hL90 rfl (n := 1) rfl (by simp [maxLen]) (okc trivial okn)
      have hV90 := Vws.ofs (T := tU8) (N := 400) (hs := [⟨A1_23, 16, c1_23⟩]) (Vws.cons (hA23.vw.fit.more (Nat.zero_le _) (Nat.le_refl _)) (by omega) Vws.nil)
      clear hL90
      refine RL_l rfl (Ld_call Try.func32 rfl (by kernel_rfl) rfl (JoinBad (by omega)) ?_)
      rintro e W8 ⟨rfl, he8⟩
      refine ⟨_, rfl, ?_⟩
      replace hE := Ext.trans hE he8
      replace h_b := h_b.ext he8
      replace h_s := h_s.ext he8
      replace hF20 := hF20.ext he8
      replace hA23 := hA23.ext he8
      replace hB_23 := hB_23.ext he8
      replace hS23 := hS23.ext he8
      replace hF28_0 := hF28_0.ext he8
      replace hF68 := hF68.ext he8
      replace hO90 := hO90.ext he8
      try replace hV90 := hV90.ext he8
      have hs8 := he8.size
      refine RL_q rfl (Yd_move rfl) (RL_q rfl (Yd_extract rfl rfl) (RL_q rfl (Yd_extract rfl rfl) (RL_q rfl (Yd_assign rfl) (RL_q rfl (Yd_assign rfl) (RL_nil (X_then (C_seq (?_))))))))
      refine C_regionD (NoB) (l := [(0, true), (1, true), (2, true), (3, true), (4, true), (5, true), (6, true), (7, true), (8, true), (9, false), (10, false), (11, true), (12, true), (13, true), (14, true), (15, true)]) (by kernel_rfl) (by kernel_rfl) rfl (by kernel_rfl) (fun _ _ d _ _ h => by cases d <;> exact h) ?_
      intro W9 he9 hh9
      replace hE := Ext.trans hE he9
      replace h_b := h_b.ext he9
      replace h_s := h_s.ext he9
      replace hF20 := hF20.ext he9
      replace hA23 := hA23.ext he9
      replace hB_23 := hB_23.ext he9
      replace hS23 := hS23.ext he9
      replace hF28_0 := hF28_0.ext he9
      replace hF68 := hF68.ext he9
      replace hO90 := hO90.ext he9
      try replace hV90 := hV90.ext he9
      have hs9 := he9.size
      refine RO_q rfl rfl (Yd_move rfl) (RO_q rfl rfl (Yd_idxL Try.underlying37 (sz := 1) (by kernel_rfl) rfl rfl (by omega) (by omega)) (RO_q rfl rfl (Yd_load (v := .slice A1_23 16 c1_23) Try.underlying22 rfl rfl (fun W hW => (Vw.lq1L hS23.vw (i := 0) (a := ⟨A1_23, 16, c1_23⟩) rfl rfl rfl) W hW.ext)) (RO_q rfl rfl (Yd_move rfl) (RO_q rfl rfl (Yd_idxL Try.underlying37 (sz := 1) (by kernel_rfl) rfl rfl (by omega) (by omega)) (RO_q rfl rfl (Yd_load (v := .slice A2_23 16 c2_23) Try.underlying22 rfl rfl (fun W hW => (Vw.lq1L hS23.vw (i := 1) (a := ⟨A2_23, 16, c2_23⟩) rfl rfl rfl) W hW.ext)) (RO_q rfl rfl (Yd_move rfl) (RO_q rfl rfl (Yd_idxL Try.underlying37 (sz := 1) (by kernel_rfl) rfl rfl (by omega) (by omega)) (RO_q rfl rfl (Yd_load (v := .slice A1_23 16 c1_23) Try.underlying22 rfl rfl (fun W hW => (Vw.lq1L hS23.vw (i := 0) (a := ⟨A1_23, 16, c1_23⟩) rfl rfl rfl) W hW.ext)) (RO_l rfl rfl (Ld_lit Try.underlying37 rfl (lit_flat Try.underlying37 Try.elt22 rfl rfl ⟨rfl, by decide⟩) ?_))))))))))
      intro W10 he10 hz10 hL104
      refine ⟨Kp.of_ext he10, ?_⟩
      replace hE := Ext.trans hE he10
      replace h_b := h_b.ext he10
      replace h_s := h_s.ext he10
      replace hF20 := hF20.ext he10
      replace hA23 := hA23.ext he10
      replace hB_23 := hB_23.ext he10
      replace hS23 := hS23.ext he10
      replace hF28_0 := hF28_0.ext he10
      replace hF68 := hF68.ext he10
      replace hO90 := hO90.ext he10
      try replace hV90 := hV90.ext he10
      have hO104 := Ow.of_blk (T := tSl) (l := [⟨A1_23, 16, c1_23⟩, ⟨A2_23, 16, c2_23⟩, ⟨A1_23, 16, c1_23⟩]) hL104 rfl (n := 3) rfl (by simp [maxLen]) (okc trivial (okc trivial (okc trivial okn)))
      have hV104 := Vws.ofs (T := tU8) (N := 400) (hs := [⟨A1_23, 16, c1_23⟩, ⟨A2_23, 16, c2_23⟩, ⟨A1_23, 16, c1_23⟩]) (Vws.cons (hA23.vw.fit.more (Nat.zero_le _) (Nat.le_refl _)) (by omega) (Vws.cons (hB_23.vw.fit.more (Nat.zero_le _) (Nat.le_refl _)) (by omega) (Vws.cons (hA23.vw.fit.more (Nat.zero_le _) (Nat.le_refl _)) (by omega) Vws.nil)))
      clear hL104
      refine RO_l rfl rfl (Ld_call Try.func32 rfl (by kernel_rfl) rfl (JoinBad (by omega)) ?_)
      rintro e W11 ⟨rfl, he11⟩
      refine ⟨_, rfl, ?_⟩
      refine ⟨Kp.of_ext he11, ?_⟩
      replace hE := Ext.trans hE he11
      replace h_b := h_b.ext he11
      replace h_s := h_s.ext he11
      replace hF20 := hF20.ext he11
      replace hA23 := hA23.ext he11
      replace hB_23 := hB_23.ext he11
      replace hS23 := hS23.ext he11
      replace hF28_0 := hF28_0.ext he11
      replace hF68 := hF68.ext he11
      replace hO90 := hO90.ext he11
      try replace hV90 := hV90.ext he11
      replace hO104 := hO104.ext he11
      try replace hV104 := hV104.ext he11
      have hs11 := he11.size
      refine RO_q rfl rfl (Yd_move rfl) (RO_q rfl rfl (Yd_extract rfl rfl) (RO_q rfl rfl (Yd_extract rfl rfl) (RO_q rfl rfl (Yd_assign rfl) (RO_q rfl rfl (Yd_assign rfl) (RO_nil (X_then (C_seq (C_region (RL_q rfl (Yd_move rfl) (RL_q rfl (Yd_idxL Try.underlying37 (sz := 1) (by kernel_rfl) rfl rfl (by omega) (by omega)) (RL_q rfl (Yd_load (v := .slice A1_23 16 c1_23) Try.underlying22 rfl rfl (Vw.lq1L hS23.vw (i := 0) (a := ⟨A1_23, 16, c1_23⟩) rfl rfl rfl)) (RL_q rfl (Yd_move rfl) (RL_l rfl (Ld_lit Try.underlying37 rfl (lit_flat Try.underlying37 Try.elt22 rfl rfl ⟨rfl, by decide⟩) ?_))))))))))))))
      intro W12 he12 hz12 hL113
      replace hE := Ext.trans hE he12
      replace h_b := h_b.ext he12
      replace h_s := h_s.ext he12
      replace hF20 := hF20.ext he12
      replace hA23 := hA23.ext he12
      replace hB_23 := hB_23.ext he12
      replace hS23 := hS23.ext he12
      replace hF28_0 := hF28_0.ext he12
      replace hF68 := hF68.ext he12
      replace hO90 := hO90.ext he12
      try replace hV90 := hV90.ext he12
      replace hO104 := hO104.ext he12
      try replace hV104 := hV104.ext he12
      have hO113 := Ow.of_blk (T := tSl) (l := [⟨A1_23, 16, c1_23⟩, ⟨A68, n68, c68⟩]) hL113 rfl (n := 2) rfl (by simp [maxLen]) (okc trivial (okc trivial okn))
      have hV113 := Vws.ofs (T := tU8) (N := 400) (hs := [⟨A1_23, 16, c1_23⟩, ⟨A68, n68, c68⟩]) (Vws.cons (hA23.vw.fit.more (Nat.zero_le _) (Nat.le_refl _)) (by omega) (Vws.cons (hF68.vw.fit.more (Nat.zero_le _) (Nat.le_refl _)) (by omega) Vws.nil))
      clear hL113
      refine RL_l rfl (Ld_call Try.func32 rfl (by kernel_rfl) rfl (JoinV hO113.vw hA23.vw hF68.vw) ?_)
      rintro e W13 ⟨A114_0, n114_0, c114_0, y114_1, rfl, hF114_0, hy114_1, he13⟩
      refine ⟨_, rfl, ?_⟩
      replace hE := Ext.trans hE he13
      replace h_b := h_b.ext he13
      replace h_s := h_s.ext he13
      replace hF20 := hF20.ext he13
      replace hA23 := hA23.ext he13
      replace hB_23 := hB_23.ext he13
      replace hS23 := hS23.ext he13
      replace hF28_0 := hF28_0.ext he13
      replace hF68 := hF68.ext he13
      replace hO90 := hO90.ext he13
      try replace hV90 := hV90.ext he13
      replace hO104 := hO104.ext he13
      try replace hV104 := hV104.ext he13
      replace hO113 := hO113.ext he13
      try replace hV113 := hV113.ext he13
      have hs13 := he13.size
      have hn114_0 := hF114_0.ln
      try simp only [List.length_append, List.length_cons, List.length_nil, List.length_set, List.length_take, List.length_drop, List.length_replicate, Nat.zero_add, Nat.add_zero, le_len] at hn114_0
      have hc114_0 := hF114_0.cap
      refine RL_q rfl (Yd_move rfl) (RL_q rfl (Yd_extract rfl rfl) (RL_q rfl (Yd_extract rfl rfl) (RL_q rfl (Yd_assign rfl) (RL_q rfl (Yd_assign rfl) (RL_nil (X_then (C_seq (C_seq (C_region (RL_q rfl (Yd_move rfl) (RL_q rfl (Yd_len Try.underlying22 rfl) (RL_q rfl (Yd_neq rfl rfl) (RL_q rfl (Yd_move rfl) (?_))))))))))))))
      refine RL_is (d := 120) (b' := true) rfl (by simp; omega) ?_
      refine RL_gq rfl rfl rfl (Yd_move rfl) (RL_gq rfl rfl rfl (Yd_neq rfl rfl) (RL_gq rfl rfl rfl (Yd_move rfl) (?_)))
      refine RL_is (d := 123) (b' := false) rfl (by rw [hy114_1, joinE, if_neg (by omega)]; rfl) ?_
      refine RL_gq rfl rfl rfl (Yd_move rfl) (RL_gq rfl rfl rfl (Yd_len Try.underlying22 rfl) (RL_gq rfl rfl rfl (Yd_gtr rfl rfl) (RL_gq rfl rfl rfl (Yd_pickF rfl rfl) (RL_q rfl (Yd_pickT rfl rfl) (RL_nil (X_then (?_)))))))
      refine C_no rfl (by rw [joinL_no (by omega)] at hn114_0; simp at hn114_0 ⊢; omega) (C_skip (X_then (C_seq (C_region (RL_q rfl (Yd_move rfl) (RL_q rfl (Yd_eql rfl rfl) (RL_q rfl (Yd_move rfl) (RL_gq rfl rfl rfl (Yd_move rfl) (RL_gq rfl rfl rfl (Yd_eql rfl rfl) (RL_q rfl (Yd_pickT rfl rfl) (RL_q rfl (Yd_move rfl) (RL_gq rfl rfl rfl (Yd_move rfl) (RL_gq rfl rfl rfl (Yd_len Try.underlying22 rfl) (RL_gq rfl rfl rfl (Yd_eql rfl rfl) (RL_q rfl (Yd_pickT rfl rfl) (RL_q rfl (Yd_move rfl) (RL_gq rfl rfl rfl (Yd_move rfl) (RL_gq rfl rfl rfl (Yd_len Try.underlying22 rfl) (RL_gq rfl rfl rfl (Yd_eql rfl rfl) (RL_q rfl (Yd_pickT rfl rfl) (RL_q rfl (Yd_move rfl) (RL_gl rfl rfl rfl (Ld_call Try.func30 rfl (by kernel_rfl) rfl (lives08V ) ?_)))))))))))))))))))))))
      rintro e W14 ⟨_, rfl, rfl, he14⟩
      refine ⟨_, rfl, ?_⟩
      replace hE := Ext.trans hE he14
      replace h_b := h_b.ext he14
      replace h_s := h_s.ext he14
      replace hF20 := hF20.ext he14
      replace hA23 := hA23.ext he14
      replace hB_23 := hB_23.ext he14
      replace hS23 := hS23.ext he14
      replace hF28_0 := hF28_0.ext he14
      replace hF68 := hF68.ext he14
      replace hO90 := hO90.ext he14
      try replace hV90 := hV90.ext he14
      replace hO104 := hO104.ext he14
      try replace hV104 := hV104.ext he14
      replace hO113 := hO113.ext he14
      try replace hV113 := hV113.ext he14
      replace hF114_0 := hF114_0.ext he14
      have hs14 := he14.size
      refine RL_q rfl (Yd_pickT rfl rfl) (RL_q rfl (Yd_assign rfl) (RL_nil (X_then (C_ret (X_ret1 rfl rfl ?_)))))
      refine ⟨_, rfl, ?_, hE⟩
      all_goals (first | rfl | omega | simp)
end Go.Proofs.AL
