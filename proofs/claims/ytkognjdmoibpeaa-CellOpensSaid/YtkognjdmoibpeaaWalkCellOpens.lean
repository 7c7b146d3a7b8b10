import Derived.Test.YtkognjdmoibpeaaCel
set_option linter.unusedVariables false
set_option linter.unusedSimpArgs false
namespace Go.Proofs.AL
open Go.RowKit
theorem CellOpensV {lo_b B_b : Nat} {A_b : Option Addr} {n_b c_b : Nat} {b : List Int} {at_ : Int} {c : Int} {w : World}  (h_b : Vw tU8 w lo_b B_b A_b n_b c_b b) (b_at_ : -9223372036854775808 ≤ at_ ∧ at_ ≤ 9223372036854775807) (b_c : 0 ≤ c ∧ c ≤ 255) :
    Calls Try.prog 12 #[.slice A_b n_b c_b, .int .i64 at_, .int .u8 c] w fun e w' => ∃ (x0 : Bool), e = .returned (.bool x0) ∧ x0 = (true) ∧ Ext w w' := by
  have hE := Ext.refl w
  replace h_b := h_b.fit
  have hn_b := h_b.ln
  have hc_b := h_b.cap
  have hm_b := h_b.max
  simp only [maxLen] at hm_b
  refine calls_of (l := [.slice A_b n_b c_b, .int .i64 at_, .int .u8 c]) (N := 78) Try.func12 rfl rfl rfl ?_
  refine C_seq (C_region (RL_q rfl (Yd_assign rfl) (RL_nil (X_then (C_seq (C_region (RL_q rfl (Yd_move rfl) (RL_l rfl (Ld_call Try.func25 rfl (by kernel_rfl) rfl (FillV h_b ⟨by first | omega | (dsimp only; omega), by first | omega | (dsimp only; omega)⟩) ?_)))))))))
  rintro e W1 ⟨A18, n18, c18, rfl, hF18, hfl18, he1⟩
  refine ⟨_, rfl, ?_⟩
  replace hE := Ext.trans hE he1
  replace h_b := h_b.ext he1
  have hs1 := he1.size
  have hn18 := hF18.ln
  try simp only [List.length_append, List.length_cons, List.length_nil, List.length_set, List.length_take, List.length_drop, List.length_replicate, Nat.zero_add, Nat.add_zero, le_len] at hn18
  have hc18 := hF18.cap
  refine RL_l rfl (Ld_call Try.func23 rfl (by kernel_rfl) rfl (refPutV hF18.vw (by omega)) ?_)
  rintro e W2 ⟨A19, n19, c19, rfl, hF19, he2⟩
  refine ⟨_, rfl, ?_⟩
  replace hE := Ext.trans hE he2
  replace h_b := h_b.ext he2
  replace hF18 := hF18.ext he2
  have hs2 := he2.size
  have hn19 := hF19.ln
  try simp only [List.length_append, List.length_cons, List.length_nil, List.length_set, List.length_take, List.length_drop, List.length_replicate, Nat.zero_add, Nat.add_zero, le_len] at hn19
  have hc19 := hF19.cap
  refine RL_q rfl (Yd_assign rfl) (RL_nil (X_then (C_seq (C_region (RL_q rfl (Yd_move rfl) (RL_l rfl (Ld_call Try.func20 rfl (by kernel_rfl) rfl (AroundV ⟨by first | omega | (dsimp only; omega), by first | omega | (dsimp only; omega)⟩ ⟨by first | omega | (dsimp only; omega), by first | omega | (dsimp only; omega)⟩) ?_)))))))
  rintro e W3 ⟨y21, rfl, hy21, hra21, rfl⟩
  refine ⟨_, rfl, ?_⟩
  refine RL_q rfl (Yd_assign rfl) (RL_nil (X_then (C_seq (C_region (RL_q rfl (Yd_move rfl) (RL_l rfl (Ld_call Try.func15 rfl (by kernel_rfl) rfl (FewV hF19.vw ⟨by first | omega | (dsimp only; omega), by first | omega | (dsimp only; omega)⟩) ?_)))))))
  rintro e W4 ⟨A23, n23, c23, rfl, hF23, hle23, he4⟩
  refine ⟨_, rfl, ?_⟩
  replace hE := Ext.trans hE he4
  replace h_b := h_b.ext he4
  replace hF18 := hF18.ext he4
  replace hF19 := hF19.ext he4
  have hs4 := he4.size
  have hn23 := hF23.ln
  try simp only [List.length_append, List.length_cons, List.length_nil, List.length_set, List.length_take, List.length_drop, List.length_replicate, Nat.zero_add, Nat.add_zero, le_len] at hn23
  have hc23 := hF23.cap
  try rw [hle23.2.2.1 (by omega)] at hF23 hn23
  refine RL_q rfl (Yd_assign rfl) (RL_nil (X_then (C_seq (C_region (RL_q rfl (Yd_move rfl) (RL_q rfl (Yd_move rfl) (RL_q rfl (Yd_move rfl) (?_))))))))
  obtain ⟨gA23, rfl, hglA23, hghA23⟩ := Ow.at_ (i := y21.toNat) hF23 (by omega)
  refine RL_q rfl (Yd_idxL Try.underlying22 (sz := 1) (by kernel_rfl) rfl rfl (by omega) (by omega)) (RL_l0 (Ld_putO (T := tU8) (a := c) (by kernel_rfl) rfl rfl hF23 (i := y21.toNat) (by omega) rfl rfl (by omega) ⟨by omega, by omega⟩ ?_))
  intro W5 hF23' hu5
  have hk5 := Kp.ofb hu5
  have hs5 := hk5.size
  replace hE := Ext.kp hE hk5 (fun k hk => by first | omega | (have hk := hk; dsimp only at hk; omega))
  replace h_b := h_b.kp hk5 (fun k hk => by first | omega | (have hk := hk; dsimp only at hk; omega))
  replace hF18 := hF18.kp hk5 (fun k hk => by first | omega | (have hk := hk; dsimp only at hk; omega))
  replace hF19 := hF19.kp hk5 (fun k hk => by first | omega | (have hk := hk; dsimp only at hk; omega))
  replace hF23 := hF23'
  have hnhF23 := hF23.ln
  refine RL_nil (X_then (C_seq (C_region (RL_q rfl (Yd_move rfl) (RL_l rfl (Ld_call Try.func15 rfl (by kernel_rfl) rfl (FewV hF19.vw ⟨by first | omega | (dsimp only; omega), by first | omega | (dsimp only; omega)⟩) ?_))))))
  rintro e W6 ⟨A29, n29, c29, rfl, hF29, hle29, he6⟩
  refine ⟨_, rfl, ?_⟩
  replace hE := Ext.trans hE he6
  replace h_b := h_b.ext he6
  replace hF18 := hF18.ext he6
  replace hF19 := hF19.ext he6
  replace hF23 := hF23.ext he6
  have hs6 := he6.size
  have hn29 := hF29.ln
  try simp only [List.length_append, List.length_cons, List.length_nil, List.length_set, List.length_take, List.length_drop, List.length_replicate, Nat.zero_add, Nat.add_zero, le_len] at hn29
  have hc29 := hF29.cap
  try rw [hle29.2.2.1 (by omega)] at hF29 hn29
  refine RL_q rfl (Yd_move rfl) (RL_l rfl (Ld_lit Try.underlying22 rfl (lit_flat Try.underlying22 Try.elt5 rfl rfl ⟨rfl, by decide⟩) ?_))
  intro W7 he7 hz7 hL31
  replace hE := Ext.trans hE he7
  replace h_b := h_b.ext he7
  replace hF18 := hF18.ext he7
  replace hF19 := hF19.ext he7
  replace hF23 := hF23.ext he7
  replace hF29 := hF29.ext he7
  have hO31 := Ow.of_blk (T := tU8) (l := [c]) hL31 rfl (n := 1) rfl (by simp [maxLen]) (okc ⟨by omega, by omega⟩ okn)
  clear hL31
  refine RL_l rfl (Ld_apO (T := tU8) Try.underlying22 Try.elt5 rfl rfl rfl hF29 hO31.vw (by simp only [maxLen]; omega) (by omega) (by omega) ?_)
  intro A32 c32 W8 hO32 hk8
  have hs8 := hk8.size
  replace hE := Ext.kp hE hk8 (fun k hk => by first | omega | (have hk := hk; dsimp only at hk; omega))
  replace h_b := h_b.kp hk8 (fun k hk => by first | omega | (have hk := hk; dsimp only at hk; omega))
  replace hF18 := hF18.kp hk8 (fun k hk => by first | omega | (have hk := hk; dsimp only at hk; omega))
  replace hF19 := hF19.kp hk8 (fun k hk => by first | omega | (have hk := hk; dsimp only at hk; omega))
  replace hF23 := hF23.kp hk8 (fun k hk => by first | omega | (have hk := hk; dsimp only at hk; omega))
  replace hO31 := hO31.kp hk8 (fun k hk => by first | omega | (have hk := hk; dsimp only at hk; omega))
  have hn32 := hO32.ln
  try simp only [List.length_append, List.length_cons, List.length_nil, List.length_set, List.length_take, List.length_drop, List.length_replicate, Nat.zero_add, Nat.add_zero, le_len] at hn32
  have hc32 := hO32.cap
  refine RL_q rfl (Yd_assign rfl) (RL_nil (X_then (C_seq (?_))))
  refine C_regionD (NoB) (l := [(0, true), (2, true), (3, true), (4, true), (5, true), (6, true), (7, true), (8, true), (1, false), (9, false), (10, false), (11, false), (12, true)]) (by kernel_rfl) (by kernel_rfl) rfl (by kernel_rfl) (fun _ _ d _ _ h => by cases d <;> exact h) ?_
  intro W9 he9 hh9
  replace hE := Ext.trans hE he9
  replace h_b := h_b.ext he9
  replace hF18 := hF18.ext he9
  replace hF19 := hF19.ext he9
  replace hF23 := hF23.ext he9
  replace hO31 := hO31.ext he9
  replace hO32 := hO32.ext he9
  have hs9 := he9.size
  refine RO_q rfl rfl (Yd_move rfl) (RO_q rfl rfl (Yd_move rfl) (RO_q rfl rfl (Yd_move rfl) (RO_q rfl rfl (Yd_move rfl) (RO_q rfl rfl (Yd_move rfl) (RO_q rfl rfl (Yd_sliceH Try.underlying22 (sz := 1) (by kernel_rfl) rfl rfl (by omega) (by omega)) (RO_q rfl rfl (Yd_move rfl) (RO_q rfl rfl (Yd_move rfl) (RO_l rfl rfl (Ld_call Try.func15 rfl (by kernel_rfl) rfl (FewV h_b ⟨by first | omega | (dsimp only; omega), by first | omega | (dsimp only; omega)⟩) ?_)))))))))
  rintro e W10 ⟨A34, n34, c34, rfl, hF34, hle34, he10⟩
  refine ⟨_, rfl, ?_⟩
  refine ⟨Kp.of_ext he10, ?_⟩
  replace hE := Ext.trans hE he10
  replace h_b := h_b.ext he10
  replace hF18 := hF18.ext he10
  replace hF19 := hF19.ext he10
  replace hF23 := hF23.ext he10
  replace hO31 := hO31.ext he10
  replace hO32 := hO32.ext he10
  have hs10 := he10.size
  have hn34 := hF34.ln
  try simp only [List.length_append, List.length_cons, List.length_nil, List.length_set, List.length_take, List.length_drop, List.length_replicate, Nat.zero_add, Nat.add_zero, le_len] at hn34
  have hc34 := hF34.cap
  try rw [hle34.2.2.1 (by omega)] at hF34 hn34
  refine RO_l rfl rfl (Ld_call Try.func15 rfl (by kernel_rfl) rfl (FewV h_b ⟨by first | omega | (dsimp only; omega), by first | omega | (dsimp only; omega)⟩) ?_)
  rintro e W11 ⟨A42, n42, c42, rfl, hF42, hle42, he11⟩
  refine ⟨_, rfl, ?_⟩
  refine ⟨Kp.of_ext he11, ?_⟩
  replace hE := Ext.trans hE he11
  replace h_b := h_b.ext he11
  replace hF18 := hF18.ext he11
  replace hF19 := hF19.ext he11
  replace hF23 := hF23.ext he11
  replace hO31 := hO31.ext he11
  replace hO32 := hO32.ext he11
  replace hF34 := hF34.ext he11
  have hs11 := he11.size
  have hn42 := hF42.ln
  try simp only [List.length_append, List.length_cons, List.length_nil, List.length_set, List.length_take, List.length_drop, List.length_replicate, Nat.zero_add, Nat.add_zero, le_len] at hn42
  have hc42 := hF42.cap
  try rw [hle42.2.2.1 (by omega)] at hF42 hn42
  refine RO_l rfl rfl (Ld_call Try.func23 rfl (by kernel_rfl) rfl (refPutV hF42.vw (by omega)) ?_)
  rintro e W12 ⟨A43, n43, c43, rfl, hF43, he12⟩
  refine ⟨_, rfl, ?_⟩
  refine ⟨Kp.of_ext he12, ?_⟩
  replace hE := Ext.trans hE he12
  replace h_b := h_b.ext he12
  replace hF18 := hF18.ext he12
  replace hF19 := hF19.ext he12
  replace hF23 := hF23.ext he12
  replace hO31 := hO31.ext he12
  replace hO32 := hO32.ext he12
  replace hF34 := hF34.ext he12
  replace hF42 := hF42.ext he12
  have hs12 := he12.size
  have hn43 := hF43.ln
  try simp only [List.length_append, List.length_cons, List.length_nil, List.length_set, List.length_take, List.length_drop, List.length_replicate, Nat.zero_add, Nat.add_zero, le_len] at hn43
  have hc43 := hF43.cap
  refine RO_l rfl rfl (Ld_lit Try.underlying37 rfl (lit_flat Try.underlying37 Try.elt22 rfl rfl ⟨rfl, by decide⟩) ?_)
  intro W13 he13 hz13 hL44
  refine ⟨Kp.of_ext he13, ?_⟩
  replace hE := Ext.trans hE he13
  replace h_b := h_b.ext he13
  replace hF18 := hF18.ext he13
  replace hF19 := hF19.ext he13
  replace hF23 := hF23.ext he13
  replace hO31 := hO31.ext he13
  replace hO32 := hO32.ext he13
  replace hF34 := hF34.ext he13
  replace hF42 := hF42.ext he13
  replace hF43 := hF43.ext he13
  have hO44 := Ow.of_blk (T := tSl) (l := [⟨A34, n34, c34⟩, ⟨A19, n19, c19⟩, ⟨(some ⟨gA23, 0, none⟩), n23, c23⟩, ⟨A19, y21.toNat, c19⟩, ⟨A32, (n29 + 1), c32⟩, ⟨A43, n43, c43⟩]) hL44 rfl (n := 6) rfl (by simp [maxLen]) (okc trivial (okc trivial (okc trivial (okc trivial (okc trivial (okc trivial okn))))))
  have hV44 := Vws.ofs (T := tU8) (N := 400) (hs := [⟨A34, n34, c34⟩, ⟨A19, n19, c19⟩, ⟨(some ⟨gA23, 0, none⟩), n23, c23⟩, ⟨A19, y21.toNat, c19⟩, ⟨A32, (n29 + 1), c32⟩, ⟨A43, n43, c43⟩]) (Vws.cons (hF34.vw.fit.more (Nat.zero_le _) (Nat.le_refl _)) (by omega) (Vws.cons (hF19.vw.fit.more (Nat.zero_le _) (Nat.le_refl _)) (by omega) (Vws.cons (hF23.vw.fit.more (Nat.zero_le _) (Nat.le_refl _)) (by omega) (Vws.cons ((Vw.take hF19.vw (by omega)).fit.more (Nat.zero_le _) (Nat.le_refl _)) (by omega) (Vws.cons (hO32.vw.fit.more (Nat.zero_le _) (Nat.le_refl _)) (by omega) (Vws.cons (hF43.vw.fit.more (Nat.zero_le _) (Nat.le_refl _)) (by omega) Vws.nil))))))
  clear hL44
  refine RO_q rfl rfl (Yd_assign rfl) (RO_nil (X_then (C_seq (C_seq (C_region (RL_q rfl (Yd_assign rfl) (RL_nil (X_then (C_block (?_))))))))))
  refine C_loop (T := Nat) (fun i => [(11, .slice (some ⟨W12.heap.size, 0, none⟩) 6 6), (12, .int .i64 (i : Int))]) (fun i lw13 => (i ≤ 6) ∧ Ext W13 lw13) (fun i => 6 - i) (0) ⟨rfl, rfl, trivial⟩ ?_ ?_
  · refine ⟨?_, Ext.refl _⟩
    all_goals (try dsimp only)
    all_goals (omega)
  · rintro i lw13 ⟨hi13_0, hL13⟩
    replace hE := Ext.trans hE hL13
    replace h_b := h_b.ext hL13
    replace hF18 := hF18.ext hL13
    replace hF19 := hF19.ext hL13
    replace hF23 := hF23.ext hL13
    replace hO31 := hO31.ext hL13
    replace hO32 := hO32.ext hL13
    replace hF34 := hF34.ext hL13
    replace hF42 := hF42.ext hL13
    replace hF43 := hF43.ext hL13
    replace hO44 := hO44.ext hL13
    try replace hV44 := hV44.ext hL13
    have hsL13 := hL13.size
    refine C_seq (C_seq (C_region (RL_q rfl (Yd_move rfl) (RL_q rfl (Yd_move rfl) (RL_q rfl (Yd_len Try.underlying37 rfl) (RL_q rfl (Yd_lss rfl rfl) (RL_nil (X_then (?_)))))))))
    refine C_cond rfl (fun hb48 => ?_) (fun hb48 => ?_)
    · skip
      try simp only [decide_eq_true_eq, decide_eq_false_iff_not, Bool.not_eq_true', Bool.not_eq_false', Decidable.not_not, Int.not_lt, Int.not_le, Bool.or_eq_true, Bool.and_eq_true, Bool.or_eq_false_iff, Bool.and_eq_false_iff] at hb48
      refine C_skip (X_then (C_seq (C_block (C_seq (C_region (RL_q rfl (Yd_move rfl) (RL_q rfl (Yd_move rfl) (RL_q rfl (Yd_idxL Try.underlying37 (sz := 1) (by kernel_rfl) rfl rfl (by omega) (by omega)) (?_)))))))))
      obtain ⟨x1, hx1, gx1⟩ := Vw.elem (i := i) hO44.vw (by omega)
      obtain ⟨lx1, hlx1, hvx1, hbx1⟩ := Vws.get hV44 hx1
      have hnx1 := hvx1.ln
      have hcx1 := hvx1.cap
      refine RL_q rfl (Yd_load (v := .slice x1.A x1.n x1.c) Try.underlying22 rfl rfl (Vw.lq1L hO44.vw hx1 rfl rfl)) (RL_l rfl (Ld_call Try.func33 rfl (by kernel_rfl) rfl (OpenV hvx1) ?_))
      rintro e W14 ⟨A56_0, n56_0, c56_0, y56_1, rfl, hF56_0, hy56_1, he14⟩
      refine ⟨_, rfl, ?_⟩
      replace hE := Ext.trans hE he14
      replace h_b := h_b.ext he14
      replace hF18 := hF18.ext he14
      replace hF19 := hF19.ext he14
      replace hF23 := hF23.ext he14
      replace hO31 := hO31.ext he14
      replace hO32 := hO32.ext he14
      replace hF34 := hF34.ext he14
      replace hF42 := hF42.ext he14
      replace hF43 := hF43.ext he14
      replace hO44 := hO44.ext he14
      try replace hV44 := hV44.ext he14
      replace hL13 := Ext.trans hL13 he14
      replace hvx1 := hvx1.ext he14
      have hs14 := he14.size
      have hn56_0 := hF56_0.ln
      try simp only [List.length_append, List.length_cons, List.length_nil, List.length_set, List.length_take, List.length_drop, List.length_replicate, Nat.zero_add, Nat.add_zero, le_len] at hn56_0
      have hc56_0 := hF56_0.cap
      refine RL_q rfl (Yd_move rfl) (RL_q rfl (Yd_extract rfl rfl) (RL_q rfl (Yd_extract rfl rfl) (RL_q rfl (Yd_assign rfl) (RL_q rfl (Yd_assign rfl) (RL_nil (X_then (C_seq (C_region (RL_q rfl (Yd_move rfl) (RL_q rfl (Yd_move rfl) (RL_q rfl (Yd_idxL Try.underlying37 (sz := 1) (by kernel_rfl) rfl rfl (by omega) (by omega)) (RL_q rfl (Yd_load (v := .slice x1.A x1.n x1.c) Try.underlying22 rfl rfl (Vw.lq1L hO44.vw hx1 rfl rfl)) (RL_l rfl (Ld_call Try.func34 rfl (by kernel_rfl) rfl (refOpenV hvx1) ?_))))))))))))))
      rintro e W15 ⟨A64_0, n64_0, c64_0, y64_1, rfl, hF64_0, hy64_1, he15⟩
      refine ⟨_, rfl, ?_⟩
      replace hE := Ext.trans hE he15
      replace h_b := h_b.ext he15
      replace hF18 := hF18.ext he15
      replace hF19 := hF19.ext he15
      replace hF23 := hF23.ext he15
      replace hO31 := hO31.ext he15
      replace hO32 := hO32.ext he15
      replace hF34 := hF34.ext he15
      replace hF42 := hF42.ext he15
      replace hF43 := hF43.ext he15
      replace hO44 := hO44.ext he15
      try replace hV44 := hV44.ext he15
      replace hL13 := Ext.trans hL13 he15
      replace hvx1 := hvx1.ext he15
      replace hF56_0 := hF56_0.ext he15
      have hs15 := he15.size
      have hn64_0 := hF64_0.ln
      try simp only [List.length_append, List.length_cons, List.length_nil, List.length_set, List.length_take, List.length_drop, List.length_replicate, Nat.zero_add, Nat.add_zero, le_len] at hn64_0
      have hc64_0 := hF64_0.cap
      refine RL_q rfl (Yd_move rfl) (RL_q rfl (Yd_extract rfl rfl) (RL_q rfl (Yd_extract rfl rfl) (RL_q rfl (Yd_assign rfl) (RL_q rfl (Yd_assign rfl) (RL_nil (X_then (C_seq (C_region (RL_q rfl (Yd_move rfl) (RL_q rfl (Yd_move rfl) (RL_q rfl (Yd_neq rfl rfl) (RL_q rfl (Yd_move rfl) (?_)))))))))))))
      apply RL_or (dj := 70) 76 6 rfl
      · intro hb70
        try simp only [decide_eq_true_eq, decide_eq_false_iff_not, Bool.not_eq_true', Bool.not_eq_false', Decidable.not_not, Int.not_lt, Int.not_le, Bool.or_eq_true, Bool.and_eq_true, Bool.or_eq_false_iff, Bool.and_eq_false_iff] at hb70
        refine QL_gq rfl rfl rfl (Yd_move rfl) (QL_gq rfl rfl rfl (Yd_str Try.underlying22 Try.underlying5 Try.underlying9 rfl (fun W hW => Rd.ext (hF56_0.vw).u8 hW)) (QL_gq rfl rfl rfl (Yd_move rfl) (QL_gq rfl rfl rfl (Yd_str Try.underlying22 Try.underlying5 Try.underlying9 rfl (fun W hW => Rd.ext (hF64_0).u8 hW)) (QL_gq rfl rfl rfl (Yd_neqSB rfl rfl hF56_0.byt hF64_0.byt) (QL_q rfl (Yd_pickF rfl rfl) ((QL_nil 6 rfl rfl rfl)))))))
      · intro hb70
        try simp only [decide_eq_true_eq, decide_eq_false_iff_not, Bool.not_eq_true', Bool.not_eq_false', Decidable.not_not, Int.not_lt, Int.not_le, Bool.or_eq_true, Bool.and_eq_true, Bool.or_eq_false_iff, Bool.and_eq_false_iff] at hb70
        refine QL_gn rfl rfl rfl rfl (QL_gn rfl rfl rfl rfl (QL_gn rfl rfl rfl rfl (QL_gn rfl rfl rfl rfl (QL_gn rfl rfl rfl rfl (QL_q rfl (Yd_pickT rfl rfl) ((QL_nil 6 rfl rfl rfl)))))))
      · skip
        refine RL_nil (X_then (?_))
        refine C_no rfl (by simp [hy56_1, hy64_1]) (C_skip (X_block (X_then (C_region (RL_q rfl (Yd_move rfl) (RL_q rfl (Yd_add rfl rfl (i64w (by omega) (by omega))) (RL_q rfl (Yd_assign rfl) (RL_nil (?_)))))))))
        refine X_again (i + 1) ⟨rfl, rfl, trivial⟩ ?_ (by show 6 - (i + 1) < 6 - i; omega)
        refine ⟨?_, hL13⟩
        all_goals (try dsimp only)
        all_goals (omega)
    · skip
      try simp only [decide_eq_true_eq, decide_eq_false_iff_not, Bool.not_eq_true', Bool.not_eq_false', Decidable.not_not, Int.not_lt, Int.not_le, Bool.or_eq_true, Bool.and_eq_true, Bool.or_eq_false_iff, Bool.and_eq_false_iff] at hb48
      refine C_exit (X_thenE (X_thenE (X_blockE (X_then (C_seq (C_region (RL_l rfl (Ld_call Try.func30 rfl (by kernel_rfl) rfl (lives08V ) ?_))))))))
      rintro e W14 ⟨_, rfl, rfl, he14⟩
      refine ⟨_, rfl, ?_⟩
      replace hE := Ext.trans hE he14
      replace h_b := h_b.ext he14
      replace hF18 := hF18.ext he14
      replace hF19 := hF19.ext he14
      replace hF23 := hF23.ext he14
      replace hO31 := hO31.ext he14
      replace hO32 := hO32.ext he14
      replace hF34 := hF34.ext he14
      replace hF42 := hF42.ext he14
      replace hF43 := hF43.ext he14
      replace hO44 := hO44.ext he14
      try replace hV44 := hV44.ext he14
      replace hL13 := Ext.trans hL13 he14
      have hs14 := he14.size
      refine RL_q rfl (Yd_assign rfl) (RL_nil (X_then (C_ret (X_ret1 rfl rfl ?_))))
      refine ⟨_, rfl, ?_, hE⟩
      all_goals (first | rfl | omega | simp)
end Go.Proofs.AL
