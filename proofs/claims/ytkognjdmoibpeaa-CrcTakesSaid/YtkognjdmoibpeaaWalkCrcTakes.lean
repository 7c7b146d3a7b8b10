import Derived.Test.YtkognjdmoibpeaaCell
set_option linter.unusedVariables false
set_option linter.unusedSimpArgs false
namespace Go.Proofs.AL
open Go.RowKit
theorem CrcTakesV {lo_b B_b : Nat} {A_b : Option Addr} {n_b c_b : Nat} {b : List Int} {at_ : Int} {c : Int} {w : World}  (h_b : Vw tU8 w lo_b B_b A_b n_b c_b b) (b_at_ : -9223372036854775808 ≤ at_ ∧ at_ ≤ 9223372036854775807) (b_c : 0 ≤ c ∧ c ≤ 255) :
    Calls Try.prog 7 #[.slice A_b n_b c_b, .int .i64 at_, .int .u8 c] w fun e w' => ∃ (x0 : Bool), e = .returned (.bool x0) ∧ x0 = (true) ∧ Ext w w' := by
  have hE := Ext.refl w
  replace h_b := h_b.fit
  have hn_b := h_b.ln
  have hc_b := h_b.cap
  have hm_b := h_b.max
  simp only [maxLen] at hm_b
  have h20 := few_le b 20 (by omega)
  have h40 := few_le b 40 (by omega)
  refine calls_of (l := [.slice A_b n_b c_b, .int .i64 at_, .int .u8 c]) (N := 99) Try.func7 rfl rfl rfl ?_
  refine C_seq (C_region (RL_q rfl (Yd_assign rfl) (RL_nil (X_then (C_seq (C_region (RL_q rfl (Yd_move rfl) (RL_l rfl (Ld_call Try.func15 rfl (by kernel_rfl) rfl (FewV h_b ⟨by first | omega | (dsimp only; omega), by first | omega | (dsimp only; omega)⟩) ?_)))))))))
  rintro e W1 ⟨A17, n17, c17, rfl, hF17, hle17, he1⟩
  refine ⟨_, rfl, ?_⟩
  replace hE := Ext.trans hE he1
  replace h_b := h_b.ext he1
  have hs1 := he1.size
  have hn17 := hF17.ln
  try simp only [List.length_append, List.length_cons, List.length_nil, List.length_set, List.length_take, List.length_drop, List.length_replicate, Nat.zero_add, Nat.add_zero, le_len] at hn17
  have hc17 := hF17.cap
  try rw [hle17.2.2.1 (by omega)] at hF17 hn17
  refine RL_l rfl (Ld_call Try.func23 rfl (by kernel_rfl) rfl (refPutV hF17.vw (by omega)) ?_)
  rintro e W2 ⟨A18, n18, c18, rfl, hF18, he2⟩
  refine ⟨_, rfl, ?_⟩
  replace hE := Ext.trans hE he2
  replace h_b := h_b.ext he2
  replace hF17 := hF17.ext he2
  have hs2 := he2.size
  have hn18 := hF18.ln
  try simp only [List.length_append, List.length_cons, List.length_nil, List.length_set, List.length_take, List.length_drop, List.length_replicate, Nat.zero_add, Nat.add_zero, le_len] at hn18
  have hc18 := hF18.cap
  refine RL_q rfl (Yd_assign rfl) (RL_nil (X_then (C_seq (C_region (RL_q rfl (Yd_move rfl) (RL_q rfl (Yd_move rfl) (RL_q rfl (Yd_len Try.underlying22 rfl) (RL_l rfl (Ld_call Try.func20 rfl (by kernel_rfl) rfl (AroundV ⟨by first | omega | (dsimp only; omega), by first | omega | (dsimp only; omega)⟩ ⟨by first | omega | (dsimp only; omega), by first | omega | (dsimp only; omega)⟩) ?_)))))))))
  rintro e W3 ⟨y22, rfl, hy22, hra22, rfl⟩
  refine ⟨_, rfl, ?_⟩
  refine RL_q rfl (Yd_assign rfl) (RL_nil (X_then (C_seq (C_region (RL_q rfl (Yd_move rfl) (RL_l rfl (Ld_call Try.func15 rfl (by kernel_rfl) rfl (FewV hF18.vw ⟨by first | omega | (dsimp only; omega), by first | omega | (dsimp only; omega)⟩) ?_)))))))
  rintro e W4 ⟨A24, n24, c24, rfl, hF24, hle24, he4⟩
  refine ⟨_, rfl, ?_⟩
  replace hE := Ext.trans hE he4
  replace h_b := h_b.ext he4
  replace hF17 := hF17.ext he4
  replace hF18 := hF18.ext he4
  have hs4 := he4.size
  have hn24 := hF24.ln
  try simp only [List.length_append, List.length_cons, List.length_nil, List.length_set, List.length_take, List.length_drop, List.length_replicate, Nat.zero_add, Nat.add_zero, le_len] at hn24
  have hc24 := hF24.cap
  try rw [hle24.2.2.1 (by omega)] at hF24 hn24
  refine RL_q rfl (Yd_assign rfl) (RL_nil (X_then (C_seq (C_region (RL_q rfl (Yd_move rfl) (RL_q rfl (Yd_move rfl) (RL_q rfl (Yd_move rfl) (?_))))))))
  obtain ⟨gA24, rfl, hglA24, hghA24⟩ := Ow.at_ (i := y22.toNat) hF24 (by omega)
  refine RL_q rfl (Yd_idxL Try.underlying22 (sz := 1) (by kernel_rfl) rfl rfl (by omega) (by omega)) (RL_l0 (Ld_putO (T := tU8) (a := c) (by kernel_rfl) rfl rfl hF24 (i := y22.toNat) (by omega) rfl rfl (by omega) ⟨by omega, by omega⟩ ?_))
  intro W5 hF24' hu5
  have hk5 := Kp.ofb hu5
  have hs5 := hk5.size
  replace hE := Ext.kp hE hk5 (fun k hk => by first | omega | (have hk := hk; dsimp only at hk; omega))
  replace h_b := h_b.kp hk5 (fun k hk => by first | omega | (have hk := hk; dsimp only at hk; omega))
  replace hF17 := hF17.kp hk5 (fun k hk => by first | omega | (have hk := hk; dsimp only at hk; omega))
  replace hF18 := hF18.kp hk5 (fun k hk => by first | omega | (have hk := hk; dsimp only at hk; omega))
  replace hF24 := hF24'
  have hnhF24 := hF24.ln
  refine RL_nil (X_then (C_seq (C_region (RL_q rfl (Yd_move rfl) (RL_l rfl (Ld_call Try.func15 rfl (by kernel_rfl) rfl (FewV hF18.vw ⟨by first | omega | (dsimp only; omega), by first | omega | (dsimp only; omega)⟩) ?_))))))
  rintro e W6 ⟨A30, n30, c30, rfl, hF30, hle30, he6⟩
  refine ⟨_, rfl, ?_⟩
  replace hE := Ext.trans hE he6
  replace h_b := h_b.ext he6
  replace hF17 := hF17.ext he6
  replace hF18 := hF18.ext he6
  replace hF24 := hF24.ext he6
  have hs6 := he6.size
  have hn30 := hF30.ln
  try simp only [List.length_append, List.length_cons, List.length_nil, List.length_set, List.length_take, List.length_drop, List.length_replicate, Nat.zero_add, Nat.add_zero, le_len] at hn30
  have hc30 := hF30.cap
  try rw [hle30.2.2.1 (by omega)] at hF30 hn30
  refine RL_q rfl (Yd_move rfl) (RL_l rfl (Ld_lit Try.underlying22 rfl (lit_flat Try.underlying22 Try.elt5 rfl rfl ⟨rfl, by decide⟩) ?_))
  intro W7 he7 hz7 hL32
  replace hE := Ext.trans hE he7
  replace h_b := h_b.ext he7
  replace hF17 := hF17.ext he7
  replace hF18 := hF18.ext he7
  replace hF24 := hF24.ext he7
  replace hF30 := hF30.ext he7
  have hO32 := Ow.of_blk (T := tU8) (l := [c]) hL32 rfl (n := 1) rfl (by simp [maxLen]) (okc ⟨by omega, by omega⟩ okn)
  clear hL32
  refine RL_l rfl (Ld_apO (T := tU8) Try.underlying22 Try.elt5 rfl rfl rfl hF30 hO32.vw (by simp only [maxLen]; omega) (by omega) (by omega) ?_)
  intro A33 c33 W8 hO33 hk8
  have hs8 := hk8.size
  replace hE := Ext.kp hE hk8 (fun k hk => by first | omega | (have hk := hk; dsimp only at hk; omega))
  replace h_b := h_b.kp hk8 (fun k hk => by first | omega | (have hk := hk; dsimp only at hk; omega))
  replace hF17 := hF17.kp hk8 (fun k hk => by first | omega | (have hk := hk; dsimp only at hk; omega))
  replace hF18 := hF18.kp hk8 (fun k hk => by first | omega | (have hk := hk; dsimp only at hk; omega))
  replace hF24 := hF24.kp hk8 (fun k hk => by first | omega | (have hk := hk; dsimp only at hk; omega))
  replace hO32 := hO32.kp hk8 (fun k hk => by first | omega | (have hk := hk; dsimp only at hk; omega))
  have hn33 := hO33.ln
  try simp only [List.length_append, List.length_cons, List.length_nil, List.length_set, List.length_take, List.length_drop, List.length_replicate, Nat.zero_add, Nat.add_zero, le_len] at hn33
  have hc33 := hO33.cap
  refine RL_q rfl (Yd_assign rfl) (RL_nil (X_then (C_seq (?_))))
  refine C_regionD (NoB) (l := [(0, true), (2, true), (3, true), (4, true), (5, true), (6, true), (7, true), (1, false), (8, false), (9, true)]) (by kernel_rfl) (by kernel_rfl) rfl (by kernel_rfl) (fun _ _ d _ _ h => by cases d <;> exact h) ?_
  intro W9 he9 hh9
  replace hE := Ext.trans hE he9
  replace h_b := h_b.ext he9
  replace hF17 := hF17.ext he9
  replace hF18 := hF18.ext he9
  replace hF24 := hF24.ext he9
  replace hO32 := hO32.ext he9
  replace hO33 := hO33.ext he9
  have hs9 := he9.size
  refine RO_q rfl rfl (Yd_move rfl) (RO_q rfl rfl (Yd_move rfl) (RO_q rfl rfl (Yd_move rfl) (RO_q rfl rfl (Yd_move rfl) (RO_q rfl rfl (Yd_move rfl) (RO_q rfl rfl (Yd_sliceH Try.underlying22 (sz := 1) (by kernel_rfl) rfl rfl (by omega) (by omega)) (RO_q rfl rfl (Yd_move rfl) (RO_l rfl rfl (Ld_call Try.func15 rfl (by kernel_rfl) rfl (FewV h_b ⟨by first | omega | (dsimp only; omega), by first | omega | (dsimp only; omega)⟩) ?_))))))))
  rintro e W10 ⟨A35, n35, c35, rfl, hF35, hle35, he10⟩
  refine ⟨_, rfl, ?_⟩
  refine ⟨Kp.of_ext he10, ?_⟩
  replace hE := Ext.trans hE he10
  replace h_b := h_b.ext he10
  replace hF17 := hF17.ext he10
  replace hF18 := hF18.ext he10
  replace hF24 := hF24.ext he10
  replace hO32 := hO32.ext he10
  replace hO33 := hO33.ext he10
  have hs10 := he10.size
  have hn35 := hF35.ln
  try simp only [List.length_append, List.length_cons, List.length_nil, List.length_set, List.length_take, List.length_drop, List.length_replicate, Nat.zero_add, Nat.add_zero, le_len] at hn35
  have hc35 := hF35.cap
  try rw [hle35.2.2.1 (by omega)] at hF35 hn35
  refine RO_l rfl rfl (Ld_lit Try.underlying37 rfl (lit_flat Try.underlying37 Try.elt22 rfl rfl ⟨rfl, by decide⟩) ?_)
  intro W11 he11 hz11 hL42
  refine ⟨Kp.of_ext he11, ?_⟩
  replace hE := Ext.trans hE he11
  replace h_b := h_b.ext he11
  replace hF17 := hF17.ext he11
  replace hF18 := hF18.ext he11
  replace hF24 := hF24.ext he11
  replace hO32 := hO32.ext he11
  replace hO33 := hO33.ext he11
  replace hF35 := hF35.ext he11
  have hO42 := Ow.of_blk (T := tSl) (l := [⟨A35, n35, c35⟩, ⟨A18, n18, c18⟩, ⟨(some ⟨gA24, 0, none⟩), n24, c24⟩, ⟨A18, y22.toNat, c18⟩, ⟨A33, (n30 + 1), c33⟩]) hL42 rfl (n := 5) rfl (by simp [maxLen]) (okc trivial (okc trivial (okc trivial (okc trivial (okc trivial okn)))))
  have hV42 := Vws.ofs (T := tU8) (N := 400) (hs := [⟨A35, n35, c35⟩, ⟨A18, n18, c18⟩, ⟨(some ⟨gA24, 0, none⟩), n24, c24⟩, ⟨A18, y22.toNat, c18⟩, ⟨A33, (n30 + 1), c33⟩]) (Vws.cons (hF35.vw.fit.more (Nat.zero_le _) (Nat.le_refl _)) (by omega) (Vws.cons (hF18.vw.fit.more (Nat.zero_le _) (Nat.le_refl _)) (by omega) (Vws.cons (hF24.vw.fit.more (Nat.zero_le _) (Nat.le_refl _)) (by omega) (Vws.cons ((Vw.take hF18.vw (by omega)).fit.more (Nat.zero_le _) (Nat.le_refl _)) (by omega) (Vws.cons (hO33.vw.fit.more (Nat.zero_le _) (Nat.le_refl _)) (by omega) Vws.nil)))))
  clear hL42
  refine RO_q rfl rfl (Yd_assign rfl) (RO_nil (X_then (C_seq (C_seq (C_region (RL_q rfl (Yd_assign rfl) (RL_nil (X_then (C_block (?_))))))))))
  refine C_loop (T := Nat) (fun i => [(11, .slice (some ⟨W10.heap.size, 0, none⟩) 5 5), (12, .int .i64 (i : Int))]) (fun i lw11 => (i ≤ 5) ∧ Ext W11 lw11) (fun i => 5 - i) (0) ⟨rfl, rfl, trivial⟩ ?_ ?_
  · refine ⟨?_, Ext.refl _⟩
    all_goals (try dsimp only)
    all_goals (omega)
  · rintro i lw11 ⟨hi11_0, hL11⟩
    replace hE := Ext.trans hE hL11
    replace h_b := h_b.ext hL11
    replace hF17 := hF17.ext hL11
    replace hF18 := hF18.ext hL11
    replace hF24 := hF24.ext hL11
    replace hO32 := hO32.ext hL11
    replace hO33 := hO33.ext hL11
    replace hF35 := hF35.ext hL11
    replace hO42 := hO42.ext hL11
    try replace hV42 := hV42.ext hL11
    have hsL11 := hL11.size
    refine C_seq (C_seq (C_region (RL_q rfl (Yd_move rfl) (RL_q rfl (Yd_lss rfl rfl) (RL_nil (X_then (?_)))))))
    refine C_cond rfl (fun hb44 => ?_) (fun hb44 => ?_)
    · skip
      try simp only [decide_eq_true_eq, decide_eq_false_iff_not, Bool.not_eq_true', Bool.not_eq_false', Decidable.not_not, Int.not_lt, Int.not_le, Bool.or_eq_true, Bool.and_eq_true, Bool.or_eq_false_iff, Bool.and_eq_false_iff] at hb44
      refine C_skip (X_then (C_seq (C_block (C_seq (C_region (RL_q rfl (Yd_move rfl) (RL_q rfl (Yd_move rfl) (RL_q rfl (Yd_idxL Try.underlying37 (sz := 1) (by kernel_rfl) rfl rfl (by omega) (by omega)) (?_)))))))))
      obtain ⟨x1, hx1, gx1⟩ := Vw.elem (i := i) hO42.vw (by omega)
      obtain ⟨lx1, hlx1, hvx1, hbx1⟩ := Vws.get hV42 hx1
      have hnx1 := hvx1.ln
      have hcx1 := hvx1.cap
      refine RL_q rfl (Yd_load (v := .slice x1.A x1.n x1.c) Try.underlying22 rfl rfl (Vw.lq1L hO42.vw hx1 rfl rfl)) (RL_l rfl (Ld_call Try.func22 rfl (by kernel_rfl) rfl (TakeV hvx1 (by omega)) ?_))
      rintro e W12 ⟨A52_0, n52_0, c52_0, y52_1, rfl, hF52_0, hy52_1, he12⟩
      refine ⟨_, rfl, ?_⟩
      replace hE := Ext.trans hE he12
      replace h_b := h_b.ext he12
      replace hF17 := hF17.ext he12
      replace hF18 := hF18.ext he12
      replace hF24 := hF24.ext he12
      replace hO32 := hO32.ext he12
      replace hO33 := hO33.ext he12
      replace hF35 := hF35.ext he12
      replace hO42 := hO42.ext he12
      try replace hV42 := hV42.ext he12
      replace hL11 := Ext.trans hL11 he12
      replace hvx1 := hvx1.ext he12
      have hs12 := he12.size
      have hn52_0 := hF52_0.ln
      try simp only [List.length_append, List.length_cons, List.length_nil, List.length_set, List.length_take, List.length_drop, List.length_replicate, Nat.zero_add, Nat.add_zero, le_len] at hn52_0
      have hc52_0 := hF52_0.cap
      have hT := take_cases lx1
      refine RL_q rfl (Yd_move rfl) (RL_q rfl (Yd_extract rfl rfl) (RL_q rfl (Yd_extract rfl rfl) (RL_q rfl (Yd_assign rfl) (RL_q rfl (Yd_assign rfl) (RL_nil (X_then (C_seq (C_region (RL_q rfl (Yd_assign rfl) (RL_nil (X_then (C_seq (C_seq (C_region (RL_q rfl (Yd_move rfl) (RL_q rfl (Yd_move rfl) (RL_q rfl (Yd_idxL Try.underlying37 (sz := 1) (by kernel_rfl) rfl rfl (by omega) (by omega)) (RL_q rfl (Yd_load (v := .slice x1.A x1.n x1.c) Try.underlying22 rfl rfl (Vw.lq1L hO42.vw hx1 rfl rfl)) (RL_l rfl (Ld_call Try.func24 rfl (by kernel_rfl) rfl (GoodV hvx1 (by omega)) ?_))))))))))))))))))))
      rintro e W13 ⟨_, rfl, rfl, he13⟩
      refine ⟨_, rfl, ?_⟩
      replace hE := Ext.trans hE he13
      replace h_b := h_b.ext he13
      replace hF17 := hF17.ext he13
      replace hF18 := hF18.ext he13
      replace hF24 := hF24.ext he13
      replace hO32 := hO32.ext he13
      replace hO33 := hO33.ext he13
      replace hF35 := hF35.ext he13
      replace hO42 := hO42.ext he13
      try replace hV42 := hV42.ext he13
      replace hL11 := Ext.trans hL11 he13
      replace hvx1 := hvx1.ext he13
      replace hF52_0 := hF52_0.ext he13
      have hs13 := he13.size
      refine RL_q rfl (Yd_not rfl) (RL_nil (X_then (?_)))
      refine C_cond rfl (fun hb60 => ?_) (fun hb60 => ?_)
      · skip
        try simp only [decide_eq_true_eq, decide_eq_false_iff_not, Bool.not_eq_true', Bool.not_eq_false', Decidable.not_not, Int.not_lt, Int.not_le, Bool.or_eq_true, Bool.and_eq_true, Bool.or_eq_false_iff, Bool.and_eq_false_iff] at hb60
        refine C_region (RL_q rfl (Yd_assign rfl) (RL_nil (X_then (C_seq (C_seq (C_region (RL_q rfl (Yd_move rfl) (RL_q rfl (Yd_move rfl) (RL_q rfl (Yd_idxL Try.underlying37 (sz := 1) (by kernel_rfl) rfl rfl (by omega) (by omega)) (RL_q rfl (Yd_load (v := .slice x1.A x1.n x1.c) Try.underlying22 rfl rfl (Vw.lq1L hO42.vw hx1 rfl rfl)) (RL_q rfl (Yd_len Try.underlying22 rfl) (RL_q rfl (Yd_lss rfl rfl) (RL_nil (X_then (?_)))))))))))))))
        refine C_cond rfl (fun hb66 => ?_) (fun hb66 => ?_)
        · skip
          try simp only [decide_eq_true_eq, decide_eq_false_iff_not, Bool.not_eq_true', Bool.not_eq_false', Decidable.not_not, Int.not_lt, Int.not_le, Bool.or_eq_true, Bool.and_eq_true, Bool.or_eq_false_iff, Bool.and_eq_false_iff] at hb66
          refine C_region (RL_q rfl (Yd_assign rfl) (RL_nil (X_then (C_seq (C_seq (C_region (RL_q rfl (Yd_move rfl) (RL_q rfl (Yd_move rfl) (RL_q rfl (Yd_neq rfl rfl) (RL_q rfl (Yd_move rfl) (?_)))))))))))
          apply RL_or (dj := 70) 78 8 rfl
          · intro hb70
            try simp only [decide_eq_true_eq, decide_eq_false_iff_not, Bool.not_eq_true', Bool.not_eq_false', Decidable.not_not, Int.not_lt, Int.not_le, Bool.or_eq_true, Bool.and_eq_true, Bool.or_eq_false_iff, Bool.and_eq_false_iff] at hb70
            refine QL_gq rfl rfl rfl (Yd_move rfl) (QL_gq rfl rfl rfl (Yd_neq rfl rfl) (QL_gq rfl rfl rfl (Yd_move rfl) (?_)))
            apply QL_and (dj := 73) 77 4 rfl
            · intro hb73
              try simp only [decide_eq_true_eq, decide_eq_false_iff_not, Bool.not_eq_true', Bool.not_eq_false', Decidable.not_not, Int.not_lt, Int.not_le, Bool.or_eq_true, Bool.and_eq_true, Bool.or_eq_false_iff, Bool.and_eq_false_iff] at hb73
              refine QL_gq rfl rfl rfl (Yd_move rfl) (QL_gq rfl rfl rfl (Yd_len Try.underlying22 rfl) (QL_gq rfl rfl rfl (Yd_gtr rfl rfl) (QL_gq rfl rfl rfl (Yd_pickT rfl rfl) ((QL_nil 4 rfl rfl rfl)))))
            · intro hb73
              try simp only [decide_eq_true_eq, decide_eq_false_iff_not, Bool.not_eq_true', Bool.not_eq_false', Decidable.not_not, Int.not_lt, Int.not_le, Bool.or_eq_true, Bool.and_eq_true, Bool.or_eq_false_iff, Bool.and_eq_false_iff] at hb73
              refine QL_gn rfl rfl rfl rfl (QL_gn rfl rfl rfl rfl (QL_gn rfl rfl rfl rfl (QL_gq rfl rfl rfl (Yd_pickF rfl rfl) ((QL_nil 4 rfl rfl rfl)))))
            · skip
              refine QL_q rfl (Yd_pickF rfl rfl) ((QL_nil 5 rfl rfl rfl))
          · intro hb70
            try simp only [decide_eq_true_eq, decide_eq_false_iff_not, Bool.not_eq_true', Bool.not_eq_false', Decidable.not_not, Int.not_lt, Int.not_le, Bool.or_eq_true, Bool.and_eq_true, Bool.or_eq_false_iff, Bool.and_eq_false_iff] at hb70
            refine QL_gn rfl rfl rfl rfl (QL_gn rfl rfl rfl rfl (QL_gn rfl rfl rfl rfl (QL_gu rfl rfl rfl (QL_gu rfl rfl rfl (QL_gu rfl rfl rfl (QL_gn rfl rfl rfl rfl (QL_q rfl (Yd_pickT rfl rfl) ((QL_nil 8 rfl rfl rfl)))))))))
          · skip
            refine RL_nil (X_then (?_))
            refine C_cond rfl (fun hb78 => ?_) (fun hb78 => ?_)
            · skip
              try simp only [decide_eq_true_eq, decide_eq_false_iff_not, Bool.not_eq_true', Bool.not_eq_false', Decidable.not_not, Int.not_lt, Int.not_le, Bool.or_eq_true, Bool.and_eq_true, Bool.or_eq_false_iff, Bool.and_eq_false_iff] at hb78
              refine C_seq (C_region (RL_q rfl (Yd_assign rfl) (RL_nil (X_then (C_ret (X_thenR (X_blockR (X_thenR (X_thenR (X_blockR (X_thenR (X_ret1 rfl rfl ?_))))))))))))
              refine ⟨_, rfl, ?_, hE⟩
              all_goals (first | rfl | ((rcases hT with ⟨a1, a2, a3, a4, a5⟩ | ⟨a1, a2, a3, a4, a5⟩ | ⟨a1, a2, a3, a4, a5⟩) <;> first | omega | (rw [a2] at hb60; cases hb60; done) | (exact absurd (a4.trans (congrArg (fun k => List.take k lx1) (show lx1.length - 4 = ((x1.n : Int) - 4).toNat by omega))) hb97)))
            · skip
              try simp only [decide_eq_true_eq, decide_eq_false_iff_not, Bool.not_eq_true', Bool.not_eq_false', Decidable.not_not, Int.not_lt, Int.not_le, Bool.or_eq_true, Bool.and_eq_true, Bool.or_eq_false_iff, Bool.and_eq_false_iff] at hb78
              refine C_skip (X_then (C_seq (?_)))
              refine C_regionD (NoB) (l := [(0, true), (1, true), (2, true), (3, true), (4, true), (5, true), (6, true), (7, true), (8, true), (9, true), (10, true), (11, true), (12, true), (13, true), (14, true), (15, true), (16, true), (17, true), (18, true)]) (by kernel_rfl) (by kernel_rfl) rfl (by kernel_rfl) (fun _ _ d _ _ h => by cases d <;> exact h) ?_
              intro W14 he14 hh14
              replace hE := Ext.trans hE he14
              replace h_b := h_b.ext he14
              replace hF17 := hF17.ext he14
              replace hF18 := hF18.ext he14
              replace hF24 := hF24.ext he14
              replace hO32 := hO32.ext he14
              replace hO33 := hO33.ext he14
              replace hF35 := hF35.ext he14
              replace hO42 := hO42.ext he14
              try replace hV42 := hV42.ext he14
              replace hL11 := Ext.trans hL11 he14
              replace hvx1 := hvx1.ext he14
              replace hF52_0 := hF52_0.ext he14
              have hs14 := he14.size
              refine RO_q rfl rfl (Yd_move rfl) (RO_q rfl rfl (Yd_eql rfl rfl) (RO_q rfl rfl (Yd_move rfl) (?_)))
              refine RO_case (d := 81) rfl (fun hb81 => ?_) (fun hb81 => ?_)
              · skip
                try simp only [decide_eq_true_eq, decide_eq_false_iff_not, Bool.not_eq_true', Bool.not_eq_false', Decidable.not_not, Int.not_lt, Int.not_le, Bool.or_eq_true, Bool.and_eq_true, Bool.or_eq_false_iff, Bool.and_eq_false_iff] at hb81
                refine RO_gq rfl rfl rfl rfl (Yd_move rfl) (RO_gq rfl rfl rfl rfl (Yd_str Try.underlying22 Try.underlying5 Try.underlying9 rfl (fun W hW => Rd.ext (hF52_0.vw).u8 hW.ext)) (RO_gq rfl rfl rfl rfl (Yd_move rfl) (RO_gq rfl rfl rfl rfl (Yd_move rfl) (RO_gq rfl rfl rfl rfl (Yd_idxL Try.underlying37 (sz := 1) (by kernel_rfl) rfl rfl (by omega) (by omega)) (RO_gq rfl rfl rfl rfl (Yd_load (v := .slice x1.A x1.n x1.c) Try.underlying22 rfl rfl (fun W hW => (Vw.lq1L hO42.vw hx1 rfl rfl) W hW.ext)) (RO_gq rfl rfl rfl rfl (Yd_move rfl) (RO_gq rfl rfl rfl rfl (Yd_move rfl) (RO_gq rfl rfl rfl rfl (Yd_idxL Try.underlying37 (sz := 1) (by kernel_rfl) rfl rfl (by omega) (by omega)) (RO_gq rfl rfl rfl rfl (Yd_load (v := .slice x1.A x1.n x1.c) Try.underlying22 rfl rfl (fun W hW => (Vw.lq1L hO42.vw hx1 rfl rfl) W hW.ext)) (RO_gq rfl rfl rfl rfl (Yd_len Try.underlying22 rfl) (RO_gq rfl rfl rfl rfl (Yd_sub rfl rfl (i64w (by omega) (by omega))) (RO_gq rfl rfl rfl rfl (Yd_sliceH Try.underlying22 (sz := 1) (by kernel_rfl) rfl rfl (by omega) (by omega)) (RO_gq rfl rfl rfl rfl (Yd_str Try.underlying22 Try.underlying5 Try.underlying9 rfl (fun W hW => Rd.ext ((Vw.take hvx1 (by omega))).u8 hW.ext)) (RO_gq rfl rfl rfl rfl (Yd_neqSB rfl rfl hF52_0.byt (Vw.take hvx1 (by omega)).byt) (RO_q rfl rfl (Yd_pickT rfl rfl) (RO_nil (X_then (?_))))))))))))))))))
                refine C_cond rfl (fun hb97 => ?_) (fun hb97 => ?_)
                · skip
                  try simp only [decide_eq_true_eq, decide_eq_false_iff_not, Bool.not_eq_true', Bool.not_eq_false', Decidable.not_not, Int.not_lt, Int.not_le, Bool.or_eq_true, Bool.and_eq_true, Bool.or_eq_false_iff, Bool.and_eq_false_iff] at hb97
                  refine C_seq (C_region (RL_q rfl (Yd_assign rfl) (RL_nil (X_then (C_ret (X_blockR (X_thenR (X_thenR (X_blockR (X_thenR (X_ret1 rfl rfl ?_)))))))))))
                  refine ⟨_, rfl, ?_, hE⟩
                  all_goals (first | rfl | ((rcases hT with ⟨a1, a2, a3, a4, a5⟩ | ⟨a1, a2, a3, a4, a5⟩ | ⟨a1, a2, a3, a4, a5⟩) <;> first | omega | (rw [a2] at hb60; cases hb60; done) | (exact absurd (a4.trans (congrArg (fun k => List.take k lx1) (show lx1.length - 4 = ((x1.n : Int) - 4).toNat by omega))) hb97)))
                · skip
                  try simp only [decide_eq_true_eq, decide_eq_false_iff_not, Bool.not_eq_true', Bool.not_eq_false', Decidable.not_not, Int.not_lt, Int.not_le, Bool.or_eq_true, Bool.and_eq_true, Bool.or_eq_false_iff, Bool.and_eq_false_iff] at hb97
                  refine C_skip (X_block (X_then (C_region (RL_q rfl (Yd_move rfl) (RL_q rfl (Yd_add rfl rfl (i64w (by omega) (by omega))) (RL_q rfl (Yd_assign rfl) (RL_nil (?_))))))))
                  refine X_again (i + 1) ⟨rfl, rfl, trivial⟩ ?_ (by show 5 - (i + 1) < 5 - i; omega)
                  refine ⟨?_, hL11⟩
                  all_goals (try dsimp only)
                  all_goals (omega)
              · skip
                try simp only [decide_eq_true_eq, decide_eq_false_iff_not, Bool.not_eq_true', Bool.not_eq_false', Decidable.not_not, Int.not_lt, Int.not_le, Bool.or_eq_true, Bool.and_eq_true, Bool.or_eq_false_iff, Bool.and_eq_false_iff] at hb81
                refine RO_gn rfl rfl rfl rfl rfl (RO_gn rfl rfl rfl rfl rfl (RO_gn rfl rfl rfl rfl rfl (RO_gn rfl rfl rfl rfl rfl (RO_gn rfl rfl rfl rfl rfl (RO_gn rfl rfl rfl rfl rfl (RO_gn rfl rfl rfl rfl rfl (RO_gn rfl rfl rfl rfl rfl (RO_gn rfl rfl rfl rfl rfl (RO_gn rfl rfl rfl rfl rfl (RO_gn rfl rfl rfl rfl rfl (RO_gn rfl rfl rfl rfl rfl (RO_gn rfl rfl rfl rfl rfl (RO_gn rfl rfl rfl rfl rfl (RO_gn rfl rfl rfl rfl rfl (RO_q rfl rfl (Yd_pickF rfl rfl) (RO_nil (X_then (C_no rfl rfl (C_skip (X_block (X_then (C_region (RL_q rfl (Yd_move rfl) (RL_q rfl (Yd_add rfl rfl (i64w (by omega) (by omega))) (RL_q rfl (Yd_assign rfl) (RL_nil (?_)))))))))))))))))))))))))))
                refine X_again (i + 1) ⟨rfl, rfl, trivial⟩ ?_ (by show 5 - (i + 1) < 5 - i; omega)
                refine ⟨?_, hL11⟩
                all_goals (try dsimp only)
                all_goals (omega)
        · skip
          try simp only [decide_eq_true_eq, decide_eq_false_iff_not, Bool.not_eq_true', Bool.not_eq_false', Decidable.not_not, Int.not_lt, Int.not_le, Bool.or_eq_true, Bool.and_eq_true, Bool.or_eq_false_iff, Bool.and_eq_false_iff] at hb66
          refine C_skip (X_then (C_seq (C_seq (C_region (RL_q rfl (Yd_move rfl) (RL_q rfl (Yd_move rfl) (RL_q rfl (Yd_neq rfl rfl) (RL_q rfl (Yd_move rfl) (?_)))))))))
          apply RL_or (dj := 70) 78 8 rfl
          · intro hb70
            try simp only [decide_eq_true_eq, decide_eq_false_iff_not, Bool.not_eq_true', Bool.not_eq_false', Decidable.not_not, Int.not_lt, Int.not_le, Bool.or_eq_true, Bool.and_eq_true, Bool.or_eq_false_iff, Bool.and_eq_false_iff] at hb70
            refine QL_gq rfl rfl rfl (Yd_move rfl) (QL_gq rfl rfl rfl (Yd_neq rfl rfl) (QL_gq rfl rfl rfl (Yd_move rfl) (?_)))
            apply QL_and (dj := 73) 77 4 rfl
            · intro hb73
              try simp only [decide_eq_true_eq, decide_eq_false_iff_not, Bool.not_eq_true', Bool.not_eq_false', Decidable.not_not, Int.not_lt, Int.not_le, Bool.or_eq_true, Bool.and_eq_true, Bool.or_eq_false_iff, Bool.and_eq_false_iff] at hb73
              refine QL_gq rfl rfl rfl (Yd_move rfl) (QL_gq rfl rfl rfl (Yd_len Try.underlying22 rfl) (QL_gq rfl rfl rfl (Yd_gtr rfl rfl) (QL_gq rfl rfl rfl (Yd_pickT rfl rfl) ((QL_nil 4 rfl rfl rfl)))))
            · intro hb73
              try simp only [decide_eq_true_eq, decide_eq_false_iff_not, Bool.not_eq_true', Bool.not_eq_false', Decidable.not_not, Int.not_lt, Int.not_le, Bool.or_eq_true, Bool.and_eq_true, Bool.or_eq_false_iff, Bool.and_eq_false_iff] at hb73
              refine QL_gn rfl rfl rfl rfl (QL_gn rfl rfl rfl rfl (QL_gn rfl rfl rfl rfl (QL_gq rfl rfl rfl (Yd_pickF rfl rfl) ((QL_nil 4 rfl rfl rfl)))))
            · skip
              refine QL_q rfl (Yd_pickF rfl rfl) ((QL_nil 5 rfl rfl rfl))
          · intro hb70
            try simp only [decide_eq_true_eq, decide_eq_false_iff_not, Bool.not_eq_true', Bool.not_eq_false', Decidable.not_not, Int.not_lt, Int.not_le, Bool.or_eq_true, Bool.and_eq_true, Bool.or_eq_false_iff, Bool.and_eq_false_iff] at hb70
            refine QL_gn rfl rfl rfl rfl (QL_gn rfl rfl rfl rfl (QL_gn rfl rfl rfl rfl (QL_gu rfl rfl rfl (QL_gu rfl rfl rfl (QL_gu rfl rfl rfl (QL_gn rfl rfl rfl rfl (QL_q rfl (Yd_pickT rfl rfl) ((QL_nil 8 rfl rfl rfl)))))))))
          · skip
            refine RL_nil (X_then (?_))
            refine C_cond rfl (fun hb78 => ?_) (fun hb78 => ?_)
            · skip
              try simp only [decide_eq_true_eq, decide_eq_false_iff_not, Bool.not_eq_true', Bool.not_eq_false', Decidable.not_not, Int.not_lt, Int.not_le, Bool.or_eq_true, Bool.and_eq_true, Bool.or_eq_false_iff, Bool.and_eq_false_iff] at hb78
              refine C_seq (C_region (RL_q rfl (Yd_assign rfl) (RL_nil (X_then (C_ret (X_thenR (X_blockR (X_thenR (X_thenR (X_blockR (X_thenR (X_ret1 rfl rfl ?_))))))))))))
              refine ⟨_, rfl, ?_, hE⟩
              all_goals (first | rfl | ((rcases hT with ⟨a1, a2, a3, a4, a5⟩ | ⟨a1, a2, a3, a4, a5⟩ | ⟨a1, a2, a3, a4, a5⟩) <;> first | omega | (rw [a2] at hb60; cases hb60; done) | (exact absurd (a4.trans (congrArg (fun k => List.take k lx1) (show lx1.length - 4 = ((x1.n : Int) - 4).toNat by omega))) hb97)))
            · skip
              try simp only [decide_eq_true_eq, decide_eq_false_iff_not, Bool.not_eq_true', Bool.not_eq_false', Decidable.not_not, Int.not_lt, Int.not_le, Bool.or_eq_true, Bool.and_eq_true, Bool.or_eq_false_iff, Bool.and_eq_false_iff] at hb78
              refine C_skip (X_then (C_seq (?_)))
              refine C_regionD (NoB) (l := [(0, true), (1, true), (2, true), (3, true), (4, true), (5, true), (6, true), (7, true), (8, true), (9, true), (10, true), (11, true), (12, true), (13, true), (14, true), (15, true), (16, true), (17, true), (18, true)]) (by kernel_rfl) (by kernel_rfl) rfl (by kernel_rfl) (fun _ _ d _ _ h => by cases d <;> exact h) ?_
              intro W14 he14 hh14
              replace hE := Ext.trans hE he14
              replace h_b := h_b.ext he14
              replace hF17 := hF17.ext he14
              replace hF18 := hF18.ext he14
              replace hF24 := hF24.ext he14
              replace hO32 := hO32.ext he14
              replace hO33 := hO33.ext he14
              replace hF35 := hF35.ext he14
              replace hO42 := hO42.ext he14
              try replace hV42 := hV42.ext he14
              replace hL11 := Ext.trans hL11 he14
              replace hvx1 := hvx1.ext he14
              replace hF52_0 := hF52_0.ext he14
              have hs14 := he14.size
              refine RO_q rfl rfl (Yd_move rfl) (RO_q rfl rfl (Yd_eql rfl rfl) (RO_q rfl rfl (Yd_move rfl) (?_)))
              refine RO_case (d := 81) rfl (fun hb81 => ?_) (fun hb81 => ?_)
              · skip
                try simp only [decide_eq_true_eq, decide_eq_false_iff_not, Bool.not_eq_true', Bool.not_eq_false', Decidable.not_not, Int.not_lt, Int.not_le, Bool.or_eq_true, Bool.and_eq_true, Bool.or_eq_false_iff, Bool.and_eq_false_iff] at hb81
                refine RO_gq rfl rfl rfl rfl (Yd_move rfl) (RO_gq rfl rfl rfl rfl (Yd_str Try.underlying22 Try.underlying5 Try.underlying9 rfl (fun W hW => Rd.ext (hF52_0.vw).u8 hW.ext)) (RO_gq rfl rfl rfl rfl (Yd_move rfl) (RO_gq rfl rfl rfl rfl (Yd_move rfl) (RO_gq rfl rfl rfl rfl (Yd_idxL Try.underlying37 (sz := 1) (by kernel_rfl) rfl rfl (by omega) (by omega)) (RO_gq rfl rfl rfl rfl (Yd_load (v := .slice x1.A x1.n x1.c) Try.underlying22 rfl rfl (fun W hW => (Vw.lq1L hO42.vw hx1 rfl rfl) W hW.ext)) (RO_gq rfl rfl rfl rfl (Yd_move rfl) (RO_gq rfl rfl rfl rfl (Yd_move rfl) (RO_gq rfl rfl rfl rfl (Yd_idxL Try.underlying37 (sz := 1) (by kernel_rfl) rfl rfl (by omega) (by omega)) (RO_gq rfl rfl rfl rfl (Yd_load (v := .slice x1.A x1.n x1.c) Try.underlying22 rfl rfl (fun W hW => (Vw.lq1L hO42.vw hx1 rfl rfl) W hW.ext)) (RO_gq rfl rfl rfl rfl (Yd_len Try.underlying22 rfl) (RO_gq rfl rfl rfl rfl (Yd_sub rfl rfl (i64w (by omega) (by omega))) (RO_gq rfl rfl rfl rfl (Yd_sliceH Try.underlying22 (sz := 1) (by kernel_rfl) rfl rfl (by omega) (by omega)) (RO_gq rfl rfl rfl rfl (Yd_str Try.underlying22 Try.underlying5 Try.underlying9 rfl (fun W hW => Rd.ext ((Vw.take hvx1 (by omega))).u8 hW.ext)) (RO_gq rfl rfl rfl rfl (Yd_neqSB rfl rfl hF52_0.byt (Vw.take hvx1 (by omega)).byt) (RO_q rfl rfl (Yd_pickT rfl rfl) (RO_nil (X_then (?_))))))))))))))))))
                refine C_cond rfl (fun hb97 => ?_) (fun hb97 => ?_)
                · skip
                  try simp only [decide_eq_true_eq, decide_eq_false_iff_not, Bool.not_eq_true', Bool.not_eq_false', Decidable.not_not, Int.not_lt, Int.not_le, Bool.or_eq_true, Bool.and_eq_true, Bool.or_eq_false_iff, Bool.and_eq_false_iff] at hb97
                  refine C_seq (C_region (RL_q rfl (Yd_assign rfl) (RL_nil (X_then (C_ret (X_blockR (X_thenR (X_thenR (X_blockR (X_thenR (X_ret1 rfl rfl ?_)))))))))))
                  refine ⟨_, rfl, ?_, hE⟩
                  all_goals (first | rfl | ((rcases hT with ⟨a1, a2, a3, a4, a5⟩ | ⟨a1, a2, a3, a4, a5⟩ | ⟨a1, a2, a3, a4, a5⟩) <;> first | omega | (rw [a2] at hb60; cases hb60; done) | (exact absurd (a4.trans (congrArg (fun k => List.take k lx1) (show lx1.length - 4 = ((x1.n : Int) - 4).toNat by omega))) hb97)))
                · skip
                  try simp only [decide_eq_true_eq, decide_eq_false_iff_not, Bool.not_eq_true', Bool.not_eq_false', Decidable.not_not, Int.not_lt, Int.not_le, Bool.or_eq_true, Bool.and_eq_true, Bool.or_eq_false_iff, Bool.and_eq_false_iff] at hb97
                  refine C_skip (X_block (X_then (C_region (RL_q rfl (Yd_move rfl) (RL_q rfl (Yd_add rfl rfl (i64w (by omega) (by omega))) (RL_q rfl (Yd_assign rfl) (RL_nil (?_))))))))
                  refine X_again (i + 1) ⟨rfl, rfl, trivial⟩ ?_ (by show 5 - (i + 1) < 5 - i; omega)
                  refine ⟨?_, hL11⟩
                  all_goals (try dsimp only)
                  all_goals (omega)
              · skip
                try simp only [decide_eq_true_eq, decide_eq_false_iff_not, Bool.not_eq_true', Bool.not_eq_false', Decidable.not_not, Int.not_lt, Int.not_le, Bool.or_eq_true, Bool.and_eq_true, Bool.or_eq_false_iff, Bool.and_eq_false_iff] at hb81
                refine RO_gn rfl rfl rfl rfl rfl (RO_gn rfl rfl rfl rfl rfl (RO_gn rfl rfl rfl rfl rfl (RO_gn rfl rfl rfl rfl rfl (RO_gn rfl rfl rfl rfl rfl (RO_gn rfl rfl rfl rfl rfl (RO_gn rfl rfl rfl rfl rfl (RO_gn rfl rfl rfl rfl rfl (RO_gn rfl rfl rfl rfl rfl (RO_gn rfl rfl rfl rfl rfl (RO_gn rfl rfl rfl rfl rfl (RO_gn rfl rfl rfl rfl rfl (RO_gn rfl rfl rfl rfl rfl (RO_gn rfl rfl rfl rfl rfl (RO_gn rfl rfl rfl rfl rfl (RO_q rfl rfl (Yd_pickF rfl rfl) (RO_nil (X_then (C_no rfl rfl (C_skip (X_block (X_then (C_region (RL_q rfl (Yd_move rfl) (RL_q rfl (Yd_add rfl rfl (i64w (by omega) (by omega))) (RL_q rfl (Yd_assign rfl) (RL_nil (?_)))))))))))))))))))))))))))
                refine X_again (i + 1) ⟨rfl, rfl, trivial⟩ ?_ (by show 5 - (i + 1) < 5 - i; omega)
                refine ⟨?_, hL11⟩
                all_goals (try dsimp only)
                all_goals (omega)
      · skip
        try simp only [decide_eq_true_eq, decide_eq_false_iff_not, Bool.not_eq_true', Bool.not_eq_false', Decidable.not_not, Int.not_lt, Int.not_le, Bool.or_eq_true, Bool.and_eq_true, Bool.or_eq_false_iff, Bool.and_eq_false_iff] at hb60
        refine C_skip (X_then (C_seq (C_seq (C_region (RL_q rfl (Yd_move rfl) (RL_q rfl (Yd_move rfl) (RL_q rfl (Yd_idxL Try.underlying37 (sz := 1) (by kernel_rfl) rfl rfl (by omega) (by omega)) (RL_q rfl (Yd_load (v := .slice x1.A x1.n x1.c) Try.underlying22 rfl rfl (Vw.lq1L hO42.vw hx1 rfl rfl)) (RL_q rfl (Yd_len Try.underlying22 rfl) (RL_q rfl (Yd_lss rfl rfl) (RL_nil (X_then (?_)))))))))))))
        refine C_cond rfl (fun hb66 => ?_) (fun hb66 => ?_)
        · skip
          try simp only [decide_eq_true_eq, decide_eq_false_iff_not, Bool.not_eq_true', Bool.not_eq_false', Decidable.not_not, Int.not_lt, Int.not_le, Bool.or_eq_true, Bool.and_eq_true, Bool.or_eq_false_iff, Bool.and_eq_false_iff] at hb66
          refine C_region (RL_q rfl (Yd_assign rfl) (RL_nil (X_then (C_seq (C_seq (C_region (RL_q rfl (Yd_move rfl) (RL_q rfl (Yd_move rfl) (RL_q rfl (Yd_neq rfl rfl) (RL_q rfl (Yd_move rfl) (?_)))))))))))
          apply RL_or (dj := 70) 78 8 rfl
          · intro hb70
            try simp only [decide_eq_true_eq, decide_eq_false_iff_not, Bool.not_eq_true', Bool.not_eq_false', Decidable.not_not, Int.not_lt, Int.not_le, Bool.or_eq_true, Bool.and_eq_true, Bool.or_eq_false_iff, Bool.and_eq_false_iff] at hb70
            refine QL_gq rfl rfl rfl (Yd_move rfl) (QL_gq rfl rfl rfl (Yd_neq rfl rfl) (QL_gq rfl rfl rfl (Yd_move rfl) (?_)))
            apply QL_and (dj := 73) 77 4 rfl
            · intro hb73
              try simp only [decide_eq_true_eq, decide_eq_false_iff_not, Bool.not_eq_true', Bool.not_eq_false', Decidable.not_not, Int.not_lt, Int.not_le, Bool.or_eq_true, Bool.and_eq_true, Bool.or_eq_false_iff, Bool.and_eq_false_iff] at hb73
              refine QL_gq rfl rfl rfl (Yd_move rfl) (QL_gq rfl rfl rfl (Yd_len Try.underlying22 rfl) (QL_gq rfl rfl rfl (Yd_gtr rfl rfl) (QL_gq rfl rfl rfl (Yd_pickT rfl rfl) ((QL_nil 4 rfl rfl rfl)))))
            · intro hb73
              try simp only [decide_eq_true_eq, decide_eq_false_iff_not, Bool.not_eq_true', Bool.not_eq_false', Decidable.not_not, Int.not_lt, Int.not_le, Bool.or_eq_true, Bool.and_eq_true, Bool.or_eq_false_iff, Bool.and_eq_false_iff] at hb73
              refine QL_gn rfl rfl rfl rfl (QL_gn rfl rfl rfl rfl (QL_gn rfl rfl rfl rfl (QL_gq rfl rfl rfl (Yd_pickF rfl rfl) ((QL_nil 4 rfl rfl rfl)))))
            · skip
              refine QL_q rfl (Yd_pickF rfl rfl) ((QL_nil 5 rfl rfl rfl))
          · intro hb70
            try simp only [decide_eq_true_eq, decide_eq_false_iff_not, Bool.not_eq_true', Bool.not_eq_false', Decidable.not_not, Int.not_lt, Int.not_le, Bool.or_eq_true, Bool.and_eq_true, Bool.or_eq_false_iff, Bool.and_eq_false_iff] at hb70
            refine QL_gn rfl rfl rfl rfl (QL_gn rfl rfl rfl rfl (QL_gn rfl rfl rfl rfl (QL_gu rfl rfl rfl (QL_gu rfl rfl rfl (QL_gu rfl rfl rfl (QL_gn rfl rfl rfl rfl (QL_q rfl (Yd_pickT rfl rfl) ((QL_nil 8 rfl rfl rfl)))))))))
          · skip
            refine RL_nil (X_then (?_))
            refine C_cond rfl (fun hb78 => ?_) (fun hb78 => ?_)
            · skip
              try simp only [decide_eq_true_eq, decide_eq_false_iff_not, Bool.not_eq_true', Bool.not_eq_false', Decidable.not_not, Int.not_lt, Int.not_le, Bool.or_eq_true, Bool.and_eq_true, Bool.or_eq_false_iff, Bool.and_eq_false_iff] at hb78
              refine C_seq (C_region (RL_q rfl (Yd_assign rfl) (RL_nil (X_then (C_ret (X_thenR (X_blockR (X_thenR (X_thenR (X_blockR (X_thenR (X_ret1 rfl rfl ?_))))))))))))
              refine ⟨_, rfl, ?_, hE⟩
              all_goals (first | rfl | ((rcases hT with ⟨a1, a2, a3, a4, a5⟩ | ⟨a1, a2, a3, a4, a5⟩ | ⟨a1, a2, a3, a4, a5⟩) <;> first | omega | (rw [a2] at hb60; cases hb60; done) | (exact absurd (a4.trans (congrArg (fun k => List.take k lx1) (show lx1.length - 4 = ((x1.n : Int) - 4).toNat by omega))) hb97)))
            · skip
              try simp only [decide_eq_true_eq, decide_eq_false_iff_not, Bool.not_eq_true', Bool.not_eq_false', Decidable.not_not, Int.not_lt, Int.not_le, Bool.or_eq_true, Bool.and_eq_true, Bool.or_eq_false_iff, Bool.and_eq_false_iff] at hb78
              refine C_skip (X_then (C_seq (?_)))
              refine C_regionD (NoB) (l := [(0, true), (1, true), (2, true), (3, true), (4, true), (5, true), (6, true), (7, true), (8, true), (9, true), (10, true), (11, true), (12, true), (13, true), (14, true), (15, true), (16, true), (17, true), (18, true)]) (by kernel_rfl) (by kernel_rfl) rfl (by kernel_rfl) (fun _ _ d _ _ h => by cases d <;> exact h) ?_
              intro W14 he14 hh14
              replace hE := Ext.trans hE he14
              replace h_b := h_b.ext he14
              replace hF17 := hF17.ext he14
              replace hF18 := hF18.ext he14
              replace hF24 := hF24.ext he14
              replace hO32 := hO32.ext he14
              replace hO33 := hO33.ext he14
              replace hF35 := hF35.ext he14
              replace hO42 := hO42.ext he14
              try replace hV42 := hV42.ext he14
              replace hL11 := Ext.trans hL11 he14
              replace hvx1 := hvx1.ext he14
              replace hF52_0 := hF52_0.ext he14
              have hs14 := he14.size
              refine RO_q rfl rfl (Yd_move rfl) (RO_q rfl rfl (Yd_eql rfl rfl) (RO_q rfl rfl (Yd_move rfl) (?_)))
              refine RO_case (d := 81) rfl (fun hb81 => ?_) (fun hb81 => ?_)
              · skip
                try simp only [decide_eq_true_eq, decide_eq_false_iff_not, Bool.not_eq_true', Bool.not_eq_false', Decidable.not_not, Int.not_lt, Int.not_le, Bool.or_eq_true, Bool.and_eq_true, Bool.or_eq_false_iff, Bool.and_eq_false_iff] at hb81
                refine RO_gq rfl rfl rfl rfl (Yd_move rfl) (RO_gq rfl rfl rfl rfl (Yd_str Try.underlying22 Try.underlying5 Try.underlying9 rfl (fun W hW => Rd.ext (hF52_0.vw).u8 hW.ext)) (RO_gq rfl rfl rfl rfl (Yd_move rfl) (RO_gq rfl rfl rfl rfl (Yd_move rfl) (RO_gq rfl rfl rfl rfl (Yd_idxL Try.underlying37 (sz := 1) (by kernel_rfl) rfl rfl (by omega) (by omega)) (RO_gq rfl rfl rfl rfl (Yd_load (v := .slice x1.A x1.n x1.c) Try.underlying22 rfl rfl (fun W hW => (Vw.lq1L hO42.vw hx1 rfl rfl) W hW.ext)) (RO_gq rfl rfl rfl rfl (Yd_move rfl) (RO_gq rfl rfl rfl rfl (Yd_move rfl) (RO_gq rfl rfl rfl rfl (Yd_idxL Try.underlying37 (sz := 1) (by kernel_rfl) rfl rfl (by omega) (by omega)) (RO_gq rfl rfl rfl rfl (Yd_load (v := .slice x1.A x1.n x1.c) Try.underlying22 rfl rfl (fun W hW => (Vw.lq1L hO42.vw hx1 rfl rfl) W hW.ext)) (RO_gq rfl rfl rfl rfl (Yd_len Try.underlying22 rfl) (RO_gq rfl rfl rfl rfl (Yd_sub rfl rfl (i64w (by omega) (by omega))) (RO_gq rfl rfl rfl rfl (Yd_sliceH Try.underlying22 (sz := 1) (by kernel_rfl) rfl rfl (by omega) (by omega)) (RO_gq rfl rfl rfl rfl (Yd_str Try.underlying22 Try.underlying5 Try.underlying9 rfl (fun W hW => Rd.ext ((Vw.take hvx1 (by omega))).u8 hW.ext)) (RO_gq rfl rfl rfl rfl (Yd_neqSB rfl rfl hF52_0.byt (Vw.take hvx1 (by omega)).byt) (RO_q rfl rfl (Yd_pickT rfl rfl) (RO_nil (X_then (?_))))))))))))))))))
                refine C_cond rfl (fun hb97 => ?_) (fun hb97 => ?_)
                · skip
                  try simp only [decide_eq_true_eq, decide_eq_false_iff_not, Bool.not_eq_true', Bool.not_eq_false', Decidable.not_not, Int.not_lt, Int.not_le, Bool.or_eq_true, Bool.and_eq_true, Bool.or_eq_false_iff, Bool.and_eq_false_iff] at hb97
                  refine C_seq (C_region (RL_q rfl (Yd_assign rfl) (RL_nil (X_then (C_ret (X_blockR (X_thenR (X_thenR (X_blockR (X_thenR (X_ret1 rfl rfl ?_)))))))))))
                  refine ⟨_, rfl, ?_, hE⟩
                  all_goals (first | rfl | ((rcases hT with ⟨a1, a2, a3, a4, a5⟩ | ⟨a1, a2, a3, a4, a5⟩ | ⟨a1, a2, a3, a4, a5⟩) <;> first | omega | (rw [a2] at hb60; cases hb60; done) | (exact absurd (a4.trans (congrArg (fun k => List.take k lx1) (show lx1.length - 4 = ((x1.n : Int) - 4).toNat by omega))) hb97)))
                · skip
                  try simp only [decide_eq_true_eq, decide_eq_false_iff_not, Bool.not_eq_true', Bool.not_eq_false', Decidable.not_not, Int.not_lt, Int.not_le, Bool.or_eq_true, Bool.and_eq_true, Bool.or_eq_false_iff, Bool.and_eq_false_iff] at hb97
                  refine C_skip (X_block (X_then (C_region (RL_q rfl (Yd_move rfl) (RL_q rfl (Yd_add rfl rfl (i64w (by omega) (by omega))) (RL_q rfl (Yd_assign rfl) (RL_nil (?_))))))))
                  refine X_again (i + 1) ⟨rfl, rfl, trivial⟩ ?_ (by show 5 - (i + 1) < 5 - i; omega)
                  refine ⟨?_, hL11⟩
                  all_goals (try dsimp only)
                  all_goals (omega)
              · skip
                try simp only [decide_eq_true_eq, decide_eq_false_iff_not, Bool.not_eq_true', Bool.not_eq_false', Decidable.not_not, Int.not_lt, Int.not_le, Bool.or_eq_true, Bool.and_eq_true, Bool.or_eq_false_iff, Bool.and_eq_false_iff] at hb81
                refine RO_gn rfl rfl rfl rfl rfl (RO_gn rfl rfl rfl rfl rfl (RO_gn rfl rfl rfl rfl rfl (RO_gn rfl rfl rfl rfl rfl (RO_gn rfl rfl rfl rfl rfl (RO_gn rfl rfl rfl rfl rfl (RO_gn rfl rfl rfl rfl rfl (RO_gn rfl rfl rfl rfl rfl (RO_gn rfl rfl rfl rfl rfl (RO_gn rfl rfl rfl rfl rfl (RO_gn rfl rfl rfl rfl rfl (RO_gn rfl rfl rfl rfl rfl (RO_gn rfl rfl rfl rfl rfl (RO_gn rfl rfl rfl rfl rfl (RO_gn rfl rfl rfl rfl rfl (RO_q rfl rfl (Yd_pickF rfl rfl) (RO_nil (X_then (C_no rfl rfl (C_skip (X_block (X_then (C_region (RL_q rfl (Yd_move rfl) (RL_q rfl (Yd_add rfl rfl (i64w (by omega) (by omega))) (RL_q rfl (Yd_assign rfl) (RL_nil (?_)))))))))))))))))))))))))))
                refine X_again (i + 1) ⟨rfl, rfl, trivial⟩ ?_ (by show 5 - (i + 1) < 5 - i; omega)
                refine ⟨?_, hL11⟩
                all_goals (try dsimp only)
                all_goals (omega)
        · skip
          try simp only [decide_eq_true_eq, decide_eq_false_iff_not, Bool.not_eq_true', Bool.not_eq_false', Decidable.not_not, Int.not_lt, Int.not_le, Bool.or_eq_true, Bool.and_eq_true, Bool.or_eq_false_iff, Bool.and_eq_false_iff] at hb66
          refine C_skip (X_then (C_seq (C_seq (C_region (RL_q rfl (Yd_move rfl) (RL_q rfl (Yd_move rfl) (RL_q rfl (Yd_neq rfl rfl) (RL_q rfl (Yd_move rfl) (?_)))))))))
          apply RL_or (dj := 70) 78 8 rfl
          · intro hb70
            try simp only [decide_eq_true_eq, decide_eq_false_iff_not, Bool.not_eq_true', Bool.not_eq_false', Decidable.not_not, Int.not_lt, Int.not_le, Bool.or_eq_true, Bool.and_eq_true, Bool.or_eq_false_iff, Bool.and_eq_false_iff] at hb70
            refine QL_gq rfl rfl rfl (Yd_move rfl) (QL_gq rfl rfl rfl (Yd_neq rfl rfl) (QL_gq rfl rfl rfl (Yd_move rfl) (?_)))
            apply QL_and (dj := 73) 77 4 rfl
            · intro hb73
              try simp only [decide_eq_true_eq, decide_eq_false_iff_not, Bool.not_eq_true', Bool.not_eq_false', Decidable.not_not, Int.not_lt, Int.not_le, Bool.or_eq_true, Bool.and_eq_true, Bool.or_eq_false_iff, Bool.and_eq_false_iff] at hb73
              refine QL_gq rfl rfl rfl (Yd_move rfl) (QL_gq rfl rfl rfl (Yd_len Try.underlying22 rfl) (QL_gq rfl rfl rfl (Yd_gtr rfl rfl) (QL_gq rfl rfl rfl (Yd_pickT rfl rfl) ((QL_nil 4 rfl rfl rfl)))))
            · intro hb73
              try simp only [decide_eq_true_eq, decide_eq_false_iff_not, Bool.not_eq_true', Bool.not_eq_false', Decidable.not_not, Int.not_lt, Int.not_le, Bool.or_eq_true, Bool.and_eq_true, Bool.or_eq_false_iff, Bool.and_eq_false_iff] at hb73
              refine QL_gn rfl rfl rfl rfl (QL_gn rfl rfl rfl rfl (QL_gn rfl rfl rfl rfl (QL_gq rfl rfl rfl (Yd_pickF rfl rfl) ((QL_nil 4 rfl rfl rfl)))))
            · skip
              refine QL_q rfl (Yd_pickF rfl rfl) ((QL_nil 5 rfl rfl rfl))
          · intro hb70
            try simp only [decide_eq_true_eq, decide_eq_false_iff_not, Bool.not_eq_true', Bool.not_eq_false', Decidable.not_not, Int.not_lt, Int.not_le, Bool.or_eq_true, Bool.and_eq_true, Bool.or_eq_false_iff, Bool.and_eq_false_iff] at hb70
            refine QL_gn rfl rfl rfl rfl (QL_gn rfl rfl rfl rfl (QL_gn rfl rfl rfl rfl (QL_gu rfl rfl rfl (QL_gu rfl rfl rfl (QL_gu rfl rfl rfl (QL_gn rfl rfl rfl rfl (QL_q rfl (Yd_pickT rfl rfl) ((QL_nil 8 rfl rfl rfl)))))))))
          · skip
            refine RL_nil (X_then (?_))
            refine C_cond rfl (fun hb78 => ?_) (fun hb78 => ?_)
            · skip
              try simp only [decide_eq_true_eq, decide_eq_false_iff_not, Bool.not_eq_true', Bool.not_eq_false', Decidable.not_not, Int.not_lt, Int.not_le, Bool.or_eq_true, Bool.and_eq_true, Bool.or_eq_false_iff, Bool.and_eq_false_iff] at hb78
              refine C_seq (C_region (RL_q rfl (Yd_assign rfl) (RL_nil (X_then (C_ret (X_thenR (X_blockR (X_thenR (X_thenR (X_blockR (X_thenR (X_ret1 rfl rfl ?_))))))))))))
              refine ⟨_, rfl, ?_, hE⟩
              all_goals (first | rfl | ((rcases hT with ⟨a1, a2, a3, a4, a5⟩ | ⟨a1, a2, a3, a4, a5⟩ | ⟨a1, a2, a3, a4, a5⟩) <;> first | omega | (rw [a2] at hb60; cases hb60; done) | (exact absurd (a4.trans (congrArg (fun k => List.take k lx1) (show lx1.length - 4 = ((x1.n : Int) - 4).toNat by omega))) hb97)))
            · skip
              try simp only [decide_eq_true_eq, decide_eq_false_iff_not, Bool.not_eq_true', Bool.not_eq_false', Decidable.not_not, Int.not_lt, Int.not_le, Bool.or_eq_true, Bool.and_eq_true, Bool.or_eq_false_iff, Bool.and_eq_false_iff] at hb78
              refine C_skip (X_then (C_seq (?_)))
              refine C_regionD (NoB) (l := [(0, true), (1, true), (2, true), (3, true), (4, true), (5, true), (6, true), (7, true), (8, true), (9, true), (10, true), (11, true), (12, true), (13, true), (14, true), (15, true), (16, true), (17, true), (18, true)]) (by kernel_rfl) (by kernel_rfl) rfl (by kernel_rfl) (fun _ _ d _ _ h => by cases d <;> exact h) ?_
              intro W14 he14 hh14
              replace hE := Ext.trans hE he14
              replace h_b := h_b.ext he14
              replace hF17 := hF17.ext he14
              replace hF18 := hF18.ext he14
              replace hF24 := hF24.ext he14
              replace hO32 := hO32.ext he14
              replace hO33 := hO33.ext he14
              replace hF35 := hF35.ext he14
              replace hO42 := hO42.ext he14
              try replace hV42 := hV42.ext he14
              replace hL11 := Ext.trans hL11 he14
              replace hvx1 := hvx1.ext he14
              replace hF52_0 := hF52_0.ext he14
              have hs14 := he14.size
              refine RO_q rfl rfl (Yd_move rfl) (RO_q rfl rfl (Yd_eql rfl rfl) (RO_q rfl rfl (Yd_move rfl) (?_)))
              refine RO_case (d := 81) rfl (fun hb81 => ?_) (fun hb81 => ?_)
              · skip
                try simp only [decide_eq_true_eq, decide_eq_false_iff_not, Bool.not_eq_true', Bool.not_eq_false', Decidable.not_not, Int.not_lt, Int.not_le, Bool.or_eq_true, Bool.and_eq_true, Bool.or_eq_false_iff, Bool.and_eq_false_iff] at hb81
                refine RO_gq rfl rfl rfl rfl (Yd_move rfl) (RO_gq rfl rfl rfl rfl (Yd_str Try.underlying22 Try.underlying5 Try.underlying9 rfl (fun W hW => Rd.ext (hF52_0.vw).u8 hW.ext)) (RO_gq rfl rfl rfl rfl (Yd_move rfl) (RO_gq rfl rfl rfl rfl (Yd_move rfl) (RO_gq rfl rfl rfl rfl (Yd_idxL Try.underlying37 (sz := 1) (by kernel_rfl) rfl rfl (by omega) (by omega)) (RO_gq rfl rfl rfl rfl (Yd_load (v := .slice x1.A x1.n x1.c) Try.underlying22 rfl rfl (fun W hW => (Vw.lq1L hO42.vw hx1 rfl rfl) W hW.ext)) (RO_gq rfl rfl rfl rfl (Yd_move rfl) (RO_gq rfl rfl rfl rfl (Yd_move rfl) (RO_gq rfl rfl rfl rfl (Yd_idxL Try.underlying37 (sz := 1) (by kernel_rfl) rfl rfl (by omega) (by omega)) (RO_gq rfl rfl rfl rfl (Yd_load (v := .slice x1.A x1.n x1.c) Try.underlying22 rfl rfl (fun W hW => (Vw.lq1L hO42.vw hx1 rfl rfl) W hW.ext)) (RO_gq rfl rfl rfl rfl (Yd_len Try.underlying22 rfl) (RO_gq rfl rfl rfl rfl (Yd_sub rfl rfl (i64w (by omega) (by omega))) (RO_gq rfl rfl rfl rfl (Yd_sliceH Try.underlying22 (sz := 1) (by kernel_rfl) rfl rfl (by omega) (by omega)) (RO_gq rfl rfl rfl rfl (Yd_str Try.underlying22 Try.underlying5 Try.underlying9 rfl (fun W hW => Rd.ext ((Vw.take hvx1 (by omega))).u8 hW.ext)) (RO_gq rfl rfl rfl rfl (Yd_neqSB rfl rfl hF52_0.byt (Vw.take hvx1 (by omega)).byt) (RO_q rfl rfl (Yd_pickT rfl rfl) (RO_nil (X_then (?_))))))))))))))))))
                refine C_cond rfl (fun hb97 => ?_) (fun hb97 => ?_)
                · skip
                  try simp only [decide_eq_true_eq, decide_eq_false_iff_not, Bool.not_eq_true', Bool.not_eq_false', Decidable.not_not, Int.not_lt, Int.not_le, Bool.or_eq_true, Bool.and_eq_true, Bool.or_eq_false_iff, Bool.and_eq_false_iff] at hb97
                  refine C_seq (C_region (RL_q rfl (Yd_assign rfl) (RL_nil (X_then (C_ret (X_blockR (X_thenR (X_thenR (X_blockR (X_thenR (X_ret1 rfl rfl ?_)))))))))))
                  refine ⟨_, rfl, ?_, hE⟩
                  all_goals (first | rfl | ((rcases hT with ⟨a1, a2, a3, a4, a5⟩ | ⟨a1, a2, a3, a4, a5⟩ | ⟨a1, a2, a3, a4, a5⟩) <;> first | omega | (rw [a2] at hb60; cases hb60; done) | (exact absurd (a4.trans (congrArg (fun k => List.take k lx1) (show lx1.length - 4 = ((x1.n : Int) - 4).toNat by omega))) hb97)))
                · skip
                  try simp only [decide_eq_true_eq, decide_eq_false_iff_not, Bool.not_eq_true', Bool.not_eq_false', Decidable.not_not, Int.not_lt, Int.not_le, Bool.or_eq_true, Bool.and_eq_true, Bool.or_eq_false_iff, Bool.and_eq_false_iff] at hb97
                  refine C_skip (X_block (X_then (C_region (RL_q rfl (Yd_move rfl) (RL_q rfl (Yd_add rfl rfl (i64w (by omega) (by omega))) (RL_q rfl (Yd_assign rfl) (RL_nil (?_))))))))
                  refine X_again (i + 1) ⟨rfl, rfl, trivial⟩ ?_ (by show 5 - (i + 1) < 5 - i; omega)
                  refine ⟨?_, hL11⟩
                  all_goals (try dsimp only)
                  all_goals (omega)
              · skip
                try simp only [decide_eq_true_eq, decide_eq_false_iff_not, Bool.not_eq_true', Bool.not_eq_false', Decidable.not_not, Int.not_lt, Int.not_le, Bool.or_eq_true, Bool.and_eq_true, Bool.or_eq_false_iff, Bool.and_eq_false_iff] at hb81
                refine RO_gn rfl rfl rfl rfl rfl (RO_gn rfl rfl rfl rfl rfl (RO_gn rfl rfl rfl rfl rfl (RO_gn rfl rfl rfl rfl rfl (RO_gn rfl rfl rfl rfl rfl (RO_gn rfl rfl rfl rfl rfl (RO_gn rfl rfl rfl rfl rfl (RO_gn rfl rfl rfl rfl rfl (RO_gn rfl rfl rfl rfl rfl (RO_gn rfl rfl rfl rfl rfl (RO_gn rfl rfl rfl rfl rfl (RO_gn rfl rfl rfl rfl rfl (RO_gn rfl rfl rfl rfl rfl (RO_gn rfl rfl rfl rfl rfl (RO_gn rfl rfl rfl rfl rfl (RO_q rfl rfl (Yd_pickF rfl rfl) (RO_nil (X_then (C_no rfl rfl (C_skip (X_block (X_then (C_region (RL_q rfl (Yd_move rfl) (RL_q rfl (Yd_add rfl rfl (i64w (by omega) (by omega))) (RL_q rfl (Yd_assign rfl) (RL_nil (?_)))))))))))))))))))))))))))
                refine X_again (i + 1) ⟨rfl, rfl, trivial⟩ ?_ (by show 5 - (i + 1) < 5 - i; omega)
                refine ⟨?_, hL11⟩
                all_goals (try dsimp only)
                all_goals (omega)
    · skip
      try simp only [decide_eq_true_eq, decide_eq_false_iff_not, Bool.not_eq_true', Bool.not_eq_false', Decidable.not_not, Int.not_lt, Int.not_le, Bool.or_eq_true, Bool.and_eq_true, Bool.or_eq_false_iff, Bool.and_eq_false_iff] at hb44
      refine C_exit (X_thenE (X_thenE (X_blockE (X_then (C_seq (C_region (RL_l rfl (Ld_call Try.func19 rfl (by kernel_rfl) rfl (lives02V ) ?_))))))))
      rintro e W12 ⟨_, rfl, rfl, he12⟩
      refine ⟨_, rfl, ?_⟩
      replace hE := Ext.trans hE he12
      replace h_b := h_b.ext he12
      replace hF17 := hF17.ext he12
      replace hF18 := hF18.ext he12
      replace hF24 := hF24.ext he12
      replace hO32 := hO32.ext he12
      replace hO33 := hO33.ext he12
      replace hF35 := hF35.ext he12
      replace hO42 := hO42.ext he12
      try replace hV42 := hV42.ext he12
      replace hL11 := Ext.trans hL11 he12
      have hs12 := he12.size
      refine RL_q rfl (Yd_assign rfl) (RL_nil (X_then (C_ret (X_ret1 rfl rfl ?_))))
      refine ⟨_, rfl, ?_, hE⟩
      all_goals (first | rfl | ((rcases hT with ⟨a1, a2, a3, a4, a5⟩ | ⟨a1, a2, a3, a4, a5⟩ | ⟨a1, a2, a3, a4, a5⟩) <;> first | omega | (rw [a2] at hb60; cases hb60; done) | (exact absurd (a4.trans (congrArg (fun k => List.take k lx1) (show lx1.length - 4 = ((x1.n : Int) - 4).toNat by omega))) hb97)))
end Go.Proofs.AL
