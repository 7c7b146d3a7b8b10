import Derived.Test.YtfckeecfppmepaaRqd
import Derived.Test.YtfckeecfppmepaaReq2
set_option linter.unusedVariables false
set_option linter.unusedSimpArgs false
namespace Go.Proofs.AL
open Go.RowKit
theorem lives18V  {w : World}   :
    Calls Try.prog 40 #[] w fun e w' => ∃ (x0 : Bool), e = .returned (.bool x0) ∧ x0 = (true) ∧ Ext w w' :=
  Calls.mono (lives18_c w) fun e w' ⟨h1, h2⟩ => ⟨_, h1, rfl, h2⟩
theorem AroundV {n : Int} {m : Int} {w : World}  (b_n : -9223372036854775808 ≤ n ∧ n ≤ 9223372036854775807) (b_m : 1 ≤ m ∧ m ≤ 9223372036854775807) :
    Calls Try.prog 14 #[.int .i64 n, .int .i64 m] w fun e w' => ∃ (x0 : Int), e = .returned (.int .i64 x0) ∧ x0 = (around n m) ∧ (0 ≤ x0 ∧ x0 < m) ∧ w = w' :=
  Calls.mono (Around_c n m w b_n.1 b_n.2 b_m.1 b_m.2) fun e w' ⟨h1, h2⟩ => ⟨_, h1, rfl, around_range n (m := m) (by omega), h2⟩
theorem ReqReadsV {lo_b B_b : Nat} {A_b : Option Addr} {n_b c_b : Nat} {b : List Int} {cs cl : Int} {rop rpg roff rn : Int} {lo_rd B_rd : Nat} {A_rd : Option Addr} {n_rd c_rd : Nat} {rd : List Int} {at_ : Int} {by_ : Int} {w : World}  (h_b : Vw tU8 w lo_b B_b A_b n_b c_b b) (b_c : (-9223372036854775808 ≤ cs ∧ cs ≤ 9223372036854775807) ∧ (-9223372036854775808 ≤ cl ∧ cl ≤ 9223372036854775807)) (h_rd : Vw tU8 w lo_rd B_rd A_rd n_rd c_rd rd) (b_r : (-9223372036854775808 ≤ rop ∧ rop ≤ 9223372036854775807) ∧ (-9223372036854775808 ≤ rpg ∧ rpg ≤ 9223372036854775807) ∧ (-9223372036854775808 ≤ roff ∧ roff ≤ 9223372036854775807) ∧ (-9223372036854775808 ≤ rn ∧ rn ≤ 9223372036854775807)) (b_at_ : -9223372036854775808 ≤ at_ ∧ at_ ≤ 9223372036854775807) (b_by_ : 0 ≤ by_ ∧ by_ ≤ 255) :
    Calls Try.prog 12 #[.slice A_b n_b c_b, .agg #[.int .i64 cs, .int .i64 cl], .agg #[.int .i64 rop, .int .i64 rpg, .int .i64 roff, .int .i64 rn, .slice A_rd n_rd c_rd], .int .i64 at_, .int .u8 by_] w fun e w' => ∃ (x0 : Bool), e = .returned (.bool x0) ∧ x0 = (true) ∧ Ext w w' := by
  have hE := Ext.refl w
  replace h_b := h_b.fit
  have hn_b := h_b.ln
  have hc_b := h_b.cap
  have hm_b := h_b.max
  simp only [maxLen] at hm_b
  replace h_rd := h_rd.fit
  have hn_rd := h_rd.ln
  have hc_rd := h_rd.cap
  have hm_rd := h_rd.max
  simp only [maxLen] at hm_rd
  refine calls_of (l := [.slice A_b n_b c_b, .agg #[.int .i64 cs, .int .i64 cl], .agg #[.int .i64 rop, .int .i64 rpg, .int .i64 roff, .int .i64 rn, .slice A_rd n_rd c_rd], .int .i64 at_, .int .u8 by_]) (N := 85) Try.func12 rfl rfl rfl ?_
  refine C_seq (C_region (RL_l rfl (Ld_box rfl ?_)))
  have hg_6 := hE.size
  intro W1 he1 hz1 hB6
  replace hE := Ext.trans hE he1
  replace h_b := h_b.ext he1
  replace h_rd := h_rd.ext he1
  refine RL_l rfl (Ld_box rfl ?_)
  have hg_7 := hE.size
  intro W2 he2 hz2 hB7
  replace hE := Ext.trans hE he2
  replace h_b := h_b.ext he2
  replace h_rd := h_rd.ext he2
  replace hB6 := hB6.ext he2
  refine RL_q rfl (Yd_assign rfl) (RL_nil (X_then (C_seq (?_))))
  refine C_regionD (NoB) (l := [(0, true), (1, true), (2, false), (3, false), (4, true)]) (by kernel_rfl) (by kernel_rfl) rfl (by kernel_rfl) (fun _ _ d _ _ h => by cases d <;> exact h) ?_
  intro W3 he3 hh3
  replace hE := Ext.trans hE he3
  replace h_b := h_b.ext he3
  replace h_rd := h_rd.ext he3
  replace hB6 := hB6.ext he3
  replace hB7 := hB7.ext he3
  have hs3 := he3.size
  refine RO_q rfl rfl (Yd_loadA Try.underlying65 rfl (by kernel_rfl) rfl (fun W hW => (ldBA hB6) W hW.ext)) (RO_q rfl rfl (Yd_loadA Try.underlying53 rfl (by kernel_rfl) rfl (fun W hW => (ldBA hB7) W hW.ext)) (RO_l rfl rfl (Ld_call Try.func36 rfl (by kernel_rfl) rfl (rFewV (rop := rop) (rpg := rpg) (roff := roff) (rn := rn) h_rd ⟨⟨by omega, by omega⟩, ⟨by omega, by omega⟩, ⟨by omega, by omega⟩, ⟨by omega, by omega⟩⟩) ?_)))
  rintro e W4 ⟨A23, n23, c23, rfl, hV23, he4⟩
  refine ⟨_, rfl, ?_⟩
  refine ⟨Kp.of_ext he4, ?_⟩
  replace hE := Ext.trans hE he4
  replace h_b := h_b.ext he4
  replace h_rd := h_rd.ext he4
  replace hB6 := hB6.ext he4
  replace hB7 := hB7.ext he4
  have hs4 := he4.size
  have hn23 := hV23.ln
  have hc23 := hV23.cap
  have hfl23 : n23 ≤ 34 := by have := few_le rd 34 (by omega); omega
  refine RO_l rfl rfl (Ld_call Try.func46 rfl (by kernel_rfl) rfl (rBytesV (cs := cs) (cl := cl) ⟨⟨by omega, by omega⟩, ⟨by omega, by omega⟩⟩ (rop := rop) (rpg := rpg) (roff := roff) (rn := rn) hV23 ⟨⟨by omega, by omega⟩, ⟨by omega, by omega⟩, ⟨by omega, by omega⟩, ⟨by omega, by omega⟩⟩ (by omega)) ?_)
  rintro e W5 ⟨A24, n24, c24, rfl, hF24, he5⟩
  refine ⟨_, rfl, ?_⟩
  refine ⟨Kp.of_ext he5, ?_⟩
  replace hE := Ext.trans hE he5
  replace h_b := h_b.ext he5
  replace h_rd := h_rd.ext he5
  replace hB6 := hB6.ext he5
  replace hB7 := hB7.ext he5
  try replace hV23 := hV23.ext he5
  have hs5 := he5.size
  have hn24 := hF24.ln
  try simp only [List.length_append, List.length_cons, List.length_nil, List.length_set, List.length_take, List.length_drop, List.length_replicate, List.length_map, Nat.zero_add, Nat.add_zero, le8s_len, le8_len, text_len, qL_len, rqB] at hn24
  have hc24 := hF24.cap
  refine RO_q rfl rfl (Yd_assign rfl) (RO_nil (X_then (C_seq (C_region (RL_q rfl (Yd_move rfl) (RL_q rfl (Yd_move rfl) (RL_q rfl (Yd_len Try.underlying24 rfl) (RL_l rfl (Ld_call Try.func14 rfl (by kernel_rfl) rfl (AroundV ⟨by first | omega | (dsimp only; omega), by first | omega | (dsimp only; omega)⟩ ⟨by first | omega | (dsimp only; omega), by first | omega | (dsimp only; omega)⟩) ?_)))))))))
  rintro e W6 ⟨y28, rfl, hy28, hra28, rfl⟩
  refine ⟨_, rfl, ?_⟩
  refine RL_q rfl (Yd_assign rfl) (RL_nil (X_then (C_seq (C_region (RL_q rfl (Yd_move rfl) (RL_l rfl (Ld_call Try.func17 rfl (by kernel_rfl) rfl (FewV hF24.vw ⟨by first | omega | (dsimp only; omega), by first | omega | (dsimp only; omega)⟩) ?_)))))))
  rintro e W7 ⟨A30, n30, c30, rfl, hF30, hle30, he7⟩
  refine ⟨_, rfl, ?_⟩
  replace hE := Ext.trans hE he7
  replace h_b := h_b.ext he7
  replace h_rd := h_rd.ext he7
  replace hB6 := hB6.ext he7
  replace hB7 := hB7.ext he7
  try replace hV23 := hV23.ext he7
  replace hF24 := hF24.ext he7
  have hs7 := he7.size
  have hn30 := hF30.ln
  try simp only [List.length_append, List.length_cons, List.length_nil, List.length_set, List.length_take, List.length_drop, List.length_replicate, List.length_map, Nat.zero_add, Nat.add_zero, le8s_len, le8_len, text_len, qL_len, rqB] at hn30
  have hc30 := hF30.cap
  try rw [hle30.2.2.1 (by omega)] at hF30 hn30
  refine RL_q rfl (Yd_assign rfl) (RL_nil (X_then (C_seq (C_region (RL_q rfl (Yd_move rfl) (RL_q rfl (Yd_move rfl) (RL_q rfl (Yd_move rfl) (?_))))))))
  obtain ⟨gA30, rfl, hglA30, hghA30⟩ := Ow.at_ (i := y28.toNat) hF30 (by omega)
  refine RL_q rfl (Yd_idxL Try.underlying24 (sz := 1) (by kernel_rfl) rfl rfl (by omega) (by omega)) (RL_l0 (Ld_putO (T := tU8) (a := by_) (by kernel_rfl) rfl rfl hF30 (i := y28.toNat) (by omega) rfl rfl (by omega) ⟨by omega, by omega⟩ ?_))
  intro W8 hF30' hu8
  have hk8 := Kp.ofb hu8
  have hs8 := hk8.size
  replace hE := Ext.kp hE hk8 (fun k hk => by first | omega | (have hk := hk; dsimp only at hk; omega))
  replace h_b := h_b.kp hk8 (fun k hk => by first | omega | (have hk := hk; dsimp only at hk; omega))
  replace h_rd := h_rd.kp hk8 (fun k hk => by first | omega | (have hk := hk; dsimp only at hk; omega))
  replace hB6 := hB6.kp hk8 (fun hk => by first | omega | (have hk := hk; dsimp only at hk; omega))
  replace hB7 := hB7.kp hk8 (fun hk => by first | omega | (have hk := hk; dsimp only at hk; omega))
  try replace hV23 := hV23.kp hk8 (fun k hk => by first | omega | (have hk := hk; dsimp only at hk; omega))
  replace hF24 := hF24.kp hk8 (fun k hk => by first | omega | (have hk := hk; dsimp only at hk; omega))
  replace hF30 := hF30'
  have hnhF30 := hF30.ln
  refine RL_nil (X_then (C_seq (C_region (RL_q rfl (Yd_move rfl) (RL_l rfl (Ld_call Try.func17 rfl (by kernel_rfl) rfl (FewV hF24.vw ⟨by first | omega | (dsimp only; omega), by first | omega | (dsimp only; omega)⟩) ?_))))))
  rintro e W9 ⟨A36, n36, c36, rfl, hF36, hle36, he9⟩
  refine ⟨_, rfl, ?_⟩
  replace hE := Ext.trans hE he9
  replace h_b := h_b.ext he9
  replace h_rd := h_rd.ext he9
  replace hB6 := hB6.ext he9
  replace hB7 := hB7.ext he9
  try replace hV23 := hV23.ext he9
  replace hF24 := hF24.ext he9
  replace hF30 := hF30.ext he9
  have hs9 := he9.size
  have hn36 := hF36.ln
  try simp only [List.length_append, List.length_cons, List.length_nil, List.length_set, List.length_take, List.length_drop, List.length_replicate, List.length_map, Nat.zero_add, Nat.add_zero, le8s_len, le8_len, text_len, qL_len, rqB] at hn36
  have hc36 := hF36.cap
  try rw [hle36.2.2.1 (by omega)] at hF36 hn36
  refine RL_q rfl (Yd_move rfl) (RL_l rfl (Ld_lit Try.underlying24 rfl (lit_flat Try.underlying24 Try.elt5 rfl rfl ⟨rfl, by decide⟩) ?_))
  intro W10 he10 hz10 hL38
  replace hE := Ext.trans hE he10
  replace h_b := h_b.ext he10
  replace h_rd := h_rd.ext he10
  replace hB6 := hB6.ext he10
  replace hB7 := hB7.ext he10
  try replace hV23 := hV23.ext he10
  replace hF24 := hF24.ext he10
  replace hF30 := hF30.ext he10
  replace hF36 := hF36.ext he10
  have hO38 := Ow.of_blk (T := tU8) (l := [by_]) hL38 rfl (n := 1) rfl (by simp [maxLen]) (okc ⟨by omega, by omega⟩ okn)
  clear hL38
  refine RL_l rfl (Ld_apO (T := tU8) Try.underlying24 Try.elt5 rfl rfl rfl hF36 hO38.vw (by simp only [maxLen]; omega) (by omega) (by omega) ?_)
  intro A39 c39 W11 hO39 hk11
  have hs11 := hk11.size
  replace hE := Ext.kp hE hk11 (fun k hk => by first | omega | (have hk := hk; dsimp only at hk; omega))
  replace h_b := h_b.kp hk11 (fun k hk => by first | omega | (have hk := hk; dsimp only at hk; omega))
  replace h_rd := h_rd.kp hk11 (fun k hk => by first | omega | (have hk := hk; dsimp only at hk; omega))
  replace hB6 := hB6.kp hk11 (fun hk => by first | omega | (have hk := hk; dsimp only at hk; omega))
  replace hB7 := hB7.kp hk11 (fun hk => by first | omega | (have hk := hk; dsimp only at hk; omega))
  try replace hV23 := hV23.kp hk11 (fun k hk => by first | omega | (have hk := hk; dsimp only at hk; omega))
  replace hF24 := hF24.kp hk11 (fun k hk => by first | omega | (have hk := hk; dsimp only at hk; omega))
  replace hF30 := hF30.kp hk11 (fun k hk => by first | omega | (have hk := hk; dsimp only at hk; omega))
  replace hO38 := hO38.kp hk11 (fun k hk => by first | omega | (have hk := hk; dsimp only at hk; omega))
  have hn39 := hO39.ln
  try simp only [List.length_append, List.length_cons, List.length_nil, List.length_set, List.length_take, List.length_drop, List.length_replicate, List.length_map, Nat.zero_add, Nat.add_zero, le8s_len, le8_len, text_len, qL_len, rqB] at hn39
  have hc39 := hO39.cap
  refine RL_q rfl (Yd_assign rfl) (RL_nil (X_then (C_seq (?_))))
  refine C_regionD (NoB) (l := [(0, true), (2, true), (3, true), (4, true), (5, true), (6, true), (7, true), (1, false), (8, false), (9, true)]) (by kernel_rfl) (by kernel_rfl) rfl (by kernel_rfl) (fun _ _ d _ _ h => by cases d <;> exact h) ?_
  intro W12 he12 hh12
  replace hE := Ext.trans hE he12
  replace h_b := h_b.ext he12
  replace h_rd := h_rd.ext he12
  replace hB6 := hB6.ext he12
  replace hB7 := hB7.ext he12
  try replace hV23 := hV23.ext he12
  replace hF24 := hF24.ext he12
  replace hF30 := hF30.ext he12
  replace hO38 := hO38.ext he12
  replace hO39 := hO39.ext he12
  have hs12 := he12.size
  refine RO_q rfl rfl (Yd_move rfl) (RO_q rfl rfl (Yd_move rfl) (RO_q rfl rfl (Yd_move rfl) (RO_q rfl rfl (Yd_move rfl) (RO_q rfl rfl (Yd_move rfl) (RO_q rfl rfl (Yd_sliceH Try.underlying24 (sz := 1) (by kernel_rfl) rfl rfl (by omega) (by omega)) (RO_q rfl rfl (Yd_move rfl) (RO_l rfl rfl (Ld_call Try.func17 rfl (by kernel_rfl) rfl (FewV h_b ⟨by first | omega | (dsimp only; omega), by first | omega | (dsimp only; omega)⟩) ?_))))))))
  rintro e W13 ⟨A41, n41, c41, rfl, hF41, hle41, he13⟩
  refine ⟨_, rfl, ?_⟩
  refine ⟨Kp.of_ext he13, ?_⟩
  replace hE := Ext.trans hE he13
  replace h_b := h_b.ext he13
  replace h_rd := h_rd.ext he13
  replace hB6 := hB6.ext he13
  replace hB7 := hB7.ext he13
  try replace hV23 := hV23.ext he13
  replace hF24 := hF24.ext he13
  replace hF30 := hF30.ext he13
  replace hO38 := hO38.ext he13
  replace hO39 := hO39.ext he13
  have hs13 := he13.size
  have hn41 := hF41.ln
  try simp only [List.length_append, List.length_cons, List.length_nil, List.length_set, List.length_take, List.length_drop, List.length_replicate, List.length_map, Nat.zero_add, Nat.add_zero, le8s_len, le8_len, text_len, qL_len, rqB] at hn41
  have hc41 := hF41.cap
  try rw [hle41.2.2.1 (by omega)] at hF41 hn41
  refine RO_l rfl rfl (Ld_lit Try.underlying49 rfl (lit_flat Try.underlying49 Try.elt24 rfl rfl ⟨rfl, by decide⟩) ?_)
  intro W14 he14 hz14 hL48
  refine ⟨Kp.of_ext he14, ?_⟩
  replace hE := Ext.trans hE he14
  replace h_b := h_b.ext he14
  replace h_rd := h_rd.ext he14
  replace hB6 := hB6.ext he14
  replace hB7 := hB7.ext he14
  try replace hV23 := hV23.ext he14
  replace hF24 := hF24.ext he14
  replace hF30 := hF30.ext he14
  replace hO38 := hO38.ext he14
  replace hO39 := hO39.ext he14
  replace hF41 := hF41.ext he14
  have hO48 := Ow.of_blk (T := tSl) (l := [⟨A41, n41, c41⟩, ⟨A24, n24, c24⟩, ⟨(some ⟨gA30, 0, none⟩), n30, c30⟩, ⟨A24, y28.toNat, c24⟩, ⟨A39, (n36 + 1), c39⟩]) hL48 rfl (n := 5) rfl (by simp [maxLen]) (okc trivial (okc trivial (okc trivial (okc trivial (okc trivial okn)))))
  have hV48 := Vws.ofs (T := tU8) (N := 60000) (hs := [⟨A41, n41, c41⟩, ⟨A24, n24, c24⟩, ⟨(some ⟨gA30, 0, none⟩), n30, c30⟩, ⟨A24, y28.toNat, c24⟩, ⟨A39, (n36 + 1), c39⟩]) (Vws.cons (hF41.vw.fit.more (Nat.zero_le _) (Nat.le_refl _)) (by omega) (Vws.cons (hF24.vw.fit.more (Nat.zero_le _) (Nat.le_refl _)) (by omega) (Vws.cons (hF30.vw.fit.more (Nat.zero_le _) (Nat.le_refl _)) (by omega) (Vws.cons ((Vw.take (k := y28.toNat) hF24.vw (by omega)).fit.more (Nat.zero_le _) (Nat.le_refl _)) (by omega) (Vws.cons (hO39.vw.fit.more (Nat.zero_le _) (Nat.le_refl _)) (by omega) Vws.nil)))))
  clear hL48
  refine RO_q rfl rfl (Yd_assign rfl) (RO_nil (X_then (C_seq (C_seq (C_region (RL_q rfl (Yd_assign rfl) (RL_nil (X_then (C_block (?_))))))))))
  refine C_loop (T := Nat) (fun i => [(15, .slice (some ⟨W13.heap.size, 0, none⟩) 5 5), (16, .int .i64 (i : Int))]) (fun i lw14 => (i ≤ 5) ∧ Ext W14 lw14) (fun i => 5 - i) (0) ⟨rfl, rfl, trivial⟩ ?_ ?_
  · refine ⟨?_, Ext.refl _⟩
    all_goals (try dsimp only)
    all_goals (omega)
  · rintro i lw14 ⟨hi14_0, hL14⟩
    replace hE := Ext.trans hE hL14
    replace h_b := h_b.ext hL14
    replace h_rd := h_rd.ext hL14
    replace hB6 := hB6.ext hL14
    replace hB7 := hB7.ext hL14
    try replace hV23 := hV23.ext hL14
    replace hF24 := hF24.ext hL14
    replace hF30 := hF30.ext hL14
    replace hO38 := hO38.ext hL14
    replace hO39 := hO39.ext hL14
    replace hF41 := hF41.ext hL14
    replace hO48 := hO48.ext hL14
    try replace hV48 := hV48.ext hL14
    have hsL14 := hL14.size
    refine C_seq (C_seq (C_region (RL_q rfl (Yd_move rfl) (RL_q rfl (Yd_lss rfl rfl) (RL_nil (X_then (?_)))))))
    refine C_cond rfl (fun hb50 => ?_) (fun hb50 => ?_)
    · skip
      try simp only [decide_eq_true_eq, decide_eq_false_iff_not, Bool.not_eq_true', Bool.not_eq_false', Decidable.not_not, Int.not_lt, Int.not_le, Bool.or_eq_true, Bool.and_eq_true, Bool.or_eq_false_iff, Bool.and_eq_false_iff] at hb50
      refine C_skip (X_then (C_seq (C_block (C_seq (C_region (RL_q rfl (Yd_move rfl) (RL_q rfl (Yd_move rfl) (RL_q rfl (Yd_idxL Try.underlying49 (sz := 1) (by kernel_rfl) rfl rfl (by omega) (by omega)) (?_)))))))))
      obtain ⟨x1, hx1, gx1⟩ := Vw.elem (i := i) hO48.vw (by omega)
      obtain ⟨lx1, hlx1, hvx1, hbx1⟩ := Vws.get hV48 hx1
      have hnx1 := hvx1.ln
      have hcx1 := hvx1.cap
      refine RL_q rfl (Yd_load (v := .slice x1.A x1.n x1.c) Try.underlying24 rfl rfl (Vw.lq1L hO48.vw hx1 rfl rfl)) (RL_l rfl (Ld_call Try.func47 rfl (by kernel_rfl) rfl (ReadG hvx1 (by omega)) ?_))
      rintro e W15 ⟨A58, n58, c58, rfl, hV58, he15⟩
      refine ⟨_, rfl, ?_⟩
      replace hE := Ext.trans hE he15
      replace h_b := h_b.ext he15
      replace h_rd := h_rd.ext he15
      replace hB6 := hB6.ext he15
      replace hB7 := hB7.ext he15
      try replace hV23 := hV23.ext he15
      replace hF24 := hF24.ext he15
      replace hF30 := hF30.ext he15
      replace hO38 := hO38.ext he15
      replace hO39 := hO39.ext he15
      replace hF41 := hF41.ext he15
      replace hO48 := hO48.ext he15
      try replace hV48 := hV48.ext he15
      replace hL14 := Ext.trans hL14 he15
      replace hvx1 := hvx1.ext he15
      have hs15 := he15.size
      have hv58_0 := vI_rng lx1 0
      have hv58_1 := vI_rng lx1 1
      have hv58_2 := vI_rng lx1 2
      have hv58_3 := vI_rng lx1 3
      have hv58_4 := vI_rng lx1 4
      have hv58_5 := vI_rng lx1 5
      have hn58 := hV58.ln
      have hc58 := hV58.cap
      refine RL_q rfl (Yd_move rfl) (RL_q rfl (Yd_extract rfl rfl) (RL_q rfl (Yd_extract rfl rfl) (RL_q rfl (Yd_extract rfl rfl) (RL_l rfl (Ld_alloc (v := (.agg #[(.int .i64 0), (.int .i64 0)])) (by kernel_rfl) ?_)))))
      have hg_17 := hE.size
      intro W16 he16 hz16 hB17
      replace hE := Ext.trans hE he16
      replace h_b := h_b.ext he16
      replace h_rd := h_rd.ext he16
      replace hB6 := hB6.ext he16
      replace hB7 := hB7.ext he16
      try replace hV23 := hV23.ext he16
      replace hF24 := hF24.ext he16
      replace hF30 := hF30.ext he16
      replace hO38 := hO38.ext he16
      replace hO39 := hO39.ext he16
      replace hF41 := hF41.ext he16
      replace hO48 := hO48.ext he16
      try replace hV48 := hV48.ext he16
      replace hL14 := Ext.trans hL14 he16
      replace hvx1 := hvx1.ext he16
      try replace hV58 := hV58.ext he16
      refine RL_l rfl (Ld_alloc (v := (.agg #[(.int .i64 0), (.int .i64 0), (.int .i64 0), (.int .i64 0), (.slice none 0 0)])) (by kernel_rfl) ?_)
      have hg_18 := hE.size
      intro W17 he17 hz17 hB18
      replace hE := Ext.trans hE he17
      replace h_b := h_b.ext he17
      replace h_rd := h_rd.ext he17
      replace hB6 := hB6.ext he17
      replace hB7 := hB7.ext he17
      try replace hV23 := hV23.ext he17
      replace hF24 := hF24.ext he17
      replace hF30 := hF30.ext he17
      replace hO38 := hO38.ext he17
      replace hO39 := hO39.ext he17
      replace hF41 := hF41.ext he17
      replace hO48 := hO48.ext he17
      try replace hV48 := hV48.ext he17
      replace hL14 := Ext.trans hL14 he17
      replace hvx1 := hvx1.ext he17
      try replace hV58 := hV58.ext he17
      replace hB17 := hB17.ext he17
      refine RL_l0 (Ld_store (by kernel_rfl) rfl rfl hB17 (Nat.le_of_ble_eq_true rfl) (by simp [cellsL, Value.cells, Value.oneCell']) ?_)
      intro W18 hu18 hz18 hB17
      have hk18 := Kp.ofb hu18
      have hs18 := hk18.size
      replace hE := Ext.kp hE hk18 (fun k hk => by first | omega | (have hk := hk; dsimp only at hk; omega))
      replace h_b := h_b.kp hk18 (fun k hk => by first | omega | (have hk := hk; dsimp only at hk; omega))
      replace h_rd := h_rd.kp hk18 (fun k hk => by first | omega | (have hk := hk; dsimp only at hk; omega))
      replace hB6 := hB6.kp hk18 (fun hk => by first | omega | (have hk := hk; dsimp only at hk; omega))
      replace hB7 := hB7.kp hk18 (fun hk => by first | omega | (have hk := hk; dsimp only at hk; omega))
      try replace hV23 := hV23.kp hk18 (fun k hk => by first | omega | (have hk := hk; dsimp only at hk; omega))
      replace hF24 := hF24.kp hk18 (fun k hk => by first | omega | (have hk := hk; dsimp only at hk; omega))
      replace hF30 := hF30.kp hk18 (fun k hk => by first | omega | (have hk := hk; dsimp only at hk; omega))
      replace hO38 := hO38.kp hk18 (fun k hk => by first | omega | (have hk := hk; dsimp only at hk; omega))
      replace hO39 := hO39.kp hk18 (fun k hk => by first | omega | (have hk := hk; dsimp only at hk; omega))
      replace hF41 := hF41.kp hk18 (fun k hk => by first | omega | (have hk := hk; dsimp only at hk; omega))
      replace hO48 := hO48.kp hk18 (fun k hk => by first | omega | (have hk := hk; dsimp only at hk; omega))
      try replace hV48 := hV48.kp hk18 (fun k hk => by first | omega | (have hk := hk; dsimp only at hk; omega))
      try replace hL14 := Ext.kp hL14 hk18 (fun k hk => by first | omega | (have hk := hk; dsimp only at hk; omega))
      replace hvx1 := hvx1.kp hk18 (fun k hk => by first | omega | (have hk := hk; dsimp only at hk; omega))
      try replace hV58 := hV58.kp hk18 (fun k hk => by first | omega | (have hk := hk; dsimp only at hk; omega))
      replace hB18 := hB18.kp hk18 (fun hk => by first | omega | (have hk := hk; dsimp only at hk; omega))
      refine RL_l0 (Ld_store (by kernel_rfl) rfl rfl hB18 (Nat.le_of_ble_eq_true rfl) (by simp [cellsL, Value.cells, Value.oneCell']) ?_)
      intro W19 hu19 hz19 hB18
      have hk19 := Kp.ofb hu19
      have hs19 := hk19.size
      replace hE := Ext.kp hE hk19 (fun k hk => by first | omega | (have hk := hk; dsimp only at hk; omega))
      replace h_b := h_b.kp hk19 (fun k hk => by first | omega | (have hk := hk; dsimp only at hk; omega))
      replace h_rd := h_rd.kp hk19 (fun k hk => by first | omega | (have hk := hk; dsimp only at hk; omega))
      replace hB6 := hB6.kp hk19 (fun hk => by first | omega | (have hk := hk; dsimp only at hk; omega))
      replace hB7 := hB7.kp hk19 (fun hk => by first | omega | (have hk := hk; dsimp only at hk; omega))
      try replace hV23 := hV23.kp hk19 (fun k hk => by first | omega | (have hk := hk; dsimp only at hk; omega))
      replace hF24 := hF24.kp hk19 (fun k hk => by first | omega | (have hk := hk; dsimp only at hk; omega))
      replace hF30 := hF30.kp hk19 (fun k hk => by first | omega | (have hk := hk; dsimp only at hk; omega))
      replace hO38 := hO38.kp hk19 (fun k hk => by first | omega | (have hk := hk; dsimp only at hk; omega))
      replace hO39 := hO39.kp hk19 (fun k hk => by first | omega | (have hk := hk; dsimp only at hk; omega))
      replace hF41 := hF41.kp hk19 (fun k hk => by first | omega | (have hk := hk; dsimp only at hk; omega))
      replace hO48 := hO48.kp hk19 (fun k hk => by first | omega | (have hk := hk; dsimp only at hk; omega))
      try replace hV48 := hV48.kp hk19 (fun k hk => by first | omega | (have hk := hk; dsimp only at hk; omega))
      try replace hL14 := Ext.kp hL14 hk19 (fun k hk => by first | omega | (have hk := hk; dsimp only at hk; omega))
      replace hvx1 := hvx1.kp hk19 (fun k hk => by first | omega | (have hk := hk; dsimp only at hk; omega))
      try replace hV58 := hV58.kp hk19 (fun k hk => by first | omega | (have hk := hk; dsimp only at hk; omega))
      replace hB17 := hB17.kp hk19 (fun hk => by first | omega | (have hk := hk; dsimp only at hk; omega))
      refine RL_q rfl (Yd_assign rfl) (RL_nil (X_then (C_seq (C_region (RL_q rfl (Yd_move rfl) (RL_q rfl (Yd_move rfl) (RL_q rfl (Yd_idxL Try.underlying49 (sz := 1) (by kernel_rfl) rfl rfl (by omega) (by omega)) (RL_q rfl (Yd_load (v := .slice x1.A x1.n x1.c) Try.underlying24 rfl rfl (Vw.lq1L hO48.vw hx1 rfl rfl)) (RL_l rfl (Ld_call Try.func48 rfl (by kernel_rfl) rfl (refReadG hvx1 (by omega)) ?_))))))))))
      rintro e W20 ⟨A66, n66, c66, rfl, hV66, he20⟩
      refine ⟨_, rfl, ?_⟩
      replace hE := Ext.trans hE he20
      replace h_b := h_b.ext he20
      replace h_rd := h_rd.ext he20
      replace hB6 := hB6.ext he20
      replace hB7 := hB7.ext he20
      try replace hV23 := hV23.ext he20
      replace hF24 := hF24.ext he20
      replace hF30 := hF30.ext he20
      replace hO38 := hO38.ext he20
      replace hO39 := hO39.ext he20
      replace hF41 := hF41.ext he20
      replace hO48 := hO48.ext he20
      try replace hV48 := hV48.ext he20
      replace hL14 := Ext.trans hL14 he20
      replace hvx1 := hvx1.ext he20
      try replace hV58 := hV58.ext he20
      replace hB17 := hB17.ext he20
      replace hB18 := hB18.ext he20
      have hs20 := he20.size
      have hv66_0 := vI_rng lx1 0
      have hv66_1 := vI_rng lx1 1
      have hv66_2 := vI_rng lx1 2
      have hv66_3 := vI_rng lx1 3
      have hv66_4 := vI_rng lx1 4
      have hv66_5 := vI_rng lx1 5
      have hn66 := hV66.ln
      have hc66 := hV66.cap
      refine RL_l rfl (Ld_alloc (v := (.agg #[(.int .i64 0), (.int .i64 0), (.int .i64 0), (.int .i64 0), (.int .i64 0), (.int .i64 0), (.slice none 0 0), (.int .i64 0)])) (by kernel_rfl) ?_)
      have hg_20 := hE.size
      intro W21 he21 hz21 hB20
      replace hE := Ext.trans hE he21
      replace h_b := h_b.ext he21
      replace h_rd := h_rd.ext he21
      replace hB6 := hB6.ext he21
      replace hB7 := hB7.ext he21
      try replace hV23 := hV23.ext he21
      replace hF24 := hF24.ext he21
      replace hF30 := hF30.ext he21
      replace hO38 := hO38.ext he21
      replace hO39 := hO39.ext he21
      replace hF41 := hF41.ext he21
      replace hO48 := hO48.ext he21
      try replace hV48 := hV48.ext he21
      replace hL14 := Ext.trans hL14 he21
      replace hvx1 := hvx1.ext he21
      try replace hV58 := hV58.ext he21
      replace hB17 := hB17.ext he21
      replace hB18 := hB18.ext he21
      try replace hV66 := hV66.ext he21
      refine RL_l0 (Ld_store (by kernel_rfl) rfl rfl hB20 (Nat.le_of_ble_eq_true rfl) (by simp [cellsL, Value.cells, Value.oneCell']) ?_)
      intro W22 hu22 hz22 hB20
      have hk22 := Kp.ofb hu22
      have hs22 := hk22.size
      replace hE := Ext.kp hE hk22 (fun k hk => by first | omega | (have hk := hk; dsimp only at hk; omega))
      replace h_b := h_b.kp hk22 (fun k hk => by first | omega | (have hk := hk; dsimp only at hk; omega))
      replace h_rd := h_rd.kp hk22 (fun k hk => by first | omega | (have hk := hk; dsimp only at hk; omega))
      replace hB6 := hB6.kp hk22 (fun hk => by first | omega | (have hk := hk; dsimp only at hk; omega))
      replace hB7 := hB7.kp hk22 (fun hk => by first | omega | (have hk := hk; dsimp only at hk; omega))
      try replace hV23 := hV23.kp hk22 (fun k hk => by first | omega | (have hk := hk; dsimp only at hk; omega))
      replace hF24 := hF24.kp hk22 (fun k hk => by first | omega | (have hk := hk; dsimp only at hk; omega))
      replace hF30 := hF30.kp hk22 (fun k hk => by first | omega | (have hk := hk; dsimp only at hk; omega))
      replace hO38 := hO38.kp hk22 (fun k hk => by first | omega | (have hk := hk; dsimp only at hk; omega))
      replace hO39 := hO39.kp hk22 (fun k hk => by first | omega | (have hk := hk; dsimp only at hk; omega))
      replace hF41 := hF41.kp hk22 (fun k hk => by first | omega | (have hk := hk; dsimp only at hk; omega))
      replace hO48 := hO48.kp hk22 (fun k hk => by first | omega | (have hk := hk; dsimp only at hk; omega))
      try replace hV48 := hV48.kp hk22 (fun k hk => by first | omega | (have hk := hk; dsimp only at hk; omega))
      try replace hL14 := Ext.kp hL14 hk22 (fun k hk => by first | omega | (have hk := hk; dsimp only at hk; omega))
      replace hvx1 := hvx1.kp hk22 (fun k hk => by first | omega | (have hk := hk; dsimp only at hk; omega))
      try replace hV58 := hV58.kp hk22 (fun k hk => by first | omega | (have hk := hk; dsimp only at hk; omega))
      replace hB17 := hB17.kp hk22 (fun hk => by first | omega | (have hk := hk; dsimp only at hk; omega))
      replace hB18 := hB18.kp hk22 (fun hk => by first | omega | (have hk := hk; dsimp only at hk; omega))
      try replace hV66 := hV66.kp hk22 (fun k hk => by first | omega | (have hk := hk; dsimp only at hk; omega))
      refine RL_nil (X_then (C_seq (C_region (RL_q rfl (Yd_move rfl) (RL_q rfl (Yd_fld (off := 7) Try.underlying70 (by kernel_rfl) rfl) (RL_q rfl (Yd_load Try.underlying43 rfl rfl (ldB hB20 rfl)) (RL_q rfl (Yd_neq rfl rfl) (RL_q rfl (Yd_move rfl) (?_)))))))))
      refine RL_is (d := 71) (b' := false) rfl (by simp) ?_
      refine RL_gq rfl rfl rfl (Yd_loadA Try.underlying65 rfl (by kernel_rfl) rfl (ldBA hB17)) (RL_gq rfl rfl rfl (Yd_fld (off := 0) Try.underlying70 (by kernel_rfl) rfl) (RL_gq rfl rfl rfl (Yd_loadA (cs := [.int .i64 (vI lx1 0), .int .i64 (vI lx1 1)]) Try.underlying65 rfl (by kernel_rfl) rfl (ldBS hB20 0 [.int .i64 (vI lx1 0), .int .i64 (vI lx1 1)] rfl)) (RL_gq rfl rfl rfl (Yd_neqA Try.underlying65 (by kernel_rfl) (by kernel_rfl) (tb := [(false, 0, 0), (false, 1, 0)]) (by kernel_rfl) rfl rfl rfl (Cp_eq (⟨(vI lx1 0), (vI lx1 1)⟩ : Cp) (⟨(vI lx1 0), (vI lx1 1)⟩ : Cp))) (RL_q rfl (Yd_pickF rfl rfl) (RL_q rfl (Yd_move rfl) (?_))))))
      refine RL_is (d := 77) (b' := false) rfl (by simp) ?_
      refine RL_gq rfl rfl rfl (Yd_loadA Try.underlying53 rfl (by kernel_rfl) rfl (ldBA hB18)) (RL_gq rfl rfl rfl (Yd_fld (off := 2) Try.underlying70 (by kernel_rfl) rfl) (RL_gq rfl rfl rfl (Yd_loadA (cs := [.int .i64 (vI lx1 2), .int .i64 (vI lx1 3), .int .i64 (vI lx1 4), .int .i64 (vI lx1 5), .slice A66 n66 c66]) Try.underlying53 rfl (by kernel_rfl) rfl (ldBS hB20 2 [.int .i64 (vI lx1 2), .int .i64 (vI lx1 3), .int .i64 (vI lx1 4), .int .i64 (vI lx1 5), .slice A66 n66 c66] rfl)) (RL_gl rfl rfl rfl (Ld_call Try.func44 rfl (by kernel_rfl) rfl (rSameV (aop := (vI lx1 2)) (apg := (vI lx1 3)) (aoff := (vI lx1 4)) (an := (vI lx1 5)) hV58 ⟨⟨by omega, by omega⟩, ⟨by omega, by omega⟩, ⟨by omega, by omega⟩, ⟨by omega, by omega⟩⟩ (bop := (vI lx1 2)) (bpg := (vI lx1 3)) (boff := (vI lx1 4)) (bn := (vI lx1 5)) hV66 ⟨⟨by omega, by omega⟩, ⟨by omega, by omega⟩, ⟨by omega, by omega⟩, ⟨by omega, by omega⟩⟩) ?_))))
      rintro e W23 ⟨_, rfl, rfl, he23⟩
      refine ⟨_, rfl, ?_⟩
      replace hE := Ext.trans hE he23
      replace h_b := h_b.ext he23
      replace h_rd := h_rd.ext he23
      replace hB6 := hB6.ext he23
      replace hB7 := hB7.ext he23
      try replace hV23 := hV23.ext he23
      replace hF24 := hF24.ext he23
      replace hF30 := hF30.ext he23
      replace hO38 := hO38.ext he23
      replace hO39 := hO39.ext he23
      replace hF41 := hF41.ext he23
      replace hO48 := hO48.ext he23
      try replace hV48 := hV48.ext he23
      replace hL14 := Ext.trans hL14 he23
      replace hvx1 := hvx1.ext he23
      try replace hV58 := hV58.ext he23
      replace hB17 := hB17.ext he23
      replace hB18 := hB18.ext he23
      try replace hV66 := hV66.ext he23
      replace hB20 := hB20.ext he23
      have hs23 := he23.size
      refine RL_gq rfl rfl rfl (Yd_not rfl) (RL_q rfl (Yd_pickF rfl rfl) (RL_nil (X_then (?_))))
      refine C_no rfl (by simp) (C_skip (X_block (X_then (C_region (RL_q rfl (Yd_move rfl) (RL_q rfl (Yd_add rfl rfl (i64w (by omega) (by omega))) (RL_q rfl (Yd_assign rfl) (RL_nil (?_)))))))))
      refine X_again (i + 1) ⟨rfl, rfl, trivial⟩ ?_ (by show 5 - (i + 1) < 5 - i; omega)
      refine ⟨?_, hL14⟩
      all_goals (try dsimp only)
      all_goals (omega)
    · skip
      try simp only [decide_eq_true_eq, decide_eq_false_iff_not, Bool.not_eq_true', Bool.not_eq_false', Decidable.not_not, Int.not_lt, Int.not_le, Bool.or_eq_true, Bool.and_eq_true, Bool.or_eq_false_iff, Bool.and_eq_false_iff] at hb50
      refine C_exit (X_thenE (X_thenE (X_blockE (X_then (C_seq (C_region (RL_l rfl (Ld_call Try.func40 rfl (by kernel_rfl) rfl (lives18V ) ?_))))))))
      rintro e W15 ⟨_, rfl, rfl, he15⟩
      refine ⟨_, rfl, ?_⟩
      replace hE := Ext.trans hE he15
      replace h_b := h_b.ext he15
      replace h_rd := h_rd.ext he15
      replace hB6 := hB6.ext he15
      replace hB7 := hB7.ext he15
      try replace hV23 := hV23.ext he15
      replace hF24 := hF24.ext he15
      replace hF30 := hF30.ext he15
      replace hO38 := hO38.ext he15
      replace hO39 := hO39.ext he15
      replace hF41 := hF41.ext he15
      replace hO48 := hO48.ext he15
      try replace hV48 := hV48.ext he15
      replace hL14 := Ext.trans hL14 he15
      have hs15 := he15.size
      refine RL_q rfl (Yd_assign rfl) (RL_nil (X_then (C_ret (X_ret1 rfl rfl ?_))))
      refine ⟨_, rfl, ?_, hE⟩
      all_goals (first | rfl | omega | simp)
end Go.Proofs.AL
