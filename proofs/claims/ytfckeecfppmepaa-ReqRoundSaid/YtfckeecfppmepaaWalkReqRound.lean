import Derived.Test.YtfckeecfppmepaaRqz
import Derived.Test.YtfckeecfppmepaaReq2
set_option linter.unusedVariables false
set_option linter.unusedSimpArgs false
namespace Go.Proofs.AL
open Go.RowKit
theorem lives18V  {w : World}   :
    Calls Try.prog 40 #[] w fun e w' => ∃ (x0 : Bool), e = .returned (.bool x0) ∧ x0 = (true) ∧ Ext w w' :=
  Calls.mono (lives18_c w) fun e w' ⟨h1, h2⟩ => ⟨_, h1, rfl, h2⟩
theorem ReqRoundV {cs cl : Int} {rop rpg roff rn : Int} {lo_rd B_rd : Nat} {A_rd : Option Addr} {n_rd c_rd : Nat} {rd : List Int} {w : World}  (b_c : (-9223372036854775808 ≤ cs ∧ cs ≤ 9223372036854775807) ∧ (-9223372036854775808 ≤ cl ∧ cl ≤ 9223372036854775807)) (h_rd : Vw tU8 w lo_rd B_rd A_rd n_rd c_rd rd) (b_r : (-9223372036854775808 ≤ rop ∧ rop ≤ 9223372036854775807) ∧ (-9223372036854775808 ≤ rpg ∧ rpg ≤ 9223372036854775807) ∧ (-9223372036854775808 ≤ roff ∧ roff ≤ 9223372036854775807) ∧ (-9223372036854775808 ≤ rn ∧ rn ≤ 9223372036854775807)) :
    Calls Try.prog 13 #[.agg #[.int .i64 cs, .int .i64 cl], .agg #[.int .i64 rop, .int .i64 rpg, .int .i64 roff, .int .i64 rn, .slice A_rd n_rd c_rd]] w fun e w' => ∃ (x0 : Bool), e = .returned (.bool x0) ∧ x0 = (true) ∧ Ext w w' := by
  have hE := Ext.refl w
  replace h_rd := h_rd.fit
  have hn_rd := h_rd.ln
  have hc_rd := h_rd.cap
  have hm_rd := h_rd.max
  simp only [maxLen] at hm_rd
  refine calls_of (l := [.agg #[.int .i64 cs, .int .i64 cl], .agg #[.int .i64 rop, .int .i64 rpg, .int .i64 roff, .int .i64 rn, .slice A_rd n_rd c_rd]]) (N := 46) Try.func13 rfl rfl rfl ?_
  refine C_seq (C_region (RL_l rfl (Ld_box rfl ?_)))
  have hg_2 := hE.size
  intro W1 he1 hz1 hB2
  replace hE := Ext.trans hE he1
  replace h_rd := h_rd.ext he1
  refine RL_l rfl (Ld_box rfl ?_)
  have hg_3 := hE.size
  intro W2 he2 hz2 hB3
  replace hE := Ext.trans hE he2
  replace h_rd := h_rd.ext he2
  replace hB2 := hB2.ext he2
  refine RL_q rfl (Yd_assign rfl) (RL_nil (X_then (C_seq (C_region (RL_q rfl (Yd_fld (off := 4) Try.underlying53 (by kernel_rfl) rfl) (RL_q rfl (Yd_load Try.underlying24 rfl rfl (ldB hB3 rfl)) (RL_l rfl (Ld_call Try.func17 rfl (by kernel_rfl) rfl (FewV h_rd ⟨by first | omega | (dsimp only; omega), by first | omega | (dsimp only; omega)⟩) ?_))))))))
  rintro e W3 ⟨A11, n11, c11, rfl, hF11, hle11, he3⟩
  refine ⟨_, rfl, ?_⟩
  replace hE := Ext.trans hE he3
  replace h_rd := h_rd.ext he3
  replace hB2 := hB2.ext he3
  replace hB3 := hB3.ext he3
  have hs3 := he3.size
  have hn11 := hF11.ln
  try simp only [List.length_append, List.length_cons, List.length_nil, List.length_set, List.length_take, List.length_drop, List.length_replicate, List.length_map, Nat.zero_add, Nat.add_zero, le8s_len, le8_len, text_len] at hn11
  have hc11 := hF11.cap
  try rw [hle11.2.2.1 (by omega)] at hF11 hn11
  have hfy := few_byt h_rd.byt 32
  have hf32 : (few rd 32).length ≤ 32 := by rw [hF11.ln]; omega
  refine RL_q rfl (Yd_fld (off := 4) Try.underlying53 (by kernel_rfl) rfl) (RL_l0 (Ld_store (by kernel_rfl) rfl rfl hB3 (Nat.le_of_ble_eq_true rfl) (by simp [cellsL, Value.cells, Value.oneCell']) ?_))
  intro W4 hu4 hz4 hB3
  have hk4 := Kp.ofb hu4
  have hs4 := hk4.size
  replace hE := Ext.kp hE hk4 (fun k hk => by first | omega | (have hk := hk; dsimp only at hk; omega))
  replace h_rd := h_rd.kp hk4 (fun k hk => by first | omega | (have hk := hk; dsimp only at hk; omega))
  replace hB2 := hB2.kp hk4 (fun hk => by first | omega | (have hk := hk; dsimp only at hk; omega))
  replace hF11 := hF11.kp hk4 (fun k hk => by first | omega | (have hk := hk; dsimp only at hk; omega))
  refine RL_nil (X_then (C_seq (C_region (RL_q rfl (Yd_loadA Try.underlying65 rfl (by kernel_rfl) rfl (ldBA hB2)) (RL_q rfl (Yd_loadA Try.underlying53 rfl (by kernel_rfl) rfl (ldBA hB3)) (RL_l rfl (Ld_call Try.func49 rfl (by kernel_rfl) rfl (WriteV (cs := cs) (cl := cl) ⟨⟨by omega, by omega⟩, ⟨by omega, by omega⟩⟩ (rop := rop) (rpg := rpg) (roff := roff) (rn := rn) hF11.vw ⟨⟨by omega, by omega⟩, ⟨by omega, by omega⟩, ⟨by omega, by omega⟩, ⟨by omega, by omega⟩⟩ (by omega)) ?_)))))))
  rintro e W5 ⟨A15, n15, c15, rfl, hF15, he5⟩
  refine ⟨_, rfl, ?_⟩
  replace hE := Ext.trans hE he5
  replace h_rd := h_rd.ext he5
  replace hB2 := hB2.ext he5
  replace hB3 := hB3.ext he5
  replace hF11 := hF11.ext he5
  have hs5 := he5.size
  have hn15 := hF15.ln
  try simp only [List.length_append, List.length_cons, List.length_nil, List.length_set, List.length_take, List.length_drop, List.length_replicate, List.length_map, Nat.zero_add, Nat.add_zero, le8s_len, le8_len, text_len] at hn15
  have hc15 := hF15.cap
  refine RL_q rfl (Yd_assign rfl) (RL_nil (X_then (C_seq (C_region (RL_q rfl (Yd_move rfl) (RL_l rfl (Ld_call Try.func47 rfl (by kernel_rfl) rfl (ReadK hF15.vw rfl ⟨⟨by omega, by omega⟩, ⟨by omega, by omega⟩, ⟨by omega, by omega⟩, ⟨by omega, by omega⟩, ⟨by omega, by omega⟩, ⟨by omega, by omega⟩⟩ (by omega) (by assumption)) ?_)))))))
  rintro e W6 ⟨A18, rfl, hV18, he6⟩
  refine ⟨_, rfl, ?_⟩
  replace hE := Ext.trans hE he6
  replace h_rd := h_rd.ext he6
  replace hB2 := hB2.ext he6
  replace hB3 := hB3.ext he6
  replace hF11 := hF11.ext he6
  replace hF15 := hF15.ext he6
  have hs6 := he6.size
  refine RL_q rfl (Yd_move rfl) (RL_q rfl (Yd_extract rfl rfl) (RL_q rfl (Yd_extract rfl rfl) (RL_q rfl (Yd_extract rfl rfl) (RL_l rfl (Ld_alloc (v := (.agg #[(.int .i64 0), (.int .i64 0)])) (by kernel_rfl) ?_)))))
  have hg_6 := hE.size
  intro W7 he7 hz7 hB6
  replace hE := Ext.trans hE he7
  replace h_rd := h_rd.ext he7
  replace hB2 := hB2.ext he7
  replace hB3 := hB3.ext he7
  replace hF11 := hF11.ext he7
  replace hF15 := hF15.ext he7
  try replace hV18 := hV18.ext he7
  refine RL_l rfl (Ld_alloc (v := (.agg #[(.int .i64 0), (.int .i64 0), (.int .i64 0), (.int .i64 0), (.slice none 0 0)])) (by kernel_rfl) ?_)
  have hg_7 := hE.size
  intro W8 he8 hz8 hB7
  replace hE := Ext.trans hE he8
  replace h_rd := h_rd.ext he8
  replace hB2 := hB2.ext he8
  replace hB3 := hB3.ext he8
  replace hF11 := hF11.ext he8
  replace hF15 := hF15.ext he8
  try replace hV18 := hV18.ext he8
  replace hB6 := hB6.ext he8
  refine RL_l0 (Ld_store (by kernel_rfl) rfl rfl hB6 (Nat.le_of_ble_eq_true rfl) (by simp [cellsL, Value.cells, Value.oneCell']) ?_)
  intro W9 hu9 hz9 hB6
  have hk9 := Kp.ofb hu9
  have hs9 := hk9.size
  replace hE := Ext.kp hE hk9 (fun k hk => by first | omega | (have hk := hk; dsimp only at hk; omega))
  replace h_rd := h_rd.kp hk9 (fun k hk => by first | omega | (have hk := hk; dsimp only at hk; omega))
  replace hB2 := hB2.kp hk9 (fun hk => by first | omega | (have hk := hk; dsimp only at hk; omega))
  replace hB3 := hB3.kp hk9 (fun hk => by first | omega | (have hk := hk; dsimp only at hk; omega))
  replace hF11 := hF11.kp hk9 (fun k hk => by first | omega | (have hk := hk; dsimp only at hk; omega))
  replace hF15 := hF15.kp hk9 (fun k hk => by first | omega | (have hk := hk; dsimp only at hk; omega))
  try replace hV18 := hV18.kp hk9 (fun k hk => by first | omega | (have hk := hk; dsimp only at hk; omega))
  replace hB7 := hB7.kp hk9 (fun hk => by first | omega | (have hk := hk; dsimp only at hk; omega))
  refine RL_l0 (Ld_store (by kernel_rfl) rfl rfl hB7 (Nat.le_of_ble_eq_true rfl) (by simp [cellsL, Value.cells, Value.oneCell']) ?_)
  intro W10 hu10 hz10 hB7
  have hk10 := Kp.ofb hu10
  have hs10 := hk10.size
  replace hE := Ext.kp hE hk10 (fun k hk => by first | omega | (have hk := hk; dsimp only at hk; omega))
  replace h_rd := h_rd.kp hk10 (fun k hk => by first | omega | (have hk := hk; dsimp only at hk; omega))
  replace hB2 := hB2.kp hk10 (fun hk => by first | omega | (have hk := hk; dsimp only at hk; omega))
  replace hB3 := hB3.kp hk10 (fun hk => by first | omega | (have hk := hk; dsimp only at hk; omega))
  replace hF11 := hF11.kp hk10 (fun k hk => by first | omega | (have hk := hk; dsimp only at hk; omega))
  replace hF15 := hF15.kp hk10 (fun k hk => by first | omega | (have hk := hk; dsimp only at hk; omega))
  try replace hV18 := hV18.kp hk10 (fun k hk => by first | omega | (have hk := hk; dsimp only at hk; omega))
  replace hB6 := hB6.kp hk10 (fun hk => by first | omega | (have hk := hk; dsimp only at hk; omega))
  refine RL_q rfl (Yd_assign rfl) (RL_nil (X_then (C_seq (?_))))
  refine C_regionD (NoB) (l := [(0, true), (1, true), (2, true), (3, true), (4, false), (5, true), (6, true), (7, true), (8, true), (9, true), (10, true), (11, true), (12, true), (13, true), (14, true), (15, true), (16, true), (17, true), (18, true), (19, false), (20, true), (21, true), (22, false), (23, true), (24, true)]) (by kernel_rfl) (by kernel_rfl) rfl (by kernel_rfl) (fun _ _ d _ _ h => by cases d <;> exact h) ?_
  intro W11 he11 hh11
  replace hE := Ext.trans hE he11
  replace h_rd := h_rd.ext he11
  replace hB2 := hB2.ext he11
  replace hB3 := hB3.ext he11
  replace hF11 := hF11.ext he11
  replace hF15 := hF15.ext he11
  try replace hV18 := hV18.ext he11
  replace hB6 := hB6.ext he11
  replace hB7 := hB7.ext he11
  have hs11 := he11.size
  refine RO_q rfl rfl (Yd_move rfl) (RO_q rfl rfl (Yd_str Try.underlying24 Try.underlying5 Try.underlying9 rfl (fun W hW => Rd.ext (hF15.vw).u8 hW.ext)) (RO_q rfl rfl (Yd_loadA Try.underlying65 rfl (by kernel_rfl) rfl (fun W hW => (ldBA hB2) W hW.ext)) (RO_q rfl rfl (Yd_loadA Try.underlying53 rfl (by kernel_rfl) rfl (fun W hW => (ldBA hB3) W hW.ext)) (RO_l rfl rfl (Ld_call Try.func46 rfl (by kernel_rfl) rfl (rBytesV (cs := cs) (cl := cl) ⟨⟨by omega, by omega⟩, ⟨by omega, by omega⟩⟩ (rop := rop) (rpg := rpg) (roff := roff) (rn := rn) hF11.vw ⟨⟨by omega, by omega⟩, ⟨by omega, by omega⟩, ⟨by omega, by omega⟩, ⟨by omega, by omega⟩⟩ (by omega)) ?_)))))
  rintro e W12 ⟨A26, n26, c26, rfl, hF26, he12⟩
  refine ⟨_, rfl, ?_⟩
  refine ⟨Kp.of_ext he12, ?_⟩
  replace hE := Ext.trans hE he12
  replace h_rd := h_rd.ext he12
  replace hB2 := hB2.ext he12
  replace hB3 := hB3.ext he12
  replace hF11 := hF11.ext he12
  replace hF15 := hF15.ext he12
  try replace hV18 := hV18.ext he12
  replace hB6 := hB6.ext he12
  replace hB7 := hB7.ext he12
  have hs12 := he12.size
  have hn26 := hF26.ln
  try simp only [List.length_append, List.length_cons, List.length_nil, List.length_set, List.length_take, List.length_drop, List.length_replicate, List.length_map, Nat.zero_add, Nat.add_zero, le8s_len, le8_len, text_len] at hn26
  have hc26 := hF26.cap
  refine RO_q rfl rfl (Yd_str Try.underlying24 Try.underlying5 Try.underlying9 rfl (fun W hW => Rd.ext (hF26.vw).u8 hW.ext)) (RO_q rfl rfl (Yd_eqlSB rfl rfl hF15.byt hF26.byt) (RO_q rfl rfl (Yd_move rfl) (?_)))
  refine RO_is (d := 29) (b' := true) rfl (by simp) ?_
  refine RO_gq rfl rfl rfl rfl (Yd_move rfl) (RO_gq rfl rfl rfl rfl (Yd_eql rfl rfl) (RO_q rfl rfl (Yd_pickT rfl rfl) (RO_q rfl rfl (Yd_move rfl) (RO_gq rfl rfl rfl rfl (Yd_loadA Try.underlying65 rfl (by kernel_rfl) rfl (fun W hW => (ldBA hB6) W hW.ext)) (RO_gq rfl rfl rfl rfl (Yd_loadA Try.underlying65 rfl (by kernel_rfl) rfl (fun W hW => (ldBA hB2) W hW.ext)) (RO_gq rfl rfl rfl rfl (Yd_eqlA Try.underlying65 (by kernel_rfl) (by kernel_rfl) (tb := [(false, 0, 0), (false, 1, 0)]) (by kernel_rfl) rfl rfl rfl (Cp_eq (⟨cs, cl⟩ : Cp) (⟨cs, cl⟩ : Cp))) (RO_q rfl rfl (Yd_pickT rfl rfl) (RO_q rfl rfl (Yd_move rfl) (?_)))))))))
  refine RO_is (d := 38) (b' := true) rfl (by simp) ?_
  refine RO_gq rfl rfl rfl rfl (Yd_loadA Try.underlying53 rfl (by kernel_rfl) rfl (fun W hW => (ldBA hB7) W hW.ext)) (RO_gq rfl rfl rfl rfl (Yd_loadA Try.underlying53 rfl (by kernel_rfl) rfl (fun W hW => (ldBA hB3) W hW.ext)) (RO_gl rfl rfl rfl rfl (Ld_call Try.func44 rfl (by kernel_rfl) rfl (rSameV (aop := rop) (apg := rpg) (aoff := roff) (an := rn) hV18 ⟨⟨by omega, by omega⟩, ⟨by omega, by omega⟩, ⟨by omega, by omega⟩, ⟨by omega, by omega⟩⟩ (bop := rop) (bpg := rpg) (boff := roff) (bn := rn) hF11.vw ⟨⟨by omega, by omega⟩, ⟨by omega, by omega⟩, ⟨by omega, by omega⟩, ⟨by omega, by omega⟩⟩) ?_)))
  rintro e W13 ⟨_, rfl, rfl, he13⟩
  refine ⟨_, rfl, ?_⟩
  refine ⟨Kp.of_ext he13, ?_⟩
  replace hE := Ext.trans hE he13
  replace h_rd := h_rd.ext he13
  replace hB2 := hB2.ext he13
  replace hB3 := hB3.ext he13
  replace hF11 := hF11.ext he13
  replace hF15 := hF15.ext he13
  try replace hV18 := hV18.ext he13
  replace hB6 := hB6.ext he13
  replace hB7 := hB7.ext he13
  replace hF26 := hF26.ext he13
  have hs13 := he13.size
  refine RO_q rfl rfl (Yd_pickT rfl rfl) (RO_q rfl rfl (Yd_move rfl) (?_))
  refine RO_is (d := 43) (b' := true) rfl (by simp) ?_
  refine RO_gl rfl rfl rfl rfl (Ld_call Try.func40 rfl (by kernel_rfl) rfl (lives18V ) ?_)
  rintro e W14 ⟨_, rfl, rfl, he14⟩
  refine ⟨_, rfl, ?_⟩
  refine ⟨Kp.of_ext he14, ?_⟩
  replace hE := Ext.trans hE he14
  replace h_rd := h_rd.ext he14
  replace hB2 := hB2.ext he14
  replace hB3 := hB3.ext he14
  replace hF11 := hF11.ext he14
  replace hF15 := hF15.ext he14
  try replace hV18 := hV18.ext he14
  replace hB6 := hB6.ext he14
  replace hB7 := hB7.ext he14
  replace hF26 := hF26.ext he14
  have hs14 := he14.size
  refine RO_q rfl rfl (Yd_pickT rfl rfl) (RO_q rfl rfl (Yd_assign rfl) (RO_nil (X_then (C_ret (X_ret1 rfl rfl ?_)))))
  refine ⟨_, rfl, ?_, hE⟩
  all_goals (first | rfl | omega | simp)
end Go.Proofs.AL
