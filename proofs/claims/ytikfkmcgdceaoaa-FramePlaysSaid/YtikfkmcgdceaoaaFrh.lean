import Derived.Test.YtikfkmcgdceaoaaFrg
set_option linter.unusedVariables false
set_option linter.unusedSimpArgs false
namespace Go.Proofs.AL
open Go.RowKit
set_option maxHeartbeats 4000000 in
theorem refDoV {f : Fr} {o : OH} {lo_o B_o : Nat} {bs : List Int} {w : World}  (okf : FOk f) (h_o : Vw tU8 w lo_o B_o o.A o.ln o.c bs) (b_o : OB o) :
    Calls Try.prog 29 #[.agg #[.bool f.u, .bool f.d, .bool f.r, .int .i64 f.pins, .int .i64 f.page, .string (strOfNums f.b)], .agg #[.int .i64 o.op, .int .i64 o.pg, .int .i64 o.off, .int .i64 o.n, .slice o.A o.ln o.c]] w fun e w' => e = .returned (.tuple #[.agg #[.bool ((doF f o bs).2.2).u, .bool ((doF f o bs).2.2).d, .bool ((doF f o bs).2.2).r, .int .i64 ((doF f o bs).2.2).pins, .int .i64 ((doF f o bs).2.2).page, .string (strOfNums ((doF f o bs).2.2).b)], .string (strOfNums (doF f o bs).1), .int .i64 (doF f o bs).2.1]) ∧ Byt ((doF f o bs).1) ∧ Ext w w' := by
  have hE := Ext.refl w
  have hpp := okf.hp
  have hll := okf.hl
  replace h_o := h_o.fit
  have hn_o := h_o.ln
  have hc_o := h_o.cap
  have hm_o := h_o.max
  simp only [maxLen] at hm_o
  obtain ⟨bo1, bo2, bo3, bo4⟩ := b_o
  refine calls_of (l := [.agg #[.bool f.u, .bool f.d, .bool f.r, .int .i64 f.pins, .int .i64 f.page, .string (strOfNums f.b)], .agg #[.int .i64 o.op, .int .i64 o.pg, .int .i64 o.off, .int .i64 o.n, .slice o.A o.ln o.c]]) (N := 96) Try.func29 rfl rfl rfl ?_
  refine C_seq (C_region (RL_l rfl (Ld_box rfl ?_)))
  have hg_2 := hE.size
  intro W1 he1 hz1 hB2
  replace hE := Ext.trans hE he1
  replace h_o := h_o.ext he1
  refine RL_l rfl (Ld_box rfl ?_)
  have hg_3 := hE.size
  intro W2 he2 hz2 hB3
  replace hE := Ext.trans hE he2
  replace h_o := h_o.ext he2
  replace hB2 := hB2.ext he2
  refine RL_l rfl (Ld_alloc (v := (.agg #[(.bool false), (.bool false), (.bool false), (.int .i64 0), (.int .i64 0), (.string ⟨#[]⟩)])) (by kernel_rfl) ?_)
  have hg_4 := hE.size
  intro W3 he3 hz3 hB4
  replace hE := Ext.trans hE he3
  replace h_o := h_o.ext he3
  replace hB2 := hB2.ext he3
  replace hB3 := hB3.ext he3
  refine RL_q rfl (Yd_assign rfl) (RL_q rfl (Yd_assign rfl) (RL_nil (X_then (C_seq (C_seq (C_region (RL_q rfl (Yd_fld (off := 0) Try.underlying51 (by kernel_rfl) rfl) (RL_q rfl (Yd_load Try.underlying3 rfl rfl (ldB hB3 rfl)) (RL_l rfl (Ld_call Try.func15 rfl (by kernel_rfl) rfl (AroundV ⟨by first | omega | (dsimp only; omega), by first | omega | (dsimp only; omega)⟩ ⟨by first | omega | (dsimp only; omega), by first | omega | (dsimp only; omega)⟩) ?_))))))))))
  rintro e W4 ⟨y21, rfl, hy21, hra21, rfl⟩
  refine ⟨_, rfl, ?_⟩
  refine RL_nil (X_then (C_block (C_seq (C_seq (C_region (RL_q rfl (Yd_eql rfl rfl) (RL_q rfl (Yd_assign rfl) (RL_nil (X_then (?_))))))))))
  refine C_cond rfl (fun hb22 => ?_) (fun hb22 => ?_)
  · skip
    have hkhb22 := hb22
    try simp only [decide_eq_true_eq, decide_eq_false_iff_not, Bool.not_eq_true', Bool.not_eq_false', Decidable.not_not, Int.not_lt, Int.not_le, Bool.or_eq_true, Bool.and_eq_true, Bool.or_eq_false_iff, Bool.and_eq_false_iff] at hb22
    refine C_skip (X_then (C_yes rfl hkhb22 (C_seq (C_region (RL_q rfl (Yd_loadA Try.underlying43 rfl (by kernel_rfl) rfl (ldBA hB2)) (RL_l rfl (Ld_call Try.func45 rfl (by kernel_rfl) rfl (refPinV (f := f) (by assumption)) ?_)))))))
    rintro e W5 ⟨rfl, he5⟩
    refine ⟨_, rfl, ?_⟩
    replace hE := Ext.trans hE he5
    replace h_o := h_o.ext he5
    replace hB2 := hB2.ext he5
    replace hB3 := hB3.ext he5
    replace hB4 := hB4.ext he5
    have hs5 := he5.size
    have okr28 : FOk ((pinF f).2) := pinF_ok (by assumption)
    refine RL_q rfl (Yd_move rfl) (RL_q rfl (Yd_extract rfl rfl) (RL_q rfl (Yd_extract rfl rfl) (RL_l rfl (Ld_alloc (v := (.agg #[(.bool false), (.bool false), (.bool false), (.int .i64 0), (.int .i64 0), (.string ⟨#[]⟩)])) (by kernel_rfl) ?_))))
    have hg_7 := hE.size
    intro W6 he6 hz6 hB7
    replace hE := Ext.trans hE he6
    replace h_o := h_o.ext he6
    replace hB2 := hB2.ext he6
    replace hB3 := hB3.ext he6
    replace hB4 := hB4.ext he6
    refine RL_l0 (Ld_store (by kernel_rfl) rfl rfl hB7 (Nat.le_of_ble_eq_true rfl) (by simp [cellsL, Value.cells, Value.oneCell']) ?_)
    intro W7 hu7 hz7 hB7
    have hk7 := Kp.ofb hu7
    have hs7 := hk7.size
    replace hE := Ext.kp hE hk7 (fun k hk => by first | omega | (have hk := hk; dsimp only at hk; omega))
    replace h_o := h_o.kp hk7 (fun k hk => by first | omega | (have hk := hk; dsimp only at hk; omega))
    replace hB2 := hB2.kp hk7 (fun hk => by first | omega | (have hk := hk; dsimp only at hk; omega))
    replace hB3 := hB3.kp hk7 (fun hk => by first | omega | (have hk := hk; dsimp only at hk; omega))
    replace hB4 := hB4.kp hk7 (fun hk => by first | omega | (have hk := hk; dsimp only at hk; omega))
    refine RL_q rfl (Yd_assign rfl) (RL_nil (X_then (C_seq (C_region (RL_q rfl (Yd_loadA Try.underlying43 rfl (by kernel_rfl) rfl (ldBA hB7)) (RL_q rfl (Yd_move rfl) (RL_l0 (Ld_store (by kernel_rfl) rfl rfl hB4 (Nat.le_of_ble_eq_true rfl) (by simp [cellsL, Value.cells, Value.oneCell']) ?_))))))))
    intro W8 hu8 hz8 hB4
    have hk8 := Kp.ofb hu8
    have hs8 := hk8.size
    replace hE := Ext.kp hE hk8 (fun k hk => by first | omega | (have hk := hk; dsimp only at hk; omega))
    replace h_o := h_o.kp hk8 (fun k hk => by first | omega | (have hk := hk; dsimp only at hk; omega))
    replace hB2 := hB2.kp hk8 (fun hk => by first | omega | (have hk := hk; dsimp only at hk; omega))
    replace hB3 := hB3.kp hk8 (fun hk => by first | omega | (have hk := hk; dsimp only at hk; omega))
    replace hB7 := hB7.kp hk8 (fun hk => by first | omega | (have hk := hk; dsimp only at hk; omega))
    refine RL_q rfl (Yd_assign rfl) (RL_q rfl (Yd_assign rfl) (RL_nil (X_then (C_ret (X_blockR (X_thenR (X_retCTT rfl rfl rfl rfl Try.underlying43 rfl (by kernel_rfl) hB4 ?_)))))))
    have hp : doF f o bs = ([], (pinF f).1, (⟨((pinF f).2).u, ((pinF f).2).d, ((pinF f).2).r, ((pinF f).2).pins, ((pinF f).2).page, ((pinF f).2).b⟩ : Fr)) := by unfold doF; rw [← hy21]; (repeat (first | rw [if_pos (by omega)] | rw [if_neg (by omega)])) <;> first | rfl | (unfold loadB; first | (rw [if_pos (by omega)]; done) | (rw [if_neg (by omega)]; done) | (rw [if_pos (by omega)]; rfl) | (rw [if_neg (by omega)]; rfl))
    rw [hp]; exact ⟨rfl, Byt.nil, hE⟩
  · skip
    have hkhb22 := hb22
    try simp only [decide_eq_true_eq, decide_eq_false_iff_not, Bool.not_eq_true', Bool.not_eq_false', Decidable.not_not, Int.not_lt, Int.not_le, Bool.or_eq_true, Bool.and_eq_true, Bool.or_eq_false_iff, Bool.and_eq_false_iff] at hb22
    refine C_seq (C_region (RL_q rfl (Yd_eql rfl rfl) (RL_q rfl (Yd_assign rfl) (RL_nil (X_then (?_))))))
    refine C_cond rfl (fun hb22 => ?_) (fun hb22 => ?_)
    · skip
      have hkhb22 := hb22
      try simp only [decide_eq_true_eq, decide_eq_false_iff_not, Bool.not_eq_true', Bool.not_eq_false', Decidable.not_not, Int.not_lt, Int.not_le, Bool.or_eq_true, Bool.and_eq_true, Bool.or_eq_false_iff, Bool.and_eq_false_iff] at hb22
      refine C_skip (X_then (C_yes rfl hkhb22 (C_seq (C_region (RL_q rfl (Yd_loadA Try.underlying43 rfl (by kernel_rfl) rfl (ldBA hB2)) (RL_l rfl (Ld_call Try.func45 rfl (by kernel_rfl) rfl (refPinV (f := f) (by assumption)) ?_)))))))
      rintro e W5 ⟨rfl, he5⟩
      refine ⟨_, rfl, ?_⟩
      replace hE := Ext.trans hE he5
      replace h_o := h_o.ext he5
      replace hB2 := hB2.ext he5
      replace hB3 := hB3.ext he5
      replace hB4 := hB4.ext he5
      have hs5 := he5.size
      have okr28 : FOk ((pinF f).2) := pinF_ok (by assumption)
      refine RL_q rfl (Yd_move rfl) (RL_q rfl (Yd_extract rfl rfl) (RL_q rfl (Yd_extract rfl rfl) (RL_l rfl (Ld_alloc (v := (.agg #[(.bool false), (.bool false), (.bool false), (.int .i64 0), (.int .i64 0), (.string ⟨#[]⟩)])) (by kernel_rfl) ?_))))
      have hg_7 := hE.size
      intro W6 he6 hz6 hB7
      replace hE := Ext.trans hE he6
      replace h_o := h_o.ext he6
      replace hB2 := hB2.ext he6
      replace hB3 := hB3.ext he6
      replace hB4 := hB4.ext he6
      refine RL_l0 (Ld_store (by kernel_rfl) rfl rfl hB7 (Nat.le_of_ble_eq_true rfl) (by simp [cellsL, Value.cells, Value.oneCell']) ?_)
      intro W7 hu7 hz7 hB7
      have hk7 := Kp.ofb hu7
      have hs7 := hk7.size
      replace hE := Ext.kp hE hk7 (fun k hk => by first | omega | (have hk := hk; dsimp only at hk; omega))
      replace h_o := h_o.kp hk7 (fun k hk => by first | omega | (have hk := hk; dsimp only at hk; omega))
      replace hB2 := hB2.kp hk7 (fun hk => by first | omega | (have hk := hk; dsimp only at hk; omega))
      replace hB3 := hB3.kp hk7 (fun hk => by first | omega | (have hk := hk; dsimp only at hk; omega))
      replace hB4 := hB4.kp hk7 (fun hk => by first | omega | (have hk := hk; dsimp only at hk; omega))
      refine RL_q rfl (Yd_assign rfl) (RL_nil (X_then (C_seq (C_region (RL_q rfl (Yd_loadA Try.underlying43 rfl (by kernel_rfl) rfl (ldBA hB7)) (RL_q rfl (Yd_move rfl) (RL_l0 (Ld_store (by kernel_rfl) rfl rfl hB4 (Nat.le_of_ble_eq_true rfl) (by simp [cellsL, Value.cells, Value.oneCell']) ?_))))))))
      intro W8 hu8 hz8 hB4
      have hk8 := Kp.ofb hu8
      have hs8 := hk8.size
      replace hE := Ext.kp hE hk8 (fun k hk => by first | omega | (have hk := hk; dsimp only at hk; omega))
      replace h_o := h_o.kp hk8 (fun k hk => by first | omega | (have hk := hk; dsimp only at hk; omega))
      replace hB2 := hB2.kp hk8 (fun hk => by first | omega | (have hk := hk; dsimp only at hk; omega))
      replace hB3 := hB3.kp hk8 (fun hk => by first | omega | (have hk := hk; dsimp only at hk; omega))
      replace hB7 := hB7.kp hk8 (fun hk => by first | omega | (have hk := hk; dsimp only at hk; omega))
      refine RL_q rfl (Yd_assign rfl) (RL_q rfl (Yd_assign rfl) (RL_nil (X_then (C_ret (X_blockR (X_thenR (X_retCTT rfl rfl rfl rfl Try.underlying43 rfl (by kernel_rfl) hB4 ?_)))))))
      have hp : doF f o bs = ([], (pinF f).1, (⟨((pinF f).2).u, ((pinF f).2).d, ((pinF f).2).r, ((pinF f).2).pins, ((pinF f).2).page, ((pinF f).2).b⟩ : Fr)) := by unfold doF; rw [← hy21]; (repeat (first | rw [if_pos (by omega)] | rw [if_neg (by omega)])) <;> first | rfl | (unfold loadB; first | (rw [if_pos (by omega)]; done) | (rw [if_neg (by omega)]; done) | (rw [if_pos (by omega)]; rfl) | (rw [if_neg (by omega)]; rfl))
      rw [hp]; exact ⟨rfl, Byt.nil, hE⟩
    · skip
      have hkhb22 := hb22
      try simp only [decide_eq_true_eq, decide_eq_false_iff_not, Bool.not_eq_true', Bool.not_eq_false', Decidable.not_not, Int.not_lt, Int.not_le, Bool.or_eq_true, Bool.and_eq_true, Bool.or_eq_false_iff, Bool.and_eq_false_iff] at hb22
      refine C_region (RL_q rfl (Yd_eql rfl rfl) (RL_q rfl (Yd_assign rfl) (RL_nil (X_then (?_)))))
      refine C_cond rfl (fun hb22 => ?_) (fun hb22 => ?_)
      · skip
        have hkhb22 := hb22
        try simp only [decide_eq_true_eq, decide_eq_false_iff_not, Bool.not_eq_true', Bool.not_eq_false', Decidable.not_not, Int.not_lt, Int.not_le, Bool.or_eq_true, Bool.and_eq_true, Bool.or_eq_false_iff, Bool.and_eq_false_iff] at hb22
        refine C_seq (C_region (RL_q rfl (Yd_loadA Try.underlying43 rfl (by kernel_rfl) rfl (ldBA hB2)) (RL_l rfl (Ld_call Try.func45 rfl (by kernel_rfl) rfl (refPinV (f := f) (by assumption)) ?_))))
        rintro e W5 ⟨rfl, he5⟩
        refine ⟨_, rfl, ?_⟩
        replace hE := Ext.trans hE he5
        replace h_o := h_o.ext he5
        replace hB2 := hB2.ext he5
        replace hB3 := hB3.ext he5
        replace hB4 := hB4.ext he5
        have hs5 := he5.size
        have okr28 : FOk ((pinF f).2) := pinF_ok (by assumption)
        refine RL_q rfl (Yd_move rfl) (RL_q rfl (Yd_extract rfl rfl) (RL_q rfl (Yd_extract rfl rfl) (RL_l rfl (Ld_alloc (v := (.agg #[(.bool false), (.bool false), (.bool false), (.int .i64 0), (.int .i64 0), (.string ⟨#[]⟩)])) (by kernel_rfl) ?_))))
        have hg_7 := hE.size
        intro W6 he6 hz6 hB7
        replace hE := Ext.trans hE he6
        replace h_o := h_o.ext he6
        replace hB2 := hB2.ext he6
        replace hB3 := hB3.ext he6
        replace hB4 := hB4.ext he6
        refine RL_l0 (Ld_store (by kernel_rfl) rfl rfl hB7 (Nat.le_of_ble_eq_true rfl) (by simp [cellsL, Value.cells, Value.oneCell']) ?_)
        intro W7 hu7 hz7 hB7
        have hk7 := Kp.ofb hu7
        have hs7 := hk7.size
        replace hE := Ext.kp hE hk7 (fun k hk => by first | omega | (have hk := hk; dsimp only at hk; omega))
        replace h_o := h_o.kp hk7 (fun k hk => by first | omega | (have hk := hk; dsimp only at hk; omega))
        replace hB2 := hB2.kp hk7 (fun hk => by first | omega | (have hk := hk; dsimp only at hk; omega))
        replace hB3 := hB3.kp hk7 (fun hk => by first | omega | (have hk := hk; dsimp only at hk; omega))
        replace hB4 := hB4.kp hk7 (fun hk => by first | omega | (have hk := hk; dsimp only at hk; omega))
        refine RL_q rfl (Yd_assign rfl) (RL_nil (X_then (C_seq (C_region (RL_q rfl (Yd_loadA Try.underlying43 rfl (by kernel_rfl) rfl (ldBA hB7)) (RL_q rfl (Yd_move rfl) (RL_l0 (Ld_store (by kernel_rfl) rfl rfl hB4 (Nat.le_of_ble_eq_true rfl) (by simp [cellsL, Value.cells, Value.oneCell']) ?_))))))))
        intro W8 hu8 hz8 hB4
        have hk8 := Kp.ofb hu8
        have hs8 := hk8.size
        replace hE := Ext.kp hE hk8 (fun k hk => by first | omega | (have hk := hk; dsimp only at hk; omega))
        replace h_o := h_o.kp hk8 (fun k hk => by first | omega | (have hk := hk; dsimp only at hk; omega))
        replace hB2 := hB2.kp hk8 (fun hk => by first | omega | (have hk := hk; dsimp only at hk; omega))
        replace hB3 := hB3.kp hk8 (fun hk => by first | omega | (have hk := hk; dsimp only at hk; omega))
        replace hB7 := hB7.kp hk8 (fun hk => by first | omega | (have hk := hk; dsimp only at hk; omega))
        refine RL_q rfl (Yd_assign rfl) (RL_q rfl (Yd_assign rfl) (RL_nil (X_then (C_ret (X_blockR (X_thenR (X_retCTT rfl rfl rfl rfl Try.underlying43 rfl (by kernel_rfl) hB4 ?_)))))))
        have hp : doF f o bs = ([], (pinF f).1, (⟨((pinF f).2).u, ((pinF f).2).d, ((pinF f).2).r, ((pinF f).2).pins, ((pinF f).2).page, ((pinF f).2).b⟩ : Fr)) := by unfold doF; rw [← hy21]; (repeat (first | rw [if_pos (by omega)] | rw [if_neg (by omega)])) <;> first | rfl | (unfold loadB; first | (rw [if_pos (by omega)]; done) | (rw [if_neg (by omega)]; done) | (rw [if_pos (by omega)]; rfl) | (rw [if_neg (by omega)]; rfl))
        rw [hp]; exact ⟨rfl, Byt.nil, hE⟩
      · skip
        have hkhb22 := hb22
        try simp only [decide_eq_true_eq, decide_eq_false_iff_not, Bool.not_eq_true', Bool.not_eq_false', Decidable.not_not, Int.not_lt, Int.not_le, Bool.or_eq_true, Bool.and_eq_true, Bool.or_eq_false_iff, Bool.and_eq_false_iff] at hb22
        refine C_seq (C_region (RL_q rfl (Yd_eql rfl rfl) (RL_q rfl (Yd_assign rfl) (RL_nil (X_then (?_))))))
        refine C_cond rfl (fun hb33 => ?_) (fun hb33 => ?_)
        · skip
          have hkhb33 := hb33
          try simp only [decide_eq_true_eq, decide_eq_false_iff_not, Bool.not_eq_true', Bool.not_eq_false', Decidable.not_not, Int.not_lt, Int.not_le, Bool.or_eq_true, Bool.and_eq_true, Bool.or_eq_false_iff, Bool.and_eq_false_iff] at hb33
          refine C_seq (C_region (RL_q rfl (Yd_loadA Try.underlying43 rfl (by kernel_rfl) rfl (ldBA hB2)) (RL_l rfl (Ld_call Try.func46 rfl (by kernel_rfl) rfl (refUnpinV (f := f) (by assumption)) ?_))))
          rintro e W5 ⟨rfl, he5⟩
          refine ⟨_, rfl, ?_⟩
          replace hE := Ext.trans hE he5
          replace h_o := h_o.ext he5
          replace hB2 := hB2.ext he5
          replace hB3 := hB3.ext he5
          replace hB4 := hB4.ext he5
          have hs5 := he5.size
          have okr37 : FOk ((unpinF f).2) := unpinF_ok (by assumption)
          refine RL_q rfl (Yd_move rfl) (RL_q rfl (Yd_extract rfl rfl) (RL_q rfl (Yd_extract rfl rfl) (RL_l rfl (Ld_alloc (v := (.agg #[(.bool false), (.bool false), (.bool false), (.int .i64 0), (.int .i64 0), (.string ⟨#[]⟩)])) (by kernel_rfl) ?_))))
          have hg_9 := hE.size
          intro W6 he6 hz6 hB9
          replace hE := Ext.trans hE he6
          replace h_o := h_o.ext he6
          replace hB2 := hB2.ext he6
          replace hB3 := hB3.ext he6
          replace hB4 := hB4.ext he6
          refine RL_l0 (Ld_store (by kernel_rfl) rfl rfl hB9 (Nat.le_of_ble_eq_true rfl) (by simp [cellsL, Value.cells, Value.oneCell']) ?_)
          intro W7 hu7 hz7 hB9
          have hk7 := Kp.ofb hu7
          have hs7 := hk7.size
          replace hE := Ext.kp hE hk7 (fun k hk => by first | omega | (have hk := hk; dsimp only at hk; omega))
          replace h_o := h_o.kp hk7 (fun k hk => by first | omega | (have hk := hk; dsimp only at hk; omega))
          replace hB2 := hB2.kp hk7 (fun hk => by first | omega | (have hk := hk; dsimp only at hk; omega))
          replace hB3 := hB3.kp hk7 (fun hk => by first | omega | (have hk := hk; dsimp only at hk; omega))
          replace hB4 := hB4.kp hk7 (fun hk => by first | omega | (have hk := hk; dsimp only at hk; omega))
          refine RL_q rfl (Yd_assign rfl) (RL_nil (X_then (C_seq (C_region (RL_q rfl (Yd_loadA Try.underlying43 rfl (by kernel_rfl) rfl (ldBA hB9)) (RL_q rfl (Yd_move rfl) (RL_l0 (Ld_store (by kernel_rfl) rfl rfl hB4 (Nat.le_of_ble_eq_true rfl) (by simp [cellsL, Value.cells, Value.oneCell']) ?_))))))))
          intro W8 hu8 hz8 hB4
          have hk8 := Kp.ofb hu8
          have hs8 := hk8.size
          replace hE := Ext.kp hE hk8 (fun k hk => by first | omega | (have hk := hk; dsimp only at hk; omega))
          replace h_o := h_o.kp hk8 (fun k hk => by first | omega | (have hk := hk; dsimp only at hk; omega))
          replace hB2 := hB2.kp hk8 (fun hk => by first | omega | (have hk := hk; dsimp only at hk; omega))
          replace hB3 := hB3.kp hk8 (fun hk => by first | omega | (have hk := hk; dsimp only at hk; omega))
          replace hB9 := hB9.kp hk8 (fun hk => by first | omega | (have hk := hk; dsimp only at hk; omega))
          refine RL_q rfl (Yd_assign rfl) (RL_q rfl (Yd_assign rfl) (RL_nil (X_then (C_ret (X_blockR (X_thenR (X_retCTT rfl rfl rfl rfl Try.underlying43 rfl (by kernel_rfl) hB4 ?_)))))))
          have hp : doF f o bs = ([], (unpinF f).1, (⟨((unpinF f).2).u, ((unpinF f).2).d, ((unpinF f).2).r, ((unpinF f).2).pins, ((unpinF f).2).page, ((unpinF f).2).b⟩ : Fr)) := by unfold doF; rw [← hy21]; (repeat (first | rw [if_pos (by omega)] | rw [if_neg (by omega)])) <;> first | rfl | (unfold loadB; first | (rw [if_pos (by omega)]; done) | (rw [if_neg (by omega)]; done) | (rw [if_pos (by omega)]; rfl) | (rw [if_neg (by omega)]; rfl))
          rw [hp]; exact ⟨rfl, Byt.nil, hE⟩
        · skip
          have hkhb33 := hb33
          try simp only [decide_eq_true_eq, decide_eq_false_iff_not, Bool.not_eq_true', Bool.not_eq_false', Decidable.not_not, Int.not_lt, Int.not_le, Bool.or_eq_true, Bool.and_eq_true, Bool.or_eq_false_iff, Bool.and_eq_false_iff] at hb33
          refine C_seq (C_region (RL_q rfl (Yd_eql rfl rfl) (RL_q rfl (Yd_assign rfl) (RL_nil (X_then (?_))))))
          refine C_cond rfl (fun hb42 => ?_) (fun hb42 => ?_)
          · skip
            have hkhb42 := hb42
            try simp only [decide_eq_true_eq, decide_eq_false_iff_not, Bool.not_eq_true', Bool.not_eq_false', Decidable.not_not, Int.not_lt, Int.not_le, Bool.or_eq_true, Bool.and_eq_true, Bool.or_eq_false_iff, Bool.and_eq_false_iff] at hb42
            refine C_seq (C_region (RL_q rfl (Yd_loadA Try.underlying43 rfl (by kernel_rfl) rfl (ldBA hB2)) (RL_q rfl (Yd_fld (off := 2) Try.underlying51 (by kernel_rfl) rfl) (RL_q rfl (Yd_load Try.underlying3 rfl rfl (ldB hB3 rfl)) (RL_q rfl (Yd_fld (off := 3) Try.underlying51 (by kernel_rfl) rfl) (RL_q rfl (Yd_load Try.underlying3 rfl rfl (ldB hB3 rfl)) (RL_l rfl (Ld_call Try.func47 rfl (by kernel_rfl) rfl (refGetFV (f := f) (by assumption) ⟨by first | omega | (dsimp only; omega), by first | omega | (dsimp only; omega)⟩ ⟨by first | omega | (dsimp only; omega), by first | omega | (dsimp only; omega)⟩) ?_))))))))
            rintro e W5 ⟨A50, n50, c50, rfl, hF50, he5⟩
            refine ⟨_, rfl, ?_⟩
            replace hE := Ext.trans hE he5
            replace h_o := h_o.ext he5
            replace hB2 := hB2.ext he5
            replace hB3 := hB3.ext he5
            replace hB4 := hB4.ext he5
            have hs5 := he5.size
            have okr50 : FOk ((getF f o.off o.n).2.2) := getF_ok (by assumption)
            have hn50 := hF50.ln
            have hc50 := hF50.cap
            refine RL_q rfl (Yd_move rfl) (RL_q rfl (Yd_extract rfl rfl) (RL_q rfl (Yd_extract rfl rfl) (RL_q rfl (Yd_extract rfl rfl) (RL_l rfl (Ld_alloc (v := (.agg #[(.bool false), (.bool false), (.bool false), (.int .i64 0), (.int .i64 0), (.string ⟨#[]⟩)])) (by kernel_rfl) ?_)))))
            have hg_11 := hE.size
            intro W6 he6 hz6 hB11
            replace hE := Ext.trans hE he6
            replace h_o := h_o.ext he6
            replace hB2 := hB2.ext he6
            replace hB3 := hB3.ext he6
            replace hB4 := hB4.ext he6
            replace hF50 := hF50.ext he6
            refine RL_l0 (Ld_store (by kernel_rfl) rfl rfl hB11 (Nat.le_of_ble_eq_true rfl) (by simp [cellsL, Value.cells, Value.oneCell']) ?_)
            intro W7 hu7 hz7 hB11
            have hk7 := Kp.ofb hu7
            have hs7 := hk7.size
            replace hE := Ext.kp hE hk7 (fun k hk => by first | omega | (have hk := hk; dsimp only at hk; omega))
            replace h_o := h_o.kp hk7 (fun k hk => by first | omega | (have hk := hk; dsimp only at hk; omega))
            replace hB2 := hB2.kp hk7 (fun hk => by first | omega | (have hk := hk; dsimp only at hk; omega))
            replace hB3 := hB3.kp hk7 (fun hk => by first | omega | (have hk := hk; dsimp only at hk; omega))
            replace hB4 := hB4.kp hk7 (fun hk => by first | omega | (have hk := hk; dsimp only at hk; omega))
            replace hF50 := hF50.kp hk7 (fun k hk => by first | omega | (have hk := hk; dsimp only at hk; omega))
            refine RL_q rfl (Yd_assign rfl) (RL_q rfl (Yd_assign rfl) (RL_nil (X_then (C_seq (?_)))))
            refine C_regionD (fun k => k = W2.heap.size) (l := [(0, true), (1, true), (2, true), (3, true), (4, false), (5, true), (6, true)]) (by kernel_rfl) (by kernel_rfl) rfl (by kernel_rfl) (fun _ _ d _ _ h => by cases d <;> exact h) ?_
            intro W8 he8 hh8
            replace hE := Ext.trans hE he8
            replace h_o := h_o.ext he8
            replace hB2 := hB2.ext he8
            replace hB3 := hB3.ext he8
            replace hB4 := hB4.ext he8
            replace hF50 := hF50.ext he8
            replace hB11 := hB11.ext he8
            have hs8 := he8.size
            refine RO_q rfl rfl (Yd_loadA (cs := [.bool ((getF f o.off o.n).2.2).u, .bool ((getF f o.off o.n).2.2).d, .bool ((getF f o.off o.n).2.2).r, .int .i64 ((getF f o.off o.n).2.2).pins, .int .i64 ((getF f o.off o.n).2.2).page, .string (strOfNums (((getF f o.off o.n).2.2).b))]) Try.underlying43 rfl (by kernel_rfl) rfl (fun W hW => ldBS (Blk.kp hB11 hW (fun hk => by first | omega | (have hk := hk; dsimp only at hk; omega))) 0 [.bool ((getF f o.off o.n).2.2).u, .bool ((getF f o.off o.n).2.2).d, .bool ((getF f o.off o.n).2.2).r, .int .i64 ((getF f o.off o.n).2.2).pins, .int .i64 ((getF f o.off o.n).2.2).page, .string (strOfNums (((getF f o.off o.n).2.2).b))] rfl W (Ext.refl W))) (RO_q rfl rfl (Yd_move rfl) (RO_q rfl rfl (Yd_str Try.underlying32 Try.underlying5 Try.underlying9 rfl (fun W hW => (Vw.kp (hF50.vw) hW (fun k hk => by first | omega | (have hk := hk; dsimp only at hk; omega))).u8)) (RO_q rfl rfl (Yd_move rfl) (RO_l0 rfl (Ld_store (by kernel_rfl) rfl rfl hB4 (Nat.le_of_ble_eq_true rfl) (by simp [cellsL, Value.cells, Value.oneCell']) ?_)))))
            intro W9 hu9 hz9 hB4
            refine ⟨Kp.of_but hu9 (by first | rfl | omega | (dsimp only; omega)), ?_⟩
            have hk9 := Kp.ofb hu9
            have hs9 := hk9.size
            replace hE := Ext.kp hE hk9 (fun k hk => by first | omega | (have hk := hk; dsimp only at hk; omega))
            replace h_o := h_o.kp hk9 (fun k hk => by first | omega | (have hk := hk; dsimp only at hk; omega))
            replace hB2 := hB2.kp hk9 (fun hk => by first | omega | (have hk := hk; dsimp only at hk; omega))
            replace hB3 := hB3.kp hk9 (fun hk => by first | omega | (have hk := hk; dsimp only at hk; omega))
            replace hF50 := hF50.kp hk9 (fun k hk => by first | omega | (have hk := hk; dsimp only at hk; omega))
            replace hB11 := hB11.kp hk9 (fun hk => by first | omega | (have hk := hk; dsimp only at hk; omega))
            refine RO_q rfl rfl (Yd_assign rfl) (RO_q rfl rfl (Yd_assign rfl) (RO_nil (X_then (C_ret (X_blockR (X_thenR (X_retCTT rfl rfl rfl rfl Try.underlying43 rfl (by kernel_rfl) hB4 ?_)))))))
            have hp : doF f o bs = ((getF f o.off o.n).1, (getF f o.off o.n).2.1, (⟨((getF f o.off o.n).2.2).u, ((getF f o.off o.n).2.2).d, ((getF f o.off o.n).2.2).r, ((getF f o.off o.n).2.2).pins, ((getF f o.off o.n).2.2).page, ((getF f o.off o.n).2.2).b⟩ : Fr)) := by unfold doF; rw [← hy21]; (repeat (first | rw [if_pos (by omega)] | rw [if_neg (by omega)])) <;> first | rfl | (unfold loadB; first | (rw [if_pos (by omega)]; done) | (rw [if_neg (by omega)]; done) | (rw [if_pos (by omega)]; rfl) | (rw [if_neg (by omega)]; rfl))
            rw [hp]; exact ⟨rfl, hF50.byt, hE⟩
          · skip
            have hkhb42 := hb42
            try simp only [decide_eq_true_eq, decide_eq_false_iff_not, Bool.not_eq_true', Bool.not_eq_false', Decidable.not_not, Int.not_lt, Int.not_le, Bool.or_eq_true, Bool.and_eq_true, Bool.or_eq_false_iff, Bool.and_eq_false_iff] at hb42
            refine C_seq (C_seq (C_region (RL_q rfl (Yd_eql rfl rfl) (RL_q rfl (Yd_assign rfl) (RL_nil (X_then (?_)))))))
            refine C_cond rfl (fun hb58 => ?_) (fun hb58 => ?_)
            · skip
              have hkhb58 := hb58
              try simp only [decide_eq_true_eq, decide_eq_false_iff_not, Bool.not_eq_true', Bool.not_eq_false', Decidable.not_not, Int.not_lt, Int.not_le, Bool.or_eq_true, Bool.and_eq_true, Bool.or_eq_false_iff, Bool.and_eq_false_iff] at hb58
              refine C_skip (X_then (C_yes rfl hkhb58 (C_seq (?_))))
              refine C_regionP (fun k => W3.heap.size ≤ k) (p := (.q 0 (.q 1 (.q 2 (.q 3 (.q 4 (.two 5 10 (.two 6 10 (.q 7 (.q 8 (.q 9 (.l 10 (.l 11 (.q 12 .nil)))))) (.l 6 (.q 7 (.q 8 (.q 9 (.l 11 (.q 12 .nil))))))) (.l 5 (.l 6 (.q 7 (.q 8 (.q 9 (.l 11 (.q 12 .nil)))))))))))))) (by kernel_rfl) (by kernel_rfl) rfl (by kernel_rfl) (fun _ _ d _ _ h => by cases d <;> exact h) ?_
              intro W5 he5 hh5
              replace hE := Ext.trans hE he5
              replace h_o := h_o.ext he5
              replace hB2 := hB2.ext he5
              replace hB3 := hB3.ext he5
              replace hB4 := hB4.ext he5
              have hs5 := he5.size
              refine RP_q rfl rfl (Yd_loadA (cs := [.bool f.u, .bool f.d, .bool f.r, .int .i64 f.pins, .int .i64 f.page, .string (strOfNums f.b)]) Try.underlying43 rfl (by kernel_rfl) rfl (fun W hW => ldBS (Blk.kp hB2 hW (fun hk => by first | omega | (have hk := hk; dsimp only at hk; omega))) 0 [.bool f.u, .bool f.d, .bool f.r, .int .i64 f.pins, .int .i64 f.page, .string (strOfNums f.b)] rfl W (Ext.refl W))) (RP_q rfl rfl (Yd_fld (off := 2) Try.underlying51 (by kernel_rfl) rfl) (RP_q rfl rfl (Yd_load Try.underlying3 rfl rfl (fun W hW => ldBK hB3 rfl hW (fun hk => by first | omega | (have hk := hk; dsimp only at hk; omega)))) (RP_q rfl rfl (Yd_fld (off := 4) Try.underlying51 (by kernel_rfl) rfl) (RP_q rfl rfl (Yd_load Try.underlying32 rfl rfl (fun W hW => ldBK hB3 rfl hW (fun hk => by first | omega | (have hk := hk; dsimp only at hk; omega)))) (?_)))))
              refine RP_two rfl rfl ?_ ?_
              · skip
                refine RPl_l rfl (Ld_call Try.func22 rfl (by kernel_rfl) rfl (FewV h_o ⟨by first | omega | (dsimp only; omega), by first | omega | (dsimp only; omega)⟩) ?_)
                rintro e W6 ⟨A67, n67, c67, rfl, hF67, hle67, he6⟩
                refine ⟨_, rfl, ?_⟩
                refine ⟨Kp.of_ext he6, ?_⟩
                replace hE := Ext.trans hE he6
                replace h_o := h_o.ext he6
                replace hB2 := hB2.ext he6
                replace hB3 := hB3.ext he6
                replace hB4 := hB4.ext he6
                have hs6 := he6.size
                have hn67 := hF67.ln
                try simp only [List.length_append, List.length_cons, List.length_nil, List.length_set, List.length_take, List.length_drop, List.length_replicate, List.length_map, Nat.zero_add, Nat.add_zero] at hn67
                have hc67 := hF67.cap
                try rw [hle67.2.2.1 (by omega)] at hF67 hn67
                refine RP_two rfl rfl ?_ ?_
                · skip
                  refine RPl_l rfl (Ld_call Try.func48 rfl (by kernel_rfl) rfl (refPutFV (f := f) (by assumption) ⟨by first | omega | (dsimp only; omega), by first | omega | (dsimp only; omega)⟩ hF67.vw) ?_)
                  rintro e W7 ⟨rfl, he7⟩
                  refine ⟨_, rfl, ?_⟩
                  refine ⟨Kp.of_ext he7, ?_⟩
                  replace hE := Ext.trans hE he7
                  replace h_o := h_o.ext he7
                  replace hB2 := hB2.ext he7
                  replace hB3 := hB3.ext he7
                  replace hB4 := hB4.ext he7
                  replace hF67 := hF67.ext he7
                  have hs7 := he7.size
                  have okr68 : FOk ((putF f o.off (few bs 40)).2) := putF_ok (by assumption) hF67.vw.byt
                  refine RP_q rfl rfl (Yd_move rfl) (RP_q rfl rfl (Yd_extract rfl rfl) (RP_q rfl rfl (Yd_extract rfl rfl) (RP_loud rfl (RPl_l rfl (Ld_alloc (v := (.agg #[(.bool false), (.bool false), (.bool false), (.int .i64 0), (.int .i64 0), (.string ⟨#[]⟩)])) (by kernel_rfl) ?_)))))
                  have hg_14 := hE.size
                  intro W8 he8 hz8 hB14
                  refine ⟨Kp.of_ext he8, ?_⟩
                  replace hE := Ext.trans hE he8
                  replace h_o := h_o.ext he8
                  replace hB2 := hB2.ext he8
                  replace hB3 := hB3.ext he8
                  replace hB4 := hB4.ext he8
                  replace hF67 := hF67.ext he8
                  refine RP_loud rfl (RPl_l0 (Ld_store (by kernel_rfl) rfl rfl hB14 (Nat.le_of_ble_eq_true rfl) (by simp [cellsL, Value.cells, Value.oneCell']) ?_))
                  intro W9 hu9 hz9 hB14
                  refine ⟨Kp.of_but hu9 (by first | rfl | omega | (dsimp only; omega)), ?_⟩
                  have hk9 := Kp.ofb hu9
                  have hs9 := hk9.size
                  replace hE := Ext.kp hE hk9 (fun k hk => by first | omega | (have hk := hk; dsimp only at hk; omega))
                  replace h_o := h_o.kp hk9 (fun k hk => by first | omega | (have hk := hk; dsimp only at hk; omega))
                  replace hB2 := hB2.kp hk9 (fun hk => by first | omega | (have hk := hk; dsimp only at hk; omega))
                  replace hB3 := hB3.kp hk9 (fun hk => by first | omega | (have hk := hk; dsimp only at hk; omega))
                  replace hB4 := hB4.kp hk9 (fun hk => by first | omega | (have hk := hk; dsimp only at hk; omega))
                  replace hF67 := hF67.kp hk9 (fun k hk => by first | omega | (have hk := hk; dsimp only at hk; omega))
                  refine RP_q rfl rfl (Yd_assign rfl) (RP_nil (X_then (C_seq (C_region (RL_q rfl (Yd_loadA Try.underlying43 rfl (by kernel_rfl) rfl (ldBA hB14)) (RL_q rfl (Yd_move rfl) (RL_l0 (Ld_store (by kernel_rfl) rfl rfl hB4 (Nat.le_of_ble_eq_true rfl) (by simp [cellsL, Value.cells, Value.oneCell']) ?_))))))))
                  intro W10 hu10 hz10 hB4
                  have hk10 := Kp.ofb hu10
                  have hs10 := hk10.size
                  replace hE := Ext.kp hE hk10 (fun k hk => by first | omega | (have hk := hk; dsimp only at hk; omega))
                  replace h_o := h_o.kp hk10 (fun k hk => by first | omega | (have hk := hk; dsimp only at hk; omega))
                  replace hB2 := hB2.kp hk10 (fun hk => by first | omega | (have hk := hk; dsimp only at hk; omega))
                  replace hB3 := hB3.kp hk10 (fun hk => by first | omega | (have hk := hk; dsimp only at hk; omega))
                  replace hF67 := hF67.kp hk10 (fun k hk => by first | omega | (have hk := hk; dsimp only at hk; omega))
                  replace hB14 := hB14.kp hk10 (fun hk => by first | omega | (have hk := hk; dsimp only at hk; omega))
                  refine RL_q rfl (Yd_assign rfl) (RL_q rfl (Yd_assign rfl) (RL_nil (X_then (C_ret (X_blockR (X_thenR (X_retCTT rfl rfl rfl rfl Try.underlying43 rfl (by kernel_rfl) hB4 ?_)))))))
                  have hp : doF f o bs = ([], (putF f o.off (few bs 40)).1, (⟨((putF f o.off (few bs 40)).2).u, ((putF f o.off (few bs 40)).2).d, ((putF f o.off (few bs 40)).2).r, ((putF f o.off (few bs 40)).2).pins, ((putF f o.off (few bs 40)).2).page, ((putF f o.off (few bs 40)).2).b⟩ : Fr)) := by unfold doF; rw [← hy21]; (repeat (first | rw [if_pos (by omega)] | rw [if_neg (by omega)])) <;> first | rfl | (unfold loadB; first | (rw [if_pos (by omega)]; done) | (rw [if_neg (by omega)]; done) | (rw [if_pos (by omega)]; rfl) | (rw [if_neg (by omega)]; rfl))
                  rw [hp]; exact ⟨rfl, Byt.nil, hE⟩
                · skip
                  refine RPl_l rfl (Ld_alloc (v := (.agg #[(.bool false), (.bool false), (.bool false), (.int .i64 0), (.int .i64 0), (.string ⟨#[]⟩)])) (by kernel_rfl) ?_)
                  have hg_14 := hE.size
                  intro W7 he7 hz7 hB14
                  refine ⟨Kp.of_ext he7, ?_⟩
                  replace hE := Ext.trans hE he7
                  replace h_o := h_o.ext he7
                  replace hB2 := hB2.ext he7
                  replace hB3 := hB3.ext he7
                  replace hB4 := hB4.ext he7
                  replace hF67 := hF67.ext he7
                  refine RP_loud rfl (RPl_l rfl (Ld_call Try.func48 rfl (by kernel_rfl) rfl (refPutFV (f := f) (by assumption) ⟨by first | omega | (dsimp only; omega), by first | omega | (dsimp only; omega)⟩ hF67.vw) ?_))
                  rintro e W8 ⟨rfl, he8⟩
                  refine ⟨_, rfl, ?_⟩
                  refine ⟨Kp.of_ext he8, ?_⟩
                  replace hE := Ext.trans hE he8
                  replace h_o := h_o.ext he8
                  replace hB2 := hB2.ext he8
                  replace hB3 := hB3.ext he8
                  replace hB4 := hB4.ext he8
                  replace hF67 := hF67.ext he8
                  replace hB14 := hB14.ext he8
                  have hs8 := he8.size
                  have okr68 : FOk ((putF f o.off (few bs 40)).2) := putF_ok (by assumption) hF67.vw.byt
                  refine RP_q rfl rfl (Yd_move rfl) (RP_q rfl rfl (Yd_extract rfl rfl) (RP_q rfl rfl (Yd_extract rfl rfl) (RP_loud rfl (RPl_l0 (Ld_store (by kernel_rfl) rfl rfl hB14 (Nat.le_of_ble_eq_true rfl) (by simp [cellsL, Value.cells, Value.oneCell']) ?_)))))
                  intro W9 hu9 hz9 hB14
                  refine ⟨Kp.of_but hu9 (by first | rfl | omega | (dsimp only; omega)), ?_⟩
                  have hk9 := Kp.ofb hu9
                  have hs9 := hk9.size
                  replace hE := Ext.kp hE hk9 (fun k hk => by first | omega | (have hk := hk; dsimp only at hk; omega))
                  replace h_o := h_o.kp hk9 (fun k hk => by first | omega | (have hk := hk; dsimp only at hk; omega))
                  replace hB2 := hB2.kp hk9 (fun hk => by first | omega | (have hk := hk; dsimp only at hk; omega))
                  replace hB3 := hB3.kp hk9 (fun hk => by first | omega | (have hk := hk; dsimp only at hk; omega))
                  replace hB4 := hB4.kp hk9 (fun hk => by first | omega | (have hk := hk; dsimp only at hk; omega))
                  replace hF67 := hF67.kp hk9 (fun k hk => by first | omega | (have hk := hk; dsimp only at hk; omega))
                  refine RP_q rfl rfl (Yd_assign rfl) (RP_nil (X_then (C_seq (C_region (RL_q rfl (Yd_loadA Try.underlying43 rfl (by kernel_rfl) rfl (ldBA hB14)) (RL_q rfl (Yd_move rfl) (RL_l0 (Ld_store (by kernel_rfl) rfl rfl hB4 (Nat.le_of_ble_eq_true rfl) (by simp [cellsL, Value.cells, Value.oneCell']) ?_))))))))
                  intro W10 hu10 hz10 hB4
                  have hk10 := Kp.ofb hu10
                  have hs10 := hk10.size
                  replace hE := Ext.kp hE hk10 (fun k hk => by first | omega | (have hk := hk; dsimp only at hk; omega))
                  replace h_o := h_o.kp hk10 (fun k hk => by first | omega | (have hk := hk; dsimp only at hk; omega))
                  replace hB2 := hB2.kp hk10 (fun hk => by first | omega | (have hk := hk; dsimp only at hk; omega))
                  replace hB3 := hB3.kp hk10 (fun hk => by first | omega | (have hk := hk; dsimp only at hk; omega))
                  replace hF67 := hF67.kp hk10 (fun k hk => by first | omega | (have hk := hk; dsimp only at hk; omega))
                  replace hB14 := hB14.kp hk10 (fun hk => by first | omega | (have hk := hk; dsimp only at hk; omega))
                  refine RL_q rfl (Yd_assign rfl) (RL_q rfl (Yd_assign rfl) (RL_nil (X_then (C_ret (X_blockR (X_thenR (X_retCTT rfl rfl rfl rfl Try.underlying43 rfl (by kernel_rfl) hB4 ?_)))))))
                  have hp : doF f o bs = ([], (putF f o.off (few bs 40)).1, (⟨((putF f o.off (few bs 40)).2).u, ((putF f o.off (few bs 40)).2).d, ((putF f o.off (few bs 40)).2).r, ((putF f o.off (few bs 40)).2).pins, ((putF f o.off (few bs 40)).2).page, ((putF f o.off (few bs 40)).2).b⟩ : Fr)) := by unfold doF; rw [← hy21]; (repeat (first | rw [if_pos (by omega)] | rw [if_neg (by omega)])) <;> first | rfl | (unfold loadB; first | (rw [if_pos (by omega)]; done) | (rw [if_neg (by omega)]; done) | (rw [if_pos (by omega)]; rfl) | (rw [if_neg (by omega)]; rfl))
                  rw [hp]; exact ⟨rfl, Byt.nil, hE⟩
              · skip
                refine RPl_l rfl (Ld_alloc (v := (.agg #[(.bool false), (.bool false), (.bool false), (.int .i64 0), (.int .i64 0), (.string ⟨#[]⟩)])) (by kernel_rfl) ?_)
                have hg_14 := hE.size
                intro W6 he6 hz6 hB14
                refine ⟨Kp.of_ext he6, ?_⟩
                replace hE := Ext.trans hE he6
                replace h_o := h_o.ext he6
                replace hB2 := hB2.ext he6
                replace hB3 := hB3.ext he6
                replace hB4 := hB4.ext he6
                refine RP_loud rfl (RPl_l rfl (Ld_call Try.func22 rfl (by kernel_rfl) rfl (FewV h_o ⟨by first | omega | (dsimp only; omega), by first | omega | (dsimp only; omega)⟩) ?_))
                rintro e W7 ⟨A67, n67, c67, rfl, hF67, hle67, he7⟩
                refine ⟨_, rfl, ?_⟩
                refine ⟨Kp.of_ext he7, ?_⟩
                replace hE := Ext.trans hE he7
                replace h_o := h_o.ext he7
                replace hB2 := hB2.ext he7
                replace hB3 := hB3.ext he7
                replace hB4 := hB4.ext he7
                replace hB14 := hB14.ext he7
                have hs7 := he7.size
                have hn67 := hF67.ln
                try simp only [List.length_append, List.length_cons, List.length_nil, List.length_set, List.length_take, List.length_drop, List.length_replicate, List.length_map, Nat.zero_add, Nat.add_zero] at hn67
                have hc67 := hF67.cap
                try rw [hle67.2.2.1 (by omega)] at hF67 hn67
                refine RP_loud rfl (RPl_l rfl (Ld_call Try.func48 rfl (by kernel_rfl) rfl (refPutFV (f := f) (by assumption) ⟨by first | omega | (dsimp only; omega), by first | omega | (dsimp only; omega)⟩ hF67.vw) ?_))
                rintro e W8 ⟨rfl, he8⟩
                refine ⟨_, rfl, ?_⟩
                refine ⟨Kp.of_ext he8, ?_⟩
                replace hE := Ext.trans hE he8
                replace h_o := h_o.ext he8
                replace hB2 := hB2.ext he8
                replace hB3 := hB3.ext he8
                replace hB4 := hB4.ext he8
                replace hB14 := hB14.ext he8
                replace hF67 := hF67.ext he8
                have hs8 := he8.size
                have okr68 : FOk ((putF f o.off (few bs 40)).2) := putF_ok (by assumption) hF67.vw.byt
                refine RP_q rfl rfl (Yd_move rfl) (RP_q rfl rfl (Yd_extract rfl rfl) (RP_q rfl rfl (Yd_extract rfl rfl) (RP_loud rfl (RPl_l0 (Ld_store (by kernel_rfl) rfl rfl hB14 (Nat.le_of_ble_eq_true rfl) (by simp [cellsL, Value.cells, Value.oneCell']) ?_)))))
                intro W9 hu9 hz9 hB14
                refine ⟨Kp.of_but hu9 (by first | rfl | omega | (dsimp only; omega)), ?_⟩
                have hk9 := Kp.ofb hu9
                have hs9 := hk9.size
                replace hE := Ext.kp hE hk9 (fun k hk => by first | omega | (have hk := hk; dsimp only at hk; omega))
                replace h_o := h_o.kp hk9 (fun k hk => by first | omega | (have hk := hk; dsimp only at hk; omega))
                replace hB2 := hB2.kp hk9 (fun hk => by first | omega | (have hk := hk; dsimp only at hk; omega))
                replace hB3 := hB3.kp hk9 (fun hk => by first | omega | (have hk := hk; dsimp only at hk; omega))
                replace hB4 := hB4.kp hk9 (fun hk => by first | omega | (have hk := hk; dsimp only at hk; omega))
                replace hF67 := hF67.kp hk9 (fun k hk => by first | omega | (have hk := hk; dsimp only at hk; omega))
                refine RP_q rfl rfl (Yd_assign rfl) (RP_nil (X_then (C_seq (C_region (RL_q rfl (Yd_loadA Try.underlying43 rfl (by kernel_rfl) rfl (ldBA hB14)) (RL_q rfl (Yd_move rfl) (RL_l0 (Ld_store (by kernel_rfl) rfl rfl hB4 (Nat.le_of_ble_eq_true rfl) (by simp [cellsL, Value.cells, Value.oneCell']) ?_))))))))
                intro W10 hu10 hz10 hB4
                have hk10 := Kp.ofb hu10
                have hs10 := hk10.size
                replace hE := Ext.kp hE hk10 (fun k hk => by first | omega | (have hk := hk; dsimp only at hk; omega))
                replace h_o := h_o.kp hk10 (fun k hk => by first | omega | (have hk := hk; dsimp only at hk; omega))
                replace hB2 := hB2.kp hk10 (fun hk => by first | omega | (have hk := hk; dsimp only at hk; omega))
                replace hB3 := hB3.kp hk10 (fun hk => by first | omega | (have hk := hk; dsimp only at hk; omega))
                replace hB14 := hB14.kp hk10 (fun hk => by first | omega | (have hk := hk; dsimp only at hk; omega))
                replace hF67 := hF67.kp hk10 (fun k hk => by first | omega | (have hk := hk; dsimp only at hk; omega))
                refine RL_q rfl (Yd_assign rfl) (RL_q rfl (Yd_assign rfl) (RL_nil (X_then (C_ret (X_blockR (X_thenR (X_retCTT rfl rfl rfl rfl Try.underlying43 rfl (by kernel_rfl) hB4 ?_)))))))
                have hp : doF f o bs = ([], (putF f o.off (few bs 40)).1, (⟨((putF f o.off (few bs 40)).2).u, ((putF f o.off (few bs 40)).2).d, ((putF f o.off (few bs 40)).2).r, ((putF f o.off (few bs 40)).2).pins, ((putF f o.off (few bs 40)).2).page, ((putF f o.off (few bs 40)).2).b⟩ : Fr)) := by unfold doF; rw [← hy21]; (repeat (first | rw [if_pos (by omega)] | rw [if_neg (by omega)])) <;> first | rfl | (unfold loadB; first | (rw [if_pos (by omega)]; done) | (rw [if_neg (by omega)]; done) | (rw [if_pos (by omega)]; rfl) | (rw [if_neg (by omega)]; rfl))
                rw [hp]; exact ⟨rfl, Byt.nil, hE⟩
            · skip
              have hkhb58 := hb58
              try simp only [decide_eq_true_eq, decide_eq_false_iff_not, Bool.not_eq_true', Bool.not_eq_false', Decidable.not_not, Int.not_lt, Int.not_le, Bool.or_eq_true, Bool.and_eq_true, Bool.or_eq_false_iff, Bool.and_eq_false_iff] at hb58
              refine C_region (RL_q rfl (Yd_eql rfl rfl) (RL_q rfl (Yd_assign rfl) (RL_nil (X_then (?_)))))
              refine C_cond rfl (fun hb58 => ?_) (fun hb58 => ?_)
              · skip
                have hkhb58 := hb58
                try simp only [decide_eq_true_eq, decide_eq_false_iff_not, Bool.not_eq_true', Bool.not_eq_false', Decidable.not_not, Int.not_lt, Int.not_le, Bool.or_eq_true, Bool.and_eq_true, Bool.or_eq_false_iff, Bool.and_eq_false_iff] at hb58
                refine C_seq (?_)
                refine C_regionP (fun k => W3.heap.size ≤ k) (p := (.q 0 (.q 1 (.q 2 (.q 3 (.q 4 (.two 5 10 (.two 6 10 (.q 7 (.q 8 (.q 9 (.l 10 (.l 11 (.q 12 .nil)))))) (.l 6 (.q 7 (.q 8 (.q 9 (.l 11 (.q 12 .nil))))))) (.l 5 (.l 6 (.q 7 (.q 8 (.q 9 (.l 11 (.q 12 .nil)))))))))))))) (by kernel_rfl) (by kernel_rfl) rfl (by kernel_rfl) (fun _ _ d _ _ h => by cases d <;> exact h) ?_
                intro W5 he5 hh5
                replace hE := Ext.trans hE he5
                replace h_o := h_o.ext he5
                replace hB2 := hB2.ext he5
                replace hB3 := hB3.ext he5
                replace hB4 := hB4.ext he5
                have hs5 := he5.size
                refine RP_q rfl rfl (Yd_loadA (cs := [.bool f.u, .bool f.d, .bool f.r, .int .i64 f.pins, .int .i64 f.page, .string (strOfNums f.b)]) Try.underlying43 rfl (by kernel_rfl) rfl (fun W hW => ldBS (Blk.kp hB2 hW (fun hk => by first | omega | (have hk := hk; dsimp only at hk; omega))) 0 [.bool f.u, .bool f.d, .bool f.r, .int .i64 f.pins, .int .i64 f.page, .string (strOfNums f.b)] rfl W (Ext.refl W))) (RP_q rfl rfl (Yd_fld (off := 2) Try.underlying51 (by kernel_rfl) rfl) (RP_q rfl rfl (Yd_load Try.underlying3 rfl rfl (fun W hW => ldBK hB3 rfl hW (fun hk => by first | omega | (have hk := hk; dsimp only at hk; omega)))) (RP_q rfl rfl (Yd_fld (off := 4) Try.underlying51 (by kernel_rfl) rfl) (RP_q rfl rfl (Yd_load Try.underlying32 rfl rfl (fun W hW => ldBK hB3 rfl hW (fun hk => by first | omega | (have hk := hk; dsimp only at hk; omega)))) (?_)))))
                refine RP_two rfl rfl ?_ ?_
                · skip
                  refine RPl_l rfl (Ld_call Try.func22 rfl (by kernel_rfl) rfl (FewV h_o ⟨by first | omega | (dsimp only; omega), by first | omega | (dsimp only; omega)⟩) ?_)
                  rintro e W6 ⟨A67, n67, c67, rfl, hF67, hle67, he6⟩
                  refine ⟨_, rfl, ?_⟩
                  refine ⟨Kp.of_ext he6, ?_⟩
                  replace hE := Ext.trans hE he6
                  replace h_o := h_o.ext he6
                  replace hB2 := hB2.ext he6
                  replace hB3 := hB3.ext he6
                  replace hB4 := hB4.ext he6
                  have hs6 := he6.size
                  have hn67 := hF67.ln
                  try simp only [List.length_append, List.length_cons, List.length_nil, List.length_set, List.length_take, List.length_drop, List.length_replicate, List.length_map, Nat.zero_add, Nat.add_zero] at hn67
                  have hc67 := hF67.cap
                  try rw [hle67.2.2.1 (by omega)] at hF67 hn67
                  refine RP_two rfl rfl ?_ ?_
                  · skip
                    refine RPl_l rfl (Ld_call Try.func48 rfl (by kernel_rfl) rfl (refPutFV (f := f) (by assumption) ⟨by first | omega | (dsimp only; omega), by first | omega | (dsimp only; omega)⟩ hF67.vw) ?_)
                    rintro e W7 ⟨rfl, he7⟩
                    refine ⟨_, rfl, ?_⟩
                    refine ⟨Kp.of_ext he7, ?_⟩
                    replace hE := Ext.trans hE he7
                    replace h_o := h_o.ext he7
                    replace hB2 := hB2.ext he7
                    replace hB3 := hB3.ext he7
                    replace hB4 := hB4.ext he7
                    replace hF67 := hF67.ext he7
                    have hs7 := he7.size
                    have okr68 : FOk ((putF f o.off (few bs 40)).2) := putF_ok (by assumption) hF67.vw.byt
                    refine RP_q rfl rfl (Yd_move rfl) (RP_q rfl rfl (Yd_extract rfl rfl) (RP_q rfl rfl (Yd_extract rfl rfl) (RP_loud rfl (RPl_l rfl (Ld_alloc (v := (.agg #[(.bool false), (.bool false), (.bool false), (.int .i64 0), (.int .i64 0), (.string ⟨#[]⟩)])) (by kernel_rfl) ?_)))))
                    have hg_14 := hE.size
                    intro W8 he8 hz8 hB14
                    refine ⟨Kp.of_ext he8, ?_⟩
                    replace hE := Ext.trans hE he8
                    replace h_o := h_o.ext he8
                    replace hB2 := hB2.ext he8
                    replace hB3 := hB3.ext he8
                    replace hB4 := hB4.ext he8
                    replace hF67 := hF67.ext he8
                    refine RP_loud rfl (RPl_l0 (Ld_store (by kernel_rfl) rfl rfl hB14 (Nat.le_of_ble_eq_true rfl) (by simp [cellsL, Value.cells, Value.oneCell']) ?_))
                    intro W9 hu9 hz9 hB14
                    refine ⟨Kp.of_but hu9 (by first | rfl | omega | (dsimp only; omega)), ?_⟩
                    have hk9 := Kp.ofb hu9
                    have hs9 := hk9.size
                    replace hE := Ext.kp hE hk9 (fun k hk => by first | omega | (have hk := hk; dsimp only at hk; omega))
                    replace h_o := h_o.kp hk9 (fun k hk => by first | omega | (have hk := hk; dsimp only at hk; omega))
                    replace hB2 := hB2.kp hk9 (fun hk => by first | omega | (have hk := hk; dsimp only at hk; omega))
                    replace hB3 := hB3.kp hk9 (fun hk => by first | omega | (have hk := hk; dsimp only at hk; omega))
                    replace hB4 := hB4.kp hk9 (fun hk => by first | omega | (have hk := hk; dsimp only at hk; omega))
                    replace hF67 := hF67.kp hk9 (fun k hk => by first | omega | (have hk := hk; dsimp only at hk; omega))
                    refine RP_q rfl rfl (Yd_assign rfl) (RP_nil (X_then (C_seq (C_region (RL_q rfl (Yd_loadA Try.underlying43 rfl (by kernel_rfl) rfl (ldBA hB14)) (RL_q rfl (Yd_move rfl) (RL_l0 (Ld_store (by kernel_rfl) rfl rfl hB4 (Nat.le_of_ble_eq_true rfl) (by simp [cellsL, Value.cells, Value.oneCell']) ?_))))))))
                    intro W10 hu10 hz10 hB4
                    have hk10 := Kp.ofb hu10
                    have hs10 := hk10.size
                    replace hE := Ext.kp hE hk10 (fun k hk => by first | omega | (have hk := hk; dsimp only at hk; omega))
                    replace h_o := h_o.kp hk10 (fun k hk => by first | omega | (have hk := hk; dsimp only at hk; omega))
                    replace hB2 := hB2.kp hk10 (fun hk => by first | omega | (have hk := hk; dsimp only at hk; omega))
                    replace hB3 := hB3.kp hk10 (fun hk => by first | omega | (have hk := hk; dsimp only at hk; omega))
                    replace hF67 := hF67.kp hk10 (fun k hk => by first | omega | (have hk := hk; dsimp only at hk; omega))
                    replace hB14 := hB14.kp hk10 (fun hk => by first | omega | (have hk := hk; dsimp only at hk; omega))
                    refine RL_q rfl (Yd_assign rfl) (RL_q rfl (Yd_assign rfl) (RL_nil (X_then (C_ret (X_blockR (X_thenR (X_retCTT rfl rfl rfl rfl Try.underlying43 rfl (by kernel_rfl) hB4 ?_)))))))
                    have hp : doF f o bs = ([], (putF f o.off (few bs 40)).1, (⟨((putF f o.off (few bs 40)).2).u, ((putF f o.off (few bs 40)).2).d, ((putF f o.off (few bs 40)).2).r, ((putF f o.off (few bs 40)).2).pins, ((putF f o.off (few bs 40)).2).page, ((putF f o.off (few bs 40)).2).b⟩ : Fr)) := by unfold doF; rw [← hy21]; (repeat (first | rw [if_pos (by omega)] | rw [if_neg (by omega)])) <;> first | rfl | (unfold loadB; first | (rw [if_pos (by omega)]; done) | (rw [if_neg (by omega)]; done) | (rw [if_pos (by omega)]; rfl) | (rw [if_neg (by omega)]; rfl))
                    rw [hp]; exact ⟨rfl, Byt.nil, hE⟩
                  · skip
                    refine RPl_l rfl (Ld_alloc (v := (.agg #[(.bool false), (.bool false), (.bool false), (.int .i64 0), (.int .i64 0), (.string ⟨#[]⟩)])) (by kernel_rfl) ?_)
                    have hg_14 := hE.size
                    intro W7 he7 hz7 hB14
                    refine ⟨Kp.of_ext he7, ?_⟩
                    replace hE := Ext.trans hE he7
                    replace h_o := h_o.ext he7
                    replace hB2 := hB2.ext he7
                    replace hB3 := hB3.ext he7
                    replace hB4 := hB4.ext he7
                    replace hF67 := hF67.ext he7
                    refine RP_loud rfl (RPl_l rfl (Ld_call Try.func48 rfl (by kernel_rfl) rfl (refPutFV (f := f) (by assumption) ⟨by first | omega | (dsimp only; omega), by first | omega | (dsimp only; omega)⟩ hF67.vw) ?_))
                    rintro e W8 ⟨rfl, he8⟩
                    refine ⟨_, rfl, ?_⟩
                    refine ⟨Kp.of_ext he8, ?_⟩
                    replace hE := Ext.trans hE he8
                    replace h_o := h_o.ext he8
                    replace hB2 := hB2.ext he8
                    replace hB3 := hB3.ext he8
                    replace hB4 := hB4.ext he8
                    replace hF67 := hF67.ext he8
                    replace hB14 := hB14.ext he8
                    have hs8 := he8.size
                    have okr68 : FOk ((putF f o.off (few bs 40)).2) := putF_ok (by assumption) hF67.vw.byt
                    refine RP_q rfl rfl (Yd_move rfl) (RP_q rfl rfl (Yd_extract rfl rfl) (RP_q rfl rfl (Yd_extract rfl rfl) (RP_loud rfl (RPl_l0 (Ld_store (by kernel_rfl) rfl rfl hB14 (Nat.le_of_ble_eq_true rfl) (by simp [cellsL, Value.cells, Value.oneCell']) ?_)))))
                    intro W9 hu9 hz9 hB14
                    refine ⟨Kp.of_but hu9 (by first | rfl | omega | (dsimp only; omega)), ?_⟩
                    have hk9 := Kp.ofb hu9
                    have hs9 := hk9.size
                    replace hE := Ext.kp hE hk9 (fun k hk => by first | omega | (have hk := hk; dsimp only at hk; omega))
                    replace h_o := h_o.kp hk9 (fun k hk => by first | omega | (have hk := hk; dsimp only at hk; omega))
                    replace hB2 := hB2.kp hk9 (fun hk => by first | omega | (have hk := hk; dsimp only at hk; omega))
                    replace hB3 := hB3.kp hk9 (fun hk => by first | omega | (have hk := hk; dsimp only at hk; omega))
                    replace hB4 := hB4.kp hk9 (fun hk => by first | omega | (have hk := hk; dsimp only at hk; omega))
                    replace hF67 := hF67.kp hk9 (fun k hk => by first | omega | (have hk := hk; dsimp only at hk; omega))
                    refine RP_q rfl rfl (Yd_assign rfl) (RP_nil (X_then (C_seq (C_region (RL_q rfl (Yd_loadA Try.underlying43 rfl (by kernel_rfl) rfl (ldBA hB14)) (RL_q rfl (Yd_move rfl) (RL_l0 (Ld_store (by kernel_rfl) rfl rfl hB4 (Nat.le_of_ble_eq_true rfl) (by simp [cellsL, Value.cells, Value.oneCell']) ?_))))))))
                    intro W10 hu10 hz10 hB4
                    have hk10 := Kp.ofb hu10
                    have hs10 := hk10.size
                    replace hE := Ext.kp hE hk10 (fun k hk => by first | omega | (have hk := hk; dsimp only at hk; omega))
                    replace h_o := h_o.kp hk10 (fun k hk => by first | omega | (have hk := hk; dsimp only at hk; omega))
                    replace hB2 := hB2.kp hk10 (fun hk => by first | omega | (have hk := hk; dsimp only at hk; omega))
                    replace hB3 := hB3.kp hk10 (fun hk => by first | omega | (have hk := hk; dsimp only at hk; omega))
                    replace hF67 := hF67.kp hk10 (fun k hk => by first | omega | (have hk := hk; dsimp only at hk; omega))
                    replace hB14 := hB14.kp hk10 (fun hk => by first | omega | (have hk := hk; dsimp only at hk; omega))
                    refine RL_q rfl (Yd_assign rfl) (RL_q rfl (Yd_assign rfl) (RL_nil (X_then (C_ret (X_blockR (X_thenR (X_retCTT rfl rfl rfl rfl Try.underlying43 rfl (by kernel_rfl) hB4 ?_)))))))
                    have hp : doF f o bs = ([], (putF f o.off (few bs 40)).1, (⟨((putF f o.off (few bs 40)).2).u, ((putF f o.off (few bs 40)).2).d, ((putF f o.off (few bs 40)).2).r, ((putF f o.off (few bs 40)).2).pins, ((putF f o.off (few bs 40)).2).page, ((putF f o.off (few bs 40)).2).b⟩ : Fr)) := by unfold doF; rw [← hy21]; (repeat (first | rw [if_pos (by omega)] | rw [if_neg (by omega)])) <;> first | rfl | (unfold loadB; first | (rw [if_pos (by omega)]; done) | (rw [if_neg (by omega)]; done) | (rw [if_pos (by omega)]; rfl) | (rw [if_neg (by omega)]; rfl))
                    rw [hp]; exact ⟨rfl, Byt.nil, hE⟩
                · skip
                  refine RPl_l rfl (Ld_alloc (v := (.agg #[(.bool false), (.bool false), (.bool false), (.int .i64 0), (.int .i64 0), (.string ⟨#[]⟩)])) (by kernel_rfl) ?_)
                  have hg_14 := hE.size
                  intro W6 he6 hz6 hB14
                  refine ⟨Kp.of_ext he6, ?_⟩
                  replace hE := Ext.trans hE he6
                  replace h_o := h_o.ext he6
                  replace hB2 := hB2.ext he6
                  replace hB3 := hB3.ext he6
                  replace hB4 := hB4.ext he6
                  refine RP_loud rfl (RPl_l rfl (Ld_call Try.func22 rfl (by kernel_rfl) rfl (FewV h_o ⟨by first | omega | (dsimp only; omega), by first | omega | (dsimp only; omega)⟩) ?_))
                  rintro e W7 ⟨A67, n67, c67, rfl, hF67, hle67, he7⟩
                  refine ⟨_, rfl, ?_⟩
                  refine ⟨Kp.of_ext he7, ?_⟩
                  replace hE := Ext.trans hE he7
                  replace h_o := h_o.ext he7
                  replace hB2 := hB2.ext he7
                  replace hB3 := hB3.ext he7
                  replace hB4 := hB4.ext he7
                  replace hB14 := hB14.ext he7
                  have hs7 := he7.size
                  have hn67 := hF67.ln
                  try simp only [List.length_append, List.length_cons, List.length_nil, List.length_set, List.length_take, List.length_drop, List.length_replicate, List.length_map, Nat.zero_add, Nat.add_zero] at hn67
                  have hc67 := hF67.cap
                  try rw [hle67.2.2.1 (by omega)] at hF67 hn67
                  refine RP_loud rfl (RPl_l rfl (Ld_call Try.func48 rfl (by kernel_rfl) rfl (refPutFV (f := f) (by assumption) ⟨by first | omega | (dsimp only; omega), by first | omega | (dsimp only; omega)⟩ hF67.vw) ?_))
                  rintro e W8 ⟨rfl, he8⟩
                  refine ⟨_, rfl, ?_⟩
                  refine ⟨Kp.of_ext he8, ?_⟩
                  replace hE := Ext.trans hE he8
                  replace h_o := h_o.ext he8
                  replace hB2 := hB2.ext he8
                  replace hB3 := hB3.ext he8
                  replace hB4 := hB4.ext he8
                  replace hB14 := hB14.ext he8
                  replace hF67 := hF67.ext he8
                  have hs8 := he8.size
                  have okr68 : FOk ((putF f o.off (few bs 40)).2) := putF_ok (by assumption) hF67.vw.byt
                  refine RP_q rfl rfl (Yd_move rfl) (RP_q rfl rfl (Yd_extract rfl rfl) (RP_q rfl rfl (Yd_extract rfl rfl) (RP_loud rfl (RPl_l0 (Ld_store (by kernel_rfl) rfl rfl hB14 (Nat.le_of_ble_eq_true rfl) (by simp [cellsL, Value.cells, Value.oneCell']) ?_)))))
                  intro W9 hu9 hz9 hB14
                  refine ⟨Kp.of_but hu9 (by first | rfl | omega | (dsimp only; omega)), ?_⟩
                  have hk9 := Kp.ofb hu9
                  have hs9 := hk9.size
                  replace hE := Ext.kp hE hk9 (fun k hk => by first | omega | (have hk := hk; dsimp only at hk; omega))
                  replace h_o := h_o.kp hk9 (fun k hk => by first | omega | (have hk := hk; dsimp only at hk; omega))
                  replace hB2 := hB2.kp hk9 (fun hk => by first | omega | (have hk := hk; dsimp only at hk; omega))
                  replace hB3 := hB3.kp hk9 (fun hk => by first | omega | (have hk := hk; dsimp only at hk; omega))
                  replace hB4 := hB4.kp hk9 (fun hk => by first | omega | (have hk := hk; dsimp only at hk; omega))
                  replace hF67 := hF67.kp hk9 (fun k hk => by first | omega | (have hk := hk; dsimp only at hk; omega))
                  refine RP_q rfl rfl (Yd_assign rfl) (RP_nil (X_then (C_seq (C_region (RL_q rfl (Yd_loadA Try.underlying43 rfl (by kernel_rfl) rfl (ldBA hB14)) (RL_q rfl (Yd_move rfl) (RL_l0 (Ld_store (by kernel_rfl) rfl rfl hB4 (Nat.le_of_ble_eq_true rfl) (by simp [cellsL, Value.cells, Value.oneCell']) ?_))))))))
                  intro W10 hu10 hz10 hB4
                  have hk10 := Kp.ofb hu10
                  have hs10 := hk10.size
                  replace hE := Ext.kp hE hk10 (fun k hk => by first | omega | (have hk := hk; dsimp only at hk; omega))
                  replace h_o := h_o.kp hk10 (fun k hk => by first | omega | (have hk := hk; dsimp only at hk; omega))
                  replace hB2 := hB2.kp hk10 (fun hk => by first | omega | (have hk := hk; dsimp only at hk; omega))
                  replace hB3 := hB3.kp hk10 (fun hk => by first | omega | (have hk := hk; dsimp only at hk; omega))
                  replace hB14 := hB14.kp hk10 (fun hk => by first | omega | (have hk := hk; dsimp only at hk; omega))
                  replace hF67 := hF67.kp hk10 (fun k hk => by first | omega | (have hk := hk; dsimp only at hk; omega))
                  refine RL_q rfl (Yd_assign rfl) (RL_q rfl (Yd_assign rfl) (RL_nil (X_then (C_ret (X_blockR (X_thenR (X_retCTT rfl rfl rfl rfl Try.underlying43 rfl (by kernel_rfl) hB4 ?_)))))))
                  have hp : doF f o bs = ([], (putF f o.off (few bs 40)).1, (⟨((putF f o.off (few bs 40)).2).u, ((putF f o.off (few bs 40)).2).d, ((putF f o.off (few bs 40)).2).r, ((putF f o.off (few bs 40)).2).pins, ((putF f o.off (few bs 40)).2).page, ((putF f o.off (few bs 40)).2).b⟩ : Fr)) := by unfold doF; rw [← hy21]; (repeat (first | rw [if_pos (by omega)] | rw [if_neg (by omega)])) <;> first | rfl | (unfold loadB; first | (rw [if_pos (by omega)]; done) | (rw [if_neg (by omega)]; done) | (rw [if_pos (by omega)]; rfl) | (rw [if_neg (by omega)]; rfl))
                  rw [hp]; exact ⟨rfl, Byt.nil, hE⟩
              · skip
                have hkhb58 := hb58
                try simp only [decide_eq_true_eq, decide_eq_false_iff_not, Bool.not_eq_true', Bool.not_eq_false', Decidable.not_not, Int.not_lt, Int.not_le, Bool.or_eq_true, Bool.and_eq_true, Bool.or_eq_false_iff, Bool.and_eq_false_iff] at hb58
                refine C_seq (C_region (RL_q rfl (Yd_eql rfl rfl) (RL_q rfl (Yd_assign rfl) (RL_nil (X_then (?_))))))
                refine C_cond rfl (fun hb73 => ?_) (fun hb73 => ?_)
                · skip
                  have hkhb73 := hb73
                  try simp only [decide_eq_true_eq, decide_eq_false_iff_not, Bool.not_eq_true', Bool.not_eq_false', Decidable.not_not, Int.not_lt, Int.not_le, Bool.or_eq_true, Bool.and_eq_true, Bool.or_eq_false_iff, Bool.and_eq_false_iff] at hb73
                  refine C_seq (C_region (RL_l rfl (Ld_call Try.func28 rfl (by kernel_rfl) rfl (EmptyV ) ?_)))
                  rintro e W5 ⟨rfl, he5⟩
                  refine ⟨_, rfl, ?_⟩
                  replace hE := Ext.trans hE he5
                  replace h_o := h_o.ext he5
                  replace hB2 := hB2.ext he5
                  replace hB3 := hB3.ext he5
                  replace hB4 := hB4.ext he5
                  have hs5 := he5.size
                  refine RL_l0 (Ld_store (by kernel_rfl) rfl rfl hB4 (Nat.le_of_ble_eq_true rfl) (by simp [cellsL, Value.cells, Value.oneCell']) ?_)
                  intro W6 hu6 hz6 hB4
                  have hk6 := Kp.ofb hu6
                  have hs6 := hk6.size
                  replace hE := Ext.kp hE hk6 (fun k hk => by first | omega | (have hk := hk; dsimp only at hk; omega))
                  replace h_o := h_o.kp hk6 (fun k hk => by first | omega | (have hk := hk; dsimp only at hk; omega))
                  replace hB2 := hB2.kp hk6 (fun hk => by first | omega | (have hk := hk; dsimp only at hk; omega))
                  replace hB3 := hB3.kp hk6 (fun hk => by first | omega | (have hk := hk; dsimp only at hk; omega))
                  refine RL_q rfl (Yd_assign rfl) (RL_q rfl (Yd_assign rfl) (RL_nil (X_then (C_ret (X_blockR (X_thenR (X_retCTT rfl rfl rfl rfl Try.underlying43 rfl (by kernel_rfl) hB4 ?_)))))))
                  have hp : doF f o bs = ([], 0, (⟨emptyF.u, emptyF.d, emptyF.r, emptyF.pins, emptyF.page, emptyF.b⟩ : Fr)) := by unfold doF; rw [← hy21]; (repeat (first | rw [if_pos (by omega)] | rw [if_neg (by omega)])) <;> first | rfl | (unfold loadB; first | (rw [if_pos (by omega)]; done) | (rw [if_neg (by omega)]; done) | (rw [if_pos (by omega)]; rfl) | (rw [if_neg (by omega)]; rfl))
                  rw [hp]; exact ⟨rfl, Byt.nil, hE⟩
                · skip
                  have hkhb73 := hb73
                  try simp only [decide_eq_true_eq, decide_eq_false_iff_not, Bool.not_eq_true', Bool.not_eq_false', Decidable.not_not, Int.not_lt, Int.not_le, Bool.or_eq_true, Bool.and_eq_true, Bool.or_eq_false_iff, Bool.and_eq_false_iff] at hb73
                  refine C_skip (X_block (X_then (C_seq (C_region (RL_q rfl (Yd_fld (off := 4) Try.underlying51 (by kernel_rfl) rfl) (RL_q rfl (Yd_load Try.underlying32 rfl rfl (ldB hB3 rfl)) (RL_l rfl (Ld_call Try.func21 rfl (by kernel_rfl) rfl (FillV h_o ⟨by first | omega | (dsimp only; omega), by first | omega | (dsimp only; omega)⟩) ?_))))))))
                  rintro e W5 ⟨A78, n78, c78, rfl, hF78, hfl78, he5⟩
                  refine ⟨_, rfl, ?_⟩
                  replace hE := Ext.trans hE he5
                  replace h_o := h_o.ext he5
                  replace hB2 := hB2.ext he5
                  replace hB3 := hB3.ext he5
                  replace hB4 := hB4.ext he5
                  have hs5 := he5.size
                  have hn78 := hF78.ln
                  try simp only [List.length_append, List.length_cons, List.length_nil, List.length_set, List.length_take, List.length_drop, List.length_replicate, List.length_map, Nat.zero_add, Nat.add_zero] at hn78
                  have hc78 := hF78.cap
                  refine RL_q rfl (Yd_assign rfl) (RL_nil (X_then (C_seq (C_seq (C_region (RL_q rfl (Yd_fld (off := 3) Try.underlying51 (by kernel_rfl) rfl) (RL_q rfl (Yd_load Try.underlying3 rfl rfl (ldB hB3 rfl)) (RL_q rfl (Yd_rem (r := Int.tmod o.n 5) rfl rfl (by decide) rfl) (RL_q rfl (Yd_eql rfl rfl) (RL_nil (X_then (?_))))))))))))
                  refine C_cond rfl (fun hb82 => ?_) (fun hb82 => ?_)
                  · skip
                    have hkhb82 := hb82
                    try simp only [decide_eq_true_eq, decide_eq_false_iff_not, Bool.not_eq_true', Bool.not_eq_false', Decidable.not_not, Int.not_lt, Int.not_le, Bool.or_eq_true, Bool.and_eq_true, Bool.or_eq_false_iff, Bool.and_eq_false_iff] at hb82
                    refine C_region (RL_q rfl (Yd_fld (off := 4) Try.underlying51 (by kernel_rfl) rfl) (RL_q rfl (Yd_load Try.underlying32 rfl rfl (ldB hB3 rfl)) (RL_l rfl (Ld_call Try.func22 rfl (by kernel_rfl) rfl (FewV h_o ⟨by first | omega | (dsimp only; omega), by first | omega | (dsimp only; omega)⟩) ?_))))
                    rintro e W6 ⟨A85, n85, c85, rfl, hF85, hle85, he6⟩
                    refine ⟨_, rfl, ?_⟩
                    replace hE := Ext.trans hE he6
                    replace h_o := h_o.ext he6
                    replace hB2 := hB2.ext he6
                    replace hB3 := hB3.ext he6
                    replace hB4 := hB4.ext he6
                    replace hF78 := hF78.ext he6
                    have hs6 := he6.size
                    have hn85 := hF85.ln
                    try simp only [List.length_append, List.length_cons, List.length_nil, List.length_set, List.length_take, List.length_drop, List.length_replicate, List.length_map, Nat.zero_add, Nat.add_zero] at hn85
                    have hc85 := hF85.cap
                    try rw [hle85.2.2.1 (by omega)] at hF85 hn85
                    refine RL_q rfl (Yd_assign rfl) (RL_nil (X_then (C_seq (C_region (RL_q rfl (Yd_loadA Try.underlying43 rfl (by kernel_rfl) rfl (ldBA hB2)) (RL_q rfl (Yd_fld (off := 1) Try.underlying51 (by kernel_rfl) rfl) (RL_q rfl (Yd_load Try.underlying3 rfl rfl (ldB hB3 rfl)) (RL_q rfl (Yd_move rfl) (RL_l rfl (Ld_call Try.func49 rfl (by kernel_rfl) rfl (refLoadV (f := f) (by assumption) ⟨by first | omega | (dsimp only; omega), by first | omega | (dsimp only; omega)⟩ hF85.vw) ?_))))))))))
                    rintro e W7 ⟨rfl, he7⟩
                    refine ⟨_, rfl, ?_⟩
                    replace hE := Ext.trans hE he7
                    replace h_o := h_o.ext he7
                    replace hB2 := hB2.ext he7
                    replace hB3 := hB3.ext he7
                    replace hB4 := hB4.ext he7
                    replace hF78 := hF78.ext he7
                    replace hF85 := hF85.ext he7
                    have hs7 := he7.size
                    have okr91 : FOk ((loadF f o.pg (few bs 40)).2) := loadF_ok (by assumption) hF85.vw.byt
                    refine RL_q rfl (Yd_move rfl) (RL_q rfl (Yd_extract rfl rfl) (RL_q rfl (Yd_extract rfl rfl) (RL_l rfl (Ld_alloc (v := (.agg #[(.bool false), (.bool false), (.bool false), (.int .i64 0), (.int .i64 0), (.string ⟨#[]⟩)])) (by kernel_rfl) ?_))))
                    have hg_17 := hE.size
                    intro W8 he8 hz8 hB17
                    replace hE := Ext.trans hE he8
                    replace h_o := h_o.ext he8
                    replace hB2 := hB2.ext he8
                    replace hB3 := hB3.ext he8
                    replace hB4 := hB4.ext he8
                    replace hF78 := hF78.ext he8
                    replace hF85 := hF85.ext he8
                    refine RL_l0 (Ld_store (by kernel_rfl) rfl rfl hB17 (Nat.le_of_ble_eq_true rfl) (by simp [cellsL, Value.cells, Value.oneCell']) ?_)
                    intro W9 hu9 hz9 hB17
                    have hk9 := Kp.ofb hu9
                    have hs9 := hk9.size
                    replace hE := Ext.kp hE hk9 (fun k hk => by first | omega | (have hk := hk; dsimp only at hk; omega))
                    replace h_o := h_o.kp hk9 (fun k hk => by first | omega | (have hk := hk; dsimp only at hk; omega))
                    replace hB2 := hB2.kp hk9 (fun hk => by first | omega | (have hk := hk; dsimp only at hk; omega))
                    replace hB3 := hB3.kp hk9 (fun hk => by first | omega | (have hk := hk; dsimp only at hk; omega))
                    replace hB4 := hB4.kp hk9 (fun hk => by first | omega | (have hk := hk; dsimp only at hk; omega))
                    replace hF78 := hF78.kp hk9 (fun k hk => by first | omega | (have hk := hk; dsimp only at hk; omega))
                    replace hF85 := hF85.kp hk9 (fun k hk => by first | omega | (have hk := hk; dsimp only at hk; omega))
                    refine RL_q rfl (Yd_assign rfl) (RL_nil (X_then (C_seq (C_region (RL_q rfl (Yd_loadA Try.underlying43 rfl (by kernel_rfl) rfl (ldBA hB17)) (RL_q rfl (Yd_move rfl) (RL_l0 (Ld_store (by kernel_rfl) rfl rfl hB4 (Nat.le_of_ble_eq_true rfl) (by simp [cellsL, Value.cells, Value.oneCell']) ?_))))))))
                    intro W10 hu10 hz10 hB4
                    have hk10 := Kp.ofb hu10
                    have hs10 := hk10.size
                    replace hE := Ext.kp hE hk10 (fun k hk => by first | omega | (have hk := hk; dsimp only at hk; omega))
                    replace h_o := h_o.kp hk10 (fun k hk => by first | omega | (have hk := hk; dsimp only at hk; omega))
                    replace hB2 := hB2.kp hk10 (fun hk => by first | omega | (have hk := hk; dsimp only at hk; omega))
                    replace hB3 := hB3.kp hk10 (fun hk => by first | omega | (have hk := hk; dsimp only at hk; omega))
                    replace hF78 := hF78.kp hk10 (fun k hk => by first | omega | (have hk := hk; dsimp only at hk; omega))
                    replace hF85 := hF85.kp hk10 (fun k hk => by first | omega | (have hk := hk; dsimp only at hk; omega))
                    replace hB17 := hB17.kp hk10 (fun hk => by first | omega | (have hk := hk; dsimp only at hk; omega))
                    refine RL_q rfl (Yd_assign rfl) (RL_q rfl (Yd_assign rfl) (RL_nil (X_then (C_ret (X_retCTT rfl rfl rfl rfl Try.underlying43 rfl (by kernel_rfl) hB4 ?_)))))
                    have hp : doF f o bs = ([], (loadF f o.pg (few bs 40)).1, (⟨((loadF f o.pg (few bs 40)).2).u, ((loadF f o.pg (few bs 40)).2).d, ((loadF f o.pg (few bs 40)).2).r, ((loadF f o.pg (few bs 40)).2).pins, ((loadF f o.pg (few bs 40)).2).page, ((loadF f o.pg (few bs 40)).2).b⟩ : Fr)) := by unfold doF; rw [← hy21]; (repeat (first | rw [if_pos (by omega)] | rw [if_neg (by omega)])) <;> first | rfl | (unfold loadB; first | (rw [if_pos (by omega)]; done) | (rw [if_neg (by omega)]; done) | (rw [if_pos (by omega)]; rfl) | (rw [if_neg (by omega)]; rfl))
                    rw [hp]; exact ⟨rfl, Byt.nil, hE⟩
                  · skip
                    have hkhb82 := hb82
                    try simp only [decide_eq_true_eq, decide_eq_false_iff_not, Bool.not_eq_true', Bool.not_eq_false', Decidable.not_not, Int.not_lt, Int.not_le, Bool.or_eq_true, Bool.and_eq_true, Bool.or_eq_false_iff, Bool.and_eq_false_iff] at hb82
                    refine C_skip (X_then (C_seq (C_region (RL_q rfl (Yd_loadA Try.underlying43 rfl (by kernel_rfl) rfl (ldBA hB2)) (RL_q rfl (Yd_fld (off := 1) Try.underlying51 (by kernel_rfl) rfl) (RL_q rfl (Yd_load Try.underlying3 rfl rfl (ldB hB3 rfl)) (RL_q rfl (Yd_move rfl) (RL_l rfl (Ld_call Try.func49 rfl (by kernel_rfl) rfl (refLoadV (f := f) (by assumption) ⟨by first | omega | (dsimp only; omega), by first | omega | (dsimp only; omega)⟩ hF78.vw) ?_)))))))))
                    rintro e W6 ⟨rfl, he6⟩
                    refine ⟨_, rfl, ?_⟩
                    replace hE := Ext.trans hE he6
                    replace h_o := h_o.ext he6
                    replace hB2 := hB2.ext he6
                    replace hB3 := hB3.ext he6
                    replace hB4 := hB4.ext he6
                    replace hF78 := hF78.ext he6
                    have hs6 := he6.size
                    have okr91 : FOk ((loadF f o.pg (fill bs (32 : Int).toNat)).2) := loadF_ok (by assumption) hF78.vw.byt
                    refine RL_q rfl (Yd_move rfl) (RL_q rfl (Yd_extract rfl rfl) (RL_q rfl (Yd_extract rfl rfl) (RL_l rfl (Ld_alloc (v := (.agg #[(.bool false), (.bool false), (.bool false), (.int .i64 0), (.int .i64 0), (.string ⟨#[]⟩)])) (by kernel_rfl) ?_))))
                    have hg_17 := hE.size
                    intro W7 he7 hz7 hB17
                    replace hE := Ext.trans hE he7
                    replace h_o := h_o.ext he7
                    replace hB2 := hB2.ext he7
                    replace hB3 := hB3.ext he7
                    replace hB4 := hB4.ext he7
                    replace hF78 := hF78.ext he7
                    refine RL_l0 (Ld_store (by kernel_rfl) rfl rfl hB17 (Nat.le_of_ble_eq_true rfl) (by simp [cellsL, Value.cells, Value.oneCell']) ?_)
                    intro W8 hu8 hz8 hB17
                    have hk8 := Kp.ofb hu8
                    have hs8 := hk8.size
                    replace hE := Ext.kp hE hk8 (fun k hk => by first | omega | (have hk := hk; dsimp only at hk; omega))
                    replace h_o := h_o.kp hk8 (fun k hk => by first | omega | (have hk := hk; dsimp only at hk; omega))
                    replace hB2 := hB2.kp hk8 (fun hk => by first | omega | (have hk := hk; dsimp only at hk; omega))
                    replace hB3 := hB3.kp hk8 (fun hk => by first | omega | (have hk := hk; dsimp only at hk; omega))
                    replace hB4 := hB4.kp hk8 (fun hk => by first | omega | (have hk := hk; dsimp only at hk; omega))
                    replace hF78 := hF78.kp hk8 (fun k hk => by first | omega | (have hk := hk; dsimp only at hk; omega))
                    refine RL_q rfl (Yd_assign rfl) (RL_nil (X_then (C_seq (C_region (RL_q rfl (Yd_loadA Try.underlying43 rfl (by kernel_rfl) rfl (ldBA hB17)) (RL_q rfl (Yd_move rfl) (RL_l0 (Ld_store (by kernel_rfl) rfl rfl hB4 (Nat.le_of_ble_eq_true rfl) (by simp [cellsL, Value.cells, Value.oneCell']) ?_))))))))
                    intro W9 hu9 hz9 hB4
                    have hk9 := Kp.ofb hu9
                    have hs9 := hk9.size
                    replace hE := Ext.kp hE hk9 (fun k hk => by first | omega | (have hk := hk; dsimp only at hk; omega))
                    replace h_o := h_o.kp hk9 (fun k hk => by first | omega | (have hk := hk; dsimp only at hk; omega))
                    replace hB2 := hB2.kp hk9 (fun hk => by first | omega | (have hk := hk; dsimp only at hk; omega))
                    replace hB3 := hB3.kp hk9 (fun hk => by first | omega | (have hk := hk; dsimp only at hk; omega))
                    replace hF78 := hF78.kp hk9 (fun k hk => by first | omega | (have hk := hk; dsimp only at hk; omega))
                    replace hB17 := hB17.kp hk9 (fun hk => by first | omega | (have hk := hk; dsimp only at hk; omega))
                    refine RL_q rfl (Yd_assign rfl) (RL_q rfl (Yd_assign rfl) (RL_nil (X_then (C_ret (X_retCTT rfl rfl rfl rfl Try.underlying43 rfl (by kernel_rfl) hB4 ?_)))))
                    have hp : doF f o bs = ([], (loadF f o.pg (fill bs (32 : Int).toNat)).1, (⟨((loadF f o.pg (fill bs (32 : Int).toNat)).2).u, ((loadF f o.pg (fill bs (32 : Int).toNat)).2).d, ((loadF f o.pg (fill bs (32 : Int).toNat)).2).r, ((loadF f o.pg (fill bs (32 : Int).toNat)).2).pins, ((loadF f o.pg (fill bs (32 : Int).toNat)).2).page, ((loadF f o.pg (fill bs (32 : Int).toNat)).2).b⟩ : Fr)) := by unfold doF; rw [← hy21]; (repeat (first | rw [if_pos (by omega)] | rw [if_neg (by omega)])) <;> first | rfl | (unfold loadB; first | (rw [if_pos (by omega)]; done) | (rw [if_neg (by omega)]; done) | (rw [if_pos (by omega)]; rfl) | (rw [if_neg (by omega)]; rfl))
                    rw [hp]; exact ⟨rfl, Byt.nil, hE⟩
end Go.Proofs.AL
