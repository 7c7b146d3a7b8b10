import Derived.Test.YtikfkmcgdceaoaaFra
set_option linter.unusedVariables false
set_option linter.unusedSimpArgs false
namespace Go.Proofs.AL
open Go.RowKit
theorem PinV {g : Nat} {f : Fr} {w : World}  (hf : Blk w g 28 (frC f)) (okhf : FOk f) :
    Calls Try.prog 16 #[.pointer (some ⟨g, 0, none⟩)] w fun e w' => e = .returned (.int .i64 (pinF f).1) ∧ Blk w' g 28 (frC (pinF f).2) ∧ Kp (fun k => k = g) w w' := by
  have hE := Ext.refl w
  have hK : Kp (fun k => k = g) w w := Kp.refl _ _
  have hgl := hf.lt
  have hpp := okhf.hp
  refine calls_of (l := [.pointer (some ⟨g, 0, none⟩)]) (N := 25) Try.func16 rfl rfl rfl ?_
  refine C_seq (C_region (RL_q rfl (Yd_assign rfl) (RL_nil (X_then (C_seq (C_block (C_seq (C_region (RL_q rfl (Yd_move rfl) (RL_q rfl (Yd_nil rfl) (RL_q rfl (Yd_fld (off := 0) Try.underlying25 (by kernel_rfl) rfl) (RL_q rfl (Yd_load Try.underlying4 rfl rfl (ldB hf rfl)) (RL_q rfl (Yd_not rfl) (RL_q rfl (Yd_assign rfl) (RL_nil (X_then (?_)))))))))))))))))
  refine C_cond rfl (fun hb3 => ?_) (fun hb3 => ?_)
  · skip
    try simp only [decide_eq_true_eq, decide_eq_false_iff_not, Bool.not_eq_true', Bool.not_eq_false', Decidable.not_not, Int.not_lt, Int.not_le, Bool.or_eq_true, Bool.and_eq_true, Bool.or_eq_false_iff, Bool.and_eq_false_iff] at hb3
    refine C_seq (C_region (RL_q rfl (Yd_assign rfl) (RL_nil (X_then (C_ret (X_blockR (X_thenR (X_ret1 rfl rfl ?_))))))))
    have hp : pinF f = (6, f) := by unfold pinF; rw [if_pos hb3]
    rw [hp]; exact ⟨rfl, hf, hK⟩
  · skip
    try simp only [decide_eq_true_eq, decide_eq_false_iff_not, Bool.not_eq_true', Bool.not_eq_false', Decidable.not_not, Int.not_lt, Int.not_le, Bool.or_eq_true, Bool.and_eq_true, Bool.or_eq_false_iff, Bool.and_eq_false_iff] at hb3
    refine C_seq (C_region (RL_q rfl (Yd_move rfl) (RL_q rfl (Yd_nil rfl) (RL_q rfl (Yd_fld (off := 3) Try.underlying25 (by kernel_rfl) rfl) (RL_q rfl (Yd_load Try.underlying3 rfl rfl (ldB hf rfl)) (RL_q rfl (Yd_geq rfl rfl) (RL_q rfl (Yd_assign rfl) (RL_nil (X_then (?_))))))))))
    refine C_cond rfl (fun hb9 => ?_) (fun hb9 => ?_)
    · skip
      try simp only [decide_eq_true_eq, decide_eq_false_iff_not, Bool.not_eq_true', Bool.not_eq_false', Decidable.not_not, Int.not_lt, Int.not_le, Bool.or_eq_true, Bool.and_eq_true, Bool.or_eq_false_iff, Bool.and_eq_false_iff] at hb9
      refine C_seq (C_region (RL_q rfl (Yd_assign rfl) (RL_nil (X_then (C_ret (X_blockR (X_thenR (X_ret1 rfl rfl ?_))))))))
      have hp : pinF f = (13, f) := by unfold pinF; rw [if_neg (by simp [hb3]), if_pos hb9]
      rw [hp]; exact ⟨rfl, hf, hK⟩
    · skip
      try simp only [decide_eq_true_eq, decide_eq_false_iff_not, Bool.not_eq_true', Bool.not_eq_false', Decidable.not_not, Int.not_lt, Int.not_le, Bool.or_eq_true, Bool.and_eq_true, Bool.or_eq_false_iff, Bool.and_eq_false_iff] at hb9
      refine C_skip (X_block (X_then (C_seq (C_region (RL_q rfl (Yd_move rfl) (RL_q rfl (Yd_nil rfl) (RL_q rfl (Yd_fld (off := 3) Try.underlying25 (by kernel_rfl) rfl) (RL_q rfl (Yd_load Try.underlying3 rfl rfl (ldB hf rfl)) (RL_q rfl (Yd_add rfl rfl (i64w (by omega) (by omega))) (RL_q rfl (Yd_nil rfl) (RL_q rfl (Yd_fld (off := 3) Try.underlying25 (by kernel_rfl) rfl) (RL_l0 (Ld_store (by kernel_rfl) rfl rfl hf (Nat.le_of_ble_eq_true rfl) (by simp [cellsL, Value.cells, Value.oneCell']) ?_)))))))))))))
      intro W1 hu1 hz1 hf
      have hk1 := Kp.ofb hu1
      have hs1 := hk1.size
      replace hK := hK.go hk1 (fun k hk => by first | omega | (have hk := hk; dsimp only at hk; dsimp only; omega))
      refine RL_nil (X_then (C_seq (C_region (RL_q rfl (Yd_move rfl) (RL_q rfl (Yd_nil rfl) (RL_q rfl (Yd_fld (off := 2) Try.underlying25 (by kernel_rfl) rfl) (RL_l0 (Ld_store (by kernel_rfl) rfl rfl hf (Nat.le_of_ble_eq_true rfl) (by simp [cellsL, Value.cells, Value.oneCell']) ?_))))))))
      intro W2 hu2 hz2 hf
      have hk2 := Kp.ofb hu2
      have hs2 := hk2.size
      replace hK := hK.go hk2 (fun k hk => by first | omega | (have hk := hk; dsimp only at hk; dsimp only; omega))
      refine RL_nil (X_then (C_seq (C_region (RL_q rfl (Yd_assign rfl) (RL_nil (X_then (C_ret (X_ret1 rfl rfl ?_))))))))
      have hp : pinF f = (0, ⟨f.u, f.d, true, f.pins + 1, f.page, f.b⟩) := by unfold pinF; rw [if_neg (by simp [hb3]), if_neg (by omega)]
      rw [hp]; exact ⟨rfl, hf, hK⟩
theorem UnpinV {g : Nat} {f : Fr} {w : World}  (hf : Blk w g 28 (frC f)) (okhf : FOk f) :
    Calls Try.prog 18 #[.pointer (some ⟨g, 0, none⟩)] w fun e w' => e = .returned (.int .i64 (unpinF f).1) ∧ Blk w' g 28 (frC (unpinF f).2) ∧ Kp (fun k => k = g) w w' := by
  have hE := Ext.refl w
  have hK : Kp (fun k => k = g) w w := Kp.refl _ _
  have hgl := hf.lt
  have hpp := okhf.hp
  refine calls_of (l := [.pointer (some ⟨g, 0, none⟩)]) (N := 15) Try.func18 rfl rfl rfl ?_
  refine C_seq (C_region (RL_q rfl (Yd_assign rfl) (RL_nil (X_then (C_seq (C_seq (C_region (RL_q rfl (Yd_move rfl) (RL_q rfl (Yd_nil rfl) (RL_q rfl (Yd_fld (off := 3) Try.underlying25 (by kernel_rfl) rfl) (RL_q rfl (Yd_load Try.underlying3 rfl rfl (ldB hf rfl)) (RL_q rfl (Yd_eql rfl rfl) (RL_nil (X_then (?_)))))))))))))))
  refine C_cond rfl (fun hb7 => ?_) (fun hb7 => ?_)
  · skip
    try simp only [decide_eq_true_eq, decide_eq_false_iff_not, Bool.not_eq_true', Bool.not_eq_false', Decidable.not_not, Int.not_lt, Int.not_le, Bool.or_eq_true, Bool.and_eq_true, Bool.or_eq_false_iff, Bool.and_eq_false_iff] at hb7
    refine C_seq (C_region (RL_q rfl (Yd_assign rfl) (RL_nil (X_then (C_ret (X_thenR (X_ret1 rfl rfl ?_)))))))
    have hp : unpinF f = (6, f) := by unfold unpinF; rw [if_pos hb7]
    rw [hp]; exact ⟨rfl, hf, hK⟩
  · skip
    try simp only [decide_eq_true_eq, decide_eq_false_iff_not, Bool.not_eq_true', Bool.not_eq_false', Decidable.not_not, Int.not_lt, Int.not_le, Bool.or_eq_true, Bool.and_eq_true, Bool.or_eq_false_iff, Bool.and_eq_false_iff] at hb7
    refine C_skip (X_then (C_seq (C_region (RL_q rfl (Yd_move rfl) (RL_q rfl (Yd_nil rfl) (RL_q rfl (Yd_fld (off := 3) Try.underlying25 (by kernel_rfl) rfl) (RL_q rfl (Yd_load Try.underlying3 rfl rfl (ldB hf rfl)) (RL_q rfl (Yd_sub rfl rfl (i64w (by omega) (by omega))) (RL_q rfl (Yd_nil rfl) (RL_q rfl (Yd_fld (off := 3) Try.underlying25 (by kernel_rfl) rfl) (RL_l0 (Ld_store (by kernel_rfl) rfl rfl hf (Nat.le_of_ble_eq_true rfl) (by simp [cellsL, Value.cells, Value.oneCell']) ?_))))))))))))
    intro W1 hu1 hz1 hf
    have hk1 := Kp.ofb hu1
    have hs1 := hk1.size
    replace hK := hK.go hk1 (fun k hk => by first | omega | (have hk := hk; dsimp only at hk; dsimp only; omega))
    refine RL_nil (X_then (C_seq (C_region (RL_q rfl (Yd_assign rfl) (RL_nil (X_then (C_ret (X_ret1 rfl rfl ?_))))))))
    have hp : unpinF f = (0, ⟨f.u, f.d, f.r, f.pins - 1, f.page, f.b⟩) := by unfold unpinF; rw [if_neg hb7]
    rw [hp]; exact ⟨rfl, hf, hK⟩
theorem FreeV {g : Nat} {f : Fr} {w : World}  (hf : Blk w g 28 (frC f)) (okhf : FOk f) :
    Calls Try.prog 19 #[.pointer (some ⟨g, 0, none⟩)] w fun e w' => e = .returned (.bool (decide (f.pins = 0))) ∧ w = w' := by
  have hE := Ext.refl w
  have hK : Kp (fun k => k = g) w w := Kp.refl _ _
  have hgl := hf.lt
  refine calls_of (l := [.pointer (some ⟨g, 0, none⟩)]) (N := 8) Try.func19 rfl rfl rfl ?_
  refine C_seq (C_region (RL_q rfl (Yd_assign rfl) (RL_nil (X_then (C_seq (C_region (RL_q rfl (Yd_move rfl) (RL_q rfl (Yd_nil rfl) (RL_q rfl (Yd_fld (off := 3) Try.underlying25 (by kernel_rfl) rfl) (RL_q rfl (Yd_load Try.underlying3 rfl rfl (ldB hf rfl)) (RL_q rfl (Yd_eql rfl rfl) (RL_q rfl (Yd_assign rfl) (RL_nil (X_then (C_ret (X_ret1 rfl rfl ?_))))))))))))))))
  exact ⟨rfl, rfl⟩
end Go.Proofs.AL
