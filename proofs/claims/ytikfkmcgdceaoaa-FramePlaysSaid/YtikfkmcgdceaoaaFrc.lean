import Derived.Test.YtikfkmcgdceaoaaFrb
set_option linter.unusedVariables false
set_option linter.unusedSimpArgs false
namespace Go.Proofs.AL
open Go.RowKit
theorem ZeroFV {g : Nat} {f : Fr} {w : World}  (hf : Blk w g 28 (frC f)) (okhf : FOk f) :
    Calls Try.prog 31 #[.pointer (some ⟨g, 0, none⟩)] w fun e w' => e = .returned (.tuple #[]) ∧ Blk w' g 28 (frC emptyF) ∧ Kp (fun k => k = g) w w' := by
  have hE := Ext.refl w
  have hK : Kp (fun k => k = g) w w := Kp.refl _ _
  have hgl := hf.lt
  refine calls_of (l := [.pointer (some ⟨g, 0, none⟩)]) (N := 5) Try.func31 rfl rfl rfl ?_
  refine C_region (RL_q rfl (Yd_move rfl) (RL_q rfl (Yd_build Try.bld28 rfl rfl) (RL_q rfl (Yd_nil rfl) (RL_l0 (Ld_store (by kernel_rfl) rfl rfl hf (by rw [frC_len okhf]; exact Nat.le_of_ble_eq_true rfl) (by simp [cellsL, Value.cells, Value.oneCell']) ?_)))))
  intro W1 hu1 hz1 hf
  have hk1 := Kp.ofb hu1
  have hs1 := hk1.size
  replace hK := hK.go hk1 (fun k hk => by first | omega | (have hk := hk; dsimp only at hk; dsimp only; omega))
  replace hf := blk_all hf (by rw [frC_len okhf]; exact Nat.le_of_ble_eq_true rfl)
  replace hf : Blk W1 g 28 (frC emptyF) := hf
  refine RL_nil (X_end0 rfl ?_)
  exact ⟨rfl, hf, hK⟩
theorem BytesV {g : Nat} {f : Fr} {w : World}  (hf : Blk w g 28 (frC f)) (okhf : FOk f) :
    Calls Try.prog 23 #[.pointer (some ⟨g, 0, none⟩)] w fun e w' => ∃ (A0 : Option Addr) (n0 c0 : Nat), e = .returned (.slice A0 n0 c0) ∧ Ow tU8 26 w' w.heap.size w'.heap.size A0 n0 c0 f.b ∧ Ext w w' := by
  have hE := Ext.refl w
  obtain ⟨u, d, r, pins, page, b⟩ := f
  obtain ⟨b0, b1, b2, b3, b4, b5, b6, b7, b8, b9, b10, b11, b12, b13, b14, b15, b16, b17, b18, b19, b20, b21, b22, b23, b24, b25, b26, b27, b28, b29, b30, b31, rfl⟩ := list32 okhf.hl
  replace hf : Blk w g 28 [.bool u, .bool d, .bool r, .int .i64 pins, .int .i64 page, .int .u8 b0, .int .u8 b1, .int .u8 b2, .int .u8 b3, .int .u8 b4, .int .u8 b5, .int .u8 b6, .int .u8 b7, .int .u8 b8, .int .u8 b9, .int .u8 b10, .int .u8 b11, .int .u8 b12, .int .u8 b13, .int .u8 b14, .int .u8 b15, .int .u8 b16, .int .u8 b17, .int .u8 b18, .int .u8 b19, .int .u8 b20, .int .u8 b21, .int .u8 b22, .int .u8 b23, .int .u8 b24, .int .u8 b25, .int .u8 b26, .int .u8 b27, .int .u8 b28, .int .u8 b29, .int .u8 b30, .int .u8 b31] := hf
  have hgl := hf.lt
  refine calls_of (l := [.pointer (some ⟨g, 0, none⟩)]) (N := 9) Try.func23 rfl rfl rfl ?_
  refine C_seq (C_region (RL_q rfl (Yd_assign rfl) (RL_nil (X_then (C_seq (C_region (RL_q rfl (Yd_move rfl) (RL_q rfl (Yd_nil rfl) (RL_q rfl (Yd_fld (off := 5) Try.underlying28 (by kernel_rfl) rfl) (RL_q rfl (Yd_loadA (cs := [.int .u8 b0, .int .u8 b1, .int .u8 b2, .int .u8 b3, .int .u8 b4, .int .u8 b5, .int .u8 b6, .int .u8 b7, .int .u8 b8, .int .u8 b9, .int .u8 b10, .int .u8 b11, .int .u8 b12, .int .u8 b13, .int .u8 b14, .int .u8 b15, .int .u8 b16, .int .u8 b17, .int .u8 b18, .int .u8 b19, .int .u8 b20, .int .u8 b21, .int .u8 b22, .int .u8 b23, .int .u8 b24, .int .u8 b25, .int .u8 b26, .int .u8 b27, .int .u8 b28, .int .u8 b29, .int .u8 b30, .int .u8 b31]) Try.underlying26 rfl (by kernel_rfl) rfl (ldBS hf 5 [.int .u8 b0, .int .u8 b1, .int .u8 b2, .int .u8 b3, .int .u8 b4, .int .u8 b5, .int .u8 b6, .int .u8 b7, .int .u8 b8, .int .u8 b9, .int .u8 b10, .int .u8 b11, .int .u8 b12, .int .u8 b13, .int .u8 b14, .int .u8 b15, .int .u8 b16, .int .u8 b17, .int .u8 b18, .int .u8 b19, .int .u8 b20, .int .u8 b21, .int .u8 b22, .int .u8 b23, .int .u8 b24, .int .u8 b25, .int .u8 b26, .int .u8 b27, .int .u8 b28, .int .u8 b29, .int .u8 b30, .int .u8 b31] rfl)) (RL_l rfl (Ld_alloc (v := (.agg #[(.int .u8 0), (.int .u8 0), (.int .u8 0), (.int .u8 0), (.int .u8 0), (.int .u8 0), (.int .u8 0), (.int .u8 0), (.int .u8 0), (.int .u8 0), (.int .u8 0), (.int .u8 0), (.int .u8 0), (.int .u8 0), (.int .u8 0), (.int .u8 0), (.int .u8 0), (.int .u8 0), (.int .u8 0), (.int .u8 0), (.int .u8 0), (.int .u8 0), (.int .u8 0), (.int .u8 0), (.int .u8 0), (.int .u8 0), (.int .u8 0), (.int .u8 0), (.int .u8 0), (.int .u8 0), (.int .u8 0), (.int .u8 0)])) (by kernel_rfl) ?_))))))))))))
  have hg_3 := hE.size
  intro W1 he1 hz1 hB3
  replace hE := Ext.trans hE he1
  replace hf := hf.ext he1
  refine RL_l0 (Ld_store (by kernel_rfl) rfl rfl hB3 (Nat.le_of_ble_eq_true rfl) (by simp [cellsL, Value.cells, Value.oneCell']) ?_)
  intro W2 hu2 hz2 hB3
  have hk2 := Kp.ofb hu2
  have hs2 := hk2.size
  replace hE := Ext.kp hE hk2 (fun k hk => by first | omega | (have hk := hk; dsimp only at hk; omega))
  replace hf := hf.kp hk2 (fun hk => by first | omega | (have hk := hk; dsimp only at hk; omega))
  refine RL_nil (X_then (C_seq (C_region (RL_q rfl (Yd_sliceArr (sz := 1) Try.underlying26 (by kernel_rfl) rfl) (RL_q rfl (Yd_assign rfl) (RL_nil (X_then (C_ret (X_ret1 rfl rfl ?_)))))))))
  exact ⟨_, _, _, rfl, (Ow.of_blk (T := tU8) (l := [b0, b1, b2, b3, b4, b5, b6, b7, b8, b9, b10, b11, b12, b13, b14, b15, b16, b17, b18, b19, b20, b21, b22, b23, b24, b25, b26, b27, b28, b29, b30, b31]) hB3 rfl (n := 32) rfl (by simp [maxLen]) okhf.hy).fit.more (by omega) (Nat.le_refl _), hE⟩
theorem LoadV {g : Nat} {f : Fr} {pg : Int} {lo_b B_b : Nat} {A_b : Option Addr} {n_b c_b : Nat} {b : List Int} {w : World}  (hf : Blk w g 28 (frC f)) (okhf : FOk f) (b_pg : -9223372036854775808 ≤ pg ∧ pg ≤ 9223372036854775807) (h_b : Vw tU8 w lo_b B_b A_b n_b c_b b) :
    Calls Try.prog 17 #[.pointer (some ⟨g, 0, none⟩), .int .i64 pg, .slice A_b n_b c_b] w fun e w' => e = .returned (.int .i64 (loadF f pg b).1) ∧ Blk w' g 28 (frC (loadF f pg b).2) ∧ Kp (fun k => k = g) w w' := by
  have hE := Ext.refl w
  replace h_b := h_b.fit
  have hn_b := h_b.ln
  have hc_b := h_b.cap
  have hm_b := h_b.max
  simp only [maxLen] at hm_b
  have hK : Kp (fun k => k = g) w w := Kp.refl _ _
  have hgl := hf.lt
  refine calls_of (l := [.pointer (some ⟨g, 0, none⟩), .int .i64 pg, .slice A_b n_b c_b]) (N := 18) Try.func17 rfl rfl rfl ?_
  refine C_seq (C_region (RL_q rfl (Yd_assign rfl) (RL_nil (X_then (C_seq (C_seq (C_region (RL_q rfl (Yd_move rfl) (RL_q rfl (Yd_len Try.underlying32 rfl) (RL_q rfl (Yd_neq rfl rfl) (RL_nil (X_then (?_)))))))))))))
  refine C_cond rfl (fun hb9 => ?_) (fun hb9 => ?_)
  · skip
    simp only [decide_eq_false_iff_not, Decidable.not_not, Bool.not_eq_true', decide_eq_true_eq] at hb9
    refine C_seq (C_region (RL_q rfl (Yd_assign rfl) (RL_nil (X_then (C_ret (X_thenR (X_ret1 rfl rfl ?_)))))))
    have hp : loadF f pg b = (2, f) := by unfold loadF; rw [if_neg (by omega)]
    rw [hp]; exact ⟨rfl, hf, hK⟩
  · skip
    simp only [decide_eq_false_iff_not, Decidable.not_not, Bool.not_eq_false', decide_eq_true_eq] at hb9
    obtain ⟨b0, b1, b2, b3, b4, b5, b6, b7, b8, b9, b10, b11, b12, b13, b14, b15, b16, b17, b18, b19, b20, b21, b22, b23, b24, b25, b26, b27, b28, b29, b30, b31, rfl⟩ := list32 (l := b) (by omega)
    obtain ⟨adB, rfl, _, _⟩ := Vw.at_ (i := 0) h_b (by omega)
    refine C_skip (X_then (C_seq (C_region (RL_q rfl (Yd_move rfl) (RL_q rfl (Yd_build Try.bld25 rfl rfl) (RL_q rfl (Yd_move rfl) (RL_q rfl (Yd_move rfl) (RL_q rfl (Yd_arrPtr Try.underlying26 rfl (by omega)) (RL_q rfl (Yd_loadA (cs := [.int .u8 b0, .int .u8 b1, .int .u8 b2, .int .u8 b3, .int .u8 b4, .int .u8 b5, .int .u8 b6, .int .u8 b7, .int .u8 b8, .int .u8 b9, .int .u8 b10, .int .u8 b11, .int .u8 b12, .int .u8 b13, .int .u8 b14, .int .u8 b15, .int .u8 b16, .int .u8 b17, .int .u8 b18, .int .u8 b19, .int .u8 b20, .int .u8 b21, .int .u8 b22, .int .u8 b23, .int .u8 b24, .int .u8 b25, .int .u8 b26, .int .u8 b27, .int .u8 b28, .int .u8 b29, .int .u8 b30, .int .u8 b31]) Try.underlying26 rfl (by kernel_rfl) rfl (vw_arr h_b)) (RL_q rfl (Yd_build Try.bld28 rfl rfl) (RL_q rfl (Yd_nil rfl) (RL_l0 (Ld_store (by kernel_rfl) rfl rfl hf (by rw [frC_len okhf]; exact Nat.le_of_ble_eq_true rfl) (by simp [cellsL, Value.cells, Value.oneCell']) ?_)))))))))))))
    intro W1 hu1 hz1 hf
    have hk1 := Kp.ofb hu1
    have hs1 := hk1.size
    replace hK := hK.go hk1 (fun k hk => by first | omega | (have hk := hk; dsimp only at hk; dsimp only; omega))
    replace hf := blk_all hf (by rw [frC_len okhf]; exact Nat.le_of_ble_eq_true rfl)
    replace hf : Blk W1 g 28 (frC (⟨true, false, false, 0, pg, [b0, b1, b2, b3, b4, b5, b6, b7, b8, b9, b10, b11, b12, b13, b14, b15, b16, b17, b18, b19, b20, b21, b22, b23, b24, b25, b26, b27, b28, b29, b30, b31]⟩ : Fr)) := hf
    refine RL_nil (X_then (C_seq (C_region (RL_q rfl (Yd_assign rfl) (RL_nil (X_then (C_ret (X_ret1 rfl rfl ?_))))))))
    exact ⟨rfl, hf, hK⟩
theorem GetV {g : Nat} {f : Fr} {off : Int} {n : Int} {w : World}  (hf : Blk w g 28 (frC f)) (okhf : FOk f) (b_off : -9223372036854775808 ≤ off ∧ off ≤ 9223372036854775807) (b_n : -9223372036854775808 ≤ n ∧ n ≤ 9223372036854775807) :
    Calls Try.prog 24 #[.pointer (some ⟨g, 0, none⟩), .int .i64 off, .int .i64 n] w fun e w' => ∃ (A0 : Option Addr) (n0 c0 : Nat), e = .returned (.tuple #[.slice A0 n0 c0, .int .i64 (getF f off n).2.1]) ∧ Ow tU8 5 w' w.heap.size w'.heap.size A0 n0 c0 ((getF f off n).1) ∧ Blk w' g 28 (frC (getF f off n).2.2) ∧ Kp (fun k => k = g) w w' := by
  have hE := Ext.refl w
  have hK : Kp (fun k => k = g) w w := Kp.refl _ _
  have hgl := hf.lt
  refine calls_of (l := [.pointer (some ⟨g, 0, none⟩), .int .i64 off, .int .i64 n]) (N := 32) Try.func24 rfl rfl rfl ?_
  refine C_seq (C_region (RL_q rfl (Yd_assign rfl) (RL_q rfl (Yd_assign rfl) (RL_nil (X_then (C_seq (C_seq (C_region (RL_q rfl (Yd_move rfl) (RL_q rfl (Yd_nil rfl) (RL_q rfl (Yd_fld (off := 0) Try.underlying28 (by kernel_rfl) rfl) (RL_l rfl (Ld_call Try.func19 rfl (by kernel_rfl) rfl (FreeV (f := f) hf okhf) ?_)))))))))))))
  rintro e W1 ⟨rfl, rfl⟩
  refine ⟨_, rfl, ?_⟩
  refine RL_nil (X_then (?_))
  refine C_cond rfl (fun hb13 => ?_) (fun hb13 => ?_)
  · skip
    try simp only [decide_eq_true_eq, decide_eq_false_iff_not, Bool.not_eq_true', Bool.not_eq_false', Decidable.not_not, Int.not_lt, Int.not_le, Bool.or_eq_true, Bool.and_eq_true, Bool.or_eq_false_iff, Bool.and_eq_false_iff] at hb13
    refine C_seq (C_region (RL_q rfl (Yd_assign rfl) (RL_q rfl (Yd_assign rfl) (RL_nil (X_then (C_ret (X_thenR (X_ret2 rfl rfl rfl ?_))))))))
    have hp : getF f off n = ([], 6, f) := by unfold getF; rw [if_pos hb13]
    rw [hp]; exact ⟨_, _, _, rfl, Ow.nil, hf, hK⟩
  · skip
    try simp only [decide_eq_true_eq, decide_eq_false_iff_not, Bool.not_eq_true', Bool.not_eq_false', Decidable.not_not, Int.not_lt, Int.not_le, Bool.or_eq_true, Bool.and_eq_true, Bool.or_eq_false_iff, Bool.and_eq_false_iff] at hb13
    refine C_skip (X_then (C_seq (C_region (RL_q rfl (Yd_move rfl) (RL_q rfl (Yd_nil rfl) (RL_q rfl (Yd_fld (off := 5) Try.underlying28 (by kernel_rfl) rfl) (RL_q rfl (Yd_sliceArr (sz := 1) Try.underlying26 (by kernel_rfl) rfl) (RL_q rfl (Yd_move rfl) (RL_q rfl (Yd_move rfl) (RL_l rfl (Ld_call Try.func42 rfl (by kernel_rfl) rfl (cGetV (vw_blk hf okhf.hl okhf.hy (by decide) frC_b) ⟨by first | omega | (dsimp only; omega), by first | omega | (dsimp only; omega)⟩ ⟨by first | omega | (dsimp only; omega), by first | omega | (dsimp only; omega)⟩) ?_)))))))))))
    rintro e W2 ⟨A21_0, n21_0, c21_0, y21_1, rfl, hF21_0, hy21_1, he2⟩
    refine ⟨_, rfl, ?_⟩
    replace hf := hf.ext he2
    replace hK := Kp.go hK (Kp.of_ext (G := NoB) he2) (fun _ h => h.elim)
    have hs2 := he2.size
    have hn21_0 := hF21_0.ln
    try simp only [List.length_append, List.length_cons, List.length_nil, List.length_set, List.length_take, List.length_drop, List.length_replicate, List.length_map, Nat.zero_add, Nat.add_zero] at hn21_0
    have hc21_0 := hF21_0.cap
    replace hy21_1 : y21_1 = fitsE 32 off n := hy21_1
    refine RL_q rfl (Yd_move rfl) (RL_q rfl (Yd_extract rfl rfl) (RL_q rfl (Yd_extract rfl rfl) (RL_q rfl (Yd_assign rfl) (RL_q rfl (Yd_assign rfl) (RL_nil (X_then (C_seq (C_seq (C_region (RL_q rfl (Yd_move rfl) (RL_q rfl (Yd_neq rfl rfl) (RL_nil (X_then (?_))))))))))))))
    refine C_cond rfl (fun hb25 => ?_) (fun hb25 => ?_)
    · skip
      try simp only [decide_eq_true_eq, decide_eq_false_iff_not, Bool.not_eq_true', Bool.not_eq_false', Decidable.not_not, Int.not_lt, Int.not_le, Bool.or_eq_true, Bool.and_eq_true, Bool.or_eq_false_iff, Bool.and_eq_false_iff] at hb25
      refine C_seq (C_region (RL_q rfl (Yd_move rfl) (RL_q rfl (Yd_assign rfl) (RL_q rfl (Yd_assign rfl) (RL_nil (X_then (C_ret (X_thenR (X_ret2 rfl rfl rfl ?_)))))))))
      have hp : getF f off n = ([], fitsE 32 off n, f) := by unfold getF; rw [if_neg hb13, if_neg (by rw [← hy21_1]; exact hb25)]
      rw [hp]; exact ⟨_, _, _, by rw [← hy21_1]; rfl, Ow.nil, hf, hK⟩
    · skip
      try simp only [decide_eq_true_eq, decide_eq_false_iff_not, Bool.not_eq_true', Bool.not_eq_false', Decidable.not_not, Int.not_lt, Int.not_le, Bool.or_eq_true, Bool.and_eq_true, Bool.or_eq_false_iff, Bool.and_eq_false_iff] at hb25
      refine C_skip (X_then (C_seq (C_region (RL_q rfl (Yd_move rfl) (RL_q rfl (Yd_nil rfl) (RL_q rfl (Yd_fld (off := 0) Try.underlying28 (by kernel_rfl) rfl) (RL_q rfl (Yd_fld (off := 2) Try.underlying25 (by kernel_rfl) rfl) (RL_l0 (Ld_store (by kernel_rfl) rfl rfl hf (Nat.le_of_ble_eq_true rfl) (by simp [cellsL, Value.cells, Value.oneCell']) ?_)))))))))
      intro W3 hu3 hz3 hf
      have hk3 := Kp.ofb hu3
      have hs3 := hk3.size
      replace hK := hK.go hk3 (fun k hk => by first | omega | (have hk := hk; dsimp only at hk; dsimp only; omega))
      replace hF21_0 := hF21_0.kp hk3 (fun k hk => by first | omega | (have hk := hk; dsimp only at hk; omega))
      refine RL_nil (X_then (C_seq (C_region (RL_q rfl (Yd_move rfl) (RL_q rfl (Yd_assign rfl) (RL_q rfl (Yd_assign rfl) (RL_nil (X_then (C_ret (X_ret2 rfl rfl rfl ?_))))))))))
      have hp : getF f off n = (pGet f.b off n, 0, ⟨f.u, f.d, true, f.pins, f.page, f.b⟩) := by unfold getF; rw [if_neg hb13, if_pos (by rw [← hy21_1]; exact hb25)]
      rw [hp]; exact ⟨_, _, _, rfl, (hF21_0.fit.more (by omega) (Nat.le_refl _)), hf, hK⟩
theorem PutV {g : Nat} {f : Fr} {off : Int} {lo_b B_b : Nat} {A_b : Option Addr} {n_b c_b : Nat} {b : List Int} {w : World}  (hf : Blk w g 28 (frC f)) (okhf : FOk f) (b_off : -9223372036854775808 ≤ off ∧ off ≤ 9223372036854775807) (h_b : Vw tU8 w lo_b B_b A_b n_b c_b b) :
    Calls Try.prog 25 #[.pointer (some ⟨g, 0, none⟩), .int .i64 off, .slice A_b n_b c_b] w fun e w' => e = .returned (.int .i64 (putF f off b).1) ∧ Blk w' g 28 (frC (putF f off b).2) ∧ Kp (fun k => k = g) w w' := by
  have hE := Ext.refl w
  replace h_b := h_b.fit
  have hn_b := h_b.ln
  have hc_b := h_b.cap
  have hm_b := h_b.max
  simp only [maxLen] at hm_b
  have hK : Kp (fun k => k = g) w w := Kp.refl _ _
  have hgl := hf.lt
  refine calls_of (l := [.pointer (some ⟨g, 0, none⟩), .int .i64 off, .slice A_b n_b c_b]) (N := 40) Try.func25 rfl rfl rfl ?_
  refine C_seq (C_region (RL_q rfl (Yd_assign rfl) (RL_nil (X_then (C_seq (C_seq (C_region (RL_q rfl (Yd_move rfl) (RL_q rfl (Yd_nil rfl) (RL_q rfl (Yd_fld (off := 0) Try.underlying28 (by kernel_rfl) rfl) (RL_l rfl (Ld_call Try.func19 rfl (by kernel_rfl) rfl (FreeV (f := f) hf okhf) ?_))))))))))))
  rintro e W1 ⟨rfl, rfl⟩
  refine ⟨_, rfl, ?_⟩
  refine RL_nil (X_then (?_))
  refine C_cond rfl (fun hb12 => ?_) (fun hb12 => ?_)
  · skip
    try simp only [decide_eq_true_eq, decide_eq_false_iff_not, Bool.not_eq_true', Bool.not_eq_false', Decidable.not_not, Int.not_lt, Int.not_le, Bool.or_eq_true, Bool.and_eq_true, Bool.or_eq_false_iff, Bool.and_eq_false_iff] at hb12
    refine C_seq (C_region (RL_q rfl (Yd_assign rfl) (RL_nil (X_then (C_ret (X_thenR (X_ret1 rfl rfl ?_)))))))
    have hp : putF f off b = (6, f) := by unfold putF; rw [if_pos hb12]
    rw [hp]; exact ⟨rfl, hf, hK⟩
  · skip
    try simp only [decide_eq_true_eq, decide_eq_false_iff_not, Bool.not_eq_true', Bool.not_eq_false', Decidable.not_not, Int.not_lt, Int.not_le, Bool.or_eq_true, Bool.and_eq_true, Bool.or_eq_false_iff, Bool.and_eq_false_iff] at hb12
    refine C_skip (X_then (C_seq (C_region (RL_q rfl (Yd_move rfl) (RL_q rfl (Yd_nil rfl) (RL_q rfl (Yd_fld (off := 5) Try.underlying28 (by kernel_rfl) rfl) (RL_q rfl (Yd_sliceArr (sz := 1) Try.underlying26 (by kernel_rfl) rfl) (RL_q rfl (Yd_move rfl) (RL_q rfl (Yd_move rfl) (RL_l rfl (Ld_call Try.func43 rfl (by kernel_rfl) rfl (cPutV (vw_blk hf okhf.hl okhf.hy (by decide) frC_b) ⟨by first | omega | (dsimp only; omega), by first | omega | (dsimp only; omega)⟩ h_b) ?_)))))))))))
    rintro e W2 ⟨A20_0, n20_0, c20_0, y20_1, rfl, hF20_0, hy20_1, he2⟩
    refine ⟨_, rfl, ?_⟩
    replace h_b := h_b.ext he2
    replace hf := hf.ext he2
    replace hK := Kp.go hK (Kp.of_ext (G := NoB) he2) (fun _ h => h.elim)
    have hs2 := he2.size
    have hn20_0 := hF20_0.ln
    try simp only [List.length_append, List.length_cons, List.length_nil, List.length_set, List.length_take, List.length_drop, List.length_replicate, List.length_map, Nat.zero_add, Nat.add_zero] at hn20_0
    have hc20_0 := hF20_0.cap
    replace hy20_1 : y20_1 = fitsE 32 off b.length := by rw [h_b.ln]; exact hy20_1
    skip
    refine RL_q rfl (Yd_move rfl) (RL_q rfl (Yd_extract rfl rfl) (RL_q rfl (Yd_extract rfl rfl) (RL_q rfl (Yd_assign rfl) (RL_q rfl (Yd_assign rfl) (RL_nil (X_then (C_seq (C_seq (C_region (RL_q rfl (Yd_move rfl) (RL_q rfl (Yd_neq rfl rfl) (RL_nil (X_then (?_))))))))))))))
    refine C_cond rfl (fun hb24 => ?_) (fun hb24 => ?_)
    · skip
      try simp only [decide_eq_true_eq, decide_eq_false_iff_not, Bool.not_eq_true', Bool.not_eq_false', Decidable.not_not, Int.not_lt, Int.not_le, Bool.or_eq_true, Bool.and_eq_true, Bool.or_eq_false_iff, Bool.and_eq_false_iff] at hb24
      refine C_seq (C_region (RL_q rfl (Yd_move rfl) (RL_q rfl (Yd_assign rfl) (RL_nil (X_then (C_ret (X_thenR (X_ret1 rfl rfl ?_))))))))
      have hp : putF f off b = (fitsE 32 off b.length, f) := by unfold putF; rw [if_neg hb12, if_neg (by rw [← hy20_1]; exact hb24)]
      rw [hp]; exact ⟨by rw [← hy20_1]; rfl, hf, hK⟩
    · skip
      try simp only [decide_eq_true_eq, decide_eq_false_iff_not, Bool.not_eq_true', Bool.not_eq_false', Decidable.not_not, Int.not_lt, Int.not_le, Bool.or_eq_true, Bool.and_eq_true, Bool.or_eq_false_iff, Bool.and_eq_false_iff] at hb24
      refine C_skip (X_then (C_seq (C_region (RL_q rfl (Yd_move rfl) (RL_q rfl (Yd_nil rfl) (RL_q rfl (Yd_fld (off := 5) Try.underlying28 (by kernel_rfl) rfl) (?_)))))))
      have hz20 : fitsE 32 off b.length = 0 := by rw [← hy20_1]; exact hb24
      have h32 := pPut_32 okhf.hl hz20
      obtain rfl : n20_0 = 32 := by omega
      refine RL_q rfl (Yd_sliceArr (sz := 1) Try.underlying26 (by kernel_rfl) rfl) (RL_q rfl (Yd_move rfl) (?_))
      refine RL_l rfl (Ld_copy Try.underlying32 (by kernel_rfl) rfl rfl hf (fun _ _ => rfl) hF20_0.vw.u8 (by omega) (by rw [frC_len okhf]; omega) (ints_one _ _) ?_)
      intro W3 hu3 hz3 hf
      have hk3 := Kp.ofb hu3
      have hs3 := hk3.size
      replace hK := hK.go hk3 (fun k hk => by first | omega | (have hk := hk; dsimp only at hk; dsimp only; omega))
      replace hF20_0 := hF20_0.kp hk3 (fun k hk => by first | omega | (have hk := hk; dsimp only at hk; omega))
      rw [frC_put okhf.hl] at hf
      refine RL_nil (X_then (C_seq (C_region (RL_q rfl (Yd_move rfl) (RL_q rfl (Yd_move rfl) (RL_q rfl (Yd_nil rfl) (RL_q rfl (Yd_fld (off := 0) Try.underlying28 (by kernel_rfl) rfl) (RL_q rfl (Yd_fld (off := 2) Try.underlying25 (by kernel_rfl) rfl) (RL_l0 (Ld_store (by kernel_rfl) rfl rfl hf (Nat.le_of_ble_eq_true rfl) (by simp [cellsL, Value.cells, Value.oneCell']) ?_))))))))))
      intro W4 hu4 hz4 hf
      have hk4 := Kp.ofb hu4
      have hs4 := hk4.size
      replace hK := hK.go hk4 (fun k hk => by first | omega | (have hk := hk; dsimp only at hk; dsimp only; omega))
      replace hF20_0 := hF20_0.kp hk4 (fun k hk => by first | omega | (have hk := hk; dsimp only at hk; omega))
      refine RL_q rfl (Yd_nil rfl) (RL_q rfl (Yd_fld (off := 0) Try.underlying28 (by kernel_rfl) rfl) (RL_q rfl (Yd_fld (off := 1) Try.underlying25 (by kernel_rfl) rfl) (RL_l0 (Ld_store (by kernel_rfl) rfl rfl hf (Nat.le_of_ble_eq_true rfl) (by simp [cellsL, Value.cells, Value.oneCell']) ?_))))
      intro W5 hu5 hz5 hf
      have hk5 := Kp.ofb hu5
      have hs5 := hk5.size
      replace hK := hK.go hk5 (fun k hk => by first | omega | (have hk := hk; dsimp only at hk; dsimp only; omega))
      replace hF20_0 := hF20_0.kp hk5 (fun k hk => by first | omega | (have hk := hk; dsimp only at hk; omega))
      refine RL_nil (X_then (C_seq (C_region (RL_q rfl (Yd_assign rfl) (RL_nil (X_then (C_ret (X_ret1 rfl rfl ?_))))))))
      have hp : putF f off b = (0, ⟨f.u, true, true, f.pins, f.page, pPut f.b off b⟩) := by unfold putF; rw [if_neg hb12, if_pos hz20]
      rw [hp]; exact ⟨rfl, hf, hK⟩
end Go.Proofs.AL
