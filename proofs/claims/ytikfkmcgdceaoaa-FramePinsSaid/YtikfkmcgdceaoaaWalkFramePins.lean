import Derived.Test.YtikfkmcgdceaoaaFrd
set_option linter.unusedVariables false
set_option linter.unusedSimpArgs false
namespace Go.Proofs.AL
open Go.RowKit
theorem FramePinsV {a : Int} {b : Int} {w : World}  (b_a : -9223372036854775808 ≤ a ∧ a ≤ 9223372036854775807) (b_b : -9223372036854775808 ≤ b ∧ b ≤ 9223372036854775807) :
    Calls Try.prog 3 #[.int .i64 a, .int .i64 b] w fun e w' => ∃ (x0 : Bool), e = .returned (.bool x0) ∧ x0 = (true) ∧ Ext w w' := by
  have hE := Ext.refl w
  refine calls_of (l := [.int .i64 a, .int .i64 b]) (N := 84) Try.func3 rfl rfl rfl ?_
  refine C_seq (C_region (RL_q rfl (Yd_assign rfl) (RL_nil (X_then (C_seq (C_region (RL_q rfl (Yd_move rfl) (RL_l rfl (Ld_call Try.func15 rfl (by kernel_rfl) rfl (AroundV ⟨by first | omega | (dsimp only; omega), by first | omega | (dsimp only; omega)⟩ ⟨by first | omega | (dsimp only; omega), by first | omega | (dsimp only; omega)⟩) ?_)))))))))
  rintro e W1 ⟨y13, rfl, hy13, hra13, rfl⟩
  refine ⟨_, rfl, ?_⟩
  refine RL_q rfl (Yd_assign rfl) (RL_nil (X_then (C_seq (C_region (RL_q rfl (Yd_move rfl) (RL_l rfl (Ld_call Try.func15 rfl (by kernel_rfl) rfl (AroundV ⟨by first | omega | (dsimp only; omega), by first | omega | (dsimp only; omega)⟩ ⟨by first | omega | (dsimp only; omega), by first | omega | (dsimp only; omega)⟩) ?_)))))))
  rintro e W2 ⟨y15, rfl, hy15, hra15, rfl⟩
  refine ⟨_, rfl, ?_⟩
  refine RL_q rfl (Yd_assign rfl) (RL_nil (X_then (C_seq (C_region (RL_q rfl (Yd_build Try.bld28 rfl rfl) (RL_l rfl (Ld_box rfl ?_)))))))
  have hg_17 := hE.size
  intro W3 he3 hz3 hB17
  replace hE := Ext.trans hE he3
  replace hB17 : Blk W3 w.heap.size 28 (frC emptyF) := hB17
  have okhB17 := emptyF_ok
  refine RL_q rfl (Yd_assign rfl) (RL_nil (X_then (C_seq (C_seq (C_region (RL_q rfl (Yd_move rfl) (RL_q rfl (Yd_nil rfl) (RL_q rfl (Yd_fld (off := 0) Try.underlying28 (by kernel_rfl) rfl) (RL_l rfl (Ld_call Try.func16 rfl (by kernel_rfl) rfl (PinV (f := emptyF) hB17 okhB17) ?_))))))))))
  rintro e W4 ⟨rfl, hB17n, hk4⟩
  refine ⟨_, rfl, ?_⟩
  have hs4 := hk4.size
  replace hE := Ext.kp hE hk4 (fun k hk => by first | omega | (have hk := hk; dsimp only at hk; omega))
  replace hB17 := hB17n
  replace okhB17 : FOk ((pinF emptyF).2) := pinF_ok okhB17
  rw [(show (pinF emptyF).2 = emptyF from rfl)] at hB17 okhB17
  refine RL_q rfl (Yd_neq rfl rfl) (RL_q rfl (Yd_move rfl) (?_))
  refine RL_is (d := 23) (b' := false) rfl (by rfl) ?_
  refine RL_gq rfl rfl rfl (Yd_move rfl) (RL_gl rfl rfl rfl (Ld_mk Try.underlying32 Try.elt5 rfl rfl rfl (n := 32) (by omega) (by omega) (T := tU8) (a := 0) rfl (by omega) (by simp only [maxLen]; omega) ⟨by decide, by decide⟩ ?_))
  intro W5 hO25 he5
  replace hE := Ext.trans hE he5
  replace hB17 := hB17.ext he5
  have hs5 := he5.size
  have hn25 := hO25.ln
  have hlt25 : W4.heap.size < W5.heap.size := (hO25.own.lt' _ rfl).2
  refine RL_gl rfl rfl rfl (Ld_call Try.func17 rfl (by kernel_rfl) rfl (LoadV (f := emptyF) hB17 okhB17 ⟨by first | omega | (dsimp only; omega), by first | omega | (dsimp only; omega)⟩ hO25.vw) ?_)
  rintro e W6 ⟨rfl, hB17n, hk6⟩
  refine ⟨_, rfl, ?_⟩
  have hs6 := hk6.size
  replace hE := Ext.kp hE hk6 (fun k hk => by first | omega | (have hk := hk; dsimp only at hk; omega))
  replace hO25 := hO25.kp hk6 (fun k hk => by first | omega | (have hk := hk; dsimp only at hk; omega))
  replace hB17 := hB17n
  replace okhB17 : FOk ((loadF emptyF 1 (List.replicate 32 0)).2) := loadF_ok okhB17 hO25.vw.byt
  rw [loadF_32 (by simp)] at hB17 okhB17
  refine RL_gq rfl rfl rfl (Yd_neq rfl rfl) (RL_q rfl (Yd_pickF rfl rfl) (RL_nil (X_then (?_))))
  refine C_no rfl (by rw [loadF_32 (by simp)]; rfl) (C_skip (X_then (C_seq (C_seq (C_region (RL_q rfl (Yd_assign rfl) (RL_nil (X_then (C_block (?_))))))))))
  refine C_loop (T := Nat × Bool × Int) (fun ⟨k, r, p⟩ => [(5, .int .i64 y13), (6, .int .i64 y15), (7, .pointer (some ⟨w.heap.size, 0, none⟩)), (8, .int .i64 (k : Int))]) (fun ⟨k, r, p⟩ lw6 => Blk lw6 w.heap.size 28 (frC (⟨true, false, r, p, 1, (List.replicate 32 0)⟩ : Fr)) ∧ FOk (⟨true, false, r, p, 1, (List.replicate 32 0)⟩ : Fr) ∧ ((k : Int) ≤ y13) ∧ ((p = k ∧ k ≤ 100) ∨ (p = 100 ∧ 100 ≤ k)) ∧ Kp (fun k => k = w.heap.size) W6 lw6) (fun ⟨k, r, p⟩ => y13.toNat - k) (⟨0, false, 0⟩) ⟨rfl, rfl, rfl, rfl, trivial⟩ ?_ ?_
  · refine ⟨hB17, okhB17, ?_, ?_, Kp.refl _ _⟩
    all_goals (try dsimp only)
    all_goals (first | omega | rfl)
  · rintro ⟨k, r, p⟩ lw6 ⟨hB17, okhB17, hi6_0, hp, hL6⟩
    replace hE := Ext.kp hE hL6 (fun k hk => by first | omega | (have hk := hk; dsimp only at hk; omega))
    replace hO25 := hO25.kp hL6 (fun k hk => by first | omega | (have hk := hk; dsimp only at hk; omega))
    have hsL6 := hL6.size
    refine C_seq (C_seq (C_region (RL_q rfl (Yd_move rfl) (RL_q rfl (Yd_move rfl) (RL_q rfl (Yd_lss rfl rfl) (RL_nil (X_then (?_))))))))
    refine C_cond rfl (fun hb31 => ?_) (fun hb31 => ?_)
    · skip
      try simp only [decide_eq_true_eq, decide_eq_false_iff_not, Bool.not_eq_true', Bool.not_eq_false', Decidable.not_not, Int.not_lt, Int.not_le, Bool.or_eq_true, Bool.and_eq_true, Bool.or_eq_false_iff, Bool.and_eq_false_iff] at hb31
      refine C_skip (X_then (C_seq (C_block (C_seq (C_region (RL_q rfl (Yd_assign rfl) (RL_nil (X_then (C_seq (C_seq (C_region (RL_q rfl (Yd_move rfl) (RL_q rfl (Yd_geq rfl rfl) (RL_nil (X_then (?_))))))))))))))))
      refine C_cond rfl (fun hb35 => ?_) (fun hb35 => ?_)
      · skip
        simp only [decide_eq_true_eq] at hb35
        refine C_region (RL_q rfl (Yd_assign rfl) (RL_nil (X_then (C_seq (C_region (RL_q rfl (Yd_move rfl) (RL_q rfl (Yd_nil rfl) (RL_q rfl (Yd_fld (off := 0) Try.underlying28 (by kernel_rfl) rfl) (RL_l rfl (Ld_call Try.func16 rfl (by kernel_rfl) rfl (PinV (f := (⟨true, false, r, p, 1, (List.replicate 32 0)⟩ : Fr)) hB17 okhB17) ?_))))))))))
        rintro e W7 ⟨rfl, hB17n, hk7⟩
        refine ⟨_, rfl, ?_⟩
        have hs7 := hk7.size
        replace hE := Ext.kp hE hk7 (fun k hk => by first | omega | (have hk := hk; dsimp only at hk; omega))
        replace hO25 := hO25.kp hk7 (fun k hk => by first | omega | (have hk := hk; dsimp only at hk; omega))
        try replace hL6 := hL6.go hk7 (fun k hk => by first | omega | (have hk := hk; dsimp only at hk; dsimp only; omega))
        replace hB17 := hB17n
        replace okhB17 : FOk ((pinF (⟨true, false, r, p, 1, (List.replicate 32 0)⟩ : Fr)).2) := pinF_ok okhB17
        rw [pinF_n (by omega)] at hB17 okhB17
        refine RL_q rfl (Yd_move rfl) (RL_q rfl (Yd_neq rfl rfl) (RL_nil (X_then (?_))))
        refine C_no rfl (by rw [pinF_n (by omega)]; rfl) (C_skip (X_block (X_then (C_region (RL_q rfl (Yd_move rfl) (RL_q rfl (Yd_add rfl rfl (i64w (by omega) (by omega))) (RL_q rfl (Yd_assign rfl) (RL_nil (?_)))))))))
        refine X_again (⟨k + 1, r, p⟩) ⟨rfl, rfl, rfl, rfl, trivial⟩ ?_ (by show y13.toNat - (k + 1) < y13.toNat - k; omega)
        refine ⟨hB17, okhB17, ?_, ?_, hL6⟩
        all_goals (try dsimp only)
        all_goals (first | omega | rfl)
      · skip
        simp only [decide_eq_false_iff_not] at hb35
        refine C_skip (X_then (C_seq (C_region (RL_q rfl (Yd_move rfl) (RL_q rfl (Yd_nil rfl) (RL_q rfl (Yd_fld (off := 0) Try.underlying28 (by kernel_rfl) rfl) (RL_l rfl (Ld_call Try.func16 rfl (by kernel_rfl) rfl (PinV (f := (⟨true, false, r, p, 1, (List.replicate 32 0)⟩ : Fr)) hB17 okhB17) ?_))))))))
        rintro e W7 ⟨rfl, hB17n, hk7⟩
        refine ⟨_, rfl, ?_⟩
        have hs7 := hk7.size
        replace hE := Ext.kp hE hk7 (fun k hk => by first | omega | (have hk := hk; dsimp only at hk; omega))
        replace hO25 := hO25.kp hk7 (fun k hk => by first | omega | (have hk := hk; dsimp only at hk; omega))
        try replace hL6 := hL6.go hk7 (fun k hk => by first | omega | (have hk := hk; dsimp only at hk; dsimp only; omega))
        replace hB17 := hB17n
        replace okhB17 : FOk ((pinF (⟨true, false, r, p, 1, (List.replicate 32 0)⟩ : Fr)).2) := pinF_ok okhB17
        rw [pinF_y (by omega)] at hB17 okhB17
        refine RL_q rfl (Yd_move rfl) (RL_q rfl (Yd_neq rfl rfl) (RL_nil (X_then (?_))))
        refine C_no rfl (by rw [pinF_y (by omega)]; rfl) (C_skip (X_block (X_then (C_region (RL_q rfl (Yd_move rfl) (RL_q rfl (Yd_add rfl rfl (i64w (by omega) (by omega))) (RL_q rfl (Yd_assign rfl) (RL_nil (?_)))))))))
        refine X_again (⟨k + 1, true, (p + 1)⟩) ⟨rfl, rfl, rfl, rfl, trivial⟩ ?_ (by show y13.toNat - (k + 1) < y13.toNat - k; omega)
        refine ⟨hB17, okhB17, ?_, ?_, hL6⟩
        all_goals (try dsimp only)
        all_goals (first | omega | rfl)
    · skip
      try simp only [decide_eq_true_eq, decide_eq_false_iff_not, Bool.not_eq_true', Bool.not_eq_false', Decidable.not_not, Int.not_lt, Int.not_le, Bool.or_eq_true, Bool.and_eq_true, Bool.or_eq_false_iff, Bool.and_eq_false_iff] at hb31
      refine C_exit (X_thenE (X_thenE (X_blockE (X_then (C_seq (C_seq (C_region (RL_q rfl (Yd_assign rfl) (RL_nil (X_then (C_block (?_))))))))))))
      refine C_loop (T := Nat × Int) (fun ⟨j, q⟩ => [(5, .int .i64 y13), (6, .int .i64 y15), (7, .pointer (some ⟨w.heap.size, 0, none⟩)), (10, .int .i64 (j : Int))]) (fun ⟨j, q⟩ lw106001 => Blk lw106001 w.heap.size 28 (frC (⟨true, false, r, q, 1, (List.replicate 32 0)⟩ : Fr)) ∧ FOk (⟨true, false, r, q, 1, (List.replicate 32 0)⟩ : Fr) ∧ ((j : Int) ≤ y15) ∧ ((q = p - j ∧ (j : Int) ≤ p) ∨ (q = 0 ∧ p ≤ j)) ∧ Kp (fun k => k = w.heap.size) lw6 lw106001) (fun ⟨j, q⟩ => y15.toNat - j) (⟨0, p⟩) ⟨rfl, rfl, rfl, rfl, trivial⟩ ?_ ?_
      · refine ⟨hB17, okhB17, ?_, ?_, Kp.refl _ _⟩
        all_goals (try dsimp only)
        all_goals (first | omega | rfl)
      · rintro ⟨j, q⟩ lw106001 ⟨hB17, okhB17, hi106001_0, hq, hL106001⟩
        replace hE := Ext.kp hE hL106001 (fun k hk => by first | omega | (have hk := hk; dsimp only at hk; omega))
        replace hO25 := hO25.kp hL106001 (fun k hk => by first | omega | (have hk := hk; dsimp only at hk; omega))
        try replace hL6 := hL6.go hL106001 (fun k hk => by first | omega | (have hk := hk; dsimp only at hk; dsimp only; omega))
        have hsL106001 := hL106001.size
        refine C_seq (C_seq (C_region (RL_q rfl (Yd_move rfl) (RL_q rfl (Yd_move rfl) (RL_q rfl (Yd_lss rfl rfl) (RL_nil (X_then (?_))))))))
        refine C_cond rfl (fun hb44 => ?_) (fun hb44 => ?_)
        · skip
          try simp only [decide_eq_true_eq, decide_eq_false_iff_not, Bool.not_eq_true', Bool.not_eq_false', Decidable.not_not, Int.not_lt, Int.not_le, Bool.or_eq_true, Bool.and_eq_true, Bool.or_eq_false_iff, Bool.and_eq_false_iff] at hb44
          refine C_skip (X_then (C_seq (C_block (C_seq (C_region (RL_q rfl (Yd_assign rfl) (RL_nil (X_then (C_seq (C_seq (C_region (RL_q rfl (Yd_move rfl) (RL_q rfl (Yd_move rfl) (?_))))))))))))))
          obtain ⟨m49, hm49⟩ : ∃ r : Int, (if 100 < y13 then 100 else y13) = r := ⟨_, rfl⟩
          have hmb49 : m49 ≤ y13 ∧ m49 ≤ 100 ∧ (m49 = y13 ∨ m49 = 100) := by rw [← hm49]; split <;> omega
          refine RL_q rfl (Yd_minw rfl rfl hm49) (RL_q rfl (Yd_geq rfl rfl) (RL_nil (X_then (?_))))
          refine C_cond rfl (fun hb50 => ?_) (fun hb50 => ?_)
          · skip
            simp only [decide_eq_true_eq] at hb50
            refine C_region (RL_q rfl (Yd_assign rfl) (RL_nil (X_then (C_seq (C_region (RL_q rfl (Yd_move rfl) (RL_q rfl (Yd_nil rfl) (RL_q rfl (Yd_fld (off := 0) Try.underlying28 (by kernel_rfl) rfl) (RL_l rfl (Ld_call Try.func18 rfl (by kernel_rfl) rfl (UnpinV (f := (⟨true, false, r, q, 1, (List.replicate 32 0)⟩ : Fr)) hB17 okhB17) ?_))))))))))
            rintro e W7 ⟨rfl, hB17n, hk7⟩
            refine ⟨_, rfl, ?_⟩
            have hs7 := hk7.size
            replace hE := Ext.kp hE hk7 (fun k hk => by first | omega | (have hk := hk; dsimp only at hk; omega))
            replace hO25 := hO25.kp hk7 (fun k hk => by first | omega | (have hk := hk; dsimp only at hk; omega))
            try replace hL6 := hL6.go hk7 (fun k hk => by first | omega | (have hk := hk; dsimp only at hk; dsimp only; omega))
            try replace hL106001 := hL106001.go hk7 (fun k hk => by first | omega | (have hk := hk; dsimp only at hk; dsimp only; omega))
            replace hB17 := hB17n
            replace okhB17 : FOk ((unpinF (⟨true, false, r, q, 1, (List.replicate 32 0)⟩ : Fr)).2) := unpinF_ok okhB17
            rw [unpinF_n (by omega)] at hB17 okhB17
            refine RL_q rfl (Yd_move rfl) (RL_q rfl (Yd_neq rfl rfl) (RL_nil (X_then (?_))))
            refine C_no rfl (by rw [unpinF_n (by omega)]; rfl) (C_skip (X_block (X_then (C_region (RL_q rfl (Yd_move rfl) (RL_q rfl (Yd_add rfl rfl (i64w (by omega) (by omega))) (RL_q rfl (Yd_assign rfl) (RL_nil (?_)))))))))
            refine X_again (⟨j + 1, q⟩) ⟨rfl, rfl, rfl, rfl, trivial⟩ ?_ (by show y15.toNat - (j + 1) < y15.toNat - j; omega)
            refine ⟨hB17, okhB17, ?_, ?_, hL106001⟩
            all_goals (try dsimp only)
            all_goals (first | omega | rfl)
          · skip
            simp only [decide_eq_false_iff_not] at hb50
            refine C_skip (X_then (C_seq (C_region (RL_q rfl (Yd_move rfl) (RL_q rfl (Yd_nil rfl) (RL_q rfl (Yd_fld (off := 0) Try.underlying28 (by kernel_rfl) rfl) (RL_l rfl (Ld_call Try.func18 rfl (by kernel_rfl) rfl (UnpinV (f := (⟨true, false, r, q, 1, (List.replicate 32 0)⟩ : Fr)) hB17 okhB17) ?_))))))))
            rintro e W7 ⟨rfl, hB17n, hk7⟩
            refine ⟨_, rfl, ?_⟩
            have hs7 := hk7.size
            replace hE := Ext.kp hE hk7 (fun k hk => by first | omega | (have hk := hk; dsimp only at hk; omega))
            replace hO25 := hO25.kp hk7 (fun k hk => by first | omega | (have hk := hk; dsimp only at hk; omega))
            try replace hL6 := hL6.go hk7 (fun k hk => by first | omega | (have hk := hk; dsimp only at hk; dsimp only; omega))
            try replace hL106001 := hL106001.go hk7 (fun k hk => by first | omega | (have hk := hk; dsimp only at hk; dsimp only; omega))
            replace hB17 := hB17n
            replace okhB17 : FOk ((unpinF (⟨true, false, r, q, 1, (List.replicate 32 0)⟩ : Fr)).2) := unpinF_ok okhB17
            rw [unpinF_y (by omega)] at hB17 okhB17
            refine RL_q rfl (Yd_move rfl) (RL_q rfl (Yd_neq rfl rfl) (RL_nil (X_then (?_))))
            refine C_no rfl (by rw [unpinF_y (by omega)]; rfl) (C_skip (X_block (X_then (C_region (RL_q rfl (Yd_move rfl) (RL_q rfl (Yd_add rfl rfl (i64w (by omega) (by omega))) (RL_q rfl (Yd_assign rfl) (RL_nil (?_)))))))))
            refine X_again (⟨j + 1, (q - 1)⟩) ⟨rfl, rfl, rfl, rfl, trivial⟩ ?_ (by show y15.toNat - (j + 1) < y15.toNat - j; omega)
            refine ⟨hB17, okhB17, ?_, ?_, hL106001⟩
            all_goals (try dsimp only)
            all_goals (first | omega | rfl)
        · skip
          try simp only [decide_eq_true_eq, decide_eq_false_iff_not, Bool.not_eq_true', Bool.not_eq_false', Decidable.not_not, Int.not_lt, Int.not_le, Bool.or_eq_true, Bool.and_eq_true, Bool.or_eq_false_iff, Bool.and_eq_false_iff] at hb44
          refine C_exit (X_thenE (X_thenE (X_blockE (X_then (C_seq (?_))))))
          refine C_regionD (NoB) (l := [(0, true), (1, true), (2, true), (3, true), (4, true), (5, true), (6, true), (7, true), (8, true), (9, true), (10, true), (11, true), (12, true), (13, true), (14, true), (16, true), (17, true), (18, true), (19, true), (20, true), (21, true), (15, false), (22, true), (23, true), (24, true), (25, false), (26, true), (27, true)]) (by kernel_rfl) (by kernel_rfl) rfl (by kernel_rfl) (fun _ _ d _ _ h => by cases d <;> exact h) ?_
          intro W7 he7 hh7
          replace hE := Ext.trans hE he7
          replace hO25 := hO25.ext he7
          replace hL6 := Kp.go hL6 (Kp.of_ext (G := NoB) he7) (fun _ h => h.elim)
          replace hL106001 := Kp.go hL106001 (Kp.of_ext (G := NoB) he7) (fun _ h => h.elim)
          replace hB17 := hB17.ext he7
          have hs7 := he7.size
          refine RO_q rfl rfl (Yd_move rfl) (RO_q rfl rfl (Yd_nil rfl) (RO_q rfl rfl (Yd_fld (off := 0) Try.underlying28 (by kernel_rfl) rfl) (RO_q rfl rfl (Yd_fld (off := 3) Try.underlying25 (by kernel_rfl) rfl) (RO_q rfl rfl (Yd_load Try.underlying3 rfl rfl (fun W hW => (ldB hB17 rfl) W hW.ext)) (RO_q rfl rfl (Yd_move rfl) (?_))))))
          obtain ⟨m63, hm63⟩ : ∃ r : Int, (if 100 < y13 then 100 else y13) = r := ⟨_, rfl⟩
          have hmb63 : m63 ≤ y13 ∧ m63 ≤ 100 ∧ (m63 = y13 ∨ m63 = 100) := by rw [← hm63]; split <;> omega
          refine RO_q rfl rfl (Yd_minw rfl rfl hm63) (RO_q rfl rfl (Yd_move rfl) (RO_q rfl rfl (Yd_sub rfl rfl (i64w (by omega) (by omega))) (?_)))
          obtain ⟨m66, hm66⟩ : ∃ r : Int, (if (m63 - y15) < 0 then 0 else (m63 - y15)) = r := ⟨_, rfl⟩
          have hmb66 : m66 ≥ (m63 - y15) ∧ m66 ≥ 0 ∧ (m66 = (m63 - y15) ∨ m66 = 0) := by rw [← hm66]; split <;> omega
          refine RO_q rfl rfl (Yd_maxw rfl rfl hm66) (RO_q rfl rfl (Yd_eql rfl rfl) (RO_q rfl rfl (Yd_move rfl) (?_)))
          refine RO_is (d := 68) (b' := true) rfl (by simp; omega) ?_
          refine RO_gq rfl rfl rfl rfl (Yd_move rfl) (RO_gq rfl rfl rfl rfl (Yd_nil rfl) (RO_gq rfl rfl rfl rfl (Yd_fld (off := 0) Try.underlying28 (by kernel_rfl) rfl) (RO_gq rfl rfl rfl rfl (Yd_move rfl) (RO_gq rfl rfl rfl rfl (Yd_nil rfl) (RO_gq rfl rfl rfl rfl (Yd_fld (off := 0) Try.underlying28 (by kernel_rfl) rfl) (RO_gq rfl rfl rfl rfl (Yd_fld (off := 3) Try.underlying25 (by kernel_rfl) rfl) (RO_gq rfl rfl rfl rfl (Yd_load Try.underlying3 rfl rfl (fun W hW => (ldB hB17 rfl) W hW.ext)) (RO_gq rfl rfl rfl rfl (Yd_eql rfl rfl) (RO_gl rfl rfl rfl rfl (Ld_call Try.func19 rfl (by kernel_rfl) rfl (FreeV (f := (⟨true, false, r, q, 1, (List.replicate 32 0)⟩ : Fr)) hB17 okhB17) ?_))))))))))
          rintro e W8 ⟨rfl, rfl⟩
          refine ⟨_, rfl, ?_⟩
          refine ⟨Kp.refl _ _, ?_⟩
          refine RO_gq rfl rfl rfl rfl (Yd_eqlB Try.underlying4 rfl rfl) (RO_q rfl rfl (Yd_pickT rfl rfl) (RO_q rfl rfl (Yd_move rfl) (?_)))
          refine RO_is (d := 81) (b' := true) rfl (by simp) ?_
          refine RO_gl rfl rfl rfl rfl (Ld_call Try.func20 rfl (by kernel_rfl) rfl (lives12V ) ?_)
          rintro e W9 ⟨_, rfl, rfl, he9⟩
          refine ⟨_, rfl, ?_⟩
          refine ⟨Kp.of_ext he9, ?_⟩
          replace hE := Ext.trans hE he9
          replace hO25 := hO25.ext he9
          replace hL6 := Kp.go hL6 (Kp.of_ext (G := NoB) he9) (fun _ h => h.elim)
          replace hL106001 := Kp.go hL106001 (Kp.of_ext (G := NoB) he9) (fun _ h => h.elim)
          replace hB17 := hB17.ext he9
          have hs9 := he9.size
          refine RO_q rfl rfl (Yd_pickT rfl rfl) (RO_q rfl rfl (Yd_assign rfl) (RO_nil (X_then (C_ret (X_ret1 rfl rfl ?_)))))
          refine ⟨_, rfl, ?_, hE⟩
          all_goals (first | rfl | omega | simp)
end Go.Proofs.AL
