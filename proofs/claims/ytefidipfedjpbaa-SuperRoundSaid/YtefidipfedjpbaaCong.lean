import Derived.Test.YtefidipfedjpbaaConf
set_option linter.unusedVariables false
set_option linter.unusedSimpArgs false
namespace Go.Proofs.AL
open Go.RowKit
theorem clP {lo_l B_l : Nat} {A_l : Option Addr} {n_l c_l : Nat} {l : List Pt} {w : World}  (h_l : Vw tP w lo_l B_l A_l n_l c_l l) (h6 : n_l ≤ 60000) :
    Calls Try.prog 46 #[.slice A_l n_l c_l] w fun e w' => ∃ (A0 : Option Addr) (n0 c0 : Nat), e = .returned (.slice A0 n0 c0) ∧ Ow tP 35 w' w.heap.size w'.heap.size A0 n0 c0 l ∧ Ext w w' := by
  have hE := Ext.refl w
  replace h_l := h_l.fit
  have hn_l := h_l.ln
  have hc_l := h_l.cap
  have hm_l := h_l.max
  simp only [maxLen] at hm_l
  refine calls_of (l := [.slice A_l n_l c_l]) (N := 8) Try.func46 rfl rfl rfl ?_
  refine C_seq (C_region (RL_q rfl (Yd_assign rfl) (RL_nil (X_then (C_seq (C_seq (C_region (RL_q rfl (Yd_move rfl) (RL_q rfl (Yd_eqlSN Try.underlying22 rfl rfl) (RL_nil (X_then (?_))))))))))))
  refine C_cond rfl (fun hb4 => ?_) (fun hb4 => ?_)
  · skip
    try simp only [decide_eq_true_eq, decide_eq_false_iff_not, Bool.not_eq_true', Bool.not_eq_false', Decidable.not_not, Int.not_lt, Int.not_le, Bool.or_eq_true, Bool.and_eq_true, Bool.or_eq_false_iff, Bool.and_eq_false_iff] at hb4
    refine C_seq (C_region (RL_q rfl (Yd_assign rfl) (RL_nil (X_then (C_ret (X_thenR (X_ret1 rfl rfl ?_)))))))
    refine ⟨_, _, _, rfl, Ow.nil.cast ?_, hE⟩
    all_goals (first | (simp; done) | exact (List.eq_nil_of_length_eq_zero (by have := h_l.nil (Option.isNone_iff_eq_none.1 hb4); omega)).symm)
  · skip
    try simp only [decide_eq_true_eq, decide_eq_false_iff_not, Bool.not_eq_true', Bool.not_eq_false', Decidable.not_not, Int.not_lt, Int.not_le, Bool.or_eq_true, Bool.and_eq_true, Bool.or_eq_false_iff, Bool.and_eq_false_iff] at hb4
    refine C_skip (X_then (C_seq (C_region (RL_l rfl (Ld_lit Try.underlying22 rfl (lit_flat Try.underlying22 Try.elt35 rfl rfl ⟨rfl, by decide⟩) ?_)))))
    intro W1 he1 hz1 hL5
    replace hE := Ext.trans hE he1
    replace h_l := h_l.ext he1
    have hO5 := Ow.of_blk (T := tP) (l := []) hL5 rfl (n := 0) rfl (by simp [maxLen]) okn
    clear hL5
    refine RL_q rfl (Yd_move rfl) (RL_l rfl (Ld_apO (T := tP) Try.underlying22 Try.elt35 rfl rfl rfl hO5 h_l (by simp only [maxLen]; omega) (by omega) (by omega) ?_))
    intro A7 c7 W2 hO7 hk2
    have hs2 := hk2.size
    replace hE := Ext.kp hE hk2 (fun k hk => by first | omega | (have hk := hk; dsimp only at hk; omega))
    replace h_l := h_l.kp hk2 (fun k hk => by first | omega | (have hk := hk; dsimp only at hk; omega))
    have hn7 := hO7.ln
    try simp only [List.length_append, List.length_cons, List.length_nil, List.length_set, List.length_take, List.length_drop, List.length_replicate, List.length_map, Nat.zero_add, Nat.add_zero, oneP_len] at hn7
    have hc7 := hO7.cap
    refine RL_q rfl (Yd_assign rfl) (RL_nil (X_then (C_ret (X_ret1 rfl rfl ?_))))
    refine ⟨_, _, _, rfl, (hO7.fit.more (by omega) (Nat.le_refl _)).cast ?_, hE⟩
    all_goals (first | (simp; done) | exact (List.eq_nil_of_length_eq_zero (by have := h_l.nil (Option.isNone_iff_eq_none.1 hb4); omega)).symm)
theorem EqP {lo_a B_a : Nat} {A_a : Option Addr} {n_a c_a : Nat} {a : List Pt} {lo_b B_b : Nat} {A_b : Option Addr} {n_b c_b : Nat} {b : List Pt} {w : World}  (h_a : Vw tP w lo_a B_a A_a n_a c_a a) (h_b : Vw tP w lo_b B_b A_b n_b c_b b) :
    Calls Try.prog 45 #[.slice A_a n_a c_a, .slice A_b n_b c_b] w fun e w' => ∃ (x0 : Bool), e = .returned (.bool x0) ∧ x0 = (decide (a = b)) ∧ Ext w w' := by
  have hE := Ext.refl w
  replace h_a := h_a.fit
  have hn_a := h_a.ln
  have hc_a := h_a.cap
  have hm_a := h_a.max
  simp only [maxLen] at hm_a
  replace h_b := h_b.fit
  have hn_b := h_b.ln
  have hc_b := h_b.cap
  have hm_b := h_b.max
  simp only [maxLen] at hm_b
  refine calls_of (l := [.slice A_a n_a c_a, .slice A_b n_b c_b]) (N := 26) Try.func45 rfl rfl rfl ?_
  refine C_seq (C_region (RL_q rfl (Yd_assign rfl) (RL_nil (X_then (C_seq (C_seq (C_region (RL_q rfl (Yd_move rfl) (RL_q rfl (Yd_len Try.underlying22 rfl) (RL_q rfl (Yd_move rfl) (RL_q rfl (Yd_len Try.underlying22 rfl) (RL_q rfl (Yd_neq rfl rfl) (RL_nil (X_then (?_)))))))))))))))
  refine C_cond rfl (fun hb10 => ?_) (fun hb10 => ?_)
  · skip
    try simp only [decide_eq_true_eq, decide_eq_false_iff_not, Bool.not_eq_true', Bool.not_eq_false', Decidable.not_not, Int.not_lt, Int.not_le, Bool.or_eq_true, Bool.and_eq_true, Bool.or_eq_false_iff, Bool.and_eq_false_iff] at hb10
    refine C_seq (C_region (RL_q rfl (Yd_assign rfl) (RL_nil (X_then (C_ret (X_thenR (X_ret1 rfl rfl ?_)))))))
    refine ⟨_, rfl, ?_, hE⟩
    all_goals (first | exact (decide_eq_false (fun e => by subst e; omega)).symm | exact (decide_eq_false (fun e => by subst e; simp_all)).symm | exact (decide_eq_true (same_allP hk (by omega) (by omega))).symm)
  · skip
    try simp only [decide_eq_true_eq, decide_eq_false_iff_not, Bool.not_eq_true', Bool.not_eq_false', Decidable.not_not, Int.not_lt, Int.not_le, Bool.or_eq_true, Bool.and_eq_true, Bool.or_eq_false_iff, Bool.and_eq_false_iff] at hb10
    refine C_skip (X_then (C_seq (C_seq (C_region (RL_q rfl (Yd_move rfl) (RL_q rfl (Yd_len Try.underlying22 rfl) (RL_q rfl (Yd_move rfl) (RL_nil (X_then (C_block (?_)))))))))))
    refine C_loop (T := Nat) (fun k => [(0, .slice A_a n_a c_a), (1, .slice A_b n_b c_b), (12, .int .i64 (n_a : Int)), (13, .int .i64 (k : Int))]) (fun k lw0 => (k ≤ n_a) ∧ (a.take k = b.take k) ∧ Ext w lw0) (fun k => n_a - k) (0) ⟨rfl, rfl, rfl, rfl, trivial⟩ ?_ ?_
    · refine ⟨?_, ?_, Ext.refl _⟩
      all_goals (try dsimp only)
      all_goals (first | omega | rfl | exact take_bothP hk (by assumption) (by assumption) (by simpa using hb24))
    · rintro k lw0 ⟨hi0_0, hk, hL0⟩
      replace hE := Ext.trans hE hL0
      replace h_a := h_a.ext hL0
      replace h_b := h_b.ext hL0
      have hsL0 := hL0.size
      refine C_seq (C_region (RL_q rfl (Yd_lss rfl rfl) (RL_nil (X_then (C_seq (?_))))))
      refine C_cond rfl (fun hb14 => ?_) (fun hb14 => ?_)
      · skip
        try simp only [decide_eq_true_eq, decide_eq_false_iff_not, Bool.not_eq_true', Bool.not_eq_false', Decidable.not_not, Int.not_lt, Int.not_le, Bool.or_eq_true, Bool.and_eq_true, Bool.or_eq_false_iff, Bool.and_eq_false_iff] at hb14
        refine C_skip (X_then (C_seq (C_block (C_seq (C_region (RL_q rfl (Yd_move rfl) (RL_q rfl (Yd_assign rfl) (RL_nil (X_then (C_seq (?_)))))))))))
        refine C_regionD (NoB) (l := [(0, true), (1, true), (2, true), (3, true), (4, true), (5, true), (6, true), (7, true), (8, true)]) (by kernel_rfl) (by kernel_rfl) rfl (by kernel_rfl) (fun _ _ d _ _ h => by cases d <;> exact h) ?_
        intro W1 he1 hh1
        replace hE := Ext.trans hE he1
        replace h_a := h_a.ext he1
        replace h_b := h_b.ext he1
        replace hL0 := Ext.trans hL0 he1
        have hs1 := he1.size
        refine RO_q rfl rfl (Yd_move rfl) (RO_q rfl rfl (Yd_move rfl) (?_))
        obtain ⟨adA_a, rfl, hghA_a, hglA_a⟩ := Vw.at_ (i := k) h_a (by omega)
        refine RO_q rfl rfl (Yd_idx Try.underlying22 (sz := 3) (by kernel_rfl) rfl rfl (by omega) (by omega)) (?_)
        obtain ⟨x1, hx1, gx1⟩ := Vw.elem (i := k) h_a (by omega)
        replace gx1 : (-9223372036854775808 ≤ x1.quota ∧ x1.quota ≤ 9223372036854775807) ∧ (-9223372036854775808 ≤ x1.base ∧ x1.base ≤ 9223372036854775807) ∧ (-9223372036854775808 ≤ x1.pages ∧ x1.pages ≤ 9223372036854775807) := gx1
        refine RO_q rfl rfl (Yd_loadA (cs := [.int .i64 x1.quota, .int .i64 x1.base, .int .i64 x1.pages]) Try.underlying35 rfl (by kernel_rfl) rfl (fun W hW => (Vw.lqA h_a hx1 rfl rfl) W hW.ext)) (RO_q rfl rfl (Yd_move rfl) (RO_q rfl rfl (Yd_move rfl) (?_)))
        obtain ⟨adA_b, rfl, hghA_b, hglA_b⟩ := Vw.at_ (i := k) h_b (by omega)
        refine RO_q rfl rfl (Yd_idx Try.underlying22 (sz := 3) (by kernel_rfl) rfl rfl (by omega) (by omega)) (?_)
        obtain ⟨x2, hx2, gx2⟩ := Vw.elem (i := k) h_b (by omega)
        replace gx2 : (-9223372036854775808 ≤ x2.quota ∧ x2.quota ≤ 9223372036854775807) ∧ (-9223372036854775808 ≤ x2.base ∧ x2.base ≤ 9223372036854775807) ∧ (-9223372036854775808 ≤ x2.pages ∧ x2.pages ≤ 9223372036854775807) := gx2
        refine RO_q rfl rfl (Yd_loadA (cs := [.int .i64 x2.quota, .int .i64 x2.base, .int .i64 x2.pages]) Try.underlying35 rfl (by kernel_rfl) rfl (fun W hW => (Vw.lqA h_b hx2 rfl rfl) W hW.ext)) (RO_q rfl rfl (Yd_neqA Try.underlying35 (by kernel_rfl) (by kernel_rfl) (tb := [(false, 0, 0), (false, 1, 0), (false, 2, 0)]) (by kernel_rfl) rfl rfl rfl (Pt_eq x1 x2)) (RO_nil (X_then (?_))))
        refine C_cond rfl (fun hb24 => ?_) (fun hb24 => ?_)
        · skip
          try simp only [decide_eq_true_eq, decide_eq_false_iff_not, Bool.not_eq_true', Bool.not_eq_false', Decidable.not_not, Int.not_lt, Int.not_le, Bool.or_eq_true, Bool.and_eq_true, Bool.or_eq_false_iff, Bool.and_eq_false_iff] at hb24
          refine C_seq (C_region (RL_q rfl (Yd_assign rfl) (RL_nil (X_then (C_ret (X_blockR (X_thenR (X_thenR (X_blockR (X_thenR (X_ret1 rfl rfl ?_)))))))))))
          refine ⟨_, rfl, ?_, hE⟩
          all_goals (first | exact (decide_eq_false (fun e => by subst e; omega)).symm | exact (decide_eq_false (fun e => by subst e; simp_all)).symm | exact (decide_eq_true (same_allP hk (by omega) (by omega))).symm)
        · skip
          try simp only [decide_eq_true_eq, decide_eq_false_iff_not, Bool.not_eq_true', Bool.not_eq_false', Decidable.not_not, Int.not_lt, Int.not_le, Bool.or_eq_true, Bool.and_eq_true, Bool.or_eq_false_iff, Bool.and_eq_false_iff] at hb24
          refine C_skip (X_block (X_then (C_region (RL_q rfl (Yd_add rfl rfl (i64w (by omega) (by omega))) (RL_q rfl (Yd_move rfl) (RL_nil (?_)))))))
          refine X_again (k + 1) ⟨rfl, rfl, rfl, rfl, trivial⟩ ?_ (by show n_a - (k + 1) < n_a - k; omega)
          refine ⟨?_, ?_, hL0⟩
          all_goals (try dsimp only)
          all_goals (first | omega | rfl | exact take_bothP hk (by assumption) (by assumption) (by simpa using hb24))
      · skip
        try simp only [decide_eq_true_eq, decide_eq_false_iff_not, Bool.not_eq_true', Bool.not_eq_false', Decidable.not_not, Int.not_lt, Int.not_le, Bool.or_eq_true, Bool.and_eq_true, Bool.or_eq_false_iff, Bool.and_eq_false_iff] at hb14
        refine C_exit (X_thenE (X_thenE (X_blockE (X_then (C_seq (C_region (RL_q rfl (Yd_assign rfl) (RL_nil (X_then (C_ret (X_ret1 rfl rfl ?_)))))))))))
        refine ⟨_, rfl, ?_, hE⟩
        all_goals (first | exact (decide_eq_false (fun e => by subst e; omega)).symm | exact (decide_eq_false (fun e => by subst e; simp_all)).symm | exact (decide_eq_true (same_allP hk (by omega) (by omega))).symm)
theorem CloneV {cfr cdp csc : Int} {lo_cps B_cps : Nat} {A_cps : Option Addr} {n_cps c_cps : Nat} {cps : List Pt} {w : World}  (h_cps : Vw tP w lo_cps B_cps A_cps n_cps c_cps cps) (b_c : -9223372036854775808 ≤ cfr ∧ cfr ≤ 9223372036854775807 ∧ -9223372036854775808 ≤ cdp ∧ cdp ≤ 9223372036854775807 ∧ -9223372036854775808 ≤ csc ∧ csc ≤ 9223372036854775807) (h6 : n_cps ≤ 60000) :
    Calls Try.prog 27 #[.agg #[.int .i64 cfr, .int .i64 cdp, .int .i64 csc, .slice A_cps n_cps c_cps]] w fun e w' => ∃ (fr dp sc : Int) (A : Option Addr) (n c : Nat) (ps : List Pt), e = .returned (.agg #[.int .i64 fr, .int .i64 dp, .int .i64 sc, .slice A n c]) ∧ (fr = cfr ∧ dp = cdp ∧ sc = csc ∧ ps = cps) ∧ Ow tP 35 w' w.heap.size w'.heap.size A n c ps ∧ Ext w w' := by
  have hE := Ext.refl w
  replace h_cps := h_cps.fit
  have hn_cps := h_cps.ln
  have hc_cps := h_cps.cap
  have hm_cps := h_cps.max
  simp only [maxLen] at hm_cps
  refine calls_of (l := [.agg #[.int .i64 cfr, .int .i64 cdp, .int .i64 csc, .slice A_cps n_cps c_cps]]) (N := 8) Try.func27 rfl rfl rfl ?_
  refine C_seq (C_region (RL_l rfl (Ld_box rfl ?_)))
  have hg_1 := hE.size
  intro W1 he1 hz1 hB1
  replace hE := Ext.trans hE he1
  replace h_cps := h_cps.ext he1
  refine RL_l rfl (Ld_alloc (v := (.agg #[(.int .i64 0), (.int .i64 0), (.int .i64 0), (.slice none 0 0)])) (by kernel_rfl) ?_)
  have hg_2 := hE.size
  intro W2 he2 hz2 hB2
  replace hE := Ext.trans hE he2
  replace h_cps := h_cps.ext he2
  replace hB1 := hB1.ext he2
  refine RL_nil (X_then (C_seq (C_region (RL_q rfl (Yd_fld (off := 3) Try.underlying24 (by kernel_rfl) rfl) (RL_q rfl (Yd_load Try.underlying22 rfl rfl (ldB hB1 rfl)) (RL_l rfl (Ld_call Try.func46 rfl (by kernel_rfl) rfl (clP h_cps (by omega)) ?_)))))))
  rintro e W3 ⟨A5, n5, c5, rfl, hF5, he3⟩
  refine ⟨_, rfl, ?_⟩
  replace hE := Ext.trans hE he3
  replace h_cps := h_cps.ext he3
  replace hB1 := hB1.ext he3
  replace hB2 := hB2.ext he3
  have hs3 := he3.size
  have hn5 := hF5.ln
  try simp only [List.length_append, List.length_cons, List.length_nil, List.length_set, List.length_take, List.length_drop, List.length_replicate, List.length_map, Nat.zero_add, Nat.add_zero, oneP_len] at hn5
  have hc5 := hF5.cap
  refine RL_q rfl (Yd_fld (off := 3) Try.underlying24 (by kernel_rfl) rfl) (RL_l0 (Ld_store (by kernel_rfl) rfl rfl hB1 (Nat.le_of_ble_eq_true rfl) (by simp [cellsL, Value.cells, Value.oneCell']) ?_))
  intro W4 hu4 hz4 hB1
  have hk4 := Kp.ofb hu4
  have hs4 := hk4.size
  replace hE := Ext.kp hE hk4 (fun k hk => by first | omega | (have hk := hk; dsimp only at hk; omega))
  replace h_cps := h_cps.kp hk4 (fun k hk => by first | omega | (have hk := hk; dsimp only at hk; omega))
  replace hB2 := hB2.kp hk4 (fun hk => by first | omega | (have hk := hk; dsimp only at hk; omega))
  replace hF5 := hF5.kp hk4 (fun k hk => by first | omega | (have hk := hk; dsimp only at hk; omega))
  refine RL_nil (X_then (C_seq (C_region (RL_q rfl (Yd_loadA Try.underlying24 rfl (by kernel_rfl) rfl (ldBA hB1)) (RL_l0 (Ld_store (by kernel_rfl) rfl rfl hB2 (Nat.le_of_ble_eq_true rfl) (by simp [cellsL, Value.cells, Value.oneCell']) ?_))))))
  intro W5 hu5 hz5 hB2
  have hk5 := Kp.ofb hu5
  have hs5 := hk5.size
  replace hE := Ext.kp hE hk5 (fun k hk => by first | omega | (have hk := hk; dsimp only at hk; omega))
  replace h_cps := h_cps.kp hk5 (fun k hk => by first | omega | (have hk := hk; dsimp only at hk; omega))
  replace hB1 := hB1.kp hk5 (fun hk => by first | omega | (have hk := hk; dsimp only at hk; omega))
  replace hF5 := hF5.kp hk5 (fun k hk => by first | omega | (have hk := hk; dsimp only at hk; omega))
  refine RL_nil (X_then (C_ret (X_retC rfl rfl Try.underlying24 rfl (by kernel_rfl) hB2 ?_)))
  refine ⟨_, _, _, _, _, _, _, rfl, ?_, hF5.fit.more (by omega) (Nat.le_refl _), hE⟩
  exact ⟨rfl, rfl, rfl, rfl⟩
theorem SameV {afr adp asc : Int} {lo_aps B_aps : Nat} {A_aps : Option Addr} {n_aps c_aps : Nat} {aps : List Pt} {bfr bdp bsc : Int} {lo_bps B_bps : Nat} {A_bps : Option Addr} {n_bps c_bps : Nat} {bps : List Pt} {w : World}  (h_aps : Vw tP w lo_aps B_aps A_aps n_aps c_aps aps) (b_a : -9223372036854775808 ≤ afr ∧ afr ≤ 9223372036854775807 ∧ -9223372036854775808 ≤ adp ∧ adp ≤ 9223372036854775807 ∧ -9223372036854775808 ≤ asc ∧ asc ≤ 9223372036854775807) (h_bps : Vw tP w lo_bps B_bps A_bps n_bps c_bps bps) (b_b : -9223372036854775808 ≤ bfr ∧ bfr ≤ 9223372036854775807 ∧ -9223372036854775808 ≤ bdp ∧ bdp ≤ 9223372036854775807 ∧ -9223372036854775808 ≤ bsc ∧ bsc ≤ 9223372036854775807) :
    Calls Try.prog 25 #[.agg #[.int .i64 afr, .int .i64 adp, .int .i64 asc, .slice A_aps n_aps c_aps], .agg #[.int .i64 bfr, .int .i64 bdp, .int .i64 bsc, .slice A_bps n_bps c_bps]] w fun e w' => ∃ (x0 : Bool), e = .returned (.bool x0) ∧ x0 = (decide (afr = bfr ∧ adp = bdp ∧ asc = bsc ∧ aps = bps)) ∧ Ext w w' := by
  have hE := Ext.refl w
  replace h_aps := h_aps.fit
  have hn_aps := h_aps.ln
  have hc_aps := h_aps.cap
  have hm_aps := h_aps.max
  simp only [maxLen] at hm_aps
  replace h_bps := h_bps.fit
  have hn_bps := h_bps.ln
  have hc_bps := h_bps.cap
  have hm_bps := h_bps.max
  simp only [maxLen] at hm_bps
  refine calls_of (l := [.agg #[.int .i64 afr, .int .i64 adp, .int .i64 asc, .slice A_aps n_aps c_aps], .agg #[.int .i64 bfr, .int .i64 bdp, .int .i64 bsc, .slice A_bps n_bps c_bps]]) (N := 31) Try.func25 rfl rfl rfl ?_
  refine C_seq (C_region (RL_l rfl (Ld_box rfl ?_)))
  have hg_2 := hE.size
  intro W1 he1 hz1 hB2
  replace hE := Ext.trans hE he1
  replace h_aps := h_aps.ext he1
  replace h_bps := h_bps.ext he1
  refine RL_l rfl (Ld_box rfl ?_)
  have hg_3 := hE.size
  intro W2 he2 hz2 hB3
  replace hE := Ext.trans hE he2
  replace h_aps := h_aps.ext he2
  replace h_bps := h_bps.ext he2
  replace hB2 := hB2.ext he2
  refine RL_q rfl (Yd_assign rfl) (RL_nil (X_then (C_seq (C_region (RL_q rfl (Yd_fld (off := 0) Try.underlying24 (by kernel_rfl) rfl) (RL_q rfl (Yd_load Try.underlying3 rfl rfl (ldB hB2 rfl)) (RL_q rfl (Yd_fld (off := 0) Try.underlying24 (by kernel_rfl) rfl) (RL_q rfl (Yd_load Try.underlying3 rfl rfl (ldB hB3 rfl)) (RL_q rfl (Yd_eql rfl rfl) (RL_q rfl (Yd_move rfl) (?_)))))))))))
  apply RL_and (dj := 10) 16 6 rfl
  · intro hb10
    try simp only [decide_eq_true_eq, decide_eq_false_iff_not, Bool.not_eq_true', Bool.not_eq_false', Decidable.not_not, Int.not_lt, Int.not_le, Bool.or_eq_true, Bool.and_eq_true, Bool.or_eq_false_iff, Bool.and_eq_false_iff] at hb10
    refine QL_gq rfl rfl rfl (Yd_fld (off := 1) Try.underlying24 (by kernel_rfl) rfl) (QL_gq rfl rfl rfl (Yd_load Try.underlying3 rfl rfl (ldB hB2 rfl)) (QL_gq rfl rfl rfl (Yd_fld (off := 1) Try.underlying24 (by kernel_rfl) rfl) (QL_gq rfl rfl rfl (Yd_load Try.underlying3 rfl rfl (ldB hB3 rfl)) (QL_gq rfl rfl rfl (Yd_eql rfl rfl) (QL_q rfl (Yd_pickT rfl rfl) ((QL_nil 6 rfl rfl rfl)))))))
  · intro hb10
    try simp only [decide_eq_true_eq, decide_eq_false_iff_not, Bool.not_eq_true', Bool.not_eq_false', Decidable.not_not, Int.not_lt, Int.not_le, Bool.or_eq_true, Bool.and_eq_true, Bool.or_eq_false_iff, Bool.and_eq_false_iff] at hb10
    refine QL_gn rfl rfl rfl rfl (QL_gn rfl rfl rfl rfl (QL_gn rfl rfl rfl rfl (QL_gn rfl rfl rfl rfl (QL_gn rfl rfl rfl rfl (QL_q rfl (Yd_pickF rfl rfl) ((QL_nil 6 rfl rfl rfl)))))))
  · skip
    refine RL_q rfl (Yd_move rfl) (?_)
    apply RL_and (dj := 17) 23 6 rfl
    · intro hb17
      try simp only [decide_eq_true_eq, decide_eq_false_iff_not, Bool.not_eq_true', Bool.not_eq_false', Decidable.not_not, Int.not_lt, Int.not_le, Bool.or_eq_true, Bool.and_eq_true, Bool.or_eq_false_iff, Bool.and_eq_false_iff] at hb17
      refine QL_gq rfl rfl rfl (Yd_fld (off := 2) Try.underlying24 (by kernel_rfl) rfl) (QL_gq rfl rfl rfl (Yd_load Try.underlying3 rfl rfl (ldB hB2 rfl)) (QL_gq rfl rfl rfl (Yd_fld (off := 2) Try.underlying24 (by kernel_rfl) rfl) (QL_gq rfl rfl rfl (Yd_load Try.underlying3 rfl rfl (ldB hB3 rfl)) (QL_gq rfl rfl rfl (Yd_eql rfl rfl) (QL_q rfl (Yd_pickT rfl rfl) ((QL_nil 6 rfl rfl rfl)))))))
    · intro hb17
      try simp only [decide_eq_true_eq, decide_eq_false_iff_not, Bool.not_eq_true', Bool.not_eq_false', Decidable.not_not, Int.not_lt, Int.not_le, Bool.or_eq_true, Bool.and_eq_true, Bool.or_eq_false_iff, Bool.and_eq_false_iff] at hb17
      refine QL_gn rfl rfl rfl rfl (QL_gn rfl rfl rfl rfl (QL_gn rfl rfl rfl rfl (QL_gn rfl rfl rfl rfl (QL_gn rfl rfl rfl rfl (QL_q rfl (Yd_pickF rfl rfl) ((QL_nil 6 rfl rfl rfl)))))))
    · skip
      refine RL_q rfl (Yd_move rfl) (?_)
      refine RL_case (d := 24) rfl (fun hb24 => ?_) (fun hb24 => ?_)
      · skip
        try simp only [decide_eq_true_eq, decide_eq_false_iff_not, Bool.not_eq_true', Bool.not_eq_false', Decidable.not_not, Int.not_lt, Int.not_le, Bool.or_eq_true, Bool.and_eq_true, Bool.or_eq_false_iff, Bool.and_eq_false_iff] at hb24
        refine RL_gq rfl rfl rfl (Yd_fld (off := 3) Try.underlying24 (by kernel_rfl) rfl) (RL_gq rfl rfl rfl (Yd_load Try.underlying22 rfl rfl (ldB hB2 rfl)) (RL_gq rfl rfl rfl (Yd_fld (off := 3) Try.underlying24 (by kernel_rfl) rfl) (RL_gq rfl rfl rfl (Yd_load Try.underlying22 rfl rfl (ldB hB3 rfl)) (RL_gl rfl rfl rfl (Ld_call Try.func45 rfl (by kernel_rfl) rfl (EqP h_aps h_bps) ?_)))))
        rintro e W3 ⟨_, rfl, rfl, he3⟩
        refine ⟨_, rfl, ?_⟩
        replace hE := Ext.trans hE he3
        replace h_aps := h_aps.ext he3
        replace h_bps := h_bps.ext he3
        replace hB2 := hB2.ext he3
        replace hB3 := hB3.ext he3
        have hs3 := he3.size
        refine RL_q rfl (Yd_pickT rfl rfl) (RL_q rfl (Yd_assign rfl) (RL_nil (X_then (C_ret (X_ret1 rfl rfl ?_)))))
        refine ⟨_, rfl, ?_, hE⟩
        all_goals (first | (simp_all; done) | (simp_all; intros; omega))
      · skip
        try simp only [decide_eq_true_eq, decide_eq_false_iff_not, Bool.not_eq_true', Bool.not_eq_false', Decidable.not_not, Int.not_lt, Int.not_le, Bool.or_eq_true, Bool.and_eq_true, Bool.or_eq_false_iff, Bool.and_eq_false_iff] at hb24
        refine RL_gn rfl rfl rfl rfl (RL_gn rfl rfl rfl rfl (RL_gn rfl rfl rfl rfl (RL_gn rfl rfl rfl rfl (RL_gn rfl rfl rfl rfl (RL_q rfl (Yd_pickF rfl rfl) (RL_q rfl (Yd_assign rfl) (RL_nil (X_then (C_ret (X_ret1 rfl rfl ?_))))))))))
        refine ⟨_, rfl, ?_, hE⟩
        all_goals (first | (simp_all; done) | (simp_all; intros; omega))
theorem refSameV {afr adp asc : Int} {lo_aps B_aps : Nat} {A_aps : Option Addr} {n_aps c_aps : Nat} {aps : List Pt} {bfr bdp bsc : Int} {lo_bps B_bps : Nat} {A_bps : Option Addr} {n_bps c_bps : Nat} {bps : List Pt} {w : World}  (h_aps : Vw tP w lo_aps B_aps A_aps n_aps c_aps aps) (b_a : -9223372036854775808 ≤ afr ∧ afr ≤ 9223372036854775807 ∧ -9223372036854775808 ≤ adp ∧ adp ≤ 9223372036854775807 ∧ -9223372036854775808 ≤ asc ∧ asc ≤ 9223372036854775807) (h_bps : Vw tP w lo_bps B_bps A_bps n_bps c_bps bps) (b_b : -9223372036854775808 ≤ bfr ∧ bfr ≤ 9223372036854775807 ∧ -9223372036854775808 ≤ bdp ∧ bdp ≤ 9223372036854775807 ∧ -9223372036854775808 ≤ bsc ∧ bsc ≤ 9223372036854775807) :
    Calls Try.prog 26 #[.agg #[.int .i64 afr, .int .i64 adp, .int .i64 asc, .slice A_aps n_aps c_aps], .agg #[.int .i64 bfr, .int .i64 bdp, .int .i64 bsc, .slice A_bps n_bps c_bps]] w fun e w' => ∃ (x0 : Bool), e = .returned (.bool x0) ∧ x0 = (decide (afr = bfr ∧ adp = bdp ∧ asc = bsc ∧ aps = bps)) ∧ Ext w w' := by
  have hE := Ext.refl w
  replace h_aps := h_aps.fit
  have hn_aps := h_aps.ln
  have hc_aps := h_aps.cap
  have hm_aps := h_aps.max
  simp only [maxLen] at hm_aps
  replace h_bps := h_bps.fit
  have hn_bps := h_bps.ln
  have hc_bps := h_bps.cap
  have hm_bps := h_bps.max
  simp only [maxLen] at hm_bps
  refine calls_of (l := [.agg #[.int .i64 afr, .int .i64 adp, .int .i64 asc, .slice A_aps n_aps c_aps], .agg #[.int .i64 bfr, .int .i64 bdp, .int .i64 bsc, .slice A_bps n_bps c_bps]]) (N := 52) Try.func26 rfl rfl rfl ?_
  refine C_seq (C_region (RL_l rfl (Ld_box rfl ?_)))
  have hg_2 := hE.size
  intro W1 he1 hz1 hB2
  replace hE := Ext.trans hE he1
  replace h_aps := h_aps.ext he1
  replace h_bps := h_bps.ext he1
  refine RL_l rfl (Ld_box rfl ?_)
  have hg_3 := hE.size
  intro W2 he2 hz2 hB3
  replace hE := Ext.trans hE he2
  replace h_aps := h_aps.ext he2
  replace h_bps := h_bps.ext he2
  replace hB2 := hB2.ext he2
  refine RL_q rfl (Yd_assign rfl) (RL_nil (X_then (C_seq (C_seq (C_region (RL_q rfl (Yd_fld (off := 0) Try.underlying24 (by kernel_rfl) rfl) (RL_q rfl (Yd_load Try.underlying3 rfl rfl (ldB hB2 rfl)) (RL_q rfl (Yd_fld (off := 0) Try.underlying24 (by kernel_rfl) rfl) (RL_q rfl (Yd_load Try.underlying3 rfl rfl (ldB hB3 rfl)) (RL_q rfl (Yd_neq rfl rfl) (RL_q rfl (Yd_move rfl) (?_))))))))))))
  apply RL_or (dj := 11) 17 6 rfl
  · intro hb11
    try simp only [decide_eq_true_eq, decide_eq_false_iff_not, Bool.not_eq_true', Bool.not_eq_false', Decidable.not_not, Int.not_lt, Int.not_le, Bool.or_eq_true, Bool.and_eq_true, Bool.or_eq_false_iff, Bool.and_eq_false_iff] at hb11
    refine QL_gq rfl rfl rfl (Yd_fld (off := 1) Try.underlying24 (by kernel_rfl) rfl) (QL_gq rfl rfl rfl (Yd_load Try.underlying3 rfl rfl (ldB hB2 rfl)) (QL_gq rfl rfl rfl (Yd_fld (off := 1) Try.underlying24 (by kernel_rfl) rfl) (QL_gq rfl rfl rfl (Yd_load Try.underlying3 rfl rfl (ldB hB3 rfl)) (QL_gq rfl rfl rfl (Yd_neq rfl rfl) (QL_q rfl (Yd_pickF rfl rfl) ((QL_nil 6 rfl rfl rfl)))))))
  · intro hb11
    try simp only [decide_eq_true_eq, decide_eq_false_iff_not, Bool.not_eq_true', Bool.not_eq_false', Decidable.not_not, Int.not_lt, Int.not_le, Bool.or_eq_true, Bool.and_eq_true, Bool.or_eq_false_iff, Bool.and_eq_false_iff] at hb11
    refine QL_gn rfl rfl rfl rfl (QL_gn rfl rfl rfl rfl (QL_gn rfl rfl rfl rfl (QL_gn rfl rfl rfl rfl (QL_gn rfl rfl rfl rfl (QL_q rfl (Yd_pickT rfl rfl) ((QL_nil 6 rfl rfl rfl)))))))
  · skip
    refine RL_q rfl (Yd_move rfl) (?_)
    apply RL_or (dj := 18) 24 6 rfl
    · intro hb18
      try simp only [decide_eq_true_eq, decide_eq_false_iff_not, Bool.not_eq_true', Bool.not_eq_false', Decidable.not_not, Int.not_lt, Int.not_le, Bool.or_eq_true, Bool.and_eq_true, Bool.or_eq_false_iff, Bool.and_eq_false_iff] at hb18
      refine QL_gq rfl rfl rfl (Yd_fld (off := 2) Try.underlying24 (by kernel_rfl) rfl) (QL_gq rfl rfl rfl (Yd_load Try.underlying3 rfl rfl (ldB hB2 rfl)) (QL_gq rfl rfl rfl (Yd_fld (off := 2) Try.underlying24 (by kernel_rfl) rfl) (QL_gq rfl rfl rfl (Yd_load Try.underlying3 rfl rfl (ldB hB3 rfl)) (QL_gq rfl rfl rfl (Yd_neq rfl rfl) (QL_q rfl (Yd_pickF rfl rfl) ((QL_nil 6 rfl rfl rfl)))))))
    · intro hb18
      try simp only [decide_eq_true_eq, decide_eq_false_iff_not, Bool.not_eq_true', Bool.not_eq_false', Decidable.not_not, Int.not_lt, Int.not_le, Bool.or_eq_true, Bool.and_eq_true, Bool.or_eq_false_iff, Bool.and_eq_false_iff] at hb18
      refine QL_gn rfl rfl rfl rfl (QL_gn rfl rfl rfl rfl (QL_gn rfl rfl rfl rfl (QL_gn rfl rfl rfl rfl (QL_gn rfl rfl rfl rfl (QL_q rfl (Yd_pickT rfl rfl) ((QL_nil 6 rfl rfl rfl)))))))
    · skip
      refine RL_q rfl (Yd_move rfl) (?_)
      apply RL_or (dj := 25) 33 8 rfl
      · intro hb25
        try simp only [decide_eq_true_eq, decide_eq_false_iff_not, Bool.not_eq_true', Bool.not_eq_false', Decidable.not_not, Int.not_lt, Int.not_le, Bool.or_eq_true, Bool.and_eq_true, Bool.or_eq_false_iff, Bool.and_eq_false_iff] at hb25
        refine QL_gq rfl rfl rfl (Yd_fld (off := 3) Try.underlying24 (by kernel_rfl) rfl) (QL_gq rfl rfl rfl (Yd_load Try.underlying22 rfl rfl (ldB hB2 rfl)) (QL_gq rfl rfl rfl (Yd_len Try.underlying22 rfl) (QL_gq rfl rfl rfl (Yd_fld (off := 3) Try.underlying24 (by kernel_rfl) rfl) (QL_gq rfl rfl rfl (Yd_load Try.underlying22 rfl rfl (ldB hB3 rfl)) (QL_gq rfl rfl rfl (Yd_len Try.underlying22 rfl) (QL_gq rfl rfl rfl (Yd_neq rfl rfl) (QL_q rfl (Yd_pickF rfl rfl) ((QL_nil 8 rfl rfl rfl)))))))))
      · intro hb25
        try simp only [decide_eq_true_eq, decide_eq_false_iff_not, Bool.not_eq_true', Bool.not_eq_false', Decidable.not_not, Int.not_lt, Int.not_le, Bool.or_eq_true, Bool.and_eq_true, Bool.or_eq_false_iff, Bool.and_eq_false_iff] at hb25
        refine QL_gn rfl rfl rfl rfl (QL_gn rfl rfl rfl rfl (QL_gn rfl rfl rfl rfl (QL_gn rfl rfl rfl rfl (QL_gn rfl rfl rfl rfl (QL_gn rfl rfl rfl rfl (QL_gn rfl rfl rfl rfl (QL_q rfl (Yd_pickT rfl rfl) ((QL_nil 8 rfl rfl rfl)))))))))
      · skip
        refine RL_nil (X_then (?_))
        refine C_cond rfl (fun hb33 => ?_) (fun hb33 => ?_)
        · skip
          try simp only [decide_eq_true_eq, decide_eq_false_iff_not, Bool.not_eq_true', Bool.not_eq_false', Decidable.not_not, Int.not_lt, Int.not_le, Bool.or_eq_true, Bool.and_eq_true, Bool.or_eq_false_iff, Bool.and_eq_false_iff] at hb33
          refine C_seq (C_region (RL_q rfl (Yd_assign rfl) (RL_nil (X_then (C_ret (X_thenR (X_ret1 rfl rfl ?_)))))))
          refine ⟨_, rfl, ?_, hE⟩
          all_goals (first | exact (decide_eq_false (fun e => by obtain ⟨e1, e2, e3, e4⟩ := e; subst e1 e2 e3 e4; simp_all; done)).symm | exact (decide_eq_false (fun e => by obtain ⟨e1, e2, e3, e4⟩ := e; subst e1 e2 e3 e4; omega)).symm | exact (decide_eq_true ⟨by simp_all, by simp_all, by simp_all, same_allP hk (by omega) (by omega)⟩).symm)
        · skip
          try simp only [decide_eq_true_eq, decide_eq_false_iff_not, Bool.not_eq_true', Bool.not_eq_false', Decidable.not_not, Int.not_lt, Int.not_le, Bool.or_eq_true, Bool.and_eq_true, Bool.or_eq_false_iff, Bool.and_eq_false_iff] at hb33
          refine C_skip (X_then (C_seq (C_seq (C_region (RL_q rfl (Yd_assign rfl) (RL_nil (X_then (C_block (?_)))))))))
          refine C_loop (T := Nat) (fun k => [(2, .pointer (some ⟨w.heap.size, 0, none⟩)), (3, .pointer (some ⟨W1.heap.size, 0, none⟩)), (5, .int .i64 (k : Int))]) (fun k lw2 => (k ≤ n_aps) ∧ (aps.take k = bps.take k) ∧ Ext W2 lw2) (fun k => n_aps - k) (0) ⟨rfl, rfl, rfl, trivial⟩ ?_ ?_
          · refine ⟨?_, ?_, Ext.refl _⟩
            all_goals (try dsimp only)
            all_goals (first | omega | rfl | exact take_bothP hk (by assumption) (by assumption) (by simpa using hb51))
          · rintro k lw2 ⟨hi2_0, hk, hL2⟩
            replace hE := Ext.trans hE hL2
            replace h_aps := h_aps.ext hL2
            replace h_bps := h_bps.ext hL2
            replace hB2 := hB2.ext hL2
            replace hB3 := hB3.ext hL2
            have hsL2 := hL2.size
            refine C_seq (C_seq (C_region (RL_q rfl (Yd_move rfl) (RL_q rfl (Yd_fld (off := 3) Try.underlying24 (by kernel_rfl) rfl) (RL_q rfl (Yd_load Try.underlying22 rfl rfl (ldB hB2 rfl)) (RL_q rfl (Yd_len Try.underlying22 rfl) (RL_q rfl (Yd_lss rfl rfl) (RL_nil (X_then (?_))))))))))
            refine C_cond rfl (fun hb38 => ?_) (fun hb38 => ?_)
            · skip
              try simp only [decide_eq_true_eq, decide_eq_false_iff_not, Bool.not_eq_true', Bool.not_eq_false', Decidable.not_not, Int.not_lt, Int.not_le, Bool.or_eq_true, Bool.and_eq_true, Bool.or_eq_false_iff, Bool.and_eq_false_iff] at hb38
              refine C_skip (X_then (C_seq (C_block (C_seq (?_)))))
              refine C_regionD (NoB) (l := [(0, true), (1, true), (2, true), (3, true), (4, true), (5, true), (6, true), (7, true), (8, true), (9, true), (10, true)]) (by kernel_rfl) (by kernel_rfl) rfl (by kernel_rfl) (fun _ _ d _ _ h => by cases d <;> exact h) ?_
              intro W3 he3 hh3
              replace hE := Ext.trans hE he3
              replace h_aps := h_aps.ext he3
              replace h_bps := h_bps.ext he3
              replace hB2 := hB2.ext he3
              replace hB3 := hB3.ext he3
              replace hL2 := Ext.trans hL2 he3
              have hs3 := he3.size
              refine RO_q rfl rfl (Yd_fld (off := 3) Try.underlying24 (by kernel_rfl) rfl) (RO_q rfl rfl (Yd_load Try.underlying22 rfl rfl (fun W hW => (ldB hB2 rfl) W hW.ext)) (RO_q rfl rfl (Yd_move rfl) (?_)))
              obtain ⟨adA_aps, rfl, hghA_aps, hglA_aps⟩ := Vw.at_ (i := k) h_aps (by omega)
              refine RO_q rfl rfl (Yd_idx Try.underlying22 (sz := 3) (by kernel_rfl) rfl rfl (by omega) (by omega)) (?_)
              obtain ⟨x1, hx1, gx1⟩ := Vw.elem (i := k) h_aps (by omega)
              replace gx1 : (-9223372036854775808 ≤ x1.quota ∧ x1.quota ≤ 9223372036854775807) ∧ (-9223372036854775808 ≤ x1.base ∧ x1.base ≤ 9223372036854775807) ∧ (-9223372036854775808 ≤ x1.pages ∧ x1.pages ≤ 9223372036854775807) := gx1
              refine RO_q rfl rfl (Yd_loadA (cs := [.int .i64 x1.quota, .int .i64 x1.base, .int .i64 x1.pages]) Try.underlying35 rfl (by kernel_rfl) rfl (fun W hW => (Vw.lqA h_aps hx1 rfl rfl) W hW.ext)) (RO_q rfl rfl (Yd_fld (off := 3) Try.underlying24 (by kernel_rfl) rfl) (RO_q rfl rfl (Yd_load Try.underlying22 rfl rfl (fun W hW => (ldB hB3 rfl) W hW.ext)) (RO_q rfl rfl (Yd_move rfl) (?_))))
              obtain ⟨adA_bps, rfl, hghA_bps, hglA_bps⟩ := Vw.at_ (i := k) h_bps (by omega)
              refine RO_q rfl rfl (Yd_idx Try.underlying22 (sz := 3) (by kernel_rfl) rfl rfl (by omega) (by omega)) (?_)
              obtain ⟨x2, hx2, gx2⟩ := Vw.elem (i := k) h_bps (by omega)
              replace gx2 : (-9223372036854775808 ≤ x2.quota ∧ x2.quota ≤ 9223372036854775807) ∧ (-9223372036854775808 ≤ x2.base ∧ x2.base ≤ 9223372036854775807) ∧ (-9223372036854775808 ≤ x2.pages ∧ x2.pages ≤ 9223372036854775807) := gx2
              refine RO_q rfl rfl (Yd_loadA (cs := [.int .i64 x2.quota, .int .i64 x2.base, .int .i64 x2.pages]) Try.underlying35 rfl (by kernel_rfl) rfl (fun W hW => (Vw.lqA h_bps hx2 rfl rfl) W hW.ext)) (RO_q rfl rfl (Yd_neqA Try.underlying35 (by kernel_rfl) (by kernel_rfl) (tb := [(false, 0, 0), (false, 1, 0), (false, 2, 0)]) (by kernel_rfl) rfl rfl rfl (Pt_eq x1 x2)) (RO_nil (X_then (?_))))
              refine C_cond rfl (fun hb51 => ?_) (fun hb51 => ?_)
              · skip
                try simp only [decide_eq_true_eq, decide_eq_false_iff_not, Bool.not_eq_true', Bool.not_eq_false', Decidable.not_not, Int.not_lt, Int.not_le, Bool.or_eq_true, Bool.and_eq_true, Bool.or_eq_false_iff, Bool.and_eq_false_iff] at hb51
                refine C_seq (C_region (RL_q rfl (Yd_assign rfl) (RL_nil (X_then (C_ret (X_blockR (X_thenR (X_thenR (X_blockR (X_thenR (X_ret1 rfl rfl ?_)))))))))))
                refine ⟨_, rfl, ?_, hE⟩
                all_goals (first | exact (decide_eq_false (fun e => by obtain ⟨e1, e2, e3, e4⟩ := e; subst e1 e2 e3 e4; simp_all; done)).symm | exact (decide_eq_false (fun e => by obtain ⟨e1, e2, e3, e4⟩ := e; subst e1 e2 e3 e4; omega)).symm | exact (decide_eq_true ⟨by simp_all, by simp_all, by simp_all, same_allP hk (by omega) (by omega)⟩).symm)
              · skip
                try simp only [decide_eq_true_eq, decide_eq_false_iff_not, Bool.not_eq_true', Bool.not_eq_false', Decidable.not_not, Int.not_lt, Int.not_le, Bool.or_eq_true, Bool.and_eq_true, Bool.or_eq_false_iff, Bool.and_eq_false_iff] at hb51
                refine C_skip (X_block (X_then (C_region (RL_q rfl (Yd_move rfl) (RL_q rfl (Yd_add rfl rfl (i64w (by omega) (by omega))) (RL_q rfl (Yd_assign rfl) (RL_nil (?_))))))))
                refine X_again (k + 1) ⟨rfl, rfl, rfl, trivial⟩ ?_ (by show n_aps - (k + 1) < n_aps - k; omega)
                refine ⟨?_, ?_, hL2⟩
                all_goals (try dsimp only)
                all_goals (first | omega | rfl | exact take_bothP hk (by assumption) (by assumption) (by simpa using hb51))
            · skip
              try simp only [decide_eq_true_eq, decide_eq_false_iff_not, Bool.not_eq_true', Bool.not_eq_false', Decidable.not_not, Int.not_lt, Int.not_le, Bool.or_eq_true, Bool.and_eq_true, Bool.or_eq_false_iff, Bool.and_eq_false_iff] at hb38
              refine C_exit (X_thenE (X_thenE (X_blockE (X_then (C_seq (C_region (RL_q rfl (Yd_assign rfl) (RL_nil (X_then (C_ret (X_ret1 rfl rfl ?_)))))))))))
              refine ⟨_, rfl, ?_, hE⟩
              all_goals (first | exact (decide_eq_false (fun e => by obtain ⟨e1, e2, e3, e4⟩ := e; subst e1 e2 e3 e4; simp_all; done)).symm | exact (decide_eq_false (fun e => by obtain ⟨e1, e2, e3, e4⟩ := e; subst e1 e2 e3 e4; omega)).symm | exact (decide_eq_true ⟨by simp_all, by simp_all, by simp_all, same_allP hk (by omega) (by omega)⟩).symm)
theorem FreeV {cfr cdp csc : Int} {lo_cps B_cps : Nat} {A_cps : Option Addr} {n_cps c_cps : Nat} {cps : List Pt} {w : World}  (h_cps : Vw tP w lo_cps B_cps A_cps n_cps c_cps cps) (b_c : -9223372036854775808 ≤ cfr ∧ cfr ≤ 9223372036854775807 ∧ -9223372036854775808 ≤ cdp ∧ cdp ≤ 9223372036854775807 ∧ -9223372036854775808 ≤ csc ∧ csc ≤ 9223372036854775807) (hok : OkCf csc cps) :
    Calls Try.prog 23 #[.agg #[.int .i64 cfr, .int .i64 cdp, .int .i64 csc, .slice A_cps n_cps c_cps]] w fun e w' => ∃ (x0 : Int), e = .returned (.int .i64 x0) ∧ x0 = (csc - 2 * sumP cps) ∧ Ext w w' := by
  have hE := Ext.refl w
  replace h_cps := h_cps.fit
  have hn_cps := h_cps.ln
  have hc_cps := h_cps.cap
  have hm_cps := h_cps.max
  simp only [maxLen] at hm_cps
  have hsc := hok.hsc
  have hln := hok.hln
  refine calls_of (l := [.agg #[.int .i64 cfr, .int .i64 cdp, .int .i64 csc, .slice A_cps n_cps c_cps]]) (N := 24) Try.func23 rfl rfl rfl ?_
  refine C_seq (C_region (RL_l rfl (Ld_box rfl ?_)))
  have hg_1 := hE.size
  intro W1 he1 hz1 hB1
  replace hE := Ext.trans hE he1
  replace h_cps := h_cps.ext he1
  refine RL_q rfl (Yd_assign rfl) (RL_nil (X_then (C_seq (C_region (RL_q rfl (Yd_fld (off := 2) Try.underlying24 (by kernel_rfl) rfl) (RL_q rfl (Yd_load Try.underlying3 rfl rfl (ldB hB1 rfl)) (RL_q rfl (Yd_assign rfl) (RL_nil (X_then (C_seq (C_seq (C_region (RL_q rfl (Yd_fld (off := 3) Try.underlying24 (by kernel_rfl) rfl) (RL_q rfl (Yd_load Try.underlying22 rfl rfl (ldB hB1 rfl)) (RL_q rfl (Yd_len Try.underlying22 rfl) (RL_q rfl (Yd_move rfl) (RL_nil (X_then (C_block (?_))))))))))))))))))))
  refine C_loop (T := Nat × Int) (fun ⟨k, f⟩ => [(2, .int .i64 0), (3, .int .i64 f), (9, .slice A_cps n_cps c_cps), (10, .int .i64 (n_cps : Int)), (11, .int .i64 (k : Int))]) (fun ⟨k, f⟩ lw1 => (k ≤ n_cps) ∧ (-200 * (k : Int) ≤ f ∧ f ≤ 1024) ∧ (f = csc - 2 * sumP (cps.take k)) ∧ Ext W1 lw1) (fun ⟨k, f⟩ => n_cps - k) (⟨0, csc⟩) ⟨rfl, rfl, rfl, rfl, rfl, trivial⟩ ?_ ?_
  · refine ⟨?_, ?_, ?_, Ext.refl _⟩
    all_goals (try dsimp only)
    all_goals (first | omega | (simp [sumP]; done))
  · rintro ⟨k, f⟩ lw1 ⟨hi1_0, hfb, hf, hL1⟩
    replace hE := Ext.trans hE hL1
    replace h_cps := h_cps.ext hL1
    replace hB1 := hB1.ext hL1
    have hsL1 := hL1.size
    refine C_seq (C_region (RL_q rfl (Yd_lss rfl rfl) (RL_nil (X_then (C_seq (?_))))))
    refine C_cond rfl (fun hb12 => ?_) (fun hb12 => ?_)
    · skip
      try simp only [decide_eq_true_eq, decide_eq_false_iff_not, Bool.not_eq_true', Bool.not_eq_false', Decidable.not_not, Int.not_lt, Int.not_le, Bool.or_eq_true, Bool.and_eq_true, Bool.or_eq_false_iff, Bool.and_eq_false_iff] at hb12
      refine C_skip (X_then (C_seq (C_block (C_seq (C_region (?_))))))
      obtain ⟨adA_cps, rfl, hghA_cps, hglA_cps⟩ := Vw.at_ (i := k) h_cps (by omega)
      refine RL_q rfl (Yd_idx Try.underlying22 (sz := 3) (by kernel_rfl) rfl rfl (by omega) (by omega)) (?_)
      obtain ⟨x1, hx1, gx1⟩ := Vw.elem (i := k) h_cps (by omega)
      replace gx1 : (-9223372036854775808 ≤ x1.quota ∧ x1.quota ≤ 9223372036854775807) ∧ (-9223372036854775808 ≤ x1.base ∧ x1.base ≤ 9223372036854775807) ∧ (-9223372036854775808 ≤ x1.pages ∧ x1.pages ≤ 9223372036854775807) := gx1
      refine RL_q rfl (Yd_loadA (cs := [.int .i64 x1.quota, .int .i64 x1.base, .int .i64 x1.pages]) Try.underlying35 rfl (by kernel_rfl) rfl (Vw.lqA h_cps hx1 rfl rfl)) (?_)
      have hpz := partC_zero (hok.hpt _ (List.mem_of_getElem? hx1))
      refine RL_l rfl (Ld_alloc (v := (.agg #[(.int .i64 0), (.int .i64 0), (.int .i64 0)])) (by kernel_rfl) ?_)
      have hg_5 := hE.size
      intro W2 he2 hz2 hB5
      replace hE := Ext.trans hE he2
      replace h_cps := h_cps.ext he2
      replace hB1 := hB1.ext he2
      replace hL1 := Ext.trans hL1 he2
      refine RL_l0 (Ld_store (by kernel_rfl) rfl rfl hB5 (Nat.le_of_ble_eq_true rfl) (by simp [cellsL, Value.cells, Value.oneCell']) ?_)
      intro W3 hu3 hz3 hB5
      have hk3 := Kp.ofb hu3
      have hs3 := hk3.size
      replace hE := Ext.kp hE hk3 (fun k hk => by first | omega | (have hk := hk; dsimp only at hk; omega))
      replace h_cps := h_cps.kp hk3 (fun k hk => by first | omega | (have hk := hk; dsimp only at hk; omega))
      replace hB1 := hB1.kp hk3 (fun hk => by first | omega | (have hk := hk; dsimp only at hk; omega))
      try replace hL1 := Ext.kp hL1 hk3 (fun k hk => by first | omega | (have hk := hk; dsimp only at hk; omega))
      refine RL_nil (X_then (?_))
      refine C_regionD (NoB) (l := [(0, true), (1, true), (3, true), (4, true), (2, false), (5, true), (6, true), (7, true)]) (by kernel_rfl) (by kernel_rfl) rfl (by kernel_rfl) (fun _ _ d _ _ h => by cases d <;> exact h) ?_
      intro W4 he4 hh4
      replace hE := Ext.trans hE he4
      replace h_cps := h_cps.ext he4
      replace hB1 := hB1.ext he4
      replace hL1 := Ext.trans hL1 he4
      replace hB5 := hB5.ext he4
      have hs4 := he4.size
      refine RO_q rfl rfl (Yd_move rfl) (RO_q rfl rfl (Yd_loadA Try.underlying35 rfl (by kernel_rfl) rfl (fun W hW => (ldBA hB5) W hW.ext)) (RO_q rfl rfl (Yd_fld (off := 1) Try.underlying35 (by kernel_rfl) rfl) (RO_q rfl rfl (Yd_load Try.underlying3 rfl rfl (fun W hW => (ldB hB5 rfl) W hW.ext)) (RO_l rfl rfl (Ld_call Try.func44 rfl (by kernel_rfl) rfl (endV (p := x1) (by first | omega | (dsimp only; omega))) ?_)))))
      rintro e W5 ⟨y17, rfl, hy17, he5⟩
      refine ⟨_, rfl, ?_⟩
      refine ⟨Kp.of_ext he5, ?_⟩
      replace hE := Ext.trans hE he5
      replace h_cps := h_cps.ext he5
      replace hB1 := hB1.ext he5
      replace hL1 := Ext.trans hL1 he5
      replace hB5 := hB5.ext he5
      have hs5 := he5.size
      have hpe : y17 = x1.base + x1.pages * 2 := hy17
      refine RO_q rfl rfl (Yd_sub rfl rfl (i64w (by omega) (by omega))) (RO_q rfl rfl (Yd_sub rfl rfl (i64w (by omega) (by omega))) (RO_q rfl rfl (Yd_assign rfl) (RO_nil (X_block (X_then (C_region (RL_q rfl (Yd_add rfl rfl (i64w (by omega) (by omega))) (RL_q rfl (Yd_move rfl) (RL_nil (?_))))))))))
      refine X_again (⟨k + 1, (f - (y17 - x1.base))⟩) ⟨rfl, rfl, rfl, rfl, rfl, trivial⟩ ?_ (by show n_cps - (k + 1) < n_cps - k; omega)
      refine ⟨?_, ?_, ?_, hL1⟩
      all_goals (try dsimp only)
      all_goals (first | omega | (rw [sumP_next hx1]; omega))
    · skip
      try simp only [decide_eq_true_eq, decide_eq_false_iff_not, Bool.not_eq_true', Bool.not_eq_false', Decidable.not_not, Int.not_lt, Int.not_le, Bool.or_eq_true, Bool.and_eq_true, Bool.or_eq_false_iff, Bool.and_eq_false_iff] at hb12
      refine C_exit (X_thenE (X_thenE (X_blockE (X_then (C_seq (C_region (RL_q rfl (Yd_move rfl) (RL_q rfl (Yd_assign rfl) (RL_nil (X_then (C_ret (X_ret1 rfl rfl ?_))))))))))))
      refine ⟨_, rfl, ?_, hE⟩
      all_goals (first | rfl | ((obtain rfl : k = cps.length := by omega); rw [hf, List.take_length]))
theorem refFreeV {cfr cdp csc : Int} {lo_cps B_cps : Nat} {A_cps : Option Addr} {n_cps c_cps : Nat} {cps : List Pt} {w : World}  (h_cps : Vw tP w lo_cps B_cps A_cps n_cps c_cps cps) (b_c : -9223372036854775808 ≤ cfr ∧ cfr ≤ 9223372036854775807 ∧ -9223372036854775808 ≤ cdp ∧ cdp ≤ 9223372036854775807 ∧ -9223372036854775808 ≤ csc ∧ csc ≤ 9223372036854775807) (hok : OkCf csc cps) :
    Calls Try.prog 24 #[.agg #[.int .i64 cfr, .int .i64 cdp, .int .i64 csc, .slice A_cps n_cps c_cps]] w fun e w' => ∃ (x0 : Int), e = .returned (.int .i64 x0) ∧ x0 = ((freeN cps csc.toNat : Int)) ∧ Ext w w' := by
  have hE := Ext.refl w
  replace h_cps := h_cps.fit
  have hn_cps := h_cps.ln
  have hc_cps := h_cps.cap
  have hm_cps := h_cps.max
  simp only [maxLen] at hm_cps
  have hsc := hok.hsc
  have hln := hok.hln
  refine calls_of (l := [.agg #[.int .i64 cfr, .int .i64 cdp, .int .i64 csc, .slice A_cps n_cps c_cps]]) (N := 35) Try.func24 rfl rfl rfl ?_
  refine C_seq (C_region (RL_l rfl (Ld_box rfl ?_)))
  have hg_1 := hE.size
  intro W1 he1 hz1 hB1
  replace hE := Ext.trans hE he1
  replace h_cps := h_cps.ext he1
  refine RL_q rfl (Yd_assign rfl) (RL_nil (X_then (C_seq (C_region (RL_q rfl (Yd_assign rfl) (RL_nil (X_then (C_seq (C_seq (C_region (RL_q rfl (Yd_assign rfl) (RL_nil (X_then (C_block (?_)))))))))))))))
  refine C_loop (T := Nat × Nat) (fun ⟨s, n⟩ => [(1, .pointer (some ⟨w.heap.size, 0, none⟩)), (2, .int .i64 0), (3, .int .i64 (n : Int)), (4, .int .i64 (s : Int))]) (fun ⟨s, n⟩ lw1 => ((s : Int) ≤ csc) ∧ (n ≤ s) ∧ (n = freeN cps s) ∧ Ext W1 lw1) (fun ⟨s, n⟩ => csc.toNat - s) (⟨0, 0⟩) ⟨rfl, rfl, rfl, rfl, trivial⟩ ?_ ?_
  · refine ⟨?_, ?_, ?_, Ext.refl _⟩
    all_goals (try dsimp only)
    all_goals (first | omega | rfl)
  · rintro ⟨s, n⟩ lw1 ⟨hi1_0, hns, hn, hL1⟩
    replace hE := Ext.trans hE hL1
    replace h_cps := h_cps.ext hL1
    replace hB1 := hB1.ext hL1
    have hsL1 := hL1.size
    refine C_seq (C_seq (C_region (RL_q rfl (Yd_move rfl) (RL_q rfl (Yd_fld (off := 2) Try.underlying24 (by kernel_rfl) rfl) (RL_q rfl (Yd_load Try.underlying3 rfl rfl (ldB hB1 rfl)) (RL_q rfl (Yd_lss rfl rfl) (RL_nil (X_then (?_)))))))))
    refine C_cond rfl (fun hb10 => ?_) (fun hb10 => ?_)
    · skip
      try simp only [decide_eq_true_eq, decide_eq_false_iff_not, Bool.not_eq_true', Bool.not_eq_false', Decidable.not_not, Int.not_lt, Int.not_le, Bool.or_eq_true, Bool.and_eq_true, Bool.or_eq_false_iff, Bool.and_eq_false_iff] at hb10
      refine C_skip (X_then (C_seq (C_block (C_seq (C_region (RL_q rfl (Yd_assign rfl) (RL_nil (X_then (C_seq (C_seq (C_region (RL_q rfl (Yd_assign rfl) (RL_nil (X_then (C_block (?_))))))))))))))))
      refine C_loop (T := Nat × Bool) (fun ⟨j, o⟩ => [(1, .pointer (some ⟨w.heap.size, 0, none⟩)), (2, .int .i64 0), (3, .int .i64 (n : Int)), (4, .int .i64 (s : Int)), (5, .bool o), (6, .int .i64 (j : Int))]) (fun ⟨j, o⟩ lw101001 => (j ≤ n_cps) ∧ (o = anyHas (cps.take j) s) ∧ Ext lw1 lw101001) (fun ⟨j, o⟩ => n_cps - j) (⟨0, false⟩) ⟨rfl, rfl, rfl, rfl, rfl, rfl, trivial⟩ ?_ ?_
      · refine ⟨?_, ?_, Ext.refl _⟩
        all_goals (try dsimp only)
        all_goals (first | omega | rfl)
      · rintro ⟨j, o⟩ lw101001 ⟨hi101001_0, ho, hL101001⟩
        replace hE := Ext.trans hE hL101001
        replace h_cps := h_cps.ext hL101001
        replace hB1 := hB1.ext hL101001
        replace hL1 := Ext.trans hL1 hL101001
        have hsL101001 := hL101001.size
        refine C_seq (C_seq (C_region (RL_q rfl (Yd_move rfl) (RL_q rfl (Yd_fld (off := 3) Try.underlying24 (by kernel_rfl) rfl) (RL_q rfl (Yd_load Try.underlying22 rfl rfl (ldB hB1 rfl)) (RL_q rfl (Yd_len Try.underlying22 rfl) (RL_q rfl (Yd_lss rfl rfl) (RL_nil (X_then (?_))))))))))
        refine C_cond rfl (fun hb17 => ?_) (fun hb17 => ?_)
        · skip
          try simp only [decide_eq_true_eq, decide_eq_false_iff_not, Bool.not_eq_true', Bool.not_eq_false', Decidable.not_not, Int.not_lt, Int.not_le, Bool.or_eq_true, Bool.and_eq_true, Bool.or_eq_false_iff, Bool.and_eq_false_iff] at hb17
          refine C_skip (X_then (C_seq (C_block (C_region (RL_q rfl (Yd_move rfl) (RL_q rfl (Yd_move rfl) (?_)))))))
          refine RL_case (d := 21) rfl (fun hb21 => ?_) (fun hb21 => ?_)
          · skip
            try simp only [decide_eq_true_eq, decide_eq_false_iff_not, Bool.not_eq_true', Bool.not_eq_false', Decidable.not_not, Int.not_lt, Int.not_le, Bool.or_eq_true, Bool.and_eq_true, Bool.or_eq_false_iff, Bool.and_eq_false_iff] at hb21
            refine RL_gn rfl rfl rfl rfl (RL_gn rfl rfl rfl rfl (RL_gn rfl rfl rfl rfl (RL_gn rfl rfl rfl rfl (RL_gn rfl rfl rfl rfl (RL_gn rfl rfl rfl rfl (RL_gn rfl rfl rfl rfl (RL_q rfl (Yd_pickT rfl rfl) (RL_q rfl (Yd_assign rfl) (RL_nil (X_block (X_then (C_region (RL_q rfl (Yd_move rfl) (RL_q rfl (Yd_add rfl rfl (i64w (by omega) (by omega))) (RL_q rfl (Yd_assign rfl) (RL_nil (?_)))))))))))))))))
            refine X_again (⟨j + 1, true⟩) ⟨rfl, rfl, rfl, rfl, rfl, rfl, trivial⟩ ?_ (by show n_cps - (j + 1) < n_cps - j; omega)
            refine ⟨?_, ?_, hL101001⟩
            all_goals (try dsimp only)
            all_goals (first | omega | exact any_keep hb21 ho | (rw [hxb28]; have := any_next hx1 ho; rw [hb21] at this; exact this))
          · skip
            try simp only [decide_eq_true_eq, decide_eq_false_iff_not, Bool.not_eq_true', Bool.not_eq_false', Decidable.not_not, Int.not_lt, Int.not_le, Bool.or_eq_true, Bool.and_eq_true, Bool.or_eq_false_iff, Bool.and_eq_false_iff] at hb21
            refine RL_gq rfl rfl rfl (Yd_fld (off := 3) Try.underlying24 (by kernel_rfl) rfl) (RL_gq rfl rfl rfl (Yd_load Try.underlying22 rfl rfl (ldB hB1 rfl)) (RL_gq rfl rfl rfl (Yd_move rfl) (?_)))
            obtain ⟨adA_cps, rfl, hghA_cps, hglA_cps⟩ := Vw.at_ (i := j) h_cps (by omega)
            refine RL_gq rfl rfl rfl (Yd_idx Try.underlying22 (sz := 3) (by kernel_rfl) rfl rfl (by omega) (by omega)) (?_)
            obtain ⟨x1, hx1, gx1⟩ := Vw.elem (i := j) h_cps (by omega)
            replace gx1 : (-9223372036854775808 ≤ x1.quota ∧ x1.quota ≤ 9223372036854775807) ∧ (-9223372036854775808 ≤ x1.base ∧ x1.base ≤ 9223372036854775807) ∧ (-9223372036854775808 ≤ x1.pages ∧ x1.pages ≤ 9223372036854775807) := gx1
            refine RL_gq rfl rfl rfl (Yd_loadA (cs := [.int .i64 x1.quota, .int .i64 x1.base, .int .i64 x1.pages]) Try.underlying35 rfl (by kernel_rfl) rfl (Vw.lqA h_cps hx1 rfl rfl)) (?_)
            have hpz := partC_zero (hok.hpt _ (List.mem_of_getElem? hx1))
            refine RL_gq rfl rfl rfl (Yd_move rfl) (RL_gl rfl rfl rfl (Ld_call Try.func22 rfl (by kernel_rfl) rfl (hasV (p := x1) ⟨by first | omega | (dsimp only; omega), by first | omega | (dsimp only; omega)⟩ (by first | omega | (dsimp only; omega))) ?_))
            rintro e W2 ⟨xb28, rfl, hxb28, he2⟩
            refine ⟨_, rfl, ?_⟩
            replace hE := Ext.trans hE he2
            replace h_cps := h_cps.ext he2
            replace hB1 := hB1.ext he2
            replace hL1 := Ext.trans hL1 he2
            replace hL101001 := Ext.trans hL101001 he2
            have hs2 := he2.size
            refine RL_q rfl (Yd_pickF rfl rfl) (RL_q rfl (Yd_assign rfl) (RL_nil (X_block (X_then (C_region (RL_q rfl (Yd_move rfl) (RL_q rfl (Yd_add rfl rfl (i64w (by omega) (by omega))) (RL_q rfl (Yd_assign rfl) (RL_nil (?_))))))))))
            refine X_again (⟨j + 1, xb28⟩) ⟨rfl, rfl, rfl, rfl, rfl, rfl, trivial⟩ ?_ (by show n_cps - (j + 1) < n_cps - j; omega)
            refine ⟨?_, ?_, hL101001⟩
            all_goals (try dsimp only)
            all_goals (first | omega | exact any_keep hb21 ho | (rw [hxb28]; have := any_next hx1 ho; rw [hb21] at this; exact this))
        · skip
          try simp only [decide_eq_true_eq, decide_eq_false_iff_not, Bool.not_eq_true', Bool.not_eq_false', Decidable.not_not, Int.not_lt, Int.not_le, Bool.or_eq_true, Bool.and_eq_true, Bool.or_eq_false_iff, Bool.and_eq_false_iff] at hb17
          refine C_exit (X_thenE (X_thenE (X_blockE (X_then (C_seq (C_region (RL_q rfl (Yd_move rfl) (RL_q rfl (Yd_not rfl) (RL_nil (X_then (?_)))))))))))
          refine C_cond rfl (fun hb31 => ?_) (fun hb31 => ?_)
          · skip
            try simp only [decide_eq_true_eq, decide_eq_false_iff_not, Bool.not_eq_true', Bool.not_eq_false', Decidable.not_not, Int.not_lt, Int.not_le, Bool.or_eq_true, Bool.and_eq_true, Bool.or_eq_false_iff, Bool.and_eq_false_iff] at hb31
            refine C_region (RL_q rfl (Yd_move rfl) (RL_q rfl (Yd_add rfl rfl (i64w (by omega) (by omega))) (RL_q rfl (Yd_assign rfl) (RL_nil (X_block (X_then (C_region (RL_q rfl (Yd_move rfl) (RL_q rfl (Yd_add rfl rfl (i64w (by omega) (by omega))) (RL_q rfl (Yd_assign rfl) (RL_nil (?_))))))))))))
            refine X_again (⟨s + 1, n + 1⟩) ⟨rfl, rfl, rfl, rfl, trivial⟩ ?_ (by show csc.toNat - (s + 1) < csc.toNat - s; omega)
            refine ⟨?_, ?_, ?_, hL1⟩
            all_goals (try dsimp only)
            all_goals (first | omega | exact (free_next (by omega) ho hn).1 (by simpa using hb31) | exact (free_next (by omega) ho hn).2 (by simpa using hb31))
          · skip
            try simp only [decide_eq_true_eq, decide_eq_false_iff_not, Bool.not_eq_true', Bool.not_eq_false', Decidable.not_not, Int.not_lt, Int.not_le, Bool.or_eq_true, Bool.and_eq_true, Bool.or_eq_false_iff, Bool.and_eq_false_iff] at hb31
            refine C_skip (X_block (X_then (C_region (RL_q rfl (Yd_move rfl) (RL_q rfl (Yd_add rfl rfl (i64w (by omega) (by omega))) (RL_q rfl (Yd_assign rfl) (RL_nil (?_))))))))
            refine X_again (⟨s + 1, n⟩) ⟨rfl, rfl, rfl, rfl, trivial⟩ ?_ (by show csc.toNat - (s + 1) < csc.toNat - s; omega)
            refine ⟨?_, ?_, ?_, hL1⟩
            all_goals (try dsimp only)
            all_goals (first | omega | exact (free_next (by omega) ho hn).1 (by simpa using hb31) | exact (free_next (by omega) ho hn).2 (by simpa using hb31))
    · skip
      try simp only [decide_eq_true_eq, decide_eq_false_iff_not, Bool.not_eq_true', Bool.not_eq_false', Decidable.not_not, Int.not_lt, Int.not_le, Bool.or_eq_true, Bool.and_eq_true, Bool.or_eq_false_iff, Bool.and_eq_false_iff] at hb10
      refine C_exit (X_thenE (X_thenE (X_blockE (X_then (C_seq (C_region (RL_q rfl (Yd_move rfl) (RL_q rfl (Yd_assign rfl) (RL_nil (X_then (C_ret (X_ret1 rfl rfl ?_))))))))))))
      refine ⟨_, rfl, ?_, hE⟩
      all_goals (((obtain rfl : s = csc.toNat := by omega); exact congrArg _ hn))
theorem FewV {cfr cdp csc : Int} {lo_cps B_cps : Nat} {A_cps : Option Addr} {n_cps c_cps : Nat} {cps : List Pt} {w : World}  (h_cps : Vw tP w lo_cps B_cps A_cps n_cps c_cps cps) (b_c : -9223372036854775808 ≤ cfr ∧ cfr ≤ 9223372036854775807 ∧ -9223372036854775808 ≤ cdp ∧ cdp ≤ 9223372036854775807 ∧ -9223372036854775808 ≤ csc ∧ csc ≤ 9223372036854775807) :
    Calls Try.prog 15 #[.agg #[.int .i64 cfr, .int .i64 cdp, .int .i64 csc, .slice A_cps n_cps c_cps]] w fun e w' => ∃ (fr dp sc : Int) (A : Option Addr) (n c : Nat) (ps : List Pt), e = .returned (.agg #[.int .i64 fr, .int .i64 dp, .int .i64 sc, .slice A n c]) ∧ (fr = cfr ∧ dp = cdp ∧ sc = csc ∧ ps.length ≤ 5) ∧ Ow tP 35 w' w.heap.size w'.heap.size A n c ps ∧ Ext w w' := by
  have hE := Ext.refl w
  replace h_cps := h_cps.fit
  have hn_cps := h_cps.ln
  have hc_cps := h_cps.cap
  have hm_cps := h_cps.max
  simp only [maxLen] at hm_cps
  refine calls_of (l := [.agg #[.int .i64 cfr, .int .i64 cdp, .int .i64 csc, .slice A_cps n_cps c_cps]]) (N := 16) Try.func15 rfl rfl rfl ?_
  refine C_seq (C_region (RL_l rfl (Ld_box rfl ?_)))
  have hg_1 := hE.size
  intro W1 he1 hz1 hB1
  replace hE := Ext.trans hE he1
  replace h_cps := h_cps.ext he1
  refine RL_l rfl (Ld_alloc (v := (.agg #[(.int .i64 0), (.int .i64 0), (.int .i64 0), (.slice none 0 0)])) (by kernel_rfl) ?_)
  have hg_2 := hE.size
  intro W2 he2 hz2 hB2
  replace hE := Ext.trans hE he2
  replace h_cps := h_cps.ext he2
  replace hB1 := hB1.ext he2
  refine RL_nil (X_then (C_seq (C_region (RL_q rfl (Yd_assign rfl) (RL_nil (X_then (C_seq (C_region (RL_q rfl (Yd_move rfl) (RL_q rfl (Yd_fld (off := 3) Try.underlying24 (by kernel_rfl) rfl) (RL_q rfl (Yd_load Try.underlying22 rfl rfl (ldB hB1 rfl)) (RL_q rfl (Yd_fld (off := 3) Try.underlying24 (by kernel_rfl) rfl) (RL_q rfl (Yd_load Try.underlying22 rfl rfl (ldB hB1 rfl)) (RL_q rfl (Yd_len Try.underlying22 rfl) (?_)))))))))))))))
  obtain ⟨m10, hm10⟩ : ∃ r : Int, (if 5 < (n_cps : Int) then 5 else (n_cps : Int)) = r := ⟨_, rfl⟩
  have hmb10 : m10 ≤ (n_cps : Int) ∧ m10 ≤ 5 ∧ (m10 = (n_cps : Int) ∨ m10 = 5) := by rw [← hm10]; split <;> omega
  refine RL_q rfl (Yd_minw rfl rfl hm10) (RL_q rfl (Yd_sliceH Try.underlying22 (sz := 3) (by kernel_rfl) rfl rfl (by omega) (by omega)) (RL_l rfl (Ld_apO (T := tP) Try.underlying22 Try.elt35 rfl rfl rfl (Ow.nil (lo := W2.heap.size) (B := W2.heap.size)) (Vw.take (k := m10.toNat) h_cps (by omega)) (by simp only [maxLen]; omega) (by omega) (by omega) ?_)))
  intro A12 c12 W3 hO12 hk3
  have he3 : Ext W2 W3 := Ext.kp (Ext.refl _) hk3 (fun k hk => by first | omega | (have hk := hk; dsimp only at hk; omega))
  replace hE := Ext.trans hE he3
  replace h_cps := h_cps.ext he3
  replace hB1 := hB1.ext he3
  replace hB2 := hB2.ext he3
  have hs3 := he3.size
  have hn12 := hO12.ln
  try simp only [List.length_append, List.length_cons, List.length_nil, List.length_set, List.length_take, List.length_drop, List.length_replicate, List.length_map, Nat.zero_add, Nat.add_zero, oneP_len] at hn12
  have hc12 := hO12.cap
  refine RL_q rfl (Yd_assign rfl) (RL_nil (X_then (C_seq (C_region (RL_q rfl (Yd_move rfl) (RL_q rfl (Yd_fld (off := 3) Try.underlying24 (by kernel_rfl) rfl) (RL_l0 (Ld_store (by kernel_rfl) rfl rfl hB1 (Nat.le_of_ble_eq_true rfl) (by simp [cellsL, Value.cells, Value.oneCell']) ?_))))))))
  intro W4 hu4 hz4 hB1
  have hk4 := Kp.ofb hu4
  have hs4 := hk4.size
  replace hE := Ext.kp hE hk4 (fun k hk => by first | omega | (have hk := hk; dsimp only at hk; omega))
  replace h_cps := h_cps.kp hk4 (fun k hk => by first | omega | (have hk := hk; dsimp only at hk; omega))
  replace hB2 := hB2.kp hk4 (fun hk => by first | omega | (have hk := hk; dsimp only at hk; omega))
  replace hO12 := hO12.kp hk4 (fun k hk => by first | omega | (have hk := hk; dsimp only at hk; omega))
  refine RL_nil (X_then (C_seq (C_region (RL_q rfl (Yd_loadA Try.underlying24 rfl (by kernel_rfl) rfl (ldBA hB1)) (RL_l0 (Ld_store (by kernel_rfl) rfl rfl hB2 (Nat.le_of_ble_eq_true rfl) (by simp [cellsL, Value.cells, Value.oneCell']) ?_))))))
  intro W5 hu5 hz5 hB2
  have hk5 := Kp.ofb hu5
  have hs5 := hk5.size
  replace hE := Ext.kp hE hk5 (fun k hk => by first | omega | (have hk := hk; dsimp only at hk; omega))
  replace h_cps := h_cps.kp hk5 (fun k hk => by first | omega | (have hk := hk; dsimp only at hk; omega))
  replace hB1 := hB1.kp hk5 (fun hk => by first | omega | (have hk := hk; dsimp only at hk; omega))
  replace hO12 := hO12.kp hk5 (fun k hk => by first | omega | (have hk := hk; dsimp only at hk; omega))
  refine RL_nil (X_then (C_ret (X_retC rfl rfl Try.underlying24 rfl (by kernel_rfl) hB2 ?_)))
  refine ⟨_, _, _, _, _, _, _, rfl, ?_, hO12.fit.more (by omega) (Nat.le_refl _), hE⟩
  exact ⟨rfl, rfl, rfl, by first | (simp only [List.nil_append, List.length_take]; omega) | (simp; omega)⟩
set_option maxHeartbeats 1600000 in
theorem GoodV {cfr cdp csc : Int} {lo_cps B_cps : Nat} {A_cps : Option Addr} {n_cps c_cps : Nat} {cps : List Pt} {w : World}  (h_cps : Vw tP w lo_cps B_cps A_cps n_cps c_cps cps) (b_c : -9223372036854775808 ≤ cfr ∧ cfr ≤ 9223372036854775807 ∧ -9223372036854775808 ≤ cdp ∧ cdp ≤ 9223372036854775807 ∧ -9223372036854775808 ≤ csc ∧ csc ≤ 9223372036854775807) :
    Calls Try.prog 14 #[.agg #[.int .i64 cfr, .int .i64 cdp, .int .i64 csc, .slice A_cps n_cps c_cps]] w fun e w' => ∃ (fr dp sc : Int) (A : Option Addr) (n c : Nat) (ps : List Pt), e = .returned (.agg #[.int .i64 fr, .int .i64 dp, .int .i64 sc, .slice A n c]) ∧ (GoodCf fr dp sc ps) ∧ Ow tP 35 w' w.heap.size w'.heap.size A n c ps ∧ Ext w w' := by
  have hE := Ext.refl w
  replace h_cps := h_cps.fit
  have hn_cps := h_cps.ln
  have hc_cps := h_cps.cap
  have hm_cps := h_cps.max
  simp only [maxLen] at hm_cps
  refine calls_of (l := [.agg #[.int .i64 cfr, .int .i64 cdp, .int .i64 csc, .slice A_cps n_cps c_cps]]) (N := 79) Try.func14 rfl rfl rfl ?_
  refine C_seq (C_region (RL_l rfl (Ld_box rfl ?_)))
  have hg_1 := hE.size
  intro W1 he1 hz1 hB1
  replace hE := Ext.trans hE he1
  replace h_cps := h_cps.ext he1
  refine RL_l rfl (Ld_alloc (v := (.agg #[(.int .i64 0), (.int .i64 0), (.int .i64 0), (.slice none 0 0)])) (by kernel_rfl) ?_)
  have hg_2 := hE.size
  intro W2 he2 hz2 hB2
  replace hE := Ext.trans hE he2
  replace h_cps := h_cps.ext he2
  replace hB1 := hB1.ext he2
  refine RL_nil (X_then (C_seq (C_region (RL_q rfl (Yd_fld (off := 3) Try.underlying24 (by kernel_rfl) rfl) (RL_q rfl (Yd_load Try.underlying22 rfl rfl (ldB hB1 rfl)) (RL_q rfl (Yd_fld (off := 3) Try.underlying24 (by kernel_rfl) rfl) (RL_q rfl (Yd_load Try.underlying22 rfl rfl (ldB hB1 rfl)) (RL_q rfl (Yd_len Try.underlying22 rfl) (?_)))))))))
  obtain ⟨m13, hm13⟩ : ∃ r : Int, (if 4 < (n_cps : Int) then 4 else (n_cps : Int)) = r := ⟨_, rfl⟩
  have hmb13 : m13 ≤ (n_cps : Int) ∧ m13 ≤ 4 ∧ (m13 = (n_cps : Int) ∨ m13 = 4) := by rw [← hm13]; split <;> omega
  refine RL_q rfl (Yd_minw rfl rfl hm13) (RL_q rfl (Yd_sliceH Try.underlying22 (sz := 3) (by kernel_rfl) rfl rfl (by omega) (by omega)) (RL_q rfl (Yd_assign rfl) (RL_nil (X_then (C_seq (C_seq (C_region (RL_q rfl (Yd_move rfl) (RL_q rfl (Yd_len Try.underlying22 rfl) (RL_q rfl (Yd_eql rfl rfl) (RL_nil (X_then (?_)))))))))))))
  refine C_cond rfl (fun hb17 => ?_) (fun hb17 => ?_)
  · skip
    simp only [decide_eq_true_eq, decide_eq_false_iff_not] at hb17
    refine C_region (RL_q rfl (Yd_build Try.bld35 rfl rfl) (RL_l rfl (Ld_lit Try.underlying22 rfl (lit_flat Try.underlying22 Try.elt35 rfl rfl ⟨rfl, by decide⟩) ?_)))
    intro W3 he3 hz3 hL19
    replace hE := Ext.trans hE he3
    replace h_cps := h_cps.ext he3
    replace hB1 := hB1.ext he3
    replace hB2 := hB2.ext he3
    have hO19 := Ow.of_blk (T := tP) (l := [(⟨0, 0, 0⟩ : Pt)]) hL19 rfl (n := 1) rfl (by simp [maxLen]) (okc ⟨⟨by dsimp only; omega, by dsimp only; omega⟩, ⟨by dsimp only; omega, by dsimp only; omega⟩, ⟨by dsimp only; omega, by dsimp only; omega⟩⟩ okn)
    clear hL19
    refine RL_q rfl (Yd_assign rfl) (RL_nil (X_then (C_seq (C_region (RL_q rfl (Yd_fld (off := 1) Try.underlying24 (by kernel_rfl) rfl) (RL_q rfl (Yd_load Try.underlying3 rfl rfl (ldB hB1 rfl)) (RL_l rfl (Ld_call Try.func17 rfl (by kernel_rfl) rfl (AroundV ⟨by first | omega | (dsimp only; omega), by first | omega | (dsimp only; omega)⟩ ⟨by first | omega | (dsimp only; omega), by first | omega | (dsimp only; omega)⟩) ?_))))))))
    rintro e W4 ⟨y22, rfl, hy22, hra22, rfl⟩
    refine ⟨_, rfl, ?_⟩
    refine RL_q rfl (Yd_add rfl rfl (i64w (by omega) (by omega))) (RL_q rfl (Yd_build Try.bld24 rfl rfl) (RL_l rfl (Ld_alloc (v := (.agg #[(.int .i64 0), (.int .i64 0), (.int .i64 0), (.slice none 0 0)])) (by kernel_rfl) ?_)))
    have hg_4 := hE.size
    intro W5 he5 hz5 hB4
    replace hE := Ext.trans hE he5
    replace h_cps := h_cps.ext he5
    replace hB1 := hB1.ext he5
    replace hB2 := hB2.ext he5
    replace hO19 := hO19.ext he5
    refine RL_l0 (Ld_store (by kernel_rfl) rfl rfl hB4 (Nat.le_of_ble_eq_true rfl) (by simp [cellsL, Value.cells, Value.oneCell']) ?_)
    intro W6 hu6 hz6 hB4
    have hk6 := Kp.ofb hu6
    have hs6 := hk6.size
    replace hE := Ext.kp hE hk6 (fun k hk => by first | omega | (have hk := hk; dsimp only at hk; omega))
    replace h_cps := h_cps.kp hk6 (fun k hk => by first | omega | (have hk := hk; dsimp only at hk; omega))
    replace hB1 := hB1.kp hk6 (fun hk => by first | omega | (have hk := hk; dsimp only at hk; omega))
    replace hB2 := hB2.kp hk6 (fun hk => by first | omega | (have hk := hk; dsimp only at hk; omega))
    replace hO19 := hO19.kp hk6 (fun k hk => by first | omega | (have hk := hk; dsimp only at hk; omega))
    refine RL_nil (X_then (C_seq (C_region (RL_q rfl (Yd_assign rfl) (RL_nil (X_then (C_seq (C_seq (C_region (RL_q rfl (Yd_assign rfl) (RL_nil (X_then (C_block (?_))))))))))))))
    refine C_loop (T := Nat × Int × Int × List Pt × Option Addr × Nat × Nat) (fun ⟨k, fr, at_, q, bA4_3, bn4_3, bc4_3⟩ => [(1, .pointer (some ⟨w.heap.size, 0, none⟩)), (2, .pointer (some ⟨W1.heap.size, 0, none⟩)), (3, .slice (some ⟨W2.heap.size, 0, none⟩) 1 1), (4, .pointer (some ⟨W3.heap.size, 0, none⟩)), (5, .int .i64 at_), (6, .int .i64 (k : Int))]) (fun ⟨k, fr, at_, q, bA4_3, bn4_3, bc4_3⟩ lw6 => Ow tP 35 lw6 W6.heap.size lw6.heap.size bA4_3 bn4_3 bc4_3 q ∧ Blk lw6 W3.heap.size 24 [.int .i64 fr, .int .i64 (1 + y22), .int .i64 0, .slice bA4_3 bn4_3 bc4_3] ∧ (k ≤ 1) ∧ (GI k fr at_ q) ∧ Kp (fun k => k = W3.heap.size) W6 lw6) (fun ⟨k, fr, at_, q, bA4_3, bn4_3, bc4_3⟩ => 1 - k) (⟨0, 0, 0, [], none, 0, 0⟩) ⟨rfl, rfl, rfl, rfl, rfl, rfl, trivial⟩ ?_ ?_
    · refine ⟨(Ow.nil (lo := W6.heap.size)).cast ?_, hB4, ?_, ?_, Kp.refl _ _⟩
      all_goals (try dsimp only)
      all_goals (first | omega | rfl | exact GI.zero)
    · rintro ⟨k, fr, at_, q, bA4_3, bn4_3, bc4_3⟩ lw6 ⟨hb_4_3, hB4, hi6_0, hG, hL6⟩
      replace hE := Ext.kp hE hL6 (fun k hk => by first | omega | (have hk := hk; dsimp only at hk; omega))
      replace h_cps := h_cps.kp hL6 (fun k hk => by first | omega | (have hk := hk; dsimp only at hk; omega))
      replace hB1 := hB1.kp hL6 (fun hk => by first | omega | (have hk := hk; dsimp only at hk; omega))
      replace hB2 := hB2.kp hL6 (fun hk => by first | omega | (have hk := hk; dsimp only at hk; omega))
      replace hO19 := hO19.kp hL6 (fun k hk => by first | omega | (have hk := hk; dsimp only at hk; omega))
      have hsL6 := hL6.size
      have hnhb_4_3 := hb_4_3.ln
      try simp only [List.length_append, List.length_cons, List.length_nil, List.length_set, List.length_take, List.length_drop, List.length_replicate, List.length_map, Nat.zero_add, Nat.add_zero, oneP_len] at hnhb_4_3
      have hchb_4_3 := hb_4_3.cap
      have hGf := hG.frb
      have hGa := hG.hat
      have hGl := hG.hln
      refine C_seq (C_seq (C_region (RL_q rfl (Yd_move rfl) (RL_q rfl (Yd_move rfl) (RL_q rfl (Yd_len Try.underlying22 rfl) (RL_q rfl (Yd_lss rfl rfl) (RL_nil (X_then (?_)))))))))
      refine C_cond rfl (fun hb28 => ?_) (fun hb28 => ?_)
      · skip
        try simp only [decide_eq_true_eq, decide_eq_false_iff_not, Bool.not_eq_true', Bool.not_eq_false', Decidable.not_not, Int.not_lt, Int.not_le, Bool.or_eq_true, Bool.and_eq_true, Bool.or_eq_false_iff, Bool.and_eq_false_iff] at hb28
        refine C_skip (X_then (C_seq (C_block (C_seq (?_)))))
        refine C_regionP (fun k => lw6.heap.size ≤ k) (p := (.q 0 (.q 1 (.q 2 (.q 3 (.q 4 (.q 7 (.q 8 (.q 9 (.q 10 (.q 11 (.q 12 (.q 15 (.q 16 (.q 17 (.q 18 (.q 19 (.two 5 23 (.q 6 (.two 13 23 (.q 14 (.two 20 23 (.q 21 (.q 22 (.l 23 (.l 24 .nil)))) (.l 20 (.q 21 (.q 22 (.l 24 .nil)))))) (.l 13 (.q 14 (.l 20 (.q 21 (.q 22 (.l 24 .nil)))))))) (.l 5 (.q 6 (.l 13 (.q 14 (.l 20 (.q 21 (.q 22 (.l 24 .nil)))))))))))))))))))))))))) (by kernel_rfl) (by kernel_rfl) rfl (by kernel_rfl) (fun _ _ d _ _ h => by cases d <;> exact h) ?_
        intro W7 he7 hh7
        replace hE := Ext.trans hE he7
        replace h_cps := h_cps.ext he7
        replace hB1 := hB1.ext he7
        replace hB2 := hB2.ext he7
        replace hO19 := hO19.ext he7
        replace hb_4_3 := hb_4_3.ext he7
        replace hL6 := Kp.go hL6 (Kp.of_ext (G := NoB) he7) (fun _ h => h.elim)
        replace hB4 := hB4.ext he7
        have hs7 := he7.size
        refine RP_q rfl rfl (Yd_move rfl) (RP_q rfl rfl (Yd_move rfl) (RP_q rfl rfl (Yd_idxL Try.underlying22 (sz := 3) (by kernel_rfl) rfl rfl (by omega) (by omega)) (RP_q rfl rfl (Yd_fld (off := 0) Try.underlying35 (by kernel_rfl) rfl) (?_))))
        obtain ⟨x1, hx1, gx1⟩ := Vw.elem (i := k) hO19.vw (by omega)
        replace gx1 : (-9223372036854775808 ≤ x1.quota ∧ x1.quota ≤ 9223372036854775807) ∧ (-9223372036854775808 ≤ x1.base ∧ x1.base ≤ 9223372036854775807) ∧ (-9223372036854775808 ≤ x1.pages ∧ x1.pages ≤ 9223372036854775807) := gx1
        refine RP_q rfl rfl (Yd_load Try.underlying3 rfl rfl (fun W hW => (Vw.lqFL (Vw.kp hO19.vw hW (fun k hk => by first | omega | (have hk := hk; dsimp only at hk; omega))) hx1 rfl rfl) W (Ext.refl W))) (RP_q rfl rfl (Yd_move rfl) (RP_q rfl rfl (Yd_move rfl) (RP_q rfl rfl (Yd_move rfl) (RP_q rfl rfl (Yd_idxL Try.underlying22 (sz := 3) (by kernel_rfl) rfl rfl (by omega) (by omega)) (RP_q rfl rfl (Yd_fld (off := 1) Try.underlying35 (by kernel_rfl) rfl) (RP_q rfl rfl (Yd_load Try.underlying3 rfl rfl (fun W hW => (Vw.lqFL (Vw.kp hO19.vw hW (fun k hk => by first | omega | (have hk := hk; dsimp only at hk; omega))) hx1 rfl rfl) W (Ext.refl W))) (RP_q rfl rfl (Yd_move rfl) (RP_q rfl rfl (Yd_move rfl) (RP_q rfl rfl (Yd_idxL Try.underlying22 (sz := 3) (by kernel_rfl) rfl rfl (by omega) (by omega)) (RP_q rfl rfl (Yd_fld (off := 2) Try.underlying35 (by kernel_rfl) rfl) (RP_q rfl rfl (Yd_load Try.underlying3 rfl rfl (fun W hW => (Vw.lqFL (Vw.kp hO19.vw hW (fun k hk => by first | omega | (have hk := hk; dsimp only at hk; omega))) hx1 rfl rfl) W (Ext.refl W))) (?_))))))))))))
        refine RP_two rfl rfl ?_ ?_
        · skip
          refine RPl_l rfl (Ld_call Try.func17 rfl (by kernel_rfl) rfl (AroundV ⟨by first | omega | (dsimp only; omega), by first | omega | (dsimp only; omega)⟩ ⟨by first | omega | (dsimp only; omega), by first | omega | (dsimp only; omega)⟩) ?_)
          rintro e W8 ⟨y36, rfl, hy36, hra36, rfl⟩
          refine ⟨_, rfl, ?_⟩
          refine ⟨Kp.refl _ _, ?_⟩
          refine RP_q rfl rfl (Yd_add rfl rfl (i64w (by omega) (by omega))) (?_)
          refine RP_two rfl rfl ?_ ?_
          · skip
            refine RPl_l rfl (Ld_call Try.func17 rfl (by kernel_rfl) rfl (AroundV ⟨by first | omega | (dsimp only; omega), by first | omega | (dsimp only; omega)⟩ ⟨by first | omega | (dsimp only; omega), by first | omega | (dsimp only; omega)⟩) ?_)
            rintro e W9 ⟨y44, rfl, hy44, hra44, rfl⟩
            refine ⟨_, rfl, ?_⟩
            refine ⟨Kp.refl _ _, ?_⟩
            refine RP_q rfl rfl (Yd_add rfl rfl (i64w (by omega) (by omega))) (?_)
            refine RP_two rfl rfl ?_ ?_
            · skip
              refine RPl_l rfl (Ld_call Try.func17 rfl (by kernel_rfl) rfl (AroundV ⟨by first | omega | (dsimp only; omega), by first | omega | (dsimp only; omega)⟩ ⟨by first | omega | (dsimp only; omega), by first | omega | (dsimp only; omega)⟩) ?_)
              rintro e W10 ⟨y51, rfl, hy51, hra51, rfl⟩
              refine ⟨_, rfl, ?_⟩
              refine ⟨Kp.refl _ _, ?_⟩
              refine RP_q rfl rfl (Yd_add rfl rfl (i64w (by omega) (by omega))) (RP_q rfl rfl (Yd_build Try.bld35 rfl rfl) (RP_loud rfl (RPl_l rfl (Ld_alloc (v := (.agg #[(.int .i64 0), (.int .i64 0), (.int .i64 0)])) (by kernel_rfl) ?_))))
              have hg_7 := hE.size
              intro W11 he11 hz11 hB7
              refine ⟨Kp.of_ext he11, ?_⟩
              replace hE := Ext.trans hE he11
              replace h_cps := h_cps.ext he11
              replace hB1 := hB1.ext he11
              replace hB2 := hB2.ext he11
              replace hO19 := hO19.ext he11
              replace hb_4_3 := hb_4_3.ext he11
              replace hL6 := Kp.go hL6 (Kp.of_ext (G := NoB) he11) (fun _ h => h.elim)
              replace hB4 := hB4.ext he11
              refine RP_loud rfl (RPl_l0 (Ld_store (by kernel_rfl) rfl rfl hB7 (Nat.le_of_ble_eq_true rfl) (by simp [cellsL, Value.cells, Value.oneCell']) ?_))
              intro W12 hu12 hz12 hB7
              refine ⟨Kp.of_but hu12 (by first | rfl | omega | (dsimp only; omega)), ?_⟩
              have hk12 := Kp.ofb hu12
              have hs12 := hk12.size
              replace hE := Ext.kp hE hk12 (fun k hk => by first | omega | (have hk := hk; dsimp only at hk; omega))
              replace h_cps := h_cps.kp hk12 (fun k hk => by first | omega | (have hk := hk; dsimp only at hk; omega))
              replace hB1 := hB1.kp hk12 (fun hk => by first | omega | (have hk := hk; dsimp only at hk; omega))
              replace hB2 := hB2.kp hk12 (fun hk => by first | omega | (have hk := hk; dsimp only at hk; omega))
              replace hO19 := hO19.kp hk12 (fun k hk => by first | omega | (have hk := hk; dsimp only at hk; omega))
              replace hb_4_3 := hb_4_3.kp hk12 (fun k hk => by first | omega | (have hk := hk; dsimp only at hk; omega))
              try replace hL6 := hL6.go hk12 (fun k hk => by first | omega | (have hk := hk; dsimp only at hk; dsimp only; omega))
              replace hB4 := hB4.kp hk12 (fun hk => by first | omega | (have hk := hk; dsimp only at hk; omega))
              refine RP_nil (X_then (C_seq (C_region (RL_q rfl (Yd_fld (off := 3) Try.underlying24 (by kernel_rfl) rfl) (RL_q rfl (Yd_load Try.underlying22 rfl rfl (ldB hB4 rfl)) (RL_q rfl (Yd_loadA Try.underlying35 rfl (by kernel_rfl) rfl (ldBA hB7)) (RL_l rfl (Ld_lit Try.underlying22 rfl (lit_flat Try.underlying22 Try.elt35 rfl rfl ⟨rfl, by decide⟩) ?_))))))))
              intro W13 he13 hz13 hL57
              replace hE := Ext.trans hE he13
              replace h_cps := h_cps.ext he13
              replace hB1 := hB1.ext he13
              replace hB2 := hB2.ext he13
              replace hO19 := hO19.ext he13
              replace hb_4_3 := hb_4_3.ext he13
              replace hL6 := Kp.go hL6 (Kp.of_ext (G := NoB) he13) (fun _ h => h.elim)
              replace hB4 := hB4.ext he13
              replace hB7 := hB7.ext he13
              have hO57 := Ow.of_blk (T := tP) (l := [(⟨(1 + y36), (at_ + y44), (1 + y51)⟩ : Pt)]) hL57 rfl (n := 1) rfl (by simp [maxLen]) (okc ⟨⟨by dsimp only; omega, by dsimp only; omega⟩, ⟨by dsimp only; omega, by dsimp only; omega⟩, ⟨by dsimp only; omega, by dsimp only; omega⟩⟩ okn)
              clear hL57
              refine RL_l rfl (Ld_apO (T := tP) Try.underlying22 Try.elt35 rfl rfl rfl hb_4_3 hO57.vw (by simp only [maxLen]; omega) (by omega) (by omega) ?_)
              intro A58 c58 W14 hO58 hk14
              have hs14 := hk14.size
              replace hE := Ext.kp hE hk14 (fun k hk => by first | omega | (have hk := hk; dsimp only at hk; omega))
              replace h_cps := h_cps.kp hk14 (fun k hk => by first | omega | (have hk := hk; dsimp only at hk; omega))
              replace hB1 := hB1.kp hk14 (fun hk => by first | omega | (have hk := hk; dsimp only at hk; omega))
              replace hB2 := hB2.kp hk14 (fun hk => by first | omega | (have hk := hk; dsimp only at hk; omega))
              replace hO19 := hO19.kp hk14 (fun k hk => by first | omega | (have hk := hk; dsimp only at hk; omega))
              try replace hL6 := hL6.go hk14 (fun k hk => by first | omega | (have hk := hk; dsimp only at hk; dsimp only; omega))
              replace hB4 := hB4.kp hk14 (fun hk => by first | omega | (have hk := hk; dsimp only at hk; omega))
              replace hB7 := hB7.kp hk14 (fun hk => by first | omega | (have hk := hk; dsimp only at hk; omega))
              replace hO57 := hO57.kp hk14 (fun k hk => by first | omega | (have hk := hk; dsimp only at hk; omega))
              have hn58 := hO58.ln
              try simp only [List.length_append, List.length_cons, List.length_nil, List.length_set, List.length_take, List.length_drop, List.length_replicate, List.length_map, Nat.zero_add, Nat.add_zero, oneP_len] at hn58
              have hc58 := hO58.cap
              refine RL_q rfl (Yd_fld (off := 3) Try.underlying24 (by kernel_rfl) rfl) (RL_l0 (Ld_store (by kernel_rfl) rfl rfl hB4 (Nat.le_of_ble_eq_true rfl) (by simp [cellsL, Value.cells, Value.oneCell']) ?_))
              intro W15 hu15 hz15 hB4
              have hk15 := Kp.ofb hu15
              have hs15 := hk15.size
              replace hE := Ext.kp hE hk15 (fun k hk => by first | omega | (have hk := hk; dsimp only at hk; omega))
              replace h_cps := h_cps.kp hk15 (fun k hk => by first | omega | (have hk := hk; dsimp only at hk; omega))
              replace hB1 := hB1.kp hk15 (fun hk => by first | omega | (have hk := hk; dsimp only at hk; omega))
              replace hB2 := hB2.kp hk15 (fun hk => by first | omega | (have hk := hk; dsimp only at hk; omega))
              replace hO19 := hO19.kp hk15 (fun k hk => by first | omega | (have hk := hk; dsimp only at hk; omega))
              try replace hL6 := hL6.go hk15 (fun k hk => by first | omega | (have hk := hk; dsimp only at hk; dsimp only; omega))
              replace hB7 := hB7.kp hk15 (fun hk => by first | omega | (have hk := hk; dsimp only at hk; omega))
              replace hO57 := hO57.kp hk15 (fun k hk => by first | omega | (have hk := hk; dsimp only at hk; omega))
              replace hO58 := hO58.kp hk15 (fun k hk => by first | omega | (have hk := hk; dsimp only at hk; omega))
              refine RL_nil (X_then (C_seq (C_region (RL_q rfl (Yd_fld (off := 0) Try.underlying24 (by kernel_rfl) rfl) (RL_q rfl (Yd_load Try.underlying3 rfl rfl (ldB hB4 rfl)) (RL_q rfl (Yd_fld (off := 0) Try.underlying35 (by kernel_rfl) rfl) (RL_q rfl (Yd_load Try.underlying3 rfl rfl (ldB hB7 rfl)) (RL_q rfl (Yd_add rfl rfl (i64w (by omega) (by omega))) (RL_q rfl (Yd_fld (off := 0) Try.underlying24 (by kernel_rfl) rfl) (RL_l0 (Ld_store (by kernel_rfl) rfl rfl hB4 (Nat.le_of_ble_eq_true rfl) (by simp [cellsL, Value.cells, Value.oneCell']) ?_)))))))))))
              intro W16 hu16 hz16 hB4
              have hk16 := Kp.ofb hu16
              have hs16 := hk16.size
              replace hE := Ext.kp hE hk16 (fun k hk => by first | omega | (have hk := hk; dsimp only at hk; omega))
              replace h_cps := h_cps.kp hk16 (fun k hk => by first | omega | (have hk := hk; dsimp only at hk; omega))
              replace hB1 := hB1.kp hk16 (fun hk => by first | omega | (have hk := hk; dsimp only at hk; omega))
              replace hB2 := hB2.kp hk16 (fun hk => by first | omega | (have hk := hk; dsimp only at hk; omega))
              replace hO19 := hO19.kp hk16 (fun k hk => by first | omega | (have hk := hk; dsimp only at hk; omega))
              try replace hL6 := hL6.go hk16 (fun k hk => by first | omega | (have hk := hk; dsimp only at hk; dsimp only; omega))
              replace hB7 := hB7.kp hk16 (fun hk => by first | omega | (have hk := hk; dsimp only at hk; omega))
              replace hO57 := hO57.kp hk16 (fun k hk => by first | omega | (have hk := hk; dsimp only at hk; omega))
              replace hO58 := hO58.kp hk16 (fun k hk => by first | omega | (have hk := hk; dsimp only at hk; omega))
              refine RL_nil (X_then (C_region (RL_q rfl (Yd_fld (off := 1) Try.underlying35 (by kernel_rfl) rfl) (RL_q rfl (Yd_load Try.underlying3 rfl rfl (ldB hB7 rfl)) (RL_q rfl (Yd_fld (off := 2) Try.underlying35 (by kernel_rfl) rfl) (RL_q rfl (Yd_load Try.underlying3 rfl rfl (ldB hB7 rfl)) (RL_q rfl (Yd_mul rfl rfl (i64w (by omega) (by omega))) (RL_q rfl (Yd_add rfl rfl (i64w (by omega) (by omega))) (RL_q rfl (Yd_assign rfl) (RL_nil (X_block (X_then (C_region (RL_q rfl (Yd_move rfl) (RL_q rfl (Yd_add rfl rfl (i64w (by omega) (by omega))) (RL_q rfl (Yd_assign rfl) (RL_nil (?_))))))))))))))))))
              refine X_again (⟨k + 1, (fr + (1 + y36)), ((at_ + y44) + (2 * (1 + y51))), (q ++ [(⟨(1 + y36), (at_ + y44), (1 + y51)⟩ : Pt)]), A58, (bn4_3 + 1), c58⟩) ⟨rfl, rfl, rfl, rfl, rfl, rfl, trivial⟩ ?_ (by show 1 - (k + 1) < 1 - k; omega)
              refine ⟨hO58.fit.cast ?_, hB4, ?_, ?_, hL6⟩
              all_goals (try dsimp only)
              all_goals (first | omega | rfl | exact GI.next hG hra36 hra44 hra51)
            · skip
              refine RPl_l rfl (Ld_alloc (v := (.agg #[(.int .i64 0), (.int .i64 0), (.int .i64 0)])) (by kernel_rfl) ?_)
              have hg_7 := hE.size
              intro W10 he10 hz10 hB7
              refine ⟨Kp.of_ext he10, ?_⟩
              replace hE := Ext.trans hE he10
              replace h_cps := h_cps.ext he10
              replace hB1 := hB1.ext he10
              replace hB2 := hB2.ext he10
              replace hO19 := hO19.ext he10
              replace hb_4_3 := hb_4_3.ext he10
              replace hL6 := Kp.go hL6 (Kp.of_ext (G := NoB) he10) (fun _ h => h.elim)
              replace hB4 := hB4.ext he10
              refine RP_loud rfl (RPl_l rfl (Ld_call Try.func17 rfl (by kernel_rfl) rfl (AroundV ⟨by first | omega | (dsimp only; omega), by first | omega | (dsimp only; omega)⟩ ⟨by first | omega | (dsimp only; omega), by first | omega | (dsimp only; omega)⟩) ?_))
              rintro e W11 ⟨y51, rfl, hy51, hra51, rfl⟩
              refine ⟨_, rfl, ?_⟩
              refine ⟨Kp.refl _ _, ?_⟩
              refine RP_q rfl rfl (Yd_add rfl rfl (i64w (by omega) (by omega))) (RP_q rfl rfl (Yd_build Try.bld35 rfl rfl) (RP_loud rfl (RPl_l0 (Ld_store (by kernel_rfl) rfl rfl hB7 (Nat.le_of_ble_eq_true rfl) (by simp [cellsL, Value.cells, Value.oneCell']) ?_))))
              intro W12 hu12 hz12 hB7
              refine ⟨Kp.of_but hu12 (by first | rfl | omega | (dsimp only; omega)), ?_⟩
              have hk12 := Kp.ofb hu12
              have hs12 := hk12.size
              replace hE := Ext.kp hE hk12 (fun k hk => by first | omega | (have hk := hk; dsimp only at hk; omega))
              replace h_cps := h_cps.kp hk12 (fun k hk => by first | omega | (have hk := hk; dsimp only at hk; omega))
              replace hB1 := hB1.kp hk12 (fun hk => by first | omega | (have hk := hk; dsimp only at hk; omega))
              replace hB2 := hB2.kp hk12 (fun hk => by first | omega | (have hk := hk; dsimp only at hk; omega))
              replace hO19 := hO19.kp hk12 (fun k hk => by first | omega | (have hk := hk; dsimp only at hk; omega))
              replace hb_4_3 := hb_4_3.kp hk12 (fun k hk => by first | omega | (have hk := hk; dsimp only at hk; omega))
              try replace hL6 := hL6.go hk12 (fun k hk => by first | omega | (have hk := hk; dsimp only at hk; dsimp only; omega))
              replace hB4 := hB4.kp hk12 (fun hk => by first | omega | (have hk := hk; dsimp only at hk; omega))
              refine RP_nil (X_then (C_seq (C_region (RL_q rfl (Yd_fld (off := 3) Try.underlying24 (by kernel_rfl) rfl) (RL_q rfl (Yd_load Try.underlying22 rfl rfl (ldB hB4 rfl)) (RL_q rfl (Yd_loadA Try.underlying35 rfl (by kernel_rfl) rfl (ldBA hB7)) (RL_l rfl (Ld_lit Try.underlying22 rfl (lit_flat Try.underlying22 Try.elt35 rfl rfl ⟨rfl, by decide⟩) ?_))))))))
              intro W13 he13 hz13 hL57
              replace hE := Ext.trans hE he13
              replace h_cps := h_cps.ext he13
              replace hB1 := hB1.ext he13
              replace hB2 := hB2.ext he13
              replace hO19 := hO19.ext he13
              replace hb_4_3 := hb_4_3.ext he13
              replace hL6 := Kp.go hL6 (Kp.of_ext (G := NoB) he13) (fun _ h => h.elim)
              replace hB4 := hB4.ext he13
              replace hB7 := hB7.ext he13
              have hO57 := Ow.of_blk (T := tP) (l := [(⟨(1 + y36), (at_ + y44), (1 + y51)⟩ : Pt)]) hL57 rfl (n := 1) rfl (by simp [maxLen]) (okc ⟨⟨by dsimp only; omega, by dsimp only; omega⟩, ⟨by dsimp only; omega, by dsimp only; omega⟩, ⟨by dsimp only; omega, by dsimp only; omega⟩⟩ okn)
              clear hL57
              refine RL_l rfl (Ld_apO (T := tP) Try.underlying22 Try.elt35 rfl rfl rfl hb_4_3 hO57.vw (by simp only [maxLen]; omega) (by omega) (by omega) ?_)
              intro A58 c58 W14 hO58 hk14
              have hs14 := hk14.size
              replace hE := Ext.kp hE hk14 (fun k hk => by first | omega | (have hk := hk; dsimp only at hk; omega))
              replace h_cps := h_cps.kp hk14 (fun k hk => by first | omega | (have hk := hk; dsimp only at hk; omega))
              replace hB1 := hB1.kp hk14 (fun hk => by first | omega | (have hk := hk; dsimp only at hk; omega))
              replace hB2 := hB2.kp hk14 (fun hk => by first | omega | (have hk := hk; dsimp only at hk; omega))
              replace hO19 := hO19.kp hk14 (fun k hk => by first | omega | (have hk := hk; dsimp only at hk; omega))
              try replace hL6 := hL6.go hk14 (fun k hk => by first | omega | (have hk := hk; dsimp only at hk; dsimp only; omega))
              replace hB4 := hB4.kp hk14 (fun hk => by first | omega | (have hk := hk; dsimp only at hk; omega))
              replace hB7 := hB7.kp hk14 (fun hk => by first | omega | (have hk := hk; dsimp only at hk; omega))
              replace hO57 := hO57.kp hk14 (fun k hk => by first | omega | (have hk := hk; dsimp only at hk; omega))
              have hn58 := hO58.ln
              try simp only [List.length_append, List.length_cons, List.length_nil, List.length_set, List.length_take, List.length_drop, List.length_replicate, List.length_map, Nat.zero_add, Nat.add_zero, oneP_len] at hn58
              have hc58 := hO58.cap
              refine RL_q rfl (Yd_fld (off := 3) Try.underlying24 (by kernel_rfl) rfl) (RL_l0 (Ld_store (by kernel_rfl) rfl rfl hB4 (Nat.le_of_ble_eq_true rfl) (by simp [cellsL, Value.cells, Value.oneCell']) ?_))
              intro W15 hu15 hz15 hB4
              have hk15 := Kp.ofb hu15
              have hs15 := hk15.size
              replace hE := Ext.kp hE hk15 (fun k hk => by first | omega | (have hk := hk; dsimp only at hk; omega))
              replace h_cps := h_cps.kp hk15 (fun k hk => by first | omega | (have hk := hk; dsimp only at hk; omega))
              replace hB1 := hB1.kp hk15 (fun hk => by first | omega | (have hk := hk; dsimp only at hk; omega))
              replace hB2 := hB2.kp hk15 (fun hk => by first | omega | (have hk := hk; dsimp only at hk; omega))
              replace hO19 := hO19.kp hk15 (fun k hk => by first | omega | (have hk := hk; dsimp only at hk; omega))
              try replace hL6 := hL6.go hk15 (fun k hk => by first | omega | (have hk := hk; dsimp only at hk; dsimp only; omega))
              replace hB7 := hB7.kp hk15 (fun hk => by first | omega | (have hk := hk; dsimp only at hk; omega))
              replace hO57 := hO57.kp hk15 (fun k hk => by first | omega | (have hk := hk; dsimp only at hk; omega))
              replace hO58 := hO58.kp hk15 (fun k hk => by first | omega | (have hk := hk; dsimp only at hk; omega))
              refine RL_nil (X_then (C_seq (C_region (RL_q rfl (Yd_fld (off := 0) Try.underlying24 (by kernel_rfl) rfl) (RL_q rfl (Yd_load Try.underlying3 rfl rfl (ldB hB4 rfl)) (RL_q rfl (Yd_fld (off := 0) Try.underlying35 (by kernel_rfl) rfl) (RL_q rfl (Yd_load Try.underlying3 rfl rfl (ldB hB7 rfl)) (RL_q rfl (Yd_add rfl rfl (i64w (by omega) (by omega))) (RL_q rfl (Yd_fld (off := 0) Try.underlying24 (by kernel_rfl) rfl) (RL_l0 (Ld_store (by kernel_rfl) rfl rfl hB4 (Nat.le_of_ble_eq_true rfl) (by simp [cellsL, Value.cells, Value.oneCell']) ?_)))))))))))
              intro W16 hu16 hz16 hB4
              have hk16 := Kp.ofb hu16
              have hs16 := hk16.size
              replace hE := Ext.kp hE hk16 (fun k hk => by first | omega | (have hk := hk; dsimp only at hk; omega))
              replace h_cps := h_cps.kp hk16 (fun k hk => by first | omega | (have hk := hk; dsimp only at hk; omega))
              replace hB1 := hB1.kp hk16 (fun hk => by first | omega | (have hk := hk; dsimp only at hk; omega))
              replace hB2 := hB2.kp hk16 (fun hk => by first | omega | (have hk := hk; dsimp only at hk; omega))
              replace hO19 := hO19.kp hk16 (fun k hk => by first | omega | (have hk := hk; dsimp only at hk; omega))
              try replace hL6 := hL6.go hk16 (fun k hk => by first | omega | (have hk := hk; dsimp only at hk; dsimp only; omega))
              replace hB7 := hB7.kp hk16 (fun hk => by first | omega | (have hk := hk; dsimp only at hk; omega))
              replace hO57 := hO57.kp hk16 (fun k hk => by first | omega | (have hk := hk; dsimp only at hk; omega))
              replace hO58 := hO58.kp hk16 (fun k hk => by first | omega | (have hk := hk; dsimp only at hk; omega))
              refine RL_nil (X_then (C_region (RL_q rfl (Yd_fld (off := 1) Try.underlying35 (by kernel_rfl) rfl) (RL_q rfl (Yd_load Try.underlying3 rfl rfl (ldB hB7 rfl)) (RL_q rfl (Yd_fld (off := 2) Try.underlying35 (by kernel_rfl) rfl) (RL_q rfl (Yd_load Try.underlying3 rfl rfl (ldB hB7 rfl)) (RL_q rfl (Yd_mul rfl rfl (i64w (by omega) (by omega))) (RL_q rfl (Yd_add rfl rfl (i64w (by omega) (by omega))) (RL_q rfl (Yd_assign rfl) (RL_nil (X_block (X_then (C_region (RL_q rfl (Yd_move rfl) (RL_q rfl (Yd_add rfl rfl (i64w (by omega) (by omega))) (RL_q rfl (Yd_assign rfl) (RL_nil (?_))))))))))))))))))
              refine X_again (⟨k + 1, (fr + (1 + y36)), ((at_ + y44) + (2 * (1 + y51))), (q ++ [(⟨(1 + y36), (at_ + y44), (1 + y51)⟩ : Pt)]), A58, (bn4_3 + 1), c58⟩) ⟨rfl, rfl, rfl, rfl, rfl, rfl, trivial⟩ ?_ (by show 1 - (k + 1) < 1 - k; omega)
              refine ⟨hO58.fit.cast ?_, hB4, ?_, ?_, hL6⟩
              all_goals (try dsimp only)
              all_goals (first | omega | rfl | exact GI.next hG hra36 hra44 hra51)
          · skip
            refine RPl_l rfl (Ld_alloc (v := (.agg #[(.int .i64 0), (.int .i64 0), (.int .i64 0)])) (by kernel_rfl) ?_)
            have hg_7 := hE.size
            intro W9 he9 hz9 hB7
            refine ⟨Kp.of_ext he9, ?_⟩
            replace hE := Ext.trans hE he9
            replace h_cps := h_cps.ext he9
            replace hB1 := hB1.ext he9
            replace hB2 := hB2.ext he9
            replace hO19 := hO19.ext he9
            replace hb_4_3 := hb_4_3.ext he9
            replace hL6 := Kp.go hL6 (Kp.of_ext (G := NoB) he9) (fun _ h => h.elim)
            replace hB4 := hB4.ext he9
            refine RP_loud rfl (RPl_l rfl (Ld_call Try.func17 rfl (by kernel_rfl) rfl (AroundV ⟨by first | omega | (dsimp only; omega), by first | omega | (dsimp only; omega)⟩ ⟨by first | omega | (dsimp only; omega), by first | omega | (dsimp only; omega)⟩) ?_))
            rintro e W10 ⟨y44, rfl, hy44, hra44, rfl⟩
            refine ⟨_, rfl, ?_⟩
            refine ⟨Kp.refl _ _, ?_⟩
            refine RP_q rfl rfl (Yd_add rfl rfl (i64w (by omega) (by omega))) (RP_loud rfl (RPl_l rfl (Ld_call Try.func17 rfl (by kernel_rfl) rfl (AroundV ⟨by first | omega | (dsimp only; omega), by first | omega | (dsimp only; omega)⟩ ⟨by first | omega | (dsimp only; omega), by first | omega | (dsimp only; omega)⟩) ?_)))
            rintro e W11 ⟨y51, rfl, hy51, hra51, rfl⟩
            refine ⟨_, rfl, ?_⟩
            refine ⟨Kp.refl _ _, ?_⟩
            refine RP_q rfl rfl (Yd_add rfl rfl (i64w (by omega) (by omega))) (RP_q rfl rfl (Yd_build Try.bld35 rfl rfl) (RP_loud rfl (RPl_l0 (Ld_store (by kernel_rfl) rfl rfl hB7 (Nat.le_of_ble_eq_true rfl) (by simp [cellsL, Value.cells, Value.oneCell']) ?_))))
            intro W12 hu12 hz12 hB7
            refine ⟨Kp.of_but hu12 (by first | rfl | omega | (dsimp only; omega)), ?_⟩
            have hk12 := Kp.ofb hu12
            have hs12 := hk12.size
            replace hE := Ext.kp hE hk12 (fun k hk => by first | omega | (have hk := hk; dsimp only at hk; omega))
            replace h_cps := h_cps.kp hk12 (fun k hk => by first | omega | (have hk := hk; dsimp only at hk; omega))
            replace hB1 := hB1.kp hk12 (fun hk => by first | omega | (have hk := hk; dsimp only at hk; omega))
            replace hB2 := hB2.kp hk12 (fun hk => by first | omega | (have hk := hk; dsimp only at hk; omega))
            replace hO19 := hO19.kp hk12 (fun k hk => by first | omega | (have hk := hk; dsimp only at hk; omega))
            replace hb_4_3 := hb_4_3.kp hk12 (fun k hk => by first | omega | (have hk := hk; dsimp only at hk; omega))
            try replace hL6 := hL6.go hk12 (fun k hk => by first | omega | (have hk := hk; dsimp only at hk; dsimp only; omega))
            replace hB4 := hB4.kp hk12 (fun hk => by first | omega | (have hk := hk; dsimp only at hk; omega))
            refine RP_nil (X_then (C_seq (C_region (RL_q rfl (Yd_fld (off := 3) Try.underlying24 (by kernel_rfl) rfl) (RL_q rfl (Yd_load Try.underlying22 rfl rfl (ldB hB4 rfl)) (RL_q rfl (Yd_loadA Try.underlying35 rfl (by kernel_rfl) rfl (ldBA hB7)) (RL_l rfl (Ld_lit Try.underlying22 rfl (lit_flat Try.underlying22 Try.elt35 rfl rfl ⟨rfl, by decide⟩) ?_))))))))
            intro W13 he13 hz13 hL57
            replace hE := Ext.trans hE he13
            replace h_cps := h_cps.ext he13
            replace hB1 := hB1.ext he13
            replace hB2 := hB2.ext he13
            replace hO19 := hO19.ext he13
            replace hb_4_3 := hb_4_3.ext he13
            replace hL6 := Kp.go hL6 (Kp.of_ext (G := NoB) he13) (fun _ h => h.elim)
            replace hB4 := hB4.ext he13
            replace hB7 := hB7.ext he13
            have hO57 := Ow.of_blk (T := tP) (l := [(⟨(1 + y36), (at_ + y44), (1 + y51)⟩ : Pt)]) hL57 rfl (n := 1) rfl (by simp [maxLen]) (okc ⟨⟨by dsimp only; omega, by dsimp only; omega⟩, ⟨by dsimp only; omega, by dsimp only; omega⟩, ⟨by dsimp only; omega, by dsimp only; omega⟩⟩ okn)
            clear hL57
            refine RL_l rfl (Ld_apO (T := tP) Try.underlying22 Try.elt35 rfl rfl rfl hb_4_3 hO57.vw (by simp only [maxLen]; omega) (by omega) (by omega) ?_)
            intro A58 c58 W14 hO58 hk14
            have hs14 := hk14.size
            replace hE := Ext.kp hE hk14 (fun k hk => by first | omega | (have hk := hk; dsimp only at hk; omega))
            replace h_cps := h_cps.kp hk14 (fun k hk => by first | omega | (have hk := hk; dsimp only at hk; omega))
            replace hB1 := hB1.kp hk14 (fun hk => by first | omega | (have hk := hk; dsimp only at hk; omega))
            replace hB2 := hB2.kp hk14 (fun hk => by first | omega | (have hk := hk; dsimp only at hk; omega))
            replace hO19 := hO19.kp hk14 (fun k hk => by first | omega | (have hk := hk; dsimp only at hk; omega))
            try replace hL6 := hL6.go hk14 (fun k hk => by first | omega | (have hk := hk; dsimp only at hk; dsimp only; omega))
            replace hB4 := hB4.kp hk14 (fun hk => by first | omega | (have hk := hk; dsimp only at hk; omega))
            replace hB7 := hB7.kp hk14 (fun hk => by first | omega | (have hk := hk; dsimp only at hk; omega))
            replace hO57 := hO57.kp hk14 (fun k hk => by first | omega | (have hk := hk; dsimp only at hk; omega))
            have hn58 := hO58.ln
            try simp only [List.length_append, List.length_cons, List.length_nil, List.length_set, List.length_take, List.length_drop, List.length_replicate, List.length_map, Nat.zero_add, Nat.add_zero, oneP_len] at hn58
            have hc58 := hO58.cap
            refine RL_q rfl (Yd_fld (off := 3) Try.underlying24 (by kernel_rfl) rfl) (RL_l0 (Ld_store (by kernel_rfl) rfl rfl hB4 (Nat.le_of_ble_eq_true rfl) (by simp [cellsL, Value.cells, Value.oneCell']) ?_))
            intro W15 hu15 hz15 hB4
            have hk15 := Kp.ofb hu15
            have hs15 := hk15.size
            replace hE := Ext.kp hE hk15 (fun k hk => by first | omega | (have hk := hk; dsimp only at hk; omega))
            replace h_cps := h_cps.kp hk15 (fun k hk => by first | omega | (have hk := hk; dsimp only at hk; omega))
            replace hB1 := hB1.kp hk15 (fun hk => by first | omega | (have hk := hk; dsimp only at hk; omega))
            replace hB2 := hB2.kp hk15 (fun hk => by first | omega | (have hk := hk; dsimp only at hk; omega))
            replace hO19 := hO19.kp hk15 (fun k hk => by first | omega | (have hk := hk; dsimp only at hk; omega))
            try replace hL6 := hL6.go hk15 (fun k hk => by first | omega | (have hk := hk; dsimp only at hk; dsimp only; omega))
            replace hB7 := hB7.kp hk15 (fun hk => by first | omega | (have hk := hk; dsimp only at hk; omega))
            replace hO57 := hO57.kp hk15 (fun k hk => by first | omega | (have hk := hk; dsimp only at hk; omega))
            replace hO58 := hO58.kp hk15 (fun k hk => by first | omega | (have hk := hk; dsimp only at hk; omega))
            refine RL_nil (X_then (C_seq (C_region (RL_q rfl (Yd_fld (off := 0) Try.underlying24 (by kernel_rfl) rfl) (RL_q rfl (Yd_load Try.underlying3 rfl rfl (ldB hB4 rfl)) (RL_q rfl (Yd_fld (off := 0) Try.underlying35 (by kernel_rfl) rfl) (RL_q rfl (Yd_load Try.underlying3 rfl rfl (ldB hB7 rfl)) (RL_q rfl (Yd_add rfl rfl (i64w (by omega) (by omega))) (RL_q rfl (Yd_fld (off := 0) Try.underlying24 (by kernel_rfl) rfl) (RL_l0 (Ld_store (by kernel_rfl) rfl rfl hB4 (Nat.le_of_ble_eq_true rfl) (by simp [cellsL, Value.cells, Value.oneCell']) ?_)))))))))))
            intro W16 hu16 hz16 hB4
            have hk16 := Kp.ofb hu16
            have hs16 := hk16.size
            replace hE := Ext.kp hE hk16 (fun k hk => by first | omega | (have hk := hk; dsimp only at hk; omega))
            replace h_cps := h_cps.kp hk16 (fun k hk => by first | omega | (have hk := hk; dsimp only at hk; omega))
            replace hB1 := hB1.kp hk16 (fun hk => by first | omega | (have hk := hk; dsimp only at hk; omega))
            replace hB2 := hB2.kp hk16 (fun hk => by first | omega | (have hk := hk; dsimp only at hk; omega))
            replace hO19 := hO19.kp hk16 (fun k hk => by first | omega | (have hk := hk; dsimp only at hk; omega))
            try replace hL6 := hL6.go hk16 (fun k hk => by first | omega | (have hk := hk; dsimp only at hk; dsimp only; omega))
            replace hB7 := hB7.kp hk16 (fun hk => by first | omega | (have hk := hk; dsimp only at hk; omega))
            replace hO57 := hO57.kp hk16 (fun k hk => by first | omega | (have hk := hk; dsimp only at hk; omega))
            replace hO58 := hO58.kp hk16 (fun k hk => by first | omega | (have hk := hk; dsimp only at hk; omega))
            refine RL_nil (X_then (C_region (RL_q rfl (Yd_fld (off := 1) Try.underlying35 (by kernel_rfl) rfl) (RL_q rfl (Yd_load Try.underlying3 rfl rfl (ldB hB7 rfl)) (RL_q rfl (Yd_fld (off := 2) Try.underlying35 (by kernel_rfl) rfl) (RL_q rfl (Yd_load Try.underlying3 rfl rfl (ldB hB7 rfl)) (RL_q rfl (Yd_mul rfl rfl (i64w (by omega) (by omega))) (RL_q rfl (Yd_add rfl rfl (i64w (by omega) (by omega))) (RL_q rfl (Yd_assign rfl) (RL_nil (X_block (X_then (C_region (RL_q rfl (Yd_move rfl) (RL_q rfl (Yd_add rfl rfl (i64w (by omega) (by omega))) (RL_q rfl (Yd_assign rfl) (RL_nil (?_))))))))))))))))))
            refine X_again (⟨k + 1, (fr + (1 + y36)), ((at_ + y44) + (2 * (1 + y51))), (q ++ [(⟨(1 + y36), (at_ + y44), (1 + y51)⟩ : Pt)]), A58, (bn4_3 + 1), c58⟩) ⟨rfl, rfl, rfl, rfl, rfl, rfl, trivial⟩ ?_ (by show 1 - (k + 1) < 1 - k; omega)
            refine ⟨hO58.fit.cast ?_, hB4, ?_, ?_, hL6⟩
            all_goals (try dsimp only)
            all_goals (first | omega | rfl | exact GI.next hG hra36 hra44 hra51)
        · skip
          refine RPl_l rfl (Ld_alloc (v := (.agg #[(.int .i64 0), (.int .i64 0), (.int .i64 0)])) (by kernel_rfl) ?_)
          have hg_7 := hE.size
          intro W8 he8 hz8 hB7
          refine ⟨Kp.of_ext he8, ?_⟩
          replace hE := Ext.trans hE he8
          replace h_cps := h_cps.ext he8
          replace hB1 := hB1.ext he8
          replace hB2 := hB2.ext he8
          replace hO19 := hO19.ext he8
          replace hb_4_3 := hb_4_3.ext he8
          replace hL6 := Kp.go hL6 (Kp.of_ext (G := NoB) he8) (fun _ h => h.elim)
          replace hB4 := hB4.ext he8
          refine RP_loud rfl (RPl_l rfl (Ld_call Try.func17 rfl (by kernel_rfl) rfl (AroundV ⟨by first | omega | (dsimp only; omega), by first | omega | (dsimp only; omega)⟩ ⟨by first | omega | (dsimp only; omega), by first | omega | (dsimp only; omega)⟩) ?_))
          rintro e W9 ⟨y36, rfl, hy36, hra36, rfl⟩
          refine ⟨_, rfl, ?_⟩
          refine ⟨Kp.refl _ _, ?_⟩
          refine RP_q rfl rfl (Yd_add rfl rfl (i64w (by omega) (by omega))) (RP_loud rfl (RPl_l rfl (Ld_call Try.func17 rfl (by kernel_rfl) rfl (AroundV ⟨by first | omega | (dsimp only; omega), by first | omega | (dsimp only; omega)⟩ ⟨by first | omega | (dsimp only; omega), by first | omega | (dsimp only; omega)⟩) ?_)))
          rintro e W10 ⟨y44, rfl, hy44, hra44, rfl⟩
          refine ⟨_, rfl, ?_⟩
          refine ⟨Kp.refl _ _, ?_⟩
          refine RP_q rfl rfl (Yd_add rfl rfl (i64w (by omega) (by omega))) (RP_loud rfl (RPl_l rfl (Ld_call Try.func17 rfl (by kernel_rfl) rfl (AroundV ⟨by first | omega | (dsimp only; omega), by first | omega | (dsimp only; omega)⟩ ⟨by first | omega | (dsimp only; omega), by first | omega | (dsimp only; omega)⟩) ?_)))
          rintro e W11 ⟨y51, rfl, hy51, hra51, rfl⟩
          refine ⟨_, rfl, ?_⟩
          refine ⟨Kp.refl _ _, ?_⟩
          refine RP_q rfl rfl (Yd_add rfl rfl (i64w (by omega) (by omega))) (RP_q rfl rfl (Yd_build Try.bld35 rfl rfl) (RP_loud rfl (RPl_l0 (Ld_store (by kernel_rfl) rfl rfl hB7 (Nat.le_of_ble_eq_true rfl) (by simp [cellsL, Value.cells, Value.oneCell']) ?_))))
          intro W12 hu12 hz12 hB7
          refine ⟨Kp.of_but hu12 (by first | rfl | omega | (dsimp only; omega)), ?_⟩
          have hk12 := Kp.ofb hu12
          have hs12 := hk12.size
          replace hE := Ext.kp hE hk12 (fun k hk => by first | omega | (have hk := hk; dsimp only at hk; omega))
          replace h_cps := h_cps.kp hk12 (fun k hk => by first | omega | (have hk := hk; dsimp only at hk; omega))
          replace hB1 := hB1.kp hk12 (fun hk => by first | omega | (have hk := hk; dsimp only at hk; omega))
          replace hB2 := hB2.kp hk12 (fun hk => by first | omega | (have hk := hk; dsimp only at hk; omega))
          replace hO19 := hO19.kp hk12 (fun k hk => by first | omega | (have hk := hk; dsimp only at hk; omega))
          replace hb_4_3 := hb_4_3.kp hk12 (fun k hk => by first | omega | (have hk := hk; dsimp only at hk; omega))
          try replace hL6 := hL6.go hk12 (fun k hk => by first | omega | (have hk := hk; dsimp only at hk; dsimp only; omega))
          replace hB4 := hB4.kp hk12 (fun hk => by first | omega | (have hk := hk; dsimp only at hk; omega))
          refine RP_nil (X_then (C_seq (C_region (RL_q rfl (Yd_fld (off := 3) Try.underlying24 (by kernel_rfl) rfl) (RL_q rfl (Yd_load Try.underlying22 rfl rfl (ldB hB4 rfl)) (RL_q rfl (Yd_loadA Try.underlying35 rfl (by kernel_rfl) rfl (ldBA hB7)) (RL_l rfl (Ld_lit Try.underlying22 rfl (lit_flat Try.underlying22 Try.elt35 rfl rfl ⟨rfl, by decide⟩) ?_))))))))
          intro W13 he13 hz13 hL57
          replace hE := Ext.trans hE he13
          replace h_cps := h_cps.ext he13
          replace hB1 := hB1.ext he13
          replace hB2 := hB2.ext he13
          replace hO19 := hO19.ext he13
          replace hb_4_3 := hb_4_3.ext he13
          replace hL6 := Kp.go hL6 (Kp.of_ext (G := NoB) he13) (fun _ h => h.elim)
          replace hB4 := hB4.ext he13
          replace hB7 := hB7.ext he13
          have hO57 := Ow.of_blk (T := tP) (l := [(⟨(1 + y36), (at_ + y44), (1 + y51)⟩ : Pt)]) hL57 rfl (n := 1) rfl (by simp [maxLen]) (okc ⟨⟨by dsimp only; omega, by dsimp only; omega⟩, ⟨by dsimp only; omega, by dsimp only; omega⟩, ⟨by dsimp only; omega, by dsimp only; omega⟩⟩ okn)
          clear hL57
          refine RL_l rfl (Ld_apO (T := tP) Try.underlying22 Try.elt35 rfl rfl rfl hb_4_3 hO57.vw (by simp only [maxLen]; omega) (by omega) (by omega) ?_)
          intro A58 c58 W14 hO58 hk14
          have hs14 := hk14.size
          replace hE := Ext.kp hE hk14 (fun k hk => by first | omega | (have hk := hk; dsimp only at hk; omega))
          replace h_cps := h_cps.kp hk14 (fun k hk => by first | omega | (have hk := hk; dsimp only at hk; omega))
          replace hB1 := hB1.kp hk14 (fun hk => by first | omega | (have hk := hk; dsimp only at hk; omega))
          replace hB2 := hB2.kp hk14 (fun hk => by first | omega | (have hk := hk; dsimp only at hk; omega))
          replace hO19 := hO19.kp hk14 (fun k hk => by first | omega | (have hk := hk; dsimp only at hk; omega))
          try replace hL6 := hL6.go hk14 (fun k hk => by first | omega | (have hk := hk; dsimp only at hk; dsimp only; omega))
          replace hB4 := hB4.kp hk14 (fun hk => by first | omega | (have hk := hk; dsimp only at hk; omega))
          replace hB7 := hB7.kp hk14 (fun hk => by first | omega | (have hk := hk; dsimp only at hk; omega))
          replace hO57 := hO57.kp hk14 (fun k hk => by first | omega | (have hk := hk; dsimp only at hk; omega))
          have hn58 := hO58.ln
          try simp only [List.length_append, List.length_cons, List.length_nil, List.length_set, List.length_take, List.length_drop, List.length_replicate, List.length_map, Nat.zero_add, Nat.add_zero, oneP_len] at hn58
          have hc58 := hO58.cap
          refine RL_q rfl (Yd_fld (off := 3) Try.underlying24 (by kernel_rfl) rfl) (RL_l0 (Ld_store (by kernel_rfl) rfl rfl hB4 (Nat.le_of_ble_eq_true rfl) (by simp [cellsL, Value.cells, Value.oneCell']) ?_))
          intro W15 hu15 hz15 hB4
          have hk15 := Kp.ofb hu15
          have hs15 := hk15.size
          replace hE := Ext.kp hE hk15 (fun k hk => by first | omega | (have hk := hk; dsimp only at hk; omega))
          replace h_cps := h_cps.kp hk15 (fun k hk => by first | omega | (have hk := hk; dsimp only at hk; omega))
          replace hB1 := hB1.kp hk15 (fun hk => by first | omega | (have hk := hk; dsimp only at hk; omega))
          replace hB2 := hB2.kp hk15 (fun hk => by first | omega | (have hk := hk; dsimp only at hk; omega))
          replace hO19 := hO19.kp hk15 (fun k hk => by first | omega | (have hk := hk; dsimp only at hk; omega))
          try replace hL6 := hL6.go hk15 (fun k hk => by first | omega | (have hk := hk; dsimp only at hk; dsimp only; omega))
          replace hB7 := hB7.kp hk15 (fun hk => by first | omega | (have hk := hk; dsimp only at hk; omega))
          replace hO57 := hO57.kp hk15 (fun k hk => by first | omega | (have hk := hk; dsimp only at hk; omega))
          replace hO58 := hO58.kp hk15 (fun k hk => by first | omega | (have hk := hk; dsimp only at hk; omega))
          refine RL_nil (X_then (C_seq (C_region (RL_q rfl (Yd_fld (off := 0) Try.underlying24 (by kernel_rfl) rfl) (RL_q rfl (Yd_load Try.underlying3 rfl rfl (ldB hB4 rfl)) (RL_q rfl (Yd_fld (off := 0) Try.underlying35 (by kernel_rfl) rfl) (RL_q rfl (Yd_load Try.underlying3 rfl rfl (ldB hB7 rfl)) (RL_q rfl (Yd_add rfl rfl (i64w (by omega) (by omega))) (RL_q rfl (Yd_fld (off := 0) Try.underlying24 (by kernel_rfl) rfl) (RL_l0 (Ld_store (by kernel_rfl) rfl rfl hB4 (Nat.le_of_ble_eq_true rfl) (by simp [cellsL, Value.cells, Value.oneCell']) ?_)))))))))))
          intro W16 hu16 hz16 hB4
          have hk16 := Kp.ofb hu16
          have hs16 := hk16.size
          replace hE := Ext.kp hE hk16 (fun k hk => by first | omega | (have hk := hk; dsimp only at hk; omega))
          replace h_cps := h_cps.kp hk16 (fun k hk => by first | omega | (have hk := hk; dsimp only at hk; omega))
          replace hB1 := hB1.kp hk16 (fun hk => by first | omega | (have hk := hk; dsimp only at hk; omega))
          replace hB2 := hB2.kp hk16 (fun hk => by first | omega | (have hk := hk; dsimp only at hk; omega))
          replace hO19 := hO19.kp hk16 (fun k hk => by first | omega | (have hk := hk; dsimp only at hk; omega))
          try replace hL6 := hL6.go hk16 (fun k hk => by first | omega | (have hk := hk; dsimp only at hk; dsimp only; omega))
          replace hB7 := hB7.kp hk16 (fun hk => by first | omega | (have hk := hk; dsimp only at hk; omega))
          replace hO57 := hO57.kp hk16 (fun k hk => by first | omega | (have hk := hk; dsimp only at hk; omega))
          replace hO58 := hO58.kp hk16 (fun k hk => by first | omega | (have hk := hk; dsimp only at hk; omega))
          refine RL_nil (X_then (C_region (RL_q rfl (Yd_fld (off := 1) Try.underlying35 (by kernel_rfl) rfl) (RL_q rfl (Yd_load Try.underlying3 rfl rfl (ldB hB7 rfl)) (RL_q rfl (Yd_fld (off := 2) Try.underlying35 (by kernel_rfl) rfl) (RL_q rfl (Yd_load Try.underlying3 rfl rfl (ldB hB7 rfl)) (RL_q rfl (Yd_mul rfl rfl (i64w (by omega) (by omega))) (RL_q rfl (Yd_add rfl rfl (i64w (by omega) (by omega))) (RL_q rfl (Yd_assign rfl) (RL_nil (X_block (X_then (C_region (RL_q rfl (Yd_move rfl) (RL_q rfl (Yd_add rfl rfl (i64w (by omega) (by omega))) (RL_q rfl (Yd_assign rfl) (RL_nil (?_))))))))))))))))))
          refine X_again (⟨k + 1, (fr + (1 + y36)), ((at_ + y44) + (2 * (1 + y51))), (q ++ [(⟨(1 + y36), (at_ + y44), (1 + y51)⟩ : Pt)]), A58, (bn4_3 + 1), c58⟩) ⟨rfl, rfl, rfl, rfl, rfl, rfl, trivial⟩ ?_ (by show 1 - (k + 1) < 1 - k; omega)
          refine ⟨hO58.fit.cast ?_, hB4, ?_, ?_, hL6⟩
          all_goals (try dsimp only)
          all_goals (first | omega | rfl | exact GI.next hG hra36 hra44 hra51)
      · skip
        try simp only [decide_eq_true_eq, decide_eq_false_iff_not, Bool.not_eq_true', Bool.not_eq_false', Decidable.not_not, Int.not_lt, Int.not_le, Bool.or_eq_true, Bool.and_eq_true, Bool.or_eq_false_iff, Bool.and_eq_false_iff] at hb28
        refine C_exit (X_thenE (X_thenE (X_blockE (X_then (C_seq (C_region (RL_q rfl (Yd_move rfl) (RL_q rfl (Yd_fld (off := 2) Try.underlying24 (by kernel_rfl) rfl) (RL_q rfl (Yd_load Try.underlying3 rfl rfl (ldB hB1 rfl)) (RL_l rfl (Ld_call Try.func17 rfl (by kernel_rfl) rfl (AroundV ⟨by first | omega | (dsimp only; omega), by first | omega | (dsimp only; omega)⟩ ⟨by first | omega | (dsimp only; omega), by first | omega | (dsimp only; omega)⟩) ?_)))))))))))
        rintro e W7 ⟨y75, rfl, hy75, hra75, rfl⟩
        refine ⟨_, rfl, ?_⟩
        refine RL_q rfl (Yd_add rfl rfl (i64w (by omega) (by omega))) (RL_q rfl (Yd_fld (off := 2) Try.underlying24 (by kernel_rfl) rfl) (RL_l0 (Ld_store (by kernel_rfl) rfl rfl hB4 (Nat.le_of_ble_eq_true rfl) (by simp [cellsL, Value.cells, Value.oneCell']) ?_)))
        intro W8 hu8 hz8 hB4
        have hk8 := Kp.ofb hu8
        have hs8 := hk8.size
        replace hE := Ext.kp hE hk8 (fun k hk => by first | omega | (have hk := hk; dsimp only at hk; omega))
        replace h_cps := h_cps.kp hk8 (fun k hk => by first | omega | (have hk := hk; dsimp only at hk; omega))
        replace hB1 := hB1.kp hk8 (fun hk => by first | omega | (have hk := hk; dsimp only at hk; omega))
        replace hB2 := hB2.kp hk8 (fun hk => by first | omega | (have hk := hk; dsimp only at hk; omega))
        replace hO19 := hO19.kp hk8 (fun k hk => by first | omega | (have hk := hk; dsimp only at hk; omega))
        replace hb_4_3 := hb_4_3.kp hk8 (fun k hk => by first | omega | (have hk := hk; dsimp only at hk; omega))
        try replace hL6 := hL6.go hk8 (fun k hk => by first | omega | (have hk := hk; dsimp only at hk; dsimp only; omega))
        refine RL_nil (X_then (C_seq (C_region (RL_q rfl (Yd_loadA Try.underlying24 rfl (by kernel_rfl) rfl (ldBA hB4)) (RL_l0 (Ld_store (by kernel_rfl) rfl rfl hB2 (Nat.le_of_ble_eq_true rfl) (by simp [cellsL, Value.cells, Value.oneCell']) ?_))))))
        intro W9 hu9 hz9 hB2
        have hk9 := Kp.ofb hu9
        have hs9 := hk9.size
        replace hE := Ext.kp hE hk9 (fun k hk => by first | omega | (have hk := hk; dsimp only at hk; omega))
        replace h_cps := h_cps.kp hk9 (fun k hk => by first | omega | (have hk := hk; dsimp only at hk; omega))
        replace hB1 := hB1.kp hk9 (fun hk => by first | omega | (have hk := hk; dsimp only at hk; omega))
        replace hO19 := hO19.kp hk9 (fun k hk => by first | omega | (have hk := hk; dsimp only at hk; omega))
        replace hb_4_3 := hb_4_3.kp hk9 (fun k hk => by first | omega | (have hk := hk; dsimp only at hk; omega))
        try replace hL6 := hL6.go hk9 (fun k hk => by first | omega | (have hk := hk; dsimp only at hk; dsimp only; omega))
        replace hB4 := hB4.kp hk9 (fun hk => by first | omega | (have hk := hk; dsimp only at hk; omega))
        refine RL_nil (X_then (C_ret (X_retC rfl rfl Try.underlying24 rfl (by kernel_rfl) hB2 ?_)))
        refine ⟨_, _, _, _, _, _, _, rfl, ?_, hb_4_3.fit.more (by omega) (Nat.le_refl _), hE⟩
        exact GI.good hG (by omega) hra22 hra75
  · skip
    simp only [decide_eq_true_eq, decide_eq_false_iff_not] at hb17
    refine C_skip (X_then (C_seq (C_region (RL_q rfl (Yd_fld (off := 1) Try.underlying24 (by kernel_rfl) rfl) (RL_q rfl (Yd_load Try.underlying3 rfl rfl (ldB hB1 rfl)) (RL_l rfl (Ld_call Try.func17 rfl (by kernel_rfl) rfl (AroundV ⟨by first | omega | (dsimp only; omega), by first | omega | (dsimp only; omega)⟩ ⟨by first | omega | (dsimp only; omega), by first | omega | (dsimp only; omega)⟩) ?_)))))))
    rintro e W3 ⟨y22, rfl, hy22, hra22, rfl⟩
    refine ⟨_, rfl, ?_⟩
    refine RL_q rfl (Yd_add rfl rfl (i64w (by omega) (by omega))) (RL_q rfl (Yd_build Try.bld24 rfl rfl) (RL_l rfl (Ld_alloc (v := (.agg #[(.int .i64 0), (.int .i64 0), (.int .i64 0), (.slice none 0 0)])) (by kernel_rfl) ?_)))
    have hg_4 := hE.size
    intro W4 he4 hz4 hB4
    replace hE := Ext.trans hE he4
    replace h_cps := h_cps.ext he4
    replace hB1 := hB1.ext he4
    replace hB2 := hB2.ext he4
    refine RL_l0 (Ld_store (by kernel_rfl) rfl rfl hB4 (Nat.le_of_ble_eq_true rfl) (by simp [cellsL, Value.cells, Value.oneCell']) ?_)
    intro W5 hu5 hz5 hB4
    have hk5 := Kp.ofb hu5
    have hs5 := hk5.size
    replace hE := Ext.kp hE hk5 (fun k hk => by first | omega | (have hk := hk; dsimp only at hk; omega))
    replace h_cps := h_cps.kp hk5 (fun k hk => by first | omega | (have hk := hk; dsimp only at hk; omega))
    replace hB1 := hB1.kp hk5 (fun hk => by first | omega | (have hk := hk; dsimp only at hk; omega))
    replace hB2 := hB2.kp hk5 (fun hk => by first | omega | (have hk := hk; dsimp only at hk; omega))
    refine RL_nil (X_then (C_seq (C_region (RL_q rfl (Yd_assign rfl) (RL_nil (X_then (C_seq (C_seq (C_region (RL_q rfl (Yd_assign rfl) (RL_nil (X_then (C_block (?_))))))))))))))
    refine C_loop (T := Nat × Int × Int × List Pt × Option Addr × Nat × Nat) (fun ⟨k, fr, at_, q, bA4_3, bn4_3, bc4_3⟩ => [(1, .pointer (some ⟨w.heap.size, 0, none⟩)), (2, .pointer (some ⟨W1.heap.size, 0, none⟩)), (3, .slice A_cps m13.toNat c_cps), (4, .pointer (some ⟨W2.heap.size, 0, none⟩)), (5, .int .i64 at_), (6, .int .i64 (k : Int))]) (fun ⟨k, fr, at_, q, bA4_3, bn4_3, bc4_3⟩ lw5 => Ow tP 35 lw5 W5.heap.size lw5.heap.size bA4_3 bn4_3 bc4_3 q ∧ Blk lw5 W2.heap.size 24 [.int .i64 fr, .int .i64 (1 + y22), .int .i64 0, .slice bA4_3 bn4_3 bc4_3] ∧ (k ≤ m13.toNat) ∧ (GI k fr at_ q) ∧ Kp (fun k => k = W2.heap.size) W5 lw5) (fun ⟨k, fr, at_, q, bA4_3, bn4_3, bc4_3⟩ => m13.toNat - k) (⟨0, 0, 0, [], none, 0, 0⟩) ⟨rfl, rfl, rfl, rfl, rfl, rfl, trivial⟩ ?_ ?_
    · refine ⟨(Ow.nil (lo := W5.heap.size)).cast ?_, hB4, ?_, ?_, Kp.refl _ _⟩
      all_goals (try dsimp only)
      all_goals (first | omega | rfl | exact GI.zero)
    · rintro ⟨k, fr, at_, q, bA4_3, bn4_3, bc4_3⟩ lw5 ⟨hb_4_3, hB4, hi5_0, hG, hL5⟩
      replace hE := Ext.kp hE hL5 (fun k hk => by first | omega | (have hk := hk; dsimp only at hk; omega))
      replace h_cps := h_cps.kp hL5 (fun k hk => by first | omega | (have hk := hk; dsimp only at hk; omega))
      replace hB1 := hB1.kp hL5 (fun hk => by first | omega | (have hk := hk; dsimp only at hk; omega))
      replace hB2 := hB2.kp hL5 (fun hk => by first | omega | (have hk := hk; dsimp only at hk; omega))
      have hsL5 := hL5.size
      have hnhb_4_3 := hb_4_3.ln
      try simp only [List.length_append, List.length_cons, List.length_nil, List.length_set, List.length_take, List.length_drop, List.length_replicate, List.length_map, Nat.zero_add, Nat.add_zero, oneP_len] at hnhb_4_3
      have hchb_4_3 := hb_4_3.cap
      have hGf := hG.frb
      have hGa := hG.hat
      have hGl := hG.hln
      refine C_seq (C_seq (C_region (RL_q rfl (Yd_move rfl) (RL_q rfl (Yd_move rfl) (RL_q rfl (Yd_len Try.underlying22 rfl) (RL_q rfl (Yd_lss rfl rfl) (RL_nil (X_then (?_)))))))))
      refine C_cond rfl (fun hb28 => ?_) (fun hb28 => ?_)
      · skip
        try simp only [decide_eq_true_eq, decide_eq_false_iff_not, Bool.not_eq_true', Bool.not_eq_false', Decidable.not_not, Int.not_lt, Int.not_le, Bool.or_eq_true, Bool.and_eq_true, Bool.or_eq_false_iff, Bool.and_eq_false_iff] at hb28
        refine C_skip (X_then (C_seq (C_block (C_seq (?_)))))
        refine C_regionP (fun k => lw5.heap.size ≤ k) (p := (.q 0 (.q 1 (.q 2 (.q 3 (.q 4 (.q 7 (.q 8 (.q 9 (.q 10 (.q 11 (.q 12 (.q 15 (.q 16 (.q 17 (.q 18 (.q 19 (.two 5 23 (.q 6 (.two 13 23 (.q 14 (.two 20 23 (.q 21 (.q 22 (.l 23 (.l 24 .nil)))) (.l 20 (.q 21 (.q 22 (.l 24 .nil)))))) (.l 13 (.q 14 (.l 20 (.q 21 (.q 22 (.l 24 .nil)))))))) (.l 5 (.q 6 (.l 13 (.q 14 (.l 20 (.q 21 (.q 22 (.l 24 .nil)))))))))))))))))))))))))) (by kernel_rfl) (by kernel_rfl) rfl (by kernel_rfl) (fun _ _ d _ _ h => by cases d <;> exact h) ?_
        intro W6 he6 hh6
        replace hE := Ext.trans hE he6
        replace h_cps := h_cps.ext he6
        replace hB1 := hB1.ext he6
        replace hB2 := hB2.ext he6
        replace hb_4_3 := hb_4_3.ext he6
        replace hL5 := Kp.go hL5 (Kp.of_ext (G := NoB) he6) (fun _ h => h.elim)
        replace hB4 := hB4.ext he6
        have hs6 := he6.size
        refine RP_q rfl rfl (Yd_move rfl) (RP_q rfl rfl (Yd_move rfl) (?_))
        obtain ⟨adA_cps, rfl, hghA_cps, hglA_cps⟩ := Vw.at_ (i := k) (Vw.take (k := m13.toNat) h_cps (by omega)) (by omega)
        refine RP_q rfl rfl (Yd_idx Try.underlying22 (sz := 3) (by kernel_rfl) rfl rfl (by omega) (by omega)) (RP_q rfl rfl (Yd_fldG (off := 0) Try.underlying35 (by kernel_rfl) rfl) (?_))
        obtain ⟨x2, hx2, gx2⟩ := Vw.elem (i := k) (Vw.take (k := m13.toNat) h_cps (by omega)) (by omega)
        replace gx2 : (-9223372036854775808 ≤ x2.quota ∧ x2.quota ≤ 9223372036854775807) ∧ (-9223372036854775808 ≤ x2.base ∧ x2.base ≤ 9223372036854775807) ∧ (-9223372036854775808 ≤ x2.pages ∧ x2.pages ≤ 9223372036854775807) := gx2
        refine RP_q rfl rfl (Yd_load Try.underlying3 rfl rfl (fun W hW => (Vw.lqF (Vw.kp (Vw.take (k := m13.toNat) h_cps (by omega)) hW (fun k hk => by first | omega | (have hk := hk; dsimp only at hk; omega))) hx2 rfl rfl) W (Ext.refl W))) (RP_q rfl rfl (Yd_move rfl) (RP_q rfl rfl (Yd_move rfl) (RP_q rfl rfl (Yd_move rfl) (RP_q rfl rfl (Yd_idx Try.underlying22 (sz := 3) (by kernel_rfl) rfl rfl (by omega) (by omega)) (RP_q rfl rfl (Yd_fldG (off := 1) Try.underlying35 (by kernel_rfl) rfl) (RP_q rfl rfl (Yd_load Try.underlying3 rfl rfl (fun W hW => (Vw.lqF (Vw.kp (Vw.take (k := m13.toNat) h_cps (by omega)) hW (fun k hk => by first | omega | (have hk := hk; dsimp only at hk; omega))) hx2 rfl rfl) W (Ext.refl W))) (RP_q rfl rfl (Yd_move rfl) (RP_q rfl rfl (Yd_move rfl) (RP_q rfl rfl (Yd_idx Try.underlying22 (sz := 3) (by kernel_rfl) rfl rfl (by omega) (by omega)) (RP_q rfl rfl (Yd_fldG (off := 2) Try.underlying35 (by kernel_rfl) rfl) (RP_q rfl rfl (Yd_load Try.underlying3 rfl rfl (fun W hW => (Vw.lqF (Vw.kp (Vw.take (k := m13.toNat) h_cps (by omega)) hW (fun k hk => by first | omega | (have hk := hk; dsimp only at hk; omega))) hx2 rfl rfl) W (Ext.refl W))) (?_))))))))))))
        refine RP_two rfl rfl ?_ ?_
        · skip
          refine RPl_l rfl (Ld_call Try.func17 rfl (by kernel_rfl) rfl (AroundV ⟨by first | omega | (dsimp only; omega), by first | omega | (dsimp only; omega)⟩ ⟨by first | omega | (dsimp only; omega), by first | omega | (dsimp only; omega)⟩) ?_)
          rintro e W7 ⟨y36, rfl, hy36, hra36, rfl⟩
          refine ⟨_, rfl, ?_⟩
          refine ⟨Kp.refl _ _, ?_⟩
          refine RP_q rfl rfl (Yd_add rfl rfl (i64w (by omega) (by omega))) (?_)
          refine RP_two rfl rfl ?_ ?_
          · skip
            refine RPl_l rfl (Ld_call Try.func17 rfl (by kernel_rfl) rfl (AroundV ⟨by first | omega | (dsimp only; omega), by first | omega | (dsimp only; omega)⟩ ⟨by first | omega | (dsimp only; omega), by first | omega | (dsimp only; omega)⟩) ?_)
            rintro e W8 ⟨y44, rfl, hy44, hra44, rfl⟩
            refine ⟨_, rfl, ?_⟩
            refine ⟨Kp.refl _ _, ?_⟩
            refine RP_q rfl rfl (Yd_add rfl rfl (i64w (by omega) (by omega))) (?_)
            refine RP_two rfl rfl ?_ ?_
            · skip
              refine RPl_l rfl (Ld_call Try.func17 rfl (by kernel_rfl) rfl (AroundV ⟨by first | omega | (dsimp only; omega), by first | omega | (dsimp only; omega)⟩ ⟨by first | omega | (dsimp only; omega), by first | omega | (dsimp only; omega)⟩) ?_)
              rintro e W9 ⟨y51, rfl, hy51, hra51, rfl⟩
              refine ⟨_, rfl, ?_⟩
              refine ⟨Kp.refl _ _, ?_⟩
              refine RP_q rfl rfl (Yd_add rfl rfl (i64w (by omega) (by omega))) (RP_q rfl rfl (Yd_build Try.bld35 rfl rfl) (RP_loud rfl (RPl_l rfl (Ld_alloc (v := (.agg #[(.int .i64 0), (.int .i64 0), (.int .i64 0)])) (by kernel_rfl) ?_))))
              have hg_7 := hE.size
              intro W10 he10 hz10 hB7
              refine ⟨Kp.of_ext he10, ?_⟩
              replace hE := Ext.trans hE he10
              replace h_cps := h_cps.ext he10
              replace hB1 := hB1.ext he10
              replace hB2 := hB2.ext he10
              replace hb_4_3 := hb_4_3.ext he10
              replace hL5 := Kp.go hL5 (Kp.of_ext (G := NoB) he10) (fun _ h => h.elim)
              replace hB4 := hB4.ext he10
              refine RP_loud rfl (RPl_l0 (Ld_store (by kernel_rfl) rfl rfl hB7 (Nat.le_of_ble_eq_true rfl) (by simp [cellsL, Value.cells, Value.oneCell']) ?_))
              intro W11 hu11 hz11 hB7
              refine ⟨Kp.of_but hu11 (by first | rfl | omega | (dsimp only; omega)), ?_⟩
              have hk11 := Kp.ofb hu11
              have hs11 := hk11.size
              replace hE := Ext.kp hE hk11 (fun k hk => by first | omega | (have hk := hk; dsimp only at hk; omega))
              replace h_cps := h_cps.kp hk11 (fun k hk => by first | omega | (have hk := hk; dsimp only at hk; omega))
              replace hB1 := hB1.kp hk11 (fun hk => by first | omega | (have hk := hk; dsimp only at hk; omega))
              replace hB2 := hB2.kp hk11 (fun hk => by first | omega | (have hk := hk; dsimp only at hk; omega))
              replace hb_4_3 := hb_4_3.kp hk11 (fun k hk => by first | omega | (have hk := hk; dsimp only at hk; omega))
              try replace hL5 := hL5.go hk11 (fun k hk => by first | omega | (have hk := hk; dsimp only at hk; dsimp only; omega))
              replace hB4 := hB4.kp hk11 (fun hk => by first | omega | (have hk := hk; dsimp only at hk; omega))
              refine RP_nil (X_then (C_seq (C_region (RL_q rfl (Yd_fld (off := 3) Try.underlying24 (by kernel_rfl) rfl) (RL_q rfl (Yd_load Try.underlying22 rfl rfl (ldB hB4 rfl)) (RL_q rfl (Yd_loadA Try.underlying35 rfl (by kernel_rfl) rfl (ldBA hB7)) (RL_l rfl (Ld_lit Try.underlying22 rfl (lit_flat Try.underlying22 Try.elt35 rfl rfl ⟨rfl, by decide⟩) ?_))))))))
              intro W12 he12 hz12 hL57
              replace hE := Ext.trans hE he12
              replace h_cps := h_cps.ext he12
              replace hB1 := hB1.ext he12
              replace hB2 := hB2.ext he12
              replace hb_4_3 := hb_4_3.ext he12
              replace hL5 := Kp.go hL5 (Kp.of_ext (G := NoB) he12) (fun _ h => h.elim)
              replace hB4 := hB4.ext he12
              replace hB7 := hB7.ext he12
              have hO57 := Ow.of_blk (T := tP) (l := [(⟨(1 + y36), (at_ + y44), (1 + y51)⟩ : Pt)]) hL57 rfl (n := 1) rfl (by simp [maxLen]) (okc ⟨⟨by dsimp only; omega, by dsimp only; omega⟩, ⟨by dsimp only; omega, by dsimp only; omega⟩, ⟨by dsimp only; omega, by dsimp only; omega⟩⟩ okn)
              clear hL57
              refine RL_l rfl (Ld_apO (T := tP) Try.underlying22 Try.elt35 rfl rfl rfl hb_4_3 hO57.vw (by simp only [maxLen]; omega) (by omega) (by omega) ?_)
              intro A58 c58 W13 hO58 hk13
              have hs13 := hk13.size
              replace hE := Ext.kp hE hk13 (fun k hk => by first | omega | (have hk := hk; dsimp only at hk; omega))
              replace h_cps := h_cps.kp hk13 (fun k hk => by first | omega | (have hk := hk; dsimp only at hk; omega))
              replace hB1 := hB1.kp hk13 (fun hk => by first | omega | (have hk := hk; dsimp only at hk; omega))
              replace hB2 := hB2.kp hk13 (fun hk => by first | omega | (have hk := hk; dsimp only at hk; omega))
              try replace hL5 := hL5.go hk13 (fun k hk => by first | omega | (have hk := hk; dsimp only at hk; dsimp only; omega))
              replace hB4 := hB4.kp hk13 (fun hk => by first | omega | (have hk := hk; dsimp only at hk; omega))
              replace hB7 := hB7.kp hk13 (fun hk => by first | omega | (have hk := hk; dsimp only at hk; omega))
              replace hO57 := hO57.kp hk13 (fun k hk => by first | omega | (have hk := hk; dsimp only at hk; omega))
              have hn58 := hO58.ln
              try simp only [List.length_append, List.length_cons, List.length_nil, List.length_set, List.length_take, List.length_drop, List.length_replicate, List.length_map, Nat.zero_add, Nat.add_zero, oneP_len] at hn58
              have hc58 := hO58.cap
              refine RL_q rfl (Yd_fld (off := 3) Try.underlying24 (by kernel_rfl) rfl) (RL_l0 (Ld_store (by kernel_rfl) rfl rfl hB4 (Nat.le_of_ble_eq_true rfl) (by simp [cellsL, Value.cells, Value.oneCell']) ?_))
              intro W14 hu14 hz14 hB4
              have hk14 := Kp.ofb hu14
              have hs14 := hk14.size
              replace hE := Ext.kp hE hk14 (fun k hk => by first | omega | (have hk := hk; dsimp only at hk; omega))
              replace h_cps := h_cps.kp hk14 (fun k hk => by first | omega | (have hk := hk; dsimp only at hk; omega))
              replace hB1 := hB1.kp hk14 (fun hk => by first | omega | (have hk := hk; dsimp only at hk; omega))
              replace hB2 := hB2.kp hk14 (fun hk => by first | omega | (have hk := hk; dsimp only at hk; omega))
              try replace hL5 := hL5.go hk14 (fun k hk => by first | omega | (have hk := hk; dsimp only at hk; dsimp only; omega))
              replace hB7 := hB7.kp hk14 (fun hk => by first | omega | (have hk := hk; dsimp only at hk; omega))
              replace hO57 := hO57.kp hk14 (fun k hk => by first | omega | (have hk := hk; dsimp only at hk; omega))
              replace hO58 := hO58.kp hk14 (fun k hk => by first | omega | (have hk := hk; dsimp only at hk; omega))
              refine RL_nil (X_then (C_seq (C_region (RL_q rfl (Yd_fld (off := 0) Try.underlying24 (by kernel_rfl) rfl) (RL_q rfl (Yd_load Try.underlying3 rfl rfl (ldB hB4 rfl)) (RL_q rfl (Yd_fld (off := 0) Try.underlying35 (by kernel_rfl) rfl) (RL_q rfl (Yd_load Try.underlying3 rfl rfl (ldB hB7 rfl)) (RL_q rfl (Yd_add rfl rfl (i64w (by omega) (by omega))) (RL_q rfl (Yd_fld (off := 0) Try.underlying24 (by kernel_rfl) rfl) (RL_l0 (Ld_store (by kernel_rfl) rfl rfl hB4 (Nat.le_of_ble_eq_true rfl) (by simp [cellsL, Value.cells, Value.oneCell']) ?_)))))))))))
              intro W15 hu15 hz15 hB4
              have hk15 := Kp.ofb hu15
              have hs15 := hk15.size
              replace hE := Ext.kp hE hk15 (fun k hk => by first | omega | (have hk := hk; dsimp only at hk; omega))
              replace h_cps := h_cps.kp hk15 (fun k hk => by first | omega | (have hk := hk; dsimp only at hk; omega))
              replace hB1 := hB1.kp hk15 (fun hk => by first | omega | (have hk := hk; dsimp only at hk; omega))
              replace hB2 := hB2.kp hk15 (fun hk => by first | omega | (have hk := hk; dsimp only at hk; omega))
              try replace hL5 := hL5.go hk15 (fun k hk => by first | omega | (have hk := hk; dsimp only at hk; dsimp only; omega))
              replace hB7 := hB7.kp hk15 (fun hk => by first | omega | (have hk := hk; dsimp only at hk; omega))
              replace hO57 := hO57.kp hk15 (fun k hk => by first | omega | (have hk := hk; dsimp only at hk; omega))
              replace hO58 := hO58.kp hk15 (fun k hk => by first | omega | (have hk := hk; dsimp only at hk; omega))
              refine RL_nil (X_then (C_region (RL_q rfl (Yd_fld (off := 1) Try.underlying35 (by kernel_rfl) rfl) (RL_q rfl (Yd_load Try.underlying3 rfl rfl (ldB hB7 rfl)) (RL_q rfl (Yd_fld (off := 2) Try.underlying35 (by kernel_rfl) rfl) (RL_q rfl (Yd_load Try.underlying3 rfl rfl (ldB hB7 rfl)) (RL_q rfl (Yd_mul rfl rfl (i64w (by omega) (by omega))) (RL_q rfl (Yd_add rfl rfl (i64w (by omega) (by omega))) (RL_q rfl (Yd_assign rfl) (RL_nil (X_block (X_then (C_region (RL_q rfl (Yd_move rfl) (RL_q rfl (Yd_add rfl rfl (i64w (by omega) (by omega))) (RL_q rfl (Yd_assign rfl) (RL_nil (?_))))))))))))))))))
              refine X_again (⟨k + 1, (fr + (1 + y36)), ((at_ + y44) + (2 * (1 + y51))), (q ++ [(⟨(1 + y36), (at_ + y44), (1 + y51)⟩ : Pt)]), A58, (bn4_3 + 1), c58⟩) ⟨rfl, rfl, rfl, rfl, rfl, rfl, trivial⟩ ?_ (by show m13.toNat - (k + 1) < m13.toNat - k; omega)
              refine ⟨hO58.fit.cast ?_, hB4, ?_, ?_, hL5⟩
              all_goals (try dsimp only)
              all_goals (first | omega | rfl | exact GI.next hG hra36 hra44 hra51)
            · skip
              refine RPl_l rfl (Ld_alloc (v := (.agg #[(.int .i64 0), (.int .i64 0), (.int .i64 0)])) (by kernel_rfl) ?_)
              have hg_7 := hE.size
              intro W9 he9 hz9 hB7
              refine ⟨Kp.of_ext he9, ?_⟩
              replace hE := Ext.trans hE he9
              replace h_cps := h_cps.ext he9
              replace hB1 := hB1.ext he9
              replace hB2 := hB2.ext he9
              replace hb_4_3 := hb_4_3.ext he9
              replace hL5 := Kp.go hL5 (Kp.of_ext (G := NoB) he9) (fun _ h => h.elim)
              replace hB4 := hB4.ext he9
              refine RP_loud rfl (RPl_l rfl (Ld_call Try.func17 rfl (by kernel_rfl) rfl (AroundV ⟨by first | omega | (dsimp only; omega), by first | omega | (dsimp only; omega)⟩ ⟨by first | omega | (dsimp only; omega), by first | omega | (dsimp only; omega)⟩) ?_))
              rintro e W10 ⟨y51, rfl, hy51, hra51, rfl⟩
              refine ⟨_, rfl, ?_⟩
              refine ⟨Kp.refl _ _, ?_⟩
              refine RP_q rfl rfl (Yd_add rfl rfl (i64w (by omega) (by omega))) (RP_q rfl rfl (Yd_build Try.bld35 rfl rfl) (RP_loud rfl (RPl_l0 (Ld_store (by kernel_rfl) rfl rfl hB7 (Nat.le_of_ble_eq_true rfl) (by simp [cellsL, Value.cells, Value.oneCell']) ?_))))
              intro W11 hu11 hz11 hB7
              refine ⟨Kp.of_but hu11 (by first | rfl | omega | (dsimp only; omega)), ?_⟩
              have hk11 := Kp.ofb hu11
              have hs11 := hk11.size
              replace hE := Ext.kp hE hk11 (fun k hk => by first | omega | (have hk := hk; dsimp only at hk; omega))
              replace h_cps := h_cps.kp hk11 (fun k hk => by first | omega | (have hk := hk; dsimp only at hk; omega))
              replace hB1 := hB1.kp hk11 (fun hk => by first | omega | (have hk := hk; dsimp only at hk; omega))
              replace hB2 := hB2.kp hk11 (fun hk => by first | omega | (have hk := hk; dsimp only at hk; omega))
              replace hb_4_3 := hb_4_3.kp hk11 (fun k hk => by first | omega | (have hk := hk; dsimp only at hk; omega))
              try replace hL5 := hL5.go hk11 (fun k hk => by first | omega | (have hk := hk; dsimp only at hk; dsimp only; omega))
              replace hB4 := hB4.kp hk11 (fun hk => by first | omega | (have hk := hk; dsimp only at hk; omega))
              refine RP_nil (X_then (C_seq (C_region (RL_q rfl (Yd_fld (off := 3) Try.underlying24 (by kernel_rfl) rfl) (RL_q rfl (Yd_load Try.underlying22 rfl rfl (ldB hB4 rfl)) (RL_q rfl (Yd_loadA Try.underlying35 rfl (by kernel_rfl) rfl (ldBA hB7)) (RL_l rfl (Ld_lit Try.underlying22 rfl (lit_flat Try.underlying22 Try.elt35 rfl rfl ⟨rfl, by decide⟩) ?_))))))))
              intro W12 he12 hz12 hL57
              replace hE := Ext.trans hE he12
              replace h_cps := h_cps.ext he12
              replace hB1 := hB1.ext he12
              replace hB2 := hB2.ext he12
              replace hb_4_3 := hb_4_3.ext he12
              replace hL5 := Kp.go hL5 (Kp.of_ext (G := NoB) he12) (fun _ h => h.elim)
              replace hB4 := hB4.ext he12
              replace hB7 := hB7.ext he12
              have hO57 := Ow.of_blk (T := tP) (l := [(⟨(1 + y36), (at_ + y44), (1 + y51)⟩ : Pt)]) hL57 rfl (n := 1) rfl (by simp [maxLen]) (okc ⟨⟨by dsimp only; omega, by dsimp only; omega⟩, ⟨by dsimp only; omega, by dsimp only; omega⟩, ⟨by dsimp only; omega, by dsimp only; omega⟩⟩ okn)
              clear hL57
              refine RL_l rfl (Ld_apO (T := tP) Try.underlying22 Try.elt35 rfl rfl rfl hb_4_3 hO57.vw (by simp only [maxLen]; omega) (by omega) (by omega) ?_)
              intro A58 c58 W13 hO58 hk13
              have hs13 := hk13.size
              replace hE := Ext.kp hE hk13 (fun k hk => by first | omega | (have hk := hk; dsimp only at hk; omega))
              replace h_cps := h_cps.kp hk13 (fun k hk => by first | omega | (have hk := hk; dsimp only at hk; omega))
              replace hB1 := hB1.kp hk13 (fun hk => by first | omega | (have hk := hk; dsimp only at hk; omega))
              replace hB2 := hB2.kp hk13 (fun hk => by first | omega | (have hk := hk; dsimp only at hk; omega))
              try replace hL5 := hL5.go hk13 (fun k hk => by first | omega | (have hk := hk; dsimp only at hk; dsimp only; omega))
              replace hB4 := hB4.kp hk13 (fun hk => by first | omega | (have hk := hk; dsimp only at hk; omega))
              replace hB7 := hB7.kp hk13 (fun hk => by first | omega | (have hk := hk; dsimp only at hk; omega))
              replace hO57 := hO57.kp hk13 (fun k hk => by first | omega | (have hk := hk; dsimp only at hk; omega))
              have hn58 := hO58.ln
              try simp only [List.length_append, List.length_cons, List.length_nil, List.length_set, List.length_take, List.length_drop, List.length_replicate, List.length_map, Nat.zero_add, Nat.add_zero, oneP_len] at hn58
              have hc58 := hO58.cap
              refine RL_q rfl (Yd_fld (off := 3) Try.underlying24 (by kernel_rfl) rfl) (RL_l0 (Ld_store (by kernel_rfl) rfl rfl hB4 (Nat.le_of_ble_eq_true rfl) (by simp [cellsL, Value.cells, Value.oneCell']) ?_))
              intro W14 hu14 hz14 hB4
              have hk14 := Kp.ofb hu14
              have hs14 := hk14.size
              replace hE := Ext.kp hE hk14 (fun k hk => by first | omega | (have hk := hk; dsimp only at hk; omega))
              replace h_cps := h_cps.kp hk14 (fun k hk => by first | omega | (have hk := hk; dsimp only at hk; omega))
              replace hB1 := hB1.kp hk14 (fun hk => by first | omega | (have hk := hk; dsimp only at hk; omega))
              replace hB2 := hB2.kp hk14 (fun hk => by first | omega | (have hk := hk; dsimp only at hk; omega))
              try replace hL5 := hL5.go hk14 (fun k hk => by first | omega | (have hk := hk; dsimp only at hk; dsimp only; omega))
              replace hB7 := hB7.kp hk14 (fun hk => by first | omega | (have hk := hk; dsimp only at hk; omega))
              replace hO57 := hO57.kp hk14 (fun k hk => by first | omega | (have hk := hk; dsimp only at hk; omega))
              replace hO58 := hO58.kp hk14 (fun k hk => by first | omega | (have hk := hk; dsimp only at hk; omega))
              refine RL_nil (X_then (C_seq (C_region (RL_q rfl (Yd_fld (off := 0) Try.underlying24 (by kernel_rfl) rfl) (RL_q rfl (Yd_load Try.underlying3 rfl rfl (ldB hB4 rfl)) (RL_q rfl (Yd_fld (off := 0) Try.underlying35 (by kernel_rfl) rfl) (RL_q rfl (Yd_load Try.underlying3 rfl rfl (ldB hB7 rfl)) (RL_q rfl (Yd_add rfl rfl (i64w (by omega) (by omega))) (RL_q rfl (Yd_fld (off := 0) Try.underlying24 (by kernel_rfl) rfl) (RL_l0 (Ld_store (by kernel_rfl) rfl rfl hB4 (Nat.le_of_ble_eq_true rfl) (by simp [cellsL, Value.cells, Value.oneCell']) ?_)))))))))))
              intro W15 hu15 hz15 hB4
              have hk15 := Kp.ofb hu15
              have hs15 := hk15.size
              replace hE := Ext.kp hE hk15 (fun k hk => by first | omega | (have hk := hk; dsimp only at hk; omega))
              replace h_cps := h_cps.kp hk15 (fun k hk => by first | omega | (have hk := hk; dsimp only at hk; omega))
              replace hB1 := hB1.kp hk15 (fun hk => by first | omega | (have hk := hk; dsimp only at hk; omega))
              replace hB2 := hB2.kp hk15 (fun hk => by first | omega | (have hk := hk; dsimp only at hk; omega))
              try replace hL5 := hL5.go hk15 (fun k hk => by first | omega | (have hk := hk; dsimp only at hk; dsimp only; omega))
              replace hB7 := hB7.kp hk15 (fun hk => by first | omega | (have hk := hk; dsimp only at hk; omega))
              replace hO57 := hO57.kp hk15 (fun k hk => by first | omega | (have hk := hk; dsimp only at hk; omega))
              replace hO58 := hO58.kp hk15 (fun k hk => by first | omega | (have hk := hk; dsimp only at hk; omega))
              refine RL_nil (X_then (C_region (RL_q rfl (Yd_fld (off := 1) Try.underlying35 (by kernel_rfl) rfl) (RL_q rfl (Yd_load Try.underlying3 rfl rfl (ldB hB7 rfl)) (RL_q rfl (Yd_fld (off := 2) Try.underlying35 (by kernel_rfl) rfl) (RL_q rfl (Yd_load Try.underlying3 rfl rfl (ldB hB7 rfl)) (RL_q rfl (Yd_mul rfl rfl (i64w (by omega) (by omega))) (RL_q rfl (Yd_add rfl rfl (i64w (by omega) (by omega))) (RL_q rfl (Yd_assign rfl) (RL_nil (X_block (X_then (C_region (RL_q rfl (Yd_move rfl) (RL_q rfl (Yd_add rfl rfl (i64w (by omega) (by omega))) (RL_q rfl (Yd_assign rfl) (RL_nil (?_))))))))))))))))))
              refine X_again (⟨k + 1, (fr + (1 + y36)), ((at_ + y44) + (2 * (1 + y51))), (q ++ [(⟨(1 + y36), (at_ + y44), (1 + y51)⟩ : Pt)]), A58, (bn4_3 + 1), c58⟩) ⟨rfl, rfl, rfl, rfl, rfl, rfl, trivial⟩ ?_ (by show m13.toNat - (k + 1) < m13.toNat - k; omega)
              refine ⟨hO58.fit.cast ?_, hB4, ?_, ?_, hL5⟩
              all_goals (try dsimp only)
              all_goals (first | omega | rfl | exact GI.next hG hra36 hra44 hra51)
          · skip
            refine RPl_l rfl (Ld_alloc (v := (.agg #[(.int .i64 0), (.int .i64 0), (.int .i64 0)])) (by kernel_rfl) ?_)
            have hg_7 := hE.size
            intro W8 he8 hz8 hB7
            refine ⟨Kp.of_ext he8, ?_⟩
            replace hE := Ext.trans hE he8
            replace h_cps := h_cps.ext he8
            replace hB1 := hB1.ext he8
            replace hB2 := hB2.ext he8
            replace hb_4_3 := hb_4_3.ext he8
            replace hL5 := Kp.go hL5 (Kp.of_ext (G := NoB) he8) (fun _ h => h.elim)
            replace hB4 := hB4.ext he8
            refine RP_loud rfl (RPl_l rfl (Ld_call Try.func17 rfl (by kernel_rfl) rfl (AroundV ⟨by first | omega | (dsimp only; omega), by first | omega | (dsimp only; omega)⟩ ⟨by first | omega | (dsimp only; omega), by first | omega | (dsimp only; omega)⟩) ?_))
            rintro e W9 ⟨y44, rfl, hy44, hra44, rfl⟩
            refine ⟨_, rfl, ?_⟩
            refine ⟨Kp.refl _ _, ?_⟩
            refine RP_q rfl rfl (Yd_add rfl rfl (i64w (by omega) (by omega))) (RP_loud rfl (RPl_l rfl (Ld_call Try.func17 rfl (by kernel_rfl) rfl (AroundV ⟨by first | omega | (dsimp only; omega), by first | omega | (dsimp only; omega)⟩ ⟨by first | omega | (dsimp only; omega), by first | omega | (dsimp only; omega)⟩) ?_)))
            rintro e W10 ⟨y51, rfl, hy51, hra51, rfl⟩
            refine ⟨_, rfl, ?_⟩
            refine ⟨Kp.refl _ _, ?_⟩
            refine RP_q rfl rfl (Yd_add rfl rfl (i64w (by omega) (by omega))) (RP_q rfl rfl (Yd_build Try.bld35 rfl rfl) (RP_loud rfl (RPl_l0 (Ld_store (by kernel_rfl) rfl rfl hB7 (Nat.le_of_ble_eq_true rfl) (by simp [cellsL, Value.cells, Value.oneCell']) ?_))))
            intro W11 hu11 hz11 hB7
            refine ⟨Kp.of_but hu11 (by first | rfl | omega | (dsimp only; omega)), ?_⟩
            have hk11 := Kp.ofb hu11
            have hs11 := hk11.size
            replace hE := Ext.kp hE hk11 (fun k hk => by first | omega | (have hk := hk; dsimp only at hk; omega))
            replace h_cps := h_cps.kp hk11 (fun k hk => by first | omega | (have hk := hk; dsimp only at hk; omega))
            replace hB1 := hB1.kp hk11 (fun hk => by first | omega | (have hk := hk; dsimp only at hk; omega))
            replace hB2 := hB2.kp hk11 (fun hk => by first | omega | (have hk := hk; dsimp only at hk; omega))
            replace hb_4_3 := hb_4_3.kp hk11 (fun k hk => by first | omega | (have hk := hk; dsimp only at hk; omega))
            try replace hL5 := hL5.go hk11 (fun k hk => by first | omega | (have hk := hk; dsimp only at hk; dsimp only; omega))
            replace hB4 := hB4.kp hk11 (fun hk => by first | omega | (have hk := hk; dsimp only at hk; omega))
            refine RP_nil (X_then (C_seq (C_region (RL_q rfl (Yd_fld (off := 3) Try.underlying24 (by kernel_rfl) rfl) (RL_q rfl (Yd_load Try.underlying22 rfl rfl (ldB hB4 rfl)) (RL_q rfl (Yd_loadA Try.underlying35 rfl (by kernel_rfl) rfl (ldBA hB7)) (RL_l rfl (Ld_lit Try.underlying22 rfl (lit_flat Try.underlying22 Try.elt35 rfl rfl ⟨rfl, by decide⟩) ?_))))))))
            intro W12 he12 hz12 hL57
            replace hE := Ext.trans hE he12
            replace h_cps := h_cps.ext he12
            replace hB1 := hB1.ext he12
            replace hB2 := hB2.ext he12
            replace hb_4_3 := hb_4_3.ext he12
            replace hL5 := Kp.go hL5 (Kp.of_ext (G := NoB) he12) (fun _ h => h.elim)
            replace hB4 := hB4.ext he12
            replace hB7 := hB7.ext he12
            have hO57 := Ow.of_blk (T := tP) (l := [(⟨(1 + y36), (at_ + y44), (1 + y51)⟩ : Pt)]) hL57 rfl (n := 1) rfl (by simp [maxLen]) (okc ⟨⟨by dsimp only; omega, by dsimp only; omega⟩, ⟨by dsimp only; omega, by dsimp only; omega⟩, ⟨by dsimp only; omega, by dsimp only; omega⟩⟩ okn)
            clear hL57
            refine RL_l rfl (Ld_apO (T := tP) Try.underlying22 Try.elt35 rfl rfl rfl hb_4_3 hO57.vw (by simp only [maxLen]; omega) (by omega) (by omega) ?_)
            intro A58 c58 W13 hO58 hk13
            have hs13 := hk13.size
            replace hE := Ext.kp hE hk13 (fun k hk => by first | omega | (have hk := hk; dsimp only at hk; omega))
            replace h_cps := h_cps.kp hk13 (fun k hk => by first | omega | (have hk := hk; dsimp only at hk; omega))
            replace hB1 := hB1.kp hk13 (fun hk => by first | omega | (have hk := hk; dsimp only at hk; omega))
            replace hB2 := hB2.kp hk13 (fun hk => by first | omega | (have hk := hk; dsimp only at hk; omega))
            try replace hL5 := hL5.go hk13 (fun k hk => by first | omega | (have hk := hk; dsimp only at hk; dsimp only; omega))
            replace hB4 := hB4.kp hk13 (fun hk => by first | omega | (have hk := hk; dsimp only at hk; omega))
            replace hB7 := hB7.kp hk13 (fun hk => by first | omega | (have hk := hk; dsimp only at hk; omega))
            replace hO57 := hO57.kp hk13 (fun k hk => by first | omega | (have hk := hk; dsimp only at hk; omega))
            have hn58 := hO58.ln
            try simp only [List.length_append, List.length_cons, List.length_nil, List.length_set, List.length_take, List.length_drop, List.length_replicate, List.length_map, Nat.zero_add, Nat.add_zero, oneP_len] at hn58
            have hc58 := hO58.cap
            refine RL_q rfl (Yd_fld (off := 3) Try.underlying24 (by kernel_rfl) rfl) (RL_l0 (Ld_store (by kernel_rfl) rfl rfl hB4 (Nat.le_of_ble_eq_true rfl) (by simp [cellsL, Value.cells, Value.oneCell']) ?_))
            intro W14 hu14 hz14 hB4
            have hk14 := Kp.ofb hu14
            have hs14 := hk14.size
            replace hE := Ext.kp hE hk14 (fun k hk => by first | omega | (have hk := hk; dsimp only at hk; omega))
            replace h_cps := h_cps.kp hk14 (fun k hk => by first | omega | (have hk := hk; dsimp only at hk; omega))
            replace hB1 := hB1.kp hk14 (fun hk => by first | omega | (have hk := hk; dsimp only at hk; omega))
            replace hB2 := hB2.kp hk14 (fun hk => by first | omega | (have hk := hk; dsimp only at hk; omega))
            try replace hL5 := hL5.go hk14 (fun k hk => by first | omega | (have hk := hk; dsimp only at hk; dsimp only; omega))
            replace hB7 := hB7.kp hk14 (fun hk => by first | omega | (have hk := hk; dsimp only at hk; omega))
            replace hO57 := hO57.kp hk14 (fun k hk => by first | omega | (have hk := hk; dsimp only at hk; omega))
            replace hO58 := hO58.kp hk14 (fun k hk => by first | omega | (have hk := hk; dsimp only at hk; omega))
            refine RL_nil (X_then (C_seq (C_region (RL_q rfl (Yd_fld (off := 0) Try.underlying24 (by kernel_rfl) rfl) (RL_q rfl (Yd_load Try.underlying3 rfl rfl (ldB hB4 rfl)) (RL_q rfl (Yd_fld (off := 0) Try.underlying35 (by kernel_rfl) rfl) (RL_q rfl (Yd_load Try.underlying3 rfl rfl (ldB hB7 rfl)) (RL_q rfl (Yd_add rfl rfl (i64w (by omega) (by omega))) (RL_q rfl (Yd_fld (off := 0) Try.underlying24 (by kernel_rfl) rfl) (RL_l0 (Ld_store (by kernel_rfl) rfl rfl hB4 (Nat.le_of_ble_eq_true rfl) (by simp [cellsL, Value.cells, Value.oneCell']) ?_)))))))))))
            intro W15 hu15 hz15 hB4
            have hk15 := Kp.ofb hu15
            have hs15 := hk15.size
            replace hE := Ext.kp hE hk15 (fun k hk => by first | omega | (have hk := hk; dsimp only at hk; omega))
            replace h_cps := h_cps.kp hk15 (fun k hk => by first | omega | (have hk := hk; dsimp only at hk; omega))
            replace hB1 := hB1.kp hk15 (fun hk => by first | omega | (have hk := hk; dsimp only at hk; omega))
            replace hB2 := hB2.kp hk15 (fun hk => by first | omega | (have hk := hk; dsimp only at hk; omega))
            try replace hL5 := hL5.go hk15 (fun k hk => by first | omega | (have hk := hk; dsimp only at hk; dsimp only; omega))
            replace hB7 := hB7.kp hk15 (fun hk => by first | omega | (have hk := hk; dsimp only at hk; omega))
            replace hO57 := hO57.kp hk15 (fun k hk => by first | omega | (have hk := hk; dsimp only at hk; omega))
            replace hO58 := hO58.kp hk15 (fun k hk => by first | omega | (have hk := hk; dsimp only at hk; omega))
            refine RL_nil (X_then (C_region (RL_q rfl (Yd_fld (off := 1) Try.underlying35 (by kernel_rfl) rfl) (RL_q rfl (Yd_load Try.underlying3 rfl rfl (ldB hB7 rfl)) (RL_q rfl (Yd_fld (off := 2) Try.underlying35 (by kernel_rfl) rfl) (RL_q rfl (Yd_load Try.underlying3 rfl rfl (ldB hB7 rfl)) (RL_q rfl (Yd_mul rfl rfl (i64w (by omega) (by omega))) (RL_q rfl (Yd_add rfl rfl (i64w (by omega) (by omega))) (RL_q rfl (Yd_assign rfl) (RL_nil (X_block (X_then (C_region (RL_q rfl (Yd_move rfl) (RL_q rfl (Yd_add rfl rfl (i64w (by omega) (by omega))) (RL_q rfl (Yd_assign rfl) (RL_nil (?_))))))))))))))))))
            refine X_again (⟨k + 1, (fr + (1 + y36)), ((at_ + y44) + (2 * (1 + y51))), (q ++ [(⟨(1 + y36), (at_ + y44), (1 + y51)⟩ : Pt)]), A58, (bn4_3 + 1), c58⟩) ⟨rfl, rfl, rfl, rfl, rfl, rfl, trivial⟩ ?_ (by show m13.toNat - (k + 1) < m13.toNat - k; omega)
            refine ⟨hO58.fit.cast ?_, hB4, ?_, ?_, hL5⟩
            all_goals (try dsimp only)
            all_goals (first | omega | rfl | exact GI.next hG hra36 hra44 hra51)
        · skip
          refine RPl_l rfl (Ld_alloc (v := (.agg #[(.int .i64 0), (.int .i64 0), (.int .i64 0)])) (by kernel_rfl) ?_)
          have hg_7 := hE.size
          intro W7 he7 hz7 hB7
          refine ⟨Kp.of_ext he7, ?_⟩
          replace hE := Ext.trans hE he7
          replace h_cps := h_cps.ext he7
          replace hB1 := hB1.ext he7
          replace hB2 := hB2.ext he7
          replace hb_4_3 := hb_4_3.ext he7
          replace hL5 := Kp.go hL5 (Kp.of_ext (G := NoB) he7) (fun _ h => h.elim)
          replace hB4 := hB4.ext he7
          refine RP_loud rfl (RPl_l rfl (Ld_call Try.func17 rfl (by kernel_rfl) rfl (AroundV ⟨by first | omega | (dsimp only; omega), by first | omega | (dsimp only; omega)⟩ ⟨by first | omega | (dsimp only; omega), by first | omega | (dsimp only; omega)⟩) ?_))
          rintro e W8 ⟨y36, rfl, hy36, hra36, rfl⟩
          refine ⟨_, rfl, ?_⟩
          refine ⟨Kp.refl _ _, ?_⟩
          refine RP_q rfl rfl (Yd_add rfl rfl (i64w (by omega) (by omega))) (RP_loud rfl (RPl_l rfl (Ld_call Try.func17 rfl (by kernel_rfl) rfl (AroundV ⟨by first | omega | (dsimp only; omega), by first | omega | (dsimp only; omega)⟩ ⟨by first | omega | (dsimp only; omega), by first | omega | (dsimp only; omega)⟩) ?_)))
          rintro e W9 ⟨y44, rfl, hy44, hra44, rfl⟩
          refine ⟨_, rfl, ?_⟩
          refine ⟨Kp.refl _ _, ?_⟩
          refine RP_q rfl rfl (Yd_add rfl rfl (i64w (by omega) (by omega))) (RP_loud rfl (RPl_l rfl (Ld_call Try.func17 rfl (by kernel_rfl) rfl (AroundV ⟨by first | omega | (dsimp only; omega), by first | omega | (dsimp only; omega)⟩ ⟨by first | omega | (dsimp only; omega), by first | omega | (dsimp only; omega)⟩) ?_)))
          rintro e W10 ⟨y51, rfl, hy51, hra51, rfl⟩
          refine ⟨_, rfl, ?_⟩
          refine ⟨Kp.refl _ _, ?_⟩
          refine RP_q rfl rfl (Yd_add rfl rfl (i64w (by omega) (by omega))) (RP_q rfl rfl (Yd_build Try.bld35 rfl rfl) (RP_loud rfl (RPl_l0 (Ld_store (by kernel_rfl) rfl rfl hB7 (Nat.le_of_ble_eq_true rfl) (by simp [cellsL, Value.cells, Value.oneCell']) ?_))))
          intro W11 hu11 hz11 hB7
          refine ⟨Kp.of_but hu11 (by first | rfl | omega | (dsimp only; omega)), ?_⟩
          have hk11 := Kp.ofb hu11
          have hs11 := hk11.size
          replace hE := Ext.kp hE hk11 (fun k hk => by first | omega | (have hk := hk; dsimp only at hk; omega))
          replace h_cps := h_cps.kp hk11 (fun k hk => by first | omega | (have hk := hk; dsimp only at hk; omega))
          replace hB1 := hB1.kp hk11 (fun hk => by first | omega | (have hk := hk; dsimp only at hk; omega))
          replace hB2 := hB2.kp hk11 (fun hk => by first | omega | (have hk := hk; dsimp only at hk; omega))
          replace hb_4_3 := hb_4_3.kp hk11 (fun k hk => by first | omega | (have hk := hk; dsimp only at hk; omega))
          try replace hL5 := hL5.go hk11 (fun k hk => by first | omega | (have hk := hk; dsimp only at hk; dsimp only; omega))
          replace hB4 := hB4.kp hk11 (fun hk => by first | omega | (have hk := hk; dsimp only at hk; omega))
          refine RP_nil (X_then (C_seq (C_region (RL_q rfl (Yd_fld (off := 3) Try.underlying24 (by kernel_rfl) rfl) (RL_q rfl (Yd_load Try.underlying22 rfl rfl (ldB hB4 rfl)) (RL_q rfl (Yd_loadA Try.underlying35 rfl (by kernel_rfl) rfl (ldBA hB7)) (RL_l rfl (Ld_lit Try.underlying22 rfl (lit_flat Try.underlying22 Try.elt35 rfl rfl ⟨rfl, by decide⟩) ?_))))))))
          intro W12 he12 hz12 hL57
          replace hE := Ext.trans hE he12
          replace h_cps := h_cps.ext he12
          replace hB1 := hB1.ext he12
          replace hB2 := hB2.ext he12
          replace hb_4_3 := hb_4_3.ext he12
          replace hL5 := Kp.go hL5 (Kp.of_ext (G := NoB) he12) (fun _ h => h.elim)
          replace hB4 := hB4.ext he12
          replace hB7 := hB7.ext he12
          have hO57 := Ow.of_blk (T := tP) (l := [(⟨(1 + y36), (at_ + y44), (1 + y51)⟩ : Pt)]) hL57 rfl (n := 1) rfl (by simp [maxLen]) (okc ⟨⟨by dsimp only; omega, by dsimp only; omega⟩, ⟨by dsimp only; omega, by dsimp only; omega⟩, ⟨by dsimp only; omega, by dsimp only; omega⟩⟩ okn)
          clear hL57
          refine RL_l rfl (Ld_apO (T := tP) Try.underlying22 Try.elt35 rfl rfl rfl hb_4_3 hO57.vw (by simp only [maxLen]; omega) (by omega) (by omega) ?_)
          intro A58 c58 W13 hO58 hk13
          have hs13 := hk13.size
          replace hE := Ext.kp hE hk13 (fun k hk => by first | omega | (have hk := hk; dsimp only at hk; omega))
          replace h_cps := h_cps.kp hk13 (fun k hk => by first | omega | (have hk := hk; dsimp only at hk; omega))
          replace hB1 := hB1.kp hk13 (fun hk => by first | omega | (have hk := hk; dsimp only at hk; omega))
          replace hB2 := hB2.kp hk13 (fun hk => by first | omega | (have hk := hk; dsimp only at hk; omega))
          try replace hL5 := hL5.go hk13 (fun k hk => by first | omega | (have hk := hk; dsimp only at hk; dsimp only; omega))
          replace hB4 := hB4.kp hk13 (fun hk => by first | omega | (have hk := hk; dsimp only at hk; omega))
          replace hB7 := hB7.kp hk13 (fun hk => by first | omega | (have hk := hk; dsimp only at hk; omega))
          replace hO57 := hO57.kp hk13 (fun k hk => by first | omega | (have hk := hk; dsimp only at hk; omega))
          have hn58 := hO58.ln
          try simp only [List.length_append, List.length_cons, List.length_nil, List.length_set, List.length_take, List.length_drop, List.length_replicate, List.length_map, Nat.zero_add, Nat.add_zero, oneP_len] at hn58
          have hc58 := hO58.cap
          refine RL_q rfl (Yd_fld (off := 3) Try.underlying24 (by kernel_rfl) rfl) (RL_l0 (Ld_store (by kernel_rfl) rfl rfl hB4 (Nat.le_of_ble_eq_true rfl) (by simp [cellsL, Value.cells, Value.oneCell']) ?_))
          intro W14 hu14 hz14 hB4
          have hk14 := Kp.ofb hu14
          have hs14 := hk14.size
          replace hE := Ext.kp hE hk14 (fun k hk => by first | omega | (have hk := hk; dsimp only at hk; omega))
          replace h_cps := h_cps.kp hk14 (fun k hk => by first | omega | (have hk := hk; dsimp only at hk; omega))
          replace hB1 := hB1.kp hk14 (fun hk => by first | omega | (have hk := hk; dsimp only at hk; omega))
          replace hB2 := hB2.kp hk14 (fun hk => by first | omega | (have hk := hk; dsimp only at hk; omega))
          try replace hL5 := hL5.go hk14 (fun k hk => by first | omega | (have hk := hk; dsimp only at hk; dsimp only; omega))
          replace hB7 := hB7.kp hk14 (fun hk => by first | omega | (have hk := hk; dsimp only at hk; omega))
          replace hO57 := hO57.kp hk14 (fun k hk => by first | omega | (have hk := hk; dsimp only at hk; omega))
          replace hO58 := hO58.kp hk14 (fun k hk => by first | omega | (have hk := hk; dsimp only at hk; omega))
          refine RL_nil (X_then (C_seq (C_region (RL_q rfl (Yd_fld (off := 0) Try.underlying24 (by kernel_rfl) rfl) (RL_q rfl (Yd_load Try.underlying3 rfl rfl (ldB hB4 rfl)) (RL_q rfl (Yd_fld (off := 0) Try.underlying35 (by kernel_rfl) rfl) (RL_q rfl (Yd_load Try.underlying3 rfl rfl (ldB hB7 rfl)) (RL_q rfl (Yd_add rfl rfl (i64w (by omega) (by omega))) (RL_q rfl (Yd_fld (off := 0) Try.underlying24 (by kernel_rfl) rfl) (RL_l0 (Ld_store (by kernel_rfl) rfl rfl hB4 (Nat.le_of_ble_eq_true rfl) (by simp [cellsL, Value.cells, Value.oneCell']) ?_)))))))))))
          intro W15 hu15 hz15 hB4
          have hk15 := Kp.ofb hu15
          have hs15 := hk15.size
          replace hE := Ext.kp hE hk15 (fun k hk => by first | omega | (have hk := hk; dsimp only at hk; omega))
          replace h_cps := h_cps.kp hk15 (fun k hk => by first | omega | (have hk := hk; dsimp only at hk; omega))
          replace hB1 := hB1.kp hk15 (fun hk => by first | omega | (have hk := hk; dsimp only at hk; omega))
          replace hB2 := hB2.kp hk15 (fun hk => by first | omega | (have hk := hk; dsimp only at hk; omega))
          try replace hL5 := hL5.go hk15 (fun k hk => by first | omega | (have hk := hk; dsimp only at hk; dsimp only; omega))
          replace hB7 := hB7.kp hk15 (fun hk => by first | omega | (have hk := hk; dsimp only at hk; omega))
          replace hO57 := hO57.kp hk15 (fun k hk => by first | omega | (have hk := hk; dsimp only at hk; omega))
          replace hO58 := hO58.kp hk15 (fun k hk => by first | omega | (have hk := hk; dsimp only at hk; omega))
          refine RL_nil (X_then (C_region (RL_q rfl (Yd_fld (off := 1) Try.underlying35 (by kernel_rfl) rfl) (RL_q rfl (Yd_load Try.underlying3 rfl rfl (ldB hB7 rfl)) (RL_q rfl (Yd_fld (off := 2) Try.underlying35 (by kernel_rfl) rfl) (RL_q rfl (Yd_load Try.underlying3 rfl rfl (ldB hB7 rfl)) (RL_q rfl (Yd_mul rfl rfl (i64w (by omega) (by omega))) (RL_q rfl (Yd_add rfl rfl (i64w (by omega) (by omega))) (RL_q rfl (Yd_assign rfl) (RL_nil (X_block (X_then (C_region (RL_q rfl (Yd_move rfl) (RL_q rfl (Yd_add rfl rfl (i64w (by omega) (by omega))) (RL_q rfl (Yd_assign rfl) (RL_nil (?_))))))))))))))))))
          refine X_again (⟨k + 1, (fr + (1 + y36)), ((at_ + y44) + (2 * (1 + y51))), (q ++ [(⟨(1 + y36), (at_ + y44), (1 + y51)⟩ : Pt)]), A58, (bn4_3 + 1), c58⟩) ⟨rfl, rfl, rfl, rfl, rfl, rfl, trivial⟩ ?_ (by show m13.toNat - (k + 1) < m13.toNat - k; omega)
          refine ⟨hO58.fit.cast ?_, hB4, ?_, ?_, hL5⟩
          all_goals (try dsimp only)
          all_goals (first | omega | rfl | exact GI.next hG hra36 hra44 hra51)
      · skip
        try simp only [decide_eq_true_eq, decide_eq_false_iff_not, Bool.not_eq_true', Bool.not_eq_false', Decidable.not_not, Int.not_lt, Int.not_le, Bool.or_eq_true, Bool.and_eq_true, Bool.or_eq_false_iff, Bool.and_eq_false_iff] at hb28
        refine C_exit (X_thenE (X_thenE (X_blockE (X_then (C_seq (C_region (RL_q rfl (Yd_move rfl) (RL_q rfl (Yd_fld (off := 2) Try.underlying24 (by kernel_rfl) rfl) (RL_q rfl (Yd_load Try.underlying3 rfl rfl (ldB hB1 rfl)) (RL_l rfl (Ld_call Try.func17 rfl (by kernel_rfl) rfl (AroundV ⟨by first | omega | (dsimp only; omega), by first | omega | (dsimp only; omega)⟩ ⟨by first | omega | (dsimp only; omega), by first | omega | (dsimp only; omega)⟩) ?_)))))))))))
        rintro e W6 ⟨y75, rfl, hy75, hra75, rfl⟩
        refine ⟨_, rfl, ?_⟩
        refine RL_q rfl (Yd_add rfl rfl (i64w (by omega) (by omega))) (RL_q rfl (Yd_fld (off := 2) Try.underlying24 (by kernel_rfl) rfl) (RL_l0 (Ld_store (by kernel_rfl) rfl rfl hB4 (Nat.le_of_ble_eq_true rfl) (by simp [cellsL, Value.cells, Value.oneCell']) ?_)))
        intro W7 hu7 hz7 hB4
        have hk7 := Kp.ofb hu7
        have hs7 := hk7.size
        replace hE := Ext.kp hE hk7 (fun k hk => by first | omega | (have hk := hk; dsimp only at hk; omega))
        replace h_cps := h_cps.kp hk7 (fun k hk => by first | omega | (have hk := hk; dsimp only at hk; omega))
        replace hB1 := hB1.kp hk7 (fun hk => by first | omega | (have hk := hk; dsimp only at hk; omega))
        replace hB2 := hB2.kp hk7 (fun hk => by first | omega | (have hk := hk; dsimp only at hk; omega))
        replace hb_4_3 := hb_4_3.kp hk7 (fun k hk => by first | omega | (have hk := hk; dsimp only at hk; omega))
        try replace hL5 := hL5.go hk7 (fun k hk => by first | omega | (have hk := hk; dsimp only at hk; dsimp only; omega))
        refine RL_nil (X_then (C_seq (C_region (RL_q rfl (Yd_loadA Try.underlying24 rfl (by kernel_rfl) rfl (ldBA hB4)) (RL_l0 (Ld_store (by kernel_rfl) rfl rfl hB2 (Nat.le_of_ble_eq_true rfl) (by simp [cellsL, Value.cells, Value.oneCell']) ?_))))))
        intro W8 hu8 hz8 hB2
        have hk8 := Kp.ofb hu8
        have hs8 := hk8.size
        replace hE := Ext.kp hE hk8 (fun k hk => by first | omega | (have hk := hk; dsimp only at hk; omega))
        replace h_cps := h_cps.kp hk8 (fun k hk => by first | omega | (have hk := hk; dsimp only at hk; omega))
        replace hB1 := hB1.kp hk8 (fun hk => by first | omega | (have hk := hk; dsimp only at hk; omega))
        replace hb_4_3 := hb_4_3.kp hk8 (fun k hk => by first | omega | (have hk := hk; dsimp only at hk; omega))
        try replace hL5 := hL5.go hk8 (fun k hk => by first | omega | (have hk := hk; dsimp only at hk; dsimp only; omega))
        replace hB4 := hB4.kp hk8 (fun hk => by first | omega | (have hk := hk; dsimp only at hk; omega))
        refine RL_nil (X_then (C_ret (X_retC rfl rfl Try.underlying24 rfl (by kernel_rfl) hB2 ?_)))
        refine ⟨_, _, _, _, _, _, _, rfl, ?_, hb_4_3.fit.more (by omega) (Nat.le_refl _), hE⟩
        exact GI.good hG (by omega) hra22 hra75
theorem oddV {cfr cdp csc : Int} {lo_cps B_cps : Nat} {A_cps : Option Addr} {n_cps c_cps : Nat} {cps : List Pt} {i : Int} {v : Int} {w : World}  (h_cps : Vw tP w lo_cps B_cps A_cps n_cps c_cps cps) (b_c : -9223372036854775808 ≤ cfr ∧ cfr ≤ 9223372036854775807 ∧ -9223372036854775808 ≤ cdp ∧ cdp ≤ 9223372036854775807 ∧ -9223372036854775808 ≤ csc ∧ csc ≤ 9223372036854775807) (b_i : -9223372036854775808 ≤ i ∧ i ≤ 9223372036854775807) (b_v : -9223372036854775808 ≤ v ∧ v ≤ 9223372036854775807) (h6 : n_cps ≤ 60000) :
    Calls Try.prog 16 #[.agg #[.int .i64 cfr, .int .i64 cdp, .int .i64 csc, .slice A_cps n_cps c_cps], .int .i64 i, .int .i64 v] w fun e w' => ∃ (fr dp sc : Int) (A : Option Addr) (n c : Nat) (ps : List Pt), e = .returned (.agg #[.int .i64 fr, .int .i64 dp, .int .i64 sc, .slice A n c]) ∧ ((-9223372036854775808 ≤ fr ∧ fr ≤ 9223372036854775807) ∧ (-9223372036854775808 ≤ dp ∧ dp ≤ 9223372036854775807) ∧ (-9223372036854775808 ≤ sc ∧ sc ≤ 9223372036854775807) ∧ ps.length = cps.length) ∧ Ow tP 35 w' w.heap.size w'.heap.size A n c ps ∧ Ext w w' := by
  have hE := Ext.refl w
  replace h_cps := h_cps.fit
  have hn_cps := h_cps.ln
  have hc_cps := h_cps.cap
  have hm_cps := h_cps.max
  simp only [maxLen] at hm_cps
  refine calls_of (l := [.agg #[.int .i64 cfr, .int .i64 cdp, .int .i64 csc, .slice A_cps n_cps c_cps], .int .i64 i, .int .i64 v]) (N := 71) Try.func16 rfl rfl rfl ?_
  refine C_seq (C_region (RL_l rfl (Ld_box rfl ?_)))
  have hg_3 := hE.size
  intro W1 he1 hz1 hB3
  replace hE := Ext.trans hE he1
  replace h_cps := h_cps.ext he1
  refine RL_l rfl (Ld_alloc (v := (.agg #[(.int .i64 0), (.int .i64 0), (.int .i64 0), (.slice none 0 0)])) (by kernel_rfl) ?_)
  have hg_6 := hE.size
  intro W2 he2 hz2 hB6
  replace hE := Ext.trans hE he2
  replace h_cps := h_cps.ext he2
  replace hB3 := hB3.ext he2
  refine RL_nil (X_then (C_seq (C_region (RL_q rfl (Yd_assign rfl) (RL_nil (X_then (C_seq (C_region (RL_q rfl (Yd_move rfl) (RL_q rfl (Yd_fld (off := 3) Try.underlying24 (by kernel_rfl) rfl) (RL_q rfl (Yd_load Try.underlying22 rfl rfl (ldB hB3 rfl)) (RL_l rfl (Ld_apO (T := tP) Try.underlying22 Try.elt35 rfl rfl rfl (Ow.nil (lo := W2.heap.size) (B := W2.heap.size)) h_cps (by simp only [maxLen]; omega) (by omega) (by omega) ?_)))))))))))))
  intro A13 c13 W3 hO13 hk3
  have he3 : Ext W2 W3 := Ext.kp (Ext.refl _) hk3 (fun k hk => by first | omega | (have hk := hk; dsimp only at hk; omega))
  replace hE := Ext.trans hE he3
  replace h_cps := h_cps.ext he3
  replace hB3 := hB3.ext he3
  replace hB6 := hB6.ext he3
  have hs3 := he3.size
  have hn13 := hO13.ln
  try simp only [List.length_append, List.length_cons, List.length_nil, List.length_set, List.length_take, List.length_drop, List.length_replicate, List.length_map, Nat.zero_add, Nat.add_zero, oneP_len] at hn13
  have hc13 := hO13.cap
  refine RL_q rfl (Yd_assign rfl) (RL_nil (X_then (C_seq (C_region (RL_q rfl (Yd_move rfl) (RL_q rfl (Yd_fld (off := 3) Try.underlying24 (by kernel_rfl) rfl) (RL_l0 (Ld_store (by kernel_rfl) rfl rfl hB3 (Nat.le_of_ble_eq_true rfl) (by simp [cellsL, Value.cells, Value.oneCell']) ?_))))))))
  intro W4 hu4 hz4 hB3
  have hk4 := Kp.ofb hu4
  have hs4 := hk4.size
  replace hE := Ext.kp hE hk4 (fun k hk => by first | omega | (have hk := hk; dsimp only at hk; omega))
  replace h_cps := h_cps.kp hk4 (fun k hk => by first | omega | (have hk := hk; dsimp only at hk; omega))
  replace hB6 := hB6.kp hk4 (fun hk => by first | omega | (have hk := hk; dsimp only at hk; omega))
  replace hO13 := hO13.kp hk4 (fun k hk => by first | omega | (have hk := hk; dsimp only at hk; omega))
  refine RL_nil (X_then (C_seq (C_region (RL_q rfl (Yd_move rfl) (RL_q rfl (Yd_move rfl) (RL_q rfl (Yd_len Try.underlying22 rfl) (RL_q rfl (Yd_mul rfl rfl (i64w (by omega) (by omega))) (RL_q rfl (Yd_add rfl rfl (i64w (by omega) (by omega))) (RL_l rfl (Ld_call Try.func17 rfl (by kernel_rfl) rfl (AroundV ⟨by first | omega | (dsimp only; omega), by first | omega | (dsimp only; omega)⟩ ⟨by first | omega | (dsimp only; omega), by first | omega | (dsimp only; omega)⟩) ?_))))))))))
  rintro e W5 ⟨y21, rfl, hy21, hra21, rfl⟩
  refine ⟨_, rfl, ?_⟩
  refine RL_q rfl (Yd_assign rfl) (RL_nil (X_then (C_seq (C_seq (C_region (RL_q rfl (Yd_move rfl) (RL_q rfl (Yd_eql rfl rfl) (RL_nil (X_then (?_))))))))))
  refine C_joinX (T := Int) (fun f1 => [(2, .int .i64 v), (3, .pointer (some ⟨w.heap.size, 0, none⟩)), (6, .pointer (some ⟨W1.heap.size, 0, none⟩)), (7, .slice A13 (0 + n_cps) c13), (8, .int .i64 y21)]) (fun f1 lw5 => Blk lw5 w.heap.size 24 [.int .i64 f1, .int .i64 cdp, .int .i64 csc, .slice A13 (0 + n_cps) c13] ∧ ((-9223372036854775808 ≤ f1 ∧ f1 ≤ 9223372036854775807)) ∧ Kp (fun k => k = w.heap.size) W4 lw5) ?_ ?_
  · skip
    have hL5 : Kp (fun k => k = w.heap.size) W4 W4 := Kp.refl _ _
    refine C_cond rfl (fun hb23 => ?_) (fun hb23 => ?_)
    · skip
      try simp only [decide_eq_true_eq, decide_eq_false_iff_not, Bool.not_eq_true', Bool.not_eq_false', Decidable.not_not, Int.not_lt, Int.not_le, Bool.or_eq_true, Bool.and_eq_true, Bool.or_eq_false_iff, Bool.and_eq_false_iff] at hb23
      refine C_region (RL_q rfl (Yd_move rfl) (RL_q rfl (Yd_fld (off := 0) Try.underlying24 (by kernel_rfl) rfl) (RL_l0 (Ld_store (by kernel_rfl) rfl rfl hB3 (Nat.le_of_ble_eq_true rfl) (by simp [cellsL, Value.cells, Value.oneCell']) ?_))))
      intro W6 hu6 hz6 hB3
      have hk6 := Kp.ofb hu6
      have hs6 := hk6.size
      replace hE := Ext.kp hE hk6 (fun k hk => by first | omega | (have hk := hk; dsimp only at hk; omega))
      replace h_cps := h_cps.kp hk6 (fun k hk => by first | omega | (have hk := hk; dsimp only at hk; omega))
      replace hB6 := hB6.kp hk6 (fun hk => by first | omega | (have hk := hk; dsimp only at hk; omega))
      replace hO13 := hO13.kp hk6 (fun k hk => by first | omega | (have hk := hk; dsimp only at hk; omega))
      try replace hL5 := hL5.go hk6 (fun k hk => by first | omega | (have hk := hk; dsimp only at hk; dsimp only; omega))
      refine RL_nil (?_)
      exact X_join (v) ⟨rfl, rfl, rfl, rfl, rfl, trivial⟩ ⟨hB3, (by first | omega), hL5⟩ 
    · skip
      try simp only [decide_eq_true_eq, decide_eq_false_iff_not, Bool.not_eq_true', Bool.not_eq_false', Decidable.not_not, Int.not_lt, Int.not_le, Bool.or_eq_true, Bool.and_eq_true, Bool.or_eq_false_iff, Bool.and_eq_false_iff] at hb23
      refine C_skip (?_)
      exact X_join (cfr) ⟨rfl, rfl, rfl, rfl, rfl, trivial⟩ ⟨hB3, (by first | omega), hL5⟩ 
  · rintro f1 lw5 ⟨hB3, hf1, hL5⟩
    replace hE := Ext.kp hE hL5 (fun k hk => by first | omega | (have hk := hk; dsimp only at hk; omega))
    replace h_cps := h_cps.kp hL5 (fun k hk => by first | omega | (have hk := hk; dsimp only at hk; omega))
    replace hB6 := hB6.kp hL5 (fun hk => by first | omega | (have hk := hk; dsimp only at hk; omega))
    replace hO13 := hO13.kp hL5 (fun k hk => by first | omega | (have hk := hk; dsimp only at hk; omega))
    have hsL5 := hL5.size
    refine X_then (C_seq (C_seq (C_region (RL_q rfl (Yd_move rfl) (RL_q rfl (Yd_eql rfl rfl) (RL_nil (X_then (?_))))))))
    refine C_joinX (T := Int) (fun f2 => [(2, .int .i64 v), (3, .pointer (some ⟨w.heap.size, 0, none⟩)), (6, .pointer (some ⟨W1.heap.size, 0, none⟩)), (7, .slice A13 (0 + n_cps) c13), (8, .int .i64 y21)]) (fun f2 lw105001 => Blk lw105001 w.heap.size 24 [.int .i64 f1, .int .i64 f2, .int .i64 csc, .slice A13 (0 + n_cps) c13] ∧ ((-9223372036854775808 ≤ f2 ∧ f2 ≤ 9223372036854775807)) ∧ Kp (fun k => k = w.heap.size) lw5 lw105001) ?_ ?_
    · skip
      have hL105001 : Kp (fun k => k = w.heap.size) lw5 lw5 := Kp.refl _ _
      refine C_cond rfl (fun hb27 => ?_) (fun hb27 => ?_)
      · skip
        try simp only [decide_eq_true_eq, decide_eq_false_iff_not, Bool.not_eq_true', Bool.not_eq_false', Decidable.not_not, Int.not_lt, Int.not_le, Bool.or_eq_true, Bool.and_eq_true, Bool.or_eq_false_iff, Bool.and_eq_false_iff] at hb27
        refine C_region (RL_q rfl (Yd_move rfl) (RL_q rfl (Yd_fld (off := 1) Try.underlying24 (by kernel_rfl) rfl) (RL_l0 (Ld_store (by kernel_rfl) rfl rfl hB3 (Nat.le_of_ble_eq_true rfl) (by simp [cellsL, Value.cells, Value.oneCell']) ?_))))
        intro W6 hu6 hz6 hB3
        have hk6 := Kp.ofb hu6
        have hs6 := hk6.size
        replace hE := Ext.kp hE hk6 (fun k hk => by first | omega | (have hk := hk; dsimp only at hk; omega))
        replace h_cps := h_cps.kp hk6 (fun k hk => by first | omega | (have hk := hk; dsimp only at hk; omega))
        replace hB6 := hB6.kp hk6 (fun hk => by first | omega | (have hk := hk; dsimp only at hk; omega))
        replace hO13 := hO13.kp hk6 (fun k hk => by first | omega | (have hk := hk; dsimp only at hk; omega))
        try replace hL5 := hL5.go hk6 (fun k hk => by first | omega | (have hk := hk; dsimp only at hk; dsimp only; omega))
        try replace hL105001 := hL105001.go hk6 (fun k hk => by first | omega | (have hk := hk; dsimp only at hk; dsimp only; omega))
        refine RL_nil (?_)
        exact X_join (v) ⟨rfl, rfl, rfl, rfl, rfl, trivial⟩ ⟨hB3, (by first | omega), hL105001⟩ 
      · skip
        try simp only [decide_eq_true_eq, decide_eq_false_iff_not, Bool.not_eq_true', Bool.not_eq_false', Decidable.not_not, Int.not_lt, Int.not_le, Bool.or_eq_true, Bool.and_eq_true, Bool.or_eq_false_iff, Bool.and_eq_false_iff] at hb27
        refine C_skip (?_)
        exact X_join (cdp) ⟨rfl, rfl, rfl, rfl, rfl, trivial⟩ ⟨hB3, (by first | omega), hL105001⟩ 
    · rintro f2 lw105001 ⟨hB3, hf2, hL105001⟩
      replace hE := Ext.kp hE hL105001 (fun k hk => by first | omega | (have hk := hk; dsimp only at hk; omega))
      replace h_cps := h_cps.kp hL105001 (fun k hk => by first | omega | (have hk := hk; dsimp only at hk; omega))
      replace hB6 := hB6.kp hL105001 (fun hk => by first | omega | (have hk := hk; dsimp only at hk; omega))
      replace hO13 := hO13.kp hL105001 (fun k hk => by first | omega | (have hk := hk; dsimp only at hk; omega))
      try replace hL5 := hL5.go hL105001 (fun k hk => by first | omega | (have hk := hk; dsimp only at hk; dsimp only; omega))
      have hsL105001 := hL105001.size
      refine X_then (C_seq (C_seq (C_region (RL_q rfl (Yd_move rfl) (RL_q rfl (Yd_eql rfl rfl) (RL_nil (X_then (?_))))))))
      refine C_joinX (T := Int) (fun f3 => [(2, .int .i64 v), (3, .pointer (some ⟨w.heap.size, 0, none⟩)), (6, .pointer (some ⟨W1.heap.size, 0, none⟩)), (7, .slice A13 (0 + n_cps) c13), (8, .int .i64 y21)]) (fun f3 lw105002 => Blk lw105002 w.heap.size 24 [.int .i64 f1, .int .i64 f2, .int .i64 f3, .slice A13 (0 + n_cps) c13] ∧ ((-9223372036854775808 ≤ f3 ∧ f3 ≤ 9223372036854775807)) ∧ Kp (fun k => k = w.heap.size) lw105001 lw105002) ?_ ?_
      · skip
        have hL105002 : Kp (fun k => k = w.heap.size) lw105001 lw105001 := Kp.refl _ _
        refine C_cond rfl (fun hb31 => ?_) (fun hb31 => ?_)
        · skip
          try simp only [decide_eq_true_eq, decide_eq_false_iff_not, Bool.not_eq_true', Bool.not_eq_false', Decidable.not_not, Int.not_lt, Int.not_le, Bool.or_eq_true, Bool.and_eq_true, Bool.or_eq_false_iff, Bool.and_eq_false_iff] at hb31
          refine C_region (RL_q rfl (Yd_move rfl) (RL_q rfl (Yd_fld (off := 2) Try.underlying24 (by kernel_rfl) rfl) (RL_l0 (Ld_store (by kernel_rfl) rfl rfl hB3 (Nat.le_of_ble_eq_true rfl) (by simp [cellsL, Value.cells, Value.oneCell']) ?_))))
          intro W6 hu6 hz6 hB3
          have hk6 := Kp.ofb hu6
          have hs6 := hk6.size
          replace hE := Ext.kp hE hk6 (fun k hk => by first | omega | (have hk := hk; dsimp only at hk; omega))
          replace h_cps := h_cps.kp hk6 (fun k hk => by first | omega | (have hk := hk; dsimp only at hk; omega))
          replace hB6 := hB6.kp hk6 (fun hk => by first | omega | (have hk := hk; dsimp only at hk; omega))
          replace hO13 := hO13.kp hk6 (fun k hk => by first | omega | (have hk := hk; dsimp only at hk; omega))
          try replace hL5 := hL5.go hk6 (fun k hk => by first | omega | (have hk := hk; dsimp only at hk; dsimp only; omega))
          try replace hL105001 := hL105001.go hk6 (fun k hk => by first | omega | (have hk := hk; dsimp only at hk; dsimp only; omega))
          try replace hL105002 := hL105002.go hk6 (fun k hk => by first | omega | (have hk := hk; dsimp only at hk; dsimp only; omega))
          refine RL_nil (?_)
          exact X_join (v) ⟨rfl, rfl, rfl, rfl, rfl, trivial⟩ ⟨hB3, (by first | omega), hL105002⟩ 
        · skip
          try simp only [decide_eq_true_eq, decide_eq_false_iff_not, Bool.not_eq_true', Bool.not_eq_false', Decidable.not_not, Int.not_lt, Int.not_le, Bool.or_eq_true, Bool.and_eq_true, Bool.or_eq_false_iff, Bool.and_eq_false_iff] at hb31
          refine C_skip (?_)
          exact X_join (csc) ⟨rfl, rfl, rfl, rfl, rfl, trivial⟩ ⟨hB3, (by first | omega), hL105002⟩ 
      · rintro f3 lw105002 ⟨hB3, hf3, hL105002⟩
        replace hE := Ext.kp hE hL105002 (fun k hk => by first | omega | (have hk := hk; dsimp only at hk; omega))
        replace h_cps := h_cps.kp hL105002 (fun k hk => by first | omega | (have hk := hk; dsimp only at hk; omega))
        replace hB6 := hB6.kp hL105002 (fun hk => by first | omega | (have hk := hk; dsimp only at hk; omega))
        replace hO13 := hO13.kp hL105002 (fun k hk => by first | omega | (have hk := hk; dsimp only at hk; omega))
        try replace hL5 := hL5.go hL105002 (fun k hk => by first | omega | (have hk := hk; dsimp only at hk; dsimp only; omega))
        try replace hL105001 := hL105001.go hL105002 (fun k hk => by first | omega | (have hk := hk; dsimp only at hk; dsimp only; omega))
        have hsL105002 := hL105002.size
        refine X_then (C_seq (C_seq (C_region (RL_q rfl (Yd_assign rfl) (RL_nil (X_then (C_block (?_))))))))
        refine C_loop (T := Nat × List Pt) (fun ⟨k, l⟩ => [(2, .int .i64 v), (3, .pointer (some ⟨w.heap.size, 0, none⟩)), (6, .pointer (some ⟨W1.heap.size, 0, none⟩)), (7, .slice A13 (0 + n_cps) c13), (8, .int .i64 y21), (9, .int .i64 (k : Int))]) (fun ⟨k, l⟩ lw105003 => Ow tP 35 lw105003 W2.heap.size W3.heap.size A13 (0 + n_cps) c13 l ∧ (k ≤ (0 + n_cps)) ∧ Kp (fun k => (W2.heap.size ≤ k ∧ k < W3.heap.size)) lw105002 lw105003) (fun ⟨k, l⟩ => (0 + n_cps) - k) (⟨0, ([] ++ cps)⟩) ⟨rfl, rfl, rfl, rfl, rfl, rfl, trivial⟩ ?_ ?_
        · refine ⟨hO13.cast ?_, ?_, Kp.refl _ _⟩
          all_goals (try dsimp only)
          all_goals (first | omega | rfl)
        · rintro ⟨k, l⟩ lw105003 ⟨hO13, hi105003_0, hL105003⟩
          replace hE := Ext.kp hE hL105003 (fun k hk => by first | omega | (have hk := hk; dsimp only at hk; omega))
          replace h_cps := h_cps.kp hL105003 (fun k hk => by first | omega | (have hk := hk; dsimp only at hk; omega))
          replace hB6 := hB6.kp hL105003 (fun hk => by first | omega | (have hk := hk; dsimp only at hk; omega))
          try replace hL5 := hL5.go hL105003 (fun k hk => by first | omega | (have hk := hk; dsimp only at hk; dsimp only; omega))
          try replace hL105001 := hL105001.go hL105003 (fun k hk => by first | omega | (have hk := hk; dsimp only at hk; dsimp only; omega))
          try replace hL105002 := hL105002.go hL105003 (fun k hk => by first | omega | (have hk := hk; dsimp only at hk; dsimp only; omega))
          replace hB3 := hB3.kp hL105003 (fun hk => by first | omega | (have hk := hk; dsimp only at hk; omega))
          have hsL105003 := hL105003.size
          have hnhO13 := hO13.ln
          try simp only [List.length_append, List.length_cons, List.length_nil, List.length_set, List.length_take, List.length_drop, List.length_replicate, List.length_map, Nat.zero_add, Nat.add_zero, oneP_len] at hnhO13
          have hchO13 := hO13.cap
          refine C_seq (C_seq (?_))
          refine C_region (RL_q rfl (Yd_move rfl) (RL_q rfl (Yd_move rfl) (RL_q rfl (Yd_len Try.underlying22 rfl) (RL_q rfl (Yd_lss rfl rfl) (RL_nil (X_then (?_)))))))
          refine C_cond rfl (fun hb37 => ?_) (fun hb37 => ?_)
          · skip
            try simp only [decide_eq_true_eq, decide_eq_false_iff_not, Bool.not_eq_true', Bool.not_eq_false', Decidable.not_not, Int.not_lt, Int.not_le, Bool.or_eq_true, Bool.and_eq_true, Bool.or_eq_false_iff, Bool.and_eq_false_iff] at hb37
            refine C_skip (X_then (C_seq (C_block (C_seq (C_seq (C_region (RL_q rfl (Yd_move rfl) (RL_q rfl (Yd_move rfl) (RL_q rfl (Yd_mul rfl rfl (i64w (by omega) (by omega))) (RL_q rfl (Yd_add rfl rfl (i64w (by omega) (by omega))) (RL_q rfl (Yd_eql rfl rfl) (RL_nil (X_then (?_))))))))))))))
            refine C_joinX (T := List Pt) (fun l1 => [(2, .int .i64 v), (3, .pointer (some ⟨w.heap.size, 0, none⟩)), (6, .pointer (some ⟨W1.heap.size, 0, none⟩)), (7, .slice A13 (0 + n_cps) c13), (8, .int .i64 y21), (9, .int .i64 (k : Int))]) (fun l1 lw105004 => Ow tP 35 lw105004 W2.heap.size W3.heap.size A13 (0 + n_cps) c13 l1 ∧ Kp (fun k => (W2.heap.size ≤ k ∧ k < W3.heap.size)) lw105003 lw105004) ?_ ?_
            · skip
              have hL105004 : Kp (fun k => (W2.heap.size ≤ k ∧ k < W3.heap.size)) lw105003 lw105003 := Kp.refl _ _
              refine C_cond rfl (fun hbx => ?_) (fun hbx => ?_)
              · skip
                obtain ⟨gA13, rfl, hglA13, hghA13⟩ := Ow.at_ (i := k) hO13 (by omega)
                obtain ⟨x1, hx1, gx1⟩ := Vw.elem (i := k) hO13.vw (by omega)
                replace gx1 : (-9223372036854775808 ≤ x1.quota ∧ x1.quota ≤ 9223372036854775807) ∧ (-9223372036854775808 ≤ x1.base ∧ x1.base ≤ 9223372036854775807) ∧ (-9223372036854775808 ≤ x1.pages ∧ x1.pages ≤ 9223372036854775807) := gx1
                refine C_region (RL_q rfl (Yd_move rfl) (RL_q rfl (Yd_move rfl) (RL_q rfl (Yd_move rfl) (RL_q rfl (Yd_idxL Try.underlying22 (sz := 3) (by kernel_rfl) rfl rfl (by omega) (by omega)) (RL_q rfl (Yd_fld (off := 0) Try.underlying35 (by kernel_rfl) rfl) (RL_l0 (Ld_putF (T := tP) (a := (⟨v, x1.base, x1.pages⟩ : Pt)) (by kernel_rfl) rfl rfl hO13 (i := k) (j := 0) hx1 rfl rfl rfl rfl (by decide) ⟨⟨by dsimp only; omega, by dsimp only; omega⟩, ⟨by dsimp only; omega, by dsimp only; omega⟩, ⟨by dsimp only; omega, by dsimp only; omega⟩⟩ ?_)))))))
                intro W6 hO13' hu6
                have hk6 := Kp.ofb hu6
                have hs6 := hk6.size
                replace hE := Ext.kp hE hk6 (fun k hk => by first | omega | (have hk := hk; dsimp only at hk; omega))
                replace h_cps := h_cps.kp hk6 (fun k hk => by first | omega | (have hk := hk; dsimp only at hk; omega))
                replace hB6 := hB6.kp hk6 (fun hk => by first | omega | (have hk := hk; dsimp only at hk; omega))
                try replace hL5 := hL5.go hk6 (fun k hk => by first | omega | (have hk := hk; dsimp only at hk; dsimp only; omega))
                try replace hL105001 := hL105001.go hk6 (fun k hk => by first | omega | (have hk := hk; dsimp only at hk; dsimp only; omega))
                try replace hL105002 := hL105002.go hk6 (fun k hk => by first | omega | (have hk := hk; dsimp only at hk; dsimp only; omega))
                replace hB3 := hB3.kp hk6 (fun hk => by first | omega | (have hk := hk; dsimp only at hk; omega))
                try replace hL105003 := hL105003.go hk6 (fun k hk => by first | omega | (have hk := hk; dsimp only at hk; dsimp only; omega))
                try replace hL105004 := hL105004.go hk6 (fun k hk => by first | omega | (have hk := hk; dsimp only at hk; dsimp only; omega))
                replace hO13 := hO13'
                have hnhO13 := hO13.ln
                refine RL_nil (?_)
                exact X_join (_) ⟨rfl, rfl, rfl, rfl, rfl, rfl, trivial⟩ ⟨hO13, hL105004⟩ 
              · skip
                refine C_skip (?_)
                exact X_join (_) ⟨rfl, rfl, rfl, rfl, rfl, rfl, trivial⟩ ⟨hO13, hL105004⟩ 
            · rintro l1 lw105004 ⟨hO13, hL105004⟩
              replace hE := Ext.kp hE hL105004 (fun k hk => by first | omega | (have hk := hk; dsimp only at hk; omega))
              replace h_cps := h_cps.kp hL105004 (fun k hk => by first | omega | (have hk := hk; dsimp only at hk; omega))
              replace hB6 := hB6.kp hL105004 (fun hk => by first | omega | (have hk := hk; dsimp only at hk; omega))
              try replace hL5 := hL5.go hL105004 (fun k hk => by first | omega | (have hk := hk; dsimp only at hk; dsimp only; omega))
              try replace hL105001 := hL105001.go hL105004 (fun k hk => by first | omega | (have hk := hk; dsimp only at hk; dsimp only; omega))
              try replace hL105002 := hL105002.go hL105004 (fun k hk => by first | omega | (have hk := hk; dsimp only at hk; dsimp only; omega))
              replace hB3 := hB3.kp hL105004 (fun hk => by first | omega | (have hk := hk; dsimp only at hk; omega))
              try replace hL105003 := hL105003.go hL105004 (fun k hk => by first | omega | (have hk := hk; dsimp only at hk; dsimp only; omega))
              have hsL105004 := hL105004.size
              have hnhO13 := hO13.ln
              try simp only [List.length_append, List.length_cons, List.length_nil, List.length_set, List.length_take, List.length_drop, List.length_replicate, List.length_map, Nat.zero_add, Nat.add_zero, oneP_len] at hnhO13
              have hchO13 := hO13.cap
              refine X_then (C_seq (C_seq (C_region (RL_q rfl (Yd_move rfl) (RL_q rfl (Yd_move rfl) (RL_q rfl (Yd_mul rfl rfl (i64w (by omega) (by omega))) (RL_q rfl (Yd_add rfl rfl (i64w (by omega) (by omega))) (RL_q rfl (Yd_eql rfl rfl) (RL_nil (X_then (?_)))))))))))
              refine C_joinX (T := List Pt) (fun l2 => [(2, .int .i64 v), (3, .pointer (some ⟨w.heap.size, 0, none⟩)), (6, .pointer (some ⟨W1.heap.size, 0, none⟩)), (7, .slice A13 (0 + n_cps) c13), (8, .int .i64 y21), (9, .int .i64 (k : Int))]) (fun l2 lw105005 => Ow tP 35 lw105005 W2.heap.size W3.heap.size A13 (0 + n_cps) c13 l2 ∧ Kp (fun k => (W2.heap.size ≤ k ∧ k < W3.heap.size)) lw105004 lw105005) ?_ ?_
              · skip
                have hL105005 : Kp (fun k => (W2.heap.size ≤ k ∧ k < W3.heap.size)) lw105004 lw105004 := Kp.refl _ _
                refine C_cond rfl (fun hbx => ?_) (fun hbx => ?_)
                · skip
                  obtain ⟨gA13, rfl, hglA13, hghA13⟩ := Ow.at_ (i := k) hO13 (by omega)
                  obtain ⟨x2, hx2, gx2⟩ := Vw.elem (i := k) hO13.vw (by omega)
                  replace gx2 : (-9223372036854775808 ≤ x2.quota ∧ x2.quota ≤ 9223372036854775807) ∧ (-9223372036854775808 ≤ x2.base ∧ x2.base ≤ 9223372036854775807) ∧ (-9223372036854775808 ≤ x2.pages ∧ x2.pages ≤ 9223372036854775807) := gx2
                  refine C_region (RL_q rfl (Yd_move rfl) (RL_q rfl (Yd_move rfl) (RL_q rfl (Yd_move rfl) (RL_q rfl (Yd_idxL Try.underlying22 (sz := 3) (by kernel_rfl) rfl rfl (by omega) (by omega)) (RL_q rfl (Yd_fld (off := 1) Try.underlying35 (by kernel_rfl) rfl) (RL_l0 (Ld_putF (T := tP) (a := (⟨x2.quota, v, x2.pages⟩ : Pt)) (by kernel_rfl) rfl rfl hO13 (i := k) (j := 1) hx2 rfl rfl rfl rfl (by decide) ⟨⟨by dsimp only; omega, by dsimp only; omega⟩, ⟨by dsimp only; omega, by dsimp only; omega⟩, ⟨by dsimp only; omega, by dsimp only; omega⟩⟩ ?_)))))))
                  intro W6 hO13' hu6
                  have hk6 := Kp.ofb hu6
                  have hs6 := hk6.size
                  replace hE := Ext.kp hE hk6 (fun k hk => by first | omega | (have hk := hk; dsimp only at hk; omega))
                  replace h_cps := h_cps.kp hk6 (fun k hk => by first | omega | (have hk := hk; dsimp only at hk; omega))
                  replace hB6 := hB6.kp hk6 (fun hk => by first | omega | (have hk := hk; dsimp only at hk; omega))
                  try replace hL5 := hL5.go hk6 (fun k hk => by first | omega | (have hk := hk; dsimp only at hk; dsimp only; omega))
                  try replace hL105001 := hL105001.go hk6 (fun k hk => by first | omega | (have hk := hk; dsimp only at hk; dsimp only; omega))
                  try replace hL105002 := hL105002.go hk6 (fun k hk => by first | omega | (have hk := hk; dsimp only at hk; dsimp only; omega))
                  replace hB3 := hB3.kp hk6 (fun hk => by first | omega | (have hk := hk; dsimp only at hk; omega))
                  try replace hL105003 := hL105003.go hk6 (fun k hk => by first | omega | (have hk := hk; dsimp only at hk; dsimp only; omega))
                  try replace hL105004 := hL105004.go hk6 (fun k hk => by first | omega | (have hk := hk; dsimp only at hk; dsimp only; omega))
                  try replace hL105005 := hL105005.go hk6 (fun k hk => by first | omega | (have hk := hk; dsimp only at hk; dsimp only; omega))
                  replace hO13 := hO13'
                  have hnhO13 := hO13.ln
                  refine RL_nil (?_)
                  exact X_join (_) ⟨rfl, rfl, rfl, rfl, rfl, rfl, trivial⟩ ⟨hO13, hL105005⟩ 
                · skip
                  refine C_skip (?_)
                  exact X_join (_) ⟨rfl, rfl, rfl, rfl, rfl, rfl, trivial⟩ ⟨hO13, hL105005⟩ 
              · rintro l2 lw105005 ⟨hO13, hL105005⟩
                replace hE := Ext.kp hE hL105005 (fun k hk => by first | omega | (have hk := hk; dsimp only at hk; omega))
                replace h_cps := h_cps.kp hL105005 (fun k hk => by first | omega | (have hk := hk; dsimp only at hk; omega))
                replace hB6 := hB6.kp hL105005 (fun hk => by first | omega | (have hk := hk; dsimp only at hk; omega))
                try replace hL5 := hL5.go hL105005 (fun k hk => by first | omega | (have hk := hk; dsimp only at hk; dsimp only; omega))
                try replace hL105001 := hL105001.go hL105005 (fun k hk => by first | omega | (have hk := hk; dsimp only at hk; dsimp only; omega))
                try replace hL105002 := hL105002.go hL105005 (fun k hk => by first | omega | (have hk := hk; dsimp only at hk; dsimp only; omega))
                replace hB3 := hB3.kp hL105005 (fun hk => by first | omega | (have hk := hk; dsimp only at hk; omega))
                try replace hL105003 := hL105003.go hL105005 (fun k hk => by first | omega | (have hk := hk; dsimp only at hk; dsimp only; omega))
                try replace hL105004 := hL105004.go hL105005 (fun k hk => by first | omega | (have hk := hk; dsimp only at hk; dsimp only; omega))
                have hsL105005 := hL105005.size
                have hnhO13 := hO13.ln
                try simp only [List.length_append, List.length_cons, List.length_nil, List.length_set, List.length_take, List.length_drop, List.length_replicate, List.length_map, Nat.zero_add, Nat.add_zero, oneP_len] at hnhO13
                have hchO13 := hO13.cap
                refine X_then (C_seq (C_region (RL_q rfl (Yd_move rfl) (RL_q rfl (Yd_move rfl) (RL_q rfl (Yd_mul rfl rfl (i64w (by omega) (by omega))) (RL_q rfl (Yd_add rfl rfl (i64w (by omega) (by omega))) (RL_q rfl (Yd_eql rfl rfl) (RL_nil (X_then (?_))))))))))
                refine C_joinX (T := List Pt) (fun l3 => [(2, .int .i64 v), (3, .pointer (some ⟨w.heap.size, 0, none⟩)), (6, .pointer (some ⟨W1.heap.size, 0, none⟩)), (7, .slice A13 (0 + n_cps) c13), (8, .int .i64 y21), (9, .int .i64 (k : Int))]) (fun l3 lw105006 => Ow tP 35 lw105006 W2.heap.size W3.heap.size A13 (0 + n_cps) c13 l3 ∧ Kp (fun k => (W2.heap.size ≤ k ∧ k < W3.heap.size)) lw105005 lw105006) ?_ ?_
                · skip
                  have hL105006 : Kp (fun k => (W2.heap.size ≤ k ∧ k < W3.heap.size)) lw105005 lw105005 := Kp.refl _ _
                  refine C_cond rfl (fun hbx => ?_) (fun hbx => ?_)
                  · skip
                    obtain ⟨gA13, rfl, hglA13, hghA13⟩ := Ow.at_ (i := k) hO13 (by omega)
                    obtain ⟨x3, hx3, gx3⟩ := Vw.elem (i := k) hO13.vw (by omega)
                    replace gx3 : (-9223372036854775808 ≤ x3.quota ∧ x3.quota ≤ 9223372036854775807) ∧ (-9223372036854775808 ≤ x3.base ∧ x3.base ≤ 9223372036854775807) ∧ (-9223372036854775808 ≤ x3.pages ∧ x3.pages ≤ 9223372036854775807) := gx3
                    refine C_region (RL_q rfl (Yd_move rfl) (RL_q rfl (Yd_move rfl) (RL_q rfl (Yd_move rfl) (RL_q rfl (Yd_idxL Try.underlying22 (sz := 3) (by kernel_rfl) rfl rfl (by omega) (by omega)) (RL_q rfl (Yd_fld (off := 2) Try.underlying35 (by kernel_rfl) rfl) (RL_l0 (Ld_putF (T := tP) (a := (⟨x3.quota, x3.base, v⟩ : Pt)) (by kernel_rfl) rfl rfl hO13 (i := k) (j := 2) hx3 rfl rfl rfl rfl (by decide) ⟨⟨by dsimp only; omega, by dsimp only; omega⟩, ⟨by dsimp only; omega, by dsimp only; omega⟩, ⟨by dsimp only; omega, by dsimp only; omega⟩⟩ ?_)))))))
                    intro W6 hO13' hu6
                    have hk6 := Kp.ofb hu6
                    have hs6 := hk6.size
                    replace hE := Ext.kp hE hk6 (fun k hk => by first | omega | (have hk := hk; dsimp only at hk; omega))
                    replace h_cps := h_cps.kp hk6 (fun k hk => by first | omega | (have hk := hk; dsimp only at hk; omega))
                    replace hB6 := hB6.kp hk6 (fun hk => by first | omega | (have hk := hk; dsimp only at hk; omega))
                    try replace hL5 := hL5.go hk6 (fun k hk => by first | omega | (have hk := hk; dsimp only at hk; dsimp only; omega))
                    try replace hL105001 := hL105001.go hk6 (fun k hk => by first | omega | (have hk := hk; dsimp only at hk; dsimp only; omega))
                    try replace hL105002 := hL105002.go hk6 (fun k hk => by first | omega | (have hk := hk; dsimp only at hk; dsimp only; omega))
                    replace hB3 := hB3.kp hk6 (fun hk => by first | omega | (have hk := hk; dsimp only at hk; omega))
                    try replace hL105003 := hL105003.go hk6 (fun k hk => by first | omega | (have hk := hk; dsimp only at hk; dsimp only; omega))
                    try replace hL105004 := hL105004.go hk6 (fun k hk => by first | omega | (have hk := hk; dsimp only at hk; dsimp only; omega))
                    try replace hL105005 := hL105005.go hk6 (fun k hk => by first | omega | (have hk := hk; dsimp only at hk; dsimp only; omega))
                    try replace hL105006 := hL105006.go hk6 (fun k hk => by first | omega | (have hk := hk; dsimp only at hk; dsimp only; omega))
                    replace hO13 := hO13'
                    have hnhO13 := hO13.ln
                    refine RL_nil (?_)
                    exact X_join (_) ⟨rfl, rfl, rfl, rfl, rfl, rfl, trivial⟩ ⟨hO13, hL105006⟩ 
                  · skip
                    refine C_skip (?_)
                    exact X_join (_) ⟨rfl, rfl, rfl, rfl, rfl, rfl, trivial⟩ ⟨hO13, hL105006⟩ 
                · rintro l3 lw105006 ⟨hO13, hL105006⟩
                  replace hE := Ext.kp hE hL105006 (fun k hk => by first | omega | (have hk := hk; dsimp only at hk; omega))
                  replace h_cps := h_cps.kp hL105006 (fun k hk => by first | omega | (have hk := hk; dsimp only at hk; omega))
                  replace hB6 := hB6.kp hL105006 (fun hk => by first | omega | (have hk := hk; dsimp only at hk; omega))
                  try replace hL5 := hL5.go hL105006 (fun k hk => by first | omega | (have hk := hk; dsimp only at hk; dsimp only; omega))
                  try replace hL105001 := hL105001.go hL105006 (fun k hk => by first | omega | (have hk := hk; dsimp only at hk; dsimp only; omega))
                  try replace hL105002 := hL105002.go hL105006 (fun k hk => by first | omega | (have hk := hk; dsimp only at hk; dsimp only; omega))
                  replace hB3 := hB3.kp hL105006 (fun hk => by first | omega | (have hk := hk; dsimp only at hk; omega))
                  try replace hL105003 := hL105003.go hL105006 (fun k hk => by first | omega | (have hk := hk; dsimp only at hk; dsimp only; omega))
                  try replace hL105004 := hL105004.go hL105006 (fun k hk => by first | omega | (have hk := hk; dsimp only at hk; dsimp only; omega))
                  try replace hL105005 := hL105005.go hL105006 (fun k hk => by first | omega | (have hk := hk; dsimp only at hk; dsimp only; omega))
                  have hsL105006 := hL105006.size
                  have hnhO13 := hO13.ln
                  try simp only [List.length_append, List.length_cons, List.length_nil, List.length_set, List.length_take, List.length_drop, List.length_replicate, List.length_map, Nat.zero_add, Nat.add_zero, oneP_len] at hnhO13
                  have hchO13 := hO13.cap
                  refine X_block (X_then (C_region (RL_q rfl (Yd_move rfl) (RL_q rfl (Yd_add rfl rfl (i64w (by omega) (by omega))) (RL_q rfl (Yd_assign rfl) (RL_nil (?_)))))))
                  exact X_again (⟨k + 1, _⟩) ⟨rfl, rfl, rfl, rfl, rfl, rfl, trivial⟩ ⟨hO13, (by first | omega | rfl), hL105003⟩ (by show (0 + n_cps) - (k + 1) < (0 + n_cps) - k; omega)
          · skip
            try simp only [decide_eq_true_eq, decide_eq_false_iff_not, Bool.not_eq_true', Bool.not_eq_false', Decidable.not_not, Int.not_lt, Int.not_le, Bool.or_eq_true, Bool.and_eq_true, Bool.or_eq_false_iff, Bool.and_eq_false_iff] at hb37
            refine C_exit (X_thenE (X_thenE (X_blockE (X_then (C_seq (C_region (RL_q rfl (Yd_loadA Try.underlying24 rfl (by kernel_rfl) rfl (ldBA hB3)) (RL_l0 (Ld_store (by kernel_rfl) rfl rfl hB6 (Nat.le_of_ble_eq_true rfl) (by simp [cellsL, Value.cells, Value.oneCell']) ?_)))))))))
            intro W6 hu6 hz6 hB6
            have hk6 := Kp.ofb hu6
            have hs6 := hk6.size
            replace hE := Ext.kp hE hk6 (fun k hk => by first | omega | (have hk := hk; dsimp only at hk; omega))
            replace h_cps := h_cps.kp hk6 (fun k hk => by first | omega | (have hk := hk; dsimp only at hk; omega))
            try replace hL5 := hL5.go hk6 (fun k hk => by first | omega | (have hk := hk; dsimp only at hk; dsimp only; omega))
            try replace hL105001 := hL105001.go hk6 (fun k hk => by first | omega | (have hk := hk; dsimp only at hk; dsimp only; omega))
            try replace hL105002 := hL105002.go hk6 (fun k hk => by first | omega | (have hk := hk; dsimp only at hk; dsimp only; omega))
            replace hB3 := hB3.kp hk6 (fun hk => by first | omega | (have hk := hk; dsimp only at hk; omega))
            replace hO13 := hO13.kp hk6 (fun k hk => by first | omega | (have hk := hk; dsimp only at hk; omega))
            try replace hL105003 := hL105003.go hk6 (fun k hk => by first | omega | (have hk := hk; dsimp only at hk; dsimp only; omega))
            refine RL_nil (X_then (C_ret (X_retC rfl rfl Try.underlying24 rfl (by kernel_rfl) hB6 ?_)))
            refine ⟨_, _, _, _, _, _, _, rfl, ?_, hO13.fit.more (by omega) (Nat.le_refl _), hE⟩
            exact ⟨by omega, by omega, by omega, by omega⟩
theorem lives05V  {w : World}   :
    Calls Try.prog 21 #[] w fun e w' => ∃ (x0 : Bool), e = .returned (.bool x0) ∧ x0 = (true) ∧ Ext w w' := by
  have hE := Ext.refl w
  refine calls_of (l := []) (N := 6) Try.func21 rfl rfl rfl ?_
  refine C_seq (C_region (RL_q rfl (Yd_assign rfl) (RL_nil (X_then (C_seq (C_region (RL_q rfl (Yd_build Try.bld35 rfl rfl) (RL_q rfl (Yd_build Try.bld35 rfl rfl) (RL_l rfl (Ld_lit Try.underlying22 rfl (lit_flat Try.underlying22 Try.elt35 rfl rfl ⟨rfl, by decide⟩) ?_))))))))))
  intro W1 he1 hz1 hL3
  replace hE := Ext.trans hE he1
  have hO3 := Ow.of_blk (T := tP) (l := [(⟨1, 0, 2⟩ : Pt), (⟨2, 4, 2⟩ : Pt)]) hL3 rfl (n := 2) rfl (by simp [maxLen]) (okc ⟨⟨by dsimp only; omega, by dsimp only; omega⟩, ⟨by dsimp only; omega, by dsimp only; omega⟩, ⟨by dsimp only; omega, by dsimp only; omega⟩⟩ (okc ⟨⟨by dsimp only; omega, by dsimp only; omega⟩, ⟨by dsimp only; omega, by dsimp only; omega⟩, ⟨by dsimp only; omega, by dsimp only; omega⟩⟩ okn))
  clear hL3
  refine RL_q rfl (Yd_build Try.bld24 rfl rfl) (RL_l rfl (Ld_call Try.func20 rfl (by kernel_rfl) rfl (MayV hO3.vw ⟨by omega, by omega, by omega, by omega, by omega, by omega⟩) ?_))
  rintro e W2 ⟨_, rfl, rfl, he2⟩
  refine ⟨_, rfl, ?_⟩
  replace hE := Ext.trans hE he2
  replace hO3 := hO3.ext he2
  have hs2 := he2.size
  refine RL_q rfl (Yd_assign rfl) (RL_nil (X_then (C_ret (X_ret1 rfl rfl ?_))))
  refine ⟨_, rfl, ?_, hE⟩
  all_goals (rfl)
end Go.Proofs.AL
