import Derived.Test.YtikfkmcgdceaoaaFrf
set_option linter.unusedVariables false
set_option linter.unusedSimpArgs false
namespace Go.Proofs.AL
open Go.RowKit

theorem Yd_eqlH {P : Program} {S : World → Prop} {E : Env} {ty t t2 : TypeId} {x y : Operand} {xs ys : List Value} {b : Bool} (hg : P.eqGuardType P.depth t = false) (hx : ev E x = some (.agg xs.toArray)) (hy : ev E y = some (.agg ys.toArray)) (hE : ∀ W, (Op.equalIn 10000 t (.agg xs.toArray) (.agg ys.toArray)).run P W = .ok b W) :
    Yd P S E (.binOp .eql t x y t2) ty (.bool b) := fun N a ha o ho hty W hW => by
  simp only [execOp, ho, ha.ev hx, ha.ev hy]
  simp [run_eqGuard_agg W .eql t x y _ _ hg, run_eql_struct, hE W]
theorem eqZ (W : World) : (Op.equalIn 10000 28 (.agg (frC emptyF).toArray) (.agg (frC emptyF).toArray)).run Try.prog W = .ok true W := by kernel_rfl
set_option maxHeartbeats 4000000 in
theorem FrameZeroV {lo_l B_l : Nat} {A_l : Option Addr} {n_l c_l : Nat} {l : List OH} {page : Int} {lo_b B_b : Nat} {A_b : Option Addr} {n_b c_b : Nat} {b : List Int} {w : World}  (h_l : Vw tO w lo_l B_l A_l n_l c_l l) (b_page : -9223372036854775808 ≤ page ∧ page ≤ 9223372036854775807) (h_b : Vw tU8 w lo_b B_b A_b n_b c_b b) (hvo : VwO w w.heap.size l) :
    Calls Try.prog 8 #[.slice A_l n_l c_l, .int .i64 page, .slice A_b n_b c_b] w fun e w' => ∃ (x0 : Bool), e = .returned (.bool x0) ∧ x0 = (true) ∧ Ext w w' := by
  have hE := Ext.refl w
  replace h_l := h_l.fit
  have hn_l := h_l.ln
  have hc_l := h_l.cap
  have hm_l := h_l.max
  simp only [maxLen] at hm_l
  replace h_b := h_b.fit
  have hn_b := h_b.ln
  have hc_b := h_b.cap
  have hm_b := h_b.max
  simp only [maxLen] at hm_b
  refine calls_of (l := [.slice A_l n_l c_l, .int .i64 page, .slice A_b n_b c_b]) (N := 68) Try.func8 rfl rfl rfl ?_
  refine C_seq (C_region (RL_q rfl (Yd_assign rfl) (RL_nil (X_then (C_seq (C_region (RL_q rfl (Yd_build Try.bld28 rfl rfl) (RL_l rfl (Ld_box rfl ?_)))))))))
  have hg_14 := hE.size
  intro W1 he1 hz1 hB14
  replace hE := Ext.trans hE he1
  replace h_l := h_l.ext he1
  replace h_b := h_b.ext he1
  replace hvo := hvo.ext he1
  replace hB14 : Blk W1 w.heap.size 28 (frC emptyF) := hB14
  have okhB14 := emptyF_ok
  refine RL_q rfl (Yd_assign rfl) (RL_nil (X_then (C_seq (C_seq (C_region (RL_q rfl (Yd_assign rfl) (RL_nil (X_then (C_block (?_))))))))))
  refine C_loop (T := Nat × Fr) (fun ⟨k, f⟩ => [(0, .slice A_l n_l c_l), (1, .int .i64 page), (2, .slice A_b n_b c_b), (6, .bool false), (7, .pointer (some ⟨w.heap.size, 0, none⟩)), (8, .int .i64 (k : Int))]) (fun ⟨k, f⟩ lw1 => Blk lw1 w.heap.size 28 (frC f) ∧ FOk f ∧ (k ≤ n_l) ∧ Kp (fun k => k = w.heap.size) W1 lw1) (fun ⟨k, f⟩ => n_l - k) (⟨0, emptyF⟩) ⟨rfl, rfl, rfl, rfl, rfl, rfl, trivial⟩ ?_ ?_
  · refine ⟨hB14, okhB14, ?_, Kp.refl _ _⟩
    all_goals (try dsimp only)
    all_goals (first | omega | rfl)
  · rintro ⟨k, f⟩ lw1 ⟨hB14, okhB14, hi1_0, hL1⟩
    replace hE := Ext.kp hE hL1 (fun k hk => by first | omega | (have hk := hk; dsimp only at hk; omega))
    replace h_l := h_l.kp hL1 (fun k hk => by first | omega | (have hk := hk; dsimp only at hk; omega))
    replace h_b := h_b.kp hL1 (fun k hk => by first | omega | (have hk := hk; dsimp only at hk; omega))
    replace hvo := hvo.kp hL1 (fun k hk => by first | omega | (have hk := hk; dsimp only at hk; omega))
    have hsL1 := hL1.size
    refine C_seq (C_seq (C_region (RL_q rfl (Yd_move rfl) (RL_q rfl (Yd_move rfl) (RL_q rfl (Yd_len Try.underlying46 rfl) (RL_q rfl (Yd_lss rfl rfl) (RL_q rfl (Yd_move rfl) (?_))))))))
    apply RL_and (dj := 19) 22 3 rfl
    · intro hb19
      try simp only [decide_eq_true_eq, decide_eq_false_iff_not, Bool.not_eq_true', Bool.not_eq_false', Decidable.not_not, Int.not_lt, Int.not_le, Bool.or_eq_true, Bool.and_eq_true, Bool.or_eq_false_iff, Bool.and_eq_false_iff] at hb19
      refine QL_gq rfl rfl rfl (Yd_move rfl) (QL_gq rfl rfl rfl (Yd_lss rfl rfl) (QL_q rfl (Yd_pickT rfl rfl) ((QL_nil 3 rfl rfl rfl))))
    · intro hb19
      try simp only [decide_eq_true_eq, decide_eq_false_iff_not, Bool.not_eq_true', Bool.not_eq_false', Decidable.not_not, Int.not_lt, Int.not_le, Bool.or_eq_true, Bool.and_eq_true, Bool.or_eq_false_iff, Bool.and_eq_false_iff] at hb19
      refine QL_gn rfl rfl rfl rfl (QL_gn rfl rfl rfl rfl (QL_q rfl (Yd_pickF rfl rfl) ((QL_nil 3 rfl rfl rfl))))
    · skip
      refine RL_nil (X_then (?_))
      refine C_cond rfl (fun hb22 => ?_) (fun hb22 => ?_)
      · skip
        try simp only [decide_eq_true_eq, decide_eq_false_iff_not, Bool.not_eq_true', Bool.not_eq_false', Decidable.not_not, Int.not_lt, Int.not_le, Bool.or_eq_true, Bool.and_eq_true, Bool.or_eq_false_iff, Bool.and_eq_false_iff] at hb22
        refine C_skip (X_then (C_seq (C_block (C_region (RL_q rfl (Yd_move rfl) (RL_q rfl (Yd_move rfl) (RL_q rfl (Yd_move rfl) (?_))))))))
        obtain ⟨adA_l, rfl, hghA_l, hglA_l⟩ := Vw.at_ (i := k) h_l (by omega)
        refine RL_q rfl (Yd_idx Try.underlying46 (sz := 5) (by kernel_rfl) rfl rfl (by omega) (by omega)) (?_)
        obtain ⟨x1, hx1, gx1⟩ := Vw.elem (i := k) h_l (by omega)
        replace gx1 : OB x1 := gx1
        refine RL_q rfl (Yd_loadA (cs := [.int .i64 x1.op, .int .i64 x1.pg, .int .i64 x1.off, .int .i64 x1.n, .slice x1.A x1.ln x1.c]) Try.underlying51 rfl (by kernel_rfl) rfl (Vw.lqA h_l hx1 rfl rfl)) (?_)
        obtain ⟨lx1, hvx1⟩ := hvo _ (List.mem_of_getElem? hx1)
        refine RL_l rfl (Ld_call Try.func30 rfl (by kernel_rfl) rfl (doV (f := f) hB14 okhB14 (o := x1) (bs := lx1) hvx1 gx1 (by omega)) ?_)
        rintro e W2 ⟨rfl, hyb30, hB14n, hk2⟩
        refine ⟨_, rfl, ?_⟩
        have hs2 := hk2.size
        replace hE := Ext.kp hE hk2 (fun k hk => by first | omega | (have hk := hk; dsimp only at hk; omega))
        replace h_l := h_l.kp hk2 (fun k hk => by first | omega | (have hk := hk; dsimp only at hk; omega))
        replace h_b := h_b.kp hk2 (fun k hk => by first | omega | (have hk := hk; dsimp only at hk; omega))
        replace hvo := hvo.kp hk2 (fun k hk => by first | omega | (have hk := hk; dsimp only at hk; omega))
        try replace hL1 := hL1.go hk2 (fun k hk => by first | omega | (have hk := hk; dsimp only at hk; dsimp only; omega))
        replace hvx1 := hvx1.kp hk2 (fun k hk => by first | omega | (have hk := hk; dsimp only at hk; omega))
        replace hB14 := hB14n
        replace okhB14 : FOk (doF f x1 lx1).2.2 := doF_ok okhB14 hvx1.byt
        refine RL_nil (X_block (X_then (C_region (RL_q rfl (Yd_move rfl) (RL_q rfl (Yd_add rfl rfl (i64w (by omega) (by omega))) (RL_q rfl (Yd_assign rfl) (RL_nil (?_))))))))
        refine X_again (⟨k + 1, (doF f x1 lx1).2.2⟩) ⟨rfl, rfl, rfl, rfl, rfl, rfl, trivial⟩ ?_ (by show n_l - (k + 1) < n_l - k; omega)
        refine ⟨hB14, okhB14, ?_, hL1⟩
        all_goals (try dsimp only)
        all_goals (first | omega | rfl)
      · skip
        try simp only [decide_eq_true_eq, decide_eq_false_iff_not, Bool.not_eq_true', Bool.not_eq_false', Decidable.not_not, Int.not_lt, Int.not_le, Bool.or_eq_true, Bool.and_eq_true, Bool.or_eq_false_iff, Bool.and_eq_false_iff] at hb22
        refine C_exit (X_thenE (X_thenE (X_blockE (X_then (C_seq (C_region (RL_q rfl (Yd_move rfl) (RL_l rfl (Ld_call Try.func21 rfl (by kernel_rfl) rfl (FillV h_b ⟨by first | omega | (dsimp only; omega), by first | omega | (dsimp only; omega)⟩) ?_)))))))))
        rintro e W2 ⟨A32, n32, c32, rfl, hF32, hfl32, he2⟩
        refine ⟨_, rfl, ?_⟩
        replace hE := Ext.trans hE he2
        replace h_l := h_l.ext he2
        replace h_b := h_b.ext he2
        replace hvo := hvo.ext he2
        replace hL1 := Kp.go hL1 (Kp.of_ext (G := NoB) he2) (fun _ h => h.elim)
        replace hB14 := hB14.ext he2
        have hs2 := he2.size
        have hn32 := hF32.ln
        try simp only [List.length_append, List.length_cons, List.length_nil, List.length_set, List.length_take, List.length_drop, List.length_replicate, List.length_map, Nat.zero_add, Nat.add_zero] at hn32
        have hc32 := hF32.cap
        rw [fill_len] at hn32
        have hn32' : n32 = 32 := hn32.symm
        refine RL_q rfl (Yd_assign rfl) (RL_nil (X_then (C_seq (C_region (RL_q rfl (Yd_move rfl) (RL_q rfl (Yd_move rfl) (RL_q rfl (Yd_move rfl) (RL_l rfl (Ld_call Try.func17 rfl (by kernel_rfl) rfl (LoadV (f := f) hB14 okhB14 ⟨by first | omega | (dsimp only; omega), by first | omega | (dsimp only; omega)⟩ hF32.vw) ?_)))))))))
        rintro e W3 ⟨rfl, hB14n, hk3⟩
        refine ⟨_, rfl, ?_⟩
        have hs3 := hk3.size
        replace hE := Ext.kp hE hk3 (fun k hk => by first | omega | (have hk := hk; dsimp only at hk; omega))
        replace h_l := h_l.kp hk3 (fun k hk => by first | omega | (have hk := hk; dsimp only at hk; omega))
        replace h_b := h_b.kp hk3 (fun k hk => by first | omega | (have hk := hk; dsimp only at hk; omega))
        replace hvo := hvo.kp hk3 (fun k hk => by first | omega | (have hk := hk; dsimp only at hk; omega))
        try replace hL1 := hL1.go hk3 (fun k hk => by first | omega | (have hk := hk; dsimp only at hk; dsimp only; omega))
        replace hF32 := hF32.kp hk3 (fun k hk => by first | omega | (have hk := hk; dsimp only at hk; omega))
        replace hB14 := hB14n
        replace okhB14 : FOk ((loadF f page (fill b (32 : Int).toNat)).2) := loadF_ok okhB14 hF32.vw.byt
        rw [loadF_32 (by simp)] at hB14 okhB14
        refine RL_q rfl (Yd_assign rfl) (RL_nil (X_then (C_seq (C_region (RL_q rfl (Yd_move rfl) (RL_l rfl (Ld_call Try.func27 rfl (by kernel_rfl) rfl (asFV (f := (⟨true, false, false, 0, page, (fill b (32 : Int).toNat)⟩ : Fr)) hB14 okhB14) ?_)))))))
        rintro e W4 ⟨rfl, he4⟩
        refine ⟨_, rfl, ?_⟩
        replace hE := Ext.trans hE he4
        replace h_l := h_l.ext he4
        replace h_b := h_b.ext he4
        replace hvo := hvo.ext he4
        replace hL1 := Kp.go hL1 (Kp.of_ext (G := NoB) he4) (fun _ h => h.elim)
        replace hB14 := hB14.ext he4
        replace hF32 := hF32.ext he4
        have hs4 := he4.size
        have hyb38 : Byt (⟨true, false, false, 0, page, (fill b (32 : Int).toNat)⟩ : Fr).b := okhB14.hy
        refine RL_l rfl (Ld_alloc (v := (.agg #[(.bool false), (.bool false), (.bool false), (.int .i64 0), (.int .i64 0), (.string ⟨#[]⟩)])) (by kernel_rfl) ?_)
        have hg_11 := hE.size
        intro W5 he5 hz5 hB11
        replace hE := Ext.trans hE he5
        replace h_l := h_l.ext he5
        replace h_b := h_b.ext he5
        replace hvo := hvo.ext he5
        replace hL1 := Kp.go hL1 (Kp.of_ext (G := NoB) he5) (fun _ h => h.elim)
        replace hB14 := hB14.ext he5
        replace hF32 := hF32.ext he5
        refine RL_l0 (Ld_store (by kernel_rfl) rfl rfl hB11 (Nat.le_of_ble_eq_true rfl) (by simp [cellsL, Value.cells, Value.oneCell']) ?_)
        intro W6 hu6 hz6 hB11
        have hk6 := Kp.ofb hu6
        have hs6 := hk6.size
        replace hE := Ext.kp hE hk6 (fun k hk => by first | omega | (have hk := hk; dsimp only at hk; omega))
        replace h_l := h_l.kp hk6 (fun k hk => by first | omega | (have hk := hk; dsimp only at hk; omega))
        replace h_b := h_b.kp hk6 (fun k hk => by first | omega | (have hk := hk; dsimp only at hk; omega))
        replace hvo := hvo.kp hk6 (fun k hk => by first | omega | (have hk := hk; dsimp only at hk; omega))
        try replace hL1 := hL1.go hk6 (fun k hk => by first | omega | (have hk := hk; dsimp only at hk; dsimp only; omega))
        replace hB14 := hB14.kp hk6 (fun hk => by first | omega | (have hk := hk; dsimp only at hk; omega))
        replace hF32 := hF32.kp hk6 (fun k hk => by first | omega | (have hk := hk; dsimp only at hk; omega))
        refine RL_nil (X_then (C_seq (C_region (RL_q rfl (Yd_move rfl) (RL_l rfl (Ld_call Try.func31 rfl (by kernel_rfl) rfl (ZeroFV (f := (⟨true, false, false, 0, page, (fill b (32 : Int).toNat)⟩ : Fr)) hB14 okhB14) ?_))))))
        rintro e W7 ⟨rfl, hB14n, hk7⟩
        refine ⟨_, rfl, ?_⟩
        have hs7 := hk7.size
        replace hE := Ext.kp hE hk7 (fun k hk => by first | omega | (have hk := hk; dsimp only at hk; omega))
        replace h_l := h_l.kp hk7 (fun k hk => by first | omega | (have hk := hk; dsimp only at hk; omega))
        replace h_b := h_b.kp hk7 (fun k hk => by first | omega | (have hk := hk; dsimp only at hk; omega))
        replace hvo := hvo.kp hk7 (fun k hk => by first | omega | (have hk := hk; dsimp only at hk; omega))
        try replace hL1 := hL1.go hk7 (fun k hk => by first | omega | (have hk := hk; dsimp only at hk; dsimp only; omega))
        replace hF32 := hF32.kp hk7 (fun k hk => by first | omega | (have hk := hk; dsimp only at hk; omega))
        replace hB11 := hB11.kp hk7 (fun hk => by first | omega | (have hk := hk; dsimp only at hk; omega))
        replace hB14 := hB14n
        replace okhB14 : FOk emptyF := emptyF_ok
        refine RL_nil (X_then (C_seq (C_region (RL_q rfl (Yd_move rfl) (RL_l rfl (Ld_call Try.func27 rfl (by kernel_rfl) rfl (asFV (f := emptyF) hB14 okhB14) ?_))))))
        rintro e W8 ⟨rfl, he8⟩
        refine ⟨_, rfl, ?_⟩
        replace hE := Ext.trans hE he8
        replace h_l := h_l.ext he8
        replace h_b := h_b.ext he8
        replace hvo := hvo.ext he8
        replace hL1 := Kp.go hL1 (Kp.of_ext (G := NoB) he8) (fun _ h => h.elim)
        replace hB14 := hB14.ext he8
        replace hF32 := hF32.ext he8
        replace hB11 := hB11.ext he8
        have hs8 := he8.size
        have hyb42 : Byt emptyF.b := okhB14.hy
        refine RL_l rfl (Ld_alloc (v := (.agg #[(.bool false), (.bool false), (.bool false), (.int .i64 0), (.int .i64 0), (.string ⟨#[]⟩)])) (by kernel_rfl) ?_)
        have hg_12 := hE.size
        intro W9 he9 hz9 hB12
        replace hE := Ext.trans hE he9
        replace h_l := h_l.ext he9
        replace h_b := h_b.ext he9
        replace hvo := hvo.ext he9
        replace hL1 := Kp.go hL1 (Kp.of_ext (G := NoB) he9) (fun _ h => h.elim)
        replace hB14 := hB14.ext he9
        replace hF32 := hF32.ext he9
        replace hB11 := hB11.ext he9
        refine RL_l0 (Ld_store (by kernel_rfl) rfl rfl hB12 (Nat.le_of_ble_eq_true rfl) (by simp [cellsL, Value.cells, Value.oneCell']) ?_)
        intro W10 hu10 hz10 hB12
        have hk10 := Kp.ofb hu10
        have hs10 := hk10.size
        replace hE := Ext.kp hE hk10 (fun k hk => by first | omega | (have hk := hk; dsimp only at hk; omega))
        replace h_l := h_l.kp hk10 (fun k hk => by first | omega | (have hk := hk; dsimp only at hk; omega))
        replace h_b := h_b.kp hk10 (fun k hk => by first | omega | (have hk := hk; dsimp only at hk; omega))
        replace hvo := hvo.kp hk10 (fun k hk => by first | omega | (have hk := hk; dsimp only at hk; omega))
        try replace hL1 := hL1.go hk10 (fun k hk => by first | omega | (have hk := hk; dsimp only at hk; dsimp only; omega))
        replace hB14 := hB14.kp hk10 (fun hk => by first | omega | (have hk := hk; dsimp only at hk; omega))
        replace hF32 := hF32.kp hk10 (fun k hk => by first | omega | (have hk := hk; dsimp only at hk; omega))
        replace hB11 := hB11.kp hk10 (fun hk => by first | omega | (have hk := hk; dsimp only at hk; omega))
        refine RL_nil (X_then (C_seq (?_)))
        refine C_regionD (NoB) (l := [(0, true), (1, true), (2, true), (3, true), (4, true), (5, true), (6, true), (7, true), (8, true), (9, true), (10, true), (11, true), (12, false), (13, true), (14, true), (15, true), (16, true), (17, true), (18, true), (19, true), (20, true), (21, true), (22, true), (23, false), (24, true), (25, true)]) (by kernel_rfl) (by kernel_rfl) rfl (by kernel_rfl) (fun _ _ d _ _ h => by cases d <;> exact h) ?_
        intro W11 he11 hh11
        replace hE := Ext.trans hE he11
        replace h_l := h_l.ext he11
        replace h_b := h_b.ext he11
        replace hvo := hvo.ext he11
        replace hL1 := Kp.go hL1 (Kp.of_ext (G := NoB) he11) (fun _ h => h.elim)
        replace hB14 := hB14.ext he11
        replace hF32 := hF32.ext he11
        replace hB11 := hB11.ext he11
        replace hB12 := hB12.ext he11
        have hs11 := he11.size
        refine RO_q rfl rfl (Yd_move rfl) (RO_q rfl rfl (Yd_eql rfl rfl) (RO_q rfl rfl (Yd_move rfl) (?_)))
        refine RO_is (d := 45) (b' := true) rfl (by rw [loadF_32 (by simp)]; rfl) ?_
        refine RO_gq rfl rfl rfl rfl (Yd_loadA Try.underlying43 rfl (by kernel_rfl) rfl (fun W hW => (ldBA hB11) W hW.ext)) (RO_gq rfl rfl rfl rfl (Yd_move rfl) (RO_gq rfl rfl rfl rfl (Yd_move rfl) (RO_gq rfl rfl rfl rfl (Yd_str Try.underlying32 Try.underlying5 Try.underlying9 rfl (fun W hW => Rd.ext (hF32.vw).u8 hW.ext)) (RO_gq rfl rfl rfl rfl (Yd_build Try.bld43 rfl rfl) (RO_gq rfl rfl rfl rfl (Yd_eqlA Try.underlying43 (by kernel_rfl) (by kernel_rfl) (tb := [(false, 0, 1), (false, 1, 1), (false, 2, 1), (false, 3, 0), (false, 4, 0), (false, 5, 2)]) (by kernel_rfl) rfl rfl rfl (Fr_eqr (⟨(⟨true, false, false, 0, page, (fill b (32 : Int).toNat)⟩ : Fr).u, (⟨true, false, false, 0, page, (fill b (32 : Int).toNat)⟩ : Fr).d, (⟨true, false, false, 0, page, (fill b (32 : Int).toNat)⟩ : Fr).r, (⟨true, false, false, 0, page, (fill b (32 : Int).toNat)⟩ : Fr).pins, (⟨true, false, false, 0, page, (fill b (32 : Int).toNat)⟩ : Fr).page, (⟨true, false, false, 0, page, (fill b (32 : Int).toNat)⟩ : Fr).b⟩ : Fr) (⟨true, false, false, 0, page, (fill b (32 : Int).toNat)⟩ : Fr))) (RO_q rfl rfl (Yd_pickT rfl rfl) (RO_q rfl rfl (Yd_move rfl) (?_))))))))
        refine RO_is (d := 53) (b' := true) rfl (frEq_self _) ?_
        refine RO_gq rfl rfl rfl rfl (Yd_loadA Try.underlying43 rfl (by kernel_rfl) rfl (fun W hW => (ldBA hB12) W hW.ext)) (RO_gl rfl rfl rfl rfl (Ld_call Try.func28 rfl (by kernel_rfl) rfl (EmptyV ) ?_))
        rintro e W12 ⟨rfl, he12⟩
        refine ⟨_, rfl, ?_⟩
        refine ⟨Kp.of_ext he12, ?_⟩
        replace hE := Ext.trans hE he12
        replace h_l := h_l.ext he12
        replace h_b := h_b.ext he12
        replace hvo := hvo.ext he12
        replace hL1 := Kp.go hL1 (Kp.of_ext (G := NoB) he12) (fun _ h => h.elim)
        replace hB14 := hB14.ext he12
        replace hF32 := hF32.ext he12
        replace hB11 := hB11.ext he12
        replace hB12 := hB12.ext he12
        have hs12 := he12.size
        refine RO_gq rfl rfl rfl rfl (Yd_eqlA Try.underlying43 (by kernel_rfl) (by kernel_rfl) (tb := [(false, 0, 1), (false, 1, 1), (false, 2, 1), (false, 3, 0), (false, 4, 0), (false, 5, 2)]) (by kernel_rfl) rfl rfl rfl (Fr_eqr (⟨emptyF.u, emptyF.d, emptyF.r, emptyF.pins, emptyF.page, emptyF.b⟩ : Fr) (⟨emptyF.u, emptyF.d, emptyF.r, emptyF.pins, emptyF.page, emptyF.b⟩ : Fr))) (RO_q rfl rfl (Yd_pickT rfl rfl) (RO_q rfl rfl (Yd_move rfl) (?_)))
        refine RO_is (d := 58) (b' := true) rfl (frEq_self _) ?_
        refine RO_gq rfl rfl rfl rfl (Yd_move rfl) (RO_gq rfl rfl rfl rfl (Yd_nil rfl) (RO_gq rfl rfl rfl rfl (Yd_loadA (cs := frC emptyF) Try.underlying28 rfl (by kernel_rfl) rfl (fun W hW => ldBA hB14 W hW.ext)) (RO_gq rfl rfl rfl rfl (Yd_build Try.bld28 rfl rfl) (RO_gq rfl rfl rfl rfl (Yd_eqlH (xs := frC emptyF) (ys := frC emptyF) (by kernel_rfl) rfl rfl eqZ) (RO_q rfl rfl (Yd_pickT rfl rfl) (RO_q rfl rfl (Yd_move rfl) (?_)))))))
        refine RO_is (d := 65) (b' := true) rfl (by rfl) ?_
        refine RO_gl rfl rfl rfl rfl (Ld_call Try.func20 rfl (by kernel_rfl) rfl (lives12V ) ?_)
        rintro e W13 ⟨_, rfl, rfl, he13⟩
        refine ⟨_, rfl, ?_⟩
        refine ⟨Kp.of_ext he13, ?_⟩
        replace hE := Ext.trans hE he13
        replace h_l := h_l.ext he13
        replace h_b := h_b.ext he13
        replace hvo := hvo.ext he13
        replace hL1 := Kp.go hL1 (Kp.of_ext (G := NoB) he13) (fun _ h => h.elim)
        replace hB14 := hB14.ext he13
        replace hF32 := hF32.ext he13
        replace hB11 := hB11.ext he13
        replace hB12 := hB12.ext he13
        have hs13 := he13.size
        refine RO_q rfl rfl (Yd_pickT rfl rfl) (RO_q rfl rfl (Yd_assign rfl) (RO_nil (X_then (C_ret (X_ret1 rfl rfl ?_)))))
        refine ⟨_, rfl, ?_, hE⟩
        all_goals (first | rfl | omega | simp)
end Go.Proofs.AL
