import Derived.Test.YtikfkmcgdceaoaaFrh
set_option linter.unusedVariables false
set_option linter.unusedSimpArgs false
namespace Go.Proofs.AL
open Go.RowKit
set_option maxHeartbeats 8000000 in
theorem FramePlaysV {lo_l B_l : Nat} {A_l : Option Addr} {n_l c_l : Nat} {l : List OH} {w : World}  (h_l : Vw tO w lo_l B_l A_l n_l c_l l) (hvo : VwO w w.heap.size l) :
    Calls Try.prog 7 #[.slice A_l n_l c_l] w fun e w' => ∃ (x0 : Bool), e = .returned (.bool x0) ∧ x0 = (true) ∧ Ext w w' := by
  have hE := Ext.refl w
  replace h_l := h_l.fit
  have hn_l := h_l.ln
  have hc_l := h_l.cap
  have hm_l := h_l.max
  simp only [maxLen] at hm_l
  refine calls_of (l := [.slice A_l n_l c_l]) (N := 69) Try.func7 rfl rfl rfl ?_
  refine C_seq (C_region (RL_q rfl (Yd_assign rfl) (RL_nil (X_then (C_seq (C_region (RL_q rfl (Yd_build Try.bld28 rfl rfl) (RL_l rfl (Ld_box rfl ?_)))))))))
  have hg_12 := hE.size
  intro W1 he1 hz1 hB12
  replace hE := Ext.trans hE he1
  replace h_l := h_l.ext he1
  replace hvo := hvo.ext he1
  replace hB12 : Blk W1 w.heap.size 28 (frC emptyF) := hB12
  have okhB12 := emptyF_ok
  refine RL_q rfl (Yd_assign rfl) (RL_nil (X_then (C_seq (C_region (RL_l rfl (Ld_call Try.func28 rfl (by kernel_rfl) rfl (EmptyV ) ?_))))))
  rintro e W2 ⟨rfl, he2⟩
  refine ⟨_, rfl, ?_⟩
  replace hE := Ext.trans hE he2
  replace h_l := h_l.ext he2
  replace hvo := hvo.ext he2
  replace hB12 := hB12.ext he2
  have hs2 := he2.size
  refine RL_l rfl (Ld_alloc (v := (.agg #[(.bool false), (.bool false), (.bool false), (.int .i64 0), (.int .i64 0), (.string ⟨#[]⟩)])) (by kernel_rfl) ?_)
  have hg_4 := hE.size
  intro W3 he3 hz3 hB4
  replace hE := Ext.trans hE he3
  replace h_l := h_l.ext he3
  replace hvo := hvo.ext he3
  replace hB12 := hB12.ext he3
  refine RL_l0 (Ld_store (by kernel_rfl) rfl rfl hB4 (Nat.le_of_ble_eq_true rfl) (by simp [cellsL, Value.cells, Value.oneCell']) ?_)
  intro W4 hu4 hz4 hB4
  have hk4 := Kp.ofb hu4
  have hs4 := hk4.size
  replace hE := Ext.kp hE hk4 (fun k hk => by first | omega | (have hk := hk; dsimp only at hk; omega))
  replace h_l := h_l.kp hk4 (fun k hk => by first | omega | (have hk := hk; dsimp only at hk; omega))
  replace hvo := hvo.kp hk4 (fun k hk => by first | omega | (have hk := hk; dsimp only at hk; omega))
  replace hB12 := hB12.kp hk4 (fun hk => by first | omega | (have hk := hk; dsimp only at hk; omega))
  refine RL_nil (X_then (C_seq (C_seq (C_region (RL_q rfl (Yd_assign rfl) (RL_nil (X_then (C_block (?_)))))))))
  refine C_loop (T := Nat × Fr) (fun ⟨k, f⟩ => [(0, .slice A_l n_l c_l), (3, .pointer (some ⟨w.heap.size, 0, none⟩)), (4, .pointer (some ⟨W2.heap.size, 0, none⟩)), (5, .int .i64 (k : Int))]) (fun ⟨k, f⟩ lw4 => Blk lw4 w.heap.size 28 (frC f) ∧ FOk f ∧ Blk lw4 W2.heap.size 43 [.bool f.u, .bool f.d, .bool f.r, .int .i64 f.pins, .int .i64 f.page, .string (strOfNums f.b)] ∧ (k ≤ n_l) ∧ Kp (fun k => k = w.heap.size ∨ k = W2.heap.size) W4 lw4) (fun ⟨k, f⟩ => n_l - k) (⟨0, emptyF⟩) ⟨rfl, rfl, rfl, rfl, trivial⟩ ?_ ?_
  · refine ⟨hB12, okhB12, hB4, ?_, Kp.refl _ _⟩
    all_goals (try dsimp only)
    all_goals (first | omega | rfl)
  · rintro ⟨k, f⟩ lw4 ⟨hB12, okhB12, hB4, hi4_0, hL4⟩
    replace hE := Ext.kp hE hL4 (fun k hk => by first | omega | (have hk := hk; dsimp only at hk; omega))
    replace h_l := h_l.kp hL4 (fun k hk => by first | omega | (have hk := hk; dsimp only at hk; omega))
    replace hvo := hvo.kp hL4 (fun k hk => by first | omega | (have hk := hk; dsimp only at hk; omega))
    have hsL4 := hL4.size
    refine C_seq (C_seq (C_region (RL_q rfl (Yd_move rfl) (RL_q rfl (Yd_move rfl) (RL_q rfl (Yd_len Try.underlying46 rfl) (RL_q rfl (Yd_lss rfl rfl) (RL_q rfl (Yd_move rfl) (?_))))))))
    apply RL_and (dj := 18) 21 3 rfl
    · intro hb18
      try simp only [decide_eq_true_eq, decide_eq_false_iff_not, Bool.not_eq_true', Bool.not_eq_false', Decidable.not_not, Int.not_lt, Int.not_le, Bool.or_eq_true, Bool.and_eq_true, Bool.or_eq_false_iff, Bool.and_eq_false_iff] at hb18
      refine QL_gq rfl rfl rfl (Yd_move rfl) (QL_gq rfl rfl rfl (Yd_lss rfl rfl) (QL_q rfl (Yd_pickT rfl rfl) ((QL_nil 3 rfl rfl rfl))))
    · intro hb18
      try simp only [decide_eq_true_eq, decide_eq_false_iff_not, Bool.not_eq_true', Bool.not_eq_false', Decidable.not_not, Int.not_lt, Int.not_le, Bool.or_eq_true, Bool.and_eq_true, Bool.or_eq_false_iff, Bool.and_eq_false_iff] at hb18
      refine QL_gn rfl rfl rfl rfl (QL_gn rfl rfl rfl rfl (QL_q rfl (Yd_pickF rfl rfl) ((QL_nil 3 rfl rfl rfl))))
    · skip
      refine RL_nil (X_then (?_))
      refine C_cond rfl (fun hb21 => ?_) (fun hb21 => ?_)
      · skip
        try simp only [decide_eq_true_eq, decide_eq_false_iff_not, Bool.not_eq_true', Bool.not_eq_false', Decidable.not_not, Int.not_lt, Int.not_le, Bool.or_eq_true, Bool.and_eq_true, Bool.or_eq_false_iff, Bool.and_eq_false_iff] at hb21
        refine C_skip (X_then (C_seq (C_block (C_seq (?_)))))
        refine C_regionP (fun k => lw4.heap.size ≤ k) (p := (.q 0 (.q 1 (.q 2 (.q 3 (.q 4 (.two 5 10 (.q 6 (.q 7 (.q 8 (.q 9 (.l 10 (.l 11 (.q 12 (.q 13 .nil)))))))) (.l 5 (.q 6 (.q 7 (.q 8 (.q 9 (.l 11 (.q 12 (.q 13 .nil))))))))))))))) (by kernel_rfl) (by kernel_rfl) rfl (by kernel_rfl) (fun _ _ d _ _ h => by cases d <;> exact h) ?_
        intro W5 he5 hh5
        replace hE := Ext.trans hE he5
        replace h_l := h_l.ext he5
        replace hvo := hvo.ext he5
        replace hL4 := Kp.go hL4 (Kp.of_ext (G := NoB) he5) (fun _ h => h.elim)
        replace hB4 := hB4.ext he5
        replace hB12 := hB12.ext he5
        have hs5 := he5.size
        refine RP_q rfl rfl (Yd_loadA (cs := [.bool f.u, .bool f.d, .bool f.r, .int .i64 f.pins, .int .i64 f.page, .string (strOfNums f.b)]) Try.underlying43 rfl (by kernel_rfl) rfl (fun W hW => ldBS (Blk.kp hB4 hW (fun hk => by first | omega | (have hk := hk; dsimp only at hk; omega))) 0 [.bool f.u, .bool f.d, .bool f.r, .int .i64 f.pins, .int .i64 f.page, .string (strOfNums f.b)] rfl W (Ext.refl W))) (RP_q rfl rfl (Yd_move rfl) (RP_q rfl rfl (Yd_move rfl) (?_)))
        obtain ⟨adA_l, rfl, hghA_l, hglA_l⟩ := Vw.at_ (i := k) h_l (by omega)
        refine RP_q rfl rfl (Yd_idx Try.underlying46 (sz := 5) (by kernel_rfl) rfl rfl (by omega) (by omega)) (?_)
        obtain ⟨x1, hx1, gx1⟩ := Vw.elem (i := k) h_l (by omega)
        replace gx1 : OB x1 := gx1
        refine RP_q rfl rfl (Yd_loadA (cs := [.int .i64 x1.op, .int .i64 x1.pg, .int .i64 x1.off, .int .i64 x1.n, .slice x1.A x1.ln x1.c]) Try.underlying51 rfl (by kernel_rfl) rfl (fun W hW => (Vw.lqA (Vw.kp h_l hW (fun k hk => by first | omega | (have hk := hk; dsimp only at hk; omega))) hx1 rfl rfl) W (Ext.refl W))) (?_)
        obtain ⟨lx1, hvx1⟩ := hvo _ (List.mem_of_getElem? hx1)
        refine RP_two rfl rfl ?_ ?_
        · skip
          refine RPl_l rfl (Ld_call Try.func29 rfl (by kernel_rfl) rfl (refDoV (f := f) (by assumption) (o := x1) (bs := lx1) hvx1 gx1) ?_)
          rintro e W6 ⟨rfl, hyb30, he6⟩
          refine ⟨_, rfl, ?_⟩
          refine ⟨Kp.of_ext he6, ?_⟩
          replace hE := Ext.trans hE he6
          replace h_l := h_l.ext he6
          replace hvo := hvo.ext he6
          replace hL4 := Kp.go hL4 (Kp.of_ext (G := NoB) he6) (fun _ h => h.elim)
          replace hB4 := hB4.ext he6
          replace hB12 := hB12.ext he6
          replace hvx1 := hvx1.ext he6
          have hs6 := he6.size
          have okr30 : FOk ((doF f x1 lx1).2.2) := doF_ok (by assumption) hvx1.byt
          refine RP_q rfl rfl (Yd_move rfl) (RP_q rfl rfl (Yd_extract rfl rfl) (RP_q rfl rfl (Yd_extract rfl rfl) (RP_q rfl rfl (Yd_extract rfl rfl) (RP_loud rfl (RPl_l rfl (Ld_alloc (v := (.agg #[(.bool false), (.bool false), (.bool false), (.int .i64 0), (.int .i64 0), (.string ⟨#[]⟩)])) (by kernel_rfl) ?_))))))
          have hg_6 := hE.size
          intro W7 he7 hz7 hB6
          refine ⟨Kp.of_ext he7, ?_⟩
          replace hE := Ext.trans hE he7
          replace h_l := h_l.ext he7
          replace hvo := hvo.ext he7
          replace hL4 := Kp.go hL4 (Kp.of_ext (G := NoB) he7) (fun _ h => h.elim)
          replace hB4 := hB4.ext he7
          replace hB12 := hB12.ext he7
          replace hvx1 := hvx1.ext he7
          refine RP_loud rfl (RPl_l0 (Ld_store (by kernel_rfl) rfl rfl hB6 (Nat.le_of_ble_eq_true rfl) (by simp [cellsL, Value.cells, Value.oneCell']) ?_))
          intro W8 hu8 hz8 hB6
          refine ⟨Kp.of_but hu8 (by first | rfl | omega | (dsimp only; omega)), ?_⟩
          have hk8 := Kp.ofb hu8
          have hs8 := hk8.size
          replace hE := Ext.kp hE hk8 (fun k hk => by first | omega | (have hk := hk; dsimp only at hk; omega))
          replace h_l := h_l.kp hk8 (fun k hk => by first | omega | (have hk := hk; dsimp only at hk; omega))
          replace hvo := hvo.kp hk8 (fun k hk => by first | omega | (have hk := hk; dsimp only at hk; omega))
          try replace hL4 := hL4.go hk8 (fun k hk => by first | omega | (have hk := hk; dsimp only at hk; dsimp only; omega))
          replace hB4 := hB4.kp hk8 (fun hk => by first | omega | (have hk := hk; dsimp only at hk; omega))
          replace hB12 := hB12.kp hk8 (fun hk => by first | omega | (have hk := hk; dsimp only at hk; omega))
          replace hvx1 := hvx1.kp hk8 (fun k hk => by first | omega | (have hk := hk; dsimp only at hk; omega))
          refine RP_q rfl rfl (Yd_assign rfl) (RP_q rfl rfl (Yd_assign rfl) (RP_nil (X_then (C_seq (C_region (RL_q rfl (Yd_loadA Try.underlying43 rfl (by kernel_rfl) rfl (ldBA hB6)) (RL_l0 (Ld_store (by kernel_rfl) rfl rfl hB4 (Nat.le_of_ble_eq_true rfl) (by simp [cellsL, Value.cells, Value.oneCell']) ?_))))))))
          intro W9 hu9 hz9 hB4
          have hk9 := Kp.ofb hu9
          have hs9 := hk9.size
          replace hE := Ext.kp hE hk9 (fun k hk => by first | omega | (have hk := hk; dsimp only at hk; omega))
          replace h_l := h_l.kp hk9 (fun k hk => by first | omega | (have hk := hk; dsimp only at hk; omega))
          replace hvo := hvo.kp hk9 (fun k hk => by first | omega | (have hk := hk; dsimp only at hk; omega))
          try replace hL4 := hL4.go hk9 (fun k hk => by first | omega | (have hk := hk; dsimp only at hk; dsimp only; omega))
          replace hB12 := hB12.kp hk9 (fun hk => by first | omega | (have hk := hk; dsimp only at hk; omega))
          replace hvx1 := hvx1.kp hk9 (fun k hk => by first | omega | (have hk := hk; dsimp only at hk; omega))
          replace hB6 := hB6.kp hk9 (fun hk => by first | omega | (have hk := hk; dsimp only at hk; omega))
          refine RL_nil (X_then (C_seq (C_region (RL_q rfl (Yd_move rfl) (RL_q rfl (Yd_move rfl) (RL_q rfl (Yd_move rfl) (RL_q rfl (Yd_idx Try.underlying46 (sz := 5) (by kernel_rfl) rfl rfl (by omega) (by omega)) (RL_q rfl (Yd_loadA (cs := [.int .i64 x1.op, .int .i64 x1.pg, .int .i64 x1.off, .int .i64 x1.n, .slice x1.A x1.ln x1.c]) Try.underlying51 rfl (by kernel_rfl) rfl (Vw.lqA h_l hx1 rfl rfl)) (RL_l rfl (Ld_call Try.func30 rfl (by kernel_rfl) rfl (doV (f := f) hB12 okhB12 (o := x1) (bs := lx1) hvx1 gx1 (by omega)) ?_))))))))))
          rintro e W10 ⟨rfl, hyb41, hB12n, hk10⟩
          refine ⟨_, rfl, ?_⟩
          have hs10 := hk10.size
          replace hE := Ext.kp hE hk10 (fun k hk => by first | omega | (have hk := hk; dsimp only at hk; omega))
          replace h_l := h_l.kp hk10 (fun k hk => by first | omega | (have hk := hk; dsimp only at hk; omega))
          replace hvo := hvo.kp hk10 (fun k hk => by first | omega | (have hk := hk; dsimp only at hk; omega))
          try replace hL4 := hL4.go hk10 (fun k hk => by first | omega | (have hk := hk; dsimp only at hk; dsimp only; omega))
          replace hB4 := hB4.kp hk10 (fun hk => by first | omega | (have hk := hk; dsimp only at hk; omega))
          replace hvx1 := hvx1.kp hk10 (fun k hk => by first | omega | (have hk := hk; dsimp only at hk; omega))
          replace hB6 := hB6.kp hk10 (fun hk => by first | omega | (have hk := hk; dsimp only at hk; omega))
          replace hB12 := hB12n
          replace okhB12 : FOk (doF f x1 lx1).2.2 := doF_ok okhB12 hvx1.byt
          refine RL_q rfl (Yd_move rfl) (RL_q rfl (Yd_extract rfl rfl) (RL_q rfl (Yd_extract rfl rfl) (RL_q rfl (Yd_assign rfl) (RL_q rfl (Yd_assign rfl) (RL_nil (X_then (C_seq (?_))))))))
          refine C_regionD (NoB) (l := [(0, true), (1, true), (2, true), (3, true), (4, true), (5, true), (6, true), (7, true), (8, true), (9, true), (11, true), (10, false), (12, true), (13, true), (14, true), (15, true), (16, true), (17, true), (19, true), (20, true), (21, true), (18, false), (22, true), (23, true)]) (by kernel_rfl) (by kernel_rfl) rfl (by kernel_rfl) (fun _ _ d _ _ h => by cases d <;> exact h) ?_
          intro W11 he11 hh11
          replace hE := Ext.trans hE he11
          replace h_l := h_l.ext he11
          replace hvo := hvo.ext he11
          replace hL4 := Kp.go hL4 (Kp.of_ext (G := NoB) he11) (fun _ h => h.elim)
          replace hB4 := hB4.ext he11
          replace hB12 := hB12.ext he11
          replace hvx1 := hvx1.ext he11
          replace hB6 := hB6.ext he11
          have hs11 := he11.size
          refine RO_q rfl rfl (Yd_move rfl) (RO_q rfl rfl (Yd_move rfl) (RO_q rfl rfl (Yd_neqSB rfl rfl hyb30 hyb41) (RO_q rfl rfl (Yd_move rfl) (?_))))
          refine RO_is (d := 47) (b' := false) rfl (by simp) ?_
          refine RO_gq rfl rfl rfl rfl (Yd_move rfl) (RO_gq rfl rfl rfl rfl (Yd_move rfl) (RO_gq rfl rfl rfl rfl (Yd_neq rfl rfl) (RO_q rfl rfl (Yd_pickF rfl rfl) (RO_q rfl rfl (Yd_move rfl) (?_)))))
          refine RO_is (d := 52) (b' := false) rfl (by simp) ?_
          refine RO_gq rfl rfl rfl rfl (Yd_move rfl) (RO_gq rfl rfl rfl rfl (Yd_loadA Try.underlying43 rfl (by kernel_rfl) rfl (fun W hW => (ldBA hB4) W hW.ext)) (RO_gl rfl rfl rfl rfl (Ld_call Try.func27 rfl (by kernel_rfl) rfl (asFV (f := (doF f x1 lx1).2.2) hB12 okhB12) ?_)))
          rintro e W12 ⟨rfl, he12⟩
          refine ⟨_, rfl, ?_⟩
          refine ⟨Kp.of_ext he12, ?_⟩
          replace hE := Ext.trans hE he12
          replace h_l := h_l.ext he12
          replace hvo := hvo.ext he12
          replace hL4 := Kp.go hL4 (Kp.of_ext (G := NoB) he12) (fun _ h => h.elim)
          replace hB4 := hB4.ext he12
          replace hB12 := hB12.ext he12
          replace hvx1 := hvx1.ext he12
          replace hB6 := hB6.ext he12
          have hs12 := he12.size
          have hyb54 : Byt ((doF f x1 lx1).2.2).b := okhB12.hy
          refine RO_gq rfl rfl rfl rfl (Yd_neqA Try.underlying43 (by kernel_rfl) (by kernel_rfl) (tb := [(false, 0, 1), (false, 1, 1), (false, 2, 1), (false, 3, 0), (false, 4, 0), (false, 5, 2)]) (by kernel_rfl) rfl rfl rfl (Fr_eqr (⟨((doF f x1 lx1).2.2).u, ((doF f x1 lx1).2.2).d, ((doF f x1 lx1).2.2).r, ((doF f x1 lx1).2.2).pins, ((doF f x1 lx1).2.2).page, ((doF f x1 lx1).2.2).b⟩ : Fr) (⟨((doF f x1 lx1).2.2).u, ((doF f x1 lx1).2.2).d, ((doF f x1 lx1).2.2).r, ((doF f x1 lx1).2.2).pins, ((doF f x1 lx1).2.2).page, ((doF f x1 lx1).2.2).b⟩ : Fr))) (RO_q rfl rfl (Yd_pickF rfl rfl) (RO_q rfl rfl (Yd_move rfl) (?_)))
          refine RO_is (d := 58) (b' := false) rfl (by rw [frEq_self]; rfl) ?_
          refine RO_gq rfl rfl rfl rfl (Yd_move rfl) (RO_gq rfl rfl rfl rfl (Yd_nil rfl) (RO_gq rfl rfl rfl rfl (Yd_fld (off := 0) Try.underlying28 (by kernel_rfl) rfl) (RO_gq rfl rfl rfl rfl (Yd_fld (off := 3) Try.underlying43 (by kernel_rfl) rfl) (RO_gq rfl rfl rfl rfl (Yd_load Try.underlying3 rfl rfl (fun W hW => (ldB hB4 rfl) W hW.ext)) (RO_gq rfl rfl rfl rfl (Yd_eql rfl rfl) (RO_gl rfl rfl rfl rfl (Ld_call Try.func19 rfl (by kernel_rfl) rfl (FreeV (f := (doF f x1 lx1).2.2) hB12 okhB12) ?_)))))))
          rintro e W13 ⟨rfl, rfl⟩
          refine ⟨_, rfl, ?_⟩
          refine ⟨Kp.refl _ _, ?_⟩
          refine RO_gq rfl rfl rfl rfl (Yd_neqB Try.underlying4 rfl rfl) (RO_q rfl rfl (Yd_pickF rfl rfl) (RO_nil (X_then (?_))))
          refine C_no rfl (by simp) (C_skip (X_block (X_then (C_region (RL_q rfl (Yd_move rfl) (RL_q rfl (Yd_add rfl rfl (i64w (by omega) (by omega))) (RL_q rfl (Yd_assign rfl) (RL_nil (?_)))))))))
          refine X_again (⟨k + 1, (doF f x1 lx1).2.2⟩) ⟨rfl, rfl, rfl, rfl, trivial⟩ ?_ (by show n_l - (k + 1) < n_l - k; omega)
          refine ⟨hB12, okhB12, hB4, ?_, hL4⟩
          all_goals (try dsimp only)
          all_goals (first | omega | rfl)
        · skip
          refine RPl_l rfl (Ld_alloc (v := (.agg #[(.bool false), (.bool false), (.bool false), (.int .i64 0), (.int .i64 0), (.string ⟨#[]⟩)])) (by kernel_rfl) ?_)
          have hg_6 := hE.size
          intro W6 he6 hz6 hB6
          refine ⟨Kp.of_ext he6, ?_⟩
          replace hE := Ext.trans hE he6
          replace h_l := h_l.ext he6
          replace hvo := hvo.ext he6
          replace hL4 := Kp.go hL4 (Kp.of_ext (G := NoB) he6) (fun _ h => h.elim)
          replace hB4 := hB4.ext he6
          replace hB12 := hB12.ext he6
          replace hvx1 := hvx1.ext he6
          refine RP_loud rfl (RPl_l rfl (Ld_call Try.func29 rfl (by kernel_rfl) rfl (refDoV (f := f) (by assumption) (o := x1) (bs := lx1) hvx1 gx1) ?_))
          rintro e W7 ⟨rfl, hyb30, he7⟩
          refine ⟨_, rfl, ?_⟩
          refine ⟨Kp.of_ext he7, ?_⟩
          replace hE := Ext.trans hE he7
          replace h_l := h_l.ext he7
          replace hvo := hvo.ext he7
          replace hL4 := Kp.go hL4 (Kp.of_ext (G := NoB) he7) (fun _ h => h.elim)
          replace hB4 := hB4.ext he7
          replace hB12 := hB12.ext he7
          replace hvx1 := hvx1.ext he7
          replace hB6 := hB6.ext he7
          have hs7 := he7.size
          have okr30 : FOk ((doF f x1 lx1).2.2) := doF_ok (by assumption) hvx1.byt
          refine RP_q rfl rfl (Yd_move rfl) (RP_q rfl rfl (Yd_extract rfl rfl) (RP_q rfl rfl (Yd_extract rfl rfl) (RP_q rfl rfl (Yd_extract rfl rfl) (RP_loud rfl (RPl_l0 (Ld_store (by kernel_rfl) rfl rfl hB6 (Nat.le_of_ble_eq_true rfl) (by simp [cellsL, Value.cells, Value.oneCell']) ?_))))))
          intro W8 hu8 hz8 hB6
          refine ⟨Kp.of_but hu8 (by first | rfl | omega | (dsimp only; omega)), ?_⟩
          have hk8 := Kp.ofb hu8
          have hs8 := hk8.size
          replace hE := Ext.kp hE hk8 (fun k hk => by first | omega | (have hk := hk; dsimp only at hk; omega))
          replace h_l := h_l.kp hk8 (fun k hk => by first | omega | (have hk := hk; dsimp only at hk; omega))
          replace hvo := hvo.kp hk8 (fun k hk => by first | omega | (have hk := hk; dsimp only at hk; omega))
          try replace hL4 := hL4.go hk8 (fun k hk => by first | omega | (have hk := hk; dsimp only at hk; dsimp only; omega))
          replace hB4 := hB4.kp hk8 (fun hk => by first | omega | (have hk := hk; dsimp only at hk; omega))
          replace hB12 := hB12.kp hk8 (fun hk => by first | omega | (have hk := hk; dsimp only at hk; omega))
          replace hvx1 := hvx1.kp hk8 (fun k hk => by first | omega | (have hk := hk; dsimp only at hk; omega))
          refine RP_q rfl rfl (Yd_assign rfl) (RP_q rfl rfl (Yd_assign rfl) (RP_nil (X_then (C_seq (C_region (RL_q rfl (Yd_loadA Try.underlying43 rfl (by kernel_rfl) rfl (ldBA hB6)) (RL_l0 (Ld_store (by kernel_rfl) rfl rfl hB4 (Nat.le_of_ble_eq_true rfl) (by simp [cellsL, Value.cells, Value.oneCell']) ?_))))))))
          intro W9 hu9 hz9 hB4
          have hk9 := Kp.ofb hu9
          have hs9 := hk9.size
          replace hE := Ext.kp hE hk9 (fun k hk => by first | omega | (have hk := hk; dsimp only at hk; omega))
          replace h_l := h_l.kp hk9 (fun k hk => by first | omega | (have hk := hk; dsimp only at hk; omega))
          replace hvo := hvo.kp hk9 (fun k hk => by first | omega | (have hk := hk; dsimp only at hk; omega))
          try replace hL4 := hL4.go hk9 (fun k hk => by first | omega | (have hk := hk; dsimp only at hk; dsimp only; omega))
          replace hB12 := hB12.kp hk9 (fun hk => by first | omega | (have hk := hk; dsimp only at hk; omega))
          replace hvx1 := hvx1.kp hk9 (fun k hk => by first | omega | (have hk := hk; dsimp only at hk; omega))
          replace hB6 := hB6.kp hk9 (fun hk => by first | omega | (have hk := hk; dsimp only at hk; omega))
          refine RL_nil (X_then (C_seq (C_region (RL_q rfl (Yd_move rfl) (RL_q rfl (Yd_move rfl) (RL_q rfl (Yd_move rfl) (RL_q rfl (Yd_idx Try.underlying46 (sz := 5) (by kernel_rfl) rfl rfl (by omega) (by omega)) (RL_q rfl (Yd_loadA (cs := [.int .i64 x1.op, .int .i64 x1.pg, .int .i64 x1.off, .int .i64 x1.n, .slice x1.A x1.ln x1.c]) Try.underlying51 rfl (by kernel_rfl) rfl (Vw.lqA h_l hx1 rfl rfl)) (RL_l rfl (Ld_call Try.func30 rfl (by kernel_rfl) rfl (doV (f := f) hB12 okhB12 (o := x1) (bs := lx1) hvx1 gx1 (by omega)) ?_))))))))))
          rintro e W10 ⟨rfl, hyb41, hB12n, hk10⟩
          refine ⟨_, rfl, ?_⟩
          have hs10 := hk10.size
          replace hE := Ext.kp hE hk10 (fun k hk => by first | omega | (have hk := hk; dsimp only at hk; omega))
          replace h_l := h_l.kp hk10 (fun k hk => by first | omega | (have hk := hk; dsimp only at hk; omega))
          replace hvo := hvo.kp hk10 (fun k hk => by first | omega | (have hk := hk; dsimp only at hk; omega))
          try replace hL4 := hL4.go hk10 (fun k hk => by first | omega | (have hk := hk; dsimp only at hk; dsimp only; omega))
          replace hB4 := hB4.kp hk10 (fun hk => by first | omega | (have hk := hk; dsimp only at hk; omega))
          replace hvx1 := hvx1.kp hk10 (fun k hk => by first | omega | (have hk := hk; dsimp only at hk; omega))
          replace hB6 := hB6.kp hk10 (fun hk => by first | omega | (have hk := hk; dsimp only at hk; omega))
          replace hB12 := hB12n
          replace okhB12 : FOk (doF f x1 lx1).2.2 := doF_ok okhB12 hvx1.byt
          refine RL_q rfl (Yd_move rfl) (RL_q rfl (Yd_extract rfl rfl) (RL_q rfl (Yd_extract rfl rfl) (RL_q rfl (Yd_assign rfl) (RL_q rfl (Yd_assign rfl) (RL_nil (X_then (C_seq (?_))))))))
          refine C_regionD (NoB) (l := [(0, true), (1, true), (2, true), (3, true), (4, true), (5, true), (6, true), (7, true), (8, true), (9, true), (11, true), (10, false), (12, true), (13, true), (14, true), (15, true), (16, true), (17, true), (19, true), (20, true), (21, true), (18, false), (22, true), (23, true)]) (by kernel_rfl) (by kernel_rfl) rfl (by kernel_rfl) (fun _ _ d _ _ h => by cases d <;> exact h) ?_
          intro W11 he11 hh11
          replace hE := Ext.trans hE he11
          replace h_l := h_l.ext he11
          replace hvo := hvo.ext he11
          replace hL4 := Kp.go hL4 (Kp.of_ext (G := NoB) he11) (fun _ h => h.elim)
          replace hB4 := hB4.ext he11
          replace hB12 := hB12.ext he11
          replace hvx1 := hvx1.ext he11
          replace hB6 := hB6.ext he11
          have hs11 := he11.size
          refine RO_q rfl rfl (Yd_move rfl) (RO_q rfl rfl (Yd_move rfl) (RO_q rfl rfl (Yd_neqSB rfl rfl hyb30 hyb41) (RO_q rfl rfl (Yd_move rfl) (?_))))
          refine RO_is (d := 47) (b' := false) rfl (by simp) ?_
          refine RO_gq rfl rfl rfl rfl (Yd_move rfl) (RO_gq rfl rfl rfl rfl (Yd_move rfl) (RO_gq rfl rfl rfl rfl (Yd_neq rfl rfl) (RO_q rfl rfl (Yd_pickF rfl rfl) (RO_q rfl rfl (Yd_move rfl) (?_)))))
          refine RO_is (d := 52) (b' := false) rfl (by simp) ?_
          refine RO_gq rfl rfl rfl rfl (Yd_move rfl) (RO_gq rfl rfl rfl rfl (Yd_loadA Try.underlying43 rfl (by kernel_rfl) rfl (fun W hW => (ldBA hB4) W hW.ext)) (RO_gl rfl rfl rfl rfl (Ld_call Try.func27 rfl (by kernel_rfl) rfl (asFV (f := (doF f x1 lx1).2.2) hB12 okhB12) ?_)))
          rintro e W12 ⟨rfl, he12⟩
          refine ⟨_, rfl, ?_⟩
          refine ⟨Kp.of_ext he12, ?_⟩
          replace hE := Ext.trans hE he12
          replace h_l := h_l.ext he12
          replace hvo := hvo.ext he12
          replace hL4 := Kp.go hL4 (Kp.of_ext (G := NoB) he12) (fun _ h => h.elim)
          replace hB4 := hB4.ext he12
          replace hB12 := hB12.ext he12
          replace hvx1 := hvx1.ext he12
          replace hB6 := hB6.ext he12
          have hs12 := he12.size
          have hyb54 : Byt ((doF f x1 lx1).2.2).b := okhB12.hy
          refine RO_gq rfl rfl rfl rfl (Yd_neqA Try.underlying43 (by kernel_rfl) (by kernel_rfl) (tb := [(false, 0, 1), (false, 1, 1), (false, 2, 1), (false, 3, 0), (false, 4, 0), (false, 5, 2)]) (by kernel_rfl) rfl rfl rfl (Fr_eqr (⟨((doF f x1 lx1).2.2).u, ((doF f x1 lx1).2.2).d, ((doF f x1 lx1).2.2).r, ((doF f x1 lx1).2.2).pins, ((doF f x1 lx1).2.2).page, ((doF f x1 lx1).2.2).b⟩ : Fr) (⟨((doF f x1 lx1).2.2).u, ((doF f x1 lx1).2.2).d, ((doF f x1 lx1).2.2).r, ((doF f x1 lx1).2.2).pins, ((doF f x1 lx1).2.2).page, ((doF f x1 lx1).2.2).b⟩ : Fr))) (RO_q rfl rfl (Yd_pickF rfl rfl) (RO_q rfl rfl (Yd_move rfl) (?_)))
          refine RO_is (d := 58) (b' := false) rfl (by rw [frEq_self]; rfl) ?_
          refine RO_gq rfl rfl rfl rfl (Yd_move rfl) (RO_gq rfl rfl rfl rfl (Yd_nil rfl) (RO_gq rfl rfl rfl rfl (Yd_fld (off := 0) Try.underlying28 (by kernel_rfl) rfl) (RO_gq rfl rfl rfl rfl (Yd_fld (off := 3) Try.underlying43 (by kernel_rfl) rfl) (RO_gq rfl rfl rfl rfl (Yd_load Try.underlying3 rfl rfl (fun W hW => (ldB hB4 rfl) W hW.ext)) (RO_gq rfl rfl rfl rfl (Yd_eql rfl rfl) (RO_gl rfl rfl rfl rfl (Ld_call Try.func19 rfl (by kernel_rfl) rfl (FreeV (f := (doF f x1 lx1).2.2) hB12 okhB12) ?_)))))))
          rintro e W13 ⟨rfl, rfl⟩
          refine ⟨_, rfl, ?_⟩
          refine ⟨Kp.refl _ _, ?_⟩
          refine RO_gq rfl rfl rfl rfl (Yd_neqB Try.underlying4 rfl rfl) (RO_q rfl rfl (Yd_pickF rfl rfl) (RO_nil (X_then (?_))))
          refine C_no rfl (by simp) (C_skip (X_block (X_then (C_region (RL_q rfl (Yd_move rfl) (RL_q rfl (Yd_add rfl rfl (i64w (by omega) (by omega))) (RL_q rfl (Yd_assign rfl) (RL_nil (?_)))))))))
          refine X_again (⟨k + 1, (doF f x1 lx1).2.2⟩) ⟨rfl, rfl, rfl, rfl, trivial⟩ ?_ (by show n_l - (k + 1) < n_l - k; omega)
          refine ⟨hB12, okhB12, hB4, ?_, hL4⟩
          all_goals (try dsimp only)
          all_goals (first | omega | rfl)
      · skip
        try simp only [decide_eq_true_eq, decide_eq_false_iff_not, Bool.not_eq_true', Bool.not_eq_false', Decidable.not_not, Int.not_lt, Int.not_le, Bool.or_eq_true, Bool.and_eq_true, Bool.or_eq_false_iff, Bool.and_eq_false_iff] at hb21
        refine C_exit (X_thenE (X_thenE (X_blockE (X_then (C_seq (C_region (RL_l rfl (Ld_call Try.func20 rfl (by kernel_rfl) rfl (lives12V ) ?_))))))))
        rintro e W5 ⟨_, rfl, rfl, he5⟩
        refine ⟨_, rfl, ?_⟩
        replace hE := Ext.trans hE he5
        replace h_l := h_l.ext he5
        replace hvo := hvo.ext he5
        replace hL4 := Kp.go hL4 (Kp.of_ext (G := NoB) he5) (fun _ h => h.elim)
        replace hB4 := hB4.ext he5
        replace hB12 := hB12.ext he5
        have hs5 := he5.size
        refine RL_q rfl (Yd_assign rfl) (RL_nil (X_then (C_ret (X_ret1 rfl rfl ?_))))
        refine ⟨_, rfl, ?_, hE⟩
        all_goals (first | rfl | omega | simp)
end Go.Proofs.AL
