import Derived.Test.YtikfkmcgdceaoaaSpec
set_option linter.unusedVariables false
set_option linter.unusedSimpArgs false
namespace Go.Proofs.AL
open Go.RowKit
theorem ClockRoundsV {lo_l B_l : Nat} {A_l : Option Addr} {n_l c_l : Nat} {l : List F} {hand : Int} {w : World}  (h_l : Vw tF w lo_l B_l A_l n_l c_l l) (b_hand : -9223372036854775808 ≤ hand ∧ hand ≤ 9223372036854775807) (hz : n_l * 16 ≤ 140737488351232) :
    Calls Try.prog 12 #[.slice A_l n_l c_l, .int .i64 hand] w fun e w' => ∃ (x0 : Bool), e = .returned (.bool x0) ∧ x0 = (true) ∧ Ext w w' := by
  have hE := Ext.refl w
  replace h_l := h_l.fit
  have hn_l := h_l.ln
  have hc_l := h_l.cap
  have hm_l := h_l.max
  simp only [maxLen] at hm_l
  refine calls_of (l := [.slice A_l n_l c_l, .int .i64 hand]) (N := 71) Try.func12 rfl rfl rfl ?_
  refine C_seq (C_region (RL_q rfl (Yd_assign rfl) (RL_nil (X_then (C_seq (C_region (RL_q rfl (Yd_move rfl) (RL_l rfl (Ld_call Try.func34 rfl (by kernel_rfl) rfl (asV h_l (by omega)) ?_)))))))))
  rintro e W1 ⟨A15, n15, c15, rfl, hF15, he1⟩
  refine ⟨_, rfl, ?_⟩
  replace hE := Ext.trans hE he1
  replace h_l := h_l.ext he1
  have hs1 := he1.size
  have hn15 := hF15.ln
  try simp only [List.length_append, List.length_cons, List.length_nil, List.length_set, List.length_take, List.length_drop, List.length_replicate, List.length_map, Nat.zero_add, Nat.add_zero, turn0_len] at hn15
  have hc15 := hF15.cap
  refine RL_l rfl (Ld_call Try.func33 rfl (by kernel_rfl) rfl (GoodR hF15.vw) ?_)
  rintro e W2 ⟨A16, n16, c16, rfl, hF16, hgl16, he2⟩
  refine ⟨_, rfl, ?_⟩
  replace hE := Ext.trans hE he2
  replace h_l := h_l.ext he2
  replace hF15 := hF15.ext he2
  have hs2 := he2.size
  have hn16 := hF16.ln
  try simp only [List.length_append, List.length_cons, List.length_nil, List.length_set, List.length_take, List.length_drop, List.length_replicate, List.length_map, Nat.zero_add, Nat.add_zero, turn0_len] at hn16
  have hc16 := hF16.cap
  refine RL_l rfl (Ld_call Try.func32 rfl (by kernel_rfl) rfl (ofV hF16.vw (by omega)) ?_)
  rintro e W3 ⟨A17, n17, c17, rfl, hF17, he3⟩
  refine ⟨_, rfl, ?_⟩
  replace hE := Ext.trans hE he3
  replace h_l := h_l.ext he3
  replace hF15 := hF15.ext he3
  replace hF16 := hF16.ext he3
  have hs3 := he3.size
  have hn17 := hF17.ln
  try simp only [List.length_append, List.length_cons, List.length_nil, List.length_set, List.length_take, List.length_drop, List.length_replicate, List.length_map, Nat.zero_add, Nat.add_zero, turn0_len] at hn17
  have hc17 := hF17.cap
  obtain ⟨gO, rfl, hgOl, hgOh⟩ := Ow.at_ (i := 0) hF17 (by omega)
  refine RL_q rfl (Yd_assign rfl) (RL_nil (X_then (C_seq (C_seq (C_region (RL_q rfl (Yd_assign rfl) (RL_nil (X_then (C_block (?_))))))))))
  refine C_loop (T := Nat) (fun i => [(1, .int .i64 hand), (4, .bool false), (5, .slice (some ⟨gO, 0, none⟩) n17 c17), (6, .int .i64 (i : Int))]) (fun i lw3 => Ow tF 25 lw3 W2.heap.size W3.heap.size (some ⟨gO, 0, none⟩) n17 c17 (nrTo i (goodL l)) ∧ (i ≤ n17) ∧ Kp (fun k => (W2.heap.size ≤ k ∧ k < W3.heap.size)) W3 lw3) (fun i => n17 - i) (0) ⟨rfl, rfl, rfl, rfl, trivial⟩ ?_ ?_
  · refine ⟨hF17.cast ?_, ?_, Kp.refl _ _⟩
    all_goals (try dsimp only)
    all_goals (first | omega | rfl | exact nrTo_next (by assumption))
  · rintro i lw3 ⟨hF17, hi3_0, hL3⟩
    replace hE := Ext.kp hE hL3 (fun k hk => by first | omega | (have hk := hk; dsimp only at hk; omega))
    replace h_l := h_l.kp hL3 (fun k hk => by first | omega | (have hk := hk; dsimp only at hk; omega))
    replace hF15 := hF15.kp hL3 (fun k hk => by first | omega | (have hk := hk; dsimp only at hk; omega))
    replace hF16 := hF16.kp hL3 (fun k hk => by first | omega | (have hk := hk; dsimp only at hk; omega))
    have hsL3 := hL3.size
    have hnhF17 := hF17.ln
    try simp only [List.length_append, List.length_cons, List.length_nil, List.length_set, List.length_take, List.length_drop, List.length_replicate, List.length_map, Nat.zero_add, Nat.add_zero, turn0_len] at hnhF17
    have hchF17 := hF17.cap
    refine C_seq (C_seq (?_))
    refine C_region (RL_q rfl (Yd_move rfl) (RL_q rfl (Yd_move rfl) (RL_q rfl (Yd_len Try.underlying56 rfl) (RL_q rfl (Yd_lss rfl rfl) (RL_nil (X_then (?_)))))))
    refine C_cond rfl (fun hb21 => ?_) (fun hb21 => ?_)
    · skip
      try simp only [decide_eq_true_eq, decide_eq_false_iff_not, Bool.not_eq_true', Bool.not_eq_false', Decidable.not_not, Int.not_lt, Int.not_le, Bool.or_eq_true, Bool.and_eq_true, Bool.or_eq_false_iff, Bool.and_eq_false_iff] at hb21
      refine C_skip (X_then (C_seq (C_block (?_))))
      obtain ⟨x1, hx1, gx1⟩ := Vw.elem (i := i) hF17.vw (by omega)
      replace gx1 : -9223372036854775808 ≤ x1.pins ∧ x1.pins ≤ 9223372036854775807 := gx1
      refine C_region (RL_q rfl (Yd_move rfl) (RL_q rfl (Yd_move rfl) (RL_q rfl (Yd_idxL Try.underlying56 (sz := 4) (by kernel_rfl) rfl rfl (by omega) (by omega)) (RL_q rfl (Yd_fld (off := 2) Try.underlying25 (by kernel_rfl) rfl) (RL_l0 (Ld_putF (T := tF) (a := (⟨x1.used, x1.dirty, false, x1.pins⟩ : F)) (by kernel_rfl) rfl rfl hF17 (i := i) (j := 2) hx1 rfl rfl rfl rfl (by decide) ⟨by dsimp only; omega, by dsimp only; omega⟩ ?_))))))
      intro W4 hF17' hu4
      have hk4 := Kp.ofb hu4
      have hs4 := hk4.size
      replace hE := Ext.kp hE hk4 (fun k hk => by first | omega | (have hk := hk; dsimp only at hk; omega))
      replace h_l := h_l.kp hk4 (fun k hk => by first | omega | (have hk := hk; dsimp only at hk; omega))
      replace hF15 := hF15.kp hk4 (fun k hk => by first | omega | (have hk := hk; dsimp only at hk; omega))
      replace hF16 := hF16.kp hk4 (fun k hk => by first | omega | (have hk := hk; dsimp only at hk; omega))
      try replace hL3 := hL3.go hk4 (fun k hk => by first | omega | (have hk := hk; dsimp only at hk; dsimp only; omega))
      replace hF17 := hF17'
      have hnhF17 := hF17.ln
      refine RL_nil (X_block (X_then (C_region (RL_q rfl (Yd_move rfl) (RL_q rfl (Yd_add rfl rfl (i64w (by omega) (by omega))) (RL_q rfl (Yd_assign rfl) (RL_nil (?_))))))))
      refine X_again (i + 1) ⟨rfl, rfl, rfl, rfl, trivial⟩ ?_ (by show n17 - (i + 1) < n17 - i; omega)
      refine ⟨hF17.cast ?_, ?_, hL3⟩
      all_goals (try dsimp only)
      all_goals (first | omega | rfl | exact nrTo_next (by assumption))
    · skip
      try simp only [decide_eq_true_eq, decide_eq_false_iff_not, Bool.not_eq_true', Bool.not_eq_false', Decidable.not_not, Int.not_lt, Int.not_le, Bool.or_eq_true, Bool.and_eq_true, Bool.or_eq_false_iff, Bool.and_eq_false_iff] at hb21
      refine C_exit (X_thenE (X_thenE (X_blockE (X_then (C_seq (C_region (RL_q rfl (Yd_move rfl) (RL_q rfl (Yd_move rfl) (RL_q rfl (Yd_len Try.underlying56 rfl) (?_))))))))))
      replace hF17 := hF17.cast (nrTo_all (l := goodL l) (i := i) (by omega))
      have hn17' := hF17.ln
      refine RL_l rfl (Ld_call Try.func15 rfl (by kernel_rfl) rfl (AroundV ⟨by first | omega | (dsimp only; omega), by first | omega | (dsimp only; omega)⟩ ⟨by first | omega | (dsimp only; omega), by first | omega | (dsimp only; omega)⟩) ?_)
      rintro e W4 ⟨y31, rfl, hy31, hra31, rfl⟩
      refine ⟨_, rfl, ?_⟩
      obtain ⟨H, rfl⟩ := Int.eq_ofNat_of_zero_le hra31.1
      refine RL_q rfl (Yd_assign rfl) (RL_nil (X_then (C_seq (C_region (RL_q rfl (Yd_move rfl) (RL_q rfl (Yd_len Try.underlying56 rfl) (RL_l rfl (Ld_mk Try.underlying67 Try.elt4 rfl rfl rfl (n := n17) (by omega) (by omega) (T := tBool) (a := false) rfl (by omega) (by simp only [maxLen]; omega) trivial ?_))))))))
      intro W5 hO34 he5
      replace hE := Ext.trans hE he5
      replace h_l := h_l.ext he5
      replace hF15 := hF15.ext he5
      replace hF16 := hF16.ext he5
      replace hF17 := hF17.ext he5
      replace hL3 := Kp.go hL3 (Kp.of_ext (G := NoB) he5) (fun _ h => h.elim)
      have hs5 := he5.size
      have hn34 := hO34.ln
      have hlt34 : lw3.heap.size < W5.heap.size := (hO34.own.lt' _ rfl).2
      refine RL_q rfl (Yd_assign rfl) (RL_nil (X_then (C_seq (C_seq (C_region (RL_q rfl (Yd_move rfl) (RL_l rfl (Ld_call Try.func34 rfl (by kernel_rfl) rfl (asV hF17.vw (by omega)) ?_))))))))
      rintro e W6 ⟨A36, n36, c36, rfl, hF36, he6⟩
      refine ⟨_, rfl, ?_⟩
      replace hE := Ext.trans hE he6
      replace h_l := h_l.ext he6
      replace hF15 := hF15.ext he6
      replace hF16 := hF16.ext he6
      replace hF17 := hF17.ext he6
      replace hL3 := Kp.go hL3 (Kp.of_ext (G := NoB) he6) (fun _ h => h.elim)
      replace hO34 := hO34.ext he6
      have hs6 := he6.size
      have hn36 := hF36.ln
      try simp only [List.length_append, List.length_cons, List.length_nil, List.length_set, List.length_take, List.length_drop, List.length_replicate, List.length_map, Nat.zero_add, Nat.add_zero, turn0_len] at hn36
      have hc36 := hF36.cap
      refine RL_l rfl (Ld_call Try.func36 rfl (by kernel_rfl) rfl (refFree hF36.vw (by omega)) ?_)
      rintro e W7 ⟨y37, rfl, hy37, he7⟩
      refine ⟨_, rfl, ?_⟩
      replace hE := Ext.trans hE he7
      replace h_l := h_l.ext he7
      replace hF15 := hF15.ext he7
      replace hF16 := hF16.ext he7
      replace hF17 := hF17.ext he7
      replace hL3 := Kp.go hL3 (Kp.of_ext (G := NoB) he7) (fun _ h => h.elim)
      replace hO34 := hO34.ext he7
      replace hF36 := hF36.ext he7
      have hs7 := he7.size
      refine RL_q rfl (Yd_assign rfl) (RL_nil (X_then (C_block (?_))))
      refine C_loop (T := Nat × Nat × List Bool) (fun ⟨k, p, s⟩ => [(5, .slice (some ⟨gO, 0, none⟩) n17 c17), (7, .int .i64 (((H + p) % ((goodL l).map nr).length : Nat) : Int)), (8, .slice (some ⟨lw3.heap.size, 0, none⟩) n17 n17), (9, .int .i64 (k : Int))]) (fun ⟨k, p, s⟩ lw7 => Ow tBool 4 lw7 lw3.heap.size (lw3.heap.size + 1) (some ⟨lw3.heap.size, 0, none⟩) n17 n17 s ∧ (RInv ((goodL l).map nr) H ((goodL l).map nr).length p s k) ∧ Kp (fun k => (lw3.heap.size ≤ k ∧ k < (lw3.heap.size + 1))) W7 lw7) (fun ⟨k, p, s⟩ => k) (⟨count ((goodL l).map nr), 0, List.replicate n17 false⟩) ⟨rfl, (lk_int rfl (by rw [Nat.add_zero, Nat.mod_eq_of_lt (by omega)])), rfl, (lk_int rfl hy37), trivial⟩ ?_ ?_
      · refine ⟨hO34.cast ?_, ?_, Kp.refl _ _⟩
        all_goals (try dsimp only)
        all_goals (first | rfl | (rw [← hn17']; exact r_zero))
      · rintro ⟨k, p, s⟩ lw7 ⟨hO34, hI, hL7⟩
        replace hE := Ext.kp hE hL7 (fun k hk => by first | omega | (have hk := hk; dsimp only at hk; omega))
        replace h_l := h_l.kp hL7 (fun k hk => by first | omega | (have hk := hk; dsimp only at hk; omega))
        replace hF15 := hF15.kp hL7 (fun k hk => by first | omega | (have hk := hk; dsimp only at hk; omega))
        replace hF16 := hF16.kp hL7 (fun k hk => by first | omega | (have hk := hk; dsimp only at hk; omega))
        replace hF17 := hF17.kp hL7 (fun k hk => by first | omega | (have hk := hk; dsimp only at hk; omega))
        try replace hL3 := hL3.go hL7 (fun k hk => by first | omega | (have hk := hk; dsimp only at hk; dsimp only; omega))
        replace hF36 := hF36.kp hL7 (fun k hk => by first | omega | (have hk := hk; dsimp only at hk; omega))
        have hsL7 := hL7.size
        have hnhO34 := hO34.ln
        try simp only [List.length_append, List.length_cons, List.length_nil, List.length_set, List.length_take, List.length_drop, List.length_replicate, List.length_map, Nat.zero_add, Nat.add_zero, turn0_len] at hnhO34
        have hchO34 := hO34.cap
        have hkd := hI.d
        have hkc : count ((goodL l).map nr) ≤ n17 := by rw [← hn17']; unfold count; exact List.length_filter_le _ _
        have hmod : (H + p) % ((goodL l).map nr).length < ((goodL l).map nr).length := Nat.mod_lt _ (by omega)
        refine C_seq (C_seq (C_region (RL_q rfl (Yd_move rfl) (RL_q rfl (Yd_gtr rfl rfl) (RL_nil (X_then (?_)))))))
        refine C_cond rfl (fun hb39 => ?_) (fun hb39 => ?_)
        · skip
          try simp only [decide_eq_true_eq, decide_eq_false_iff_not, Bool.not_eq_true', Bool.not_eq_false', Decidable.not_not, Int.not_lt, Int.not_le, Bool.or_eq_true, Bool.and_eq_true, Bool.or_eq_false_iff, Bool.and_eq_false_iff] at hb39
          refine C_skip (X_then (C_seq (C_block (C_seq (C_region (RL_q rfl (Yd_move rfl) (RL_q rfl (Yd_move rfl) (RL_l rfl (Ld_call Try.func35 rfl (by kernel_rfl) rfl (TurnZ hF17.vw ⟨by first | omega | (dsimp only; omega), by first | omega | (dsimp only; omega)⟩ (by omega) (by omega) (by omega)) ?_)))))))))
          rintro e W8 ⟨y45_0, y45_1, A45_2, n45_2, c45_2, _, rfl, hy45_0, hy45_1, hF45_2, rfl, he8⟩
          refine ⟨_, rfl, ?_⟩
          replace hE := Ext.trans hE he8
          replace h_l := h_l.ext he8
          replace hF15 := hF15.ext he8
          replace hF16 := hF16.ext he8
          replace hF17 := hF17.ext he8
          replace hL3 := Kp.go hL3 (Kp.of_ext (G := NoB) he8) (fun _ h => h.elim)
          replace hF36 := hF36.ext he8
          replace hO34 := hO34.ext he8
          replace hL7 := Kp.go hL7 (Kp.of_ext (G := NoB) he8) (fun _ h => h.elim)
          have hs8 := he8.size
          have hn45_2 := hF45_2.ln
          try simp only [List.length_append, List.length_cons, List.length_nil, List.length_set, List.length_take, List.length_drop, List.length_replicate, List.length_map, Nat.zero_add, Nat.add_zero, turn0_len] at hn45_2
          have hc45_2 := hF45_2.cap
          obtain ⟨v, pp, hv, hL, hV, hN, hs0, hI2⟩ := r_step hI (by omega) (nr_found _) rfl (by omega) (turn_spec (h := (H + p) % ((goodL l).map nr).length) (l := (goodL l).map nr) (by omega) (by omega))
          obtain rfl : y45_0 = (v : Int) := hy45_0.trans hV
          refine RL_q rfl (Yd_move rfl) (RL_q rfl (Yd_extract rfl rfl) (RL_q rfl (Yd_extract rfl rfl) (RL_q rfl (Yd_extract rfl rfl) (RL_q rfl (Yd_extract rfl rfl) (RL_q rfl (Yd_assign rfl) (RL_q rfl (Yd_assign rfl) (RL_q rfl (Yd_assign rfl) (RL_q rfl (Yd_assign rfl) (RL_nil (X_then (C_seq (C_seq (C_region (RL_q rfl (Yd_move rfl) (RL_q rfl (Yd_not rfl) (RL_q rfl (Yd_move rfl) (?_)))))))))))))))))
          apply RL_or (dj := 52) 55 3 rfl
          · intro hb52
            try simp only [decide_eq_true_eq, decide_eq_false_iff_not, Bool.not_eq_true', Bool.not_eq_false', Decidable.not_not, Int.not_lt, Int.not_le, Bool.or_eq_true, Bool.and_eq_true, Bool.or_eq_false_iff, Bool.and_eq_false_iff] at hb52
            refine QL_gq rfl rfl rfl (Yd_move rfl) (QL_gq rfl rfl rfl (Yd_lss rfl rfl) (QL_q rfl (Yd_pickF rfl rfl) ((QL_nil 3 rfl rfl rfl))))
          · intro hb52
            try simp only [decide_eq_true_eq, decide_eq_false_iff_not, Bool.not_eq_true', Bool.not_eq_false', Decidable.not_not, Int.not_lt, Int.not_le, Bool.or_eq_true, Bool.and_eq_true, Bool.or_eq_false_iff, Bool.and_eq_false_iff] at hb52
            refine QL_gn rfl rfl rfl rfl (QL_gn rfl rfl rfl rfl (QL_q rfl (Yd_pickT rfl rfl) ((QL_nil 3 rfl rfl rfl))))
          · skip
            refine RL_q rfl (Yd_move rfl) (?_)
            apply RL_or (dj := 56) 61 5 rfl
            · intro hb56
              try simp only [decide_eq_true_eq, decide_eq_false_iff_not, Bool.not_eq_true', Bool.not_eq_false', Decidable.not_not, Int.not_lt, Int.not_le, Bool.or_eq_true, Bool.and_eq_true, Bool.or_eq_false_iff, Bool.and_eq_false_iff] at hb56
              refine QL_gq rfl rfl rfl (Yd_move rfl) (QL_gq rfl rfl rfl (Yd_move rfl) (QL_gq rfl rfl rfl (Yd_len Try.underlying56 rfl) (QL_gq rfl rfl rfl (Yd_geq rfl rfl) (QL_q rfl (Yd_pickF rfl rfl) ((QL_nil 5 rfl rfl rfl))))))
            · intro hb56
              try simp only [decide_eq_true_eq, decide_eq_false_iff_not, Bool.not_eq_true', Bool.not_eq_false', Decidable.not_not, Int.not_lt, Int.not_le, Bool.or_eq_true, Bool.and_eq_true, Bool.or_eq_false_iff, Bool.and_eq_false_iff] at hb56
              refine QL_gn rfl rfl rfl rfl (QL_gn rfl rfl rfl rfl (QL_gn rfl rfl rfl rfl (QL_gn rfl rfl rfl rfl (QL_q rfl (Yd_pickT rfl rfl) ((QL_nil 5 rfl rfl rfl))))))
            · skip
              refine RL_nil (X_then (?_))
              refine C_no rfl (by refine Bool.or_eq_false_iff.2 ⟨Bool.or_eq_false_iff.2 ⟨?_, decide_eq_false (by omega)⟩, decide_eq_false (by omega)⟩; exact congrArg (!·) (decide_eq_true hL)) (C_skip (X_then (C_seq (C_seq (C_region (RL_q rfl (Yd_move rfl) (RL_q rfl (Yd_move rfl) (RL_q rfl (Yd_idxL Try.underlying67 (sz := 1) (by kernel_rfl) rfl rfl (by omega) (by omega)) (?_)))))))))
              obtain ⟨x2, hx2, gx2⟩ := Vw.elem (i := v) hO34.vw (by omega)
              refine RL_q rfl (Yd_load Try.underlying4 rfl rfl (Vw.lq1L hO34.vw hx2 rfl rfl)) (RL_nil (X_then (?_)))
              refine C_no rfl (Option.some.inj (Eq.trans (Eq.symm (by assumption)) hs0)) (C_skip (X_then (C_seq (C_region (RL_q rfl (Yd_move rfl) (RL_q rfl (Yd_move rfl) (RL_q rfl (Yd_idxL Try.underlying67 (sz := 1) (by kernel_rfl) rfl rfl (by omega) (by omega)) (RL_l0 (Ld_putO (T := tBool) (a := true) (by kernel_rfl) rfl rfl hO34 (i := v) (by omega) rfl rfl (by omega) trivial ?_)))))))))
              intro W9 hO34' hu9
              have hk9 := Kp.ofb hu9
              have hs9 := hk9.size
              replace hE := Ext.kp hE hk9 (fun k hk => by first | omega | (have hk := hk; dsimp only at hk; omega))
              replace h_l := h_l.kp hk9 (fun k hk => by first | omega | (have hk := hk; dsimp only at hk; omega))
              replace hF15 := hF15.kp hk9 (fun k hk => by first | omega | (have hk := hk; dsimp only at hk; omega))
              replace hF16 := hF16.kp hk9 (fun k hk => by first | omega | (have hk := hk; dsimp only at hk; omega))
              replace hF17 := hF17.kp hk9 (fun k hk => by first | omega | (have hk := hk; dsimp only at hk; omega))
              try replace hL3 := hL3.go hk9 (fun k hk => by first | omega | (have hk := hk; dsimp only at hk; dsimp only; omega))
              replace hF36 := hF36.kp hk9 (fun k hk => by first | omega | (have hk := hk; dsimp only at hk; omega))
              try replace hL7 := hL7.go hk9 (fun k hk => by first | omega | (have hk := hk; dsimp only at hk; dsimp only; omega))
              replace hF45_2 := hF45_2.kp hk9 (fun k hk => by first | omega | (have hk := hk; dsimp only at hk; omega))
              replace hO34 := hO34'
              have hnhO34 := hO34.ln
              refine RL_nil (X_then (C_region (RL_q rfl (Yd_move rfl) (RL_q rfl (Yd_assign rfl) (RL_nil (X_block (X_then (C_region (RL_q rfl (Yd_move rfl) (RL_q rfl (Yd_sub rfl rfl (i64w (by omega) (by omega))) (RL_q rfl (Yd_assign rfl) (RL_nil (?_)))))))))))))
              refine X_again (⟨k - 1, pp, (s.set v true)⟩) ⟨rfl, (lk_int rfl (hy45_1.trans hN)), rfl, (lk_int rfl (by omega)), trivial⟩ ?_ (by show (k - 1) < k; omega)
              refine ⟨hO34.cast ?_, ?_, hL7⟩
              all_goals (try dsimp only)
              all_goals (first | rfl | assumption)
        · skip
          try simp only [decide_eq_true_eq, decide_eq_false_iff_not, Bool.not_eq_true', Bool.not_eq_false', Decidable.not_not, Int.not_lt, Int.not_le, Bool.or_eq_true, Bool.and_eq_true, Bool.or_eq_false_iff, Bool.and_eq_false_iff] at hb39
          refine C_exit (X_thenE (X_thenE (X_blockE (X_then (C_seq (C_region (RL_l rfl (Ld_call Try.func39 rfl (by kernel_rfl) rfl (lives13V ) ?_))))))))
          rintro e W8 ⟨_, rfl, rfl, he8⟩
          refine ⟨_, rfl, ?_⟩
          replace hE := Ext.trans hE he8
          replace h_l := h_l.ext he8
          replace hF15 := hF15.ext he8
          replace hF16 := hF16.ext he8
          replace hF17 := hF17.ext he8
          replace hL3 := Kp.go hL3 (Kp.of_ext (G := NoB) he8) (fun _ h => h.elim)
          replace hF36 := hF36.ext he8
          replace hO34 := hO34.ext he8
          replace hL7 := Kp.go hL7 (Kp.of_ext (G := NoB) he8) (fun _ h => h.elim)
          have hs8 := he8.size
          refine RL_q rfl (Yd_assign rfl) (RL_nil (X_then (C_ret (X_ret1 rfl rfl ?_))))
          refine ⟨_, rfl, ?_, hE⟩
          all_goals (first | rfl | omega | simp)
end Go.Proofs.AL
