import Derived.Test.YtfckeecfppmepaaRdr
set_option linter.unusedVariables false
namespace Go.Proofs.AL
open Go.RowKit
theorem LayOwns_c (A0 : Option Addr) (n0 c0 : Nat) (b : List Int) (at_ by_ : Int) (w : World) (hr0 : Rd w w.heap.size 1 A0 n0 (ints .u8 b)) (hn0 : b.length = n0) (hc0 : n0 ≤ c0) (hm0 : c0 ≤ maxLen) (hz0 : A0 = none → c0 = 0) (hby : Byt b) (h1 : -9223372036854775808 ≤ at_) (h2 : at_ ≤ 9223372036854775807) :
    Calls Try.prog 5 #[.slice A0 n0 c0, .int .i64 at_, .int .u8 by_] w fun e w' => e = .returned (.bool true) ∧ Ext w w' := by
  unfold maxLen at *
  have hgood : rGood (some (few b 24)) := ⟨few_byt hby 24, by have := few_le b 24 (by omega); omega⟩
  have h24 := few_le b 24 (by omega)
  have hE := Ext.refl w
  refine calls_of (l := [.slice A0 n0 c0, .int .i64 at_, .int .u8 by_]) (N := 62) Try.func5 rfl rfl rfl ?_
  refine C_seq (C_region (RL_q rfl (Yd_assign rfl) (RL_nil (X_then (C_seq (C_region (RL_q rfl (Yd_move rfl) (RL_l rfl (Ld_call Try.func17 rfl (by kernel_rfl) rfl (Few_c A0 n0 c0 b 24 _ (hr0.ext hE) hn0 hc0 (by omega) (by omega) hz0) ?_)))))))))
  rintro e W1 ⟨A1, c1, rfl, hO, he1⟩
  refine ⟨_, rfl, ?_⟩
  replace hE := Ext.trans hE he1
  have hlt1 := hO.lt'
  have hs1 := he1.size
  refine RL_q rfl (Yd_assign rfl) (RL_nil (X_then (C_seq (C_region (RL_q rfl (Yd_move rfl) (RL_l rfl (Ld_call Try.func17 rfl (by kernel_rfl) rfl (Few_c A0 n0 c0 b 24 _ (hr0.ext hE) hn0 hc0 (by omega) (by omega) hz0) ?_)))))))
  rintro e W2 ⟨A2, c2, rfl, hP, he2⟩
  refine ⟨_, rfl, ?_⟩
  replace hE := Ext.trans hE he2
  replace hO := hO.ext he2
  have hRd := hP.rd
  have hs2 := he2.size
  refine RL_q rfl (Yd_build Try.bld38 rfl rfl) (RL_l rfl (Ld_box rfl ?_))
  intro W3 he3 hz3 hB
  replace hE := Ext.trans hE he3
  replace hO := hO.ext he3
  replace hP := hP.ext he3
  replace hRd := hRd.ext he3
  refine RL_q rfl (Yd_assign rfl) (RL_nil (X_then (C_seq (C_region (RL_q rfl (Yd_move rfl) (?_))))))
  have hs3 := he3.size
  have hR : RR 38 W1.heap.size W2.heap.size W3 W2.heap.size (some (few b 24)) := RR.new hB hRd hP.cap.1 (fun h => (hP.none_ h).1) (by omega) (fun ad h => (hP.lt' ad h).1) (Nat.le_refl _)
  refine RL_l rfl (Ld_call Try.func23 rfl (by kernel_rfl) rfl (lrRead_c A1 _ c1 (few b 24) _ hO.rd rfl (fun h => (hO.none_ h).1) (by omega)) ?_)
  rintro e W4 ⟨g, lim, rfl, hlim, hL, he4⟩
  refine ⟨_, rfl, ?_⟩
  replace hE := Ext.trans hE he4
  replace hO := hO.ext he4
  replace hR := hR.ext he4
  have hgl := hL.lim
  refine RL_q rfl (Yd_assign rfl) (RL_nil (X_then (C_seq (C_seq (C_region (RL_q rfl (Yd_move rfl) (RL_q rfl (Yd_eqlPN Try.underlying39 rfl rfl) (RL_nil (X_then (C_no rfl rfl (C_skip (X_then (C_seq (C_seq (C_region (RL_q rfl (Yd_move rfl) (RL_q rfl (Yd_len Try.underlying24 rfl) (RL_q rfl (Yd_gtr rfl rfl) (RL_nil (X_then (?_)))))))))))))))))))))
  refine C_cond rfl (fun hb => ?_) (fun hb => ?_)
  · skip
    have hb : (0 : Int) < (few b 24).length := of_decide_eq_true hb
    refine C_seq (C_region (RL_q rfl (Yd_move rfl) (RL_q rfl (Yd_move rfl) (RL_q rfl (Yd_len Try.underlying24 rfl) (RL_l rfl (Ld_call Try.func14 rfl (by kernel_rfl) rfl (Around_c at_ _ _ h1 h2 (by omega) (by omega)) ?_))))))
    rintro e W5 ⟨rfl, rfl⟩
    refine ⟨_, rfl, ?_⟩
    have hk := around_range at_ (m := ((few b 24).length : Int)) (by omega)
    generalize around at_ ((few b 24).length : Int) = k at hk ⊢
    obtain ⟨k, rfl⟩ := Int.eq_ofNat_of_zero_le hk.1
    have hk2 : k < (few b 24).length := by omega
    obtain ⟨gO, ys, rfl, hgO, hBO, hlO⟩ := hO.blk (by omega)
    have hgO1 : gO < W1.heap.size := (hlt1 _ rfl).2
    have hget := ints_get .u8 (few b 24) k hk2
    refine RL_q rfl (Yd_assign rfl) (RL_nil (X_then (C_region (RL_q rfl (Yd_move rfl) (RL_q rfl (Yd_move rfl) (RL_q rfl (Yd_move rfl) (RL_q rfl (Yd_move rfl) (RL_q rfl (Yd_idx Try.underlying24 (sz := 1) (by kernel_rfl) rfl rfl (by omega) (by omega)) (RL_q rfl (Yd_load Try.underlying5 rfl rfl (ldK hO.rd (by omega) hget (by omega))) (RL_q rfl (Yd_move rfl) (RL_q rfl (Yd_xor rfl rfl rfl) (RL_q rfl (Yd_idxL Try.underlying24 (sz := 1) (by kernel_rfl) rfl rfl (by omega) (by omega)) (RL_l0 (Ld_store (by kernel_rfl) rfl rfl hBO (by simp [cellsL, Value.cells]; omega) (by simp [cellsL, Value.cells, Value.oneCell']) ?_))))))))))))))
    intro W6 hu6 hz6 hBN
    replace hE := ext_but hE hu6 hgO
    replace hL := hL.kp (Kp.of_but1 hu6) (fun e => by omega) (fun k hk => by omega)
    replace hR := hR.kp (Kp.of_but1 hu6) (fun e => by omega) (fun k hk => by omega)
    refine RL_nil (X_then (C_seq (C_seq (C_region (RL_q rfl (Yd_assign rfl) (RL_nil (X_then (C_block (?_)))))))))
    refine C_loop (T := Nat × RS) (fun ⟨i, st⟩ => [(9, .pointer (some ⟨g, 0, none⟩)), (8, .pointer (some ⟨W2.heap.size, 0, none⟩)), (11, .int .i64 i)]) (fun ⟨i, st⟩ w1 => i ≤ 4 ∧ LR 75 W3.heap.size lim w1 g st ∧ RR 38 W1.heap.size W2.heap.size w1 W2.heap.size st ∧ rGood st ∧ Ext w w1) (fun ⟨i, st⟩ => 4 - i) (⟨0, some (few b 24)⟩) ⟨rfl, rfl, rfl, trivial⟩ ?_ ?_
    · exact ⟨by omega, hL, hR, hgood, hE⟩
    · rintro ⟨i, st⟩ w1 ⟨hi, hL, hR, hgd, hE⟩
      refine C_seq (C_seq (C_region (RL_q rfl (Yd_move rfl) (RL_q rfl (Yd_lss rfl rfl) (RL_nil (X_then (?_)))))))
      refine C_cond rfl (fun hb => ?_) (fun hb => ?_)
      · skip
        have hb : (i : Int) < 4 := of_decide_eq_true hb
        refine C_skip (X_then (C_seq (C_block (C_seq (C_region (RL_q rfl (Yd_move rfl) (RL_l rfl (Ld_call Try.func24 rfl (by kernel_rfl) rfl (lrUint_c _ g _ _ st hL hgd) ?_))))))))
        rintro e W7 ⟨rfl, hL, hu7⟩
        refine ⟨_, rfl, ?_⟩
        replace hR := hR.kp (Kp.of_but1 hu7) (fun e => by omega) (fun k hk => by omega)
        replace hE := ext_but hE hu7 (by omega)
        refine RL_q rfl (Yd_move rfl) (RL_l rfl (Ld_call Try.func25 rfl (by kernel_rfl) rfl (rrUint_c _ _ _ _ st hR hgd) ?_))
        rintro e W8 ⟨rfl, hR, hu8⟩
        refine ⟨_, rfl, ?_⟩
        replace hL := hL.kp (Kp.of_but1 hu8) (fun e => by omega) (fun k hk => by omega)
        replace hE := ext_but hE hu8 (by omega)
        replace hgd := (rUint_good hgd).1
        refine RL_q rfl (Yd_neq rfl rfl) (RL_q rfl (Yd_move rfl) (?_))
        refine RL_is (d := 47) (b' := false) rfl (by simp) ?_
        refine RL_gq rfl rfl rfl (Yd_move rfl) (RL_gl rfl rfl rfl (Ld_call Try.func26 rfl (by kernel_rfl) rfl (lrLeft_c _ g _ _ _ hL) ?_))
        rintro e W9 ⟨rfl, rfl⟩
        refine ⟨_, rfl, ?_⟩
        refine RL_gq rfl rfl rfl (Yd_move rfl) (RL_gl rfl rfl rfl (Ld_call Try.func27 rfl (by kernel_rfl) rfl (rrLeft_c _ _ _ _ _ hR) ?_))
        rintro e W10 ⟨rfl, he10⟩
        refine ⟨_, rfl, ?_⟩
        replace hL := hL.ext he10
        replace hR := hR.ext he10
        replace hE := Ext.trans hE he10
        refine RL_gq rfl rfl rfl (Yd_neq rfl rfl) (RL_q rfl (Yd_pickF rfl rfl) (RL_q rfl (Yd_move rfl) (?_)))
        refine RL_is (d := 54) (b' := false) rfl (by simp) ?_
        refine RL_gq rfl rfl rfl (Yd_move rfl) (RL_gl rfl rfl rfl (Ld_call Try.func28 rfl (by kernel_rfl) rfl (lrErrno_c _ g _ _ _ hL) ?_))
        rintro e W11 ⟨rfl, rfl⟩
        refine ⟨_, rfl, ?_⟩
        refine RL_gq rfl rfl rfl (Yd_move rfl) (RL_gl rfl rfl rfl (Ld_call Try.func29 rfl (by kernel_rfl) rfl (rrErrno_c _ _ _ _ _ hR) ?_))
        rintro e W12 ⟨rfl, he12⟩
        refine ⟨_, rfl, ?_⟩
        replace hL := hL.ext he12
        replace hR := hR.ext he12
        replace hE := Ext.trans hE he12
        refine RL_gq rfl rfl rfl (Yd_neq rfl rfl) (RL_q rfl (Yd_pickF rfl rfl) (RL_nil (X_then (?_))))
        refine C_no rfl (by simp) (C_skip (X_block (X_then (C_region (RL_q rfl (Yd_move rfl) (RL_q rfl (Yd_add rfl rfl (i64w (by omega) (by omega))) (RL_q rfl (Yd_assign rfl) (RL_nil (?_)))))))))
        refine X_again (⟨i + 1, (rUint st).2⟩) ⟨rfl, rfl, rfl, trivial⟩ ?_ (by first | omega | (dsimp only; omega))
        exact ⟨by omega, hL, hR, hgd, hE⟩
      · skip
        have hb : ¬ (i : Int) < 4 := of_decide_eq_false hb
        refine C_exit (X_thenE (X_thenE (X_blockE (X_then (C_seq (C_region (RL_l rfl (Ld_call Try.func16 rfl (by kernel_rfl) rfl (lives01_c _) ?_))))))))
        rintro e W7 ⟨rfl, he7⟩
        refine ⟨_, rfl, ?_⟩
        replace hL := hL.ext he7
        replace hR := hR.ext he7
        replace hE := Ext.trans hE he7
        refine RL_q rfl (Yd_assign rfl) (RL_nil (X_then (C_ret (X_ret1 rfl rfl ?_))))
        exact ⟨rfl, hE⟩
  · skip
    refine C_skip (X_then (C_seq (C_seq (C_region (RL_q rfl (Yd_assign rfl) (RL_nil (X_then (C_block (?_)))))))))
    refine C_loop (T := Nat × RS) (fun ⟨i, st⟩ => [(9, .pointer (some ⟨g, 0, none⟩)), (8, .pointer (some ⟨W2.heap.size, 0, none⟩)), (11, .int .i64 i)]) (fun ⟨i, st⟩ w1 => i ≤ 4 ∧ LR 75 W3.heap.size lim w1 g st ∧ RR 38 W1.heap.size W2.heap.size w1 W2.heap.size st ∧ rGood st ∧ Ext w w1) (fun ⟨i, st⟩ => 4 - i) (⟨0, some (few b 24)⟩) ⟨rfl, rfl, rfl, trivial⟩ ?_ ?_
    · exact ⟨by omega, hL, hR, hgood, hE⟩
    · rintro ⟨i, st⟩ w1 ⟨hi, hL, hR, hgd, hE⟩
      refine C_seq (C_seq (C_region (RL_q rfl (Yd_move rfl) (RL_q rfl (Yd_lss rfl rfl) (RL_nil (X_then (?_)))))))
      refine C_cond rfl (fun hb => ?_) (fun hb => ?_)
      · skip
        have hb : (i : Int) < 4 := of_decide_eq_true hb
        refine C_skip (X_then (C_seq (C_block (C_seq (C_region (RL_q rfl (Yd_move rfl) (RL_l rfl (Ld_call Try.func24 rfl (by kernel_rfl) rfl (lrUint_c _ g _ _ st hL hgd) ?_))))))))
        rintro e W5 ⟨rfl, hL, hu5⟩
        refine ⟨_, rfl, ?_⟩
        replace hR := hR.kp (Kp.of_but1 hu5) (fun e => by omega) (fun k hk => by omega)
        replace hE := ext_but hE hu5 (by omega)
        refine RL_q rfl (Yd_move rfl) (RL_l rfl (Ld_call Try.func25 rfl (by kernel_rfl) rfl (rrUint_c _ _ _ _ st hR hgd) ?_))
        rintro e W6 ⟨rfl, hR, hu6⟩
        refine ⟨_, rfl, ?_⟩
        replace hL := hL.kp (Kp.of_but1 hu6) (fun e => by omega) (fun k hk => by omega)
        replace hE := ext_but hE hu6 (by omega)
        replace hgd := (rUint_good hgd).1
        refine RL_q rfl (Yd_neq rfl rfl) (RL_q rfl (Yd_move rfl) (?_))
        refine RL_is (d := 47) (b' := false) rfl (by simp) ?_
        refine RL_gq rfl rfl rfl (Yd_move rfl) (RL_gl rfl rfl rfl (Ld_call Try.func26 rfl (by kernel_rfl) rfl (lrLeft_c _ g _ _ _ hL) ?_))
        rintro e W7 ⟨rfl, rfl⟩
        refine ⟨_, rfl, ?_⟩
        refine RL_gq rfl rfl rfl (Yd_move rfl) (RL_gl rfl rfl rfl (Ld_call Try.func27 rfl (by kernel_rfl) rfl (rrLeft_c _ _ _ _ _ hR) ?_))
        rintro e W8 ⟨rfl, he8⟩
        refine ⟨_, rfl, ?_⟩
        replace hL := hL.ext he8
        replace hR := hR.ext he8
        replace hE := Ext.trans hE he8
        refine RL_gq rfl rfl rfl (Yd_neq rfl rfl) (RL_q rfl (Yd_pickF rfl rfl) (RL_q rfl (Yd_move rfl) (?_)))
        refine RL_is (d := 54) (b' := false) rfl (by simp) ?_
        refine RL_gq rfl rfl rfl (Yd_move rfl) (RL_gl rfl rfl rfl (Ld_call Try.func28 rfl (by kernel_rfl) rfl (lrErrno_c _ g _ _ _ hL) ?_))
        rintro e W9 ⟨rfl, rfl⟩
        refine ⟨_, rfl, ?_⟩
        refine RL_gq rfl rfl rfl (Yd_move rfl) (RL_gl rfl rfl rfl (Ld_call Try.func29 rfl (by kernel_rfl) rfl (rrErrno_c _ _ _ _ _ hR) ?_))
        rintro e W10 ⟨rfl, he10⟩
        refine ⟨_, rfl, ?_⟩
        replace hL := hL.ext he10
        replace hR := hR.ext he10
        replace hE := Ext.trans hE he10
        refine RL_gq rfl rfl rfl (Yd_neq rfl rfl) (RL_q rfl (Yd_pickF rfl rfl) (RL_nil (X_then (?_))))
        refine C_no rfl (by simp) (C_skip (X_block (X_then (C_region (RL_q rfl (Yd_move rfl) (RL_q rfl (Yd_add rfl rfl (i64w (by omega) (by omega))) (RL_q rfl (Yd_assign rfl) (RL_nil (?_)))))))))
        refine X_again (⟨i + 1, (rUint st).2⟩) ⟨rfl, rfl, rfl, trivial⟩ ?_ (by first | omega | (dsimp only; omega))
        exact ⟨by omega, hL, hR, hgd, hE⟩
      · skip
        have hb : ¬ (i : Int) < 4 := of_decide_eq_false hb
        refine C_exit (X_thenE (X_thenE (X_blockE (X_then (C_seq (C_region (RL_l rfl (Ld_call Try.func16 rfl (by kernel_rfl) rfl (lives01_c _) ?_))))))))
        rintro e W5 ⟨rfl, he5⟩
        refine ⟨_, rfl, ?_⟩
        replace hL := hL.ext he5
        replace hR := hR.ext he5
        replace hE := Ext.trans hE he5
        refine RL_q rfl (Yd_assign rfl) (RL_nil (X_then (C_ret (X_ret1 rfl rfl ?_))))
        exact ⟨rfl, hE⟩
end Go.Proofs.AL
