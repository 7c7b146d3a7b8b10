import Derived.Test.YtfckeecfppmepaaRdr
set_option linter.unusedVariables false
namespace Go.Proofs.AL
open Go.RowKit
theorem LayReads_c (A0 : Option Addr) (n0 c0 : Nat) (b : List Int) (A1 : Option Addr) (n1 c1 : Nat) (qs : List (Int × Int)) (w : World) (hr0 : Rd w w.heap.size 1 A0 n0 (ints .u8 b)) (hn0 : b.length = n0) (hc0 : n0 ≤ c0) (hm0 : c0 ≤ maxLen) (hz0 : A0 = none → c0 = 0) (hby : Byt b) (hq : Rd w w.heap.size 2 A1 n1 (pairs qs)) (hqn : qs.length = n1) (hqb : ∀ p ∈ qs, -9223372036854775808 ≤ p.1 ∧ p.1 ≤ 9223372036854775807 ∧ -9223372036854775808 ≤ p.2 ∧ p.2 ≤ 9223372036854775807) :
    Calls Try.prog 6 #[.slice A0 n0 c0, .slice A1 n1 c1] w fun e w' => e = .returned (.bool true) ∧ Ext w w' := by
  unfold maxLen at *
  have h60 := few_le b 60 (by omega)
  have hgood : rGood (some (few b 60)) := ⟨few_byt hby 60, by omega⟩
  have hE := Ext.refl w
  refine calls_of (l := [.slice A0 n0 c0, .slice A1 n1 c1]) (N := 104) Try.func6 rfl rfl rfl ?_
  refine C_seq (C_region (RL_q rfl (Yd_assign rfl) (RL_nil (X_then (C_seq (C_region (RL_q rfl (Yd_move rfl) (RL_l rfl (Ld_call Try.func17 rfl (by kernel_rfl) rfl (Few_c A0 n0 c0 b 60 _ (hr0.ext hE) hn0 hc0 (by omega) (by omega) hz0) ?_)))))))))
  rintro e W1 ⟨A2, c2, rfl, hO, he1⟩
  refine ⟨_, rfl, ?_⟩
  replace hE := Ext.trans hE he1
  have hlt1 := hO.lt'
  have hs1 := he1.size
  have hRd := hO.rd
  refine RL_q rfl (Yd_assign rfl) (RL_nil (X_then (C_seq (C_region (RL_q rfl (Yd_move rfl) (RL_l rfl (Ld_call Try.func23 rfl (by kernel_rfl) rfl (lrRead_c A2 _ c2 (few b 60) _ hO.rd rfl (fun h => (hO.none_ h).1) (by omega)) ?_)))))))
  rintro e W2 ⟨g, lim, rfl, hlim, hL, he2⟩
  refine ⟨_, rfl, ?_⟩
  replace hE := Ext.trans hE he2
  replace hO := hO.ext he2
  replace hRd := hRd.ext he2
  have hgl := hL.lim
  have hgw := hL.lt
  have hs2 := he2.size
  refine RL_q rfl (Yd_assign rfl) (RL_nil (X_then (C_seq (C_seq (C_region (RL_q rfl (Yd_move rfl) (RL_q rfl (Yd_eqlPN Try.underlying39 rfl rfl) (RL_nil (X_then (C_no rfl rfl (C_skip (X_then (C_seq (C_region (RL_q rfl (Yd_move rfl) (RL_q rfl (Yd_build Try.bld38 rfl rfl) (RL_l rfl (Ld_box rfl ?_))))))))))))))))))
  intro W3 he3 hz3 hB
  replace hE := Ext.trans hE he3
  replace hO := hO.ext he3
  replace hRd := hRd.ext he3
  replace hL := hL.ext he3
  refine RL_q rfl (Yd_assign rfl) (RL_nil (X_then (C_seq (C_seq (C_region (RL_q rfl (Yd_assign rfl) (RL_nil (X_then (C_block (?_))))))))))
  have hs3 := he3.size
  have hR : RR 38 w.heap.size W1.heap.size W3 W2.heap.size (some (few b 60)) := RR.new hB hRd hO.cap.1 (fun h => (hO.none_ h).1) (by omega) (fun ad h => (hlt1 ad h).1) hs2
  refine C_loop (T := Nat × RS) (fun ⟨i, st⟩ => [(1, .slice A1 n1 c1), (6, .pointer (some ⟨g, 0, none⟩)), (7, .pointer (some ⟨W2.heap.size, 0, none⟩)), (8, .int .i64 i)]) (fun ⟨i, st⟩ w1 => i ≤ 8 ∧ LR 75 W1.heap.size lim w1 g st ∧ RR 38 w.heap.size W1.heap.size w1 W2.heap.size st ∧ rGood st ∧ Ext w w1) (fun ⟨i, st⟩ => 8 - i) (⟨0, some (few b 60)⟩) ⟨rfl, rfl, rfl, rfl, trivial⟩ ?_ ?_
  · exact ⟨by omega, hL, hR, hgood, hE⟩
  · rintro ⟨i, st⟩ w1 ⟨hi, hL, hR, hgd, hE⟩
    refine C_seq (C_seq (?_))
    by_cases hb : (i : Int) < n1
    · skip
      refine C_region (RL_q rfl (Yd_move rfl) (RL_q rfl (Yd_move rfl) (RL_q rfl (Yd_len Try.underlying46 rfl) (RL_q rfl (Yd_lss rfl rfl) (RL_q rfl (Yd_move rfl) (?_))))))
      refine RL_is (d := 23) (b' := true) rfl (decide_eq_true hb) ?_
      refine RL_gq rfl rfl rfl (Yd_move rfl) (RL_gq rfl rfl rfl (Yd_lss rfl rfl) (RL_q rfl (Yd_pickT rfl rfl) (RL_nil (X_then (?_)))))
      refine C_cond rfl (fun hb8 => ?_) (fun hb8 => ?_)
      · skip
        have hb8 : (i : Int) < 8 := of_decide_eq_true hb8
        obtain ⟨ad, rfl, _, _⟩ := hq.cells (by omega)
        have hiq : i < qs.length := by omega
        have hqi := hqb _ (List.getElem_mem hiq)
        refine C_skip (X_then (C_seq (C_block (C_seq (C_seq (C_region (RL_q rfl (Yd_move rfl) (RL_q rfl (Yd_move rfl) (RL_q rfl (Yd_idx Try.underlying46 (sz := 2) (by kernel_rfl) rfl rfl (by omega) (by omega)) (RL_q rfl (Yd_idxA Try.underlying47 (sz := 1) (by kernel_rfl) rfl rfl (by omega) (by omega)) (RL_q rfl (Yd_load Try.underlying3 rfl rfl (fun W hW => pairs_cell0 ((hq.ext hE).ext hW) hiq (by omega) (by omega) (by omega))) (RL_l rfl (Ld_call Try.func14 rfl (by kernel_rfl) rfl (Around_c _ _ _ hqi.1 hqi.2.1 (by omega) (by omega)) ?_)))))))))))))
        rintro e W4 ⟨rfl, rfl⟩
        refine ⟨_, rfl, ?_⟩
        refine RL_nil (X_then (C_block (C_seq (C_region (RL_q rfl (Yd_eql rfl rfl) (RL_q rfl (Yd_assign rfl) (RL_nil (X_then (?_)))))))))
        refine C_cond rfl (fun hb => ?_) (fun hb => ?_)
        · skip
          refine C_seq (C_region (RL_q rfl (Yd_move rfl) (RL_l rfl (Ld_call Try.func24 rfl (by kernel_rfl) rfl (lrUint_c _ g _ _ st hL hgd) ?_))))
          rintro e W5 ⟨rfl, hL, hu5⟩
          refine ⟨_, rfl, ?_⟩
          replace hR := hR.kp (Kp.of_but1 hu5) (fun e => by omega) (fun k hk => by omega)
          replace hE := ext_but hE hu5 (by omega)
          refine RL_q rfl (Yd_move rfl) (RL_l rfl (Ld_call Try.func25 rfl (by kernel_rfl) rfl (rrUint_c _ _ _ _ st hR hgd) ?_))
          rintro e W6 ⟨rfl, hR, hu6⟩
          refine ⟨_, rfl, ?_⟩
          replace hL := hL.kp (Kp.of_but1 hu6) (fun e => by omega) (fun k hk => by omega)
          replace hE := ext_but hE hu6 (by omega)
          replace hgd := (rUint_good hgd).1
          refine RL_q rfl (Yd_neq rfl rfl) (RL_nil (X_then (?_)))
          refine C_no rfl (by simp) (C_skip (X_block (X_then (C_seq (C_region (RL_q rfl (Yd_move rfl) (RL_l rfl (Ld_call Try.func28 rfl (by kernel_rfl) rfl (lrErrno_c _ g _ _ _ hL) ?_))))))))
          rintro e W7 ⟨rfl, rfl⟩
          refine ⟨_, rfl, ?_⟩
          refine RL_q rfl (Yd_move rfl) (RL_l rfl (Ld_call Try.func29 rfl (by kernel_rfl) rfl (rrErrno_c _ _ _ _ _ hR) ?_))
          rintro e W8 ⟨rfl, he8⟩
          refine ⟨_, rfl, ?_⟩
          replace hL := hL.ext he8
          replace hR := hR.ext he8
          replace hE := Ext.trans hE he8
          refine RL_q rfl (Yd_neq rfl rfl) (RL_q rfl (Yd_move rfl) (?_))
          refine RL_is (d := 89) (b' := false) rfl (by simp) ?_
          refine RL_gq rfl rfl rfl (Yd_move rfl) (RL_gl rfl rfl rfl (Ld_call Try.func26 rfl (by kernel_rfl) rfl (lrLeft_c _ g _ _ _ hL) ?_))
          rintro e W9 ⟨rfl, rfl⟩
          refine ⟨_, rfl, ?_⟩
          refine RL_gq rfl rfl rfl (Yd_move rfl) (RL_gl rfl rfl rfl (Ld_call Try.func27 rfl (by kernel_rfl) rfl (rrLeft_c _ _ _ _ _ hR) ?_))
          rintro e W10 ⟨rfl, he10⟩
          refine ⟨_, rfl, ?_⟩
          replace hL := hL.ext he10
          replace hR := hR.ext he10
          replace hE := Ext.trans hE he10
          refine RL_gq rfl rfl rfl (Yd_neq rfl rfl) (RL_q rfl (Yd_pickF rfl rfl) (RL_q rfl (Yd_move rfl) (?_)))
          refine RL_is (d := 96) (b' := false) rfl (by simp) ?_
          refine RL_gq rfl rfl rfl (Yd_move rfl) (RL_gl rfl rfl rfl (Ld_call Try.func33 rfl (by kernel_rfl) rfl (lrEnd_c _ g _ _ _ hL) ?_))
          rintro e W11 ⟨rfl, rfl⟩
          refine ⟨_, rfl, ?_⟩
          refine RL_gq rfl rfl rfl (Yd_move rfl) (RL_gl rfl rfl rfl (Ld_call Try.func34 rfl (by kernel_rfl) rfl (rrEnd_c _ _ _ _ _ hR) ?_))
          rintro e W12 ⟨rfl, he12⟩
          refine ⟨_, rfl, ?_⟩
          replace hL := hL.ext he12
          replace hR := hR.ext he12
          replace hE := Ext.trans hE he12
          refine RL_gq rfl rfl rfl (Yd_neq rfl rfl) (RL_q rfl (Yd_pickF rfl rfl) (RL_nil (X_then (?_))))
          refine C_no rfl (by simp) (C_skip (X_block (X_then (C_region (RL_q rfl (Yd_move rfl) (RL_q rfl (Yd_add rfl rfl (i64w (by omega) (by omega))) (RL_q rfl (Yd_assign rfl) (RL_nil (?_)))))))))
          refine X_again (⟨i + 1, (rUint st).2⟩) ⟨rfl, rfl, rfl, rfl, trivial⟩ ?_ (by first | omega | (dsimp only; omega))
          exact ⟨by omega, hL, hR, hgd, hE⟩
        · skip
          refine C_seq (C_region (RL_q rfl (Yd_eql rfl rfl) (RL_q rfl (Yd_assign rfl) (RL_nil (X_then (?_))))))
          refine C_cond rfl (fun hb => ?_) (fun hb => ?_)
          · skip
            refine C_seq (C_region (RL_q rfl (Yd_move rfl) (RL_l rfl (Ld_call Try.func30 rfl (by kernel_rfl) rfl (lrInt_c _ g _ _ st hL hgd) ?_))))
            rintro e W5 ⟨rfl, hL, hu5⟩
            refine ⟨_, rfl, ?_⟩
            replace hR := hR.kp (Kp.of_but1 hu5) (fun e => by omega) (fun k hk => by omega)
            replace hE := ext_but hE hu5 (by omega)
            refine RL_q rfl (Yd_move rfl) (RL_l rfl (Ld_call Try.func25 rfl (by kernel_rfl) rfl (rrUint_c _ _ _ _ st hR hgd) ?_))
            rintro e W6 ⟨rfl, hR, hu6⟩
            refine ⟨_, rfl, ?_⟩
            replace hL := hL.kp (Kp.of_but1 hu6) (fun e => by omega) (fun k hk => by omega)
            replace hE := ext_but hE hu6 (by omega)
            replace hgd := (rUint_good hgd).1
            refine RL_q rfl (Yd_conv ⟨_, Try.underlying28⟩ Try.underlying3 rfl rfl) (RL_q rfl (Yd_neq rfl rfl) (RL_nil (X_then (?_))))
            refine C_no rfl (by simp) (C_skip (X_block (X_then (C_seq (C_region (RL_q rfl (Yd_move rfl) (RL_l rfl (Ld_call Try.func28 rfl (by kernel_rfl) rfl (lrErrno_c _ g _ _ _ hL) ?_))))))))
            rintro e W7 ⟨rfl, rfl⟩
            refine ⟨_, rfl, ?_⟩
            refine RL_q rfl (Yd_move rfl) (RL_l rfl (Ld_call Try.func29 rfl (by kernel_rfl) rfl (rrErrno_c _ _ _ _ _ hR) ?_))
            rintro e W8 ⟨rfl, he8⟩
            refine ⟨_, rfl, ?_⟩
            replace hL := hL.ext he8
            replace hR := hR.ext he8
            replace hE := Ext.trans hE he8
            refine RL_q rfl (Yd_neq rfl rfl) (RL_q rfl (Yd_move rfl) (?_))
            refine RL_is (d := 89) (b' := false) rfl (by simp) ?_
            refine RL_gq rfl rfl rfl (Yd_move rfl) (RL_gl rfl rfl rfl (Ld_call Try.func26 rfl (by kernel_rfl) rfl (lrLeft_c _ g _ _ _ hL) ?_))
            rintro e W9 ⟨rfl, rfl⟩
            refine ⟨_, rfl, ?_⟩
            refine RL_gq rfl rfl rfl (Yd_move rfl) (RL_gl rfl rfl rfl (Ld_call Try.func27 rfl (by kernel_rfl) rfl (rrLeft_c _ _ _ _ _ hR) ?_))
            rintro e W10 ⟨rfl, he10⟩
            refine ⟨_, rfl, ?_⟩
            replace hL := hL.ext he10
            replace hR := hR.ext he10
            replace hE := Ext.trans hE he10
            refine RL_gq rfl rfl rfl (Yd_neq rfl rfl) (RL_q rfl (Yd_pickF rfl rfl) (RL_q rfl (Yd_move rfl) (?_)))
            refine RL_is (d := 96) (b' := false) rfl (by simp) ?_
            refine RL_gq rfl rfl rfl (Yd_move rfl) (RL_gl rfl rfl rfl (Ld_call Try.func33 rfl (by kernel_rfl) rfl (lrEnd_c _ g _ _ _ hL) ?_))
            rintro e W11 ⟨rfl, rfl⟩
            refine ⟨_, rfl, ?_⟩
            refine RL_gq rfl rfl rfl (Yd_move rfl) (RL_gl rfl rfl rfl (Ld_call Try.func34 rfl (by kernel_rfl) rfl (rrEnd_c _ _ _ _ _ hR) ?_))
            rintro e W12 ⟨rfl, he12⟩
            refine ⟨_, rfl, ?_⟩
            replace hL := hL.ext he12
            replace hR := hR.ext he12
            replace hE := Ext.trans hE he12
            refine RL_gq rfl rfl rfl (Yd_neq rfl rfl) (RL_q rfl (Yd_pickF rfl rfl) (RL_nil (X_then (?_))))
            refine C_no rfl (by simp) (C_skip (X_block (X_then (C_region (RL_q rfl (Yd_move rfl) (RL_q rfl (Yd_add rfl rfl (i64w (by omega) (by omega))) (RL_q rfl (Yd_assign rfl) (RL_nil (?_)))))))))
            refine X_again (⟨i + 1, (rUint st).2⟩) ⟨rfl, rfl, rfl, rfl, trivial⟩ ?_ (by first | omega | (dsimp only; omega))
            exact ⟨by omega, hL, hR, hgd, hE⟩
          · skip
            refine C_seq (C_region (RL_q rfl (Yd_eql rfl rfl) (RL_q rfl (Yd_assign rfl) (RL_nil (X_then (?_))))))
            refine C_cond rfl (fun hb => ?_) (fun hb => ?_)
            · skip
              refine C_seq (C_region (RL_q rfl (Yd_move rfl) (RL_q rfl (Yd_move rfl) (RL_q rfl (Yd_idx Try.underlying46 (sz := 2) (by kernel_rfl) rfl rfl (by omega) (by omega)) (RL_q rfl (Yd_idxA Try.underlying47 (sz := 1) (by kernel_rfl) rfl rfl (by omega) (by omega)) (RL_q rfl (Yd_load Try.underlying3 rfl rfl (fun W hW => pairs_cell1 ((hq.ext hE).ext hW) hiq (by omega) (by omega) (by omega))) (RL_l rfl (Ld_call Try.func14 rfl (by kernel_rfl) rfl (Around_c _ _ _ hqi.2.2.1 hqi.2.2.2 (by omega) (by omega)) ?_))))))))
              rintro e W5 ⟨rfl, rfl⟩
              refine ⟨_, rfl, ?_⟩
              have hmr := around_range qs[i].2 (m := 31) (by omega)
              refine RL_q rfl (Yd_assign rfl) (RL_nil (X_then (C_seq (?_))))
              refine C_regionD (fun k => k = g ∨ k = W2.heap.size) (l := [(0, true), (1, true), (4, true), (5, true), (2, false), (3, true), (6, false), (7, true), (8, true)]) (by kernel_rfl) (by kernel_rfl) rfl (by kernel_rfl) (fun _ _ d _ _ h => by cases d <;> exact h) ?_
              intro W6 he6 hh6
              replace hL := hL.ext he6
              replace hR := hR.ext he6
              replace hE := Ext.trans hE he6
              refine RO_q rfl rfl (Yd_move rfl) (RO_q rfl rfl (Yd_move rfl) (RO_q rfl rfl (Yd_move rfl) (RO_q rfl rfl (Yd_move rfl) (RO_l rfl rfl (Ld_call Try.func31 rfl (by kernel_rfl) rfl (lrBytes_c _ g _ _ st (around qs[i].2 31) hL hgd (by omega)) ?_)))))
              rintro e W7 ⟨A8, c8, rfl, hX, hc8, hz8, hL, hu7⟩
              refine ⟨_, rfl, Kp.of_but hu7 (.inl rfl), ?_⟩
              replace hR := hR.kp (Kp.of_but1 hu7) (fun e => by omega) (fun k hk => by omega)
              replace hE := ext_but hE hu7 (by omega)
              refine RO_q rfl rfl (Yd_str Try.underlying24 Try.underlying5 Try.underlying9 rfl (fun W hW => hX.kpl hW (fun k hk => by rcases hk with rfl | rfl <;> omega))) (RO_l rfl rfl (Ld_call Try.func32 rfl (by kernel_rfl) rfl (rrBytes_c _ _ _ _ st (around qs[i].2 31) hR hgd (by omega)) ?_))
              rintro e W8 ⟨A9, c9, rfl, hY, hc9, hz9, hR, hu8⟩
              refine ⟨_, rfl, Kp.of_but hu8 (.inr rfl), ?_⟩
              replace hL := hL.kp (Kp.of_but1 hu8) (fun e => by omega) (fun k hk => by omega)
              replace hE := ext_but hE hu8 (by omega)
              replace hgd := (rBytes_good (around qs[i].2 31) hgd).1
              refine RO_q rfl rfl (Yd_str Try.underlying24 Try.underlying5 Try.underlying9 rfl (fun W hW => hY.kpl hW (fun k hk => by rcases hk with rfl | rfl <;> omega))) (RO_q rfl rfl (Yd_neqS rfl rfl) (RO_nil (X_then (?_))))
              refine C_no rfl (by rw [str_eq rfl]; rfl) (C_skip (X_block (X_then (C_seq (C_region (RL_q rfl (Yd_move rfl) (RL_l rfl (Ld_call Try.func28 rfl (by kernel_rfl) rfl (lrErrno_c _ g _ _ _ hL) ?_))))))))
              rintro e W9 ⟨rfl, rfl⟩
              refine ⟨_, rfl, ?_⟩
              refine RL_q rfl (Yd_move rfl) (RL_l rfl (Ld_call Try.func29 rfl (by kernel_rfl) rfl (rrErrno_c _ _ _ _ _ hR) ?_))
              rintro e W10 ⟨rfl, he10⟩
              refine ⟨_, rfl, ?_⟩
              replace hL := hL.ext he10
              replace hR := hR.ext he10
              replace hE := Ext.trans hE he10
              refine RL_q rfl (Yd_neq rfl rfl) (RL_q rfl (Yd_move rfl) (?_))
              refine RL_is (d := 89) (b' := false) rfl (by simp) ?_
              refine RL_gq rfl rfl rfl (Yd_move rfl) (RL_gl rfl rfl rfl (Ld_call Try.func26 rfl (by kernel_rfl) rfl (lrLeft_c _ g _ _ _ hL) ?_))
              rintro e W11 ⟨rfl, rfl⟩
              refine ⟨_, rfl, ?_⟩
              refine RL_gq rfl rfl rfl (Yd_move rfl) (RL_gl rfl rfl rfl (Ld_call Try.func27 rfl (by kernel_rfl) rfl (rrLeft_c _ _ _ _ _ hR) ?_))
              rintro e W12 ⟨rfl, he12⟩
              refine ⟨_, rfl, ?_⟩
              replace hL := hL.ext he12
              replace hR := hR.ext he12
              replace hE := Ext.trans hE he12
              refine RL_gq rfl rfl rfl (Yd_neq rfl rfl) (RL_q rfl (Yd_pickF rfl rfl) (RL_q rfl (Yd_move rfl) (?_)))
              refine RL_is (d := 96) (b' := false) rfl (by simp) ?_
              refine RL_gq rfl rfl rfl (Yd_move rfl) (RL_gl rfl rfl rfl (Ld_call Try.func33 rfl (by kernel_rfl) rfl (lrEnd_c _ g _ _ _ hL) ?_))
              rintro e W13 ⟨rfl, rfl⟩
              refine ⟨_, rfl, ?_⟩
              refine RL_gq rfl rfl rfl (Yd_move rfl) (RL_gl rfl rfl rfl (Ld_call Try.func34 rfl (by kernel_rfl) rfl (rrEnd_c _ _ _ _ _ hR) ?_))
              rintro e W14 ⟨rfl, he14⟩
              refine ⟨_, rfl, ?_⟩
              replace hL := hL.ext he14
              replace hR := hR.ext he14
              replace hE := Ext.trans hE he14
              refine RL_gq rfl rfl rfl (Yd_neq rfl rfl) (RL_q rfl (Yd_pickF rfl rfl) (RL_nil (X_then (?_))))
              refine C_no rfl (by simp) (C_skip (X_block (X_then (C_region (RL_q rfl (Yd_move rfl) (RL_q rfl (Yd_add rfl rfl (i64w (by omega) (by omega))) (RL_q rfl (Yd_assign rfl) (RL_nil (?_)))))))))
              refine X_again (⟨i + 1, (rBytes (around qs[i].2 31) st).2⟩) ⟨rfl, rfl, rfl, rfl, trivial⟩ ?_ (by first | omega | (dsimp only; omega))
              exact ⟨by omega, hL, hR, hgd, hE⟩
            · skip
              refine C_seq (?_)
              refine C_regionD (fun k => k = g ∨ k = W2.heap.size) (l := [(0, true), (1, true), (2, true), (3, true), (4, true), (5, true), (8, true), (9, true), (10, true), (11, true), (12, true), (13, true), (6, false), (7, true), (14, false), (15, true), (16, true)]) (by kernel_rfl) (by kernel_rfl) rfl (by kernel_rfl) (fun _ _ d _ _ h => by cases d <;> exact h) ?_
              intro W5 he5 hh5
              replace hL := hL.ext he5
              replace hR := hR.ext he5
              replace hE := Ext.trans hE he5
              refine RO_q rfl rfl (Yd_move rfl) (RO_q rfl rfl (Yd_move rfl) (RO_q rfl rfl (Yd_move rfl) (RO_q rfl rfl (Yd_idx Try.underlying46 (sz := 2) (by kernel_rfl) rfl rfl (by omega) (by omega)) (RO_q rfl rfl (Yd_idxA Try.underlying47 (sz := 1) (by kernel_rfl) rfl rfl (by omega) (by omega)) (RO_q rfl rfl (Yd_load Try.underlying3 rfl rfl (fun W hW => pairs_cell1 ((hq.ext hE).kpl hW (fun k hk => by rcases hk with rfl | rfl <;> omega)) hiq (by omega) (by omega) (by omega))) (RO_q rfl rfl (Yd_move rfl) (RO_q rfl rfl (Yd_move rfl) (RO_q rfl rfl (Yd_move rfl) (RO_q rfl rfl (Yd_idx Try.underlying46 (sz := 2) (by kernel_rfl) rfl rfl (by omega) (by omega)) (RO_q rfl rfl (Yd_idxA Try.underlying47 (sz := 1) (by kernel_rfl) rfl rfl (by omega) (by omega)) (RO_q rfl rfl (Yd_load Try.underlying3 rfl rfl (fun W hW => pairs_cell1 ((hq.ext hE).kpl hW (fun k hk => by rcases hk with rfl | rfl <;> omega)) hiq (by omega) (by omega) (by omega))) (RO_l rfl rfl (Ld_call Try.func31 rfl (by kernel_rfl) rfl (lrBytes_c _ g _ _ st qs[i].2 hL hgd hqi.2.2.2) ?_)))))))))))))
              rintro e W6 ⟨A8, c8, rfl, hX, hc8, hz8, hL, hu6⟩
              refine ⟨_, rfl, Kp.of_but hu6 (.inl rfl), ?_⟩
              replace hR := hR.kp (Kp.of_but1 hu6) (fun e => by omega) (fun k hk => by omega)
              replace hE := ext_but hE hu6 (by omega)
              refine RO_q rfl rfl (Yd_str Try.underlying24 Try.underlying5 Try.underlying9 rfl (fun W hW => hX.kpl hW (fun k hk => by rcases hk with rfl | rfl <;> omega))) (RO_l rfl rfl (Ld_call Try.func32 rfl (by kernel_rfl) rfl (rrBytes_c _ _ _ _ st qs[i].2 hR hgd hqi.2.2.2) ?_))
              rintro e W7 ⟨A9, c9, rfl, hY, hc9, hz9, hR, hu7⟩
              refine ⟨_, rfl, Kp.of_but hu7 (.inr rfl), ?_⟩
              replace hL := hL.kp (Kp.of_but1 hu7) (fun e => by omega) (fun k hk => by omega)
              replace hE := ext_but hE hu7 (by omega)
              replace hgd := (rBytes_good qs[i].2 hgd).1
              refine RO_q rfl rfl (Yd_str Try.underlying24 Try.underlying5 Try.underlying9 rfl (fun W hW => hY.kpl hW (fun k hk => by rcases hk with rfl | rfl <;> omega))) (RO_q rfl rfl (Yd_neqS rfl rfl) (RO_nil (X_then (?_))))
              refine C_no rfl (by rw [str_eq rfl]; rfl) (C_skip (X_block (X_then (C_seq (C_region (RL_q rfl (Yd_move rfl) (RL_l rfl (Ld_call Try.func28 rfl (by kernel_rfl) rfl (lrErrno_c _ g _ _ _ hL) ?_))))))))
              rintro e W8 ⟨rfl, rfl⟩
              refine ⟨_, rfl, ?_⟩
              refine RL_q rfl (Yd_move rfl) (RL_l rfl (Ld_call Try.func29 rfl (by kernel_rfl) rfl (rrErrno_c _ _ _ _ _ hR) ?_))
              rintro e W9 ⟨rfl, he9⟩
              refine ⟨_, rfl, ?_⟩
              replace hL := hL.ext he9
              replace hR := hR.ext he9
              replace hE := Ext.trans hE he9
              refine RL_q rfl (Yd_neq rfl rfl) (RL_q rfl (Yd_move rfl) (?_))
              refine RL_is (d := 89) (b' := false) rfl (by simp) ?_
              refine RL_gq rfl rfl rfl (Yd_move rfl) (RL_gl rfl rfl rfl (Ld_call Try.func26 rfl (by kernel_rfl) rfl (lrLeft_c _ g _ _ _ hL) ?_))
              rintro e W10 ⟨rfl, rfl⟩
              refine ⟨_, rfl, ?_⟩
              refine RL_gq rfl rfl rfl (Yd_move rfl) (RL_gl rfl rfl rfl (Ld_call Try.func27 rfl (by kernel_rfl) rfl (rrLeft_c _ _ _ _ _ hR) ?_))
              rintro e W11 ⟨rfl, he11⟩
              refine ⟨_, rfl, ?_⟩
              replace hL := hL.ext he11
              replace hR := hR.ext he11
              replace hE := Ext.trans hE he11
              refine RL_gq rfl rfl rfl (Yd_neq rfl rfl) (RL_q rfl (Yd_pickF rfl rfl) (RL_q rfl (Yd_move rfl) (?_)))
              refine RL_is (d := 96) (b' := false) rfl (by simp) ?_
              refine RL_gq rfl rfl rfl (Yd_move rfl) (RL_gl rfl rfl rfl (Ld_call Try.func33 rfl (by kernel_rfl) rfl (lrEnd_c _ g _ _ _ hL) ?_))
              rintro e W12 ⟨rfl, rfl⟩
              refine ⟨_, rfl, ?_⟩
              refine RL_gq rfl rfl rfl (Yd_move rfl) (RL_gl rfl rfl rfl (Ld_call Try.func34 rfl (by kernel_rfl) rfl (rrEnd_c _ _ _ _ _ hR) ?_))
              rintro e W13 ⟨rfl, he13⟩
              refine ⟨_, rfl, ?_⟩
              replace hL := hL.ext he13
              replace hR := hR.ext he13
              replace hE := Ext.trans hE he13
              refine RL_gq rfl rfl rfl (Yd_neq rfl rfl) (RL_q rfl (Yd_pickF rfl rfl) (RL_nil (X_then (?_))))
              refine C_no rfl (by simp) (C_skip (X_block (X_then (C_region (RL_q rfl (Yd_move rfl) (RL_q rfl (Yd_add rfl rfl (i64w (by omega) (by omega))) (RL_q rfl (Yd_assign rfl) (RL_nil (?_)))))))))
              refine X_again (⟨i + 1, (rBytes qs[i].2 st).2⟩) ⟨rfl, rfl, rfl, rfl, trivial⟩ ?_ (by first | omega | (dsimp only; omega))
              exact ⟨by omega, hL, hR, hgd, hE⟩
      · skip
        refine C_exit (X_thenE (X_thenE (X_blockE (X_then (C_seq (C_region (RL_l rfl (Ld_call Try.func16 rfl (by kernel_rfl) rfl (lives01_c _) ?_))))))))
        rintro e W4 ⟨rfl, he4⟩
        refine ⟨_, rfl, ?_⟩
        replace hL := hL.ext he4
        replace hR := hR.ext he4
        replace hE := Ext.trans hE he4
        refine RL_q rfl (Yd_assign rfl) (RL_nil (X_then (C_ret (X_ret1 rfl rfl ?_))))
        exact ⟨rfl, hE⟩
    · skip
      refine C_region (RL_q rfl (Yd_move rfl) (RL_q rfl (Yd_move rfl) (RL_q rfl (Yd_len Try.underlying46 rfl) (RL_q rfl (Yd_lss rfl rfl) (RL_q rfl (Yd_move rfl) (?_))))))
      refine RL_is (d := 23) (b' := false) rfl (decide_eq_false hb) ?_
      refine RL_gn rfl rfl rfl rfl (RL_gn rfl rfl rfl rfl (RL_q rfl (Yd_pickF rfl rfl) (RL_nil (X_then (C_no rfl rfl (C_exit (X_thenE (X_thenE (X_blockE (X_then (C_seq (C_region (RL_l rfl (Ld_call Try.func16 rfl (by kernel_rfl) rfl (lives01_c _) ?_))))))))))))))
      rintro e W4 ⟨rfl, he4⟩
      refine ⟨_, rfl, ?_⟩
      replace hL := hL.ext he4
      replace hR := hR.ext he4
      replace hE := Ext.trans hE he4
      refine RL_q rfl (Yd_assign rfl) (RL_nil (X_then (C_ret (X_ret1 rfl rfl ?_))))
      exact ⟨rfl, hE⟩
end Go.Proofs.AL
