import Derived.Test.YtfckeecfppmepaaRdr
set_option linter.unusedVariables false
namespace Go.Proofs.AL
open Go.RowKit
theorem LayCuts_c (A0 : Option Addr) (n0 c0 : Nat) (b : List Int) (kk : Int) (w : World) (hr0 : Rd w w.heap.size 1 A0 n0 (ints .u8 b)) (hn0 : b.length = n0) (hc0 : n0 ≤ c0) (hm0 : c0 ≤ maxLen) (hz0 : A0 = none → c0 = 0) (hby : Byt b) (h1 : -9223372036854775808 ≤ kk) (h2 : kk ≤ 9223372036854775807) :
    Calls Try.prog 8 #[.slice A0 n0 c0, .int .i64 kk] w fun e w' => e = .returned (.bool true) ∧ Ext w w' := by
  unfold maxLen at *
  have h20 := few_le b 20 (by omega)
  have hE := Ext.refl w
  refine calls_of (l := [.slice A0 n0 c0, .int .i64 kk]) (N := 59) Try.func8 rfl rfl rfl ?_
  refine C_seq (C_region (RL_q rfl (Yd_assign rfl) (RL_nil (X_then (C_seq (C_region (RL_q rfl (Yd_move rfl) (RL_l rfl (Ld_call Try.func17 rfl (by kernel_rfl) rfl (Few_c A0 n0 c0 b 20 _ (hr0.ext hE) hn0 hc0 (by omega) (by omega) hz0) ?_)))))))))
  rintro e W1 ⟨A1, c1, rfl, hO, he1⟩
  refine ⟨_, rfl, ?_⟩
  replace hE := Ext.trans hE he1
  refine RL_l rfl (Ld_call Try.func19 rfl (by kernel_rfl) rfl (layBytes_c none A1 0 0 _ c1 [] (few b 20) _ (Rd.none _ 0 _) rfl (by omega) (fun _ => rfl) hO.rd rfl (fun h => (hO.none_ h).1) (by omega)) ?_)
  rintro e W2 ⟨A2, c2, rfl, hB, he2⟩
  refine ⟨_, rfl, ?_⟩
  replace hE := Ext.trans hE he2
  replace hO := hO.ext he2
  refine RL_q rfl (Yd_assign rfl) (RL_nil (X_then (C_seq (C_seq (C_region (RL_q rfl (Yd_move rfl) (RL_q rfl (Yd_len Try.underlying24 rfl) (RL_q rfl (Yd_eql rfl rfl) (RL_nil (X_then (?_)))))))))))
  refine C_no rfl (decide_eq_false (by omega)) (C_skip (X_then (C_seq (C_region (RL_q rfl (Yd_move rfl) (RL_q rfl (Yd_move rfl) (RL_q rfl (Yd_len Try.underlying24 rfl) (RL_l rfl (Ld_call Try.func14 rfl (by kernel_rfl) rfl (Around_c kk _ _ h1 h2 (by omega) (by omega)) ?_)))))))))
  rintro e W3 ⟨rfl, rfl⟩
  refine ⟨_, rfl, ?_⟩
  have hk := around_range kk (m := ((0 + 8 + (few b 20).length : Nat) : Int)) (by omega)
  generalize around kk ((0 + 8 + (few b 20).length : Nat) : Int) = k at hk ⊢
  obtain ⟨k, rfl⟩ := Int.eq_ofNat_of_zero_le hk.1
  have hcap := hB.cap
  have hcut := cut_text (few b 20) k (by rw [text_len]; omega) (by omega)
  have hB2 : Rd W2 W2.heap.size 1 A2 k (ints .u8 ((text (few b 20)).take k)) := by
    have := hB.rd.take1 (m := k) (by omega)
    rwa [ints_take] at this
  have hlk : ((text (few b 20)).take k).length = k := take_len (by rw [text_len]; omega)
  have hgood : rGood (some ((text (few b 20)).take k)) := ⟨(text_byt (few_byt hby 20)).take k, by rw [hlk]; omega⟩
  refine RL_q rfl (Yd_assign rfl) (RL_nil (X_then (C_seq (C_region (RL_q rfl (Yd_move rfl) (RL_q rfl (Yd_move rfl) (RL_q rfl (Yd_sliceH Try.underlying24 (sz := 1) (by kernel_rfl) rfl rfl (by omega) (by omega)) (?_))))))))
  have hsz := hE.size
  refine RL_l rfl (Ld_call Try.func23 rfl (by kernel_rfl) rfl (lrRead_c A2 k c2 _ _ hB2 hlk (fun h => (hB.none_ h).1) (by omega)) ?_)
  rintro e W4 ⟨g, lim, rfl, hlim, hL, he4⟩
  refine ⟨_, rfl, ?_⟩
  replace hE := Ext.trans hE he4
  replace hO := hO.ext he4
  replace hB := hB.ext he4
  replace hB2 := hB2.ext he4
  have hgl := hL.lim
  refine RL_q rfl (Yd_assign rfl) (RL_nil (X_then (C_seq (C_seq (C_region (RL_q rfl (Yd_move rfl) (RL_q rfl (Yd_eqlPN Try.underlying39 rfl rfl) (RL_nil (X_then (C_no rfl rfl (C_skip (X_then (C_seq (C_region (RL_q rfl (Yd_move rfl) (?_))))))))))))))))
  refine RL_l rfl (Ld_call Try.func31 rfl (by kernel_rfl) rfl (lrBytes_c _ g _ _ _ 20 hL hgood (by omega)) ?_)
  rintro e W5 ⟨A8, c8, rfl, hR8, hc8, hz8, hL, hu5⟩
  refine ⟨_, rfl, ?_⟩
  replace hE := ext_but hE hu5 (by omega)
  rw [hcut] at hL ⊢
  refine RL_q rfl (Yd_assign rfl) (RL_nil (X_then (C_seq (C_region (RL_q rfl (Yd_move rfl) (RL_q rfl (Yd_len Try.underlying24 rfl) (RL_q rfl (Yd_eql rfl rfl) (RL_q rfl (Yd_move rfl) (?_)))))))))
  refine RL_is (d := 30) (b' := true) rfl (rfl) ?_
  refine RL_gq rfl rfl rfl (Yd_move rfl) (RL_gl rfl rfl rfl (Ld_call Try.func28 rfl (by kernel_rfl) rfl (lrErrno_c _ g _ _ none hL) ?_))
  rintro e W6 ⟨rfl, rfl⟩
  refine ⟨_, rfl, ?_⟩
  refine RL_gq rfl rfl rfl (Yd_eql rfl rfl) (RL_q rfl (Yd_pickT rfl rfl) (RL_q rfl (Yd_move rfl) (?_)))
  refine RL_is (d := 35) (b' := true) rfl (rfl) ?_
  refine RL_gq rfl rfl rfl (Yd_move rfl) (RL_gl rfl rfl rfl (Ld_call Try.func26 rfl (by kernel_rfl) rfl (lrLeft_c _ g _ _ none hL) ?_))
  rintro e W7 ⟨rfl, rfl⟩
  refine ⟨_, rfl, ?_⟩
  refine RL_gq rfl rfl rfl (Yd_eql rfl rfl) (RL_q rfl (Yd_pickT rfl rfl) (RL_q rfl (Yd_move rfl) (?_)))
  refine RL_is (d := 40) (b' := true) rfl (rfl) ?_
  refine RL_gq rfl rfl rfl (Yd_move rfl) (RL_gl rfl rfl rfl (Ld_call Try.func30 rfl (by kernel_rfl) rfl (lrInt_c _ g _ _ none hL trivial) ?_))
  rintro e W8 ⟨rfl, hL, hu8⟩
  refine ⟨_, rfl, ?_⟩
  replace hE := ext_but hE hu8 (by omega)
  have hL : LR 75 _ _ W8 g none := hL
  refine RL_gq rfl rfl rfl (Yd_eql rfl rfl) (RL_q rfl (Yd_pickT rfl rfl) (RL_q rfl (Yd_move rfl) (?_)))
  refine RL_is (d := 45) (b' := true) rfl (rfl) ?_
  refine RL_gq rfl rfl rfl (Yd_move rfl) (RL_gl rfl rfl rfl (Ld_call Try.func31 rfl (by kernel_rfl) rfl (lrBytes_c _ g _ _ none 9 hL trivial (by omega)) ?_))
  rintro e W9 ⟨A9, c9, rfl, hR9, hc9, hz9, hL, hu9⟩
  refine ⟨_, rfl, ?_⟩
  replace hE := ext_but hE hu9 (by omega)
  rw [rBytes_none] at hL ⊢
  refine RL_gq rfl rfl rfl (Yd_len Try.underlying24 rfl) (RL_gq rfl rfl rfl (Yd_eql rfl rfl) (RL_q rfl (Yd_pickT rfl rfl) (RL_q rfl (Yd_move rfl) (?_))))
  refine RL_is (d := 51) (b' := true) rfl (rfl) ?_
  refine RL_gq rfl rfl rfl (Yd_move rfl) (RL_gl rfl rfl rfl (Ld_call Try.func33 rfl (by kernel_rfl) rfl (lrEnd_c _ g _ _ none hL) ?_))
  rintro e W10 ⟨rfl, rfl⟩
  refine ⟨_, rfl, ?_⟩
  refine RL_gq rfl rfl rfl (Yd_eql rfl rfl) (RL_q rfl (Yd_pickT rfl rfl) (RL_q rfl (Yd_move rfl) (?_)))
  refine RL_is (d := 56) (b' := true) rfl (rfl) ?_
  refine RL_gl rfl rfl rfl (Ld_call Try.func16 rfl (by kernel_rfl) rfl (lives01_c _) ?_)
  rintro e W11 ⟨rfl, he11⟩
  refine ⟨_, rfl, ?_⟩
  replace hE := Ext.trans hE he11
  refine RL_q rfl (Yd_pickT rfl rfl) (RL_q rfl (Yd_assign rfl) (RL_nil (X_then (C_ret (X_ret1 rfl rfl ?_)))))
  exact ⟨rfl, hE⟩
end Go.Proofs.AL
