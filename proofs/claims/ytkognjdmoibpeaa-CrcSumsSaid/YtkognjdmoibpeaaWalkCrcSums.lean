import Derived.Test.YtkognjdmoibpeaaCrc
set_option linter.unusedVariables false
set_option linter.unusedSimpArgs false
namespace Go.Proofs.AL
open Go.RowKit
theorem CrcSums_c (A0 : Option Addr) (n0 c0 : Nat) (b : List Int) (m : Nat) (w : World) (hr0 : Rd w w.heap.size 1 A0 n0 (ints .u8 b)) (hn0 : b.length = n0) (hc0 : n0 ≤ c0) (hm0 : c0 ≤ maxLen) (hz0 : A0 = none → c0 = 0) (hy0 : Byt b) (h2 : m < 4294967296) :
    Calls Try.prog 3 #[.slice A0 n0 c0, .int .u32 (m : Int)] w fun e w' => e = .returned (.bool true) ∧ Ext w w' := by
  have hE := Ext.refl w
  have h60 := few_le b 60 (by omega)
  refine calls_of (l := [.slice A0 n0 c0, .int .u32 (m : Int)]) (N := 25) Try.func3 rfl rfl rfl ?_
  refine C_seq (C_region (RL_q rfl (Yd_assign rfl) (RL_nil (X_then (C_seq (C_region (RL_q rfl (Yd_move rfl) (RL_l rfl (Ld_call Try.func15 rfl (by kernel_rfl) rfl (Few_c A0 n0 c0 b 60 _ (hr0.ext hE) hn0 hc0 (by omega) (by omega) hz0) ?_)))))))))
  rintro e W1 ⟨A1, c1, rfl, hO, he1⟩
  refine ⟨_, rfl, ?_⟩
  replace hE := Ext.trans hE he1
  have hs1 := he1.size
  refine RL_q rfl (Yd_assign rfl) (RL_nil (X_then (C_seq (C_region (RL_q rfl (Yd_move rfl) (RL_l rfl (Ld_call Try.func16 rfl (by kernel_rfl) rfl (Sum_c A1 _ c1 (few b 60) _ hO.rd rfl (by omega) (few_byt hy0 60)) ?_)))))))
  rintro e W2 ⟨rfl, he2⟩
  refine ⟨_, rfl, ?_⟩
  replace hE := Ext.trans hE he2
  replace hO := hO.ext he2
  have hs2 := he2.size
  refine RL_q rfl (Yd_move rfl) (RL_l rfl (Ld_call Try.func17 rfl (by kernel_rfl) rfl (refMore_c A1 _ c1 0 (few b 60) _ hO.rd rfl (by omega) (few_byt hy0 60) (by omega)) ?_))
  rintro e W3 ⟨rfl, rfl⟩
  refine ⟨_, rfl, ?_⟩
  refine RL_q rfl (Yd_eql rfl rfl) (RL_q rfl (Yd_move rfl) (?_))
  refine RL_is (d := 13) (b' := true) rfl (by simp) ?_
  refine RL_gq rfl rfl rfl (Yd_move rfl) (RL_gq rfl rfl rfl (Yd_move rfl) (RL_gl rfl rfl rfl (Ld_call Try.func18 rfl (by kernel_rfl) rfl (More_c A1 _ c1 m (few b 60) _ hO.rd rfl (by omega) (few_byt hy0 60) (by omega)) ?_)))
  rintro e W4 ⟨rfl, he4⟩
  refine ⟨_, rfl, ?_⟩
  replace hE := Ext.trans hE he4
  replace hO := hO.ext he4
  have hs4 := he4.size
  refine RL_gq rfl rfl rfl (Yd_move rfl) (RL_gq rfl rfl rfl (Yd_move rfl) (RL_gl rfl rfl rfl (Ld_call Try.func17 rfl (by kernel_rfl) rfl (refMore_c A1 _ c1 m (few b 60) _ hO.rd rfl (by omega) (few_byt hy0 60) (by omega)) ?_)))
  rintro e W5 ⟨rfl, rfl⟩
  refine ⟨_, rfl, ?_⟩
  refine RL_gq rfl rfl rfl (Yd_eql rfl rfl) (RL_q rfl (Yd_pickT rfl rfl) (RL_q rfl (Yd_move rfl) (?_)))
  refine RL_is (d := 22) (b' := true) rfl (by simp) ?_
  refine RL_gl rfl rfl rfl (Ld_call Try.func19 rfl (by kernel_rfl) rfl (lives02_c _) ?_)
  rintro e W6 ⟨rfl, he6⟩
  refine ⟨_, rfl, ?_⟩
  replace hE := Ext.trans hE he6
  replace hO := hO.ext he6
  have hs6 := he6.size
  refine RL_q rfl (Yd_pickT rfl rfl) (RL_q rfl (Yd_assign rfl) (RL_nil (X_then (C_ret (X_ret1 rfl rfl ?_)))))
  exact ⟨rfl, hE⟩
end Go.Proofs.AL
