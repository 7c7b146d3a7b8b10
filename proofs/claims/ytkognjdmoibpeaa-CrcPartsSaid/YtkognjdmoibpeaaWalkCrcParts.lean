import Derived.Test.YtkognjdmoibpeaaCrc
set_option linter.unusedVariables false
set_option linter.unusedSimpArgs false
namespace Go.Proofs.AL
open Go.RowKit

theorem cmore_parts (a b : List Int) (hy : Byt a) : cmore (cmore 0 a) b = cmore 0 (a ++ b) := by
  have h := creg_lt (n := 4294967295) (by omega) (l := a) hy
  unfold cmore
  rw [creg_append, Nat.sub_zero, show 4294967295 - (4294967295 - creg 4294967295 a) = creg 4294967295 a from by omega]
theorem cmore_nil (n : Nat) (h : n < 4294967296) : cmore n [] = n := by unfold cmore creg; omega
theorem cmore_lt (n : Nat) (l : List Int) : cmore n l < 4294967296 := by unfold cmore; omega
theorem CrcParts_c (A0 : Option Addr) (n0 c0 : Nat) (a : List Int) (A1 : Option Addr) (n1 c1 : Nat) (b : List Int) (w : World) (hr0 : Rd w w.heap.size 1 A0 n0 (ints .u8 a)) (hn0 : a.length = n0) (hc0 : n0 ≤ c0) (hm0 : c0 ≤ maxLen) (hz0 : A0 = none → c0 = 0) (hy0 : Byt a) (hr1 : Rd w w.heap.size 1 A1 n1 (ints .u8 b)) (hn1 : b.length = n1) (hc1 : n1 ≤ c1) (hm1 : c1 ≤ maxLen) (hz1 : A1 = none → c1 = 0) (hy1 : Byt b) :
    Calls Try.prog 4 #[.slice A0 n0 c0, .slice A1 n1 c1] w fun e w' => e = .returned (.bool true) ∧ Ext w w' := by
  have hE := Ext.refl w
  have ha30 := few_le a 30 (by omega)
  have hb30 := few_le b 30 (by omega)
  refine calls_of (l := [.slice A0 n0 c0, .slice A1 n1 c1]) (N := 36) Try.func4 rfl rfl rfl ?_
  refine C_seq (C_region (RL_q rfl (Yd_assign rfl) (RL_nil (X_then (C_seq (C_region (RL_q rfl (Yd_move rfl) (RL_l rfl (Ld_call Try.func15 rfl (by kernel_rfl) rfl (Few_c A0 n0 c0 a 30 _ (hr0.ext hE) hn0 hc0 (by omega) (by omega) hz0) ?_)))))))))
  rintro e W1 ⟨X, cx, rfl, hx, he1⟩
  refine ⟨_, rfl, ?_⟩
  replace hE := Ext.trans hE he1
  have hs1 := he1.size
  refine RL_q rfl (Yd_assign rfl) (RL_nil (X_then (C_seq (C_region (RL_q rfl (Yd_move rfl) (RL_l rfl (Ld_call Try.func15 rfl (by kernel_rfl) rfl (Few_c A1 n1 c1 b 30 _ (hr1.ext hE) hn1 hc1 (by omega) (by omega) hz1) ?_)))))))
  rintro e W2 ⟨Y, cy, rfl, hy, he2⟩
  refine ⟨_, rfl, ?_⟩
  replace hE := Ext.trans hE he2
  replace hx := hx.ext he2
  have hs2 := he2.size
  have rx := hx.rd
  have ry := hy.rd
  refine RL_q rfl (Yd_assign rfl) (RL_nil (X_then (C_seq (C_region (RL_q rfl (Yd_assign rfl) (RL_nil (X_then (C_seq (C_region (RL_q rfl (Yd_move rfl) (RL_q rfl (Yd_move rfl) (RL_l rfl (Ld_app Try.underlying22 Try.elt5 rfl (by decide) rfl rfl (Own.nil _ W2.heap.size 5 1) rx (ints_one _ _) (by simp only [maxLen]; omega) (by omega) (Nat.le_refl _) (fun h => (hx.none_ h).1) (Nat.zero_add _) ?_)))))))))))))
  intro Z1 cz1 W3 hO1 hg3 hat3
  have he3 := ext_app (Own.nil _ _ 5 1) (Below.refl _ _) (Nat.le_refl _) hg3
  replace hE := Ext.trans hE he3
  replace hx := hx.ext he3
  replace hy := hy.ext he3
  replace rx := rx.ext he3
  replace ry := ry.ext he3
  refine RL_q rfl (Yd_assign rfl) (RL_nil (X_then (C_seq (C_region (RL_q rfl (Yd_move rfl) (RL_q rfl (Yd_move rfl) (?_)))))))
  refine RL_l rfl (Ld_app Try.underlying22 Try.elt5 rfl (by decide) rfl rfl hO1 ry (ints_one _ _) (by simp only [maxLen]; omega) (by omega) he3.size (fun h => (hy.none_ h).1) rfl ?_)
  intro Z2 cz2 W4 hO2 hg4 hat4
  have hbel := ext_app hO1 (Below.refl W2.heap.size W3) he3.size hg4
  replace rx := rx.below hbel
  replace ry := ry.below hbel
  replace hE := Below.trans hE (hbel.mono (Nat.le_trans hs1 hs2))
  have hO3 : Own W4 W2.heap.size 5 1 Z2 ((few a 30).length + (few b 30).length) cz2 (ints .u8 (few a 30 ++ few b 30)) := by rw [ints_append]; exact hO2
  refine RL_q rfl (Yd_assign rfl) (RL_nil (X_then (C_seq (C_region (RL_q rfl (Yd_move rfl) (?_))))))
  refine RL_l rfl (Ld_call Try.func16 rfl (by kernel_rfl) rfl (Sum_c X _ cx (few a 30) _ rx rfl (by omega) (few_byt hy0 30)) ?_)
  rintro e W5 ⟨rfl, he5⟩
  refine ⟨_, rfl, ?_⟩
  replace hE := Ext.trans hE he5
  replace rx := rx.ext he5
  replace ry := ry.ext he5
  replace hO3 := hO3.ext he5
  have hs5 := he5.size
  refine RL_q rfl (Yd_move rfl) (RL_l rfl (Ld_call Try.func18 rfl (by kernel_rfl) rfl (More_c Y _ cy (cmore 0 (few a 30)) (few b 30) _ ry rfl (by omega) (few_byt hy1 30) (cmore_lt _ _)) ?_))
  rintro e W6 ⟨rfl, he6⟩
  refine ⟨_, rfl, ?_⟩
  replace hE := Ext.trans hE he6
  replace rx := rx.ext he6
  replace ry := ry.ext he6
  replace hO3 := hO3.ext he6
  have hs6 := he6.size
  refine RL_q rfl (Yd_move rfl) (RL_l rfl (Ld_call Try.func16 rfl (by kernel_rfl) rfl (Sum_c Z2 _ cz2 (few a 30 ++ few b 30) _ hO3.rd (by simp) (by omega) ((few_byt hy0 30).append (few_byt hy1 30))) ?_))
  rintro e W7 ⟨rfl, he7⟩
  refine ⟨_, rfl, ?_⟩
  replace hE := Ext.trans hE he7
  replace rx := rx.ext he7
  replace ry := ry.ext he7
  replace hO3 := hO3.ext he7
  have hs7 := he7.size
  refine RL_q rfl (Yd_eql rfl rfl) (RL_q rfl (Yd_move rfl) (?_))
  refine RL_is (d := 25) (b' := true) rfl (by rw [cmore_parts _ _ (few_byt hy0 30)]; simp) ?_
  refine RL_gq rfl rfl rfl (Yd_move rfl) (RL_gl rfl rfl rfl (Ld_call Try.func16 rfl (by kernel_rfl) rfl (Sum_c X _ cx (few a 30) _ rx rfl (by omega) (few_byt hy0 30)) ?_))
  rintro e W8 ⟨rfl, he8⟩
  refine ⟨_, rfl, ?_⟩
  replace hE := Ext.trans hE he8
  replace rx := rx.ext he8
  replace ry := ry.ext he8
  replace hO3 := hO3.ext he8
  have hs8 := he8.size
  refine RL_gl rfl rfl rfl (Ld_call Try.func18 rfl (by kernel_rfl) rfl (More_c none 0 0 (cmore 0 (few a 30)) [] _ (Rd.none _ 0 _) rfl (by omega) Byt.nil (cmore_lt _ _)) ?_)
  rintro e W9 ⟨rfl, he9⟩
  refine ⟨_, rfl, ?_⟩
  replace hE := Ext.trans hE he9
  replace rx := rx.ext he9
  replace ry := ry.ext he9
  replace hO3 := hO3.ext he9
  have hs9 := he9.size
  refine RL_gq rfl rfl rfl (Yd_move rfl) (RL_gl rfl rfl rfl (Ld_call Try.func16 rfl (by kernel_rfl) rfl (Sum_c X _ cx (few a 30) _ rx rfl (by omega) (few_byt hy0 30)) ?_))
  rintro e W10 ⟨rfl, he10⟩
  refine ⟨_, rfl, ?_⟩
  replace hE := Ext.trans hE he10
  replace rx := rx.ext he10
  replace ry := ry.ext he10
  replace hO3 := hO3.ext he10
  have hs10 := he10.size
  refine RL_gq rfl rfl rfl (Yd_eql rfl rfl) (RL_q rfl (Yd_pickT rfl rfl) (RL_q rfl (Yd_move rfl) (?_)))
  refine RL_is (d := 33) (b' := true) rfl (by rw [cmore_nil _ (cmore_lt _ _)]; simp) ?_
  refine RL_gl rfl rfl rfl (Ld_call Try.func19 rfl (by kernel_rfl) rfl (lives02_c _) ?_)
  rintro e W11 ⟨rfl, he11⟩
  refine ⟨_, rfl, ?_⟩
  replace hE := Ext.trans hE he11
  replace rx := rx.ext he11
  replace ry := ry.ext he11
  replace hO3 := hO3.ext he11
  have hs11 := he11.size
  refine RL_q rfl (Yd_pickT rfl rfl) (RL_q rfl (Yd_assign rfl) (RL_nil (X_then (C_ret (X_ret1 rfl rfl ?_)))))
  exact ⟨rfl, hE⟩
end Go.Proofs.AL
