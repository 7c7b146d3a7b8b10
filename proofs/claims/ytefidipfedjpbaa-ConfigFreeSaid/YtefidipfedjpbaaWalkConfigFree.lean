import Derived.Test.YtefidipfedjpbaaCong
set_option linter.unusedVariables false
set_option linter.unusedSimpArgs false
namespace Go.Proofs.AL
open Go.RowKit
theorem ConfigFreeV {cfr cdp csc : Int} {lo_cps B_cps : Nat} {A_cps : Option Addr} {n_cps c_cps : Nat} {cps : List Pt} {w : World}  (h_cps : Vw tP w lo_cps B_cps A_cps n_cps c_cps cps) (b_c : -9223372036854775808 ≤ cfr ∧ cfr ≤ 9223372036854775807 ∧ -9223372036854775808 ≤ cdp ∧ cdp ≤ 9223372036854775807 ∧ -9223372036854775808 ≤ csc ∧ csc ≤ 9223372036854775807) :
    Calls Try.prog 7 #[.agg #[.int .i64 cfr, .int .i64 cdp, .int .i64 csc, .slice A_cps n_cps c_cps]] w fun e w' => ∃ (x0 : Bool), e = .returned (.bool x0) ∧ x0 = (true) ∧ Ext w w' := by
  have hE := Ext.refl w
  replace h_cps := h_cps.fit
  have hn_cps := h_cps.ln
  have hc_cps := h_cps.cap
  have hm_cps := h_cps.max
  simp only [maxLen] at hm_cps
  refine calls_of (l := [.agg #[.int .i64 cfr, .int .i64 cdp, .int .i64 csc, .slice A_cps n_cps c_cps]]) (N := 14) Try.func7 rfl rfl rfl ?_
  refine C_seq (C_region (RL_l rfl (Ld_box rfl ?_)))
  have hg_1 := hE.size
  intro W1 he1 hz1 hB1
  replace hE := Ext.trans hE he1
  replace h_cps := h_cps.ext he1
  refine RL_q rfl (Yd_assign rfl) (RL_nil (X_then (C_seq (C_region (RL_q rfl (Yd_loadA Try.underlying24 rfl (by kernel_rfl) rfl (ldBA hB1)) (RL_l rfl (Ld_call Try.func14 rfl (by kernel_rfl) rfl (GoodV h_cps ⟨by omega, by omega, by omega, by omega, by omega, by omega⟩) ?_)))))))
  rintro e W2 ⟨fr5, dp5, sc5, AC5, nC5, cC5, pC5, rfl, hp5, hC5, he2⟩
  refine ⟨_, rfl, ?_⟩
  replace hE := Ext.trans hE he2
  replace h_cps := h_cps.ext he2
  replace hB1 := hB1.ext he2
  have hs2 := he2.size
  have hnC5 := hC5.ln
  have hcC5 := hC5.cap
  have hfb5 := hp5.frb
  have hdb5 := hp5.hdp
  have hsb5 := hp5.hsc
  have hlb5 := hp5.hln
  refine RL_l rfl (Ld_alloc (v := (.agg #[(.int .i64 0), (.int .i64 0), (.int .i64 0), (.slice none 0 0)])) (by kernel_rfl) ?_)
  have hg_3 := hE.size
  intro W3 he3 hz3 hB3
  replace hE := Ext.trans hE he3
  replace h_cps := h_cps.ext he3
  replace hB1 := hB1.ext he3
  replace hC5 := hC5.ext he3
  refine RL_l0 (Ld_store (by kernel_rfl) rfl rfl hB3 (Nat.le_of_ble_eq_true rfl) (by simp [cellsL, Value.cells, Value.oneCell']) ?_)
  intro W4 hu4 hz4 hB3
  have hk4 := Kp.ofb hu4
  have hs4 := hk4.size
  replace hE := Ext.kp hE hk4 (fun k hk => by first | omega | (have hk := hk; dsimp only at hk; omega))
  replace h_cps := h_cps.kp hk4 (fun k hk => by first | omega | (have hk := hk; dsimp only at hk; omega))
  replace hB1 := hB1.kp hk4 (fun hk => by first | omega | (have hk := hk; dsimp only at hk; omega))
  replace hC5 := hC5.kp hk4 (fun k hk => by first | omega | (have hk := hk; dsimp only at hk; omega))
  refine RL_nil (X_then (C_seq (?_)))
  refine C_regionD (NoB) (l := [(0, true), (2, true), (1, false), (3, false), (4, true), (5, true), (6, false), (7, true), (8, true)]) (by kernel_rfl) (by kernel_rfl) rfl (by kernel_rfl) (fun _ _ d _ _ h => by cases d <;> exact h) ?_
  intro W5 he5 hh5
  replace hE := Ext.trans hE he5
  replace h_cps := h_cps.ext he5
  replace hB1 := hB1.ext he5
  replace hC5 := hC5.ext he5
  replace hB3 := hB3.ext he5
  have hs5 := he5.size
  refine RO_q rfl rfl (Yd_loadA Try.underlying24 rfl (by kernel_rfl) rfl (fun W hW => (ldBA hB3) W hW.ext)) (RO_q rfl rfl (Yd_loadA Try.underlying24 rfl (by kernel_rfl) rfl (fun W hW => (ldBA hB3) W hW.ext)) (RO_l rfl rfl (Ld_call Try.func23 rfl (by kernel_rfl) rfl (FreeV hC5.vw ⟨by omega, by omega, by omega, by omega, by omega, by omega⟩ (by first | assumption | exact GoodCf.ok (by assumption))) ?_)))
  rintro e W6 ⟨y7, rfl, hy7, he6⟩
  refine ⟨_, rfl, ?_⟩
  refine ⟨Kp.of_ext he6, ?_⟩
  replace hE := Ext.trans hE he6
  replace h_cps := h_cps.ext he6
  replace hB1 := hB1.ext he6
  replace hC5 := hC5.ext he6
  replace hB3 := hB3.ext he6
  have hs6 := he6.size
  refine RO_l rfl rfl (Ld_call Try.func24 rfl (by kernel_rfl) rfl (refFreeV hC5.vw ⟨by omega, by omega, by omega, by omega, by omega, by omega⟩ (by first | assumption | exact GoodCf.ok (by assumption))) ?_)
  rintro e W7 ⟨y9, rfl, hy9, he7⟩
  refine ⟨_, rfl, ?_⟩
  refine ⟨Kp.of_ext he7, ?_⟩
  replace hE := Ext.trans hE he7
  replace h_cps := h_cps.ext he7
  replace hB1 := hB1.ext he7
  replace hC5 := hC5.ext he7
  replace hB3 := hB3.ext he7
  have hs7 := he7.size
  refine RO_q rfl rfl (Yd_eql rfl rfl) (RO_q rfl rfl (Yd_move rfl) (?_))
  refine RO_is (d := 11) (b' := true) rfl (by rw [hy7, hy9, freeN_eq (by omega) hp5.hap (fun p hp => by have := hp5.hpt p hp; omega)]; simp) ?_
  refine RO_gl rfl rfl rfl rfl (Ld_call Try.func21 rfl (by kernel_rfl) rfl (lives05V ) ?_)
  rintro e W8 ⟨_, rfl, rfl, he8⟩
  refine ⟨_, rfl, ?_⟩
  refine ⟨Kp.of_ext he8, ?_⟩
  replace hE := Ext.trans hE he8
  replace h_cps := h_cps.ext he8
  replace hB1 := hB1.ext he8
  replace hC5 := hC5.ext he8
  replace hB3 := hB3.ext he8
  have hs8 := he8.size
  refine RO_q rfl rfl (Yd_pickT rfl rfl) (RO_q rfl rfl (Yd_assign rfl) (RO_nil (X_then (C_ret (X_ret1 rfl rfl ?_)))))
  refine ⟨_, rfl, ?_, hE⟩
  all_goals (first | rfl | omega | simp)
end Go.Proofs.AL
