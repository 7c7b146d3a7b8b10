import Derived.Test.YtikfkmcgdceaoaaFre
set_option linter.unusedVariables false
set_option linter.unusedSimpArgs false
namespace Go.Proofs.AL
open Go.RowKit
theorem FrameUnpinnedV {lo_b B_b : Nat} {A_b : Option Addr} {n_b c_b : Nat} {b : List Int} {off : Int} {n : Int} {lo_put B_put : Nat} {A_put : Option Addr} {n_put c_put : Nat} {put : List Int} {w : World}  (h_b : Vw tU8 w lo_b B_b A_b n_b c_b b) (b_off : -9223372036854775808 ≤ off ∧ off ≤ 9223372036854775807) (b_n : -9223372036854775808 ≤ n ∧ n ≤ 9223372036854775807) (h_put : Vw tU8 w lo_put B_put A_put n_put c_put put) :
    Calls Try.prog 6 #[.slice A_b n_b c_b, .int .i64 off, .int .i64 n, .slice A_put n_put c_put] w fun e w' => ∃ (x0 : Bool), e = .returned (.bool x0) ∧ x0 = (true) ∧ Ext w w' := by
  have hE := Ext.refl w
  replace h_b := h_b.fit
  have hn_b := h_b.ln
  have hc_b := h_b.cap
  have hm_b := h_b.max
  simp only [maxLen] at hm_b
  replace h_put := h_put.fit
  have hn_put := h_put.ln
  have hc_put := h_put.cap
  have hm_put := h_put.max
  simp only [maxLen] at hm_put
  refine calls_of (l := [.slice A_b n_b c_b, .int .i64 off, .int .i64 n, .slice A_put n_put c_put]) (N := 64) Try.func6 rfl rfl rfl ?_
  refine C_seq (C_region (RL_q rfl (Yd_assign rfl) (RL_nil (X_then (C_seq (C_region (RL_q rfl (Yd_build Try.bld28 rfl rfl) (RL_l rfl (Ld_box rfl ?_)))))))))
  have hg_16 := hE.size
  intro W1 he1 hz1 hB16
  replace hE := Ext.trans hE he1
  replace h_b := h_b.ext he1
  replace h_put := h_put.ext he1
  replace hB16 : Blk W1 w.heap.size 28 (frC emptyF) := hB16
  have okhB16 := emptyF_ok
  refine RL_q rfl (Yd_assign rfl) (RL_nil (X_then (C_seq (C_seq (C_region (RL_q rfl (Yd_move rfl) (RL_q rfl (Yd_move rfl) (RL_l rfl (Ld_call Try.func21 rfl (by kernel_rfl) rfl (FillV h_b ⟨by first | omega | (dsimp only; omega), by first | omega | (dsimp only; omega)⟩) ?_)))))))))
  rintro e W2 ⟨A19, n19, c19, rfl, hF19, hfl19, he2⟩
  refine ⟨_, rfl, ?_⟩
  replace hE := Ext.trans hE he2
  replace h_b := h_b.ext he2
  replace h_put := h_put.ext he2
  replace hB16 := hB16.ext he2
  have hs2 := he2.size
  have hn19 := hF19.ln
  try simp only [List.length_append, List.length_cons, List.length_nil, List.length_set, List.length_take, List.length_drop, List.length_replicate, List.length_map, Nat.zero_add, Nat.add_zero] at hn19
  have hc19 := hF19.cap
  rw [fill_len] at hn19
  have hn19' : n19 = 32 := hn19.symm
  refine RL_l rfl (Ld_call Try.func17 rfl (by kernel_rfl) rfl (LoadV (f := emptyF) hB16 okhB16 ⟨by first | omega | (dsimp only; omega), by first | omega | (dsimp only; omega)⟩ hF19.vw) ?_)
  rintro e W3 ⟨rfl, hB16n, hk3⟩
  refine ⟨_, rfl, ?_⟩
  have hs3 := hk3.size
  replace hE := Ext.kp hE hk3 (fun k hk => by first | omega | (have hk := hk; dsimp only at hk; omega))
  replace h_b := h_b.kp hk3 (fun k hk => by first | omega | (have hk := hk; dsimp only at hk; omega))
  replace h_put := h_put.kp hk3 (fun k hk => by first | omega | (have hk := hk; dsimp only at hk; omega))
  replace hF19 := hF19.kp hk3 (fun k hk => by first | omega | (have hk := hk; dsimp only at hk; omega))
  replace hB16 := hB16n
  replace okhB16 : FOk ((loadF emptyF 7 (fill b (32 : Int).toNat)).2) := loadF_ok okhB16 hF19.vw.byt
  rw [loadF_32 (by simp)] at hB16 okhB16
  refine RL_q rfl (Yd_neq rfl rfl) (RL_nil (X_then (?_)))
  refine C_no rfl (by rw [loadF_32 (by simp)]; rfl) (C_skip (X_then (C_seq (C_region (RL_q rfl (Yd_move rfl) (RL_l rfl (Ld_call Try.func27 rfl (by kernel_rfl) rfl (asFV (f := (⟨true, false, false, 0, 7, (fill b (32 : Int).toNat)⟩ : Fr)) hB16 okhB16) ?_)))))))
  rintro e W4 ⟨rfl, he4⟩
  refine ⟨_, rfl, ?_⟩
  replace hE := Ext.trans hE he4
  replace h_b := h_b.ext he4
  replace h_put := h_put.ext he4
  replace hB16 := hB16.ext he4
  replace hF19 := hF19.ext he4
  have hs4 := he4.size
  have hyb23 : Byt (⟨true, false, false, 0, 7, (fill b (32 : Int).toNat)⟩ : Fr).b := okhB16.hy
  refine RL_l rfl (Ld_alloc (v := (.agg #[(.bool false), (.bool false), (.bool false), (.int .i64 0), (.int .i64 0), (.string ⟨#[]⟩)])) (by kernel_rfl) ?_)
  have hg_10 := hE.size
  intro W5 he5 hz5 hB10
  replace hE := Ext.trans hE he5
  replace h_b := h_b.ext he5
  replace h_put := h_put.ext he5
  replace hB16 := hB16.ext he5
  replace hF19 := hF19.ext he5
  refine RL_l0 (Ld_store (by kernel_rfl) rfl rfl hB10 (Nat.le_of_ble_eq_true rfl) (by simp [cellsL, Value.cells, Value.oneCell']) ?_)
  intro W6 hu6 hz6 hB10
  have hk6 := Kp.ofb hu6
  have hs6 := hk6.size
  replace hE := Ext.kp hE hk6 (fun k hk => by first | omega | (have hk := hk; dsimp only at hk; omega))
  replace h_b := h_b.kp hk6 (fun k hk => by first | omega | (have hk := hk; dsimp only at hk; omega))
  replace h_put := h_put.kp hk6 (fun k hk => by first | omega | (have hk := hk; dsimp only at hk; omega))
  replace hB16 := hB16.kp hk6 (fun hk => by first | omega | (have hk := hk; dsimp only at hk; omega))
  replace hF19 := hF19.kp hk6 (fun k hk => by first | omega | (have hk := hk; dsimp only at hk; omega))
  refine RL_nil (X_then (C_seq (C_region (RL_q rfl (Yd_move rfl) (RL_q rfl (Yd_move rfl) (RL_q rfl (Yd_move rfl) (RL_l rfl (Ld_call Try.func24 rfl (by kernel_rfl) rfl (GetV (f := (⟨true, false, false, 0, 7, (fill b (32 : Int).toNat)⟩ : Fr)) hB16 okhB16 ⟨by first | omega | (dsimp only; omega), by first | omega | (dsimp only; omega)⟩ ⟨by first | omega | (dsimp only; omega), by first | omega | (dsimp only; omega)⟩) ?_))))))))
  rintro e W7 ⟨A28, n28, c28, rfl, hF28, hB16n, hk7⟩
  refine ⟨_, rfl, ?_⟩
  have hs7 := hk7.size
  replace hE := Ext.kp hE hk7 (fun k hk => by first | omega | (have hk := hk; dsimp only at hk; omega))
  replace h_b := h_b.kp hk7 (fun k hk => by first | omega | (have hk := hk; dsimp only at hk; omega))
  replace h_put := h_put.kp hk7 (fun k hk => by first | omega | (have hk := hk; dsimp only at hk; omega))
  replace hF19 := hF19.kp hk7 (fun k hk => by first | omega | (have hk := hk; dsimp only at hk; omega))
  replace hB10 := hB10.kp hk7 (fun hk => by first | omega | (have hk := hk; dsimp only at hk; omega))
  replace hB16 := hB16n
  have hn28 := hF28.ln
  have hc28 := hF28.cap
  replace okhB16 : FOk ((getF (⟨true, false, false, 0, 7, (fill b (32 : Int).toNat)⟩ : Fr) off n).2.2) := getF_ok okhB16
  rw [getF_n rfl] at hF28
  have hn28' : n28 = 0 := hF28.ln.symm
  rw [getF_n rfl] at hB16 okhB16
  refine RL_q rfl (Yd_move rfl) (RL_q rfl (Yd_extract rfl rfl) (RL_q rfl (Yd_extract rfl rfl) (RL_q rfl (Yd_assign rfl) (RL_q rfl (Yd_assign rfl) (RL_nil (X_then (C_seq (C_region (RL_q rfl (Yd_move rfl) (RL_q rfl (Yd_move rfl) (RL_q rfl (Yd_move rfl) (RL_l rfl (Ld_call Try.func22 rfl (by kernel_rfl) rfl (FewV h_put ⟨by first | omega | (dsimp only; omega), by first | omega | (dsimp only; omega)⟩) ?_)))))))))))))
  rintro e W8 ⟨A34, n34, c34, rfl, hF34, hle34, he8⟩
  refine ⟨_, rfl, ?_⟩
  replace hE := Ext.trans hE he8
  replace h_b := h_b.ext he8
  replace h_put := h_put.ext he8
  replace hB16 := hB16.ext he8
  replace hF19 := hF19.ext he8
  replace hB10 := hB10.ext he8
  replace hF28 := hF28.ext he8
  have hs8 := he8.size
  have hn34 := hF34.ln
  try simp only [List.length_append, List.length_cons, List.length_nil, List.length_set, List.length_take, List.length_drop, List.length_replicate, List.length_map, Nat.zero_add, Nat.add_zero] at hn34
  have hc34 := hF34.cap
  try rw [hle34.2.2.1 (by omega)] at hF34 hn34
  refine RL_l rfl (Ld_call Try.func25 rfl (by kernel_rfl) rfl (PutV (f := (⟨true, false, false, 0, 7, (fill b (32 : Int).toNat)⟩ : Fr)) hB16 okhB16 ⟨by first | omega | (dsimp only; omega), by first | omega | (dsimp only; omega)⟩ hF34.vw) ?_)
  rintro e W9 ⟨rfl, hB16n, hk9⟩
  refine ⟨_, rfl, ?_⟩
  have hs9 := hk9.size
  replace hE := Ext.kp hE hk9 (fun k hk => by first | omega | (have hk := hk; dsimp only at hk; omega))
  replace h_b := h_b.kp hk9 (fun k hk => by first | omega | (have hk := hk; dsimp only at hk; omega))
  replace h_put := h_put.kp hk9 (fun k hk => by first | omega | (have hk := hk; dsimp only at hk; omega))
  replace hF19 := hF19.kp hk9 (fun k hk => by first | omega | (have hk := hk; dsimp only at hk; omega))
  replace hB10 := hB10.kp hk9 (fun hk => by first | omega | (have hk := hk; dsimp only at hk; omega))
  replace hF28 := hF28.kp hk9 (fun k hk => by first | omega | (have hk := hk; dsimp only at hk; omega))
  replace hF34 := hF34.kp hk9 (fun k hk => by first | omega | (have hk := hk; dsimp only at hk; omega))
  replace hB16 := hB16n
  replace okhB16 : FOk ((putF (⟨true, false, false, 0, 7, (fill b (32 : Int).toNat)⟩ : Fr) off (few put 40)).2) := putF_ok okhB16 hF34.vw.byt
  rw [putF_n rfl] at hB16 okhB16
  refine RL_q rfl (Yd_assign rfl) (RL_nil (X_then (C_seq (C_region (RL_q rfl (Yd_move rfl) (RL_q rfl (Yd_nil rfl) (RL_q rfl (Yd_fld (off := 0) Try.underlying28 (by kernel_rfl) rfl) (RL_l rfl (Ld_call Try.func18 rfl (by kernel_rfl) rfl (UnpinV (f := (⟨true, false, false, 0, 7, (fill b (32 : Int).toNat)⟩ : Fr)) hB16 okhB16) ?_)))))))))
  rintro e W10 ⟨rfl, hB16n, hk10⟩
  refine ⟨_, rfl, ?_⟩
  have hs10 := hk10.size
  replace hE := Ext.kp hE hk10 (fun k hk => by first | omega | (have hk := hk; dsimp only at hk; omega))
  replace h_b := h_b.kp hk10 (fun k hk => by first | omega | (have hk := hk; dsimp only at hk; omega))
  replace h_put := h_put.kp hk10 (fun k hk => by first | omega | (have hk := hk; dsimp only at hk; omega))
  replace hF19 := hF19.kp hk10 (fun k hk => by first | omega | (have hk := hk; dsimp only at hk; omega))
  replace hB10 := hB10.kp hk10 (fun hk => by first | omega | (have hk := hk; dsimp only at hk; omega))
  replace hF28 := hF28.kp hk10 (fun k hk => by first | omega | (have hk := hk; dsimp only at hk; omega))
  replace hF34 := hF34.kp hk10 (fun k hk => by first | omega | (have hk := hk; dsimp only at hk; omega))
  replace hB16 := hB16n
  replace okhB16 : FOk ((unpinF (⟨true, false, false, 0, 7, (fill b (32 : Int).toNat)⟩ : Fr)).2) := unpinF_ok okhB16
  rw [unpinF_n rfl] at hB16 okhB16
  refine RL_q rfl (Yd_assign rfl) (RL_nil (X_then (C_seq (?_))))
  refine C_regionD (NoB) (l := [(0, true), (1, true), (2, true), (3, true), (4, true), (5, true), (6, true), (7, true), (8, true), (9, true), (10, true), (11, true), (12, true), (13, true), (14, true), (15, true), (16, true), (18, true), (17, false), (19, true), (20, true), (21, true), (22, false), (23, true), (24, true)]) (by kernel_rfl) (by kernel_rfl) rfl (by kernel_rfl) (fun _ _ d _ _ h => by cases d <;> exact h) ?_
  intro W11 he11 hh11
  replace hE := Ext.trans hE he11
  replace h_b := h_b.ext he11
  replace h_put := h_put.ext he11
  replace hB16 := hB16.ext he11
  replace hF19 := hF19.ext he11
  replace hB10 := hB10.ext he11
  replace hF28 := hF28.ext he11
  replace hF34 := hF34.ext he11
  have hs11 := he11.size
  refine RO_q rfl rfl (Yd_move rfl) (RO_q rfl rfl (Yd_len Try.underlying32 rfl) (RO_q rfl rfl (Yd_eql rfl rfl) (RO_q rfl rfl (Yd_move rfl) (?_))))
  refine RO_is (d := 43) (b' := true) rfl (by simp; omega) ?_
  refine RO_gq rfl rfl rfl rfl (Yd_move rfl) (RO_gq rfl rfl rfl rfl (Yd_eql rfl rfl) (RO_q rfl rfl (Yd_pickT rfl rfl) (RO_q rfl rfl (Yd_move rfl) (?_))))
  refine RO_is (d := 47) (b' := true) rfl (by rw [getF_n rfl]; rfl) ?_
  refine RO_gq rfl rfl rfl rfl (Yd_move rfl) (RO_gq rfl rfl rfl rfl (Yd_eql rfl rfl) (RO_q rfl rfl (Yd_pickT rfl rfl) (RO_q rfl rfl (Yd_move rfl) (?_))))
  refine RO_is (d := 51) (b' := true) rfl (by rw [putF_n rfl]; rfl) ?_
  refine RO_gq rfl rfl rfl rfl (Yd_move rfl) (RO_gq rfl rfl rfl rfl (Yd_eql rfl rfl) (RO_q rfl rfl (Yd_pickT rfl rfl) (RO_q rfl rfl (Yd_move rfl) (?_))))
  refine RO_is (d := 55) (b' := true) rfl (by rw [unpinF_n rfl]; rfl) ?_
  refine RO_gq rfl rfl rfl rfl (Yd_move rfl) (RO_gq rfl rfl rfl rfl (Yd_loadA Try.underlying43 rfl (by kernel_rfl) rfl (fun W hW => (ldBA hB10) W hW.ext)) (RO_gl rfl rfl rfl rfl (Ld_call Try.func27 rfl (by kernel_rfl) rfl (asFV (f := (⟨true, false, false, 0, 7, (fill b (32 : Int).toNat)⟩ : Fr)) hB16 okhB16) ?_)))
  rintro e W12 ⟨rfl, he12⟩
  refine ⟨_, rfl, ?_⟩
  refine ⟨Kp.of_ext he12, ?_⟩
  replace hE := Ext.trans hE he12
  replace h_b := h_b.ext he12
  replace h_put := h_put.ext he12
  replace hB16 := hB16.ext he12
  replace hF19 := hF19.ext he12
  replace hB10 := hB10.ext he12
  replace hF28 := hF28.ext he12
  replace hF34 := hF34.ext he12
  have hs12 := he12.size
  have hyb57 : Byt (⟨true, false, false, 0, 7, (fill b (32 : Int).toNat)⟩ : Fr).b := okhB16.hy
  refine RO_gq rfl rfl rfl rfl (Yd_eqlA Try.underlying43 (by kernel_rfl) (by kernel_rfl) (tb := [(false, 0, 1), (false, 1, 1), (false, 2, 1), (false, 3, 0), (false, 4, 0), (false, 5, 2)]) (by kernel_rfl) rfl rfl rfl (Fr_eqr (⟨(⟨true, false, false, 0, 7, (fill b (32 : Int).toNat)⟩ : Fr).u, (⟨true, false, false, 0, 7, (fill b (32 : Int).toNat)⟩ : Fr).d, (⟨true, false, false, 0, 7, (fill b (32 : Int).toNat)⟩ : Fr).r, (⟨true, false, false, 0, 7, (fill b (32 : Int).toNat)⟩ : Fr).pins, (⟨true, false, false, 0, 7, (fill b (32 : Int).toNat)⟩ : Fr).page, (⟨true, false, false, 0, 7, (fill b (32 : Int).toNat)⟩ : Fr).b⟩ : Fr) (⟨(⟨true, false, false, 0, 7, (fill b (32 : Int).toNat)⟩ : Fr).u, (⟨true, false, false, 0, 7, (fill b (32 : Int).toNat)⟩ : Fr).d, (⟨true, false, false, 0, 7, (fill b (32 : Int).toNat)⟩ : Fr).r, (⟨true, false, false, 0, 7, (fill b (32 : Int).toNat)⟩ : Fr).pins, (⟨true, false, false, 0, 7, (fill b (32 : Int).toNat)⟩ : Fr).page, (⟨true, false, false, 0, 7, (fill b (32 : Int).toNat)⟩ : Fr).b⟩ : Fr))) (RO_q rfl rfl (Yd_pickT rfl rfl) (RO_q rfl rfl (Yd_move rfl) (?_)))
  refine RO_is (d := 61) (b' := true) rfl (frEq_self _) ?_
  refine RO_gl rfl rfl rfl rfl (Ld_call Try.func20 rfl (by kernel_rfl) rfl (lives12V ) ?_)
  rintro e W13 ⟨_, rfl, rfl, he13⟩
  refine ⟨_, rfl, ?_⟩
  refine ⟨Kp.of_ext he13, ?_⟩
  replace hE := Ext.trans hE he13
  replace h_b := h_b.ext he13
  replace h_put := h_put.ext he13
  replace hB16 := hB16.ext he13
  replace hF19 := hF19.ext he13
  replace hB10 := hB10.ext he13
  replace hF28 := hF28.ext he13
  replace hF34 := hF34.ext he13
  have hs13 := he13.size
  refine RO_q rfl rfl (Yd_pickT rfl rfl) (RO_q rfl rfl (Yd_assign rfl) (RO_nil (X_then (C_ret (X_ret1 rfl rfl ?_)))))
  refine ⟨_, rfl, ?_, hE⟩
  all_goals (first | rfl | omega | simp)
end Go.Proofs.AL
