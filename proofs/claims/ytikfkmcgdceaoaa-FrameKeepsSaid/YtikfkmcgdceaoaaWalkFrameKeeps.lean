import Derived.Test.YtikfkmcgdceaoaaFrd
set_option linter.unusedVariables false
set_option linter.unusedSimpArgs false
namespace Go.Proofs.AL
open Go.RowKit

theorem put_parts {pg q : List Int} {off : Int} {n m k : Nat} (hq : q.length = n) (hp : pg.length = m) (hm : m = 32) (h2 : 0 ≤ off) (h3 : off + n ≤ 32) (hk : (pPut pg off q).length = k) :
    k = 32 ∧ fitsE m off n = 0 ∧ fitsE k off n = 0 ∧ fitsE k 0 off = 0 ∧ fitsE k (off + n) (32 - off - n) = 0 ∧ pGet (pPut pg off q) off n = q ∧ pGet (pPut pg off q) 0 off = pg.take off.toNat ∧ pGet (pPut pg off q) (off + n) (32 - off - n) = pg.drop (off + n).toNat := by
  subst hq hp
  have f1 : fitsE pg.length off q.length = 0 := fitsE_ok (by omega) (by omega) (by omega) (by omega) (by omega)
  have e := pPut_ok (p := pg) (b := q) rfl rfl f1
  have hk2 : k = 32 := by rw [← hk, e]; simp only [List.length_append, List.length_take, List.length_drop]; omega
  subst hk2
  have g : ∀ a b : Int, 0 ≤ a → 0 ≤ b → a + b ≤ 32 → fitsE ((32 : Nat) : Int) a b = 0 := fun a b h1 h2 h3 => fitsE_ok rfl h1 h2 (by omega) (by omega)
  have t1 : (pg.take off.toNat).length = off.toNat := by rw [List.length_take]; omega
  refine ⟨rfl, f1, g _ _ (by omega) (by omega) (by omega), g _ _ (by omega) (by omega) (by omega), g _ _ (by omega) (by omega) (by omega), ?_, ?_, ?_⟩
  · rw [pGet_ok (m := ((32 : Nat) : Int)) (by omega) (g _ _ (by omega) (by omega) (by omega)), e, List.append_assoc, List.drop_append, List.drop_of_length_le (by omega), t1, List.nil_append, Nat.sub_self, List.drop_zero, Int.toNat_natCast, List.take_left]
  · rw [pGet_ok (m := ((32 : Nat) : Int)) (by omega) (g _ _ (by omega) (by omega) (by omega)), e, List.append_assoc]
    have : ((0 : Int).toNat) = 0 := rfl
    rw [this, List.drop_zero, List.take_append_of_le_length (by omega), List.take_of_length_le (by omega)]
  · rw [pGet_ok (m := ((32 : Nat) : Int)) (by omega) (g _ _ (by omega) (by omega) (by omega)), e]
    have h4 : (pg.take off.toNat ++ q).length = (off + q.length).toNat := by rw [List.length_append]; omega
    rw [List.drop_append, List.drop_of_length_le (by omega), h4, List.nil_append, Nat.sub_self, List.drop_zero, show off.toNat + q.length = (off + q.length).toNat by omega, List.take_of_length_le (by rw [List.length_drop]; omega)]
theorem FrameKeepsV {lo_b B_b : Nat} {A_b : Option Addr} {n_b c_b : Nat} {b : List Int} {off : Int} {lo_put B_put : Nat} {A_put : Option Addr} {n_put c_put : Nat} {put : List Int} {w : World}  (h_b : Vw tU8 w lo_b B_b A_b n_b c_b b) (b_off : -9223372036854775808 ≤ off ∧ off ≤ 9223372036854775807) (h_put : Vw tU8 w lo_put B_put A_put n_put c_put put) :
    Calls Try.prog 5 #[.slice A_b n_b c_b, .int .i64 off, .slice A_put n_put c_put] w fun e w' => ∃ (x0 : Bool), e = .returned (.bool x0) ∧ x0 = (true) ∧ Ext w w' := by
  have hE := Ext.refl w
  replace h_b := h_b.fit
  have hn_b := h_b.ln
  have hc_b := h_b.cap
  have hm_b := h_b.max
  simp only [maxLen] at hm_b
  replace h_put := h_put.fit
  have hn_put := h_put.ln
  have hc_put := h_put.cap
  have hm_put := h_put.max
  simp only [maxLen] at hm_put
  refine calls_of (l := [.slice A_b n_b c_b, .int .i64 off, .slice A_put n_put c_put]) (N := 109) Try.func5 rfl rfl rfl ?_
  refine C_seq (C_region (RL_q rfl (Yd_assign rfl) (RL_nil (X_then (C_seq (C_region (RL_q rfl (Yd_move rfl) (RL_l rfl (Ld_call Try.func21 rfl (by kernel_rfl) rfl (FillV h_b ⟨by first | omega | (dsimp only; omega), by first | omega | (dsimp only; omega)⟩) ?_)))))))))
  rintro e W1 ⟨A17, n17, c17, rfl, hF17, hfl17, he1⟩
  refine ⟨_, rfl, ?_⟩
  replace hE := Ext.trans hE he1
  replace h_b := h_b.ext he1
  replace h_put := h_put.ext he1
  have hs1 := he1.size
  have hn17 := hF17.ln
  try simp only [List.length_append, List.length_cons, List.length_nil, List.length_set, List.length_take, List.length_drop, List.length_replicate, List.length_map, Nat.zero_add, Nat.add_zero] at hn17
  have hc17 := hF17.cap
  rw [fill_len] at hn17
  have hn17' : n17 = 32 := hn17.symm
  refine RL_q rfl (Yd_assign rfl) (RL_nil (X_then (C_seq (C_region (RL_q rfl (Yd_move rfl) (RL_l rfl (Ld_call Try.func15 rfl (by kernel_rfl) rfl (AroundV ⟨by first | omega | (dsimp only; omega), by first | omega | (dsimp only; omega)⟩ ⟨by first | omega | (dsimp only; omega), by first | omega | (dsimp only; omega)⟩) ?_)))))))
  rintro e W2 ⟨y19, rfl, hy19, hra19, rfl⟩
  refine ⟨_, rfl, ?_⟩
  refine RL_q rfl (Yd_assign rfl) (RL_nil (X_then (C_seq (C_region (RL_q rfl (Yd_move rfl) (RL_q rfl (Yd_move rfl) (RL_q rfl (Yd_sub rfl rfl (i64w (by omega) (by omega))) (RL_l rfl (Ld_call Try.func22 rfl (by kernel_rfl) rfl (FewV h_put ⟨by first | omega | (dsimp only; omega), by first | omega | (dsimp only; omega)⟩) ?_)))))))))
  rintro e W3 ⟨A23, n23, c23, rfl, hF23, hle23, he3⟩
  refine ⟨_, rfl, ?_⟩
  replace hE := Ext.trans hE he3
  replace h_b := h_b.ext he3
  replace h_put := h_put.ext he3
  replace hF17 := hF17.ext he3
  have hs3 := he3.size
  have hn23 := hF23.ln
  try simp only [List.length_append, List.length_cons, List.length_nil, List.length_set, List.length_take, List.length_drop, List.length_replicate, List.length_map, Nat.zero_add, Nat.add_zero] at hn23
  have hc23 := hF23.cap
  try rw [hle23.2.2.1 (by omega)] at hF23 hn23
  refine RL_q rfl (Yd_assign rfl) (RL_nil (X_then (C_seq (C_region (RL_q rfl (Yd_build Try.bld28 rfl rfl) (RL_l rfl (Ld_box rfl ?_)))))))
  have hg_25 := hE.size
  intro W4 he4 hz4 hB25
  replace hE := Ext.trans hE he4
  replace h_b := h_b.ext he4
  replace h_put := h_put.ext he4
  replace hF17 := hF17.ext he4
  replace hF23 := hF23.ext he4
  replace hB25 : Blk W4 W3.heap.size 28 (frC emptyF) := hB25
  have okhB25 := emptyF_ok
  refine RL_q rfl (Yd_assign rfl) (RL_nil (X_then (C_seq (C_seq (C_region (RL_q rfl (Yd_move rfl) (RL_q rfl (Yd_move rfl) (RL_l rfl (Ld_call Try.func17 rfl (by kernel_rfl) rfl (LoadV (f := emptyF) hB25 okhB25 ⟨by first | omega | (dsimp only; omega), by first | omega | (dsimp only; omega)⟩ hF17.vw) ?_)))))))))
  rintro e W5 ⟨rfl, hB25n, hk5⟩
  refine ⟨_, rfl, ?_⟩
  have hs5 := hk5.size
  replace hE := Ext.kp hE hk5 (fun k hk => by first | omega | (have hk := hk; dsimp only at hk; omega))
  replace h_b := h_b.kp hk5 (fun k hk => by first | omega | (have hk := hk; dsimp only at hk; omega))
  replace h_put := h_put.kp hk5 (fun k hk => by first | omega | (have hk := hk; dsimp only at hk; omega))
  replace hF17 := hF17.kp hk5 (fun k hk => by first | omega | (have hk := hk; dsimp only at hk; omega))
  replace hF23 := hF23.kp hk5 (fun k hk => by first | omega | (have hk := hk; dsimp only at hk; omega))
  replace hB25 := hB25n
  replace okhB25 : FOk ((loadF emptyF 9 (fill b (32 : Int).toNat)).2) := loadF_ok okhB25 hF17.vw.byt
  rw [loadF_32 (by simp)] at hB25 okhB25
  refine RL_q rfl (Yd_neq rfl rfl) (RL_q rfl (Yd_move rfl) (?_))
  refine RL_is (d := 30) (b' := false) rfl (by rw [loadF_32 (by simp)]; rfl) ?_
  refine RL_gq rfl rfl rfl (Yd_move rfl) (RL_gq rfl rfl rfl (Yd_nil rfl) (RL_gq rfl rfl rfl (Yd_fld (off := 0) Try.underlying28 (by kernel_rfl) rfl) (RL_gl rfl rfl rfl (Ld_call Try.func16 rfl (by kernel_rfl) rfl (PinV (f := (⟨true, false, false, 0, 9, (fill b (32 : Int).toNat)⟩ : Fr)) hB25 okhB25) ?_))))
  rintro e W6 ⟨rfl, hB25n, hk6⟩
  refine ⟨_, rfl, ?_⟩
  have hs6 := hk6.size
  replace hE := Ext.kp hE hk6 (fun k hk => by first | omega | (have hk := hk; dsimp only at hk; omega))
  replace h_b := h_b.kp hk6 (fun k hk => by first | omega | (have hk := hk; dsimp only at hk; omega))
  replace h_put := h_put.kp hk6 (fun k hk => by first | omega | (have hk := hk; dsimp only at hk; omega))
  replace hF17 := hF17.kp hk6 (fun k hk => by first | omega | (have hk := hk; dsimp only at hk; omega))
  replace hF23 := hF23.kp hk6 (fun k hk => by first | omega | (have hk := hk; dsimp only at hk; omega))
  replace hB25 := hB25n
  replace okhB25 : FOk ((pinF (⟨true, false, false, 0, 9, (fill b (32 : Int).toNat)⟩ : Fr)).2) := pinF_ok okhB25
  rw [pinF_y (by omega)] at hB25 okhB25
  refine RL_gq rfl rfl rfl (Yd_neq rfl rfl) (RL_q rfl (Yd_pickF rfl rfl) (RL_nil (X_then (?_))))
  refine C_no rfl (by rw [pinF_y (by omega)]; rfl) (C_skip (X_then (C_seq (C_region (RL_q rfl (Yd_move rfl) (RL_q rfl (Yd_move rfl) (RL_q rfl (Yd_move rfl) (RL_l rfl (Ld_call Try.func25 rfl (by kernel_rfl) rfl (PutV (f := (⟨true, false, true, (0 + 1), 9, (fill b (32 : Int).toNat)⟩ : Fr)) hB25 okhB25 ⟨by first | omega | (dsimp only; omega), by first | omega | (dsimp only; omega)⟩ hF23.vw) ?_)))))))))
  rintro e W7 ⟨rfl, hB25n, hk7⟩
  refine ⟨_, rfl, ?_⟩
  have hs7 := hk7.size
  replace hE := Ext.kp hE hk7 (fun k hk => by first | omega | (have hk := hk; dsimp only at hk; omega))
  replace h_b := h_b.kp hk7 (fun k hk => by first | omega | (have hk := hk; dsimp only at hk; omega))
  replace h_put := h_put.kp hk7 (fun k hk => by first | omega | (have hk := hk; dsimp only at hk; omega))
  replace hF17 := hF17.kp hk7 (fun k hk => by first | omega | (have hk := hk; dsimp only at hk; omega))
  replace hF23 := hF23.kp hk7 (fun k hk => by first | omega | (have hk := hk; dsimp only at hk; omega))
  replace hB25 := hB25n
  replace okhB25 : FOk ((putF (⟨true, false, true, (0 + 1), 9, (fill b (32 : Int).toNat)⟩ : Fr) y19 (few put (32 - y19))).2) := putF_ok okhB25 hF23.vw.byt
  have hP := put_parts (pg := (fill b (32 : Int).toNat)) (q := (few put (32 - y19))) (off := y19) hF23.ln hF17.ln (by omega) (by omega) (by omega) rfl
  have hf40 : fitsE 32 y19 (((few put (32 - y19))).length : Int) = 0 := by rw [hF23.ln]; exact fitsE_ok rfl (by omega) (by omega) (by omega) (by omega)
  rw [putF_y (by omega) hf40] at hB25 okhB25
  refine RL_q rfl (Yd_assign rfl) (RL_nil (X_then (C_seq (C_region (RL_q rfl (Yd_move rfl) (RL_q rfl (Yd_move rfl) (RL_q rfl (Yd_move rfl) (RL_q rfl (Yd_len Try.underlying32 rfl) (RL_l rfl (Ld_call Try.func24 rfl (by kernel_rfl) rfl (GetV (f := (⟨true, true, true, (0 + 1), 9, (pPut (fill b (32 : Int).toNat) y19 (few put (32 - y19)))⟩ : Fr)) hB25 okhB25 ⟨by first | omega | (dsimp only; omega), by first | omega | (dsimp only; omega)⟩ ⟨by first | omega | (dsimp only; omega), by first | omega | (dsimp only; omega)⟩) ?_))))))))))
  rintro e W8 ⟨A46, n46, c46, rfl, hF46, hB25n, hk8⟩
  refine ⟨_, rfl, ?_⟩
  have hs8 := hk8.size
  replace hE := Ext.kp hE hk8 (fun k hk => by first | omega | (have hk := hk; dsimp only at hk; omega))
  replace h_b := h_b.kp hk8 (fun k hk => by first | omega | (have hk := hk; dsimp only at hk; omega))
  replace h_put := h_put.kp hk8 (fun k hk => by first | omega | (have hk := hk; dsimp only at hk; omega))
  replace hF17 := hF17.kp hk8 (fun k hk => by first | omega | (have hk := hk; dsimp only at hk; omega))
  replace hF23 := hF23.kp hk8 (fun k hk => by first | omega | (have hk := hk; dsimp only at hk; omega))
  replace hB25 := hB25n
  have hn46 := hF46.ln
  have hc46 := hF46.cap
  replace okhB25 : FOk ((getF (⟨true, true, true, (0 + 1), 9, (pPut (fill b (32 : Int).toNat) y19 (few put (32 - y19)))⟩ : Fr) y19 (n23 : Int)).2.2) := getF_ok okhB25
  have hf46 : fitsE 32 y19 (n23 : Int) = 0 := fitsE_ok rfl (by omega) (by omega) (by omega) (by omega)
  rw [getF_y (by omega) hf46] at hF46
  rw [getF_y (by omega) hf46] at hB25 okhB25
  refine RL_q rfl (Yd_move rfl) (RL_q rfl (Yd_extract rfl rfl) (RL_q rfl (Yd_extract rfl rfl) (RL_q rfl (Yd_assign rfl) (RL_q rfl (Yd_assign rfl) (RL_nil (X_then (C_seq (C_region (RL_q rfl (Yd_move rfl) (RL_q rfl (Yd_move rfl) (RL_q rfl (Yd_move rfl) (RL_l rfl (Ld_call Try.func26 rfl (by kernel_rfl) rfl (refPutV8 hF17.vw ⟨by first | omega | (dsimp only; omega), by first | omega | (dsimp only; omega)⟩ hF23.vw) ?_)))))))))))))
  rintro e W9 ⟨A53_0, n53_0, c53_0, y53_1, rfl, hF53_0, hy53_1, he9⟩
  refine ⟨_, rfl, ?_⟩
  replace hE := Ext.trans hE he9
  replace h_b := h_b.ext he9
  replace h_put := h_put.ext he9
  replace hF17 := hF17.ext he9
  replace hF23 := hF23.ext he9
  replace hB25 := hB25.ext he9
  replace hF46 := hF46.ext he9
  have hs9 := he9.size
  have hn53_0 := hF53_0.ln
  try simp only [List.length_append, List.length_cons, List.length_nil, List.length_set, List.length_take, List.length_drop, List.length_replicate, List.length_map, Nat.zero_add, Nat.add_zero] at hn53_0
  have hc53_0 := hF53_0.cap
  refine RL_q rfl (Yd_move rfl) (RL_q rfl (Yd_extract rfl rfl) (RL_q rfl (Yd_extract rfl rfl) (RL_q rfl (Yd_assign rfl) (RL_q rfl (Yd_assign rfl) (RL_nil (X_then (C_seq (?_))))))))
  refine C_regionD (NoB) (l := [(0, true), (1, true), (2, true), (3, true), (4, true), (5, true), (6, true), (7, true), (8, true), (9, true), (10, true), (11, true), (12, true), (13, true), (14, true), (17, true), (18, true), (15, false), (16, true), (19, true), (20, true), (21, true), (22, true), (23, true), (24, true), (25, true), (26, true), (27, true), (28, true), (29, true), (30, true), (31, true), (32, true), (33, true), (34, true), (35, true), (36, true), (37, true), (38, true), (39, true), (40, true), (41, true), (42, true), (43, true), (44, true), (45, true), (46, true), (47, true), (48, true), (49, true), (50, true), (51, false), (52, true), (53, true)]) (by kernel_rfl) (by kernel_rfl) rfl (by kernel_rfl) (fun _ _ d _ _ h => by cases d <;> exact h) ?_
  intro W10 he10 hh10
  replace hE := Ext.trans hE he10
  replace h_b := h_b.ext he10
  replace h_put := h_put.ext he10
  replace hF17 := hF17.ext he10
  replace hF23 := hF23.ext he10
  replace hB25 := hB25.ext he10
  replace hF46 := hF46.ext he10
  replace hF53_0 := hF53_0.ext he10
  have hs10 := he10.size
  refine RO_q rfl rfl (Yd_move rfl) (RO_q rfl rfl (Yd_eql rfl rfl) (RO_q rfl rfl (Yd_move rfl) (?_)))
  refine RO_is (d := 58) (b' := true) rfl (by rw [putF_y (by omega) hf40]; rfl) ?_
  refine RO_gq rfl rfl rfl rfl (Yd_move rfl) (RO_gq rfl rfl rfl rfl (Yd_eql rfl rfl) (RO_q rfl rfl (Yd_pickT rfl rfl) (RO_q rfl rfl (Yd_move rfl) (?_))))
  refine RO_is (d := 62) (b' := true) rfl (by rw [getF_y (by omega) hf46]; rfl) ?_
  refine RO_gq rfl rfl rfl rfl (Yd_move rfl) (RO_gq rfl rfl rfl rfl (Yd_str Try.underlying32 Try.underlying5 Try.underlying9 rfl (fun W hW => Rd.ext (hF46.vw).u8 hW.ext)) (RO_gq rfl rfl rfl rfl (Yd_move rfl) (RO_gq rfl rfl rfl rfl (Yd_str Try.underlying32 Try.underlying5 Try.underlying9 rfl (fun W hW => Rd.ext (hF23.vw).u8 hW.ext)) (RO_gq rfl rfl rfl rfl (Yd_eqlSB rfl rfl hF46.byt hF23.byt) (RO_q rfl rfl (Yd_pickT rfl rfl) (RO_q rfl rfl (Yd_move rfl) (?_)))))))
  refine RO_is (d := 69) (b' := true) rfl (decide_eq_true hP.2.2.2.2.2.1) ?_
  refine RO_gq rfl rfl rfl rfl (Yd_move rfl) (RO_gq rfl rfl rfl rfl (Yd_move rfl) (RO_gq rfl rfl rfl rfl (Yd_str Try.underlying32 Try.underlying5 Try.underlying9 rfl (fun W hW => Rd.ext (hF53_0.vw).u8 hW.ext)) (RO_gl rfl rfl rfl rfl (Ld_call Try.func23 rfl (by kernel_rfl) rfl (BytesV (f := (⟨true, true, true, (0 + 1), 9, (pPut (fill b (32 : Int).toNat) y19 (few put (32 - y19)))⟩ : Fr)) hB25 okhB25) ?_))))
  rintro e W11 ⟨A71, n71, c71, rfl, hF71, he11⟩
  refine ⟨_, rfl, ?_⟩
  refine ⟨Kp.of_ext he11, ?_⟩
  replace hE := Ext.trans hE he11
  replace h_b := h_b.ext he11
  replace h_put := h_put.ext he11
  replace hF17 := hF17.ext he11
  replace hF23 := hF23.ext he11
  replace hB25 := hB25.ext he11
  replace hF46 := hF46.ext he11
  replace hF53_0 := hF53_0.ext he11
  have hs11 := he11.size
  have hn71 := hF71.ln
  have hc71 := hF71.cap
  refine RO_gq rfl rfl rfl rfl (Yd_str Try.underlying32 Try.underlying5 Try.underlying9 rfl (fun W hW => Rd.ext (hF71.vw).u8 hW.ext)) (RO_gq rfl rfl rfl rfl (Yd_eqlSB rfl rfl hF71.byt hF53_0.byt) (RO_q rfl rfl (Yd_pickT rfl rfl) (RO_q rfl rfl (Yd_move rfl) (?_))))
  refine RO_is (d := 77) (b' := true) rfl (by simp) ?_
  refine RO_gq rfl rfl rfl rfl (Yd_move rfl) (RO_gq rfl rfl rfl rfl (Yd_nil rfl) (RO_gq rfl rfl rfl rfl (Yd_fld (off := 0) Try.underlying28 (by kernel_rfl) rfl) (RO_gq rfl rfl rfl rfl (Yd_fld (off := 1) Try.underlying25 (by kernel_rfl) rfl) (RO_gq rfl rfl rfl rfl (Yd_load Try.underlying4 rfl rfl (fun W hW => (ldB hB25 rfl) W hW.ext)) (RO_q rfl rfl (Yd_pickT rfl rfl) (RO_q rfl rfl (Yd_move rfl) (?_)))))))
  refine RO_is (d := 84) (b' := true) rfl (by rfl) ?_
  refine RO_gq rfl rfl rfl rfl (Yd_move rfl) (RO_gq rfl rfl rfl rfl (Yd_nil rfl) (RO_gq rfl rfl rfl rfl (Yd_fld (off := 0) Try.underlying28 (by kernel_rfl) rfl) (RO_gq rfl rfl rfl rfl (Yd_fld (off := 2) Try.underlying25 (by kernel_rfl) rfl) (RO_gq rfl rfl rfl rfl (Yd_load Try.underlying4 rfl rfl (fun W hW => (ldB hB25 rfl) W hW.ext)) (RO_q rfl rfl (Yd_pickT rfl rfl) (RO_q rfl rfl (Yd_move rfl) (?_)))))))
  refine RO_is (d := 91) (b' := true) rfl (by rfl) ?_
  refine RO_gq rfl rfl rfl rfl (Yd_move rfl) (RO_gq rfl rfl rfl rfl (Yd_nil rfl) (RO_gq rfl rfl rfl rfl (Yd_fld (off := 4) Try.underlying28 (by kernel_rfl) rfl) (RO_gq rfl rfl rfl rfl (Yd_load Try.underlying3 rfl rfl (fun W hW => (ldB hB25 rfl) W hW.ext)) (RO_gq rfl rfl rfl rfl (Yd_eql rfl rfl) (RO_q rfl rfl (Yd_pickT rfl rfl) (RO_q rfl rfl (Yd_move rfl) (?_)))))))
  refine RO_is (d := 98) (b' := true) rfl (by rfl) ?_
  refine RO_gq rfl rfl rfl rfl (Yd_move rfl) (RO_gq rfl rfl rfl rfl (Yd_nil rfl) (RO_gq rfl rfl rfl rfl (Yd_fld (off := 0) Try.underlying28 (by kernel_rfl) rfl) (RO_gq rfl rfl rfl rfl (Yd_fld (off := 3) Try.underlying25 (by kernel_rfl) rfl) (RO_gq rfl rfl rfl rfl (Yd_load Try.underlying3 rfl rfl (fun W hW => (ldB hB25 rfl) W hW.ext)) (RO_gq rfl rfl rfl rfl (Yd_eql rfl rfl) (RO_q rfl rfl (Yd_pickT rfl rfl) (RO_q rfl rfl (Yd_move rfl) (?_))))))))
  refine RO_is (d := 106) (b' := true) rfl (by rfl) ?_
  refine RO_gl rfl rfl rfl rfl (Ld_call Try.func20 rfl (by kernel_rfl) rfl (lives12V ) ?_)
  rintro e W12 ⟨_, rfl, rfl, he12⟩
  refine ⟨_, rfl, ?_⟩
  refine ⟨Kp.of_ext he12, ?_⟩
  replace hE := Ext.trans hE he12
  replace h_b := h_b.ext he12
  replace h_put := h_put.ext he12
  replace hF17 := hF17.ext he12
  replace hF23 := hF23.ext he12
  replace hB25 := hB25.ext he12
  replace hF46 := hF46.ext he12
  replace hF53_0 := hF53_0.ext he12
  replace hF71 := hF71.ext he12
  have hs12 := he12.size
  refine RO_q rfl rfl (Yd_pickT rfl rfl) (RO_q rfl rfl (Yd_assign rfl) (RO_nil (X_then (C_ret (X_ret1 rfl rfl ?_)))))
  refine ⟨_, rfl, ?_, hE⟩
  all_goals (first | rfl | omega | simp)
end Go.Proofs.AL
