import Derived.Test.YtikfkmcgdceaoaaFrc
set_option linter.unusedVariables false
set_option linter.unusedSimpArgs false
namespace Go.Proofs.AL
open Go.RowKit
theorem lives12V  {w : World}   :
    Calls Try.prog 20 #[] w fun e w' => ∃ (x0 : Bool), e = .returned (.bool x0) ∧ x0 = (true) ∧ Ext w w' := by
  have hE := Ext.refl w
  refine calls_of (l := []) (N := 70) Try.func20 rfl rfl rfl ?_
  refine C_seq (C_region (RL_q rfl (Yd_assign rfl) (RL_nil (X_then (C_seq (C_region (RL_q rfl (Yd_build Try.bld28 rfl rfl) (RL_l rfl (Ld_box rfl ?_)))))))))
  have hg_11 := hE.size
  intro W1 he1 hz1 hB11
  replace hE := Ext.trans hE he1
  replace hB11 : Blk W1 w.heap.size 28 (frC emptyF) := hB11
  have okhB11 := emptyF_ok
  refine RL_q rfl (Yd_assign rfl) (RL_nil (X_then (C_seq (C_region (RL_q rfl (Yd_move rfl) (RL_l rfl (Ld_mk Try.underlying32 Try.elt5 rfl rfl rfl (n := 32) (by omega) (by omega) (T := tU8) (a := 0) rfl (by omega) (by simp only [maxLen]; omega) ⟨by decide, by decide⟩ ?_)))))))
  intro W2 hO13 he2
  replace hE := Ext.trans hE he2
  replace hB11 := hB11.ext he2
  have hs2 := he2.size
  have hn13 := hO13.ln
  have hlt13 : W1.heap.size < W2.heap.size := (hO13.own.lt' _ rfl).2
  refine RL_l rfl (Ld_call Try.func17 rfl (by kernel_rfl) rfl (LoadV (f := emptyF) hB11 okhB11 ⟨by first | omega | (dsimp only; omega), by first | omega | (dsimp only; omega)⟩ hO13.vw) ?_)
  rintro e W3 ⟨rfl, hB11n, hk3⟩
  refine ⟨_, rfl, ?_⟩
  have hs3 := hk3.size
  replace hE := Ext.kp hE hk3 (fun k hk => by first | omega | (have hk := hk; dsimp only at hk; omega))
  replace hO13 := hO13.kp hk3 (fun k hk => by first | omega | (have hk := hk; dsimp only at hk; omega))
  replace hB11 := hB11n
  replace okhB11 : FOk ((loadF emptyF 3 (List.replicate 32 0)).2) := loadF_ok okhB11 hO13.vw.byt
  refine RL_q rfl (Yd_assign rfl) (RL_nil (X_then (C_seq (C_region (RL_q rfl (Yd_move rfl) (RL_q rfl (Yd_nil rfl) (RL_q rfl (Yd_fld (off := 0) Try.underlying28 (by kernel_rfl) rfl) (RL_l rfl (Ld_call Try.func16 rfl (by kernel_rfl) rfl (PinV (f := (loadF emptyF 3 (List.replicate 32 0)).2) hB11 okhB11) ?_)))))))))
  rintro e W4 ⟨rfl, hB11n, hk4⟩
  refine ⟨_, rfl, ?_⟩
  have hs4 := hk4.size
  replace hE := Ext.kp hE hk4 (fun k hk => by first | omega | (have hk := hk; dsimp only at hk; omega))
  replace hO13 := hO13.kp hk4 (fun k hk => by first | omega | (have hk := hk; dsimp only at hk; omega))
  replace hB11 := hB11n
  replace okhB11 : FOk ((pinF ((loadF emptyF 3 (List.replicate 32 0)).2)).2) := pinF_ok okhB11
  refine RL_q rfl (Yd_assign rfl) (RL_nil (X_then (C_seq (C_region (RL_q rfl (Yd_move rfl) (RL_l rfl (Ld_lit Try.underlying32 rfl (lit_flat Try.underlying32 Try.elt5 rfl rfl ⟨rfl, by decide⟩) ?_)))))))
  intro W5 he5 hz5 hL20
  replace hE := Ext.trans hE he5
  replace hB11 := hB11.ext he5
  replace hO13 := hO13.ext he5
  have hO20 := Ow.of_blk (T := tU8) (l := [7]) hL20 rfl (n := 1) rfl (by simp [maxLen]) (okc ⟨by omega, by omega⟩ okn)
  clear hL20
  refine RL_l rfl (Ld_call Try.func25 rfl (by kernel_rfl) rfl (PutV (f := (pinF ((loadF emptyF 3 (List.replicate 32 0)).2)).2) hB11 okhB11 ⟨by first | omega | (dsimp only; omega), by first | omega | (dsimp only; omega)⟩ hO20.vw) ?_)
  rintro e W6 ⟨rfl, hB11n, hk6⟩
  refine ⟨_, rfl, ?_⟩
  have hs6 := hk6.size
  replace hE := Ext.kp hE hk6 (fun k hk => by first | omega | (have hk := hk; dsimp only at hk; omega))
  replace hO13 := hO13.kp hk6 (fun k hk => by first | omega | (have hk := hk; dsimp only at hk; omega))
  replace hO20 := hO20.kp hk6 (fun k hk => by first | omega | (have hk := hk; dsimp only at hk; omega))
  replace hB11 := hB11n
  replace okhB11 : FOk ((putF ((pinF ((loadF emptyF 3 (List.replicate 32 0)).2)).2) 0 ([7])).2) := putF_ok okhB11 hO20.vw.byt
  refine RL_q rfl (Yd_assign rfl) (RL_nil (X_then (C_seq (C_region (RL_q rfl (Yd_move rfl) (RL_l rfl (Ld_call Try.func24 rfl (by kernel_rfl) rfl (GetV (f := (putF ((pinF ((loadF emptyF 3 (List.replicate 32 0)).2)).2) 0 ([7])).2) hB11 okhB11 ⟨by first | omega | (dsimp only; omega), by first | omega | (dsimp only; omega)⟩ ⟨by first | omega | (dsimp only; omega), by first | omega | (dsimp only; omega)⟩) ?_)))))))
  rintro e W7 ⟨A24, n24, c24, rfl, hF24, hB11n, hk7⟩
  refine ⟨_, rfl, ?_⟩
  have hs7 := hk7.size
  replace hE := Ext.kp hE hk7 (fun k hk => by first | omega | (have hk := hk; dsimp only at hk; omega))
  replace hO13 := hO13.kp hk7 (fun k hk => by first | omega | (have hk := hk; dsimp only at hk; omega))
  replace hO20 := hO20.kp hk7 (fun k hk => by first | omega | (have hk := hk; dsimp only at hk; omega))
  replace hB11 := hB11n
  have hn24 := hF24.ln
  have hc24 := hF24.cap
  replace okhB11 : FOk ((getF ((putF ((pinF ((loadF emptyF 3 (List.replicate 32 0)).2)).2) 0 ([7])).2) 0 1).2.2) := getF_ok okhB11
  refine RL_q rfl (Yd_move rfl) (RL_q rfl (Yd_extract rfl rfl) (RL_q rfl (Yd_extract rfl rfl) (RL_q rfl (Yd_assign rfl) (RL_q rfl (Yd_assign rfl) (RL_nil (X_then (C_seq (C_region (RL_q rfl (Yd_move rfl) (RL_q rfl (Yd_nil rfl) (RL_q rfl (Yd_fld (off := 0) Try.underlying28 (by kernel_rfl) rfl) (RL_l rfl (Ld_call Try.func18 rfl (by kernel_rfl) rfl (UnpinV (f := (getF ((putF ((pinF ((loadF emptyF 3 (List.replicate 32 0)).2)).2) 0 ([7])).2) 0 1).2.2) hB11 okhB11) ?_)))))))))))))
  rintro e W8 ⟨rfl, hB11n, hk8⟩
  refine ⟨_, rfl, ?_⟩
  have hs8 := hk8.size
  replace hE := Ext.kp hE hk8 (fun k hk => by first | omega | (have hk := hk; dsimp only at hk; omega))
  replace hO13 := hO13.kp hk8 (fun k hk => by first | omega | (have hk := hk; dsimp only at hk; omega))
  replace hO20 := hO20.kp hk8 (fun k hk => by first | omega | (have hk := hk; dsimp only at hk; omega))
  replace hF24 := hF24.kp hk8 (fun k hk => by first | omega | (have hk := hk; dsimp only at hk; omega))
  replace hB11 := hB11n
  replace okhB11 : FOk ((unpinF ((getF ((putF ((pinF ((loadF emptyF 3 (List.replicate 32 0)).2)).2) 0 ([7])).2) 0 1).2.2)).2) := unpinF_ok okhB11
  refine RL_q rfl (Yd_assign rfl) (RL_nil (X_then (C_seq (C_region (RL_q rfl (Yd_move rfl) (RL_l rfl (Ld_call Try.func24 rfl (by kernel_rfl) rfl (GetV (f := (unpinF ((getF ((putF ((pinF ((loadF emptyF 3 (List.replicate 32 0)).2)).2) 0 ([7])).2) 0 1).2.2)).2) hB11 okhB11 ⟨by first | omega | (dsimp only; omega), by first | omega | (dsimp only; omega)⟩ ⟨by first | omega | (dsimp only; omega), by first | omega | (dsimp only; omega)⟩) ?_)))))))
  rintro e W9 ⟨A33, n33, c33, rfl, hF33, hB11n, hk9⟩
  refine ⟨_, rfl, ?_⟩
  have hs9 := hk9.size
  replace hE := Ext.kp hE hk9 (fun k hk => by first | omega | (have hk := hk; dsimp only at hk; omega))
  replace hO13 := hO13.kp hk9 (fun k hk => by first | omega | (have hk := hk; dsimp only at hk; omega))
  replace hO20 := hO20.kp hk9 (fun k hk => by first | omega | (have hk := hk; dsimp only at hk; omega))
  replace hF24 := hF24.kp hk9 (fun k hk => by first | omega | (have hk := hk; dsimp only at hk; omega))
  replace hB11 := hB11n
  have hn33 := hF33.ln
  have hc33 := hF33.cap
  replace okhB11 : FOk ((getF ((unpinF ((getF ((putF ((pinF ((loadF emptyF 3 (List.replicate 32 0)).2)).2) 0 ([7])).2) 0 1).2.2)).2) 0 1).2.2) := getF_ok okhB11
  refine RL_q rfl (Yd_move rfl) (RL_q rfl (Yd_extract rfl rfl) (RL_q rfl (Yd_extract rfl rfl) (RL_q rfl (Yd_assign rfl) (RL_q rfl (Yd_assign rfl) (RL_nil (X_then (C_seq (C_region (RL_q rfl (Yd_move rfl) (RL_q rfl (Yd_eql rfl rfl) (RL_q rfl (Yd_move rfl) (?_))))))))))))
  refine RL_is (d := 38) (b' := true) rfl (by kernel_rfl) ?_
  refine RL_gq rfl rfl rfl (Yd_move rfl) (RL_gq rfl rfl rfl (Yd_eql rfl rfl) (RL_q rfl (Yd_pickT rfl rfl) (RL_q rfl (Yd_move rfl) (?_))))
  refine RL_is (d := 42) (b' := true) rfl (by kernel_rfl) ?_
  refine RL_gq rfl rfl rfl (Yd_move rfl) (RL_gq rfl rfl rfl (Yd_eql rfl rfl) (RL_q rfl (Yd_pickT rfl rfl) (RL_q rfl (Yd_move rfl) (?_))))
  refine RL_is (d := 46) (b' := true) rfl (by kernel_rfl) ?_
  refine RL_gq rfl rfl rfl (Yd_move rfl) (RL_gq rfl rfl rfl (Yd_nil rfl) (RL_gq rfl rfl rfl (Yd_fld (off := 0) Try.underlying28 (by kernel_rfl) rfl) (RL_gq rfl rfl rfl (Yd_fld (off := 1) Try.underlying25 (by kernel_rfl) rfl) (RL_gq rfl rfl rfl (Yd_load Try.underlying4 rfl rfl (ldB hB11 rfl)) (RL_q rfl (Yd_pickT rfl rfl) (RL_q rfl (Yd_move rfl) (?_)))))))
  refine RL_is (d := 53) (b' := true) rfl (by kernel_rfl) ?_
  refine RL_gq rfl rfl rfl (Yd_move rfl) (RL_gq rfl rfl rfl (Yd_eql rfl rfl) (RL_q rfl (Yd_pickT rfl rfl) (RL_q rfl (Yd_move rfl) (?_))))
  refine RL_is (d := 57) (b' := true) rfl (by kernel_rfl) ?_
  refine RL_gq rfl rfl rfl (Yd_move rfl) (RL_gq rfl rfl rfl (Yd_str Try.underlying32 Try.underlying5 Try.underlying9 rfl (fun W hW => Rd.ext (hF24.vw).u8 hW)) (RL_gq rfl rfl rfl (Yd_eqlSB (b := [7]) rfl rfl hF24.byt (by decide)) (RL_q rfl (Yd_pickT rfl rfl) (RL_q rfl (Yd_move rfl) (?_)))))
  refine RL_is (d := 62) (b' := true) rfl (by kernel_rfl) ?_
  refine RL_gq rfl rfl rfl (Yd_move rfl) (RL_gq rfl rfl rfl (Yd_eql rfl rfl) (RL_q rfl (Yd_pickT rfl rfl) (RL_q rfl (Yd_move rfl) (?_))))
  refine RL_is (d := 66) (b' := true) rfl (by kernel_rfl) ?_
  refine RL_gq rfl rfl rfl (Yd_move rfl) (RL_gq rfl rfl rfl (Yd_eql rfl rfl) (RL_q rfl (Yd_pickT rfl rfl) (RL_q rfl (Yd_assign rfl) (RL_nil (X_then (C_ret (X_ret1 rfl rfl ?_)))))))
  refine ⟨_, rfl, ?_, hE⟩
  all_goals (first | rfl | omega | simp)
end Go.Proofs.AL
