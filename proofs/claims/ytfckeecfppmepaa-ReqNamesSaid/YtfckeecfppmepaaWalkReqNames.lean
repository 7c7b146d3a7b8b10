import Derived.Test.YtfckeecfppmepaaReq2
set_option linter.unusedVariables false
set_option linter.unusedSimpArgs false
namespace Go.Proofs.AL
open Go.RowKit
theorem ReqNames_c (op : Int) (w : World) (h1 : -9223372036854775808 ≤ op) (h2 : op ≤ 9223372036854775807) :
    Calls Try.prog 10 #[.int .i64 op] w fun e w' => e = .returned (.bool true) ∧ Ext w w' := by
  have hE := Ext.refl w
  refine calls_of (l := [.int .i64 op]) (N := 25) Try.func10 rfl rfl rfl ?_
  refine C_seq (C_region (RL_q rfl (Yd_assign rfl) (RL_nil (X_then (C_seq (C_region (RL_q rfl (Yd_move rfl) (RL_l rfl (Ld_call Try.func14 rfl (by kernel_rfl) rfl (Around_c op _ _ h1 h2 (by omega) (by omega)) ?_)))))))))
  rintro e W1 ⟨rfl, rfl⟩
  refine ⟨_, rfl, ?_⟩
  refine RL_q rfl (Yd_assign rfl) (RL_nil (X_then (C_seq (C_region (RL_q rfl (Yd_move rfl) (RL_l rfl (Ld_call Try.func41 rfl (by kernel_rfl) rfl (Name_c _ _) ?_)))))))
  rintro e W2 ⟨rfl, he2⟩
  refine ⟨_, rfl, ?_⟩
  replace hE := Ext.trans hE he2
  have hs2 := he2.size
  refine RL_q rfl (Yd_move rfl) (RL_l rfl (Ld_call Try.func42 rfl (by kernel_rfl) rfl (refName_c _ _) ?_))
  rintro e W3 ⟨rfl, he3⟩
  refine ⟨_, rfl, ?_⟩
  replace hE := Ext.trans hE he3
  have hs3 := he3.size
  refine RL_q rfl (Yd_eqlS rfl rfl) (RL_q rfl (Yd_move rfl) (?_))
  refine RL_is (d := 11) (b' := true) rfl (bytes_self _) ?_
  refine RL_gq rfl rfl rfl (Yd_move rfl) (RL_gl rfl rfl rfl (Ld_call Try.func41 rfl (by kernel_rfl) rfl (Name_c _ _) ?_))
  rintro e W4 ⟨rfl, he4⟩
  refine ⟨_, rfl, ?_⟩
  replace hE := Ext.trans hE he4
  have hs4 := he4.size
  refine RL_gq rfl rfl rfl (Yd_move rfl) (RL_gl rfl rfl rfl (Ld_call Try.func42 rfl (by kernel_rfl) rfl (refName_c _ _) ?_))
  rintro e W5 ⟨rfl, he5⟩
  refine ⟨_, rfl, ?_⟩
  replace hE := Ext.trans hE he5
  have hs5 := he5.size
  refine RL_gq rfl rfl rfl (Yd_eqlS rfl rfl) (RL_q rfl (Yd_pickT rfl rfl) (RL_q rfl (Yd_move rfl) (?_)))
  refine RL_is (d := 18) (b' := true) rfl (bytes_self _) ?_
  refine RL_gl rfl rfl rfl (Ld_call Try.func41 rfl (by kernel_rfl) rfl (Name_c _ _) ?_)
  rintro e W6 ⟨rfl, he6⟩
  refine ⟨_, rfl, ?_⟩
  replace hE := Ext.trans hE he6
  have hs6 := he6.size
  refine RL_gq rfl rfl rfl (Yd_eqlS rfl rfl) (RL_q rfl (Yd_pickT rfl rfl) (RL_q rfl (Yd_move rfl) (?_)))
  refine RL_is (d := 22) (b' := true) rfl (by rw [rName_out (by omega)]; exact bytes_self _) ?_
  refine RL_gl rfl rfl rfl (Ld_call Try.func40 rfl (by kernel_rfl) rfl (lives18_c _) ?_)
  rintro e W7 ⟨rfl, he7⟩
  refine ⟨_, rfl, ?_⟩
  replace hE := Ext.trans hE he7
  have hs7 := he7.size
  refine RL_q rfl (Yd_pickT rfl rfl) (RL_q rfl (Yd_assign rfl) (RL_nil (X_then (C_ret (X_ret1 rfl rfl ?_)))))
  exact ⟨rfl, hE⟩
end Go.Proofs.AL
