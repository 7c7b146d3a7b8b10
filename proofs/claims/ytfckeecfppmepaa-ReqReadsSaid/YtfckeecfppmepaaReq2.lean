import Derived.Test.YtfckeecfppmepaaReq
set_option linter.unusedVariables false
set_option linter.unusedSimpArgs false
namespace Go.Proofs.AL
open Go.RowKit
theorem Check_c {lo B : Nat} (r : Rq) (pages : Int) (w : World) (hr : RqAt w lo B r) : Calls Try.prog 38 #[.agg #[.int .i64 r.op, .int .i64 r.page, .int .i64 r.off, .int .i64 r.len, .slice r.A r.n r.c], .int .i64 pages] w fun e w' => e = .returned (.int .i64 (rCheck r pages)) ∧ Ext w w' := by
  by_cases ho : r.op < 1 ∨ 8 < r.op
  · exact Check_out r pages w hr ho
  · have h : r.op = 1 ∨ r.op = 2 ∨ r.op = 3 ∨ r.op = 4 ∨ r.op = 5 ∨ r.op = 6 ∨ r.op = 7 ∨ r.op = 8 := by omega
    rcases h with h | h | h | h | h | h | h | h
    · exact Check_1 r pages w hr h
    · exact Check_2 r pages w hr h
    · exact Check_3 r pages w hr h
    · exact Check_4 r pages w hr h
    · exact Check_5 r pages w hr h
    · exact Check_6 r pages w hr h
    · exact Check_7 r pages w hr h
    · exact Check_8 r pages w hr h
theorem lives18_c (w : World) :
    Calls Try.prog 40 #[] w fun e w' => e = .returned (.bool true) ∧ Ext w w' := by
  have hE := Ext.refl w
  refine calls_of (l := []) (N := 19) Try.func40 rfl rfl rfl ?_
  refine C_seq (C_region (RL_q rfl (Yd_assign rfl) (RL_nil (X_then (C_seq (C_region (RL_l rfl (Ld_lit Try.underlying24 rfl (lit_flat Try.underlying24 Try.elt5 rfl rfl ⟨rfl, by decide⟩) ?_))))))))
  intro W1 he1 hz1 hL3
  replace hE := Ext.trans hE he1
  refine RL_q rfl (Yd_build Try.bld53 rfl rfl) (RL_l rfl (Ld_call Try.func38 rfl (by kernel_rfl) rfl (Check_c (lo := 0) (⟨3, 3, 30, 0, some ⟨w.heap.size, 0, none⟩, 2, 2, [1, 2]⟩ : Rq) 4 _ ⟨⟨hL3.rd (sz := 1) (n := 2) rfl, Nat.le_refl _, (fun h => by cases h), fun _ _ => Nat.zero_le _⟩, rfl, (fun x hx => by simp at hx; omega), by simp [maxLen], by simp, by simp, by simp, by simp⟩) ?_))
  rintro e W2 ⟨rfl, he2⟩
  refine ⟨_, rfl, ?_⟩
  replace hE := Ext.trans hE he2
  replace hL3 := hL3.ext he2
  have hs2 := he2.size
  rw [show rCheck (⟨3, 3, 30, 0, some ⟨w.heap.size, 0, none⟩, 2, 2, [1, 2]⟩ : Rq) 4 = 0 from by simp [rCheck]]
  refine RL_q rfl (Yd_assign rfl) (RL_nil (X_then (C_seq (C_region (RL_l rfl (Ld_lit Try.underlying24 rfl (lit_flat Try.underlying24 Try.elt5 rfl rfl ⟨rfl, by decide⟩) ?_))))))
  intro W3 he3 hz3 hL6
  replace hE := Ext.trans hE he3
  replace hL3 := hL3.ext he3
  refine RL_q rfl (Yd_build Try.bld53 rfl rfl) (RL_l rfl (Ld_call Try.func38 rfl (by kernel_rfl) rfl (Check_c (lo := 0) (⟨3, 3, 30, 0, some ⟨W2.heap.size, 0, none⟩, 3, 3, [1, 2, 3]⟩ : Rq) 4 _ ⟨⟨hL6.rd (sz := 1) (n := 3) rfl, Nat.le_refl _, (fun h => by cases h), fun _ _ => Nat.zero_le _⟩, rfl, (fun x hx => by simp at hx; omega), by simp [maxLen], by simp, by simp, by simp, by simp⟩) ?_))
  rintro e W4 ⟨rfl, he4⟩
  refine ⟨_, rfl, ?_⟩
  replace hE := Ext.trans hE he4
  replace hL3 := hL3.ext he4
  replace hL6 := hL6.ext he4
  have hs4 := he4.size
  rw [show rCheck (⟨3, 3, 30, 0, some ⟨W2.heap.size, 0, none⟩, 3, 3, [1, 2, 3]⟩ : Rq) 4 = 4 from by simp [rCheck]]
  refine RL_q rfl (Yd_assign rfl) (RL_nil (X_then (C_seq (C_region (RL_q rfl (Yd_move rfl) (RL_q rfl (Yd_eql rfl rfl) (RL_q rfl (Yd_move rfl) (?_))))))))
  refine RL_is (d := 11) (b' := true) rfl (rfl) ?_
  refine RL_gq rfl rfl rfl (Yd_move rfl) (RL_gq rfl rfl rfl (Yd_eql rfl rfl) (RL_q rfl (Yd_pickT rfl rfl) (RL_q rfl (Yd_move rfl) (?_))))
  refine RL_is (d := 15) (b' := true) rfl (rfl) ?_
  refine RL_gl rfl rfl rfl (Ld_call Try.func41 rfl (by kernel_rfl) rfl (Name_c _ _) ?_)
  rintro e W5 ⟨rfl, he5⟩
  refine ⟨_, rfl, ?_⟩
  replace hE := Ext.trans hE he5
  replace hL3 := hL3.ext he5
  replace hL6 := hL6.ext he5
  have hs5 := he5.size
  refine RL_gq rfl rfl rfl (Yd_eqlS rfl rfl) (RL_q rfl (Yd_pickT rfl rfl) (RL_q rfl (Yd_assign rfl) (RL_nil (X_then (C_ret (X_ret1 rfl rfl ?_))))))
  exact ⟨congrArg (fun b => Ending.returned (.bool b)) (by decide +kernel), hE⟩
end Go.Proofs.AL
