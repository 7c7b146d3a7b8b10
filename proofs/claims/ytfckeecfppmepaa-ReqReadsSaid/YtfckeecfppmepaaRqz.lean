import Derived.Test.YtfckeecfppmepaaRqy
set_option linter.unusedVariables false
set_option linter.unusedSimpArgs false
namespace Go.Proofs.AL
open Go.RowKit

structure Cp where
  s : Int
  l : Int
theorem Cp_eq (a b : Cp) : ((a.s == b.s) && ((a.l == b.l) && true)) = decide (a.s = b.s ∧ a.l = b.l) := by
  rw [Bool.eq_iff_iff]; simp
theorem FewV {lo_b B_b : Nat} {A_b : Option Addr} {n_b c_b : Nat} {b : List Int} {m : Int} {w : World}  (h_b : Vw tU8 w lo_b B_b A_b n_b c_b b) (b_m : 0 ≤ m ∧ m ≤ 65536) :
    Calls Try.prog 17 #[.slice A_b n_b c_b, .int .i64 m] w fun e w' => ∃ (A0 : Option Addr) (n0 c0 : Nat), e = .returned (.slice A0 n0 c0) ∧ Ow tU8 5 w' w.heap.size w'.heap.size A0 n0 c0 (few b m) ∧ ((n0 : Int) ≤ m ∧ n0 ≤ n_b ∧ ((n_b : Int) ≤ m → few b m = b) ∧ ((n_b : Int) ≤ m → n0 = n_b)) ∧ Ext w w' :=
  Calls.mono (Few_c A_b n_b c_b b m w h_b.u8 h_b.ln h_b.cap b_m.1 b_m.2 h_b.nil) fun e w' ⟨A, c, h1, h2, h3⟩ => ⟨A, _, c, h1, ow_u8 h2 (few_byt h_b.byt m), by have := few_le b m b_m.1; have h := h_b.ln; exact ⟨by omega, by omega, fun h5 => few_all (by omega), fun h5 => by rw [few_all (by omega)]; exact h⟩, h3⟩
theorem rSameV {aop apg aoff an : Int} {lo_ad B_ad : Nat} {A_ad : Option Addr} {n_ad c_ad : Nat} {ad : List Int} {bop bpg boff bn : Int} {lo_bd B_bd : Nat} {A_bd : Option Addr} {n_bd c_bd : Nat} {bd : List Int} {w : World}  (h_ad : Vw tU8 w lo_ad B_ad A_ad n_ad c_ad ad) (b_a : (-9223372036854775808 ≤ aop ∧ aop ≤ 9223372036854775807) ∧ (-9223372036854775808 ≤ apg ∧ apg ≤ 9223372036854775807) ∧ (-9223372036854775808 ≤ aoff ∧ aoff ≤ 9223372036854775807) ∧ (-9223372036854775808 ≤ an ∧ an ≤ 9223372036854775807)) (h_bd : Vw tU8 w lo_bd B_bd A_bd n_bd c_bd bd) (b_b : (-9223372036854775808 ≤ bop ∧ bop ≤ 9223372036854775807) ∧ (-9223372036854775808 ≤ bpg ∧ bpg ≤ 9223372036854775807) ∧ (-9223372036854775808 ≤ boff ∧ boff ≤ 9223372036854775807) ∧ (-9223372036854775808 ≤ bn ∧ bn ≤ 9223372036854775807)) :
    Calls Try.prog 44 #[.agg #[.int .i64 aop, .int .i64 apg, .int .i64 aoff, .int .i64 an, .slice A_ad n_ad c_ad], .agg #[.int .i64 bop, .int .i64 bpg, .int .i64 boff, .int .i64 bn, .slice A_bd n_bd c_bd]] w fun e w' => ∃ (x0 : Bool), e = .returned (.bool x0) ∧ x0 = (decide (aop = bop ∧ apg = bpg ∧ aoff = boff ∧ an = bn ∧ ad = bd)) ∧ Ext w w' := by
  have hE := Ext.refl w
  replace h_ad := h_ad.fit
  have hn_ad := h_ad.ln
  have hc_ad := h_ad.cap
  have hm_ad := h_ad.max
  simp only [maxLen] at hm_ad
  replace h_bd := h_bd.fit
  have hn_bd := h_bd.ln
  have hc_bd := h_bd.cap
  have hm_bd := h_bd.max
  simp only [maxLen] at hm_bd
  refine calls_of (l := [.agg #[.int .i64 aop, .int .i64 apg, .int .i64 aoff, .int .i64 an, .slice A_ad n_ad c_ad], .agg #[.int .i64 bop, .int .i64 bpg, .int .i64 boff, .int .i64 bn, .slice A_bd n_bd c_bd]]) (N := 40) Try.func44 rfl rfl rfl ?_
  refine C_seq (C_region (RL_l rfl (Ld_box rfl ?_)))
  have hg_2 := hE.size
  intro W1 he1 hz1 hB2
  replace hE := Ext.trans hE he1
  replace h_ad := h_ad.ext he1
  replace h_bd := h_bd.ext he1
  refine RL_l rfl (Ld_box rfl ?_)
  have hg_3 := hE.size
  intro W2 he2 hz2 hB3
  replace hE := Ext.trans hE he2
  replace h_ad := h_ad.ext he2
  replace h_bd := h_bd.ext he2
  replace hB2 := hB2.ext he2
  refine RL_q rfl (Yd_assign rfl) (RL_nil (X_then (C_seq (C_region (RL_q rfl (Yd_fld (off := 0) Try.underlying53 (by kernel_rfl) rfl) (RL_q rfl (Yd_load Try.underlying3 rfl rfl (ldB hB2 rfl)) (RL_q rfl (Yd_fld (off := 0) Try.underlying53 (by kernel_rfl) rfl) (RL_q rfl (Yd_load Try.underlying3 rfl rfl (ldB hB3 rfl)) (RL_q rfl (Yd_eql rfl rfl) (RL_q rfl (Yd_move rfl) (?_)))))))))))
  apply RL_and (dj := 10) 16 6 rfl
  · intro hb10
    try simp only [decide_eq_true_eq, decide_eq_false_iff_not, Bool.not_eq_true', Bool.not_eq_false', Decidable.not_not, Int.not_lt, Int.not_le, Bool.or_eq_true, Bool.and_eq_true, Bool.or_eq_false_iff, Bool.and_eq_false_iff] at hb10
    refine QL_gq rfl rfl rfl (Yd_fld (off := 1) Try.underlying53 (by kernel_rfl) rfl) (QL_gq rfl rfl rfl (Yd_load Try.underlying3 rfl rfl (ldB hB2 rfl)) (QL_gq rfl rfl rfl (Yd_fld (off := 1) Try.underlying53 (by kernel_rfl) rfl) (QL_gq rfl rfl rfl (Yd_load Try.underlying3 rfl rfl (ldB hB3 rfl)) (QL_gq rfl rfl rfl (Yd_eql rfl rfl) (QL_q rfl (Yd_pickT rfl rfl) ((QL_nil 6 rfl rfl rfl)))))))
  · intro hb10
    try simp only [decide_eq_true_eq, decide_eq_false_iff_not, Bool.not_eq_true', Bool.not_eq_false', Decidable.not_not, Int.not_lt, Int.not_le, Bool.or_eq_true, Bool.and_eq_true, Bool.or_eq_false_iff, Bool.and_eq_false_iff] at hb10
    refine QL_gn rfl rfl rfl rfl (QL_gn rfl rfl rfl rfl (QL_gn rfl rfl rfl rfl (QL_gn rfl rfl rfl rfl (QL_gn rfl rfl rfl rfl (QL_q rfl (Yd_pickF rfl rfl) ((QL_nil 6 rfl rfl rfl)))))))
  · skip
    refine RL_q rfl (Yd_move rfl) (?_)
    apply RL_and (dj := 17) 23 6 rfl
    · intro hb17
      try simp only [decide_eq_true_eq, decide_eq_false_iff_not, Bool.not_eq_true', Bool.not_eq_false', Decidable.not_not, Int.not_lt, Int.not_le, Bool.or_eq_true, Bool.and_eq_true, Bool.or_eq_false_iff, Bool.and_eq_false_iff] at hb17
      refine QL_gq rfl rfl rfl (Yd_fld (off := 2) Try.underlying53 (by kernel_rfl) rfl) (QL_gq rfl rfl rfl (Yd_load Try.underlying3 rfl rfl (ldB hB2 rfl)) (QL_gq rfl rfl rfl (Yd_fld (off := 2) Try.underlying53 (by kernel_rfl) rfl) (QL_gq rfl rfl rfl (Yd_load Try.underlying3 rfl rfl (ldB hB3 rfl)) (QL_gq rfl rfl rfl (Yd_eql rfl rfl) (QL_q rfl (Yd_pickT rfl rfl) ((QL_nil 6 rfl rfl rfl)))))))
    · intro hb17
      try simp only [decide_eq_true_eq, decide_eq_false_iff_not, Bool.not_eq_true', Bool.not_eq_false', Decidable.not_not, Int.not_lt, Int.not_le, Bool.or_eq_true, Bool.and_eq_true, Bool.or_eq_false_iff, Bool.and_eq_false_iff] at hb17
      refine QL_gn rfl rfl rfl rfl (QL_gn rfl rfl rfl rfl (QL_gn rfl rfl rfl rfl (QL_gn rfl rfl rfl rfl (QL_gn rfl rfl rfl rfl (QL_q rfl (Yd_pickF rfl rfl) ((QL_nil 6 rfl rfl rfl)))))))
    · skip
      refine RL_q rfl (Yd_move rfl) (?_)
      apply RL_and (dj := 24) 30 6 rfl
      · intro hb24
        try simp only [decide_eq_true_eq, decide_eq_false_iff_not, Bool.not_eq_true', Bool.not_eq_false', Decidable.not_not, Int.not_lt, Int.not_le, Bool.or_eq_true, Bool.and_eq_true, Bool.or_eq_false_iff, Bool.and_eq_false_iff] at hb24
        refine QL_gq rfl rfl rfl (Yd_fld (off := 3) Try.underlying53 (by kernel_rfl) rfl) (QL_gq rfl rfl rfl (Yd_load Try.underlying3 rfl rfl (ldB hB2 rfl)) (QL_gq rfl rfl rfl (Yd_fld (off := 3) Try.underlying53 (by kernel_rfl) rfl) (QL_gq rfl rfl rfl (Yd_load Try.underlying3 rfl rfl (ldB hB3 rfl)) (QL_gq rfl rfl rfl (Yd_eql rfl rfl) (QL_q rfl (Yd_pickT rfl rfl) ((QL_nil 6 rfl rfl rfl)))))))
      · intro hb24
        try simp only [decide_eq_true_eq, decide_eq_false_iff_not, Bool.not_eq_true', Bool.not_eq_false', Decidable.not_not, Int.not_lt, Int.not_le, Bool.or_eq_true, Bool.and_eq_true, Bool.or_eq_false_iff, Bool.and_eq_false_iff] at hb24
        refine QL_gn rfl rfl rfl rfl (QL_gn rfl rfl rfl rfl (QL_gn rfl rfl rfl rfl (QL_gn rfl rfl rfl rfl (QL_gn rfl rfl rfl rfl (QL_q rfl (Yd_pickF rfl rfl) ((QL_nil 6 rfl rfl rfl)))))))
      · skip
        refine RL_q rfl (Yd_move rfl) (?_)
        apply RL_and (dj := 31) 39 8 rfl
        · intro hb31
          try simp only [decide_eq_true_eq, decide_eq_false_iff_not, Bool.not_eq_true', Bool.not_eq_false', Decidable.not_not, Int.not_lt, Int.not_le, Bool.or_eq_true, Bool.and_eq_true, Bool.or_eq_false_iff, Bool.and_eq_false_iff] at hb31
          refine QL_gq rfl rfl rfl (Yd_fld (off := 4) Try.underlying53 (by kernel_rfl) rfl) (QL_gq rfl rfl rfl (Yd_load Try.underlying24 rfl rfl (ldB hB2 rfl)) (QL_gq rfl rfl rfl (Yd_str Try.underlying24 Try.underlying5 Try.underlying9 rfl (fun W hW => Rd.ext (h_ad).u8 hW)) (QL_gq rfl rfl rfl (Yd_fld (off := 4) Try.underlying53 (by kernel_rfl) rfl) (QL_gq rfl rfl rfl (Yd_load Try.underlying24 rfl rfl (ldB hB3 rfl)) (QL_gq rfl rfl rfl (Yd_str Try.underlying24 Try.underlying5 Try.underlying9 rfl (fun W hW => Rd.ext (h_bd).u8 hW)) (QL_gq rfl rfl rfl (Yd_eqlSB rfl rfl h_ad.byt h_bd.byt) (QL_q rfl (Yd_pickT rfl rfl) ((QL_nil 8 rfl rfl rfl)))))))))
        · intro hb31
          try simp only [decide_eq_true_eq, decide_eq_false_iff_not, Bool.not_eq_true', Bool.not_eq_false', Decidable.not_not, Int.not_lt, Int.not_le, Bool.or_eq_true, Bool.and_eq_true, Bool.or_eq_false_iff, Bool.and_eq_false_iff] at hb31
          refine QL_gn rfl rfl rfl rfl (QL_gn rfl rfl rfl rfl (QL_gn rfl rfl rfl rfl (QL_gn rfl rfl rfl rfl (QL_gn rfl rfl rfl rfl (QL_gn rfl rfl rfl rfl (QL_gn rfl rfl rfl rfl (QL_q rfl (Yd_pickF rfl rfl) ((QL_nil 8 rfl rfl rfl)))))))))
        · skip
          refine RL_q rfl (Yd_assign rfl) (RL_nil (X_then (C_ret (X_ret1 rfl rfl ?_))))
          refine ⟨_, rfl, ?_, hE⟩
          all_goals (first | (simp_all; done) | (simp_all; intros; omega) | (rw [Bool.eq_iff_iff]; constructor <;> (intro h; simp_all)))
end Go.Proofs.AL
