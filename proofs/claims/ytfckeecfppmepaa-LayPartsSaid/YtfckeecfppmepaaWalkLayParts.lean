import Derived.Test.YtfckeecfppmepaaLay
set_option linter.unusedVariables false
namespace Go.Proofs.AL
open Go.RowKit
theorem LayParts_c (A : Option Addr) (n c : Nat) (l : List Int) (at_ : Int) (w : World) (hr : Rd w w.heap.size 1 A n (ints .i64 l)) (hn : l.length = n) (hc : n ≤ c) (hc2 : c ≤ maxLen) (h1 : -9223372036854775808 ≤ at_) (h2 : at_ ≤ 9223372036854775807) :
    Calls Try.prog 3 #[.slice A n c, .int .i64 at_] w fun e w' => e = .returned (.bool true) ∧ Ext w w' := by
  unfold maxLen at hc2
  obtain ⟨f, hfd⟩ : ∃ f, f = l.take 6 := ⟨_, rfl⟩
  have hfl : f.length = min n 6 := by rw [hfd, List.length_take, hn]; omega
  have hm : (if (6 : Int) < (n : Int) then (6 : Int) else (n : Int)) = (f.length : Int) := by rw [hfl]; split <;> omega
  have hf : Rd w w.heap.size 1 A f.length (ints .i64 f) := by
    have := hr.take1 (m := f.length) (by omega)
    rw [ints_take] at this
    rwa [show l.take f.length = f from by rw [hfl, hfd]; rcases Nat.le_total n 6 with h | h <;> simp [Nat.min_eq_left, Nat.min_eq_right, h, List.take_of_length_le, hn]] at this
  have hfc : f.length ≤ c := by omega
  have hE := Ext.refl w
  refine calls_of (l := [.slice A n c, .int .i64 at_]) (N := 43) Try.func3 rfl rfl rfl ?_
  refine C_seq (C_region (RL_q rfl (Yd_assign rfl) (RL_nil (X_then (C_seq (C_region (RL_q rfl (Yd_move rfl) (RL_q rfl (Yd_move rfl) (RL_q rfl (Yd_len Try.underlying22 rfl) (RL_q rfl (Yd_minw rfl rfl hm) (RL_q rfl (Yd_sliceH Try.underlying22 (sz := 1) (by kernel_rfl) rfl rfl (by omega) (by omega)) (RL_q rfl (Yd_assign rfl) (RL_nil (X_then (C_seq (C_region (RL_q rfl (Yd_move rfl) (RL_q rfl (Yd_move rfl) (RL_q rfl (Yd_len Try.underlying22 rfl) (RL_q rfl (Yd_add rfl rfl (i64w (by omega) (by omega))) (RL_l rfl (Ld_call Try.func14 rfl (by kernel_rfl) rfl (Around_c at_ ((f.length : Int) + 1) _ h1 h2 (by omega) (by omega)) ?_))))))))))))))))))))))
  rintro e W1 ⟨rfl, rfl⟩
  refine ⟨_, rfl, ?_⟩
  have hk := around_range at_ (m := (f.length : Int) + 1) (by omega)
  generalize around at_ ((f.length : Int) + 1) = k at hk ⊢
  obtain ⟨k, rfl⟩ := Int.eq_ofNat_of_zero_le hk.1
  have hk2 : k ≤ f.length := by omega
  refine RL_q rfl (Yd_assign rfl) (RL_nil (X_then (C_seq (?_))))
  refine C_regionD (l := [(0, true), (1, true), (2, true), (4, true), (5, true), (6, true), (3, false), (7, false), (8, true)]) (by kernel_rfl) (by kernel_rfl) rfl (by kernel_rfl) (fun _ _ d _ _ h => by cases d <;> exact h) ?_
  intro W2 he2 hh2
  replace hE := Ext.trans hE he2
  refine RO_q rfl rfl (Yd_move rfl) (RO_q rfl rfl (Yd_move rfl) (RO_q rfl rfl (Yd_sliceH Try.underlying22 (sz := 1) (by kernel_rfl) rfl rfl (by omega) (by omega)) (RO_q rfl rfl (Yd_move rfl) (RO_q rfl rfl (Yd_move rfl) (RO_q rfl rfl (Yd_sliceL Try.underlying22 (sz := 1) (by kernel_rfl) rfl rfl (by omega) (by omega)) (RO_l rfl rfl (Ld_call Try.func15 rfl (by kernel_rfl) rfl (layInts_c none _ 0 0 k _ [] (f.take k) _ (Rd.none _ 0 _) rfl (by omega) (fun _ => rfl) (by rw [← ints_take]; exact (hf.ext hE).take1 hk2) (by simp; omega) (by omega)) ?_)))))))
  rintro e W3 ⟨A3, c3, rfl, ⟨B3, hR3⟩, hc3, hn3, _, he3⟩
  refine ⟨_, rfl, he3, ?_⟩
  replace hE := Ext.trans hE he3
  refine RO_l rfl rfl (Ld_call Try.func15 rfl (by kernel_rfl) rfl (layInts_c A3 _ _ c3 (f.length - k) _ ([] ++ le8s (f.take k)) (f.drop k) _ hR3 (by simp [le8s_len]; omega) hc3 hn3 (by rw [← ints_drop]; exact (hf.ext hE).drop1 hk2 hfc) (by simp) (by omega)) ?_)
  rintro e W4 ⟨A4, c4, rfl, ⟨B4, hR4⟩, hc4, hn4, _, he4⟩
  refine ⟨_, rfl, he4, ?_⟩
  replace hE := Ext.trans hE he4
  replace hR3 := hR3.ext he4
  refine RO_q rfl rfl (Yd_assign rfl) (RO_nil (X_then (C_seq (?_))))
  refine C_regionD (l := [(0, true), (1, true), (2, true), (3, false), (4, true), (5, true), (6, true), (7, true), (8, true), (9, true), (10, true), (11, true), (12, true), (13, true), (14, true), (15, false), (16, true), (17, true)]) (by kernel_rfl) (by kernel_rfl) rfl (by kernel_rfl) (fun _ _ d _ _ h => by cases d <;> exact h) ?_
  intro W5 he5 hh5
  replace hE := Ext.trans hE he5
  replace hR3 := hR3.ext he5
  replace hR4 := hR4.ext he5
  refine RO_q rfl rfl (Yd_move rfl) (?_)
  have hb4 : ([] ++ le8s (f.take k)) ++ le8s (f.drop k) = le8s f := by rw [List.nil_append, ← le8s_append, List.take_append_drop]
  rw [hb4] at hR4
  refine RO_q rfl rfl (Yd_str Try.underlying24 Try.underlying5 Try.underlying9 rfl hR4) (RO_q rfl rfl (Yd_move rfl) (RO_l rfl rfl (Ld_call Try.func15 rfl (by kernel_rfl) rfl (layInts_c none _ 0 0 f.length _ [] f _ (Rd.none _ 0 _) rfl (by omega) (fun _ => rfl) (hf.ext hE) rfl (by omega)) ?_)))
  rintro e W6 ⟨A5, c5, rfl, ⟨B5, hR5⟩, hc5, hn5, _, he6⟩
  refine ⟨_, rfl, he6, ?_⟩
  replace hE := Ext.trans hE he6
  replace hR3 := hR3.ext he6
  replace hR4 := hR4.ext he6
  refine RO_q rfl rfl (Yd_str Try.underlying24 Try.underlying5 Try.underlying9 rfl hR5) (RO_q rfl rfl (Yd_eqlS rfl rfl) (RO_q rfl rfl (Yd_move rfl) (?_)))
  refine RO_is (d := 32) (b' := true) rfl (str_eq rfl) ?_
  refine RO_gq rfl rfl rfl rfl (Yd_move rfl) (RO_gq rfl rfl rfl rfl (Yd_len Try.underlying24 rfl) (RO_gq rfl rfl rfl rfl (Yd_move rfl) (RO_gq rfl rfl rfl rfl (Yd_len Try.underlying22 rfl) (RO_gq rfl rfl rfl rfl (Yd_mul rfl rfl (i64w (by omega) (by omega))) (RO_gq rfl rfl rfl rfl (Yd_eql rfl rfl) (RO_q rfl rfl (Yd_pickT rfl rfl) (RO_q rfl rfl (Yd_move rfl) (?_))))))))
  refine RO_is (d := 40) (b' := true) rfl (decide_eq_true (by omega)) ?_
  refine RO_gl rfl rfl rfl rfl (Ld_call Try.func16 rfl (by kernel_rfl) rfl (lives01_c _) ?_)
  rintro e W7 ⟨rfl, he7⟩
  refine ⟨_, rfl, he7, ?_⟩
  replace hE := Ext.trans hE he7
  replace hR3 := hR3.ext he7
  replace hR4 := hR4.ext he7
  replace hR5 := hR5.ext he7
  refine RO_q rfl rfl (Yd_pickT rfl rfl) (RO_q rfl rfl (Yd_assign rfl) (RO_nil (X_then (C_ret (X_ret1 rfl rfl ?_)))))
  exact ⟨rfl, hE⟩
end Go.Proofs.AL
