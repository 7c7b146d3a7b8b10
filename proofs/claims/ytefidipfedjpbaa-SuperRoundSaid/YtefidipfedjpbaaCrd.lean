import Derived.Test.YtefidipfedjpbaaSeq
import Derived.Test.YtefidipfedjpbaaCrc
set_option linter.unusedVariables false
set_option linter.unusedSimpArgs false
namespace Go.Proofs.AL
open Go.RowKit

theorem shr8i (n : Int) : n.fdiv (2 ^ (min (8 : Int).toNat IntKind.u32.bits)) = n / 256 := by
  have : min (8 : Int).toNat IntKind.u32.bits = 8 := rfl
  rw [this, Int.fdiv_eq_ediv_of_nonneg _ (by decide)]; rfl
theorem cmore_lt' (n : Nat) (l : List Int) : (cmore n l : Int) < 4294967296 := by unfold cmore; omega
theorem le_next (l : List Int) (k : Nat) (n : Int) : l ++ le k n ++ [n / 256 ^ k % 256] = l ++ le (k + 1) n := by rw [le_succ, List.append_assoc]
theorem le_zero (n : Int) : le 0 n = [] := rfl
theorem app_le0 (l : List Int) (n : Int) : l = l ++ le 0 n := by rw [le_zero, List.append_nil]
theorem SumV {lo_b B_b : Nat} {A_b : Option Addr} {n_b c_b : Nat} {b : List Int} {w : World}  (h_b : Vw tU8 w lo_b B_b A_b n_b c_b b) :
    Calls Try.prog 57 #[.slice A_b n_b c_b] w fun e w' => ∃ (x0 : Int), e = .returned (.int .u32 x0) ∧ x0 = ((cmore 0 b : Int)) ∧ Ext w w' :=
  Calls.mono (Sum_c A_b n_b c_b b w h_b.u8 h_b.ln (by have := h_b.max; have := h_b.cap; simp only [maxLen] at *; omega) h_b.byt) fun e w' ⟨h1, h2⟩ => ⟨_, h1, rfl, h2⟩
theorem refMoreV {lo_b B_b : Nat} {A_b : Option Addr} {n_b c_b : Nat} {b : List Int} {w : World}  (h_b : Vw tU8 w lo_b B_b A_b n_b c_b b) :
    Calls Try.prog 60 #[.int .u32 0, .slice A_b n_b c_b] w fun e w' => ∃ (x0 : Int), e = .returned (.int .u32 x0) ∧ x0 = ((cmore 0 b : Int)) ∧ w = w' :=
  Calls.mono (refMore_c A_b n_b c_b 0 b w h_b.u8 h_b.ln (by have := h_b.max; have := h_b.cap; simp only [maxLen] at *; omega) h_b.byt (by omega)) fun e w' ⟨h1, h2⟩ => ⟨_, h1, rfl, h2⟩
theorem bClone_c {B : Nat} (A : Option Addr) (n c : Nat) (b : List Int) (w : World) (hr : Rd w B 1 A n (ints .u8 b)) (hn : b.length = n) (hnc : n ≤ c) (hm : n ≤ 65536) (hnil : A = none → c = 0) :
    Calls Try.prog 58 #[.slice A n c] w fun e w' => ∃ A' c', e = .returned (.slice A' n c') ∧ Own w' w.heap.size 5 1 A' n c' (ints .u8 b) ∧ Ext w w' := by
  have hE := Ext.refl w
  refine calls_of (l := [.slice A n c]) (N := 8) Try.func58 rfl rfl rfl ?_
  refine C_seq (C_region (RL_q rfl (Yd_assign rfl) (RL_nil (X_then (C_seq (C_seq (C_region (RL_q rfl (Yd_move rfl) (RL_q rfl (Yd_eqlSN Try.underlying47 rfl rfl) (RL_nil (X_then (?_))))))))))))
  refine C_cond rfl (fun hb4 => ?_) (fun hb4 => ?_)
  · skip
    try simp only [decide_eq_true_eq, decide_eq_false_iff_not, Bool.not_eq_true', Bool.not_eq_false', Decidable.not_not, Int.not_lt, Int.not_le, Bool.or_eq_true, Bool.and_eq_true, Bool.or_eq_false_iff, Bool.and_eq_false_iff] at hb4
    refine C_seq (C_region (RL_q rfl (Yd_assign rfl) (RL_nil (X_then (C_ret (X_thenR (X_ret1 rfl rfl ?_)))))))
    have hA : A = none := by cases A <;> simp_all
    obtain rfl : n = 0 := by have := hnil hA; omega
    obtain rfl : b = [] := List.eq_nil_of_length_eq_zero hn
    exact ⟨none, 0, rfl, Own.nil _ _ _ _, hE⟩
  · skip
    try simp only [decide_eq_true_eq, decide_eq_false_iff_not, Bool.not_eq_true', Bool.not_eq_false', Decidable.not_not, Int.not_lt, Int.not_le, Bool.or_eq_true, Bool.and_eq_true, Bool.or_eq_false_iff, Bool.and_eq_false_iff] at hb4
    refine C_skip (X_then (C_seq (C_region (RL_l rfl (Ld_lit Try.underlying47 rfl (lit_flat Try.underlying47 Try.elt5 rfl rfl ⟨rfl, by decide⟩) ?_)))))
    intro W1 he1 hz1 hL5
    replace hE := Ext.trans hE he1
    refine RL_q rfl (Yd_move rfl) (RL_l rfl (Ld_app Try.underlying47 Try.elt5 rfl (by decide) rfl rfl (own_of_blk (base := w.heap.size) (sz := 1) (n := 0) (c := 0) (xs := []) hL5 (Nat.le_refl _) rfl (Nat.le_refl _) (Nat.zero_le _) rfl) (hr.ext hE) (ints_one _ _) (by simp only [maxLen]; omega) (by omega) hE.size hnil (Nat.zero_add _) ?_))
    intro A7 c7 W2 hO hg2 hat2
    replace hE := ext_app (own_of_blk (base := w.heap.size) (sz := 1) (n := 0) (c := 0) (xs := []) hL5 (Nat.le_refl _) rfl (Nat.le_refl _) (Nat.zero_le _) rfl) hE hE.size hg2
    refine RL_q rfl (Yd_assign rfl) (RL_nil (X_then (C_ret (X_ret1 rfl rfl ?_))))
    exact ⟨A7, c7, rfl, hO, hE⟩
theorem Equal_c (A A2 : Option Addr) (n c n2 c2 : Nat) {B B2 : Nat} (a b : List Int) (w : World) (ha : Rd w B 1 A n (ints .u8 a)) (hb : Rd w B2 1 A2 n2 (ints .u8 b)) (hya : Byt a) (hyb : Byt b) :
    Calls Try.prog 61 #[.slice A n c, .slice A2 n2 c2] w fun e w' => e = .returned (.bool (decide (a = b))) ∧ Ext w w' := by
  have hE := Ext.refl w
  refine calls_of (l := [.slice A n c, .slice A2 n2 c2]) (N := 10) Try.func61 rfl rfl rfl ?_
  refine C_seq (C_region (RL_q rfl (Yd_assign rfl) (RL_nil (X_then (C_seq (C_region (RL_q rfl (Yd_move rfl) (RL_q rfl (Yd_str Try.underlying47 Try.underlying5 Try.underlying9 rfl (fun W hW => Rd.ext ha hW)) (RL_q rfl (Yd_move rfl) (RL_q rfl (Yd_str Try.underlying47 Try.underlying5 Try.underlying9 rfl (fun W hW => Rd.ext hb hW)) (RL_q rfl (Yd_eqlS rfl rfl) (RL_q rfl (Yd_assign rfl) (RL_nil (X_then (C_ret (X_ret1 rfl rfl ?_))))))))))))))))
  exact ⟨by rw [str_dec hya hyb], hE⟩
theorem bCloneV {lo_b B_b : Nat} {A_b : Option Addr} {n_b c_b : Nat} {b : List Int} {w : World}  (h_b : Vw tU8 w lo_b B_b A_b n_b c_b b) (h6 : n_b ≤ 65536) :
    Calls Try.prog 58 #[.slice A_b n_b c_b] w fun e w' => ∃ (A0 : Option Addr) (n0 c0 : Nat), e = .returned (.slice A0 n0 c0) ∧ Ow tU8 5 w' w.heap.size w'.heap.size A0 n0 c0 b ∧ Ext w w' :=
  Calls.mono (bClone_c A_b n_b c_b b w h_b.u8 h_b.ln h_b.cap h6 h_b.nil) fun e w' ⟨A, c, h1, h2, h3⟩ => ⟨A, _, c, h1, ow_u8 h2 h_b.byt, h3⟩
theorem EqualV {lo_a B_a : Nat} {A_a : Option Addr} {n_a c_a : Nat} {a : List Int} {lo_b B_b : Nat} {A_b : Option Addr} {n_b c_b : Nat} {b : List Int} {w : World}  (h_a : Vw tU8 w lo_a B_a A_a n_a c_a a) (h_b : Vw tU8 w lo_b B_b A_b n_b c_b b) :
    Calls Try.prog 61 #[.slice A_a n_a c_a, .slice A_b n_b c_b] w fun e w' => ∃ (x0 : Bool), e = .returned (.bool x0) ∧ x0 = (decide (a = b)) ∧ Ext w w' :=
  Calls.mono (Equal_c A_a A_b n_a c_a n_b c_b a b w h_a.u8 h_b.u8 h_a.byt h_b.byt) fun e w' ⟨h1, h2⟩ => ⟨_, h1, rfl, h2⟩
theorem PutV {lo_b B_b : Nat} {A_b : Option Addr} {n_b c_b : Nat} {b : List Int} {w : World}  (h_b : Vw tU8 w lo_b B_b A_b n_b c_b b) (h6 : n_b ≤ 65000) :
    Calls Try.prog 49 #[.slice A_b n_b c_b] w fun e w' => ∃ (A0 : Option Addr) (n0 c0 : Nat), e = .returned (.slice A0 n0 c0) ∧ Ow tU8 5 w' w.heap.size w'.heap.size A0 n0 c0 (b ++ le 4 (cmore 0 b)) ∧ Ext w w' := by
  have hE := Ext.refl w
  replace h_b := h_b.fit
  have hn_b := h_b.ln
  have hc_b := h_b.cap
  have hm_b := h_b.max
  simp only [maxLen] at hm_b
  refine calls_of (l := [.slice A_b n_b c_b]) (N := 20) Try.func49 rfl rfl rfl ?_
  refine C_seq (C_region (RL_q rfl (Yd_assign rfl) (RL_nil (X_then (C_seq (C_region (RL_q rfl (Yd_move rfl) (RL_l rfl (Ld_call Try.func57 rfl (by kernel_rfl) rfl (SumV h_b) ?_)))))))))
  rintro e W1 ⟨y6, rfl, hy6, he1⟩
  refine ⟨_, rfl, ?_⟩
  replace hE := Ext.trans hE he1
  replace h_b := h_b.ext he1
  have hs1 := he1.size
  refine RL_q rfl (Yd_assign rfl) (RL_nil (X_then (C_seq (C_region (RL_q rfl (Yd_move rfl) (RL_l rfl (Ld_call Try.func58 rfl (by kernel_rfl) rfl (bCloneV h_b (by omega)) ?_)))))))
  rintro e W2 ⟨A8, n8, c8, rfl, hF8, he2⟩
  refine ⟨_, rfl, ?_⟩
  replace hE := Ext.trans hE he2
  replace h_b := h_b.ext he2
  have hs2 := he2.size
  have hn8 := hF8.ln
  try simp only [List.length_append, List.length_cons, List.length_nil, List.length_set, List.length_take, List.length_drop, List.length_replicate, List.length_map, Nat.zero_add, Nat.add_zero, le_len, le8s_len, le8_len] at hn8
  have hc8 := hF8.cap
  refine RL_q rfl (Yd_assign rfl) (RL_nil (X_then (C_seq (C_seq (C_region (RL_q rfl (Yd_move rfl) (RL_nil (X_then (C_block (?_))))))))))
  refine C_loop (T := Nat × Option Addr × Nat × Nat) (fun ⟨k, lA4, ln4, lc4⟩ => [(2, .slice none 0 0), (3, .int .u32 ((cmore 0 b : Int) / 256 ^ k)), (4, .slice lA4 ln4 lc4), (9, .int .i64 (k : Int))]) (fun ⟨k, lA4, ln4, lc4⟩ lw2 => Ow tU8 5 lw2 W1.heap.size lw2.heap.size lA4 ln4 lc4 (b ++ le k (cmore 0 b)) ∧ (k ≤ 4) ∧ Kp (fun k => W1.heap.size ≤ k) W2 lw2) (fun ⟨k, lA4, ln4, lc4⟩ => 4 - k) (⟨0, A8, n8, c8⟩) ⟨rfl, (lk_int rfl (by simp; try assumption)), rfl, rfl, trivial⟩ ?_ ?_
  · refine ⟨(hF8.fit).cast ?_, ?_, Kp.refl _ _⟩
    all_goals (try dsimp only)
    all_goals (first | omega | exact app_le0 _ _ | exact le_next _ _ _)
  · rintro ⟨k, lA4, ln4, lc4⟩ lw2 ⟨hR4, hi2_0, hL2⟩
    replace hE := Ext.kp hE hL2 (fun k hk => by first | omega | (have hk := hk; dsimp only at hk; omega))
    replace h_b := h_b.kp hL2 (fun k hk => by first | omega | (have hk := hk; dsimp only at hk; omega))
    have hsL2 := hL2.size
    have hnhR4 := hR4.ln
    try simp only [List.length_append, List.length_cons, List.length_nil, List.length_set, List.length_take, List.length_drop, List.length_replicate, List.length_map, Nat.zero_add, Nat.add_zero, le_len, le8s_len, le8_len] at hnhR4
    have hchR4 := hR4.cap
    have hq0 := cmore_lt' 0 b
    have hq1 : 0 ≤ (cmore 0 b : Int) / 256 ^ k := Int.ediv_nonneg (by omega) (Int.pow_nonneg (by decide))
    have hq2 : (cmore 0 b : Int) / 256 ^ k ≤ cmore 0 b := Int.ediv_le_self _ (by omega)
    refine C_seq (C_region (RL_q rfl (Yd_lss rfl rfl) (RL_nil (X_then (C_seq (?_))))))
    refine C_cond rfl (fun hb10 => ?_) (fun hb10 => ?_)
    · skip
      try simp only [decide_eq_true_eq, decide_eq_false_iff_not, Bool.not_eq_true', Bool.not_eq_false', Decidable.not_not, Int.not_lt, Int.not_le, Bool.or_eq_true, Bool.and_eq_true, Bool.or_eq_false_iff, Bool.and_eq_false_iff] at hb10
      refine C_skip (X_then (C_seq (C_block (C_seq (C_region (RL_q rfl (Yd_move rfl) (RL_q rfl (Yd_move rfl) (RL_q rfl (Yd_conv ⟨_, Try.underlying82⟩ Try.underlying5 rfl (u8_wrap _)) (RL_l rfl (Ld_lit Try.underlying47 rfl (lit_flat Try.underlying47 Try.elt5 rfl rfl ⟨rfl, by decide⟩) ?_))))))))))
      intro W3 he3 hz3 hL14
      replace hE := Ext.trans hE he3
      replace h_b := h_b.ext he3
      replace hR4 := hR4.ext he3
      replace hL2 := Kp.go hL2 (Kp.of_ext (G := NoB) he3) (fun _ h => h.elim)
      have hO14 := Ow.of_blk (T := tU8) (l := [((cmore 0 b : Int) / 256 ^ k % 256)]) hL14 rfl (n := 1) rfl (by simp [maxLen]) (okc ⟨by omega, by omega⟩ okn)
      clear hL14
      refine RL_l rfl (Ld_apO (T := tU8) Try.underlying47 Try.elt5 rfl rfl rfl hR4 hO14.vw (by simp only [maxLen]; omega) (by omega) (by omega) ?_)
      intro A15 c15 W4 hO15 hk4
      have hs4 := hk4.size
      replace hE := Ext.kp hE hk4 (fun k hk => by first | omega | (have hk := hk; dsimp only at hk; omega))
      replace h_b := h_b.kp hk4 (fun k hk => by first | omega | (have hk := hk; dsimp only at hk; omega))
      try replace hL2 := hL2.go hk4 (fun k hk => by first | omega | (have hk := hk; dsimp only at hk; dsimp only; omega))
      replace hO14 := hO14.kp hk4 (fun k hk => by first | omega | (have hk := hk; dsimp only at hk; omega))
      have hn15 := hO15.ln
      try simp only [List.length_append, List.length_cons, List.length_nil, List.length_set, List.length_take, List.length_drop, List.length_replicate, List.length_map, Nat.zero_add, Nat.add_zero, le_len, le8s_len, le8_len] at hn15
      have hc15 := hO15.cap
      refine RL_q rfl (Yd_assign rfl) (RL_nil (X_then (C_region (RL_q rfl (Yd_move rfl) (RL_q rfl (Yd_shr rfl rfl (by omega) (shr8i _)) (RL_q rfl (Yd_assign rfl) (RL_nil (X_block (X_then (C_region (RL_q rfl (Yd_add rfl rfl (i64w (by omega) (by omega))) (RL_q rfl (Yd_move rfl) (RL_nil (?_))))))))))))))
      refine X_again (⟨k + 1, A15, (ln4 + 1), c15⟩) ⟨rfl, (lk_int rfl (le_div _ _)), rfl, rfl, trivial⟩ ?_ (by show 4 - (k + 1) < 4 - k; omega)
      refine ⟨hO15.fit.cast ?_, ?_, hL2⟩
      all_goals (try dsimp only)
      all_goals (first | omega | exact app_le0 _ _ | exact le_next _ _ _)
    · skip
      try simp only [decide_eq_true_eq, decide_eq_false_iff_not, Bool.not_eq_true', Bool.not_eq_false', Decidable.not_not, Int.not_lt, Int.not_le, Bool.or_eq_true, Bool.and_eq_true, Bool.or_eq_false_iff, Bool.and_eq_false_iff] at hb10
      refine C_exit (X_thenE (X_thenE (X_blockE (X_then (C_seq (C_region (RL_q rfl (Yd_move rfl) (RL_q rfl (Yd_assign rfl) (RL_nil (X_then (C_ret (X_ret1 rfl rfl ?_))))))))))))
      refine ⟨_, _, _, rfl, (hR4.fit.more (by omega) (Nat.le_refl _)).cast ?_, hE⟩
      all_goals ((obtain rfl : k = 4 := by omega); rfl)

def takeE (b : List Int) : Int := if b.length < 4 then 2 else if b.take (b.length - 4) ++ le 4 (cmore 0 (b.take (b.length - 4))) = b then 0 else 9
def takeL (b : List Int) : List Int := if b.length < 4 then [] else if b.take (b.length - 4) ++ le 4 (cmore 0 (b.take (b.length - 4))) = b then b.take (b.length - 4) else []
theorem take_short {b : List Int} (h : b.length < 4) : takeE b = 2 ∧ takeL b = [] := by unfold takeE takeL; rw [if_pos h, if_pos h]; exact ⟨rfl, rfl⟩
theorem take_ok {b : List Int} {k : Nat} (hk : k + 4 = b.length) (h : b.take k ++ le 4 (cmore 0 (b.take k)) = b) : takeE b = 0 ∧ takeL b = b.take k := by
  obtain rfl : k = b.length - 4 := by omega
  have h4 : ¬ b.length < 4 := by omega
  exact ⟨by unfold takeE; rw [if_neg h4, if_pos h], by unfold takeL; rw [if_neg h4, if_pos h]⟩
theorem take_bad {b : List Int} {k : Nat} (hk : k + 4 = b.length) (h : ¬ b.take k ++ le 4 (cmore 0 (b.take k)) = b) : takeE b = 9 ∧ takeL b = [] := by
  obtain rfl : k = b.length - 4 := by omega
  have h4 : ¬ b.length < 4 := by omega
  exact ⟨by unfold takeE; rw [if_neg h4, if_neg h], by unfold takeL; rw [if_neg h4, if_neg h]⟩
theorem takeE_put (b : List Int) : takeE (b ++ le 4 (cmore 0 b)) = 0 ∧ takeL (b ++ le 4 (cmore 0 b)) = b := by
  have h1 : (b ++ le 4 (cmore 0 b)).take b.length = b := by simp
  have h := take_ok (b := b ++ le 4 (cmore 0 b)) (k := b.length) (by simp) (by rw [h1])
  rw [h1] at h; exact h
def good (b : List Int) : Bool := decide (4 ≤ b.length) && decide (b.take (b.length - 4) ++ le 4 (cmore 0 (b.take (b.length - 4))) = b)
theorem good_short {b : List Int} (h : b.length < 4) : good b = false := by unfold good; rw [decide_eq_false (by omega)]; rfl
theorem good_long {b : List Int} {k : Nat} (hk : k + 4 = b.length) : good b = decide (b.take k ++ le 4 (cmore 0 (b.take k)) = b) := by
  obtain rfl : k = b.length - 4 := by omega
  unfold good; rw [decide_eq_true (by omega : 4 ≤ b.length)]; rfl
theorem good_takeE {b : List Int} (h : 4 ≤ b.length) : takeE b = if good b then 0 else 9 := by
  by_cases hg : b.take (b.length - 4) ++ le 4 (cmore 0 (b.take (b.length - 4))) = b
  · rw [(take_ok (by omega) hg).1, good_long (k := b.length - 4) (by omega), decide_eq_true hg]; rfl
  · rw [(take_bad (by omega) hg).1, good_long (k := b.length - 4) (by omega), decide_eq_false hg]; rfl
theorem take_cases (l : List Int) : (l.length < 4 ∧ good l = false ∧ takeE l = 2 ∧ takeL l = [] ∧ (takeL l).length = 0) ∨ (4 ≤ l.length ∧ good l = true ∧ takeE l = 0 ∧ takeL l = l.take (l.length - 4) ∧ (takeL l).length = l.length - 4) ∨ (4 ≤ l.length ∧ good l = false ∧ takeE l = 9 ∧ takeL l = [] ∧ (takeL l).length = 0) := by
  by_cases h4 : l.length < 4
  · exact .inl ⟨h4, good_short h4, (take_short h4).1, (take_short h4).2, by rw [(take_short h4).2]; rfl⟩
  · have hl := good_long (b := l) (k := l.length - 4) (by omega)
    by_cases hg : l.take (l.length - 4) ++ le 4 (cmore 0 (l.take (l.length - 4))) = l
    · exact .inr (.inl ⟨by omega, by rw [hl, decide_eq_true hg], (take_ok (by omega) hg).1, (take_ok (by omega) hg).2, by rw [(take_ok (k := l.length - 4) (by omega) hg).2, List.length_take]; omega⟩)
    · exact .inr (.inr ⟨by omega, by rw [hl, decide_eq_false hg], (take_bad (by omega) hg).1, (take_bad (by omega) hg).2, by rw [(take_bad (k := l.length - 4) (by omega) hg).2]; rfl⟩)
theorem TakeV {lo_b B_b : Nat} {A_b : Option Addr} {n_b c_b : Nat} {b : List Int} {w : World}  (h_b : Vw tU8 w lo_b B_b A_b n_b c_b b) (h6 : n_b ≤ 65000) :
    Calls Try.prog 52 #[.slice A_b n_b c_b] w fun e w' => ∃ (A0 : Option Addr) (n0 c0 : Nat) (x1 : Int), e = .returned (.tuple #[.slice A0 n0 c0, .int .i64 x1]) ∧ Ow tU8 5 w' w.heap.size w'.heap.size A0 n0 c0 (takeL b) ∧ x1 = (takeE b) ∧ Ext w w' := by
  have hE := Ext.refl w
  replace h_b := h_b.fit
  have hn_b := h_b.ln
  have hc_b := h_b.cap
  have hm_b := h_b.max
  simp only [maxLen] at hm_b
  refine calls_of (l := [.slice A_b n_b c_b]) (N := 21) Try.func52 rfl rfl rfl ?_
  refine C_seq (C_region (RL_q rfl (Yd_assign rfl) (RL_q rfl (Yd_assign rfl) (RL_nil (X_then (C_seq (C_region (RL_q rfl (Yd_move rfl) (RL_q rfl (Yd_len Try.underlying47 rfl) (RL_q rfl (Yd_sub rfl rfl (i64w (by omega) (by omega))) (RL_q rfl (Yd_assign rfl) (RL_nil (X_then (C_seq (C_seq (C_region (RL_q rfl (Yd_move rfl) (RL_q rfl (Yd_lss rfl rfl) (RL_nil (X_then (?_)))))))))))))))))))))
  refine C_cond rfl (fun hb9 => ?_) (fun hb9 => ?_)
  · skip
    try simp only [decide_eq_true_eq, decide_eq_false_iff_not, Bool.not_eq_true', Bool.not_eq_false', Decidable.not_not, Int.not_lt, Int.not_le, Bool.or_eq_true, Bool.and_eq_true, Bool.or_eq_false_iff, Bool.and_eq_false_iff] at hb9
    refine C_seq (C_region (RL_q rfl (Yd_assign rfl) (RL_q rfl (Yd_assign rfl) (RL_nil (X_then (C_ret (X_thenR (X_ret2 rfl rfl rfl ?_))))))))
    refine ⟨_, _, _, _, rfl, Ow.nil.cast ?_, ?_, hE⟩
    all_goals (first | rfl | exact (take_short (by omega)).1.symm | exact (take_short (by omega)).2.symm | exact (take_ok (k := ((n_b : Int) - 4).toNat) (by omega) (by assumption)).1.symm | exact (take_ok (k := ((n_b : Int) - 4).toNat) (by omega) (by assumption)).2.symm | exact (take_bad (k := ((n_b : Int) - 4).toNat) (by omega) (by assumption)).1.symm | exact (take_bad (k := ((n_b : Int) - 4).toNat) (by omega) (by assumption)).2.symm)
  · skip
    try simp only [decide_eq_true_eq, decide_eq_false_iff_not, Bool.not_eq_true', Bool.not_eq_false', Decidable.not_not, Int.not_lt, Int.not_le, Bool.or_eq_true, Bool.and_eq_true, Bool.or_eq_false_iff, Bool.and_eq_false_iff] at hb9
    refine C_skip (X_then (C_seq (C_seq (C_region (RL_q rfl (Yd_move rfl) (RL_q rfl (Yd_move rfl) (RL_q rfl (Yd_sliceH Try.underlying47 (sz := 1) (by kernel_rfl) rfl rfl (by omega) (by omega)) (RL_l rfl (Ld_call Try.func49 rfl (by kernel_rfl) rfl (PutV (Vw.take (k := ((n_b : Int) - 4).toNat) h_b (by omega)) (by omega)) ?_)))))))))
    rintro e W1 ⟨A13, n13, c13, rfl, hF13, he1⟩
    refine ⟨_, rfl, ?_⟩
    replace hE := Ext.trans hE he1
    replace h_b := h_b.ext he1
    have hs1 := he1.size
    have hn13 := hF13.ln
    try simp only [List.length_append, List.length_cons, List.length_nil, List.length_set, List.length_take, List.length_drop, List.length_replicate, List.length_map, Nat.zero_add, Nat.add_zero, le_len, le8s_len, le8_len] at hn13
    have hc13 := hF13.cap
    refine RL_q rfl (Yd_move rfl) (RL_l rfl (Ld_call Try.func61 rfl (by kernel_rfl) rfl (EqualV hF13.vw h_b) ?_))
    rintro e W2 ⟨_, rfl, rfl, he2⟩
    refine ⟨_, rfl, ?_⟩
    replace hE := Ext.trans hE he2
    replace h_b := h_b.ext he2
    replace hF13 := hF13.ext he2
    have hs2 := he2.size
    refine RL_q rfl (Yd_not rfl) (RL_nil (X_then (?_)))
    refine C_cond rfl (fun hb16 => ?_) (fun hb16 => ?_)
    · skip
      try simp only [decide_eq_true_eq, decide_eq_false_iff_not, Bool.not_eq_true', Bool.not_eq_false', Decidable.not_not, Int.not_lt, Int.not_le, Bool.or_eq_true, Bool.and_eq_true, Bool.or_eq_false_iff, Bool.and_eq_false_iff] at hb16
      refine C_seq (C_region (RL_q rfl (Yd_assign rfl) (RL_q rfl (Yd_assign rfl) (RL_nil (X_then (C_ret (X_thenR (X_ret2 rfl rfl rfl ?_))))))))
      refine ⟨_, _, _, _, rfl, Ow.nil.cast ?_, ?_, hE⟩
      all_goals (first | rfl | exact (take_short (by omega)).1.symm | exact (take_short (by omega)).2.symm | exact (take_ok (k := ((n_b : Int) - 4).toNat) (by omega) (by assumption)).1.symm | exact (take_ok (k := ((n_b : Int) - 4).toNat) (by omega) (by assumption)).2.symm | exact (take_bad (k := ((n_b : Int) - 4).toNat) (by omega) (by assumption)).1.symm | exact (take_bad (k := ((n_b : Int) - 4).toNat) (by omega) (by assumption)).2.symm)
    · skip
      try simp only [decide_eq_true_eq, decide_eq_false_iff_not, Bool.not_eq_true', Bool.not_eq_false', Decidable.not_not, Int.not_lt, Int.not_le, Bool.or_eq_true, Bool.and_eq_true, Bool.or_eq_false_iff, Bool.and_eq_false_iff] at hb16
      refine C_skip (X_then (C_seq (C_region (RL_q rfl (Yd_move rfl) (RL_q rfl (Yd_move rfl) (RL_q rfl (Yd_sliceH Try.underlying47 (sz := 1) (by kernel_rfl) rfl rfl (by omega) (by omega)) (RL_l rfl (Ld_call Try.func58 rfl (by kernel_rfl) rfl (bCloneV (Vw.take (k := ((n_b : Int) - 4).toNat) h_b (by omega)) (by omega)) ?_))))))))
      rintro e W3 ⟨A20, n20, c20, rfl, hF20, he3⟩
      refine ⟨_, rfl, ?_⟩
      replace hE := Ext.trans hE he3
      replace h_b := h_b.ext he3
      replace hF13 := hF13.ext he3
      have hs3 := he3.size
      have hn20 := hF20.ln
      try simp only [List.length_append, List.length_cons, List.length_nil, List.length_set, List.length_take, List.length_drop, List.length_replicate, List.length_map, Nat.zero_add, Nat.add_zero, le_len, le8s_len, le8_len] at hn20
      have hc20 := hF20.cap
      refine RL_q rfl (Yd_assign rfl) (RL_q rfl (Yd_assign rfl) (RL_nil (X_then (C_ret (X_ret2 rfl rfl rfl ?_)))))
      refine ⟨_, _, _, _, rfl, (hF20.fit.more (by omega) (Nat.le_refl _)).cast ?_, ?_, hE⟩
      all_goals (first | rfl | exact (take_short (by omega)).1.symm | exact (take_short (by omega)).2.symm | exact (take_ok (k := ((n_b : Int) - 4).toNat) (by omega) (by assumption)).1.symm | exact (take_ok (k := ((n_b : Int) - 4).toNat) (by omega) (by assumption)).2.symm | exact (take_bad (k := ((n_b : Int) - 4).toNat) (by omega) (by assumption)).1.symm | exact (take_bad (k := ((n_b : Int) - 4).toNat) (by omega) (by assumption)).2.symm)
theorem refPutV {lo_b B_b : Nat} {A_b : Option Addr} {n_b c_b : Nat} {b : List Int} {w : World}  (h_b : Vw tU8 w lo_b B_b A_b n_b c_b b) (h6 : n_b ≤ 65000) :
    Calls Try.prog 51 #[.slice A_b n_b c_b] w fun e w' => ∃ (A0 : Option Addr) (n0 c0 : Nat), e = .returned (.slice A0 n0 c0) ∧ Ow tU8 5 w' w.heap.size w'.heap.size A0 n0 c0 (b ++ le 4 (cmore 0 b)) ∧ Ext w w' := by
  have hE := Ext.refl w
  replace h_b := h_b.fit
  have hn_b := h_b.ln
  have hc_b := h_b.cap
  have hm_b := h_b.max
  simp only [maxLen] at hm_b
  refine calls_of (l := [.slice A_b n_b c_b]) (N := 24) Try.func51 rfl rfl rfl ?_
  refine C_seq (C_region (RL_q rfl (Yd_assign rfl) (RL_nil (X_then (C_seq (C_region (RL_q rfl (Yd_move rfl) (RL_l rfl (Ld_call Try.func60 rfl (by kernel_rfl) rfl (refMoreV h_b) ?_)))))))))
  rintro e W1 ⟨y7, rfl, hy7, rfl⟩
  refine ⟨_, rfl, ?_⟩
  refine RL_q rfl (Yd_assign rfl) (RL_nil (X_then (C_seq (C_region (RL_q rfl (Yd_assign rfl) (RL_nil (X_then (C_seq (C_region (RL_q rfl (Yd_move rfl) (RL_q rfl (Yd_move rfl) (RL_l rfl (Ld_apO (T := tU8) Try.underlying47 Try.elt5 rfl rfl rfl (Ow.nil (lo := w.heap.size) (B := w.heap.size)) h_b (by simp only [maxLen]; omega) (by omega) (by omega) ?_)))))))))))))
  intro A10 c10 W2 hO10 hk2
  have he2 : Ext w W2 := Ext.kp (Ext.refl _) hk2 (fun k hk => by first | omega | (have hk := hk; dsimp only at hk; omega))
  replace hE := Ext.trans hE he2
  replace h_b := h_b.ext he2
  have hs2 := he2.size
  have hn10 := hO10.ln
  try simp only [List.length_append, List.length_cons, List.length_nil, List.length_set, List.length_take, List.length_drop, List.length_replicate, List.length_map, Nat.zero_add, Nat.add_zero, le_len, le8s_len, le8_len] at hn10
  have hc10 := hO10.cap
  refine RL_q rfl (Yd_assign rfl) (RL_nil (X_then (C_seq (C_seq (C_region (RL_q rfl (Yd_assign rfl) (RL_nil (X_then (C_block (?_))))))))))
  refine C_loop (T := Nat × Option Addr × Nat × Nat) (fun ⟨k, lA4, ln4, lc4⟩ => [(2, .slice none 0 0), (3, .int .u32 ((cmore 0 b : Int) / 256 ^ k)), (4, .slice lA4 ln4 lc4), (5, .int .i64 (k : Int))]) (fun ⟨k, lA4, ln4, lc4⟩ lw2 => Ow tU8 5 lw2 w.heap.size lw2.heap.size lA4 ln4 lc4 (b ++ le k (cmore 0 b)) ∧ (k ≤ 4) ∧ Kp (fun k => w.heap.size ≤ k) W2 lw2) (fun ⟨k, lA4, ln4, lc4⟩ => 4 - k) (⟨0, A10, (0 + n_b), c10⟩) ⟨rfl, (lk_int rfl (by simp; try assumption)), rfl, rfl, trivial⟩ ?_ ?_
  · refine ⟨(hO10.fit).cast ?_, ?_, Kp.refl _ _⟩
    all_goals (try dsimp only)
    all_goals (first | omega | exact app_le0 _ _ | exact le_next _ _ _)
  · rintro ⟨k, lA4, ln4, lc4⟩ lw2 ⟨hR4, hi2_0, hL2⟩
    replace hE := Ext.kp hE hL2 (fun k hk => by first | omega | (have hk := hk; dsimp only at hk; omega))
    replace h_b := h_b.kp hL2 (fun k hk => by first | omega | (have hk := hk; dsimp only at hk; omega))
    have hsL2 := hL2.size
    have hnhR4 := hR4.ln
    try simp only [List.length_append, List.length_cons, List.length_nil, List.length_set, List.length_take, List.length_drop, List.length_replicate, List.length_map, Nat.zero_add, Nat.add_zero, le_len, le8s_len, le8_len] at hnhR4
    have hchR4 := hR4.cap
    have hq0 := cmore_lt' 0 b
    have hq1 : 0 ≤ (cmore 0 b : Int) / 256 ^ k := Int.ediv_nonneg (by omega) (Int.pow_nonneg (by decide))
    have hq2 : (cmore 0 b : Int) / 256 ^ k ≤ cmore 0 b := Int.ediv_le_self _ (by omega)
    refine C_seq (C_seq (C_region (RL_q rfl (Yd_move rfl) (RL_q rfl (Yd_lss rfl rfl) (RL_nil (X_then (?_)))))))
    refine C_cond rfl (fun hb12 => ?_) (fun hb12 => ?_)
    · skip
      try simp only [decide_eq_true_eq, decide_eq_false_iff_not, Bool.not_eq_true', Bool.not_eq_false', Decidable.not_not, Int.not_lt, Int.not_le, Bool.or_eq_true, Bool.and_eq_true, Bool.or_eq_false_iff, Bool.and_eq_false_iff] at hb12
      refine C_skip (X_then (C_seq (C_block (C_seq (C_region (RL_q rfl (Yd_move rfl) (RL_q rfl (Yd_move rfl) (RL_q rfl (Yd_rem rfl rfl (by omega) (tmodw (by omega))) (RL_q rfl (Yd_conv ⟨_, Try.underlying82⟩ Try.underlying5 rfl (u8w (by omega) (by omega))) (RL_l rfl (Ld_lit Try.underlying47 rfl (lit_flat Try.underlying47 Try.elt5 rfl rfl ⟨rfl, by decide⟩) ?_)))))))))))
      intro W3 he3 hz3 hL19
      replace hE := Ext.trans hE he3
      replace h_b := h_b.ext he3
      replace hR4 := hR4.ext he3
      replace hL2 := Kp.go hL2 (Kp.of_ext (G := NoB) he3) (fun _ h => h.elim)
      have hO19 := Ow.of_blk (T := tU8) (l := [((cmore 0 b : Int) / 256 ^ k % 256)]) hL19 rfl (n := 1) rfl (by simp [maxLen]) (okc ⟨by omega, by omega⟩ okn)
      clear hL19
      refine RL_l rfl (Ld_apO (T := tU8) Try.underlying47 Try.elt5 rfl rfl rfl hR4 hO19.vw (by simp only [maxLen]; omega) (by omega) (by omega) ?_)
      intro A20 c20 W4 hO20 hk4
      have hs4 := hk4.size
      replace hE := Ext.kp hE hk4 (fun k hk => by first | omega | (have hk := hk; dsimp only at hk; omega))
      replace h_b := h_b.kp hk4 (fun k hk => by first | omega | (have hk := hk; dsimp only at hk; omega))
      try replace hL2 := hL2.go hk4 (fun k hk => by first | omega | (have hk := hk; dsimp only at hk; dsimp only; omega))
      replace hO19 := hO19.kp hk4 (fun k hk => by first | omega | (have hk := hk; dsimp only at hk; omega))
      have hn20 := hO20.ln
      try simp only [List.length_append, List.length_cons, List.length_nil, List.length_set, List.length_take, List.length_drop, List.length_replicate, List.length_map, Nat.zero_add, Nat.add_zero, le_len, le8s_len, le8_len] at hn20
      have hc20 := hO20.cap
      refine RL_q rfl (Yd_assign rfl) (RL_nil (X_then (C_region (RL_q rfl (Yd_move rfl) (RL_q rfl (Yd_quo rfl rfl (by omega) (tdiv32 (by omega) (by omega) (by omega))) (RL_q rfl (Yd_assign rfl) (RL_nil (X_block (X_then (C_region (RL_q rfl (Yd_move rfl) (RL_q rfl (Yd_add rfl rfl (i64w (by omega) (by omega))) (RL_q rfl (Yd_assign rfl) (RL_nil (?_)))))))))))))))
      refine X_again (⟨k + 1, A20, (ln4 + 1), c20⟩) ⟨rfl, (lk_int rfl (le_div _ _)), rfl, rfl, trivial⟩ ?_ (by show 4 - (k + 1) < 4 - k; omega)
      refine ⟨hO20.fit.cast ?_, ?_, hL2⟩
      all_goals (try dsimp only)
      all_goals (first | omega | exact app_le0 _ _ | exact le_next _ _ _)
    · skip
      try simp only [decide_eq_true_eq, decide_eq_false_iff_not, Bool.not_eq_true', Bool.not_eq_false', Decidable.not_not, Int.not_lt, Int.not_le, Bool.or_eq_true, Bool.and_eq_true, Bool.or_eq_false_iff, Bool.and_eq_false_iff] at hb12
      refine C_exit (X_thenE (X_thenE (X_blockE (X_then (C_seq (C_region (RL_q rfl (Yd_move rfl) (RL_q rfl (Yd_assign rfl) (RL_nil (X_then (C_ret (X_ret1 rfl rfl ?_))))))))))))
      refine ⟨_, _, _, rfl, (hR4.fit.more (by omega) (Nat.le_refl _)).cast ?_, hE⟩
      all_goals ((obtain rfl : k = 4 := by omega); rfl)
end Go.Proofs.AL
