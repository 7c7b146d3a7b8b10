import Derived.Test.YtkognjdmoibpeaaCell
set_option linter.unusedVariables false
set_option linter.unusedSimpArgs false
namespace Go.Proofs.AL
open Go.RowKit

def fill (b : List Int) (n : Nat) : List Int := (List.range n).map fun i => b.getD (i % b.length) 0
theorem fill_succ (b : List Int) (n : Nat) : fill b (n + 1) = fill b n ++ [b.getD (n % b.length) 0] := by simp [fill, List.range_succ]
@[simp] theorem fill_len (b : List Int) (n : Nat) : (fill b n).length = n := by simp [fill]
theorem getD_byt {b : List Int} (h : Byt b) (i : Nat) : 0 ≤ b.getD i 0 ∧ b.getD i 0 ≤ 255 := by
  rw [List.getD_eq_getElem?_getD]
  by_cases hi : i < b.length
  · rw [List.getElem?_eq_getElem hi]; exact h.get i hi
  · rw [List.getElem?_eq_none (by omega)]; simp
theorem fill_byt {b : List Int} (h : Byt b) (n : Nat) : Byt (fill b n) := fun x hx => by
  simp only [fill, List.mem_map] at hx
  obtain ⟨i, _, rfl⟩ := hx
  exact getD_byt h _
theorem Fill_c {B : Nat} (A : Option Addr) (m c n : Nat) (b : List Int) (w : World) (hr : Rd w B 1 A m (ints .u8 b)) (hm : b.length = m) (hm2 : m ≤ 9223372036854775807) (hn : n ≤ 65536) :
    Calls Try.prog 25 #[.slice A m c, .int .i64 n] w fun e w' => ∃ A' c', e = .returned (.slice A' n c') ∧ Own w' w.heap.size 5 1 A' n c' (ints .u8 (fill b n)) ∧ Ext w w' := by
  refine calls_of (l := [.slice A m c, .int .i64 n]) (N := 29) Try.func25 rfl rfl rfl ?_
  refine C_seq (C_region (RL_q rfl (Yd_assign rfl) (RL_nil (X_then (C_seq (C_region (RL_q rfl (Yd_assign rfl) (RL_nil (X_then (C_seq (C_seq (C_region (RL_q rfl (Yd_assign rfl) (RL_nil (X_then (C_block (?_)))))))))))))))))
  refine C_loop (T := Nat × Option Addr × Nat) (fun ⟨k, A', c'⟩ => [(0, .slice A m c), (1, .int .i64 n), (5, .slice A' k c'), (6, .int .i64 k)]) (fun ⟨k, A', c'⟩ w1 => k ≤ n ∧ Own w1 w.heap.size 5 1 A' k c' (ints .u8 (fill b k)) ∧ Ext w w1) (fun ⟨k, A', c'⟩ => n - k) (⟨0, none, 0⟩) ⟨rfl, rfl, rfl, rfl, trivial⟩ ?_ ?_
  · exact ⟨by omega, Own.nil _ _ _ _, Ext.refl _⟩
  · rintro ⟨k, A', c'⟩ w1 ⟨hk, hO, hE⟩
    refine C_seq (C_seq (C_region (RL_q rfl (Yd_move rfl) (RL_q rfl (Yd_move rfl) (RL_q rfl (Yd_lss rfl rfl) (RL_nil (X_then (?_))))))))
    refine C_cond rfl (fun hb => ?_) (fun hb => ?_)
    · skip
      have hb : (k : Int) < n := of_decide_eq_true hb
      have hsz := hE.size
      refine C_skip (X_then (C_seq (C_block (C_seq (C_region (RL_q rfl (Yd_move rfl) (RL_q rfl (Yd_len Try.underlying22 rfl) (RL_q rfl (Yd_gtr rfl rfl) (RL_nil (X_then (?_)))))))))))
      refine C_cond rfl (fun hb2 => ?_) (fun hb2 => ?_)
      · skip
        have hb2 : (0 : Int) < m := of_decide_eq_true hb2
        have hlt : k % m < m := Nat.mod_lt _ (by omega)
        obtain ⟨ad, rfl, _, _⟩ := hr.cells (by omega)
        have hget := ints_get .u8 b (k % m) (by omega)
        have hv : b.getD (k % b.length) 0 = b[k % m]'(by omega) := by simp only [List.getD_eq_getElem?_getD, hm, List.getElem?_eq_getElem (show k % m < b.length by omega), Option.getD_some]
        have hrem : ((k : Int) % (m : Int)).toNat = k % m := by omega
        refine C_region (RL_q rfl (Yd_move rfl) (RL_q rfl (Yd_move rfl) (RL_q rfl (Yd_move rfl) (RL_q rfl (Yd_move rfl) (RL_q rfl (Yd_len Try.underlying22 rfl) (RL_q rfl (Yd_rem rfl rfl (by omega) (tmodw (by omega))) (RL_q rfl (Yd_idx Try.underlying22 (sz := 1) (by kernel_rfl) rfl rfl (by omega) (by omega)) (RL_q rfl (Yd_load Try.underlying5 rfl rfl (ldK (hr.ext hE) (by omega) hget (by omega))) (RL_l rfl (Ld_lit Try.underlying22 rfl (lit_flat Try.underlying22 Try.elt5 rfl rfl ⟨rfl, by decide⟩) ?_))))))))))
        intro W1 he1 hz1 hB
        replace hO := hO.ext he1
        replace hE := Ext.trans hE he1
        refine RL_l rfl (Ld_app Try.underlying22 Try.elt5 rfl (by decide) rfl rfl hO (Blk.one hB) (by simp [Value.oneCell']) (by simp only [maxLen]; omega) (by omega) hE.size (by intro h; cases h) rfl ?_)
        intro A2 c2 W2 hO2 hg2 hat2
        have hE2 := ext_app hO hE hE.size hg2
        refine RL_q rfl (Yd_assign rfl) (RL_nil (X_block (X_then (C_region (RL_q rfl (Yd_move rfl) (RL_q rfl (Yd_add rfl rfl (i64w (by omega) (by omega))) (RL_q rfl (Yd_assign rfl) (RL_nil (?_)))))))))
        refine X_again (⟨k + 1, A2, c2⟩) ⟨rfl, rfl, rfl, rfl, trivial⟩ ?_ (by first | omega | (dsimp only; omega))
        refine ⟨by omega, ?_, hE2⟩
        rw [fill_succ, ints_append, hv]
        exact hO2
      · skip
        have hb2 : ¬ (0 : Int) < m := of_decide_eq_false hb2
        have hv : b.getD (k % b.length) 0 = 0 := by rw [show b = [] from List.eq_nil_of_length_eq_zero (by omega)]; rfl
        refine C_region (RL_q rfl (Yd_move rfl) (RL_l rfl (Ld_lit Try.underlying22 rfl (lit_flat Try.underlying22 Try.elt5 rfl rfl ⟨rfl, by decide⟩) ?_)))
        intro W1 he1 hz1 hB
        replace hO := hO.ext he1
        replace hE := Ext.trans hE he1
        refine RL_l rfl (Ld_app Try.underlying22 Try.elt5 rfl (by decide) rfl rfl hO (Blk.one hB) (by simp [Value.oneCell']) (by simp only [maxLen]; omega) (by omega) hE.size (by intro h; cases h) rfl ?_)
        intro A2 c2 W2 hO2 hg2 hat2
        have hE2 := ext_app hO hE hE.size hg2
        refine RL_q rfl (Yd_assign rfl) (RL_nil (X_block (X_then (C_region (RL_q rfl (Yd_move rfl) (RL_q rfl (Yd_add rfl rfl (i64w (by omega) (by omega))) (RL_q rfl (Yd_assign rfl) (RL_nil (?_)))))))))
        refine X_again (⟨k + 1, A2, c2⟩) ⟨rfl, rfl, rfl, rfl, trivial⟩ ?_ (by first | omega | (dsimp only; omega))
        refine ⟨by omega, ?_, hE2⟩
        rw [fill_succ, ints_append, hv]
        exact hO2
    · skip
      have hb : ¬ (k : Int) < n := of_decide_eq_false hb
      obtain rfl : k = n := by omega
      refine C_exit (X_thenE (X_thenE (X_blockE (X_then (C_seq (C_region (RL_q rfl (Yd_move rfl) (RL_q rfl (Yd_assign rfl) (RL_nil (X_then (C_ret (X_ret1 rfl rfl ?_))))))))))))
      exact ⟨A', c', rfl, hO, hE⟩

def fitsE (len off n : Int) : Int := if len ≠ 32 then 2 else if off < 0 ∨ n < 0 ∨ 32 < off ∨ 32 - off < n then 4 else 0
def pGet (p : List Int) (off n : Int) : List Int := if fitsE p.length off n = 0 then (p.drop off.toNat).take n.toNat else []
def pPut (p : List Int) (off : Int) (b : List Int) : List Int := if fitsE p.length off b.length = 0 then p.take off.toNat ++ b ++ p.drop (off.toNat + b.length) else []
theorem fitsE_ok {len off n : Int} (h1 : len = 32) (h2 : 0 ≤ off) (h3 : 0 ≤ n) (h4 : off ≤ 32) (h5 : n ≤ 32 - off) : fitsE len off n = 0 := by unfold fitsE; rw [if_neg (by omega), if_neg (by omega)]
theorem fitsE_zero {len off n : Int} (h : fitsE len off n = 0) : len = 32 ∧ 0 ≤ off ∧ 0 ≤ n ∧ off ≤ 32 ∧ n ≤ 32 - off := by
  unfold fitsE at h
  split at h
  · cases h
  · split at h
    · cases h
    · omega
theorem pGet_no {p : List Int} {off n : Int} {m : Int} (hm : m = p.length) (h : ¬ fitsE m off n = 0) : pGet p off n = [] := by subst hm; unfold pGet; rw [if_neg h]
theorem pPut_no {p b : List Int} {off : Int} {m k : Int} (hm : m = p.length) (hk : k = b.length) (h : ¬ fitsE m off k = 0) : pPut p off b = [] := by subst hm hk; unfold pPut; rw [if_neg h]
theorem pGet_ok {p : List Int} {off n : Int} {m : Int} (hm : m = p.length) (h : fitsE m off n = 0) : pGet p off n = (p.drop off.toNat).take n.toNat := by subst hm; unfold pGet; rw [if_pos h]
theorem pPut_ok {p b : List Int} {off : Int} {m k : Int} (hm : m = p.length) (hk : k = b.length) (h : fitsE m off k = 0) : pPut p off b = p.take off.toNat ++ b ++ p.drop (off.toNat + b.length) := by subst hm hk; unfold pPut; rw [if_pos h]
theorem pGet_le {p : List Int} {off n : Int} : (pGet p off n).length ≤ 32 := by
  unfold pGet
  split
  · rename_i h
    have := fitsE_zero h
    rw [List.length_take]; omega
  · simp
theorem pGet_of {p : List Int} {off n m : Int} {k : Nat} (hm : m = p.length) (h1 : m = 32) (h2 : 0 ≤ off) (h3 : 0 ≤ n) (h4 : off ≤ 32) (h5 : n ≤ 32 - off) (hk : (k : Int) = n) : (p.drop off.toNat).take k = pGet p off n := by
  subst hk
  rw [pGet_ok hm (fitsE_ok h1 h2 h3 h4 h5)]; rfl
theorem take_next' {l : List Int} {x : Int} {k : Nat} (hx : l[k]? = some x) : l.take k ++ [x] = l.take (k + 1) := by
  obtain ⟨hk, e⟩ := List.getElem?_eq_some_iff.1 hx
  rw [List.take_succ_eq_append_getElem hk, e]
theorem take_next {p : List Int} {x : Int} {o k j : Nat} (hx : p[j]? = some x) (hj : j = o + k) : (p.drop o).take k ++ [x] = (p.drop o).take (k + 1) := by
  subst hj
  exact take_next' (by rw [List.getElem?_drop]; exact hx)
theorem pPut_next1 {p b : List Int} {off : Int} {x : Int} {k j : Nat} (hx : b[j]? = some x) (h1 : (p.length : Int) = 32) (h2 : 0 ≤ off) (h3 : off + b.length ≤ 32) (hj : j + off.toNat = k) : (pPut p off b).take k ++ [x] = (pPut p off b).take (k + 1) := by
  refine take_next' ?_
  obtain ⟨hjb, _⟩ := List.getElem?_eq_some_iff.1 hx
  rw [pPut_ok rfl rfl (fitsE_ok h1 h2 (by omega) (by omega) (by omega)), List.getElem?_append_left (by simp only [List.length_append, List.length_take]; omega), List.getElem?_append_right (by rw [List.length_take]; omega), List.length_take, ← hx]
  congr 1; omega
theorem pPut_next2 {p b : List Int} {off : Int} {x : Int} {k : Nat} (hx : p[k]? = some x) (h1 : (p.length : Int) = 32) (h2 : 0 ≤ off ∧ off + b.length ≤ 32) (hk : (k : Int) < off ∨ off + b.length ≤ k) : (pPut p off b).take k ++ [x] = (pPut p off b).take (k + 1) := by
  refine take_next' ?_
  obtain ⟨hkp, _⟩ := List.getElem?_eq_some_iff.1 hx
  rw [pPut_ok rfl rfl (fitsE_ok h1 (by omega) (by omega) (by omega) (by omega)), ← hx]
  rcases hk with hk | hk
  · rw [List.append_assoc, List.getElem?_append_left (by rw [List.length_take]; omega), List.getElem?_take, if_pos (by omega)]
  · rw [List.getElem?_append_right (by simp only [List.length_append, List.length_take]; omega), List.getElem?_drop]
    congr 1
    simp only [List.length_append, List.length_take]; omega
def sealL (b : List Int) : List Int := if b.length = 16 then b ++ le 4 (cmore 0 b) else []
theorem sealL_no {b : List Int} (h : b.length ≠ 16) : [] = sealL b := by unfold sealL; rw [if_neg h]
theorem sealL_ok {b : List Int} (h : b.length = 16) : b ++ le 4 (cmore 0 b) = sealL b := by unfold sealL; rw [if_pos h]
def openL (b : List Int) : List Int := if b.length = 20 then takeL b else []
def openE (b : List Int) : Int := if b.length = 20 then takeE b else 2
theorem openL_no {b : List Int} (h : b.length ≠ 20) : openL b = [] ∧ openE b = 2 := by unfold openL openE; rw [if_neg h, if_neg h]; exact ⟨rfl, rfl⟩
theorem openL_ok {b : List Int} (h : b.length = 20) : openL b = takeL b ∧ openE b = takeE b := by unfold openL openE; rw [if_pos h, if_pos h]; exact ⟨rfl, rfl⟩
theorem openL_bad {b : List Int} (h : b.length = 20) (hg : good b = false) : openL b = [] ∧ openE b = 9 := by
  rw [(openL_ok h).1, (openL_ok h).2]
  rcases take_cases b with ⟨h1, _⟩ | ⟨_, h2, _⟩ | ⟨_, _, h3, h4, _⟩
  · omega
  · rw [hg] at h2; cases h2
  · exact ⟨h4, h3⟩
theorem openL_good {b : List Int} (h : b.length = 20) (hg : good b = true) : openL b = b.take 16 ∧ openE b = 0 := by
  rw [(openL_ok h).1, (openL_ok h).2]
  rcases take_cases b with ⟨h1, _⟩ | ⟨_, _, h3, h4, _⟩ | ⟨_, h2, _⟩
  · omega
  · rw [h] at h4; exact ⟨h4, h3⟩
  · rw [hg] at h2; cases h2
theorem pPut_len {p b : List Int} {off : Int} : (pPut p off b).length = 0 ∨ (pPut p off b).length = 32 := by
  unfold pPut
  split
  · rename_i h
    have := fitsE_zero h
    right
    simp only [List.length_append, List.length_take, List.length_drop]; omega
  · left; rfl
theorem pPut_all {p b : List Int} {off : Int} {k : Nat} (hk : k = 32) : (pPut p off b).take k = pPut p off b := List.take_of_length_le (by have := @pPut_len p b off; omega)
theorem FillV {lo_b B_b : Nat} {A_b : Option Addr} {n_b c_b : Nat} {b : List Int} {m : Int} {w : World}  (h_b : Vw tU8 w lo_b B_b A_b n_b c_b b) (b_m : 0 ≤ m ∧ m ≤ 65536) :
    Calls Try.prog 25 #[.slice A_b n_b c_b, .int .i64 m] w fun e w' => ∃ (A0 : Option Addr) (n0 c0 : Nat), e = .returned (.slice A0 n0 c0) ∧ Ow tU8 5 w' w.heap.size w'.heap.size A0 n0 c0 (fill b m.toNat) ∧ ((n0 : Int) = m) ∧ Ext w w' :=
  by
  obtain ⟨k, rfl⟩ := Int.eq_ofNat_of_zero_le b_m.1
  exact Calls.mono (Fill_c A_b n_b c_b k b w h_b.u8 h_b.ln (by have := h_b.max; have := h_b.cap; simp only [maxLen] at *; omega) (by omega)) fun e w' ⟨A, c, h1, h2, h3⟩ => ⟨A, _, c, h1, ow_u8 h2 (fill_byt h_b.byt k), by simp, h3⟩
theorem ownV {lo_b B_b : Nat} {A_b : Option Addr} {n_b c_b : Nat} {b : List Int} {w : World}  (h_b : Vw tU8 w lo_b B_b A_b n_b c_b b) (h6 : n_b ≤ 65000) :
    Calls Try.prog 41 #[.slice A_b n_b c_b] w fun e w' => ∃ (A0 : Option Addr) (n0 c0 : Nat), e = .returned (.slice A0 n0 c0) ∧ Ow tU8 5 w' w.heap.size w'.heap.size A0 n0 c0 b ∧ Ext w w' := by
  have hE := Ext.refl w
  replace h_b := h_b.fit
  have hn_b := h_b.ln
  have hc_b := h_b.cap
  have hm_b := h_b.max
  simp only [maxLen] at hm_b
  refine calls_of (l := [.slice A_b n_b c_b]) (N := 11) Try.func41 rfl rfl rfl ?_
  refine C_seq (C_region (RL_q rfl (Yd_assign rfl) (RL_nil (X_then (C_seq (C_region (RL_q rfl (Yd_move rfl) (RL_q rfl (Yd_len Try.underlying22 rfl) (RL_l rfl (Ld_mk Try.underlying22 Try.elt5 rfl rfl rfl (n := n_b) (by omega) (by omega) (T := tU8) (a := 0) rfl (by omega) (by simp only [maxLen]; omega) ⟨by decide, by decide⟩ ?_))))))))))
  intro W1 hO6 he1
  replace hE := Ext.trans hE he1
  replace h_b := h_b.ext he1
  have hs1 := he1.size
  have hn6 := hO6.ln
  refine RL_q rfl (Yd_assign rfl) (RL_nil (X_then (C_seq (C_region (RL_q rfl (Yd_move rfl) (RL_q rfl (Yd_move rfl) (RL_l rfl (Ld_cpO (T := tU8) rfl Try.underlying22 (by kernel_rfl) rfl rfl hO6 h_b (fun _ _ _ e => e) (by omega) (by omega) ?_))))))))
  intro W2 hO6' hk2
  have hs2 := hk2.size
  replace hE := Ext.kp hE hk2 (fun k hk => by first | omega | (have hk := hk; dsimp only at hk; omega))
  replace h_b := h_b.kp hk2 (fun k hk => by first | omega | (have hk := hk; dsimp only at hk; omega))
  replace hO6 := hO6'
  have hnhO6 := hO6.ln
  try simp only [List.length_append, List.length_cons, List.length_nil, List.length_set, List.length_take, List.length_drop, List.length_replicate, Nat.zero_add, Nat.add_zero, le_len] at hnhO6
  have hchO6 := hO6.cap
  refine RL_nil (X_then (C_seq (C_region (RL_q rfl (Yd_move rfl) (RL_q rfl (Yd_assign rfl) (RL_nil (X_then (C_ret (X_ret1 rfl rfl ?_)))))))))
  refine ⟨_, _, _, rfl, (hO6.fit.more (by omega) (Nat.le_refl _)).cast ?_, hE⟩
  all_goals (simp [hn_b])
theorem fitsV {lo_p B_p : Nat} {A_p : Option Addr} {n_p c_p : Nat} {p : List Int} {off : Int} {n : Int} {w : World}  (h_p : Vw tU8 w lo_p B_p A_p n_p c_p p) (b_off : -9223372036854775808 ≤ off ∧ off ≤ 9223372036854775807) (b_n : -9223372036854775808 ≤ n ∧ n ≤ 9223372036854775807) :
    Calls Try.prog 40 #[.slice A_p n_p c_p, .int .i64 off, .int .i64 n] w fun e w' => ∃ (x0 : Int), e = .returned (.int .i64 x0) ∧ x0 = (fitsE n_p off n) ∧ w = w' := by
  have hE := Ext.refl w
  replace h_p := h_p.fit
  have hn_p := h_p.ln
  have hc_p := h_p.cap
  have hm_p := h_p.max
  simp only [maxLen] at hm_p
  refine calls_of (l := [.slice A_p n_p c_p, .int .i64 off, .int .i64 n]) (N := 28) Try.func40 rfl rfl rfl ?_
  refine C_seq (C_region (RL_q rfl (Yd_assign rfl) (RL_nil (X_then (C_seq (C_block (C_seq (C_region (RL_q rfl (Yd_move rfl) (RL_q rfl (Yd_len Try.underlying22 rfl) (RL_q rfl (Yd_neq rfl rfl) (RL_q rfl (Yd_assign rfl) (RL_nil (X_then (?_)))))))))))))))
  refine C_cond rfl (fun hb7 => ?_) (fun hb7 => ?_)
  · skip
    try simp only [decide_eq_true_eq, decide_eq_false_iff_not, Bool.not_eq_true', Bool.not_eq_false', Decidable.not_not, Int.not_lt, Int.not_le, Bool.or_eq_true, Bool.and_eq_true, Bool.or_eq_false_iff, Bool.and_eq_false_iff] at hb7
    refine C_seq (C_region (RL_q rfl (Yd_assign rfl) (RL_nil (X_then (C_ret (X_blockR (X_thenR (X_ret1 rfl rfl ?_))))))))
    refine ⟨_, rfl, ?_, rfl⟩
    all_goals (unfold fitsE; (repeat' split) <;> first | rfl | omega)
  · skip
    try simp only [decide_eq_true_eq, decide_eq_false_iff_not, Bool.not_eq_true', Bool.not_eq_false', Decidable.not_not, Int.not_lt, Int.not_le, Bool.or_eq_true, Bool.and_eq_true, Bool.or_eq_false_iff, Bool.and_eq_false_iff] at hb7
    refine C_seq (C_region (RL_q rfl (Yd_move rfl) (RL_q rfl (Yd_lss rfl rfl) (RL_q rfl (Yd_move rfl) (?_)))))
    apply RL_or (dj := 14) 17 3 rfl
    · intro hb14
      try simp only [decide_eq_true_eq, decide_eq_false_iff_not, Bool.not_eq_true', Bool.not_eq_false', Decidable.not_not, Int.not_lt, Int.not_le, Bool.or_eq_true, Bool.and_eq_true, Bool.or_eq_false_iff, Bool.and_eq_false_iff] at hb14
      refine QL_gq rfl rfl rfl (Yd_move rfl) (QL_gq rfl rfl rfl (Yd_lss rfl rfl) (QL_q rfl (Yd_pickF rfl rfl) ((QL_nil 3 rfl rfl rfl))))
    · intro hb14
      try simp only [decide_eq_true_eq, decide_eq_false_iff_not, Bool.not_eq_true', Bool.not_eq_false', Decidable.not_not, Int.not_lt, Int.not_le, Bool.or_eq_true, Bool.and_eq_true, Bool.or_eq_false_iff, Bool.and_eq_false_iff] at hb14
      refine QL_gn rfl rfl rfl rfl (QL_gn rfl rfl rfl rfl (QL_q rfl (Yd_pickT rfl rfl) ((QL_nil 3 rfl rfl rfl))))
    · skip
      refine RL_q rfl (Yd_move rfl) (?_)
      apply RL_or (dj := 18) 21 3 rfl
      · intro hb18
        try simp only [decide_eq_true_eq, decide_eq_false_iff_not, Bool.not_eq_true', Bool.not_eq_false', Decidable.not_not, Int.not_lt, Int.not_le, Bool.or_eq_true, Bool.and_eq_true, Bool.or_eq_false_iff, Bool.and_eq_false_iff] at hb18
        refine QL_gq rfl rfl rfl (Yd_move rfl) (QL_gq rfl rfl rfl (Yd_gtr rfl rfl) (QL_q rfl (Yd_pickF rfl rfl) ((QL_nil 3 rfl rfl rfl))))
      · intro hb18
        try simp only [decide_eq_true_eq, decide_eq_false_iff_not, Bool.not_eq_true', Bool.not_eq_false', Decidable.not_not, Int.not_lt, Int.not_le, Bool.or_eq_true, Bool.and_eq_true, Bool.or_eq_false_iff, Bool.and_eq_false_iff] at hb18
        refine QL_gn rfl rfl rfl rfl (QL_gn rfl rfl rfl rfl (QL_q rfl (Yd_pickT rfl rfl) ((QL_nil 3 rfl rfl rfl))))
      · skip
        refine RL_q rfl (Yd_move rfl) (?_)
        apply RL_or (dj := 22) 27 5 rfl
        · intro hb22
          try simp only [decide_eq_true_eq, decide_eq_false_iff_not, Bool.not_eq_true', Bool.not_eq_false', Decidable.not_not, Int.not_lt, Int.not_le, Bool.or_eq_true, Bool.and_eq_true, Bool.or_eq_false_iff, Bool.and_eq_false_iff] at hb22
          refine QL_gq rfl rfl rfl (Yd_move rfl) (QL_gq rfl rfl rfl (Yd_move rfl) (QL_gq rfl rfl rfl (Yd_sub rfl rfl (i64w (by omega) (by omega))) (QL_gq rfl rfl rfl (Yd_gtr rfl rfl) (QL_q rfl (Yd_pickF rfl rfl) ((QL_nil 5 rfl rfl rfl))))))
        · intro hb22
          try simp only [decide_eq_true_eq, decide_eq_false_iff_not, Bool.not_eq_true', Bool.not_eq_false', Decidable.not_not, Int.not_lt, Int.not_le, Bool.or_eq_true, Bool.and_eq_true, Bool.or_eq_false_iff, Bool.and_eq_false_iff] at hb22
          refine QL_gn rfl rfl rfl rfl (QL_gn rfl rfl rfl rfl (QL_gn rfl rfl rfl rfl (QL_gn rfl rfl rfl rfl (QL_q rfl (Yd_pickT rfl rfl) ((QL_nil 5 rfl rfl rfl))))))
        · skip
          refine RL_q rfl (Yd_assign rfl) (RL_nil (X_then (?_)))
          refine C_cond rfl (fun hb11 => ?_) (fun hb11 => ?_)
          · skip
            try simp only [decide_eq_true_eq, decide_eq_false_iff_not, Bool.not_eq_true', Bool.not_eq_false', Decidable.not_not, Int.not_lt, Int.not_le, Bool.or_eq_true, Bool.and_eq_true, Bool.or_eq_false_iff, Bool.and_eq_false_iff] at hb11
            refine C_seq (C_region (RL_q rfl (Yd_assign rfl) (RL_nil (X_then (C_ret (X_blockR (X_thenR (X_ret1 rfl rfl ?_))))))))
            refine ⟨_, rfl, ?_, rfl⟩
            all_goals (unfold fitsE; (repeat' split) <;> first | rfl | omega)
          · skip
            try simp only [decide_eq_true_eq, decide_eq_false_iff_not, Bool.not_eq_true', Bool.not_eq_false', Decidable.not_not, Int.not_lt, Int.not_le, Bool.or_eq_true, Bool.and_eq_true, Bool.or_eq_false_iff, Bool.and_eq_false_iff] at hb11
            refine C_skip (X_block (X_then (C_seq (C_region (RL_q rfl (Yd_assign rfl) (RL_nil (X_then (C_ret (X_ret1 rfl rfl ?_)))))))))
            refine ⟨_, rfl, ?_, rfl⟩
            all_goals (unfold fitsE; (repeat' split) <;> first | rfl | omega)
theorem cGetV {lo_p B_p : Nat} {A_p : Option Addr} {n_p c_p : Nat} {p : List Int} {off : Int} {n : Int} {w : World}  (h_p : Vw tU8 w lo_p B_p A_p n_p c_p p) (b_off : -9223372036854775808 ≤ off ∧ off ≤ 9223372036854775807) (b_n : -9223372036854775808 ≤ n ∧ n ≤ 9223372036854775807) :
    Calls Try.prog 26 #[.slice A_p n_p c_p, .int .i64 off, .int .i64 n] w fun e w' => ∃ (A0 : Option Addr) (n0 c0 : Nat) (x1 : Int), e = .returned (.tuple #[.slice A0 n0 c0, .int .i64 x1]) ∧ Ow tU8 5 w' w.heap.size w'.heap.size A0 n0 c0 (pGet p off n) ∧ x1 = (fitsE n_p off n) ∧ Ext w w' := by
  have hE := Ext.refl w
  replace h_p := h_p.fit
  have hn_p := h_p.ln
  have hc_p := h_p.cap
  have hm_p := h_p.max
  simp only [maxLen] at hm_p
  refine calls_of (l := [.slice A_p n_p c_p, .int .i64 off, .int .i64 n]) (N := 23) Try.func26 rfl rfl rfl ?_
  refine C_seq (C_region (RL_q rfl (Yd_assign rfl) (RL_q rfl (Yd_assign rfl) (RL_nil (X_then (C_seq (C_seq (C_region (RL_q rfl (Yd_move rfl) (RL_q rfl (Yd_move rfl) (RL_q rfl (Yd_move rfl) (RL_l rfl (Ld_call Try.func40 rfl (by kernel_rfl) rfl (fitsV h_p ⟨by first | omega | (dsimp only; omega), by first | omega | (dsimp only; omega)⟩ ⟨by first | omega | (dsimp only; omega), by first | omega | (dsimp only; omega)⟩) ?_)))))))))))))
  rintro e W1 ⟨y12, rfl, hy12, rfl⟩
  refine ⟨_, rfl, ?_⟩
  refine RL_q rfl (Yd_assign rfl) (RL_nil (X_then (C_seq (C_region (RL_q rfl (Yd_move rfl) (RL_q rfl (Yd_neq rfl rfl) (?_)))))))
  have hz : y12 = 0 → _ := fun h => fitsE_zero (hy12.symm.trans h)
  refine RL_nil (X_then (?_))
  refine C_cond rfl (fun hb14 => ?_) (fun hb14 => ?_)
  · skip
    try simp only [decide_eq_true_eq, decide_eq_false_iff_not, Bool.not_eq_true', Bool.not_eq_false', Decidable.not_not, Int.not_lt, Int.not_le, Bool.or_eq_true, Bool.and_eq_true, Bool.or_eq_false_iff, Bool.and_eq_false_iff] at hb14
    refine C_seq (C_region (RL_q rfl (Yd_move rfl) (RL_q rfl (Yd_assign rfl) (RL_q rfl (Yd_assign rfl) (RL_nil (X_then (C_ret (X_thenR (X_ret2 rfl rfl rfl ?_)))))))))
    refine ⟨_, _, _, _, rfl, Ow.nil.cast ?_, ?_, hE⟩
    all_goals (first | rfl | exact hy12 | exact (pGet_no (m := n_p) (by omega) (by omega)).symm | omega | (rw [pGet_ok (m := n_p) (by omega) (by omega)]; exact congrArg (fun k => List.take k _) (by omega)))
  · skip
    try simp only [decide_eq_true_eq, decide_eq_false_iff_not, Bool.not_eq_true', Bool.not_eq_false', Decidable.not_not, Int.not_lt, Int.not_le, Bool.or_eq_true, Bool.and_eq_true, Bool.or_eq_false_iff, Bool.and_eq_false_iff] at hb14
    refine C_skip (X_then (C_seq (C_region (RL_q rfl (Yd_move rfl) (RL_q rfl (Yd_move rfl) (RL_q rfl (Yd_move rfl) (RL_q rfl (Yd_move rfl) (RL_q rfl (Yd_add rfl rfl (i64w (by omega) (by omega))) (RL_q rfl (Yd_sliceLH Try.underlying22 (sz := 1) (by kernel_rfl) rfl rfl rfl (by omega) (by omega) (by omega)) (RL_l rfl (Ld_call Try.func41 rfl (by kernel_rfl) rfl (ownV (Vw.cut h_p (by omega) (by omega)) (by omega)) ?_)))))))))))
    rintro e W2 ⟨A22, n22, c22, rfl, hF22, he2⟩
    refine ⟨_, rfl, ?_⟩
    replace hE := Ext.trans hE he2
    replace h_p := h_p.ext he2
    have hs2 := he2.size
    have hn22 := hF22.ln
    try simp only [List.length_append, List.length_cons, List.length_nil, List.length_set, List.length_take, List.length_drop, List.length_replicate, Nat.zero_add, Nat.add_zero, le_len] at hn22
    have hc22 := hF22.cap
    refine RL_q rfl (Yd_assign rfl) (RL_q rfl (Yd_assign rfl) (RL_nil (X_then (C_ret (X_ret2 rfl rfl rfl ?_)))))
    refine ⟨_, _, _, _, rfl, (hF22.fit.more (by omega) (Nat.le_refl _)).cast ?_, ?_, hE⟩
    all_goals (first | rfl | exact hy12 | exact (pGet_no (m := n_p) (by omega) (by omega)).symm | omega | (rw [pGet_ok (m := n_p) (by omega) (by omega)]; exact congrArg (fun k => List.take k _) (by omega)))
theorem cPutV {lo_p B_p : Nat} {A_p : Option Addr} {n_p c_p : Nat} {p : List Int} {off : Int} {lo_b B_b : Nat} {A_b : Option Addr} {n_b c_b : Nat} {b : List Int} {w : World}  (h_p : Vw tU8 w lo_p B_p A_p n_p c_p p) (b_off : -9223372036854775808 ≤ off ∧ off ≤ 9223372036854775807) (h_b : Vw tU8 w lo_b B_b A_b n_b c_b b) :
    Calls Try.prog 28 #[.slice A_p n_p c_p, .int .i64 off, .slice A_b n_b c_b] w fun e w' => ∃ (A0 : Option Addr) (n0 c0 : Nat) (x1 : Int), e = .returned (.tuple #[.slice A0 n0 c0, .int .i64 x1]) ∧ Ow tU8 5 w' w.heap.size w'.heap.size A0 n0 c0 (pPut p off b) ∧ x1 = (fitsE n_p off n_b) ∧ Ext w w' := by
  have hE := Ext.refl w
  replace h_p := h_p.fit
  have hn_p := h_p.ln
  have hc_p := h_p.cap
  have hm_p := h_p.max
  simp only [maxLen] at hm_p
  replace h_b := h_b.fit
  have hn_b := h_b.ln
  have hc_b := h_b.cap
  have hm_b := h_b.max
  simp only [maxLen] at hm_b
  refine calls_of (l := [.slice A_p n_p c_p, .int .i64 off, .slice A_b n_b c_b]) (N := 26) Try.func28 rfl rfl rfl ?_
  refine C_seq (C_region (RL_q rfl (Yd_assign rfl) (RL_q rfl (Yd_assign rfl) (RL_nil (X_then (C_seq (C_seq (C_region (RL_q rfl (Yd_move rfl) (RL_q rfl (Yd_move rfl) (RL_q rfl (Yd_move rfl) (RL_q rfl (Yd_len Try.underlying22 rfl) (RL_l rfl (Ld_call Try.func40 rfl (by kernel_rfl) rfl (fitsV h_p ⟨by first | omega | (dsimp only; omega), by first | omega | (dsimp only; omega)⟩ ⟨by first | omega | (dsimp only; omega), by first | omega | (dsimp only; omega)⟩) ?_))))))))))))))
  rintro e W1 ⟨y14, rfl, hy14, rfl⟩
  refine ⟨_, rfl, ?_⟩
  refine RL_q rfl (Yd_assign rfl) (RL_nil (X_then (C_seq (C_region (RL_q rfl (Yd_move rfl) (RL_q rfl (Yd_neq rfl rfl) (?_)))))))
  have hz : y14 = 0 → _ := fun h => fitsE_zero (hy14.symm.trans h)
  refine RL_nil (X_then (?_))
  refine C_cond rfl (fun hb16 => ?_) (fun hb16 => ?_)
  · skip
    try simp only [decide_eq_true_eq, decide_eq_false_iff_not, Bool.not_eq_true', Bool.not_eq_false', Decidable.not_not, Int.not_lt, Int.not_le, Bool.or_eq_true, Bool.and_eq_true, Bool.or_eq_false_iff, Bool.and_eq_false_iff] at hb16
    refine C_seq (C_region (RL_q rfl (Yd_move rfl) (RL_q rfl (Yd_assign rfl) (RL_q rfl (Yd_assign rfl) (RL_nil (X_then (C_ret (X_thenR (X_ret2 rfl rfl rfl ?_)))))))))
    refine ⟨_, _, _, _, rfl, Ow.nil.cast ?_, ?_, hE⟩
    all_goals (first | rfl | exact hy14 | exact (pPut_no (m := n_p) (k := n_b) (by omega) (by omega) (by omega)).symm | omega | (rw [pPut_ok (m := n_p) (k := n_b) (by omega) (by omega) (by omega), hn_b]))
  · skip
    try simp only [decide_eq_true_eq, decide_eq_false_iff_not, Bool.not_eq_true', Bool.not_eq_false', Decidable.not_not, Int.not_lt, Int.not_le, Bool.or_eq_true, Bool.and_eq_true, Bool.or_eq_false_iff, Bool.and_eq_false_iff] at hb16
    refine C_skip (X_then (C_seq (C_region (RL_q rfl (Yd_move rfl) (RL_l rfl (Ld_call Try.func41 rfl (by kernel_rfl) rfl (ownV h_p (by omega)) ?_))))))
    rintro e W2 ⟨A19, n19, c19, rfl, hF19, he2⟩
    refine ⟨_, rfl, ?_⟩
    replace hE := Ext.trans hE he2
    replace h_p := h_p.ext he2
    replace h_b := h_b.ext he2
    have hs2 := he2.size
    have hn19 := hF19.ln
    try simp only [List.length_append, List.length_cons, List.length_nil, List.length_set, List.length_take, List.length_drop, List.length_replicate, Nat.zero_add, Nat.add_zero, le_len] at hn19
    have hc19 := hF19.cap
    refine RL_q rfl (Yd_assign rfl) (RL_nil (X_then (C_seq (C_region (RL_q rfl (Yd_move rfl) (RL_q rfl (Yd_move rfl) (RL_q rfl (Yd_sliceL Try.underlying22 (sz := 1) (by kernel_rfl) rfl rfl (by omega) (by omega)) (RL_q rfl (Yd_move rfl) (RL_l rfl (Ld_cpO (T := tU8) rfl Try.underlying22 (by kernel_rfl) rfl rfl hF19 h_b (cp_cut (by omega) (by omega)) (by omega) (by omega) ?_))))))))))
    intro W3 hF19' hk3
    have hs3 := hk3.size
    replace hE := Ext.kp hE hk3 (fun k hk => by first | omega | (have hk := hk; dsimp only at hk; omega))
    replace h_p := h_p.kp hk3 (fun k hk => by first | omega | (have hk := hk; dsimp only at hk; omega))
    replace h_b := h_b.kp hk3 (fun k hk => by first | omega | (have hk := hk; dsimp only at hk; omega))
    replace hF19 := hF19'
    have hnhF19 := hF19.ln
    try simp only [List.length_append, List.length_cons, List.length_nil, List.length_set, List.length_take, List.length_drop, List.length_replicate, Nat.zero_add, Nat.add_zero, le_len] at hnhF19
    have hchF19 := hF19.cap
    refine RL_nil (X_then (C_seq (C_region (RL_q rfl (Yd_move rfl) (RL_q rfl (Yd_assign rfl) (RL_q rfl (Yd_assign rfl) (RL_nil (X_then (C_ret (X_ret2 rfl rfl rfl ?_))))))))))
    refine ⟨_, _, _, _, rfl, (hF19.fit.more (by omega) (Nat.le_refl _)).cast ?_, ?_, hE⟩
    all_goals (first | rfl | exact hy14 | exact (pPut_no (m := n_p) (k := n_b) (by omega) (by omega) (by omega)).symm | omega | (rw [pPut_ok (m := n_p) (k := n_b) (by omega) (by omega) (by omega), hn_b]))
theorem refGetV {lo_p B_p : Nat} {A_p : Option Addr} {n_p c_p : Nat} {p : List Int} {off : Int} {n : Int} {w : World}  (h_p : Vw tU8 w lo_p B_p A_p n_p c_p p) (b_off : -9223372036854775808 ≤ off ∧ off ≤ 9223372036854775807) (b_n : -9223372036854775808 ≤ n ∧ n ≤ 9223372036854775807) :
    Calls Try.prog 27 #[.slice A_p n_p c_p, .int .i64 off, .int .i64 n] w fun e w' => ∃ (A0 : Option Addr) (n0 c0 : Nat) (x1 : Int), e = .returned (.tuple #[.slice A0 n0 c0, .int .i64 x1]) ∧ Ow tU8 5 w' w.heap.size w'.heap.size A0 n0 c0 (pGet p off n) ∧ x1 = (fitsE n_p off n) ∧ Ext w w' := by
  have hE := Ext.refl w
  replace h_p := h_p.fit
  have hn_p := h_p.ln
  have hc_p := h_p.cap
  have hm_p := h_p.max
  simp only [maxLen] at hm_p
  refine calls_of (l := [.slice A_p n_p c_p, .int .i64 off, .int .i64 n]) (N := 49) Try.func27 rfl rfl rfl ?_
  refine C_seq (C_region (RL_q rfl (Yd_assign rfl) (RL_q rfl (Yd_assign rfl) (RL_nil (X_then (C_seq (C_seq (C_region (RL_q rfl (Yd_move rfl) (RL_q rfl (Yd_len Try.underlying22 rfl) (RL_q rfl (Yd_neq rfl rfl) (RL_nil (X_then (?_))))))))))))))
  refine C_cond rfl (fun hb12 => ?_) (fun hb12 => ?_)
  · skip
    try simp only [decide_eq_true_eq, decide_eq_false_iff_not, Bool.not_eq_true', Bool.not_eq_false', Decidable.not_not, Int.not_lt, Int.not_le, Bool.or_eq_true, Bool.and_eq_true, Bool.or_eq_false_iff, Bool.and_eq_false_iff] at hb12
    refine C_seq (C_region (RL_q rfl (Yd_assign rfl) (RL_q rfl (Yd_assign rfl) (RL_nil (X_then (C_ret (X_thenR (X_ret2 rfl rfl rfl ?_))))))))
    refine ⟨_, _, _, _, rfl, Ow.nil.cast ?_, ?_, hE⟩
    all_goals (first | rfl | exact (pGet_no (m := n_p) (by omega) (fun h => by have := fitsE_zero h; omega)).symm | exact pGet_of (m := n_p) (by omega) (by omega) (by omega) (by omega) (by omega) (by omega) (by omega) | (unfold fitsE; (repeat' split) <;> first | rfl | omega))
  · skip
    try simp only [decide_eq_true_eq, decide_eq_false_iff_not, Bool.not_eq_true', Bool.not_eq_false', Decidable.not_not, Int.not_lt, Int.not_le, Bool.or_eq_true, Bool.and_eq_true, Bool.or_eq_false_iff, Bool.and_eq_false_iff] at hb12
    refine C_skip (X_then (C_seq (C_seq (C_region (RL_q rfl (Yd_move rfl) (RL_q rfl (Yd_lss rfl rfl) (RL_q rfl (Yd_move rfl) (?_))))))))
    apply RL_or (dj := 15) 18 3 rfl
    · intro hb15
      try simp only [decide_eq_true_eq, decide_eq_false_iff_not, Bool.not_eq_true', Bool.not_eq_false', Decidable.not_not, Int.not_lt, Int.not_le, Bool.or_eq_true, Bool.and_eq_true, Bool.or_eq_false_iff, Bool.and_eq_false_iff] at hb15
      refine QL_gq rfl rfl rfl (Yd_move rfl) (QL_gq rfl rfl rfl (Yd_lss rfl rfl) (QL_q rfl (Yd_pickF rfl rfl) ((QL_nil 3 rfl rfl rfl))))
    · intro hb15
      try simp only [decide_eq_true_eq, decide_eq_false_iff_not, Bool.not_eq_true', Bool.not_eq_false', Decidable.not_not, Int.not_lt, Int.not_le, Bool.or_eq_true, Bool.and_eq_true, Bool.or_eq_false_iff, Bool.and_eq_false_iff] at hb15
      refine QL_gn rfl rfl rfl rfl (QL_gn rfl rfl rfl rfl (QL_q rfl (Yd_pickT rfl rfl) ((QL_nil 3 rfl rfl rfl))))
    · skip
      refine RL_q rfl (Yd_move rfl) (?_)
      apply RL_or (dj := 19) 22 3 rfl
      · intro hb19
        try simp only [decide_eq_true_eq, decide_eq_false_iff_not, Bool.not_eq_true', Bool.not_eq_false', Decidable.not_not, Int.not_lt, Int.not_le, Bool.or_eq_true, Bool.and_eq_true, Bool.or_eq_false_iff, Bool.and_eq_false_iff] at hb19
        refine QL_gq rfl rfl rfl (Yd_move rfl) (QL_gq rfl rfl rfl (Yd_gtr rfl rfl) (QL_q rfl (Yd_pickF rfl rfl) ((QL_nil 3 rfl rfl rfl))))
      · intro hb19
        try simp only [decide_eq_true_eq, decide_eq_false_iff_not, Bool.not_eq_true', Bool.not_eq_false', Decidable.not_not, Int.not_lt, Int.not_le, Bool.or_eq_true, Bool.and_eq_true, Bool.or_eq_false_iff, Bool.and_eq_false_iff] at hb19
        refine QL_gn rfl rfl rfl rfl (QL_gn rfl rfl rfl rfl (QL_q rfl (Yd_pickT rfl rfl) ((QL_nil 3 rfl rfl rfl))))
      · skip
        refine RL_q rfl (Yd_move rfl) (?_)
        apply RL_or (dj := 23) 26 3 rfl
        · intro hb23
          try simp only [decide_eq_true_eq, decide_eq_false_iff_not, Bool.not_eq_true', Bool.not_eq_false', Decidable.not_not, Int.not_lt, Int.not_le, Bool.or_eq_true, Bool.and_eq_true, Bool.or_eq_false_iff, Bool.and_eq_false_iff] at hb23
          refine QL_gq rfl rfl rfl (Yd_move rfl) (QL_gq rfl rfl rfl (Yd_gtr rfl rfl) (QL_q rfl (Yd_pickF rfl rfl) ((QL_nil 3 rfl rfl rfl))))
        · intro hb23
          try simp only [decide_eq_true_eq, decide_eq_false_iff_not, Bool.not_eq_true', Bool.not_eq_false', Decidable.not_not, Int.not_lt, Int.not_le, Bool.or_eq_true, Bool.and_eq_true, Bool.or_eq_false_iff, Bool.and_eq_false_iff] at hb23
          refine QL_gn rfl rfl rfl rfl (QL_gn rfl rfl rfl rfl (QL_q rfl (Yd_pickT rfl rfl) ((QL_nil 3 rfl rfl rfl))))
        · skip
          refine RL_q rfl (Yd_move rfl) (?_)
          apply RL_or (dj := 27) 32 5 rfl
          · intro hb27
            try simp only [decide_eq_true_eq, decide_eq_false_iff_not, Bool.not_eq_true', Bool.not_eq_false', Decidable.not_not, Int.not_lt, Int.not_le, Bool.or_eq_true, Bool.and_eq_true, Bool.or_eq_false_iff, Bool.and_eq_false_iff] at hb27
            refine QL_gq rfl rfl rfl (Yd_move rfl) (QL_gq rfl rfl rfl (Yd_move rfl) (QL_gq rfl rfl rfl (Yd_add rfl rfl (i64w (by omega) (by omega))) (QL_gq rfl rfl rfl (Yd_gtr rfl rfl) (QL_q rfl (Yd_pickF rfl rfl) ((QL_nil 5 rfl rfl rfl))))))
          · intro hb27
            try simp only [decide_eq_true_eq, decide_eq_false_iff_not, Bool.not_eq_true', Bool.not_eq_false', Decidable.not_not, Int.not_lt, Int.not_le, Bool.or_eq_true, Bool.and_eq_true, Bool.or_eq_false_iff, Bool.and_eq_false_iff] at hb27
            refine QL_gn rfl rfl rfl rfl (QL_gn rfl rfl rfl rfl (QL_gn rfl rfl rfl rfl (QL_gn rfl rfl rfl rfl (QL_q rfl (Yd_pickT rfl rfl) ((QL_nil 5 rfl rfl rfl))))))
          · skip
            refine RL_nil (X_then (?_))
            refine C_cond rfl (fun hb32 => ?_) (fun hb32 => ?_)
            · skip
              try simp only [decide_eq_true_eq, decide_eq_false_iff_not, Bool.not_eq_true', Bool.not_eq_false', Decidable.not_not, Int.not_lt, Int.not_le, Bool.or_eq_true, Bool.and_eq_true, Bool.or_eq_false_iff, Bool.and_eq_false_iff] at hb32
              refine C_seq (C_region (RL_q rfl (Yd_assign rfl) (RL_q rfl (Yd_assign rfl) (RL_nil (X_then (C_ret (X_thenR (X_ret2 rfl rfl rfl ?_))))))))
              refine ⟨_, _, _, _, rfl, Ow.nil.cast ?_, ?_, hE⟩
              all_goals (first | rfl | exact (pGet_no (m := n_p) (by omega) (fun h => by have := fitsE_zero h; omega)).symm | exact pGet_of (m := n_p) (by omega) (by omega) (by omega) (by omega) (by omega) (by omega) (by omega) | (unfold fitsE; (repeat' split) <;> first | rfl | omega))
            · skip
              try simp only [decide_eq_true_eq, decide_eq_false_iff_not, Bool.not_eq_true', Bool.not_eq_false', Decidable.not_not, Int.not_lt, Int.not_le, Bool.or_eq_true, Bool.and_eq_true, Bool.or_eq_false_iff, Bool.and_eq_false_iff] at hb32
              refine C_skip (X_then (C_seq (C_region (RL_q rfl (Yd_assign rfl) (RL_nil (X_then (C_seq (C_seq (C_region (RL_q rfl (Yd_move rfl) (RL_q rfl (Yd_assign rfl) (RL_nil (X_then (C_block (?_)))))))))))))))
              refine C_loop (T := Nat × Option Addr × Nat × Nat) (fun ⟨k, lA8, ln8, lc8⟩ => [(0, .slice A_p n_p c_p), (1, .int .i64 off), (2, .int .i64 n), (6, .slice none 0 0), (7, .int .i64 0), (8, .slice lA8 ln8 lc8), (9, .int .i64 (off + (k : Int)))]) (fun ⟨k, lA8, ln8, lc8⟩ lw0 => Ow tU8 5 lw0 w.heap.size lw0.heap.size lA8 ln8 lc8 ((p.drop off.toNat).take k) ∧ ((k : Int) ≤ n) ∧ Ext w lw0) (fun ⟨k, lA8, ln8, lc8⟩ => n.toNat - k) (⟨0, none, 0, 0⟩) ⟨rfl, rfl, rfl, rfl, rfl, rfl, (lk_int rfl (by simp)), trivial⟩ ?_ ?_
              · refine ⟨(Ow.nil (lo := w.heap.size)).cast ?_, ?_, Ext.refl _⟩
                all_goals (try dsimp only)
                all_goals (first | rfl | exact take_next (by assumption) (by omega) | omega)
              · rintro ⟨k, lA8, ln8, lc8⟩ lw0 ⟨hR8, hi0_0, hL0⟩
                replace hE := Ext.trans hE hL0
                replace h_p := h_p.ext hL0
                have hsL0 := hL0.size
                have hnhR8 := hR8.ln
                try simp only [List.length_append, List.length_cons, List.length_nil, List.length_set, List.length_take, List.length_drop, List.length_replicate, Nat.zero_add, Nat.add_zero, le_len] at hnhR8
                have hchR8 := hR8.cap
                refine C_seq (C_seq (C_region (RL_q rfl (Yd_move rfl) (RL_q rfl (Yd_move rfl) (RL_q rfl (Yd_move rfl) (RL_q rfl (Yd_add rfl rfl (i64w (by omega) (by omega))) (RL_q rfl (Yd_lss rfl rfl) (RL_nil (X_then (?_))))))))))
                refine C_cond rfl (fun hb38 => ?_) (fun hb38 => ?_)
                · skip
                  try simp only [decide_eq_true_eq, decide_eq_false_iff_not, Bool.not_eq_true', Bool.not_eq_false', Decidable.not_not, Int.not_lt, Int.not_le, Bool.or_eq_true, Bool.and_eq_true, Bool.or_eq_false_iff, Bool.and_eq_false_iff] at hb38
                  refine C_skip (X_then (C_seq (C_block (C_region (RL_q rfl (Yd_move rfl) (RL_q rfl (Yd_move rfl) (RL_q rfl (Yd_move rfl) (?_))))))))
                  obtain ⟨adA_p, rfl, hghA_p, hglA_p⟩ := Vw.at_ (i := (off + (k : Int)).toNat) h_p (by omega)
                  refine RL_q rfl (Yd_idx Try.underlying22 (sz := 1) (by kernel_rfl) rfl rfl (by omega) (by omega)) (?_)
                  obtain ⟨x1, hx1, gx1⟩ := Vw.elem (i := (off + (k : Int)).toNat) h_p (by omega)
                  replace gx1 : 0 ≤ x1 ∧ x1 ≤ 255 := gx1
                  refine RL_q rfl (Yd_load Try.underlying5 rfl rfl (Vw.lq1 h_p hx1 rfl rfl)) (RL_l rfl (Ld_lit Try.underlying22 rfl (lit_flat Try.underlying22 Try.elt5 rfl rfl ⟨rfl, by decide⟩) ?_))
                  intro W1 he1 hz1 hL46
                  replace hE := Ext.trans hE he1
                  replace h_p := h_p.ext he1
                  replace hR8 := hR8.ext he1
                  replace hL0 := Ext.trans hL0 he1
                  have hO46 := Ow.of_blk (T := tU8) (l := [x1]) hL46 rfl (n := 1) rfl (by simp [maxLen]) (okc ⟨by omega, by omega⟩ okn)
                  clear hL46
                  refine RL_l rfl (Ld_apO (T := tU8) Try.underlying22 Try.elt5 rfl rfl rfl hR8 hO46.vw (by simp only [maxLen]; omega) (by omega) (by omega) ?_)
                  intro A47 c47 W2 hO47 hk2
                  have hs2 := hk2.size
                  replace hE := Ext.kp hE hk2 (fun k hk => by first | omega | (have hk := hk; dsimp only at hk; omega))
                  replace h_p := h_p.kp hk2 (fun k hk => by first | omega | (have hk := hk; dsimp only at hk; omega))
                  replace hL0 := Ext.kp hL0 hk2 (fun k hk => by first | omega | (have hk := hk; dsimp only at hk; omega))
                  replace hO46 := hO46.kp hk2 (fun k hk => by first | omega | (have hk := hk; dsimp only at hk; omega))
                  have hn47 := hO47.ln
                  try simp only [List.length_append, List.length_cons, List.length_nil, List.length_set, List.length_take, List.length_drop, List.length_replicate, Nat.zero_add, Nat.add_zero, le_len] at hn47
                  have hc47 := hO47.cap
                  refine RL_q rfl (Yd_assign rfl) (RL_nil (X_block (X_then (C_region (RL_q rfl (Yd_move rfl) (RL_q rfl (Yd_add rfl rfl (i64w (by omega) (by omega))) (RL_q rfl (Yd_assign rfl) (RL_nil (?_)))))))))
                  refine X_again (⟨k + 1, A47, (ln8 + 1), c47⟩) ⟨rfl, rfl, rfl, rfl, rfl, rfl, (lk_int rfl (by omega)), trivial⟩ ?_ (by show n.toNat - (k + 1) < n.toNat - k; omega)
                  refine ⟨hO47.fit.cast ?_, ?_, hL0⟩
                  all_goals (try dsimp only)
                  all_goals (first | rfl | exact take_next (by assumption) (by omega) | omega)
                · skip
                  try simp only [decide_eq_true_eq, decide_eq_false_iff_not, Bool.not_eq_true', Bool.not_eq_false', Decidable.not_not, Int.not_lt, Int.not_le, Bool.or_eq_true, Bool.and_eq_true, Bool.or_eq_false_iff, Bool.and_eq_false_iff] at hb38
                  refine C_exit (X_thenE (X_thenE (X_blockE (X_then (C_seq (C_region (RL_q rfl (Yd_move rfl) (RL_q rfl (Yd_assign rfl) (RL_q rfl (Yd_assign rfl) (RL_nil (X_then (C_ret (X_ret2 rfl rfl rfl ?_)))))))))))))
                  refine ⟨_, _, _, _, rfl, (hR8.fit.more (by omega) (Nat.le_refl _)).cast ?_, ?_, hE⟩
                  all_goals (first | rfl | exact (pGet_no (m := n_p) (by omega) (fun h => by have := fitsE_zero h; omega)).symm | exact pGet_of (m := n_p) (by omega) (by omega) (by omega) (by omega) (by omega) (by omega) (by omega) | (unfold fitsE; (repeat' split) <;> first | rfl | omega))
theorem refPutV8 {lo_p B_p : Nat} {A_p : Option Addr} {n_p c_p : Nat} {p : List Int} {off : Int} {lo_b B_b : Nat} {A_b : Option Addr} {n_b c_b : Nat} {b : List Int} {w : World}  (h_p : Vw tU8 w lo_p B_p A_p n_p c_p p) (b_off : -9223372036854775808 ≤ off ∧ off ≤ 9223372036854775807) (h_b : Vw tU8 w lo_b B_b A_b n_b c_b b) :
    Calls Try.prog 29 #[.slice A_p n_p c_p, .int .i64 off, .slice A_b n_b c_b] w fun e w' => ∃ (A0 : Option Addr) (n0 c0 : Nat) (x1 : Int), e = .returned (.tuple #[.slice A0 n0 c0, .int .i64 x1]) ∧ Ow tU8 5 w' w.heap.size w'.heap.size A0 n0 c0 (pPut p off b) ∧ x1 = (fitsE n_p off n_b) ∧ Ext w w' := by
  have hE := Ext.refl w
  replace h_p := h_p.fit
  have hn_p := h_p.ln
  have hc_p := h_p.cap
  have hm_p := h_p.max
  simp only [maxLen] at hm_p
  replace h_b := h_b.fit
  have hn_b := h_b.ln
  have hc_b := h_b.cap
  have hm_b := h_b.max
  simp only [maxLen] at hm_b
  refine calls_of (l := [.slice A_p n_p c_p, .int .i64 off, .slice A_b n_b c_b]) (N := 55) Try.func29 rfl rfl rfl ?_
  refine C_seq (C_region (RL_q rfl (Yd_assign rfl) (RL_q rfl (Yd_assign rfl) (RL_nil (X_then (C_seq (C_region (RL_q rfl (Yd_move rfl) (RL_q rfl (Yd_move rfl) (RL_q rfl (Yd_move rfl) (RL_q rfl (Yd_len Try.underlying22 rfl) (RL_l rfl (Ld_call Try.func27 rfl (by kernel_rfl) rfl (refGetV h_p ⟨by first | omega | (dsimp only; omega), by first | omega | (dsimp only; omega)⟩ ⟨by first | omega | (dsimp only; omega), by first | omega | (dsimp only; omega)⟩) ?_)))))))))))))
  rintro e W1 ⟨A17_0, n17_0, c17_0, y17_1, rfl, hF17_0, hy17_1, he1⟩
  refine ⟨_, rfl, ?_⟩
  replace hE := Ext.trans hE he1
  replace h_p := h_p.ext he1
  replace h_b := h_b.ext he1
  have hs1 := he1.size
  have hn17_0 := hF17_0.ln
  try simp only [List.length_append, List.length_cons, List.length_nil, List.length_set, List.length_take, List.length_drop, List.length_replicate, Nat.zero_add, Nat.add_zero, le_len] at hn17_0
  have hc17_0 := hF17_0.cap
  refine RL_q rfl (Yd_move rfl) (RL_q rfl (Yd_extract rfl rfl) (RL_q rfl (Yd_extract rfl rfl) (RL_q rfl (Yd_assign rfl) (RL_q rfl (Yd_assign rfl) (RL_nil (X_then (C_seq (C_seq (C_region (RL_q rfl (Yd_move rfl) (RL_q rfl (Yd_neq rfl rfl) (?_))))))))))))
  have hz : y17_1 = 0 → _ := fun h => fitsE_zero (hy17_1.symm.trans h)
  refine RL_nil (X_then (?_))
  refine C_cond rfl (fun hb21 => ?_) (fun hb21 => ?_)
  · skip
    try simp only [decide_eq_true_eq, decide_eq_false_iff_not, Bool.not_eq_true', Bool.not_eq_false', Decidable.not_not, Int.not_lt, Int.not_le, Bool.or_eq_true, Bool.and_eq_true, Bool.or_eq_false_iff, Bool.and_eq_false_iff] at hb21
    refine C_seq (C_region (RL_q rfl (Yd_move rfl) (RL_q rfl (Yd_assign rfl) (RL_q rfl (Yd_assign rfl) (RL_nil (X_then (C_ret (X_thenR (X_ret2 rfl rfl rfl ?_)))))))))
    refine ⟨_, _, _, _, rfl, Ow.nil.cast ?_, ?_, hE⟩
    all_goals (first | rfl | omega | exact (pPut_no (m := n_p) (k := n_b) (by omega) (by omega) (by omega)).symm | exact pPut_all (by omega))
  · skip
    try simp only [decide_eq_true_eq, decide_eq_false_iff_not, Bool.not_eq_true', Bool.not_eq_false', Decidable.not_not, Int.not_lt, Int.not_le, Bool.or_eq_true, Bool.and_eq_true, Bool.or_eq_false_iff, Bool.and_eq_false_iff] at hb21
    refine C_skip (X_then (C_seq (C_region (RL_q rfl (Yd_assign rfl) (RL_nil (X_then (C_seq (C_seq (C_region (RL_q rfl (Yd_assign rfl) (RL_nil (X_then (C_block (?_))))))))))))))
    refine C_loop (T := Nat × Option Addr × Nat × Nat) (fun ⟨k, lA10, ln10, lc10⟩ => [(0, .slice A_p n_p c_p), (1, .int .i64 off), (2, .slice A_b n_b c_b), (6, .slice none 0 0), (7, .int .i64 0), (10, .slice lA10 ln10 lc10), (11, .int .i64 (k : Int))]) (fun ⟨k, lA10, ln10, lc10⟩ lw1 => Ow tU8 5 lw1 W1.heap.size lw1.heap.size lA10 ln10 lc10 ((pPut p off b).take k) ∧ (k ≤ 32) ∧ Ext W1 lw1) (fun ⟨k, lA10, ln10, lc10⟩ => 32 - k) (⟨0, none, 0, 0⟩) ⟨rfl, rfl, rfl, rfl, rfl, rfl, rfl, trivial⟩ ?_ ?_
    · refine ⟨(Ow.nil (lo := W1.heap.size)).cast ?_, ?_, Ext.refl _⟩
      all_goals (try dsimp only)
      all_goals (first | rfl | exact pPut_next1 (by assumption) (by omega) (by omega) (by omega) (by omega) | exact pPut_next2 (by assumption) (by omega) (by omega) (by omega) | omega)
    · rintro ⟨k, lA10, ln10, lc10⟩ lw1 ⟨hR10, hi1_0, hL1⟩
      replace hE := Ext.trans hE hL1
      replace h_p := h_p.ext hL1
      replace h_b := h_b.ext hL1
      replace hF17_0 := hF17_0.ext hL1
      have hsL1 := hL1.size
      have hnhR10 := hR10.ln
      try simp only [List.length_append, List.length_cons, List.length_nil, List.length_set, List.length_take, List.length_drop, List.length_replicate, Nat.zero_add, Nat.add_zero, le_len] at hnhR10
      have hchR10 := hR10.cap
      refine C_seq (C_seq (C_region (RL_q rfl (Yd_move rfl) (RL_q rfl (Yd_lss rfl rfl) (RL_nil (X_then (?_)))))))
      refine C_cond rfl (fun hb24 => ?_) (fun hb24 => ?_)
      · skip
        try simp only [decide_eq_true_eq, decide_eq_false_iff_not, Bool.not_eq_true', Bool.not_eq_false', Decidable.not_not, Int.not_lt, Int.not_le, Bool.or_eq_true, Bool.and_eq_true, Bool.or_eq_false_iff, Bool.and_eq_false_iff] at hb24
        refine C_skip (X_then (C_seq (C_block (C_seq (C_region (RL_q rfl (Yd_move rfl) (RL_q rfl (Yd_move rfl) (RL_q rfl (Yd_geq rfl rfl) (RL_q rfl (Yd_move rfl) (?_))))))))))
        apply RL_and (dj := 30) 37 7 rfl
        · intro hb30
          try simp only [decide_eq_true_eq, decide_eq_false_iff_not, Bool.not_eq_true', Bool.not_eq_false', Decidable.not_not, Int.not_lt, Int.not_le, Bool.or_eq_true, Bool.and_eq_true, Bool.or_eq_false_iff, Bool.and_eq_false_iff] at hb30
          refine QL_gq rfl rfl rfl (Yd_move rfl) (QL_gq rfl rfl rfl (Yd_move rfl) (QL_gq rfl rfl rfl (Yd_move rfl) (QL_gq rfl rfl rfl (Yd_len Try.underlying22 rfl) (QL_gq rfl rfl rfl (Yd_add rfl rfl (i64w (by omega) (by omega))) (QL_gq rfl rfl rfl (Yd_lss rfl rfl) (QL_q rfl (Yd_pickT rfl rfl) ((QL_nil 7 rfl rfl rfl))))))))
        · intro hb30
          try simp only [decide_eq_true_eq, decide_eq_false_iff_not, Bool.not_eq_true', Bool.not_eq_false', Decidable.not_not, Int.not_lt, Int.not_le, Bool.or_eq_true, Bool.and_eq_true, Bool.or_eq_false_iff, Bool.and_eq_false_iff] at hb30
          refine QL_gn rfl rfl rfl rfl (QL_gn rfl rfl rfl rfl (QL_gn rfl rfl rfl rfl (QL_gn rfl rfl rfl rfl (QL_gn rfl rfl rfl rfl (QL_gn rfl rfl rfl rfl (QL_q rfl (Yd_pickF rfl rfl) ((QL_nil 7 rfl rfl rfl))))))))
        · skip
          refine RL_nil (X_then (?_))
          refine C_cond rfl (fun hb37 => ?_) (fun hb37 => ?_)
          · skip
            try simp only [decide_eq_true_eq, decide_eq_false_iff_not, Bool.not_eq_true', Bool.not_eq_false', Decidable.not_not, Int.not_lt, Int.not_le, Bool.or_eq_true, Bool.and_eq_true, Bool.or_eq_false_iff, Bool.and_eq_false_iff] at hb37
            refine C_region (RL_q rfl (Yd_move rfl) (RL_q rfl (Yd_move rfl) (RL_q rfl (Yd_move rfl) (RL_q rfl (Yd_move rfl) (RL_q rfl (Yd_sub rfl rfl (i64w (by omega) (by omega))) (?_))))))
            obtain ⟨adA_b, rfl, hghA_b, hglA_b⟩ := Vw.at_ (i := ((k : Int) - off).toNat) h_b (by omega)
            refine RL_q rfl (Yd_idx Try.underlying22 (sz := 1) (by kernel_rfl) rfl rfl (by omega) (by omega)) (?_)
            obtain ⟨x1, hx1, gx1⟩ := Vw.elem (i := ((k : Int) - off).toNat) h_b (by omega)
            replace gx1 : 0 ≤ x1 ∧ x1 ≤ 255 := gx1
            refine RL_q rfl (Yd_load Try.underlying5 rfl rfl (Vw.lq1 h_b hx1 rfl rfl)) (RL_l rfl (Ld_lit Try.underlying22 rfl (lit_flat Try.underlying22 Try.elt5 rfl rfl ⟨rfl, by decide⟩) ?_))
            intro W2 he2 hz2 hL45
            replace hE := Ext.trans hE he2
            replace h_p := h_p.ext he2
            replace h_b := h_b.ext he2
            replace hF17_0 := hF17_0.ext he2
            replace hR10 := hR10.ext he2
            replace hL1 := Ext.trans hL1 he2
            have hO45 := Ow.of_blk (T := tU8) (l := [x1]) hL45 rfl (n := 1) rfl (by simp [maxLen]) (okc ⟨by omega, by omega⟩ okn)
            clear hL45
            refine RL_l rfl (Ld_apO (T := tU8) Try.underlying22 Try.elt5 rfl rfl rfl hR10 hO45.vw (by simp only [maxLen]; omega) (by omega) (by omega) ?_)
            intro A46 c46 W3 hO46 hk3
            have hs3 := hk3.size
            replace hE := Ext.kp hE hk3 (fun k hk => by first | omega | (have hk := hk; dsimp only at hk; omega))
            replace h_p := h_p.kp hk3 (fun k hk => by first | omega | (have hk := hk; dsimp only at hk; omega))
            replace h_b := h_b.kp hk3 (fun k hk => by first | omega | (have hk := hk; dsimp only at hk; omega))
            replace hF17_0 := hF17_0.kp hk3 (fun k hk => by first | omega | (have hk := hk; dsimp only at hk; omega))
            replace hL1 := Ext.kp hL1 hk3 (fun k hk => by first | omega | (have hk := hk; dsimp only at hk; omega))
            replace hO45 := hO45.kp hk3 (fun k hk => by first | omega | (have hk := hk; dsimp only at hk; omega))
            have hn46 := hO46.ln
            try simp only [List.length_append, List.length_cons, List.length_nil, List.length_set, List.length_take, List.length_drop, List.length_replicate, Nat.zero_add, Nat.add_zero, le_len] at hn46
            have hc46 := hO46.cap
            refine RL_q rfl (Yd_assign rfl) (RL_nil (X_block (X_then (C_region (RL_q rfl (Yd_move rfl) (RL_q rfl (Yd_add rfl rfl (i64w (by omega) (by omega))) (RL_q rfl (Yd_assign rfl) (RL_nil (?_)))))))))
            refine X_again (⟨k + 1, A46, (ln10 + 1), c46⟩) ⟨rfl, rfl, rfl, rfl, rfl, rfl, rfl, trivial⟩ ?_ (by show 32 - (k + 1) < 32 - k; omega)
            refine ⟨hO46.fit.cast ?_, ?_, hL1⟩
            all_goals (try dsimp only)
            all_goals (first | rfl | exact pPut_next1 (by assumption) (by omega) (by omega) (by omega) (by omega) | exact pPut_next2 (by assumption) (by omega) (by omega) (by omega) | omega)
          · skip
            try simp only [decide_eq_true_eq, decide_eq_false_iff_not, Bool.not_eq_true', Bool.not_eq_false', Decidable.not_not, Int.not_lt, Int.not_le, Bool.or_eq_true, Bool.and_eq_true, Bool.or_eq_false_iff, Bool.and_eq_false_iff] at hb37
            refine C_region (RL_q rfl (Yd_move rfl) (RL_q rfl (Yd_move rfl) (RL_q rfl (Yd_move rfl) (?_))))
            obtain ⟨adA_p, rfl, hghA_p, hglA_p⟩ := Vw.at_ (i := k) h_p (by omega)
            refine RL_q rfl (Yd_idx Try.underlying22 (sz := 1) (by kernel_rfl) rfl rfl (by omega) (by omega)) (?_)
            obtain ⟨x2, hx2, gx2⟩ := Vw.elem (i := k) h_p (by omega)
            replace gx2 : 0 ≤ x2 ∧ x2 ≤ 255 := gx2
            refine RL_q rfl (Yd_load Try.underlying5 rfl rfl (Vw.lq1 h_p hx2 rfl rfl)) (RL_l rfl (Ld_lit Try.underlying22 rfl (lit_flat Try.underlying22 Try.elt5 rfl rfl ⟨rfl, by decide⟩) ?_))
            intro W2 he2 hz2 hL52
            replace hE := Ext.trans hE he2
            replace h_p := h_p.ext he2
            replace h_b := h_b.ext he2
            replace hF17_0 := hF17_0.ext he2
            replace hR10 := hR10.ext he2
            replace hL1 := Ext.trans hL1 he2
            have hO52 := Ow.of_blk (T := tU8) (l := [x2]) hL52 rfl (n := 1) rfl (by simp [maxLen]) (okc ⟨by omega, by omega⟩ okn)
            clear hL52
            refine RL_l rfl (Ld_apO (T := tU8) Try.underlying22 Try.elt5 rfl rfl rfl hR10 hO52.vw (by simp only [maxLen]; omega) (by omega) (by omega) ?_)
            intro A53 c53 W3 hO53 hk3
            have hs3 := hk3.size
            replace hE := Ext.kp hE hk3 (fun k hk => by first | omega | (have hk := hk; dsimp only at hk; omega))
            replace h_p := h_p.kp hk3 (fun k hk => by first | omega | (have hk := hk; dsimp only at hk; omega))
            replace h_b := h_b.kp hk3 (fun k hk => by first | omega | (have hk := hk; dsimp only at hk; omega))
            replace hF17_0 := hF17_0.kp hk3 (fun k hk => by first | omega | (have hk := hk; dsimp only at hk; omega))
            replace hL1 := Ext.kp hL1 hk3 (fun k hk => by first | omega | (have hk := hk; dsimp only at hk; omega))
            replace hO52 := hO52.kp hk3 (fun k hk => by first | omega | (have hk := hk; dsimp only at hk; omega))
            have hn53 := hO53.ln
            try simp only [List.length_append, List.length_cons, List.length_nil, List.length_set, List.length_take, List.length_drop, List.length_replicate, Nat.zero_add, Nat.add_zero, le_len] at hn53
            have hc53 := hO53.cap
            refine RL_q rfl (Yd_assign rfl) (RL_nil (X_block (X_then (C_region (RL_q rfl (Yd_move rfl) (RL_q rfl (Yd_add rfl rfl (i64w (by omega) (by omega))) (RL_q rfl (Yd_assign rfl) (RL_nil (?_)))))))))
            refine X_again (⟨k + 1, A53, (ln10 + 1), c53⟩) ⟨rfl, rfl, rfl, rfl, rfl, rfl, rfl, trivial⟩ ?_ (by show 32 - (k + 1) < 32 - k; omega)
            refine ⟨hO53.fit.cast ?_, ?_, hL1⟩
            all_goals (try dsimp only)
            all_goals (first | rfl | exact pPut_next1 (by assumption) (by omega) (by omega) (by omega) (by omega) | exact pPut_next2 (by assumption) (by omega) (by omega) (by omega) | omega)
      · skip
        try simp only [decide_eq_true_eq, decide_eq_false_iff_not, Bool.not_eq_true', Bool.not_eq_false', Decidable.not_not, Int.not_lt, Int.not_le, Bool.or_eq_true, Bool.and_eq_true, Bool.or_eq_false_iff, Bool.and_eq_false_iff] at hb24
        refine C_exit (X_thenE (X_thenE (X_blockE (X_then (C_seq (C_region (RL_q rfl (Yd_move rfl) (RL_q rfl (Yd_assign rfl) (RL_q rfl (Yd_assign rfl) (RL_nil (X_then (C_ret (X_ret2 rfl rfl rfl ?_)))))))))))))
        refine ⟨_, _, _, _, rfl, (hR10.fit.more (by omega) (Nat.le_refl _)).cast ?_, ?_, hE⟩
        all_goals (first | rfl | omega | exact (pPut_no (m := n_p) (k := n_b) (by omega) (by omega) (by omega)).symm | exact pPut_all (by omega))
theorem ZeroV  {w : World}   :
    Calls Try.prog 36 #[] w fun e w' => ∃ (A0 : Option Addr) (n0 c0 : Nat), e = .returned (.slice A0 n0 c0) ∧ Ow tU8 5 w' w.heap.size w'.heap.size A0 n0 c0 (List.replicate 16 0) ∧ Ext w w' := by
  have hE := Ext.refl w
  refine calls_of (l := []) (N := 2) Try.func36 rfl rfl rfl ?_
  refine C_seq (C_region (RL_q rfl (Yd_assign rfl) (RL_nil (X_then (C_seq (C_region (RL_l rfl (Ld_mk Try.underlying22 Try.elt5 rfl rfl rfl (n := 16) (by omega) (by omega) (T := tU8) (a := 0) rfl (by omega) (by simp only [maxLen]; omega) ⟨by decide, by decide⟩ ?_))))))))
  intro W1 hO1 he1
  replace hE := Ext.trans hE he1
  have hs1 := he1.size
  have hn1 := hO1.ln
  refine RL_q rfl (Yd_assign rfl) (RL_nil (X_then (C_ret (X_ret1 rfl rfl ?_))))
  refine ⟨_, _, _, rfl, (hO1.fit.more (by omega) (Nat.le_refl _)).cast ?_, hE⟩
  all_goals (first | rfl | omega | simp)
theorem SealV {lo_b B_b : Nat} {A_b : Option Addr} {n_b c_b : Nat} {b : List Int} {w : World}  (h_b : Vw tU8 w lo_b B_b A_b n_b c_b b) :
    Calls Try.prog 35 #[.slice A_b n_b c_b] w fun e w' => ∃ (A0 : Option Addr) (n0 c0 : Nat) (x1 : Int), e = .returned (.tuple #[.slice A0 n0 c0, .int .i64 x1]) ∧ Ow tU8 5 w' w.heap.size w'.heap.size A0 n0 c0 (sealL b) ∧ x1 = (if n_b = 16 then 0 else 2) ∧ Ext w w' := by
  have hE := Ext.refl w
  replace h_b := h_b.fit
  have hn_b := h_b.ln
  have hc_b := h_b.cap
  have hm_b := h_b.max
  simp only [maxLen] at hm_b
  refine calls_of (l := [.slice A_b n_b c_b]) (N := 9) Try.func35 rfl rfl rfl ?_
  refine C_seq (C_region (RL_q rfl (Yd_assign rfl) (RL_q rfl (Yd_assign rfl) (RL_nil (X_then (C_seq (C_seq (C_region (RL_q rfl (Yd_move rfl) (RL_q rfl (Yd_len Try.underlying22 rfl) (RL_q rfl (Yd_neq rfl rfl) (RL_nil (X_then (?_))))))))))))))
  refine C_cond rfl (fun hb6 => ?_) (fun hb6 => ?_)
  · skip
    try simp only [decide_eq_true_eq, decide_eq_false_iff_not, Bool.not_eq_true', Bool.not_eq_false', Decidable.not_not, Int.not_lt, Int.not_le, Bool.or_eq_true, Bool.and_eq_true, Bool.or_eq_false_iff, Bool.and_eq_false_iff] at hb6
    refine C_seq (C_region (RL_q rfl (Yd_assign rfl) (RL_q rfl (Yd_assign rfl) (RL_nil (X_then (C_ret (X_thenR (X_ret2 rfl rfl rfl ?_))))))))
    refine ⟨_, _, _, _, rfl, Ow.nil.cast ?_, ?_, hE⟩
    all_goals (first | (rw [if_pos (by omega)]; done) | (rw [if_neg (by omega)]; done) | exact sealL_no (by omega) | exact sealL_ok (by omega))
  · skip
    try simp only [decide_eq_true_eq, decide_eq_false_iff_not, Bool.not_eq_true', Bool.not_eq_false', Decidable.not_not, Int.not_lt, Int.not_le, Bool.or_eq_true, Bool.and_eq_true, Bool.or_eq_false_iff, Bool.and_eq_false_iff] at hb6
    refine C_skip (X_then (C_seq (C_region (RL_q rfl (Yd_move rfl) (RL_l rfl (Ld_call Try.func21 rfl (by kernel_rfl) rfl (PutV h_b (by omega)) ?_))))))
    rintro e W1 ⟨A8, n8, c8, rfl, hF8, he1⟩
    refine ⟨_, rfl, ?_⟩
    replace hE := Ext.trans hE he1
    replace h_b := h_b.ext he1
    have hs1 := he1.size
    have hn8 := hF8.ln
    try simp only [List.length_append, List.length_cons, List.length_nil, List.length_set, List.length_take, List.length_drop, List.length_replicate, Nat.zero_add, Nat.add_zero, le_len] at hn8
    have hc8 := hF8.cap
    refine RL_q rfl (Yd_assign rfl) (RL_q rfl (Yd_assign rfl) (RL_nil (X_then (C_ret (X_ret2 rfl rfl rfl ?_)))))
    refine ⟨_, _, _, _, rfl, (hF8.fit.more (by omega) (Nat.le_refl _)).cast ?_, ?_, hE⟩
    all_goals (first | (rw [if_pos (by omega)]; done) | (rw [if_neg (by omega)]; done) | exact sealL_no (by omega) | exact sealL_ok (by omega))
theorem OpenV {lo_b B_b : Nat} {A_b : Option Addr} {n_b c_b : Nat} {b : List Int} {w : World}  (h_b : Vw tU8 w lo_b B_b A_b n_b c_b b) :
    Calls Try.prog 33 #[.slice A_b n_b c_b] w fun e w' => ∃ (A0 : Option Addr) (n0 c0 : Nat) (x1 : Int), e = .returned (.tuple #[.slice A0 n0 c0, .int .i64 x1]) ∧ Ow tU8 5 w' w.heap.size w'.heap.size A0 n0 c0 (openL b) ∧ x1 = (openE b) ∧ Ext w w' := by
  have hE := Ext.refl w
  replace h_b := h_b.fit
  have hn_b := h_b.ln
  have hc_b := h_b.cap
  have hm_b := h_b.max
  simp only [maxLen] at hm_b
  refine calls_of (l := [.slice A_b n_b c_b]) (N := 11) Try.func33 rfl rfl rfl ?_
  refine C_seq (C_region (RL_q rfl (Yd_assign rfl) (RL_q rfl (Yd_assign rfl) (RL_nil (X_then (C_seq (C_seq (C_region (RL_q rfl (Yd_move rfl) (RL_q rfl (Yd_len Try.underlying22 rfl) (RL_q rfl (Yd_neq rfl rfl) (RL_nil (X_then (?_))))))))))))))
  refine C_cond rfl (fun hb6 => ?_) (fun hb6 => ?_)
  · skip
    try simp only [decide_eq_true_eq, decide_eq_false_iff_not, Bool.not_eq_true', Bool.not_eq_false', Decidable.not_not, Int.not_lt, Int.not_le, Bool.or_eq_true, Bool.and_eq_true, Bool.or_eq_false_iff, Bool.and_eq_false_iff] at hb6
    refine C_seq (C_region (RL_q rfl (Yd_assign rfl) (RL_q rfl (Yd_assign rfl) (RL_nil (X_then (C_ret (X_thenR (X_ret2 rfl rfl rfl ?_))))))))
    refine ⟨_, _, _, _, rfl, Ow.nil.cast ?_, ?_, hE⟩
    all_goals (first | (rw [if_pos (by omega)]; done) | (rw [if_neg (by omega)]; assumption) | (rw [if_neg (by omega)]; done) | exact (openL_no (by omega)).1.symm | exact (openL_no (by omega)).2.symm | exact (openL_ok (by omega)).1.symm | (rw [(openL_ok (by omega)).2]; assumption))
  · skip
    try simp only [decide_eq_true_eq, decide_eq_false_iff_not, Bool.not_eq_true', Bool.not_eq_false', Decidable.not_not, Int.not_lt, Int.not_le, Bool.or_eq_true, Bool.and_eq_true, Bool.or_eq_false_iff, Bool.and_eq_false_iff] at hb6
    refine C_skip (X_then (C_seq (C_region (RL_q rfl (Yd_move rfl) (RL_l rfl (Ld_call Try.func22 rfl (by kernel_rfl) rfl (TakeV h_b (by omega)) ?_))))))
    rintro e W1 ⟨A8_0, n8_0, c8_0, y8_1, rfl, hF8_0, hy8_1, he1⟩
    refine ⟨_, rfl, ?_⟩
    replace hE := Ext.trans hE he1
    replace h_b := h_b.ext he1
    have hs1 := he1.size
    have hn8_0 := hF8_0.ln
    try simp only [List.length_append, List.length_cons, List.length_nil, List.length_set, List.length_take, List.length_drop, List.length_replicate, Nat.zero_add, Nat.add_zero, le_len] at hn8_0
    have hc8_0 := hF8_0.cap
    refine RL_q rfl (Yd_extract rfl rfl) (RL_q rfl (Yd_extract rfl rfl) (RL_q rfl (Yd_assign rfl) (RL_q rfl (Yd_assign rfl) (RL_nil (X_then (C_ret (X_ret2 rfl rfl rfl ?_)))))))
    refine ⟨_, _, _, _, rfl, (hF8_0.fit.more (by omega) (Nat.le_refl _)).cast ?_, ?_, hE⟩
    all_goals (first | (rw [if_pos (by omega)]; done) | (rw [if_neg (by omega)]; assumption) | (rw [if_neg (by omega)]; done) | exact (openL_no (by omega)).1.symm | exact (openL_no (by omega)).2.symm | exact (openL_ok (by omega)).1.symm | (rw [(openL_ok (by omega)).2]; assumption))
theorem refOpenV {lo_b B_b : Nat} {A_b : Option Addr} {n_b c_b : Nat} {b : List Int} {w : World}  (h_b : Vw tU8 w lo_b B_b A_b n_b c_b b) :
    Calls Try.prog 34 #[.slice A_b n_b c_b] w fun e w' => ∃ (A0 : Option Addr) (n0 c0 : Nat) (x1 : Int), e = .returned (.tuple #[.slice A0 n0 c0, .int .i64 x1]) ∧ Vw tU8 w' 0 w'.heap.size A0 n0 c0 (openL b) ∧ x1 = (openE b) ∧ Ext w w' := by
  have hE := Ext.refl w
  replace h_b := h_b.fit
  have hn_b := h_b.ln
  have hc_b := h_b.cap
  have hm_b := h_b.max
  simp only [maxLen] at hm_b
  refine calls_of (l := [.slice A_b n_b c_b]) (N := 14) Try.func34 rfl rfl rfl ?_
  refine C_seq (C_region (RL_q rfl (Yd_assign rfl) (RL_q rfl (Yd_assign rfl) (RL_nil (X_then (C_seq (C_seq (C_region (RL_q rfl (Yd_move rfl) (RL_q rfl (Yd_len Try.underlying22 rfl) (RL_q rfl (Yd_neq rfl rfl) (RL_nil (X_then (?_))))))))))))))
  refine C_cond rfl (fun hb7 => ?_) (fun hb7 => ?_)
  · skip
    try simp only [decide_eq_true_eq, decide_eq_false_iff_not, Bool.not_eq_true', Bool.not_eq_false', Decidable.not_not, Int.not_lt, Int.not_le, Bool.or_eq_true, Bool.and_eq_true, Bool.or_eq_false_iff, Bool.and_eq_false_iff] at hb7
    refine C_seq (C_region (RL_q rfl (Yd_assign rfl) (RL_q rfl (Yd_assign rfl) (RL_nil (X_then (C_ret (X_thenR (X_ret2 rfl rfl rfl ?_))))))))
    refine ⟨_, _, _, _, rfl, Vw.none_.cast ?_, ?_, hE⟩
    all_goals (first | exact (openL_no (by omega)).1.symm | exact (openL_no (by omega)).2.symm | exact (openL_bad (by omega) (by assumption)).1.symm | exact (openL_bad (by omega) (by assumption)).2.symm | exact (openL_good (by omega) (by assumption)).1.symm | exact (openL_good (by omega) (by assumption)).2.symm)
  · skip
    try simp only [decide_eq_true_eq, decide_eq_false_iff_not, Bool.not_eq_true', Bool.not_eq_false', Decidable.not_not, Int.not_lt, Int.not_le, Bool.or_eq_true, Bool.and_eq_true, Bool.or_eq_false_iff, Bool.and_eq_false_iff] at hb7
    refine C_skip (X_then (C_seq (C_region (RL_q rfl (Yd_move rfl) (RL_l rfl (Ld_call Try.func24 rfl (by kernel_rfl) rfl (GoodV h_b (by omega)) ?_))))))
    rintro e W1 ⟨_, rfl, rfl, he1⟩
    refine ⟨_, rfl, ?_⟩
    replace hE := Ext.trans hE he1
    replace h_b := h_b.ext he1
    have hs1 := he1.size
    refine RL_q rfl (Yd_assign rfl) (RL_nil (X_then (C_seq (C_seq (C_region (RL_q rfl (Yd_move rfl) (RL_q rfl (Yd_not rfl) (RL_nil (X_then (?_))))))))))
    refine C_cond rfl (fun hb11 => ?_) (fun hb11 => ?_)
    · skip
      try simp only [decide_eq_true_eq, decide_eq_false_iff_not, Bool.not_eq_true', Bool.not_eq_false', Decidable.not_not, Int.not_lt, Int.not_le, Bool.or_eq_true, Bool.and_eq_true, Bool.or_eq_false_iff, Bool.and_eq_false_iff] at hb11
      refine C_seq (C_region (RL_q rfl (Yd_assign rfl) (RL_q rfl (Yd_assign rfl) (RL_nil (X_then (C_ret (X_thenR (X_ret2 rfl rfl rfl ?_))))))))
      refine ⟨_, _, _, _, rfl, Vw.none_.cast ?_, ?_, hE⟩
      all_goals (first | exact (openL_no (by omega)).1.symm | exact (openL_no (by omega)).2.symm | exact (openL_bad (by omega) (by assumption)).1.symm | exact (openL_bad (by omega) (by assumption)).2.symm | exact (openL_good (by omega) (by assumption)).1.symm | exact (openL_good (by omega) (by assumption)).2.symm)
    · skip
      try simp only [decide_eq_true_eq, decide_eq_false_iff_not, Bool.not_eq_true', Bool.not_eq_false', Decidable.not_not, Int.not_lt, Int.not_le, Bool.or_eq_true, Bool.and_eq_true, Bool.or_eq_false_iff, Bool.and_eq_false_iff] at hb11
      refine C_skip (X_then (C_seq (C_region (RL_q rfl (Yd_move rfl) (RL_q rfl (Yd_sliceH Try.underlying22 (sz := 1) (by kernel_rfl) rfl rfl (by omega) (by omega)) (RL_q rfl (Yd_assign rfl) (RL_q rfl (Yd_assign rfl) (RL_nil (X_then (C_ret (X_ret2 rfl rfl rfl ?_)))))))))))
      refine ⟨_, _, _, _, rfl, ((Vw.take h_b (by omega)).fit.more (by omega) (Nat.le_refl _)).cast ?_, ?_, hE⟩
      all_goals (first | exact (openL_no (by omega)).1.symm | exact (openL_no (by omega)).2.symm | exact (openL_bad (by omega) (by assumption)).1.symm | exact (openL_bad (by omega) (by assumption)).2.symm | exact (openL_good (by omega) (by assumption)).1.symm | exact (openL_good (by omega) (by assumption)).2.symm)
theorem SplitBad {lo_b B_b : Nat} {A_b : Option Addr} {n_b c_b : Nat} {b : List Int} {w : World}  (h_b : Vw tU8 w lo_b B_b A_b n_b c_b b) (h32 : n_b ≠ 32) :
    Calls Try.prog 31 #[.slice A_b n_b c_b] w fun e w' => e = .returned (.tuple #[.slice none 0 0, .int .i64 2]) ∧ Ext w w' := by
  have hE := Ext.refl w
  replace h_b := h_b.fit
  have hn_b := h_b.ln
  have hc_b := h_b.cap
  have hm_b := h_b.max
  simp only [maxLen] at hm_b
  refine calls_of (l := [.slice A_b n_b c_b]) (N := 25) Try.func31 rfl rfl rfl ?_
  refine C_seq (C_region (RL_q rfl (Yd_assign rfl) (RL_q rfl (Yd_assign rfl) (RL_nil (X_then (C_seq (C_seq (C_region (RL_q rfl (Yd_move rfl) (RL_q rfl (Yd_len Try.underlying22 rfl) (RL_q rfl (Yd_neq rfl rfl) (RL_nil (X_then (?_))))))))))))))
  refine C_yes rfl (by simp; omega) (C_seq (C_region (RL_q rfl (Yd_assign rfl) (RL_q rfl (Yd_assign rfl) (RL_nil (X_then (C_ret (X_thenR (X_ret2 rfl rfl rfl ?_)))))))))
  exact ⟨rfl, hE⟩
theorem SplitOk {lo_b B_b : Nat} {A_b : Option Addr} {n_b c_b : Nat} {b : List Int} {w : World}  (h_b : Vw tU8 w lo_b B_b A_b n_b c_b b) (h32 : n_b = 32) :
    Calls Try.prog 31 #[.slice A_b n_b c_b] w fun e w' => ∃ (A : Option Addr) (c : Nat) (A1 A2 : Option Addr) (c1 c2 m : Nat), e = .returned (.tuple #[.slice A 2 c, .int .i64 0]) ∧ (w.heap.size ≤ m ∧ m ≤ w'.heap.size) ∧ Ow tU8 5 w' w.heap.size m A1 16 c1 (b.take 16) ∧ Ow tU8 5 w' m w'.heap.size A2 16 c2 (b.drop 16) ∧ Ow tSl 22 w' m w'.heap.size A 2 c [⟨A1, 16, c1⟩, ⟨A2, 16, c2⟩] ∧ Ext w w' := by
  have hE := Ext.refl w
  replace h_b := h_b.fit
  have hn_b := h_b.ln
  have hc_b := h_b.cap
  have hm_b := h_b.max
  simp only [maxLen] at hm_b
  refine calls_of (l := [.slice A_b n_b c_b]) (N := 25) Try.func31 rfl rfl rfl ?_
  refine C_seq (C_region (RL_q rfl (Yd_assign rfl) (RL_q rfl (Yd_assign rfl) (RL_nil (X_then (C_seq (C_seq (C_region (RL_q rfl (Yd_move rfl) (RL_q rfl (Yd_len Try.underlying22 rfl) (RL_q rfl (Yd_neq rfl rfl) (RL_nil (X_then (?_))))))))))))))
  refine C_no rfl (by simp; omega) (C_skip (X_then (C_seq (C_region (RL_q rfl (Yd_assign rfl) (RL_nil (X_then (C_seq (C_seq (C_region (RL_q rfl (Yd_move rfl) (RL_nil (X_then (C_block (C_rounds 3 (CR_succ (C_seq (C_region (RL_q rfl (Yd_lss rfl rfl) (RL_nil (X_then (C_seq (C_yes rfl rfl (C_skip (X_then (C_seq (C_block (C_seq (C_region (RL_q rfl (Yd_move rfl) (RL_q rfl (Yd_assign rfl) (RL_nil (X_then (C_region (RL_q rfl (Yd_move rfl) (RL_q rfl (Yd_move rfl) (RL_q rfl (Yd_move rfl) (RL_q rfl (Yd_mul (r := 0) rfl rfl rfl) (RL_q rfl (Yd_move rfl) (RL_q rfl (Yd_add (r := 1) rfl rfl rfl) (RL_q rfl (Yd_mul (r := 16) rfl rfl rfl) (RL_q rfl (Yd_sliceLH Try.underlying22 (sz := 1) (by kernel_rfl) rfl rfl rfl (by omega) (by omega) (by omega)) (RL_l rfl (Ld_call Try.func41 rfl (by kernel_rfl) rfl (ownV (Vw.cut h_b (by omega) (by omega)) (by omega)) ?_))))))))))))))))))))))))))))))))))))))))))))
  rintro e W1 ⟨A20, n20, c20, rfl, hF20, he1⟩
  refine ⟨_, rfl, ?_⟩
  replace hE := Ext.trans hE he1
  replace h_b := h_b.ext he1
  have hs1 := he1.size
  have hn20 := hF20.ln
  try simp only [List.length_append, List.length_cons, List.length_nil, List.length_set, List.length_take, List.length_drop, List.length_replicate, Nat.zero_add, Nat.add_zero, le_len] at hn20
  have hc20 := hF20.cap
  refine RL_l rfl (Ld_lit Try.underlying37 rfl (lit_flat Try.underlying37 Try.elt22 rfl rfl ⟨rfl, by decide⟩) ?_)
  intro W2 he2 hz2 hL21
  replace hE := Ext.trans hE he2
  replace h_b := h_b.ext he2
  replace hF20 := hF20.ext he2
  have hO21 := Ow.of_blk (T := tSl) (l := [⟨A20, n20, c20⟩]) hL21 rfl (n := 1) rfl (by simp [maxLen]) (okc trivial okn)
  have hV21 := Vws.ofs (T := tU8) (N := 400) (hs := [⟨A20, n20, c20⟩]) (Vws.cons (hF20.vw.fit.more (Nat.zero_le _) (Nat.le_refl _)) (by omega) Vws.nil)
  clear hL21
  refine RL_l rfl (Ld_apO (T := tSl) Try.underlying37 Try.elt22 rfl rfl rfl (Ow.nil (lo := W2.heap.size) (B := W2.heap.size)) hO21.vw (by simp only [maxLen]; omega) (by omega) (by omega) ?_)
  intro A22 c22 W3 hO22 hk3
  have he3 : Ext W2 W3 := Ext.kp (Ext.refl _) hk3 (fun k hk => by first | omega | (have hk := hk; dsimp only at hk; omega))
  replace hE := Ext.trans hE he3
  replace h_b := h_b.ext he3
  replace hF20 := hF20.ext he3
  replace hO21 := hO21.ext he3
  try replace hV21 := hV21.ext he3
  have hs3 := he3.size
  have hn22 := hO22.ln
  try simp only [List.length_append, List.length_cons, List.length_nil, List.length_set, List.length_take, List.length_drop, List.length_replicate, Nat.zero_add, Nat.add_zero, le_len] at hn22
  have hc22 := hO22.cap
  refine RL_q rfl (Yd_assign rfl) (RL_nil (X_block (X_then (C_region (RL_q rfl (Yd_add (r := 1) rfl rfl rfl) (RL_q rfl (Yd_move rfl) (RL_nil (X_round (CR_sub (E' := [(0, .slice A_b n_b c_b), (2, .slice none 0 0), (3, .int .i64 0), (4, .slice A22 (0 + 1) c22), (9, .int .i64 1)]) ⟨rfl, rfl, rfl, rfl, rfl, trivial⟩ (CR_succ (C_seq (C_region (RL_q rfl (Yd_lss rfl rfl) (RL_nil (X_then (C_seq (C_yes rfl rfl (C_skip (X_then (C_seq (C_block (C_seq (C_region (RL_q rfl (Yd_move rfl) (RL_q rfl (Yd_assign rfl) (RL_nil (X_then (C_region (RL_q rfl (Yd_move rfl) (RL_q rfl (Yd_move rfl) (RL_q rfl (Yd_move rfl) (RL_q rfl (Yd_mul (r := 16) rfl rfl rfl) (RL_q rfl (Yd_move rfl) (RL_q rfl (Yd_add (r := 2) rfl rfl rfl) (RL_q rfl (Yd_mul (r := 32) rfl rfl rfl) (RL_q rfl (Yd_sliceLH Try.underlying22 (sz := 1) (by kernel_rfl) rfl rfl rfl (by omega) (by omega) (by omega)) (RL_l rfl (Ld_call Try.func41 rfl (by kernel_rfl) rfl (ownV (Vw.cut h_b (by omega) (by omega)) (by omega)) ?_))))))))))))))))))))))))))))))))))))))
  rintro e W4 ⟨A1020, n1020, c1020, rfl, hF1020, he4⟩
  refine ⟨_, rfl, ?_⟩
  replace hE := Ext.trans hE he4
  replace h_b := h_b.ext he4
  replace hF20 := hF20.ext he4
  replace hO21 := hO21.ext he4
  try replace hV21 := hV21.ext he4
  replace hO22 := hO22.ext he4
  have hs4 := he4.size
  have hn1020 := hF1020.ln
  try simp only [List.length_append, List.length_cons, List.length_nil, List.length_set, List.length_take, List.length_drop, List.length_replicate, Nat.zero_add, Nat.add_zero, le_len] at hn1020
  have hc1020 := hF1020.cap
  refine RL_l rfl (Ld_lit Try.underlying37 rfl (lit_flat Try.underlying37 Try.elt22 rfl rfl ⟨rfl, by decide⟩) ?_)
  intro W5 he5 hz5 hL1021
  replace hE := Ext.trans hE he5
  replace h_b := h_b.ext he5
  replace hF20 := hF20.ext he5
  replace hO21 := hO21.ext he5
  try replace hV21 := hV21.ext he5
  replace hO22 := hO22.ext he5
  replace hF1020 := hF1020.ext he5
  have hO1021 := Ow.of_blk (T := tSl) (l := [⟨A1020, n1020, c1020⟩]) hL1021 rfl (n := 1) rfl (by simp [maxLen]) (okc trivial okn)
  have hV1021 := Vws.ofs (T := tU8) (N := 400) (hs := [⟨A1020, n1020, c1020⟩]) (Vws.cons (hF1020.vw.fit.more (Nat.zero_le _) (Nat.le_refl _)) (by omega) Vws.nil)
  clear hL1021
  refine RL_l rfl (Ld_apO (T := tSl) Try.underlying37 Try.elt22 rfl rfl rfl hO22 hO1021.vw (by simp only [maxLen]; omega) (by omega) (by omega) ?_)
  intro A1022 c1022 W6 hO1022 hk6
  have hs6 := hk6.size
  replace hE := Ext.kp hE hk6 (fun k hk => by first | omega | (have hk := hk; dsimp only at hk; omega))
  replace h_b := h_b.kp hk6 (fun k hk => by first | omega | (have hk := hk; dsimp only at hk; omega))
  replace hF20 := hF20.kp hk6 (fun k hk => by first | omega | (have hk := hk; dsimp only at hk; omega))
  replace hO21 := hO21.kp hk6 (fun k hk => by first | omega | (have hk := hk; dsimp only at hk; omega))
  try replace hV21 := hV21.kp hk6 (fun k hk => by first | omega | (have hk := hk; dsimp only at hk; omega))
  replace hF1020 := hF1020.kp hk6 (fun k hk => by first | omega | (have hk := hk; dsimp only at hk; omega))
  replace hO1021 := hO1021.kp hk6 (fun k hk => by first | omega | (have hk := hk; dsimp only at hk; omega))
  try replace hV1021 := hV1021.kp hk6 (fun k hk => by first | omega | (have hk := hk; dsimp only at hk; omega))
  have hn1022 := hO1022.ln
  try simp only [List.length_append, List.length_cons, List.length_nil, List.length_set, List.length_take, List.length_drop, List.length_replicate, Nat.zero_add, Nat.add_zero, le_len] at hn1022
  have hc1022 := hO1022.cap
  refine RL_q rfl (Yd_assign rfl) (RL_nil (X_block (X_then (C_region (RL_q rfl (Yd_add (r := 2) rfl rfl rfl) (RL_q rfl (Yd_move rfl) (RL_nil (X_round (CR_sub (E' := [(0, .slice A_b n_b c_b), (2, .slice none 0 0), (3, .int .i64 0), (4, .slice A1022 ((0 + 1) + 1) c1022), (9, .int .i64 2)]) ⟨rfl, rfl, rfl, rfl, rfl, trivial⟩ (CR_succ (C_seq (C_region (RL_q rfl (Yd_lss rfl rfl) (RL_nil (X_then (C_seq (C_no rfl rfl (C_exit (X_thenE (X_thenE (X_blockE (X_then (C_seq (C_region (RL_q rfl (Yd_move rfl) (RL_q rfl (Yd_assign rfl) (RL_q rfl (Yd_assign rfl) (RL_nil (X_then (C_ret (X_ret2 rfl rfl rfl ?_)))))))))))))))))))))))))))))))
  obtain rfl : n20 = 16 := by omega
  obtain rfl : n1020 = 16 := by omega
  refine ⟨_, _, _, _, _, _, W1.heap.size, rfl, ⟨by omega, by omega⟩, hF20.cast ?_, (hF1020.fit.more (by omega) (Nat.le_refl _)).cast ?_, hO1022.fit.more (by omega) (Nat.le_refl _), hE⟩
  · simp
  · exact List.take_of_length_le (by rw [List.length_drop]; omega)

def joinL (a b : List Int) : List Int := if a.length = 16 ∧ b.length = 16 then a ++ b else []
def joinE (n m : Nat) : Int := if n = 16 ∧ m = 16 then 0 else 2
theorem joinL_ok {a b : List Int} (h1 : a.length = 16) (h2 : b.length = 16) : joinL a b = a ++ b := by unfold joinL; rw [if_pos ⟨h1, h2⟩]
theorem joinL_no {a b : List Int} (h : a.length ≠ 16 ∨ b.length ≠ 16) : joinL a b = [] := by unfold joinL; rw [if_neg (by omega)]
theorem JoinV {lo_s B_s lo_1 B_1 lo_2 B_2 : Nat} {A_s A_1 A_2 : Option Addr} {c_s n_1 c_1 n_2 c_2 : Nat} {l1 l2 : List Int} {w : World}  (h_s : Vw tSl w lo_s B_s A_s 2 c_s [⟨A_1, n_1, c_1⟩, ⟨A_2, n_2, c_2⟩]) (h_1 : Vw tU8 w lo_1 B_1 A_1 n_1 c_1 l1) (h_2 : Vw tU8 w lo_2 B_2 A_2 n_2 c_2 l2) :
    Calls Try.prog 32 #[.slice A_s 2 c_s] w fun e w' => ∃ (A0 : Option Addr) (n0 c0 : Nat) (x1 : Int), e = .returned (.tuple #[.slice A0 n0 c0, .int .i64 x1]) ∧ Ow tU8 5 w' w.heap.size w'.heap.size A0 n0 c0 (joinL l1 l2) ∧ x1 = (joinE n_1 n_2) ∧ Ext w w' := by
  have hE := Ext.refl w
  replace h_s := h_s.fit
  replace h_1 := h_1.fit
  replace h_2 := h_2.fit
  have hl1 := h_1.ln
  have hl2 := h_2.ln
  have hc1 := h_1.cap
  have hc2 := h_2.cap
  refine calls_of (l := [.slice A_s 2 c_s]) (N := 24) Try.func32 rfl rfl rfl ?_
  refine C_seq (C_region (RL_q rfl (Yd_assign rfl) (RL_q rfl (Yd_assign rfl) (RL_nil (X_then (C_seq (C_seq (C_region (RL_q rfl (Yd_move rfl) (RL_q rfl (Yd_len Try.underlying37 rfl) (RL_q rfl (Yd_neq rfl rfl) (RL_nil (X_then (C_no rfl rfl (C_skip (X_then (C_seq (C_region (RL_q rfl (Yd_assign rfl) (RL_nil (X_then (C_seq (C_seq (C_region (RL_q rfl (Yd_move rfl) (RL_q rfl (Yd_len Try.underlying37 rfl) (RL_q rfl (Yd_move rfl) (RL_nil (X_then (C_block (C_rounds 3 (CR_succ (C_seq (C_region (RL_q rfl (Yd_lss rfl rfl) (RL_nil (X_then (C_seq (C_yes rfl rfl (C_skip (X_then (C_seq (C_block (C_seq (C_region (?_))))))))))))))))))))))))))))))))))))))))))))))
  obtain ⟨adA_s, rfl, hghA_s, hglA_s⟩ := Vw.at_ (i := 0) h_s (by omega)
  refine RL_q rfl (Yd_idx Try.underlying37 (sz := 1) (by kernel_rfl) rfl rfl (by omega) (by omega)) (RL_q rfl (Yd_load (v := .slice A_1 n_1 c_1) Try.underlying22 rfl rfl (Vw.lq1 h_s (i := 0) (a := ⟨A_1, n_1, c_1⟩) rfl rfl rfl)) (RL_q rfl (Yd_assign rfl) (RL_nil (X_then (C_seq (C_seq (C_region (RL_q rfl (Yd_move rfl) (RL_q rfl (Yd_len Try.underlying22 rfl) (RL_q rfl (Yd_neq rfl rfl) (RL_nil (X_then (?_)))))))))))))
  refine C_cond rfl (fun hb18 => ?_) (fun hb18 => ?_)
  · skip
    try simp only [decide_eq_true_eq, decide_eq_false_iff_not, Bool.not_eq_true', Bool.not_eq_false', Decidable.not_not, Int.not_lt, Int.not_le, Bool.or_eq_true, Bool.and_eq_true, Bool.or_eq_false_iff, Bool.and_eq_false_iff] at hb18
    refine C_seq (C_region (RL_q rfl (Yd_assign rfl) (RL_q rfl (Yd_assign rfl) (RL_nil (X_then (C_ret (X_thenR (X_blockR (X_thenR (X_thenR (X_blockR (X_thenR (X_ret2 rfl rfl rfl ?_)))))))))))))
    refine ⟨_, _, _, _, rfl, Ow.nil.cast ?_, ?_, hE⟩
    all_goals (first | (unfold joinE; (split <;> omega)) | exact (joinL_no (by omega)).symm | exact (joinL_ok (a := l1) (b := l2) (by omega) (by omega)).symm)
  · skip
    try simp only [decide_eq_true_eq, decide_eq_false_iff_not, Bool.not_eq_true', Bool.not_eq_false', Decidable.not_not, Int.not_lt, Int.not_le, Bool.or_eq_true, Bool.and_eq_true, Bool.or_eq_false_iff, Bool.and_eq_false_iff] at hb18
    refine C_skip (X_then (C_region (RL_q rfl (Yd_move rfl) (RL_q rfl (Yd_move rfl) (RL_l rfl (Ld_apO (T := tU8) Try.underlying22 Try.elt5 rfl rfl rfl (Ow.nil (lo := w.heap.size) (B := w.heap.size)) h_1 (by simp only [maxLen]; omega) (by omega) (by omega) ?_))))))
    intro A21 c21 W1 hO21 hk1
    have he1 : Ext w W1 := Ext.kp (Ext.refl _) hk1 (fun k hk => by first | omega | (have hk := hk; dsimp only at hk; omega))
    replace hE := Ext.trans hE he1
    replace h_s := h_s.ext he1
    replace h_1 := h_1.ext he1
    replace h_2 := h_2.ext he1
    have hs1 := he1.size
    have hn21 := hO21.ln
    try simp only [List.length_append, List.length_cons, List.length_nil, List.length_set, List.length_take, List.length_drop, List.length_replicate, Nat.zero_add, Nat.add_zero, le_len] at hn21
    have hc21 := hO21.cap
    refine RL_q rfl (Yd_assign rfl) (RL_nil (X_block (X_then (C_region (RL_q rfl (Yd_add (r := 1) rfl rfl rfl) (RL_q rfl (Yd_move rfl) (RL_nil (X_round (CR_sub (E' := [(4, .slice A21 (0 + n_1) c21), (10, .slice (some adA_s) 2 c_s), (11, .int .i64 2), (12, .int .i64 1)]) ⟨rfl, rfl, rfl, rfl, trivial⟩ (CR_succ (C_seq (C_region (RL_q rfl (Yd_lss rfl rfl) (RL_nil (X_then (C_seq (C_yes rfl rfl (C_skip (X_then (C_seq (C_block (C_seq (C_region (RL_q rfl (Yd_idx Try.underlying37 (sz := 1) (by kernel_rfl) rfl rfl (by omega) (by omega)) (RL_q rfl (Yd_load (v := .slice A_2 n_2 c_2) Try.underlying22 rfl rfl (Vw.lq1 h_s (i := 1) (a := ⟨A_2, n_2, c_2⟩) rfl rfl rfl)) (RL_q rfl (Yd_assign rfl) (RL_nil (X_then (C_seq (C_seq (C_region (RL_q rfl (Yd_move rfl) (RL_q rfl (Yd_len Try.underlying22 rfl) (RL_q rfl (Yd_neq rfl rfl) (RL_nil (X_then (?_)))))))))))))))))))))))))))))))))))))
    refine C_cond rfl (fun hb18 => ?_) (fun hb18 => ?_)
    · skip
      try simp only [decide_eq_true_eq, decide_eq_false_iff_not, Bool.not_eq_true', Bool.not_eq_false', Decidable.not_not, Int.not_lt, Int.not_le, Bool.or_eq_true, Bool.and_eq_true, Bool.or_eq_false_iff, Bool.and_eq_false_iff] at hb18
      refine C_seq (C_region (RL_q rfl (Yd_assign rfl) (RL_q rfl (Yd_assign rfl) (RL_nil (X_then (C_ret (X_thenR (X_blockR (X_thenR (X_thenR (X_blockR (X_thenR (X_ret2 rfl rfl rfl ?_)))))))))))))
      refine ⟨_, _, _, _, rfl, Ow.nil.cast ?_, ?_, hE⟩
      all_goals (first | (unfold joinE; (split <;> omega)) | exact (joinL_no (by omega)).symm | exact (joinL_ok (a := l1) (b := l2) (by omega) (by omega)).symm)
    · skip
      try simp only [decide_eq_true_eq, decide_eq_false_iff_not, Bool.not_eq_true', Bool.not_eq_false', Decidable.not_not, Int.not_lt, Int.not_le, Bool.or_eq_true, Bool.and_eq_true, Bool.or_eq_false_iff, Bool.and_eq_false_iff] at hb18
      refine C_skip (X_then (C_region (RL_q rfl (Yd_move rfl) (RL_q rfl (Yd_move rfl) (RL_l rfl (Ld_apO (T := tU8) Try.underlying22 Try.elt5 rfl rfl rfl hO21 h_2 (by simp only [maxLen]; omega) (by omega) (by omega) ?_))))))
      intro A1021 c1021 W2 hO1021 hk2
      have hs2 := hk2.size
      replace hE := Ext.kp hE hk2 (fun k hk => by first | omega | (have hk := hk; dsimp only at hk; omega))
      replace h_s := h_s.kp hk2 (fun k hk => by first | omega | (have hk := hk; dsimp only at hk; omega))
      replace h_1 := h_1.kp hk2 (fun k hk => by first | omega | (have hk := hk; dsimp only at hk; omega))
      replace h_2 := h_2.kp hk2 (fun k hk => by first | omega | (have hk := hk; dsimp only at hk; omega))
      have hn1021 := hO1021.ln
      try simp only [List.length_append, List.length_cons, List.length_nil, List.length_set, List.length_take, List.length_drop, List.length_replicate, Nat.zero_add, Nat.add_zero, le_len] at hn1021
      have hc1021 := hO1021.cap
      refine RL_q rfl (Yd_assign rfl) (RL_nil (X_block (X_then (C_region (RL_q rfl (Yd_add (r := 2) rfl rfl rfl) (RL_q rfl (Yd_move rfl) (RL_nil (X_round (CR_sub (E' := [(4, .slice A1021 ((0 + n_1) + n_2) c1021), (10, .slice (some adA_s) 2 c_s), (11, .int .i64 2), (12, .int .i64 2)]) ⟨rfl, rfl, rfl, rfl, trivial⟩ (CR_succ (C_seq (C_region (RL_q rfl (Yd_lss rfl rfl) (RL_nil (X_then (C_seq (C_no rfl rfl (C_exit (X_thenE (X_thenE (X_blockE (X_then (C_seq (C_region (RL_q rfl (Yd_move rfl) (RL_q rfl (Yd_assign rfl) (RL_q rfl (Yd_assign rfl) (RL_nil (X_then (C_ret (X_ret2 rfl rfl rfl ?_)))))))))))))))))))))))))))))))
      refine ⟨_, _, _, _, rfl, (hO1021.fit.more (by omega) (Nat.le_refl _)).cast ?_, ?_, hE⟩
      all_goals (first | (unfold joinE; (split <;> omega)) | exact (joinL_no (by omega)).symm | exact (joinL_ok (a := l1) (b := l2) (by omega) (by omega)).symm)
theorem JoinBad {A_s : Option Addr} {n_s c_s : Nat} {w : World}  (h2 : n_s ≠ 2) :
    Calls Try.prog 32 #[.slice A_s n_s c_s] w fun e w' => e = .returned (.tuple #[.slice none 0 0, .int .i64 2]) ∧ Ext w w' := by
  have hE := Ext.refl w
  refine calls_of (l := [.slice A_s n_s c_s]) (N := 24) Try.func32 rfl rfl rfl ?_
  refine C_seq (C_region (RL_q rfl (Yd_assign rfl) (RL_q rfl (Yd_assign rfl) (RL_nil (X_then (C_seq (C_seq (C_region (RL_q rfl (Yd_move rfl) (RL_q rfl (Yd_len Try.underlying37 rfl) (RL_q rfl (Yd_neq rfl rfl) (RL_nil (X_then (?_))))))))))))))
  refine C_yes rfl (by simp; omega) (C_seq (C_region (RL_q rfl (Yd_assign rfl) (RL_q rfl (Yd_assign rfl) (RL_nil (X_then (C_ret (X_thenR (X_ret2 rfl rfl rfl ?_)))))))))
  exact ⟨rfl, hE⟩
theorem lives08V  {w : World}   :
    Calls Try.prog 30 #[] w fun e w' => ∃ (x0 : Bool), e = .returned (.bool x0) ∧ x0 = (true) ∧ Ext w w' := by
  have hE := Ext.refl w
  refine calls_of (l := []) (N := 55) Try.func30 rfl rfl rfl ?_
  refine C_seq (C_region (RL_q rfl (Yd_assign rfl) (RL_nil (X_then (C_seq (C_region (RL_l rfl (Ld_mk Try.underlying22 Try.elt5 rfl rfl rfl (n := 32) (by omega) (by omega) (T := tU8) (a := 0) rfl (by omega) (by simp only [maxLen]; omega) ⟨by decide, by decide⟩ ?_))))))))
  intro W1 hO6 he1
  replace hE := Ext.trans hE he1
  have hs1 := he1.size
  have hn6 := hO6.ln
  refine RL_l rfl (Ld_lit Try.underlying22 rfl (lit_flat Try.underlying22 Try.elt5 rfl rfl ⟨rfl, by decide⟩) ?_)
  intro W2 he2 hz2 hL7
  replace hE := Ext.trans hE he2
  replace hO6 := hO6.ext he2
  have hO7 := Ow.of_blk (T := tU8) (l := [7, 8]) hL7 rfl (n := 2) rfl (by simp [maxLen]) (okc ⟨by omega, by omega⟩ (okc ⟨by omega, by omega⟩ okn))
  clear hL7
  refine RL_l rfl (Ld_call Try.func28 rfl (by kernel_rfl) rfl (cPutV hO6.vw ⟨by first | omega | (dsimp only; omega), by first | omega | (dsimp only; omega)⟩ hO7.vw) ?_)
  rintro e W3 ⟨A8_0, n8_0, c8_0, y8_1, rfl, hF8_0, hy8_1, he3⟩
  refine ⟨_, rfl, ?_⟩
  replace hE := Ext.trans hE he3
  replace hO6 := hO6.ext he3
  replace hO7 := hO7.ext he3
  have hs3 := he3.size
  have hn8_0 := hF8_0.ln
  try simp only [List.length_append, List.length_cons, List.length_nil, List.length_set, List.length_take, List.length_drop, List.length_replicate, Nat.zero_add, Nat.add_zero, le_len] at hn8_0
  have hc8_0 := hF8_0.cap
  have e8 : (pPut (List.replicate 32 0) 15 [7, 8]).length = 32 := by decide
  refine RL_q rfl (Yd_move rfl) (RL_q rfl (Yd_extract rfl rfl) (RL_q rfl (Yd_extract rfl rfl) (RL_q rfl (Yd_assign rfl) (RL_q rfl (Yd_assign rfl) (RL_nil (X_then (C_seq (C_region (RL_q rfl (Yd_move rfl) (RL_l rfl (Ld_call Try.func31 rfl (by kernel_rfl) rfl (SplitOk hF8_0.vw (by omega)) ?_)))))))))))
  rintro e W4 ⟨AS13, cS13, A1_13, A2_13, c1_13, c2_13, m13, rfl, hm13, hA13, hB_13, hS13, he4⟩
  refine ⟨_, rfl, ?_⟩
  replace hE := Ext.trans hE he4
  replace hO6 := hO6.ext he4
  replace hO7 := hO7.ext he4
  replace hF8_0 := hF8_0.ext he4
  have hs4 := he4.size
  have hcS13 := hS13.cap
  have hln1_13 := hA13.ln
  have hln2_13 := hB_13.ln
  have hcp1_13 := hA13.cap
  have hcp2_13 := hB_13.cap
  refine RL_q rfl (Yd_move rfl) (RL_q rfl (Yd_extract rfl rfl) (RL_q rfl (Yd_extract rfl rfl) (RL_q rfl (Yd_assign rfl) (RL_q rfl (Yd_assign rfl) (RL_nil (X_then (C_seq (C_seq (C_region (RL_q rfl (Yd_move rfl) (RL_q rfl (Yd_neq rfl rfl) (RL_q rfl (Yd_move rfl) (?_)))))))))))))
  apply RL_or (dj := 18) 21 3 rfl
  · intro hb18
    try simp only [decide_eq_true_eq, decide_eq_false_iff_not, Bool.not_eq_true', Bool.not_eq_false', Decidable.not_not, Int.not_lt, Int.not_le, Bool.or_eq_true, Bool.and_eq_true, Bool.or_eq_false_iff, Bool.and_eq_false_iff] at hb18
    refine QL_gq rfl rfl rfl (Yd_move rfl) (QL_gq rfl rfl rfl (Yd_neq rfl rfl) (QL_q rfl (Yd_pickF rfl rfl) ((QL_nil 3 rfl rfl rfl))))
  · intro hb18
    try simp only [decide_eq_true_eq, decide_eq_false_iff_not, Bool.not_eq_true', Bool.not_eq_false', Decidable.not_not, Int.not_lt, Int.not_le, Bool.or_eq_true, Bool.and_eq_true, Bool.or_eq_false_iff, Bool.and_eq_false_iff] at hb18
    refine QL_gn rfl rfl rfl rfl (QL_gn rfl rfl rfl rfl (QL_q rfl (Yd_pickT rfl rfl) ((QL_nil 3 rfl rfl rfl))))
  · skip
    refine RL_q rfl (Yd_move rfl) (?_)
    apply RL_or (dj := 22) 26 4 rfl
    · intro hb22
      try simp only [decide_eq_true_eq, decide_eq_false_iff_not, Bool.not_eq_true', Bool.not_eq_false', Decidable.not_not, Int.not_lt, Int.not_le, Bool.or_eq_true, Bool.and_eq_true, Bool.or_eq_false_iff, Bool.and_eq_false_iff] at hb22
      refine QL_gq rfl rfl rfl (Yd_move rfl) (QL_gq rfl rfl rfl (Yd_len Try.underlying37 rfl) (QL_gq rfl rfl rfl (Yd_neq rfl rfl) (QL_q rfl (Yd_pickF rfl rfl) ((QL_nil 4 rfl rfl rfl)))))
    · intro hb22
      try simp only [decide_eq_true_eq, decide_eq_false_iff_not, Bool.not_eq_true', Bool.not_eq_false', Decidable.not_not, Int.not_lt, Int.not_le, Bool.or_eq_true, Bool.and_eq_true, Bool.or_eq_false_iff, Bool.and_eq_false_iff] at hb22
      refine QL_gn rfl rfl rfl rfl (QL_gn rfl rfl rfl rfl (QL_gn rfl rfl rfl rfl (QL_q rfl (Yd_pickT rfl rfl) ((QL_nil 4 rfl rfl rfl)))))
    · skip
      refine RL_nil (X_then (?_))
      refine C_no rfl (by rw [hy8_1]; rfl) (C_skip (X_then (C_seq (C_region (RL_q rfl (Yd_move rfl) (?_))))))
      obtain ⟨gAS13, rfl, hglAS13, hghAS13⟩ := Ow.at_ (i := 0) hS13 (by omega)
      refine RL_q rfl (Yd_idxL Try.underlying37 (sz := 1) (by kernel_rfl) rfl rfl (by omega) (by omega)) (RL_q rfl (Yd_load (v := .slice A1_13 16 c1_13) Try.underlying22 rfl rfl (Vw.lq1L hS13.vw (i := 0) (a := ⟨A1_13, 16, c1_13⟩) rfl rfl rfl)) (RL_q rfl (Yd_len Try.underlying22 rfl) (RL_q rfl (Yd_eql rfl rfl) (RL_q rfl (Yd_move rfl) (RL_gq rfl rfl rfl (Yd_move rfl) (RL_gq rfl rfl rfl (Yd_idxL Try.underlying37 (sz := 1) (by kernel_rfl) rfl rfl (by omega) (by omega)) (RL_gq rfl rfl rfl (Yd_load (v := .slice A2_13 16 c2_13) Try.underlying22 rfl rfl (Vw.lq1L hS13.vw (i := 1) (a := ⟨A2_13, 16, c2_13⟩) rfl rfl rfl)) (RL_gq rfl rfl rfl (Yd_len Try.underlying22 rfl) (RL_gq rfl rfl rfl (Yd_eql rfl rfl) (RL_q rfl (Yd_pickT rfl rfl) (RL_q rfl (Yd_move rfl) (RL_gq rfl rfl rfl (Yd_move rfl) (RL_gq rfl rfl rfl (Yd_idxL Try.underlying37 (sz := 1) (by kernel_rfl) rfl rfl (by omega) (by omega)) (RL_gq rfl rfl rfl (Yd_load (v := .slice A1_13 16 c1_13) Try.underlying22 rfl rfl (Vw.lq1L hS13.vw (i := 0) (a := ⟨A1_13, 16, c1_13⟩) rfl rfl rfl)) (RL_gq rfl rfl rfl (Yd_sliceL Try.underlying22 (sz := 1) (by kernel_rfl) rfl rfl (by omega) (by omega)) (RL_gq rfl rfl rfl (Yd_str Try.underlying22 Try.underlying5 Try.underlying9 rfl (fun W hW => Rd.ext ((Vw.drop hA13.vw (by omega))).u8 hW)) (RL_gq rfl rfl rfl (Yd_eqlSB (b := [7]) rfl rfl (Vw.drop hA13.vw (by omega)).byt (by decide)) (RL_q rfl (Yd_pickT rfl rfl) (RL_q rfl (Yd_move rfl) (?_))))))))))))))))))))
      apply RL_and (dj := 47) 54 7 rfl
      · intro hb47
        try simp only [decide_eq_true_eq, decide_eq_false_iff_not, Bool.not_eq_true', Bool.not_eq_false', Decidable.not_not, Int.not_lt, Int.not_le, Bool.or_eq_true, Bool.and_eq_true, Bool.or_eq_false_iff, Bool.and_eq_false_iff] at hb47
        refine QL_gq rfl rfl rfl (Yd_move rfl) (QL_gq rfl rfl rfl (Yd_idxL Try.underlying37 (sz := 1) (by kernel_rfl) rfl rfl (by omega) (by omega)) (QL_gq rfl rfl rfl (Yd_load (v := .slice A2_13 16 c2_13) Try.underlying22 rfl rfl (Vw.lq1L hS13.vw (i := 1) (a := ⟨A2_13, 16, c2_13⟩) rfl rfl rfl)) (QL_gq rfl rfl rfl (Yd_sliceH Try.underlying22 (sz := 1) (by kernel_rfl) rfl rfl (by omega) (by omega)) (QL_gq rfl rfl rfl (Yd_str Try.underlying22 Try.underlying5 Try.underlying9 rfl (fun W hW => Rd.ext ((Vw.take hB_13.vw (by omega))).u8 hW)) (QL_gq rfl rfl rfl (Yd_eqlSB (b := [8]) rfl rfl (Vw.take hB_13.vw (by omega)).byt (by decide)) (QL_q rfl (Yd_pickT rfl rfl) ((QL_nil 7 rfl rfl rfl))))))))
      · intro hb47
        try simp only [decide_eq_true_eq, decide_eq_false_iff_not, Bool.not_eq_true', Bool.not_eq_false', Decidable.not_not, Int.not_lt, Int.not_le, Bool.or_eq_true, Bool.and_eq_true, Bool.or_eq_false_iff, Bool.and_eq_false_iff] at hb47
        refine QL_gn rfl rfl rfl rfl (QL_gn rfl rfl rfl rfl (QL_gn rfl rfl rfl rfl (QL_gn rfl rfl rfl rfl (QL_gn rfl rfl rfl rfl (QL_gn rfl rfl rfl rfl (QL_q rfl (Yd_pickF rfl rfl) ((QL_nil 7 rfl rfl rfl))))))))
      · skip
        refine RL_q rfl (Yd_assign rfl) (RL_nil (X_then (C_ret (X_ret1 rfl rfl ?_))))
        refine ⟨_, rfl, ?_, hE⟩
        all_goals (first | rfl | omega | simp)

theorem put_parts {pg q : List Int} {off : Int} {n m k : Nat} (hq : q.length = n) (hp : pg.length = m) (hm : m = 32) (h2 : 0 ≤ off) (h3 : off + n ≤ 32) (hk : (pPut pg off q).length = k) :
    k = 32 ∧ fitsE m off n = 0 ∧ fitsE k off n = 0 ∧ fitsE k 0 off = 0 ∧ fitsE k (off + n) (32 - off - n) = 0 ∧ pGet (pPut pg off q) off n = q ∧ pGet (pPut pg off q) 0 off = pg.take off.toNat ∧ pGet (pPut pg off q) (off + n) (32 - off - n) = pg.drop (off + n).toNat := by
  subst hq hp
  have f1 : fitsE pg.length off q.length = 0 := fitsE_ok (by omega) (by omega) (by omega) (by omega) (by omega)
  have e := pPut_ok (p := pg) (b := q) rfl rfl f1
  have hk2 : k = 32 := by rw [← hk, e]; simp only [List.length_append, List.length_take, List.length_drop]; omega
  subst hk2
  have g : ∀ a b : Int, 0 ≤ a → 0 ≤ b → a + b ≤ 32 → fitsE ((32 : Nat) : Int) a b = 0 := fun a b h1 h2 h3 => fitsE_ok rfl h1 h2 (by omega) (by omega)
  have t1 : (pg.take off.toNat).length = off.toNat := by rw [List.length_take]; omega
  refine ⟨rfl, f1, g _ _ (by omega) (by omega) (by omega), g _ _ (by omega) (by omega) (by omega), g _ _ (by omega) (by omega) (by omega), ?_, ?_, ?_⟩
  · rw [pGet_ok (m := ((32 : Nat) : Int)) (by omega) (g _ _ (by omega) (by omega) (by omega)), e, List.append_assoc, List.drop_append, List.drop_of_length_le (by omega), t1, List.nil_append, Nat.sub_self, List.drop_zero, Int.toNat_natCast, List.take_left]
  · rw [pGet_ok (m := ((32 : Nat) : Int)) (by omega) (g _ _ (by omega) (by omega) (by omega)), e, List.append_assoc]
    have : ((0 : Int).toNat) = 0 := rfl
    rw [this, List.drop_zero, List.take_append_of_le_length (by omega), List.take_of_length_le (by omega)]
  · rw [pGet_ok (m := ((32 : Nat) : Int)) (by omega) (g _ _ (by omega) (by omega) (by omega)), e]
    have h4 : (pg.take off.toNat ++ q).length = (off + q.length).toNat := by rw [List.length_append]; omega
    rw [List.drop_append, List.drop_of_length_le (by omega), h4, List.nil_append, Nat.sub_self, List.drop_zero, show off.toNat + q.length = (off + q.length).toNat by omega, List.take_of_length_le (by rw [List.length_drop]; omega)]
theorem open_seal {b : List Int} (h : b.length = 16) : openL (sealL b) = b ∧ openE (sealL b) = 0 ∧ sealL b = b ++ le 4 (cmore 0 b) ∧ (sealL b).length = 20 := by
  rw [← sealL_ok h]
  have hl : (b ++ le 4 (cmore 0 b)).length = 20 := by simp; omega
  rw [(openL_ok hl).1, (openL_ok hl).2, (takeE_put b).1, (takeE_put b).2]
  exact ⟨rfl, rfl, rfl, hl⟩
end Go.Proofs.AL
