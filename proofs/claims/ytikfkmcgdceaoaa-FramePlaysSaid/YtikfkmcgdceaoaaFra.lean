import Derived.Test.YtikfkmcgdceaoaaSeq
set_option linter.unusedVariables false
set_option linter.unusedSimpArgs false
namespace Go.Proofs.AL
open Go.RowKit
theorem AroundV {n : Int} {m : Int} {w : World}  (b_n : -9223372036854775808 ≤ n ∧ n ≤ 9223372036854775807) (b_m : 1 ≤ m ∧ m ≤ 9223372036854775807) :
    Calls Try.prog 15 #[.int .i64 n, .int .i64 m] w fun e w' => ∃ (x0 : Int), e = .returned (.int .i64 x0) ∧ x0 = (around n m) ∧ (0 ≤ x0 ∧ x0 < m) ∧ w = w' :=
  Calls.mono (Around_c n m w b_n.1 b_n.2 b_m.1 b_m.2) fun e w' ⟨h1, h2⟩ => ⟨_, h1, rfl, around_range n (m := m) (by omega), h2⟩
theorem FewV {lo_b B_b : Nat} {A_b : Option Addr} {n_b c_b : Nat} {b : List Int} {m : Int} {w : World}  (h_b : Vw tU8 w lo_b B_b A_b n_b c_b b) (b_m : 0 ≤ m ∧ m ≤ 65536) :
    Calls Try.prog 22 #[.slice A_b n_b c_b, .int .i64 m] w fun e w' => ∃ (A0 : Option Addr) (n0 c0 : Nat), e = .returned (.slice A0 n0 c0) ∧ Ow tU8 5 w' w.heap.size w'.heap.size A0 n0 c0 (few b m) ∧ ((n0 : Int) ≤ m ∧ n0 ≤ n_b ∧ ((n_b : Int) ≤ m → few b m = b) ∧ ((n_b : Int) ≤ m → n0 = n_b)) ∧ Ext w w' :=
  Calls.mono (Few_c A_b n_b c_b b m w h_b.u8 h_b.ln h_b.cap b_m.1 b_m.2 h_b.nil) fun e w' ⟨A, c, h1, h2, h3⟩ => ⟨A, _, c, h1, ow_u8 h2 (few_byt h_b.byt m), by have := few_le b m b_m.1; have h := h_b.ln; exact ⟨by omega, by omega, fun h5 => few_all (by omega), fun h5 => by rw [few_all (by omega)]; exact h⟩, h3⟩

def fill (b : List Int) (n : Nat) : List Int := (List.range n).map fun i => b.getD (i % b.length) 0
theorem fill_succ (b : List Int) (n : Nat) : fill b (n + 1) = fill b n ++ [b.getD (n % b.length) 0] := by simp [fill, List.range_succ]
@[simp] theorem fill_len (b : List Int) (n : Nat) : (fill b n).length = n := by simp [fill]
theorem getD_byt {b : List Int} (h : Byt b) (i : Nat) : 0 ≤ b.getD i 0 ∧ b.getD i 0 ≤ 255 := by
  rw [List.getD_eq_getElem?_getD]
  by_cases hi : i < b.length
  · rw [List.getElem?_eq_getElem hi]; exact h.get i hi
  · rw [List.getElem?_eq_none (by omega)]; simp
theorem fill_byt {b : List Int} (h : Byt b) (n : Nat) : Byt (fill b n) := fun x hx => by
  simp only [fill, List.mem_map] at hx
  obtain ⟨i, _, rfl⟩ := hx
  exact getD_byt h _
theorem Fill_c {B : Nat} (A : Option Addr) (m c n : Nat) (b : List Int) (w : World) (hr : Rd w B 1 A m (ints .u8 b)) (hm : b.length = m) (hm2 : m ≤ 9223372036854775807) (hn : n ≤ 65536) :
    Calls Try.prog 21 #[.slice A m c, .int .i64 n] w fun e w' => ∃ A' c', e = .returned (.slice A' n c') ∧ Own w' w.heap.size 5 1 A' n c' (ints .u8 (fill b n)) ∧ Ext w w' := by
  refine calls_of (l := [.slice A m c, .int .i64 n]) (N := 29) Try.func21 rfl rfl rfl ?_
  refine C_seq (C_region (RL_q rfl (Yd_assign rfl) (RL_nil (X_then (C_seq (C_region (RL_q rfl (Yd_assign rfl) (RL_nil (X_then (C_seq (C_seq (C_region (RL_q rfl (Yd_assign rfl) (RL_nil (X_then (C_block (?_)))))))))))))))))
  refine C_loop (T := Nat × Option Addr × Nat) (fun ⟨k, A', c'⟩ => [(0, .slice A m c), (1, .int .i64 n), (5, .slice A' k c'), (6, .int .i64 k)]) (fun ⟨k, A', c'⟩ w1 => k ≤ n ∧ Own w1 w.heap.size 5 1 A' k c' (ints .u8 (fill b k)) ∧ Ext w w1) (fun ⟨k, A', c'⟩ => n - k) (⟨0, none, 0⟩) ⟨rfl, rfl, rfl, rfl, trivial⟩ ?_ ?_
  · exact ⟨by omega, Own.nil _ _ _ _, Ext.refl _⟩
  · rintro ⟨k, A', c'⟩ w1 ⟨hk, hO, hE⟩
    refine C_seq (C_seq (C_region (RL_q rfl (Yd_move rfl) (RL_q rfl (Yd_move rfl) (RL_q rfl (Yd_lss rfl rfl) (RL_nil (X_then (?_))))))))
    refine C_cond rfl (fun hb => ?_) (fun hb => ?_)
    · skip
      have hb : (k : Int) < n := of_decide_eq_true hb
      have hsz := hE.size
      refine C_skip (X_then (C_seq (C_block (C_seq (C_region (RL_q rfl (Yd_move rfl) (RL_q rfl (Yd_len Try.underlying32 rfl) (RL_q rfl (Yd_gtr rfl rfl) (RL_nil (X_then (?_)))))))))))
      refine C_cond rfl (fun hb2 => ?_) (fun hb2 => ?_)
      · skip
        have hb2 : (0 : Int) < m := of_decide_eq_true hb2
        have hlt : k % m < m := Nat.mod_lt _ (by omega)
        obtain ⟨ad, rfl, _, _⟩ := hr.cells (by omega)
        have hget := ints_get .u8 b (k % m) (by omega)
        have hv : b.getD (k % b.length) 0 = b[k % m]'(by omega) := by simp only [List.getD_eq_getElem?_getD, hm, List.getElem?_eq_getElem (show k % m < b.length by omega), Option.getD_some]
        have hrem : ((k : Int) % (m : Int)).toNat = k % m := by omega
        refine C_region (RL_q rfl (Yd_move rfl) (RL_q rfl (Yd_move rfl) (RL_q rfl (Yd_move rfl) (RL_q rfl (Yd_move rfl) (RL_q rfl (Yd_len Try.underlying32 rfl) (RL_q rfl (Yd_rem rfl rfl (by omega) (tmodw (by omega))) (RL_q rfl (Yd_idx Try.underlying32 (sz := 1) (by kernel_rfl) rfl rfl (by omega) (by omega)) (RL_q rfl (Yd_load Try.underlying5 rfl rfl (ldK (hr.ext hE) (by omega) hget (by omega))) (RL_l rfl (Ld_lit Try.underlying32 rfl (lit_flat Try.underlying32 Try.elt5 rfl rfl ⟨rfl, by decide⟩) ?_))))))))))
        intro W1 he1 hz1 hB
        replace hO := hO.ext he1
        replace hE := Ext.trans hE he1
        refine RL_l rfl (Ld_app Try.underlying32 Try.elt5 rfl (by decide) rfl rfl hO (Blk.one hB) (by simp [Value.oneCell']) (by simp only [maxLen]; omega) (by omega) hE.size (by intro h; cases h) rfl ?_)
        intro A2 c2 W2 hO2 hg2 hat2
        have hE2 := ext_app hO hE hE.size hg2
        refine RL_q rfl (Yd_assign rfl) (RL_nil (X_block (X_then (C_region (RL_q rfl (Yd_move rfl) (RL_q rfl (Yd_add rfl rfl (i64w (by omega) (by omega))) (RL_q rfl (Yd_assign rfl) (RL_nil (?_)))))))))
        refine X_again (⟨k + 1, A2, c2⟩) ⟨rfl, rfl, rfl, rfl, trivial⟩ ?_ (by first | omega | (dsimp only; omega))
        refine ⟨by omega, ?_, hE2⟩
        rw [fill_succ, ints_append, hv]
        exact hO2
      · skip
        have hb2 : ¬ (0 : Int) < m := of_decide_eq_false hb2
        have hv : b.getD (k % b.length) 0 = 0 := by rw [show b = [] from List.eq_nil_of_length_eq_zero (by omega)]; rfl
        refine C_region (RL_q rfl (Yd_move rfl) (RL_l rfl (Ld_lit Try.underlying32 rfl (lit_flat Try.underlying32 Try.elt5 rfl rfl ⟨rfl, by decide⟩) ?_)))
        intro W1 he1 hz1 hB
        replace hO := hO.ext he1
        replace hE := Ext.trans hE he1
        refine RL_l rfl (Ld_app Try.underlying32 Try.elt5 rfl (by decide) rfl rfl hO (Blk.one hB) (by simp [Value.oneCell']) (by simp only [maxLen]; omega) (by omega) hE.size (by intro h; cases h) rfl ?_)
        intro A2 c2 W2 hO2 hg2 hat2
        have hE2 := ext_app hO hE hE.size hg2
        refine RL_q rfl (Yd_assign rfl) (RL_nil (X_block (X_then (C_region (RL_q rfl (Yd_move rfl) (RL_q rfl (Yd_add rfl rfl (i64w (by omega) (by omega))) (RL_q rfl (Yd_assign rfl) (RL_nil (?_)))))))))
        refine X_again (⟨k + 1, A2, c2⟩) ⟨rfl, rfl, rfl, rfl, trivial⟩ ?_ (by first | omega | (dsimp only; omega))
        refine ⟨by omega, ?_, hE2⟩
        rw [fill_succ, ints_append, hv]
        exact hO2
    · skip
      have hb : ¬ (k : Int) < n := of_decide_eq_false hb
      obtain rfl : k = n := by omega
      refine C_exit (X_thenE (X_thenE (X_blockE (X_then (C_seq (C_region (RL_q rfl (Yd_move rfl) (RL_q rfl (Yd_assign rfl) (RL_nil (X_then (C_ret (X_ret1 rfl rfl ?_))))))))))))
      exact ⟨A', c', rfl, hO, hE⟩

def fitsE (len off n : Int) : Int := if len ≠ 32 then 2 else if off < 0 ∨ n < 0 ∨ 32 < off ∨ 32 - off < n then 4 else 0
def pGet (p : List Int) (off n : Int) : List Int := if fitsE p.length off n = 0 then (p.drop off.toNat).take n.toNat else []
def pPut (p : List Int) (off : Int) (b : List Int) : List Int := if fitsE p.length off b.length = 0 then p.take off.toNat ++ b ++ p.drop (off.toNat + b.length) else []
theorem fitsE_ok {len off n : Int} (h1 : len = 32) (h2 : 0 ≤ off) (h3 : 0 ≤ n) (h4 : off ≤ 32) (h5 : n ≤ 32 - off) : fitsE len off n = 0 := by unfold fitsE; rw [if_neg (by omega), if_neg (by omega)]
theorem fitsE_zero {len off n : Int} (h : fitsE len off n = 0) : len = 32 ∧ 0 ≤ off ∧ 0 ≤ n ∧ off ≤ 32 ∧ n ≤ 32 - off := by
  unfold fitsE at h
  split at h
  · cases h
  · split at h
    · cases h
    · omega
theorem pGet_no {p : List Int} {off n : Int} {m : Int} (hm : m = p.length) (h : ¬ fitsE m off n = 0) : pGet p off n = [] := by subst hm; unfold pGet; rw [if_neg h]
theorem pPut_no {p b : List Int} {off : Int} {m k : Int} (hm : m = p.length) (hk : k = b.length) (h : ¬ fitsE m off k = 0) : pPut p off b = [] := by subst hm hk; unfold pPut; rw [if_neg h]
theorem pGet_ok {p : List Int} {off n : Int} {m : Int} (hm : m = p.length) (h : fitsE m off n = 0) : pGet p off n = (p.drop off.toNat).take n.toNat := by subst hm; unfold pGet; rw [if_pos h]
theorem pPut_ok {p b : List Int} {off : Int} {m k : Int} (hm : m = p.length) (hk : k = b.length) (h : fitsE m off k = 0) : pPut p off b = p.take off.toNat ++ b ++ p.drop (off.toNat + b.length) := by subst hm hk; unfold pPut; rw [if_pos h]
theorem pGet_le {p : List Int} {off n : Int} : (pGet p off n).length ≤ 32 := by
  unfold pGet
  split
  · rename_i h
    have := fitsE_zero h
    rw [List.length_take]; omega
  · simp
theorem pGet_of {p : List Int} {off n m : Int} {k : Nat} (hm : m = p.length) (h1 : m = 32) (h2 : 0 ≤ off) (h3 : 0 ≤ n) (h4 : off ≤ 32) (h5 : n ≤ 32 - off) (hk : (k : Int) = n) : (p.drop off.toNat).take k = pGet p off n := by
  subst hk
  rw [pGet_ok hm (fitsE_ok h1 h2 h3 h4 h5)]; rfl
theorem take_next' {l : List Int} {x : Int} {k : Nat} (hx : l[k]? = some x) : l.take k ++ [x] = l.take (k + 1) := by
  obtain ⟨hk, e⟩ := List.getElem?_eq_some_iff.1 hx
  rw [List.take_succ_eq_append_getElem hk, e]
theorem take_next {p : List Int} {x : Int} {o k j : Nat} (hx : p[j]? = some x) (hj : j = o + k) : (p.drop o).take k ++ [x] = (p.drop o).take (k + 1) := by
  subst hj
  exact take_next' (by rw [List.getElem?_drop]; exact hx)
theorem pPut_next1 {p b : List Int} {off : Int} {x : Int} {k j : Nat} (hx : b[j]? = some x) (h1 : (p.length : Int) = 32) (h2 : 0 ≤ off) (h3 : off + b.length ≤ 32) (hj : j + off.toNat = k) : (pPut p off b).take k ++ [x] = (pPut p off b).take (k + 1) := by
  refine take_next' ?_
  obtain ⟨hjb, _⟩ := List.getElem?_eq_some_iff.1 hx
  rw [pPut_ok rfl rfl (fitsE_ok h1 h2 (by omega) (by omega) (by omega)), List.getElem?_append_left (by simp only [List.length_append, List.length_take]; omega), List.getElem?_append_right (by rw [List.length_take]; omega), List.length_take, ← hx]
  congr 1; omega
theorem pPut_next2 {p b : List Int} {off : Int} {x : Int} {k : Nat} (hx : p[k]? = some x) (h1 : (p.length : Int) = 32) (h2 : 0 ≤ off ∧ off + b.length ≤ 32) (hk : (k : Int) < off ∨ off + b.length ≤ k) : (pPut p off b).take k ++ [x] = (pPut p off b).take (k + 1) := by
  refine take_next' ?_
  obtain ⟨hkp, _⟩ := List.getElem?_eq_some_iff.1 hx
  rw [pPut_ok rfl rfl (fitsE_ok h1 (by omega) (by omega) (by omega) (by omega)), ← hx]
  rcases hk with hk | hk
  · rw [List.append_assoc, List.getElem?_append_left (by rw [List.length_take]; omega), List.getElem?_take, if_pos (by omega)]
  · rw [List.getElem?_append_right (by simp only [List.length_append, List.length_take]; omega), List.getElem?_drop]
    congr 1
    simp only [List.length_append, List.length_take]; omega
theorem pPut_len {p b : List Int} {off : Int} : (pPut p off b).length = 0 ∨ (pPut p off b).length = 32 := by
  unfold pPut
  split
  · rename_i h
    have := fitsE_zero h
    right
    simp only [List.length_append, List.length_take, List.length_drop]; omega
  · left; rfl
theorem pPut_all {p b : List Int} {off : Int} {k : Nat} (hk : k = 32) : (pPut p off b).take k = pPut p off b := List.take_of_length_le (by have := @pPut_len p b off; omega)
theorem FillV {lo_b B_b : Nat} {A_b : Option Addr} {n_b c_b : Nat} {b : List Int} {m : Int} {w : World}  (h_b : Vw tU8 w lo_b B_b A_b n_b c_b b) (b_m : 0 ≤ m ∧ m ≤ 65536) :
    Calls Try.prog 21 #[.slice A_b n_b c_b, .int .i64 m] w fun e w' => ∃ (A0 : Option Addr) (n0 c0 : Nat), e = .returned (.slice A0 n0 c0) ∧ Ow tU8 5 w' w.heap.size w'.heap.size A0 n0 c0 (fill b m.toNat) ∧ ((n0 : Int) = m) ∧ Ext w w' :=
  by
  obtain ⟨k, rfl⟩ := Int.eq_ofNat_of_zero_le b_m.1
  exact Calls.mono (Fill_c A_b n_b c_b k b w h_b.u8 h_b.ln (by have := h_b.max; have := h_b.cap; simp only [maxLen] at *; omega) (by omega)) fun e w' ⟨A, c, h1, h2, h3⟩ => ⟨A, _, c, h1, ow_u8 h2 (fill_byt h_b.byt k), by simp, h3⟩
theorem ownV {lo_b B_b : Nat} {A_b : Option Addr} {n_b c_b : Nat} {b : List Int} {w : World}  (h_b : Vw tU8 w lo_b B_b A_b n_b c_b b) (h6 : n_b ≤ 65000) :
    Calls Try.prog 53 #[.slice A_b n_b c_b] w fun e w' => ∃ (A0 : Option Addr) (n0 c0 : Nat), e = .returned (.slice A0 n0 c0) ∧ Ow tU8 5 w' w.heap.size w'.heap.size A0 n0 c0 b ∧ Ext w w' := by
  have hE := Ext.refl w
  replace h_b := h_b.fit
  have hn_b := h_b.ln
  have hc_b := h_b.cap
  have hm_b := h_b.max
  simp only [maxLen] at hm_b
  refine calls_of (l := [.slice A_b n_b c_b]) (N := 11) Try.func53 rfl rfl rfl ?_
  refine C_seq (C_region (RL_q rfl (Yd_assign rfl) (RL_nil (X_then (C_seq (C_region (RL_q rfl (Yd_move rfl) (RL_q rfl (Yd_len Try.underlying32 rfl) (RL_l rfl (Ld_mk Try.underlying32 Try.elt5 rfl rfl rfl (n := n_b) (by omega) (by omega) (T := tU8) (a := 0) rfl (by omega) (by simp only [maxLen]; omega) ⟨by decide, by decide⟩ ?_))))))))))
  intro W1 hO6 he1
  replace hE := Ext.trans hE he1
  replace h_b := h_b.ext he1
  have hs1 := he1.size
  have hn6 := hO6.ln
  have hlt6 : w.heap.size < W1.heap.size := (hO6.own.lt' _ rfl).2
  refine RL_q rfl (Yd_assign rfl) (RL_nil (X_then (C_seq (C_region (RL_q rfl (Yd_move rfl) (RL_q rfl (Yd_move rfl) (RL_l rfl (Ld_cpO (T := tU8) rfl Try.underlying32 (by kernel_rfl) rfl rfl hO6 h_b (fun _ _ _ e => e) (by omega) (by omega) ?_))))))))
  intro W2 hO6' hk2
  have hs2 := hk2.size
  replace hE := Ext.kp hE hk2 (fun k hk => by first | omega | (have hk := hk; dsimp only at hk; omega))
  replace h_b := h_b.kp hk2 (fun k hk => by first | omega | (have hk := hk; dsimp only at hk; omega))
  replace hO6 := hO6'
  have hnhO6 := hO6.ln
  try simp only [List.length_append, List.length_cons, List.length_nil, List.length_set, List.length_take, List.length_drop, List.length_replicate, List.length_map, Nat.zero_add, Nat.add_zero] at hnhO6
  have hchO6 := hO6.cap
  refine RL_nil (X_then (C_seq (C_region (RL_q rfl (Yd_move rfl) (RL_q rfl (Yd_assign rfl) (RL_nil (X_then (C_ret (X_ret1 rfl rfl ?_)))))))))
  refine ⟨_, _, _, rfl, (hO6.fit.more (by omega) (Nat.le_refl _)).cast ?_, hE⟩
  all_goals (simp [hn_b])
theorem fitsV {lo_p B_p : Nat} {A_p : Option Addr} {n_p c_p : Nat} {p : List Int} {off : Int} {n : Int} {w : World}  (h_p : Vw tU8 w lo_p B_p A_p n_p c_p p) (b_off : -9223372036854775808 ≤ off ∧ off ≤ 9223372036854775807) (b_n : -9223372036854775808 ≤ n ∧ n ≤ 9223372036854775807) :
    Calls Try.prog 52 #[.slice A_p n_p c_p, .int .i64 off, .int .i64 n] w fun e w' => ∃ (x0 : Int), e = .returned (.int .i64 x0) ∧ x0 = (fitsE n_p off n) ∧ w = w' := by
  have hE := Ext.refl w
  replace h_p := h_p.fit
  have hn_p := h_p.ln
  have hc_p := h_p.cap
  have hm_p := h_p.max
  simp only [maxLen] at hm_p
  refine calls_of (l := [.slice A_p n_p c_p, .int .i64 off, .int .i64 n]) (N := 28) Try.func52 rfl rfl rfl ?_
  refine C_seq (C_region (RL_q rfl (Yd_assign rfl) (RL_nil (X_then (C_seq (C_block (C_seq (C_region (RL_q rfl (Yd_move rfl) (RL_q rfl (Yd_len Try.underlying32 rfl) (RL_q rfl (Yd_neq rfl rfl) (RL_q rfl (Yd_assign rfl) (RL_nil (X_then (?_)))))))))))))))
  refine C_cond rfl (fun hb7 => ?_) (fun hb7 => ?_)
  · skip
    try simp only [decide_eq_true_eq, decide_eq_false_iff_not, Bool.not_eq_true', Bool.not_eq_false', Decidable.not_not, Int.not_lt, Int.not_le, Bool.or_eq_true, Bool.and_eq_true, Bool.or_eq_false_iff, Bool.and_eq_false_iff] at hb7
    refine C_seq (C_region (RL_q rfl (Yd_assign rfl) (RL_nil (X_then (C_ret (X_blockR (X_thenR (X_ret1 rfl rfl ?_))))))))
    refine ⟨_, rfl, ?_, rfl⟩
    all_goals (unfold fitsE; (repeat' split) <;> first | rfl | omega)
  · skip
    try simp only [decide_eq_true_eq, decide_eq_false_iff_not, Bool.not_eq_true', Bool.not_eq_false', Decidable.not_not, Int.not_lt, Int.not_le, Bool.or_eq_true, Bool.and_eq_true, Bool.or_eq_false_iff, Bool.and_eq_false_iff] at hb7
    refine C_seq (C_region (RL_q rfl (Yd_move rfl) (RL_q rfl (Yd_lss rfl rfl) (RL_q rfl (Yd_move rfl) (?_)))))
    apply RL_or (dj := 14) 17 3 rfl
    · intro hb14
      try simp only [decide_eq_true_eq, decide_eq_false_iff_not, Bool.not_eq_true', Bool.not_eq_false', Decidable.not_not, Int.not_lt, Int.not_le, Bool.or_eq_true, Bool.and_eq_true, Bool.or_eq_false_iff, Bool.and_eq_false_iff] at hb14
      refine QL_gq rfl rfl rfl (Yd_move rfl) (QL_gq rfl rfl rfl (Yd_lss rfl rfl) (QL_q rfl (Yd_pickF rfl rfl) ((QL_nil 3 rfl rfl rfl))))
    · intro hb14
      try simp only [decide_eq_true_eq, decide_eq_false_iff_not, Bool.not_eq_true', Bool.not_eq_false', Decidable.not_not, Int.not_lt, Int.not_le, Bool.or_eq_true, Bool.and_eq_true, Bool.or_eq_false_iff, Bool.and_eq_false_iff] at hb14
      refine QL_gn rfl rfl rfl rfl (QL_gn rfl rfl rfl rfl (QL_q rfl (Yd_pickT rfl rfl) ((QL_nil 3 rfl rfl rfl))))
    · skip
      refine RL_q rfl (Yd_move rfl) (?_)
      apply RL_or (dj := 18) 21 3 rfl
      · intro hb18
        try simp only [decide_eq_true_eq, decide_eq_false_iff_not, Bool.not_eq_true', Bool.not_eq_false', Decidable.not_not, Int.not_lt, Int.not_le, Bool.or_eq_true, Bool.and_eq_true, Bool.or_eq_false_iff, Bool.and_eq_false_iff] at hb18
        refine QL_gq rfl rfl rfl (Yd_move rfl) (QL_gq rfl rfl rfl (Yd_gtr rfl rfl) (QL_q rfl (Yd_pickF rfl rfl) ((QL_nil 3 rfl rfl rfl))))
      · intro hb18
        try simp only [decide_eq_true_eq, decide_eq_false_iff_not, Bool.not_eq_true', Bool.not_eq_false', Decidable.not_not, Int.not_lt, Int.not_le, Bool.or_eq_true, Bool.and_eq_true, Bool.or_eq_false_iff, Bool.and_eq_false_iff] at hb18
        refine QL_gn rfl rfl rfl rfl (QL_gn rfl rfl rfl rfl (QL_q rfl (Yd_pickT rfl rfl) ((QL_nil 3 rfl rfl rfl))))
      · skip
        refine RL_q rfl (Yd_move rfl) (?_)
        apply RL_or (dj := 22) 27 5 rfl
        · intro hb22
          try simp only [decide_eq_true_eq, decide_eq_false_iff_not, Bool.not_eq_true', Bool.not_eq_false', Decidable.not_not, Int.not_lt, Int.not_le, Bool.or_eq_true, Bool.and_eq_true, Bool.or_eq_false_iff, Bool.and_eq_false_iff] at hb22
          refine QL_gq rfl rfl rfl (Yd_move rfl) (QL_gq rfl rfl rfl (Yd_move rfl) (QL_gq rfl rfl rfl (Yd_sub rfl rfl (i64w (by omega) (by omega))) (QL_gq rfl rfl rfl (Yd_gtr rfl rfl) (QL_q rfl (Yd_pickF rfl rfl) ((QL_nil 5 rfl rfl rfl))))))
        · intro hb22
          try simp only [decide_eq_true_eq, decide_eq_false_iff_not, Bool.not_eq_true', Bool.not_eq_false', Decidable.not_not, Int.not_lt, Int.not_le, Bool.or_eq_true, Bool.and_eq_true, Bool.or_eq_false_iff, Bool.and_eq_false_iff] at hb22
          refine QL_gn rfl rfl rfl rfl (QL_gn rfl rfl rfl rfl (QL_gn rfl rfl rfl rfl (QL_gn rfl rfl rfl rfl (QL_q rfl (Yd_pickT rfl rfl) ((QL_nil 5 rfl rfl rfl))))))
        · skip
          refine RL_q rfl (Yd_assign rfl) (RL_nil (X_then (?_)))
          refine C_cond rfl (fun hb11 => ?_) (fun hb11 => ?_)
          · skip
            try simp only [decide_eq_true_eq, decide_eq_false_iff_not, Bool.not_eq_true', Bool.not_eq_false', Decidable.not_not, Int.not_lt, Int.not_le, Bool.or_eq_true, Bool.and_eq_true, Bool.or_eq_false_iff, Bool.and_eq_false_iff] at hb11
            refine C_seq (C_region (RL_q rfl (Yd_assign rfl) (RL_nil (X_then (C_ret (X_blockR (X_thenR (X_ret1 rfl rfl ?_))))))))
            refine ⟨_, rfl, ?_, rfl⟩
            all_goals (unfold fitsE; (repeat' split) <;> first | rfl | omega)
          · skip
            try simp only [decide_eq_true_eq, decide_eq_false_iff_not, Bool.not_eq_true', Bool.not_eq_false', Decidable.not_not, Int.not_lt, Int.not_le, Bool.or_eq_true, Bool.and_eq_true, Bool.or_eq_false_iff, Bool.and_eq_false_iff] at hb11
            refine C_skip (X_block (X_then (C_seq (C_region (RL_q rfl (Yd_assign rfl) (RL_nil (X_then (C_ret (X_ret1 rfl rfl ?_)))))))))
            refine ⟨_, rfl, ?_, rfl⟩
            all_goals (unfold fitsE; (repeat' split) <;> first | rfl | omega)
theorem cGetV {lo_p B_p : Nat} {A_p : Option Addr} {n_p c_p : Nat} {p : List Int} {off : Int} {n : Int} {w : World}  (h_p : Vw tU8 w lo_p B_p A_p n_p c_p p) (b_off : -9223372036854775808 ≤ off ∧ off ≤ 9223372036854775807) (b_n : -9223372036854775808 ≤ n ∧ n ≤ 9223372036854775807) :
    Calls Try.prog 42 #[.slice A_p n_p c_p, .int .i64 off, .int .i64 n] w fun e w' => ∃ (A0 : Option Addr) (n0 c0 : Nat) (x1 : Int), e = .returned (.tuple #[.slice A0 n0 c0, .int .i64 x1]) ∧ Ow tU8 5 w' w.heap.size w'.heap.size A0 n0 c0 (pGet p off n) ∧ x1 = (fitsE n_p off n) ∧ Ext w w' := by
  have hE := Ext.refl w
  replace h_p := h_p.fit
  have hn_p := h_p.ln
  have hc_p := h_p.cap
  have hm_p := h_p.max
  simp only [maxLen] at hm_p
  refine calls_of (l := [.slice A_p n_p c_p, .int .i64 off, .int .i64 n]) (N := 23) Try.func42 rfl rfl rfl ?_
  refine C_seq (C_region (RL_q rfl (Yd_assign rfl) (RL_q rfl (Yd_assign rfl) (RL_nil (X_then (C_seq (C_seq (C_region (RL_q rfl (Yd_move rfl) (RL_q rfl (Yd_move rfl) (RL_q rfl (Yd_move rfl) (RL_l rfl (Ld_call Try.func52 rfl (by kernel_rfl) rfl (fitsV h_p ⟨by first | omega | (dsimp only; omega), by first | omega | (dsimp only; omega)⟩ ⟨by first | omega | (dsimp only; omega), by first | omega | (dsimp only; omega)⟩) ?_)))))))))))))
  rintro e W1 ⟨y12, rfl, hy12, rfl⟩
  refine ⟨_, rfl, ?_⟩
  refine RL_q rfl (Yd_assign rfl) (RL_nil (X_then (C_seq (C_region (RL_q rfl (Yd_move rfl) (RL_q rfl (Yd_neq rfl rfl) (?_)))))))
  have hz : y12 = 0 → _ := fun h => fitsE_zero (hy12.symm.trans h)
  refine RL_nil (X_then (?_))
  refine C_cond rfl (fun hb14 => ?_) (fun hb14 => ?_)
  · skip
    try simp only [decide_eq_true_eq, decide_eq_false_iff_not, Bool.not_eq_true', Bool.not_eq_false', Decidable.not_not, Int.not_lt, Int.not_le, Bool.or_eq_true, Bool.and_eq_true, Bool.or_eq_false_iff, Bool.and_eq_false_iff] at hb14
    refine C_seq (C_region (RL_q rfl (Yd_move rfl) (RL_q rfl (Yd_assign rfl) (RL_q rfl (Yd_assign rfl) (RL_nil (X_then (C_ret (X_thenR (X_ret2 rfl rfl rfl ?_)))))))))
    refine ⟨_, _, _, _, rfl, Ow.nil.cast ?_, ?_, hE⟩
    all_goals (first | rfl | exact hy12 | exact (pGet_no (m := n_p) (by omega) (by omega)).symm | omega | (rw [pGet_ok (m := n_p) (by omega) (by omega)]; exact congrArg (fun k => List.take k _) (by omega)))
  · skip
    try simp only [decide_eq_true_eq, decide_eq_false_iff_not, Bool.not_eq_true', Bool.not_eq_false', Decidable.not_not, Int.not_lt, Int.not_le, Bool.or_eq_true, Bool.and_eq_true, Bool.or_eq_false_iff, Bool.and_eq_false_iff] at hb14
    refine C_skip (X_then (C_seq (C_region (RL_q rfl (Yd_move rfl) (RL_q rfl (Yd_move rfl) (RL_q rfl (Yd_move rfl) (RL_q rfl (Yd_move rfl) (RL_q rfl (Yd_add rfl rfl (i64w (by omega) (by omega))) (RL_q rfl (Yd_sliceLH Try.underlying32 (sz := 1) (by kernel_rfl) rfl rfl rfl (by omega) (by omega) (by omega)) (RL_l rfl (Ld_call Try.func53 rfl (by kernel_rfl) rfl (ownV (Vw.cut (k := off.toNat) (m := (off + n).toNat) h_p (by omega) (by omega)) (by omega)) ?_)))))))))))
    rintro e W2 ⟨A22, n22, c22, rfl, hF22, he2⟩
    refine ⟨_, rfl, ?_⟩
    replace hE := Ext.trans hE he2
    replace h_p := h_p.ext he2
    have hs2 := he2.size
    have hn22 := hF22.ln
    try simp only [List.length_append, List.length_cons, List.length_nil, List.length_set, List.length_take, List.length_drop, List.length_replicate, List.length_map, Nat.zero_add, Nat.add_zero] at hn22
    have hc22 := hF22.cap
    refine RL_q rfl (Yd_assign rfl) (RL_q rfl (Yd_assign rfl) (RL_nil (X_then (C_ret (X_ret2 rfl rfl rfl ?_)))))
    refine ⟨_, _, _, _, rfl, (hF22.fit.more (by omega) (Nat.le_refl _)).cast ?_, ?_, hE⟩
    all_goals (first | rfl | exact hy12 | exact (pGet_no (m := n_p) (by omega) (by omega)).symm | omega | (rw [pGet_ok (m := n_p) (by omega) (by omega)]; exact congrArg (fun k => List.take k _) (by omega)))
theorem cPutV {lo_p B_p : Nat} {A_p : Option Addr} {n_p c_p : Nat} {p : List Int} {off : Int} {lo_b B_b : Nat} {A_b : Option Addr} {n_b c_b : Nat} {b : List Int} {w : World}  (h_p : Vw tU8 w lo_p B_p A_p n_p c_p p) (b_off : -9223372036854775808 ≤ off ∧ off ≤ 9223372036854775807) (h_b : Vw tU8 w lo_b B_b A_b n_b c_b b) :
    Calls Try.prog 43 #[.slice A_p n_p c_p, .int .i64 off, .slice A_b n_b c_b] w fun e w' => ∃ (A0 : Option Addr) (n0 c0 : Nat) (x1 : Int), e = .returned (.tuple #[.slice A0 n0 c0, .int .i64 x1]) ∧ Ow tU8 5 w' w.heap.size w'.heap.size A0 n0 c0 (pPut p off b) ∧ x1 = (fitsE n_p off n_b) ∧ Ext w w' := by
  have hE := Ext.refl w
  replace h_p := h_p.fit
  have hn_p := h_p.ln
  have hc_p := h_p.cap
  have hm_p := h_p.max
  simp only [maxLen] at hm_p
  replace h_b := h_b.fit
  have hn_b := h_b.ln
  have hc_b := h_b.cap
  have hm_b := h_b.max
  simp only [maxLen] at hm_b
  refine calls_of (l := [.slice A_p n_p c_p, .int .i64 off, .slice A_b n_b c_b]) (N := 26) Try.func43 rfl rfl rfl ?_
  refine C_seq (C_region (RL_q rfl (Yd_assign rfl) (RL_q rfl (Yd_assign rfl) (RL_nil (X_then (C_seq (C_seq (C_region (RL_q rfl (Yd_move rfl) (RL_q rfl (Yd_move rfl) (RL_q rfl (Yd_move rfl) (RL_q rfl (Yd_len Try.underlying32 rfl) (RL_l rfl (Ld_call Try.func52 rfl (by kernel_rfl) rfl (fitsV h_p ⟨by first | omega | (dsimp only; omega), by first | omega | (dsimp only; omega)⟩ ⟨by first | omega | (dsimp only; omega), by first | omega | (dsimp only; omega)⟩) ?_))))))))))))))
  rintro e W1 ⟨y14, rfl, hy14, rfl⟩
  refine ⟨_, rfl, ?_⟩
  refine RL_q rfl (Yd_assign rfl) (RL_nil (X_then (C_seq (C_region (RL_q rfl (Yd_move rfl) (RL_q rfl (Yd_neq rfl rfl) (?_)))))))
  have hz : y14 = 0 → _ := fun h => fitsE_zero (hy14.symm.trans h)
  refine RL_nil (X_then (?_))
  refine C_cond rfl (fun hb16 => ?_) (fun hb16 => ?_)
  · skip
    try simp only [decide_eq_true_eq, decide_eq_false_iff_not, Bool.not_eq_true', Bool.not_eq_false', Decidable.not_not, Int.not_lt, Int.not_le, Bool.or_eq_true, Bool.and_eq_true, Bool.or_eq_false_iff, Bool.and_eq_false_iff] at hb16
    refine C_seq (C_region (RL_q rfl (Yd_move rfl) (RL_q rfl (Yd_assign rfl) (RL_q rfl (Yd_assign rfl) (RL_nil (X_then (C_ret (X_thenR (X_ret2 rfl rfl rfl ?_)))))))))
    refine ⟨_, _, _, _, rfl, Ow.nil.cast ?_, ?_, hE⟩
    all_goals (first | rfl | exact hy14 | exact (pPut_no (m := n_p) (k := n_b) (by omega) (by omega) (by omega)).symm | omega | (rw [pPut_ok (m := n_p) (k := n_b) (by omega) (by omega) (by omega), hn_b]))
  · skip
    try simp only [decide_eq_true_eq, decide_eq_false_iff_not, Bool.not_eq_true', Bool.not_eq_false', Decidable.not_not, Int.not_lt, Int.not_le, Bool.or_eq_true, Bool.and_eq_true, Bool.or_eq_false_iff, Bool.and_eq_false_iff] at hb16
    refine C_skip (X_then (C_seq (C_region (RL_q rfl (Yd_move rfl) (RL_l rfl (Ld_call Try.func53 rfl (by kernel_rfl) rfl (ownV h_p (by omega)) ?_))))))
    rintro e W2 ⟨A19, n19, c19, rfl, hF19, he2⟩
    refine ⟨_, rfl, ?_⟩
    replace hE := Ext.trans hE he2
    replace h_p := h_p.ext he2
    replace h_b := h_b.ext he2
    have hs2 := he2.size
    have hn19 := hF19.ln
    try simp only [List.length_append, List.length_cons, List.length_nil, List.length_set, List.length_take, List.length_drop, List.length_replicate, List.length_map, Nat.zero_add, Nat.add_zero] at hn19
    have hc19 := hF19.cap
    refine RL_q rfl (Yd_assign rfl) (RL_nil (X_then (C_seq (C_region (RL_q rfl (Yd_move rfl) (RL_q rfl (Yd_move rfl) (RL_q rfl (Yd_sliceL Try.underlying32 (sz := 1) (by kernel_rfl) rfl rfl (by omega) (by omega)) (RL_q rfl (Yd_move rfl) (RL_l rfl (Ld_cpO (T := tU8) rfl Try.underlying32 (by kernel_rfl) rfl rfl hF19 h_b (cp_cut (by omega) (by omega)) (by omega) (by omega) ?_))))))))))
    intro W3 hF19' hk3
    have hs3 := hk3.size
    replace hE := Ext.kp hE hk3 (fun k hk => by first | omega | (have hk := hk; dsimp only at hk; omega))
    replace h_p := h_p.kp hk3 (fun k hk => by first | omega | (have hk := hk; dsimp only at hk; omega))
    replace h_b := h_b.kp hk3 (fun k hk => by first | omega | (have hk := hk; dsimp only at hk; omega))
    replace hF19 := hF19'
    have hnhF19 := hF19.ln
    try simp only [List.length_append, List.length_cons, List.length_nil, List.length_set, List.length_take, List.length_drop, List.length_replicate, List.length_map, Nat.zero_add, Nat.add_zero] at hnhF19
    have hchF19 := hF19.cap
    refine RL_nil (X_then (C_seq (C_region (RL_q rfl (Yd_move rfl) (RL_q rfl (Yd_assign rfl) (RL_q rfl (Yd_assign rfl) (RL_nil (X_then (C_ret (X_ret2 rfl rfl rfl ?_))))))))))
    refine ⟨_, _, _, _, rfl, (hF19.fit.more (by omega) (Nat.le_refl _)).cast ?_, ?_, hE⟩
    all_goals (first | rfl | exact hy14 | exact (pPut_no (m := n_p) (k := n_b) (by omega) (by omega) (by omega)).symm | omega | (rw [pPut_ok (m := n_p) (k := n_b) (by omega) (by omega) (by omega), hn_b]))
theorem refGetV {lo_p B_p : Nat} {A_p : Option Addr} {n_p c_p : Nat} {p : List Int} {off : Int} {n : Int} {w : World}  (h_p : Vw tU8 w lo_p B_p A_p n_p c_p p) (b_off : -9223372036854775808 ≤ off ∧ off ≤ 9223372036854775807) (b_n : -9223372036854775808 ≤ n ∧ n ≤ 9223372036854775807) :
    Calls Try.prog 44 #[.slice A_p n_p c_p, .int .i64 off, .int .i64 n] w fun e w' => ∃ (A0 : Option Addr) (n0 c0 : Nat) (x1 : Int), e = .returned (.tuple #[.slice A0 n0 c0, .int .i64 x1]) ∧ Ow tU8 5 w' w.heap.size w'.heap.size A0 n0 c0 (pGet p off n) ∧ x1 = (fitsE n_p off n) ∧ Ext w w' := by
  have hE := Ext.refl w
  replace h_p := h_p.fit
  have hn_p := h_p.ln
  have hc_p := h_p.cap
  have hm_p := h_p.max
  simp only [maxLen] at hm_p
  refine calls_of (l := [.slice A_p n_p c_p, .int .i64 off, .int .i64 n]) (N := 49) Try.func44 rfl rfl rfl ?_
  refine C_seq (C_region (RL_q rfl (Yd_assign rfl) (RL_q rfl (Yd_assign rfl) (RL_nil (X_then (C_seq (C_seq (C_region (RL_q rfl (Yd_move rfl) (RL_q rfl (Yd_len Try.underlying32 rfl) (RL_q rfl (Yd_neq rfl rfl) (RL_nil (X_then (?_))))))))))))))
  refine C_cond rfl (fun hb12 => ?_) (fun hb12 => ?_)
  · skip
    try simp only [decide_eq_true_eq, decide_eq_false_iff_not, Bool.not_eq_true', Bool.not_eq_false', Decidable.not_not, Int.not_lt, Int.not_le, Bool.or_eq_true, Bool.and_eq_true, Bool.or_eq_false_iff, Bool.and_eq_false_iff] at hb12
    refine C_seq (C_region (RL_q rfl (Yd_assign rfl) (RL_q rfl (Yd_assign rfl) (RL_nil (X_then (C_ret (X_thenR (X_ret2 rfl rfl rfl ?_))))))))
    refine ⟨_, _, _, _, rfl, Ow.nil.cast ?_, ?_, hE⟩
    all_goals (first | rfl | exact (pGet_no (m := n_p) (by omega) (fun h => by have := fitsE_zero h; omega)).symm | exact pGet_of (m := n_p) (by omega) (by omega) (by omega) (by omega) (by omega) (by omega) (by omega) | (unfold fitsE; (repeat' split) <;> first | rfl | omega))
  · skip
    try simp only [decide_eq_true_eq, decide_eq_false_iff_not, Bool.not_eq_true', Bool.not_eq_false', Decidable.not_not, Int.not_lt, Int.not_le, Bool.or_eq_true, Bool.and_eq_true, Bool.or_eq_false_iff, Bool.and_eq_false_iff] at hb12
    refine C_skip (X_then (C_seq (C_seq (C_region (RL_q rfl (Yd_move rfl) (RL_q rfl (Yd_lss rfl rfl) (RL_q rfl (Yd_move rfl) (?_))))))))
    apply RL_or (dj := 15) 18 3 rfl
    · intro hb15
      try simp only [decide_eq_true_eq, decide_eq_false_iff_not, Bool.not_eq_true', Bool.not_eq_false', Decidable.not_not, Int.not_lt, Int.not_le, Bool.or_eq_true, Bool.and_eq_true, Bool.or_eq_false_iff, Bool.and_eq_false_iff] at hb15
      refine QL_gq rfl rfl rfl (Yd_move rfl) (QL_gq rfl rfl rfl (Yd_lss rfl rfl) (QL_q rfl (Yd_pickF rfl rfl) ((QL_nil 3 rfl rfl rfl))))
    · intro hb15
      try simp only [decide_eq_true_eq, decide_eq_false_iff_not, Bool.not_eq_true', Bool.not_eq_false', Decidable.not_not, Int.not_lt, Int.not_le, Bool.or_eq_true, Bool.and_eq_true, Bool.or_eq_false_iff, Bool.and_eq_false_iff] at hb15
      refine QL_gn rfl rfl rfl rfl (QL_gn rfl rfl rfl rfl (QL_q rfl (Yd_pickT rfl rfl) ((QL_nil 3 rfl rfl rfl))))
    · skip
      refine RL_q rfl (Yd_move rfl) (?_)
      apply RL_or (dj := 19) 22 3 rfl
      · intro hb19
        try simp only [decide_eq_true_eq, decide_eq_false_iff_not, Bool.not_eq_true', Bool.not_eq_false', Decidable.not_not, Int.not_lt, Int.not_le, Bool.or_eq_true, Bool.and_eq_true, Bool.or_eq_false_iff, Bool.and_eq_false_iff] at hb19
        refine QL_gq rfl rfl rfl (Yd_move rfl) (QL_gq rfl rfl rfl (Yd_gtr rfl rfl) (QL_q rfl (Yd_pickF rfl rfl) ((QL_nil 3 rfl rfl rfl))))
      · intro hb19
        try simp only [decide_eq_true_eq, decide_eq_false_iff_not, Bool.not_eq_true', Bool.not_eq_false', Decidable.not_not, Int.not_lt, Int.not_le, Bool.or_eq_true, Bool.and_eq_true, Bool.or_eq_false_iff, Bool.and_eq_false_iff] at hb19
        refine QL_gn rfl rfl rfl rfl (QL_gn rfl rfl rfl rfl (QL_q rfl (Yd_pickT rfl rfl) ((QL_nil 3 rfl rfl rfl))))
      · skip
        refine RL_q rfl (Yd_move rfl) (?_)
        apply RL_or (dj := 23) 26 3 rfl
        · intro hb23
          try simp only [decide_eq_true_eq, decide_eq_false_iff_not, Bool.not_eq_true', Bool.not_eq_false', Decidable.not_not, Int.not_lt, Int.not_le, Bool.or_eq_true, Bool.and_eq_true, Bool.or_eq_false_iff, Bool.and_eq_false_iff] at hb23
          refine QL_gq rfl rfl rfl (Yd_move rfl) (QL_gq rfl rfl rfl (Yd_gtr rfl rfl) (QL_q rfl (Yd_pickF rfl rfl) ((QL_nil 3 rfl rfl rfl))))
        · intro hb23
          try simp only [decide_eq_true_eq, decide_eq_false_iff_not, Bool.not_eq_true', Bool.not_eq_false', Decidable.not_not, Int.not_lt, Int.not_le, Bool.or_eq_true, Bool.and_eq_true, Bool.or_eq_false_iff, Bool.and_eq_false_iff] at hb23
          refine QL_gn rfl rfl rfl rfl (QL_gn rfl rfl rfl rfl (QL_q rfl (Yd_pickT rfl rfl) ((QL_nil 3 rfl rfl rfl))))
        · skip
          refine RL_q rfl (Yd_move rfl) (?_)
          apply RL_or (dj := 27) 32 5 rfl
          · intro hb27
            try simp only [decide_eq_true_eq, decide_eq_false_iff_not, Bool.not_eq_true', Bool.not_eq_false', Decidable.not_not, Int.not_lt, Int.not_le, Bool.or_eq_true, Bool.and_eq_true, Bool.or_eq_false_iff, Bool.and_eq_false_iff] at hb27
            refine QL_gq rfl rfl rfl (Yd_move rfl) (QL_gq rfl rfl rfl (Yd_move rfl) (QL_gq rfl rfl rfl (Yd_add rfl rfl (i64w (by omega) (by omega))) (QL_gq rfl rfl rfl (Yd_gtr rfl rfl) (QL_q rfl (Yd_pickF rfl rfl) ((QL_nil 5 rfl rfl rfl))))))
          · intro hb27
            try simp only [decide_eq_true_eq, decide_eq_false_iff_not, Bool.not_eq_true', Bool.not_eq_false', Decidable.not_not, Int.not_lt, Int.not_le, Bool.or_eq_true, Bool.and_eq_true, Bool.or_eq_false_iff, Bool.and_eq_false_iff] at hb27
            refine QL_gn rfl rfl rfl rfl (QL_gn rfl rfl rfl rfl (QL_gn rfl rfl rfl rfl (QL_gn rfl rfl rfl rfl (QL_q rfl (Yd_pickT rfl rfl) ((QL_nil 5 rfl rfl rfl))))))
          · skip
            refine RL_nil (X_then (?_))
            refine C_cond rfl (fun hb32 => ?_) (fun hb32 => ?_)
            · skip
              try simp only [decide_eq_true_eq, decide_eq_false_iff_not, Bool.not_eq_true', Bool.not_eq_false', Decidable.not_not, Int.not_lt, Int.not_le, Bool.or_eq_true, Bool.and_eq_true, Bool.or_eq_false_iff, Bool.and_eq_false_iff] at hb32
              refine C_seq (C_region (RL_q rfl (Yd_assign rfl) (RL_q rfl (Yd_assign rfl) (RL_nil (X_then (C_ret (X_thenR (X_ret2 rfl rfl rfl ?_))))))))
              refine ⟨_, _, _, _, rfl, Ow.nil.cast ?_, ?_, hE⟩
              all_goals (first | rfl | exact (pGet_no (m := n_p) (by omega) (fun h => by have := fitsE_zero h; omega)).symm | exact pGet_of (m := n_p) (by omega) (by omega) (by omega) (by omega) (by omega) (by omega) (by omega) | (unfold fitsE; (repeat' split) <;> first | rfl | omega))
            · skip
              try simp only [decide_eq_true_eq, decide_eq_false_iff_not, Bool.not_eq_true', Bool.not_eq_false', Decidable.not_not, Int.not_lt, Int.not_le, Bool.or_eq_true, Bool.and_eq_true, Bool.or_eq_false_iff, Bool.and_eq_false_iff] at hb32
              refine C_skip (X_then (C_seq (C_region (RL_q rfl (Yd_assign rfl) (RL_nil (X_then (C_seq (C_seq (C_region (RL_q rfl (Yd_move rfl) (RL_q rfl (Yd_assign rfl) (RL_nil (X_then (C_block (?_)))))))))))))))
              refine C_loop (T := Nat × Option Addr × Nat × Nat) (fun ⟨k, lA8, ln8, lc8⟩ => [(0, .slice A_p n_p c_p), (1, .int .i64 off), (2, .int .i64 n), (6, .slice none 0 0), (7, .int .i64 0), (8, .slice lA8 ln8 lc8), (9, .int .i64 (off + (k : Int)))]) (fun ⟨k, lA8, ln8, lc8⟩ lw0 => Ow tU8 5 lw0 w.heap.size lw0.heap.size lA8 ln8 lc8 ((p.drop off.toNat).take k) ∧ ((k : Int) ≤ n) ∧ Ext w lw0) (fun ⟨k, lA8, ln8, lc8⟩ => n.toNat - k) (⟨0, none, 0, 0⟩) ⟨rfl, rfl, rfl, rfl, rfl, rfl, (lk_int rfl (by simp)), trivial⟩ ?_ ?_
              · refine ⟨(Ow.nil (lo := w.heap.size)).cast ?_, ?_, Ext.refl _⟩
                all_goals (try dsimp only)
                all_goals (first | rfl | exact take_next (by assumption) (by omega) | omega)
              · rintro ⟨k, lA8, ln8, lc8⟩ lw0 ⟨hR8, hi0_0, hL0⟩
                replace hE := Ext.trans hE hL0
                replace h_p := h_p.ext hL0
                have hsL0 := hL0.size
                have hnhR8 := hR8.ln
                try simp only [List.length_append, List.length_cons, List.length_nil, List.length_set, List.length_take, List.length_drop, List.length_replicate, List.length_map, Nat.zero_add, Nat.add_zero] at hnhR8
                have hchR8 := hR8.cap
                refine C_seq (C_seq (C_region (RL_q rfl (Yd_move rfl) (RL_q rfl (Yd_move rfl) (RL_q rfl (Yd_move rfl) (RL_q rfl (Yd_add rfl rfl (i64w (by omega) (by omega))) (RL_q rfl (Yd_lss rfl rfl) (RL_nil (X_then (?_))))))))))
                refine C_cond rfl (fun hb38 => ?_) (fun hb38 => ?_)
                · skip
                  try simp only [decide_eq_true_eq, decide_eq_false_iff_not, Bool.not_eq_true', Bool.not_eq_false', Decidable.not_not, Int.not_lt, Int.not_le, Bool.or_eq_true, Bool.and_eq_true, Bool.or_eq_false_iff, Bool.and_eq_false_iff] at hb38
                  refine C_skip (X_then (C_seq (C_block (C_region (RL_q rfl (Yd_move rfl) (RL_q rfl (Yd_move rfl) (RL_q rfl (Yd_move rfl) (?_))))))))
                  obtain ⟨adA_p, rfl, hghA_p, hglA_p⟩ := Vw.at_ (i := (off + (k : Int)).toNat) h_p (by omega)
                  refine RL_q rfl (Yd_idx Try.underlying32 (sz := 1) (by kernel_rfl) rfl rfl (by omega) (by omega)) (?_)
                  obtain ⟨x1, hx1, gx1⟩ := Vw.elem (i := (off + (k : Int)).toNat) h_p (by omega)
                  replace gx1 : 0 ≤ x1 ∧ x1 ≤ 255 := gx1
                  refine RL_q rfl (Yd_load Try.underlying5 rfl rfl (Vw.lq1 h_p hx1 rfl rfl)) (RL_l rfl (Ld_lit Try.underlying32 rfl (lit_flat Try.underlying32 Try.elt5 rfl rfl ⟨rfl, by decide⟩) ?_))
                  intro W1 he1 hz1 hL46
                  replace hE := Ext.trans hE he1
                  replace h_p := h_p.ext he1
                  replace hR8 := hR8.ext he1
                  replace hL0 := Ext.trans hL0 he1
                  have hO46 := Ow.of_blk (T := tU8) (l := [x1]) hL46 rfl (n := 1) rfl (by simp [maxLen]) (okc ⟨by omega, by omega⟩ okn)
                  clear hL46
                  refine RL_l rfl (Ld_apO (T := tU8) Try.underlying32 Try.elt5 rfl rfl rfl hR8 hO46.vw (by simp only [maxLen]; omega) (by omega) (by omega) ?_)
                  intro A47 c47 W2 hO47 hk2
                  have hs2 := hk2.size
                  replace hE := Ext.kp hE hk2 (fun k hk => by first | omega | (have hk := hk; dsimp only at hk; omega))
                  replace h_p := h_p.kp hk2 (fun k hk => by first | omega | (have hk := hk; dsimp only at hk; omega))
                  try replace hL0 := Ext.kp hL0 hk2 (fun k hk => by first | omega | (have hk := hk; dsimp only at hk; omega))
                  replace hO46 := hO46.kp hk2 (fun k hk => by first | omega | (have hk := hk; dsimp only at hk; omega))
                  have hn47 := hO47.ln
                  try simp only [List.length_append, List.length_cons, List.length_nil, List.length_set, List.length_take, List.length_drop, List.length_replicate, List.length_map, Nat.zero_add, Nat.add_zero] at hn47
                  have hc47 := hO47.cap
                  refine RL_q rfl (Yd_assign rfl) (RL_nil (X_block (X_then (C_region (RL_q rfl (Yd_move rfl) (RL_q rfl (Yd_add rfl rfl (i64w (by omega) (by omega))) (RL_q rfl (Yd_assign rfl) (RL_nil (?_)))))))))
                  refine X_again (⟨k + 1, A47, (ln8 + 1), c47⟩) ⟨rfl, rfl, rfl, rfl, rfl, rfl, (lk_int rfl (by omega)), trivial⟩ ?_ (by show n.toNat - (k + 1) < n.toNat - k; omega)
                  refine ⟨hO47.fit.cast ?_, ?_, hL0⟩
                  all_goals (try dsimp only)
                  all_goals (first | rfl | exact take_next (by assumption) (by omega) | omega)
                · skip
                  try simp only [decide_eq_true_eq, decide_eq_false_iff_not, Bool.not_eq_true', Bool.not_eq_false', Decidable.not_not, Int.not_lt, Int.not_le, Bool.or_eq_true, Bool.and_eq_true, Bool.or_eq_false_iff, Bool.and_eq_false_iff] at hb38
                  refine C_exit (X_thenE (X_thenE (X_blockE (X_then (C_seq (C_region (RL_q rfl (Yd_move rfl) (RL_q rfl (Yd_assign rfl) (RL_q rfl (Yd_assign rfl) (RL_nil (X_then (C_ret (X_ret2 rfl rfl rfl ?_)))))))))))))
                  refine ⟨_, _, _, _, rfl, (hR8.fit.more (by omega) (Nat.le_refl _)).cast ?_, ?_, hE⟩
                  all_goals (first | rfl | exact (pGet_no (m := n_p) (by omega) (fun h => by have := fitsE_zero h; omega)).symm | exact pGet_of (m := n_p) (by omega) (by omega) (by omega) (by omega) (by omega) (by omega) (by omega) | (unfold fitsE; (repeat' split) <;> first | rfl | omega))
theorem refPutV8 {lo_p B_p : Nat} {A_p : Option Addr} {n_p c_p : Nat} {p : List Int} {off : Int} {lo_b B_b : Nat} {A_b : Option Addr} {n_b c_b : Nat} {b : List Int} {w : World}  (h_p : Vw tU8 w lo_p B_p A_p n_p c_p p) (b_off : -9223372036854775808 ≤ off ∧ off ≤ 9223372036854775807) (h_b : Vw tU8 w lo_b B_b A_b n_b c_b b) :
    Calls Try.prog 26 #[.slice A_p n_p c_p, .int .i64 off, .slice A_b n_b c_b] w fun e w' => ∃ (A0 : Option Addr) (n0 c0 : Nat) (x1 : Int), e = .returned (.tuple #[.slice A0 n0 c0, .int .i64 x1]) ∧ Ow tU8 5 w' w.heap.size w'.heap.size A0 n0 c0 (pPut p off b) ∧ x1 = (fitsE n_p off n_b) ∧ Ext w w' := by
  have hE := Ext.refl w
  replace h_p := h_p.fit
  have hn_p := h_p.ln
  have hc_p := h_p.cap
  have hm_p := h_p.max
  simp only [maxLen] at hm_p
  replace h_b := h_b.fit
  have hn_b := h_b.ln
  have hc_b := h_b.cap
  have hm_b := h_b.max
  simp only [maxLen] at hm_b
  refine calls_of (l := [.slice A_p n_p c_p, .int .i64 off, .slice A_b n_b c_b]) (N := 55) Try.func26 rfl rfl rfl ?_
  refine C_seq (C_region (RL_q rfl (Yd_assign rfl) (RL_q rfl (Yd_assign rfl) (RL_nil (X_then (C_seq (C_region (RL_q rfl (Yd_move rfl) (RL_q rfl (Yd_move rfl) (RL_q rfl (Yd_move rfl) (RL_q rfl (Yd_len Try.underlying32 rfl) (RL_l rfl (Ld_call Try.func44 rfl (by kernel_rfl) rfl (refGetV h_p ⟨by first | omega | (dsimp only; omega), by first | omega | (dsimp only; omega)⟩ ⟨by first | omega | (dsimp only; omega), by first | omega | (dsimp only; omega)⟩) ?_)))))))))))))
  rintro e W1 ⟨A17_0, n17_0, c17_0, y17_1, rfl, hF17_0, hy17_1, he1⟩
  refine ⟨_, rfl, ?_⟩
  replace hE := Ext.trans hE he1
  replace h_p := h_p.ext he1
  replace h_b := h_b.ext he1
  have hs1 := he1.size
  have hn17_0 := hF17_0.ln
  try simp only [List.length_append, List.length_cons, List.length_nil, List.length_set, List.length_take, List.length_drop, List.length_replicate, List.length_map, Nat.zero_add, Nat.add_zero] at hn17_0
  have hc17_0 := hF17_0.cap
  refine RL_q rfl (Yd_move rfl) (RL_q rfl (Yd_extract rfl rfl) (RL_q rfl (Yd_extract rfl rfl) (RL_q rfl (Yd_assign rfl) (RL_q rfl (Yd_assign rfl) (RL_nil (X_then (C_seq (C_seq (C_region (RL_q rfl (Yd_move rfl) (RL_q rfl (Yd_neq rfl rfl) (?_))))))))))))
  have hz : y17_1 = 0 → _ := fun h => fitsE_zero (hy17_1.symm.trans h)
  refine RL_nil (X_then (?_))
  refine C_cond rfl (fun hb21 => ?_) (fun hb21 => ?_)
  · skip
    try simp only [decide_eq_true_eq, decide_eq_false_iff_not, Bool.not_eq_true', Bool.not_eq_false', Decidable.not_not, Int.not_lt, Int.not_le, Bool.or_eq_true, Bool.and_eq_true, Bool.or_eq_false_iff, Bool.and_eq_false_iff] at hb21
    refine C_seq (C_region (RL_q rfl (Yd_move rfl) (RL_q rfl (Yd_assign rfl) (RL_q rfl (Yd_assign rfl) (RL_nil (X_then (C_ret (X_thenR (X_ret2 rfl rfl rfl ?_)))))))))
    refine ⟨_, _, _, _, rfl, Ow.nil.cast ?_, ?_, hE⟩
    all_goals (first | rfl | omega | exact (pPut_no (m := n_p) (k := n_b) (by omega) (by omega) (by omega)).symm | exact pPut_all (by omega))
  · skip
    try simp only [decide_eq_true_eq, decide_eq_false_iff_not, Bool.not_eq_true', Bool.not_eq_false', Decidable.not_not, Int.not_lt, Int.not_le, Bool.or_eq_true, Bool.and_eq_true, Bool.or_eq_false_iff, Bool.and_eq_false_iff] at hb21
    refine C_skip (X_then (C_seq (C_region (RL_q rfl (Yd_assign rfl) (RL_nil (X_then (C_seq (C_seq (C_region (RL_q rfl (Yd_assign rfl) (RL_nil (X_then (C_block (?_))))))))))))))
    refine C_loop (T := Nat × Option Addr × Nat × Nat) (fun ⟨k, lA10, ln10, lc10⟩ => [(0, .slice A_p n_p c_p), (1, .int .i64 off), (2, .slice A_b n_b c_b), (6, .slice none 0 0), (7, .int .i64 0), (10, .slice lA10 ln10 lc10), (11, .int .i64 (k : Int))]) (fun ⟨k, lA10, ln10, lc10⟩ lw1 => Ow tU8 5 lw1 W1.heap.size lw1.heap.size lA10 ln10 lc10 ((pPut p off b).take k) ∧ (k ≤ 32) ∧ Ext W1 lw1) (fun ⟨k, lA10, ln10, lc10⟩ => 32 - k) (⟨0, none, 0, 0⟩) ⟨rfl, rfl, rfl, rfl, rfl, rfl, rfl, trivial⟩ ?_ ?_
    · refine ⟨(Ow.nil (lo := W1.heap.size)).cast ?_, ?_, Ext.refl _⟩
      all_goals (try dsimp only)
      all_goals (first | rfl | exact pPut_next1 (by assumption) (by omega) (by omega) (by omega) (by omega) | exact pPut_next2 (by assumption) (by omega) (by omega) (by omega) | omega)
    · rintro ⟨k, lA10, ln10, lc10⟩ lw1 ⟨hR10, hi1_0, hL1⟩
      replace hE := Ext.trans hE hL1
      replace h_p := h_p.ext hL1
      replace h_b := h_b.ext hL1
      replace hF17_0 := hF17_0.ext hL1
      have hsL1 := hL1.size
      have hnhR10 := hR10.ln
      try simp only [List.length_append, List.length_cons, List.length_nil, List.length_set, List.length_take, List.length_drop, List.length_replicate, List.length_map, Nat.zero_add, Nat.add_zero] at hnhR10
      have hchR10 := hR10.cap
      refine C_seq (C_seq (C_region (RL_q rfl (Yd_move rfl) (RL_q rfl (Yd_lss rfl rfl) (RL_nil (X_then (?_)))))))
      refine C_cond rfl (fun hb24 => ?_) (fun hb24 => ?_)
      · skip
        try simp only [decide_eq_true_eq, decide_eq_false_iff_not, Bool.not_eq_true', Bool.not_eq_false', Decidable.not_not, Int.not_lt, Int.not_le, Bool.or_eq_true, Bool.and_eq_true, Bool.or_eq_false_iff, Bool.and_eq_false_iff] at hb24
        refine C_skip (X_then (C_seq (C_block (C_seq (C_region (RL_q rfl (Yd_move rfl) (RL_q rfl (Yd_move rfl) (RL_q rfl (Yd_geq rfl rfl) (RL_q rfl (Yd_move rfl) (?_))))))))))
        apply RL_and (dj := 30) 37 7 rfl
        · intro hb30
          try simp only [decide_eq_true_eq, decide_eq_false_iff_not, Bool.not_eq_true', Bool.not_eq_false', Decidable.not_not, Int.not_lt, Int.not_le, Bool.or_eq_true, Bool.and_eq_true, Bool.or_eq_false_iff, Bool.and_eq_false_iff] at hb30
          refine QL_gq rfl rfl rfl (Yd_move rfl) (QL_gq rfl rfl rfl (Yd_move rfl) (QL_gq rfl rfl rfl (Yd_move rfl) (QL_gq rfl rfl rfl (Yd_len Try.underlying32 rfl) (QL_gq rfl rfl rfl (Yd_add rfl rfl (i64w (by omega) (by omega))) (QL_gq rfl rfl rfl (Yd_lss rfl rfl) (QL_q rfl (Yd_pickT rfl rfl) ((QL_nil 7 rfl rfl rfl))))))))
        · intro hb30
          try simp only [decide_eq_true_eq, decide_eq_false_iff_not, Bool.not_eq_true', Bool.not_eq_false', Decidable.not_not, Int.not_lt, Int.not_le, Bool.or_eq_true, Bool.and_eq_true, Bool.or_eq_false_iff, Bool.and_eq_false_iff] at hb30
          refine QL_gn rfl rfl rfl rfl (QL_gn rfl rfl rfl rfl (QL_gn rfl rfl rfl rfl (QL_gn rfl rfl rfl rfl (QL_gn rfl rfl rfl rfl (QL_gn rfl rfl rfl rfl (QL_q rfl (Yd_pickF rfl rfl) ((QL_nil 7 rfl rfl rfl))))))))
        · skip
          refine RL_nil (X_then (?_))
          refine C_cond rfl (fun hb37 => ?_) (fun hb37 => ?_)
          · skip
            try simp only [decide_eq_true_eq, decide_eq_false_iff_not, Bool.not_eq_true', Bool.not_eq_false', Decidable.not_not, Int.not_lt, Int.not_le, Bool.or_eq_true, Bool.and_eq_true, Bool.or_eq_false_iff, Bool.and_eq_false_iff] at hb37
            refine C_region (RL_q rfl (Yd_move rfl) (RL_q rfl (Yd_move rfl) (RL_q rfl (Yd_move rfl) (RL_q rfl (Yd_move rfl) (RL_q rfl (Yd_sub rfl rfl (i64w (by omega) (by omega))) (?_))))))
            obtain ⟨adA_b, rfl, hghA_b, hglA_b⟩ := Vw.at_ (i := ((k : Int) - off).toNat) h_b (by omega)
            refine RL_q rfl (Yd_idx Try.underlying32 (sz := 1) (by kernel_rfl) rfl rfl (by omega) (by omega)) (?_)
            obtain ⟨x1, hx1, gx1⟩ := Vw.elem (i := ((k : Int) - off).toNat) h_b (by omega)
            replace gx1 : 0 ≤ x1 ∧ x1 ≤ 255 := gx1
            refine RL_q rfl (Yd_load Try.underlying5 rfl rfl (Vw.lq1 h_b hx1 rfl rfl)) (RL_l rfl (Ld_lit Try.underlying32 rfl (lit_flat Try.underlying32 Try.elt5 rfl rfl ⟨rfl, by decide⟩) ?_))
            intro W2 he2 hz2 hL45
            replace hE := Ext.trans hE he2
            replace h_p := h_p.ext he2
            replace h_b := h_b.ext he2
            replace hF17_0 := hF17_0.ext he2
            replace hR10 := hR10.ext he2
            replace hL1 := Ext.trans hL1 he2
            have hO45 := Ow.of_blk (T := tU8) (l := [x1]) hL45 rfl (n := 1) rfl (by simp [maxLen]) (okc ⟨by omega, by omega⟩ okn)
            clear hL45
            refine RL_l rfl (Ld_apO (T := tU8) Try.underlying32 Try.elt5 rfl rfl rfl hR10 hO45.vw (by simp only [maxLen]; omega) (by omega) (by omega) ?_)
            intro A46 c46 W3 hO46 hk3
            have hs3 := hk3.size
            replace hE := Ext.kp hE hk3 (fun k hk => by first | omega | (have hk := hk; dsimp only at hk; omega))
            replace h_p := h_p.kp hk3 (fun k hk => by first | omega | (have hk := hk; dsimp only at hk; omega))
            replace h_b := h_b.kp hk3 (fun k hk => by first | omega | (have hk := hk; dsimp only at hk; omega))
            replace hF17_0 := hF17_0.kp hk3 (fun k hk => by first | omega | (have hk := hk; dsimp only at hk; omega))
            try replace hL1 := Ext.kp hL1 hk3 (fun k hk => by first | omega | (have hk := hk; dsimp only at hk; omega))
            replace hO45 := hO45.kp hk3 (fun k hk => by first | omega | (have hk := hk; dsimp only at hk; omega))
            have hn46 := hO46.ln
            try simp only [List.length_append, List.length_cons, List.length_nil, List.length_set, List.length_take, List.length_drop, List.length_replicate, List.length_map, Nat.zero_add, Nat.add_zero] at hn46
            have hc46 := hO46.cap
            refine RL_q rfl (Yd_assign rfl) (RL_nil (X_block (X_then (C_region (RL_q rfl (Yd_move rfl) (RL_q rfl (Yd_add rfl rfl (i64w (by omega) (by omega))) (RL_q rfl (Yd_assign rfl) (RL_nil (?_)))))))))
            refine X_again (⟨k + 1, A46, (ln10 + 1), c46⟩) ⟨rfl, rfl, rfl, rfl, rfl, rfl, rfl, trivial⟩ ?_ (by show 32 - (k + 1) < 32 - k; omega)
            refine ⟨hO46.fit.cast ?_, ?_, hL1⟩
            all_goals (try dsimp only)
            all_goals (first | rfl | exact pPut_next1 (by assumption) (by omega) (by omega) (by omega) (by omega) | exact pPut_next2 (by assumption) (by omega) (by omega) (by omega) | omega)
          · skip
            try simp only [decide_eq_true_eq, decide_eq_false_iff_not, Bool.not_eq_true', Bool.not_eq_false', Decidable.not_not, Int.not_lt, Int.not_le, Bool.or_eq_true, Bool.and_eq_true, Bool.or_eq_false_iff, Bool.and_eq_false_iff] at hb37
            refine C_region (RL_q rfl (Yd_move rfl) (RL_q rfl (Yd_move rfl) (RL_q rfl (Yd_move rfl) (?_))))
            obtain ⟨adA_p, rfl, hghA_p, hglA_p⟩ := Vw.at_ (i := k) h_p (by omega)
            refine RL_q rfl (Yd_idx Try.underlying32 (sz := 1) (by kernel_rfl) rfl rfl (by omega) (by omega)) (?_)
            obtain ⟨x2, hx2, gx2⟩ := Vw.elem (i := k) h_p (by omega)
            replace gx2 : 0 ≤ x2 ∧ x2 ≤ 255 := gx2
            refine RL_q rfl (Yd_load Try.underlying5 rfl rfl (Vw.lq1 h_p hx2 rfl rfl)) (RL_l rfl (Ld_lit Try.underlying32 rfl (lit_flat Try.underlying32 Try.elt5 rfl rfl ⟨rfl, by decide⟩) ?_))
            intro W2 he2 hz2 hL52
            replace hE := Ext.trans hE he2
            replace h_p := h_p.ext he2
            replace h_b := h_b.ext he2
            replace hF17_0 := hF17_0.ext he2
            replace hR10 := hR10.ext he2
            replace hL1 := Ext.trans hL1 he2
            have hO52 := Ow.of_blk (T := tU8) (l := [x2]) hL52 rfl (n := 1) rfl (by simp [maxLen]) (okc ⟨by omega, by omega⟩ okn)
            clear hL52
            refine RL_l rfl (Ld_apO (T := tU8) Try.underlying32 Try.elt5 rfl rfl rfl hR10 hO52.vw (by simp only [maxLen]; omega) (by omega) (by omega) ?_)
            intro A53 c53 W3 hO53 hk3
            have hs3 := hk3.size
            replace hE := Ext.kp hE hk3 (fun k hk => by first | omega | (have hk := hk; dsimp only at hk; omega))
            replace h_p := h_p.kp hk3 (fun k hk => by first | omega | (have hk := hk; dsimp only at hk; omega))
            replace h_b := h_b.kp hk3 (fun k hk => by first | omega | (have hk := hk; dsimp only at hk; omega))
            replace hF17_0 := hF17_0.kp hk3 (fun k hk => by first | omega | (have hk := hk; dsimp only at hk; omega))
            try replace hL1 := Ext.kp hL1 hk3 (fun k hk => by first | omega | (have hk := hk; dsimp only at hk; omega))
            replace hO52 := hO52.kp hk3 (fun k hk => by first | omega | (have hk := hk; dsimp only at hk; omega))
            have hn53 := hO53.ln
            try simp only [List.length_append, List.length_cons, List.length_nil, List.length_set, List.length_take, List.length_drop, List.length_replicate, List.length_map, Nat.zero_add, Nat.add_zero] at hn53
            have hc53 := hO53.cap
            refine RL_q rfl (Yd_assign rfl) (RL_nil (X_block (X_then (C_region (RL_q rfl (Yd_move rfl) (RL_q rfl (Yd_add rfl rfl (i64w (by omega) (by omega))) (RL_q rfl (Yd_assign rfl) (RL_nil (?_)))))))))
            refine X_again (⟨k + 1, A53, (ln10 + 1), c53⟩) ⟨rfl, rfl, rfl, rfl, rfl, rfl, rfl, trivial⟩ ?_ (by show 32 - (k + 1) < 32 - k; omega)
            refine ⟨hO53.fit.cast ?_, ?_, hL1⟩
            all_goals (try dsimp only)
            all_goals (first | rfl | exact pPut_next1 (by assumption) (by omega) (by omega) (by omega) (by omega) | exact pPut_next2 (by assumption) (by omega) (by omega) (by omega) | omega)
      · skip
        try simp only [decide_eq_true_eq, decide_eq_false_iff_not, Bool.not_eq_true', Bool.not_eq_false', Decidable.not_not, Int.not_lt, Int.not_le, Bool.or_eq_true, Bool.and_eq_true, Bool.or_eq_false_iff, Bool.and_eq_false_iff] at hb24
        refine C_exit (X_thenE (X_thenE (X_blockE (X_then (C_seq (C_region (RL_q rfl (Yd_move rfl) (RL_q rfl (Yd_assign rfl) (RL_q rfl (Yd_assign rfl) (RL_nil (X_then (C_ret (X_ret2 rfl rfl rfl ?_)))))))))))))
        refine ⟨_, _, _, _, rfl, (hR10.fit.more (by omega) (Nat.le_refl _)).cast ?_, ?_, hE⟩
        all_goals (first | rfl | omega | exact (pPut_no (m := n_p) (k := n_b) (by omega) (by omega) (by omega)).symm | exact pPut_all (by omega))

/-- a frame -/
structure Fr where
  u : Bool
  d : Bool
  r : Bool
  pins : Int
  page : Int
  b : List Int
def frC (f : Fr) : List Value := .bool f.u :: .bool f.d :: .bool f.r :: .int .i64 f.pins :: .int .i64 f.page :: ints .u8 f.b
structure FOk (f : Fr) : Prop where
  hl : f.b.length = 32
  hy : Byt f.b
  hp : 0 ≤ f.pins ∧ f.pins ≤ 100
def emptyF : Fr := ⟨false, false, false, 0, 0, List.replicate 32 0⟩
theorem emptyF_ok : FOk emptyF := ⟨rfl, by intro b hb; rw [List.eq_of_mem_replicate hb]; decide, by decide⟩
def pinF (f : Fr) : Int × Fr := if f.u = false then (6, f) else if 100 ≤ f.pins then (13, f) else (0, ⟨f.u, f.d, true, f.pins + 1, f.page, f.b⟩)
def unpinF (f : Fr) : Int × Fr := if f.pins = 0 then (6, f) else (0, ⟨f.u, f.d, f.r, f.pins - 1, f.page, f.b⟩)
def loadF (f : Fr) (pg : Int) (b : List Int) : Int × Fr := if b.length = 32 then (0, ⟨true, false, false, 0, pg, b⟩) else (2, f)
def getF (f : Fr) (off n : Int) : List Int × Int × Fr := if f.pins = 0 then ([], 6, f) else if fitsE 32 off n = 0 then (pGet f.b off n, 0, ⟨f.u, f.d, true, f.pins, f.page, f.b⟩) else ([], fitsE 32 off n, f)
def putF (f : Fr) (off : Int) (b : List Int) : Int × Fr := if f.pins = 0 then (6, f) else if fitsE 32 off b.length = 0 then (0, ⟨f.u, true, true, f.pins, f.page, pPut f.b off b⟩) else (fitsE 32 off b.length, f)
theorem pPut_byt {p b : List Int} {off : Int} (hp : Byt p) (hb : Byt b) : Byt (pPut p off b) := by
  unfold pPut
  split
  · exact ((hp.take _).append hb).append (hp.drop _)
  · exact Byt.nil
theorem pPut_32 {p b : List Int} {off : Int} (hp : p.length = 32) (h : fitsE 32 off b.length = 0) : (pPut p off b).length = 32 := by
  have h1 := fitsE_zero h
  unfold pPut
  rw [if_pos (by rw [hp]; exact h)]
  simp only [List.length_append, List.length_take, List.length_drop]
  omega
theorem loadF_32 {f : Fr} {pg : Int} {b : List Int} (h : b.length = 32) : loadF f pg b = (0, ⟨true, false, false, 0, pg, b⟩) := if_pos h
theorem pinF_y {d r : Bool} {p pg : Int} {b : List Int} (h : p < 100) : pinF ⟨true, d, r, p, pg, b⟩ = (0, ⟨true, d, true, p + 1, pg, b⟩) := by
  unfold pinF; rw [if_neg (by simp), if_neg (by dsimp only; omega)]
theorem pinF_n {d r : Bool} {p pg : Int} {b : List Int} (h : 100 ≤ p) : pinF ⟨true, d, r, p, pg, b⟩ = (13, ⟨true, d, r, p, pg, b⟩) := by
  unfold pinF; rw [if_neg (by simp), if_pos (by dsimp only; omega)]
theorem unpinF_y {u d r : Bool} {p pg : Int} {b : List Int} (h : p ≠ 0) : unpinF ⟨u, d, r, p, pg, b⟩ = (0, ⟨u, d, r, p - 1, pg, b⟩) := by
  unfold unpinF; rw [if_neg h]
theorem unpinF_n {u d r : Bool} {p pg : Int} {b : List Int} (h : p = 0) : unpinF ⟨u, d, r, p, pg, b⟩ = (6, ⟨u, d, r, p, pg, b⟩) := by
  unfold unpinF; rw [if_pos h]
theorem getF_n {u d r : Bool} {p pg : Int} {b : List Int} {off n : Int} (h : p = 0) : getF ⟨u, d, r, p, pg, b⟩ off n = ([], 6, ⟨u, d, r, p, pg, b⟩) := by
  unfold getF; rw [if_pos h]
theorem getF_y {u d r : Bool} {p pg : Int} {b : List Int} {off n : Int} (h : p ≠ 0) (hf : fitsE 32 off n = 0) : getF ⟨u, d, r, p, pg, b⟩ off n = (pGet b off n, 0, ⟨u, d, true, p, pg, b⟩) := by
  unfold getF; rw [if_neg h, if_pos hf]
theorem putF_n {u d r : Bool} {p pg : Int} {b x : List Int} {off : Int} (h : p = 0) : putF ⟨u, d, r, p, pg, b⟩ off x = (6, ⟨u, d, r, p, pg, b⟩) := by
  unfold putF; rw [if_pos h]
theorem putF_y {u d r : Bool} {p pg : Int} {b x : List Int} {off : Int} (h : p ≠ 0) (hf : fitsE 32 off x.length = 0) : putF ⟨u, d, r, p, pg, b⟩ off x = (0, ⟨u, true, true, p, pg, pPut b off x⟩) := by
  unfold putF; rw [if_neg h, if_pos hf]
theorem pinF_ok {f : Fr} (h : FOk f) : FOk (pinF f).2 := by
  unfold pinF
  split
  · exact h
  · split
    · exact h
    · exact ⟨h.hl, h.hy, by have := h.hp; dsimp only; omega⟩
theorem unpinF_ok {f : Fr} (h : FOk f) : FOk (unpinF f).2 := by
  unfold unpinF
  split
  · exact h
  · exact ⟨h.hl, h.hy, by have := h.hp; dsimp only; omega⟩
theorem loadF_ok {f : Fr} {pg : Int} {b : List Int} (h : FOk f) (hb : Byt b) : FOk (loadF f pg b).2 := by
  unfold loadF
  split
  · exact ⟨by assumption, hb, by dsimp only; omega⟩
  · exact h
theorem getF_ok {f : Fr} {off n : Int} (h : FOk f) : FOk (getF f off n).2.2 := by
  unfold getF
  split
  · exact h
  · split
    · exact ⟨h.hl, h.hy, h.hp⟩
    · exact h
theorem putF_ok {f : Fr} {off : Int} {b : List Int} (h : FOk f) (hb : Byt b) : FOk (putF f off b).2 := by
  unfold putF
  split
  · exact h
  · split
    · exact ⟨pPut_32 h.hl (by assumption), pPut_byt h.hy hb, h.hp⟩
    · exact h
theorem frC_put {f : Fr} {l : List Int} (hl : f.b.length = 32) : (frC f).take 5 ++ ints .u8 l ++ (frC f).drop (5 + 32) = frC ⟨f.u, f.d, f.r, f.pins, f.page, l⟩ := by
  have : (frC f).drop (5 + 32) = [] := List.drop_of_length_le (by simp [frC, ints]; omega)
  rw [this, List.append_nil]; rfl
theorem frC_len {f : Fr} (h : FOk f) : (frC f).length = 37 := by have := h.hl; simp [frC, ints]; omega
theorem list32 {l : List Int} (h : l.length = 32) : ∃ b0 b1 b2 b3 b4 b5 b6 b7 b8 b9 b10 b11 b12 b13 b14 b15 b16 b17 b18 b19 b20 b21 b22 b23 b24 b25 b26 b27 b28 b29 b30 b31 : Int, l = [b0, b1, b2, b3, b4, b5, b6, b7, b8, b9, b10, b11, b12, b13, b14, b15, b16, b17, b18, b19, b20, b21, b22, b23, b24, b25, b26, b27, b28, b29, b30, b31] := by
  match l, h with
  | [b0, b1, b2, b3, b4, b5, b6, b7, b8, b9, b10, b11, b12, b13, b14, b15, b16, b17, b18, b19, b20, b21, b22, b23, b24, b25, b26, b27, b28, b29, b30, b31], _ => exact ⟨b0, b1, b2, b3, b4, b5, b6, b7, b8, b9, b10, b11, b12, b13, b14, b15, b16, b17, b18, b19, b20, b21, b22, b23, b24, b25, b26, b27, b28, b29, b30, b31, rfl⟩
theorem Yd_sliceArr {P : Program} {S : World → Prop} {E : Env} {ty t e : TypeId} {x : Operand} {n sz : Nat} {ad : Addr} (hT : P.underlying t = some (.array n e)) (hs : (P.info? e).map (·.size) = some sz) (hx : ev E x = some (.pointer (some ad))) :
    Yd P S E (.slice t x none none none) ty (.slice (some ad) n n) :=
  fun N a ha o ho ht W hW => by
    obtain ⟨ei, hei, he⟩ := Option.map_eq_some_iff.1 hs
    simp only [execOp, ho, ha.ev hx, Option.map_none]
    simp [Instr.sliceAt, run_underlying hT, Instr.sureAddr, Instr.sliceBounds, sizeOf, typeInfo, hei, he, add_zero']
theorem Yd_arrPtr {P : Program} {S : World → Prop} {E : Env} {ty t e : TypeId} {x : Operand} {n m c : Nat} {A : Option Addr} (hT : P.underlying t = some (.array n e)) (hx : ev E x = some (.slice A m c)) (hn : n ≤ m) : Yd P S E (.sliceToArrayPointer t x) ty (.pointer A) :=
  fun N a ha o ho ht W hW => by
    simp only [execOp, ho, ha.ev hx]
    simp [run_arrayAt _ _ _ _ _ _ _ hT hn]
theorem vw_arr {w : World} {lo B n c : Nat} {ad : Addr} {l : List Int} (h : Vw tU8 w lo B (some ad) n c l) : ∀ W, Ext w W → ∀ j u, (ints .u8 l)[j]? = some u → W.cell? (ad.add j) = some u := fun W hW j u hu => by
  exact ((h.u8.ext hW).cell1 hu rfl)
theorem vw_blk {w : World} {g n o : Nat} {t : TypeId} {cs : List Value} {l : List Int} (h : Blk w g t cs) (hn : l.length = n) (hy : Byt l) (h6 : n ≤ 60000) (he : ∀ j u, (ints .u8 l)[j]? = some u → cs[o + j]? = some u) : Vw tU8 w 0 w.heap.size (some ⟨g, o, none⟩) n n l := by
  refine ⟨⟨⟨?_, fun hn0 => ⟨_, rfl, h.lt, fun j u hu => ?_⟩⟩, Nat.le_refl _, (fun e => by cases e), fun _ _ => Nat.zero_le _⟩, by simp only [maxLen]; omega, hy⟩
  · rw [cells_ints]; simp [ints, hn]; exact (Nat.mul_one n).symm
  · rw [cells_ints] at hu; rw [add_lit, h.cell]; exact he j u hu
theorem blk_all {w : World} {g : Nat} {t : TypeId} {cs v : List Value} (h : Blk w g t (cs.take 0 ++ v ++ cs.drop (0 + v.length))) (hl : cs.length ≤ v.length) : Blk w g t v := by
  rw [List.drop_of_length_le (by omega), List.append_nil, List.take_zero, List.nil_append] at h; exact h
theorem ldBS {w : World} {g : Nat} {t : TypeId} {cs : List Value} (h : Blk w g t cs) (o : Nat) (cs' : List Value) (hs : (cs.drop o).take cs'.length = cs') : ∀ W, Ext w W → ∀ j u, cs'[j]? = some u → W.cell? ((⟨g, o, none⟩ : Addr).add j) = some u := fun W hW j u hu => by
  rw [add_lit, (h.ext hW).cell]
  rw [← hs, List.getElem?_take] at hu
  split at hu
  · rwa [List.getElem?_drop] at hu
  · cases hu
theorem frC_b {f : Fr} : ∀ j u, (ints .u8 f.b)[j]? = some u → (frC f)[5 + j]? = some u := fun j u hu => by
  rw [show 5 + j = j + 5 by omega]; exact hu
end Go.Proofs.AL
