import Derived.Test.YtfckeecfppmepaaReq2
set_option linter.unusedVariables false
set_option linter.unusedSimpArgs false
namespace Go.Proofs.AL
open Go.RowKit

def fill (b : List Int) (n : Nat) : List Int := (List.range n).map fun i => b.getD (i % b.length) 0
theorem fill_succ (b : List Int) (n : Nat) : fill b (n + 1) = fill b n ++ [b.getD (n % b.length) 0] := by simp [fill, List.range_succ]
@[simp] theorem fill_len (b : List Int) (n : Nat) : (fill b n).length = n := by simp [fill]
theorem getD_byt {b : List Int} (h : Byt b) (i : Nat) : 0 ≤ b.getD i 0 ∧ b.getD i 0 ≤ 255 := by
  rw [List.getD_eq_getElem?_getD]
  by_cases hi : i < b.length
  · rw [List.getElem?_eq_getElem hi]; exact h.get i hi
  · rw [List.getElem?_eq_none (by omega)]; simp
theorem fill_byt {b : List Int} (h : Byt b) (n : Nat) : Byt (fill b n) := fun x hx => by
  simp only [fill, List.mem_map] at hx
  obtain ⟨i, _, rfl⟩ := hx
  exact getD_byt h _
theorem Fill_c {B : Nat} (A : Option Addr) (m c n : Nat) (b : List Int) (w : World) (hr : Rd w B 1 A m (ints .u8 b)) (hm : b.length = m) (hm2 : m ≤ 9223372036854775807) (hn : n ≤ 65536) :
    Calls Try.prog 51 #[.slice A m c, .int .i64 n] w fun e w' => ∃ A' c', e = .returned (.slice A' n c') ∧ Own w' w.heap.size 5 1 A' n c' (ints .u8 (fill b n)) ∧ Ext w w' := by
  refine calls_of (l := [.slice A m c, .int .i64 n]) (N := 29) Try.func51 rfl rfl rfl ?_
  refine C_seq (C_region (RL_q rfl (Yd_assign rfl) (RL_nil (X_then (C_seq (C_region (RL_q rfl (Yd_assign rfl) (RL_nil (X_then (C_seq (C_seq (C_region (RL_q rfl (Yd_assign rfl) (RL_nil (X_then (C_block (?_)))))))))))))))))
  refine C_loop (T := Nat × Option Addr × Nat) (fun ⟨k, A', c'⟩ => [(0, .slice A m c), (1, .int .i64 n), (5, .slice A' k c'), (6, .int .i64 k)]) (fun ⟨k, A', c'⟩ w1 => k ≤ n ∧ Own w1 w.heap.size 5 1 A' k c' (ints .u8 (fill b k)) ∧ Ext w w1) (fun ⟨k, A', c'⟩ => n - k) (⟨0, none, 0⟩) ⟨rfl, rfl, rfl, rfl, trivial⟩ ?_ ?_
  · exact ⟨by omega, Own.nil _ _ _ _, Ext.refl _⟩
  · rintro ⟨k, A', c'⟩ w1 ⟨hk, hO, hE⟩
    refine C_seq (C_seq (C_region (RL_q rfl (Yd_move rfl) (RL_q rfl (Yd_move rfl) (RL_q rfl (Yd_lss rfl rfl) (RL_nil (X_then (?_))))))))
    refine C_cond rfl (fun hb => ?_) (fun hb => ?_)
    · skip
      have hb : (k : Int) < n := of_decide_eq_true hb
      have hsz := hE.size
      refine C_skip (X_then (C_seq (C_block (C_seq (C_region (RL_q rfl (Yd_move rfl) (RL_q rfl (Yd_len Try.underlying24 rfl) (RL_q rfl (Yd_gtr rfl rfl) (RL_nil (X_then (?_)))))))))))
      refine C_cond rfl (fun hb2 => ?_) (fun hb2 => ?_)
      · skip
        have hb2 : (0 : Int) < m := of_decide_eq_true hb2
        have hlt : k % m < m := Nat.mod_lt _ (by omega)
        obtain ⟨ad, rfl, _, _⟩ := hr.cells (by omega)
        have hget := ints_get .u8 b (k % m) (by omega)
        have hv : b.getD (k % b.length) 0 = b[k % m]'(by omega) := by simp only [List.getD_eq_getElem?_getD, hm, List.getElem?_eq_getElem (show k % m < b.length by omega), Option.getD_some]
        have hrem : ((k : Int) % (m : Int)).toNat = k % m := by omega
        refine C_region (RL_q rfl (Yd_move rfl) (RL_q rfl (Yd_move rfl) (RL_q rfl (Yd_move rfl) (RL_q rfl (Yd_move rfl) (RL_q rfl (Yd_len Try.underlying24 rfl) (RL_q rfl (Yd_rem rfl rfl (by omega) (tmodw (by omega))) (RL_q rfl (Yd_idx Try.underlying24 (sz := 1) (by kernel_rfl) rfl rfl (by omega) (by omega)) (RL_q rfl (Yd_load Try.underlying5 rfl rfl (ldK (hr.ext hE) (by omega) hget (by omega))) (RL_l rfl (Ld_lit Try.underlying24 rfl (lit_flat Try.underlying24 Try.elt5 rfl rfl ⟨rfl, by decide⟩) ?_))))))))))
        intro W1 he1 hz1 hB
        replace hO := hO.ext he1
        replace hE := Ext.trans hE he1
        refine RL_l rfl (Ld_app Try.underlying24 Try.elt5 rfl (by decide) rfl rfl hO (Blk.one hB) (by simp [Value.oneCell']) (by simp only [maxLen]; omega) (by omega) hE.size (by intro h; cases h) rfl ?_)
        intro A2 c2 W2 hO2 hg2 hat2
        have hE2 := ext_app hO hE hE.size hg2
        refine RL_q rfl (Yd_assign rfl) (RL_nil (X_block (X_then (C_region (RL_q rfl (Yd_move rfl) (RL_q rfl (Yd_add rfl rfl (i64w (by omega) (by omega))) (RL_q rfl (Yd_assign rfl) (RL_nil (?_)))))))))
        refine X_again (⟨k + 1, A2, c2⟩) ⟨rfl, rfl, rfl, rfl, trivial⟩ ?_ (by first | omega | (dsimp only; omega))
        refine ⟨by omega, ?_, hE2⟩
        rw [fill_succ, ints_append, hv]
        exact hO2
      · skip
        have hb2 : ¬ (0 : Int) < m := of_decide_eq_false hb2
        have hv : b.getD (k % b.length) 0 = 0 := by rw [show b = [] from List.eq_nil_of_length_eq_zero (by omega)]; rfl
        refine C_region (RL_q rfl (Yd_move rfl) (RL_l rfl (Ld_lit Try.underlying24 rfl (lit_flat Try.underlying24 Try.elt5 rfl rfl ⟨rfl, by decide⟩) ?_)))
        intro W1 he1 hz1 hB
        replace hO := hO.ext he1
        replace hE := Ext.trans hE he1
        refine RL_l rfl (Ld_app Try.underlying24 Try.elt5 rfl (by decide) rfl rfl hO (Blk.one hB) (by simp [Value.oneCell']) (by simp only [maxLen]; omega) (by omega) hE.size (by intro h; cases h) rfl ?_)
        intro A2 c2 W2 hO2 hg2 hat2
        have hE2 := ext_app hO hE hE.size hg2
        refine RL_q rfl (Yd_assign rfl) (RL_nil (X_block (X_then (C_region (RL_q rfl (Yd_move rfl) (RL_q rfl (Yd_add rfl rfl (i64w (by omega) (by omega))) (RL_q rfl (Yd_assign rfl) (RL_nil (?_)))))))))
        refine X_again (⟨k + 1, A2, c2⟩) ⟨rfl, rfl, rfl, rfl, trivial⟩ ?_ (by first | omega | (dsimp only; omega))
        refine ⟨by omega, ?_, hE2⟩
        rw [fill_succ, ints_append, hv]
        exact hO2
    · skip
      have hb : ¬ (k : Int) < n := of_decide_eq_false hb
      obtain rfl : k = n := by omega
      refine C_exit (X_thenE (X_thenE (X_blockE (X_then (C_seq (C_region (RL_q rfl (Yd_move rfl) (RL_q rfl (Yd_assign rfl) (RL_nil (X_then (C_ret (X_ret1 rfl rfl ?_))))))))))))
      exact ⟨A', c', rfl, hO, hE⟩
theorem refFew_c {lo B : Nat} (r : Rq) (w : World) (h_r : RqAt w lo B r) :
    Calls Try.prog 36 #[.agg #[.int .i64 r.op, .int .i64 r.page, .int .i64 r.off, .int .i64 r.len, .slice r.A r.n r.c]] w fun e w' => ∃ A c, e = .returned (Rq.val ⟨r.op, r.page, r.off, r.len, A, (few r.d 34).length, c, few r.d 34⟩) ∧ RqAt w' w.heap.size w'.heap.size ⟨r.op, r.page, r.off, r.len, A, (few r.d 34).length, c, few r.d 34⟩ ∧ Ext w w' := by
  have hE := Ext.refl w
  replace h_r := h_r.fit
  refine calls_of (l := [.agg #[.int .i64 r.op, .int .i64 r.page, .int .i64 r.off, .int .i64 r.len, .slice r.A r.n r.c]]) (N := 8) Try.func36 rfl rfl rfl ?_
  refine C_seq (C_region (RL_l rfl (Ld_box rfl ?_)))
  have hg_1 := hE.size
  intro W1 he1 hz1 hB1
  replace hE := Ext.trans hE he1
  replace h_r := h_r.ext he1
  refine RL_l rfl (Ld_alloc (v := (.agg #[(.int .i64 0), (.int .i64 0), (.int .i64 0), (.int .i64 0), (.slice none 0 0)])) (by kernel_rfl) ?_)
  have hg_2 := hE.size
  intro W2 he2 hz2 hB2
  replace hE := Ext.trans hE he2
  replace h_r := h_r.ext he2
  replace hB1 := hB1.ext he2
  refine RL_nil (X_then (C_seq (C_region (RL_q rfl (Yd_fld (off := 4) Try.underlying53 (by kernel_rfl) rfl) (RL_q rfl (Yd_load Try.underlying24 rfl rfl (ldB hB1 rfl)) (RL_l rfl (Ld_call Try.func17 rfl (by kernel_rfl) rfl (Few_c r.A r.n r.c r.d 34 _ h_r.rw_.rd h_r.ln h_r.rw_.cap (by omega) (by omega) h_r.rw_.nil) ?_)))))))
  rintro e W3 ⟨A9, c9, rfl, hF, he3⟩
  refine ⟨_, rfl, ?_⟩
  replace hE := Ext.trans hE he3
  replace h_r := h_r.ext he3
  replace hB1 := hB1.ext he3
  replace hB2 := hB2.ext he3
  have hs3 := he3.size
  have hFc := hF.cap.2
  replace hF := hF.rw_
  refine RL_q rfl (Yd_fld (off := 4) Try.underlying53 (by kernel_rfl) rfl) (RL_l0 (Ld_store (by kernel_rfl) rfl rfl hB1 (Nat.le_of_ble_eq_true rfl) (by simp [cellsL, Value.cells, Value.oneCell']) ?_))
  intro W4 hu4 hz4 hB1
  replace hE := ext_but hE hu4 hg_1
  replace h_r := h_r.bt hu4 (by omega)
  replace hB2 := hB2.bt hu4 (by omega)
  replace hF := hF.bt hu4 (by omega)
  refine RL_nil (X_then (C_seq (C_region (RL_q rfl (Yd_loadA Try.underlying53 rfl (by kernel_rfl) rfl (ldBA hB1)) (RL_l0 (Ld_store (by kernel_rfl) rfl rfl hB2 (Nat.le_of_ble_eq_true rfl) (by simp [cellsL, Value.cells, Value.oneCell']) ?_))))))
  intro W5 hu5 hz5 hB2
  replace hE := ext_but hE hu5 hg_2
  replace h_r := h_r.bt hu5 (by omega)
  replace hB1 := hB1.bt hu5 (by omega)
  replace hF := hF.bt hu5 (by omega)
  refine RL_nil (X_then (C_ret (X_retC rfl rfl Try.underlying53 rfl (by kernel_rfl) hB2 ?_)))
  exact ⟨A9, c9, rfl, ⟨hF.more (by omega) (by omega), rfl, few_byt h_r.byt 34, hFc, h_r.op, h_r.page, h_r.off, h_r.len⟩, hE⟩
theorem odd_c {lo B lo' B' : Nat} (q r : Rq) (which : Int) (w : World) (h_q : RqAt w lo B q) (h_r : RqAt w lo' B' r) (h1 : -9223372036854775808 ≤ which) (h2 : which ≤ 9223372036854775807) :
    Calls Try.prog 37 #[.agg #[.int .i64 q.op, .int .i64 q.page, .int .i64 q.off, .int .i64 q.len, .slice q.A q.n q.c], .agg #[.int .i64 r.op, .int .i64 r.page, .int .i64 r.off, .int .i64 r.len, .slice r.A r.n r.c], .int .i64 which] w fun e w' => ∃ x : Rq, e = .returned x.val ∧ RqAt w' 0 w'.heap.size x ∧ Ext w w' := by
  have hE := Ext.refl w
  replace h_q := h_q.fit
  replace h_r := h_r.fit
  refine calls_of (l := [.agg #[.int .i64 q.op, .int .i64 q.page, .int .i64 q.off, .int .i64 q.len, .slice q.A q.n q.c], .agg #[.int .i64 r.op, .int .i64 r.page, .int .i64 r.off, .int .i64 r.len, .slice r.A r.n r.c], .int .i64 which]) (N := 34) Try.func37 rfl rfl rfl ?_
  refine C_seq (C_region (RL_l rfl (Ld_box rfl ?_)))
  have hg_3 := hE.size
  intro W1 he1 hz1 hB3
  replace hE := Ext.trans hE he1
  replace h_q := h_q.ext he1
  replace h_r := h_r.ext he1
  refine RL_l rfl (Ld_box rfl ?_)
  have hg_4 := hE.size
  intro W2 he2 hz2 hB4
  replace hE := Ext.trans hE he2
  replace h_q := h_q.ext he2
  replace h_r := h_r.ext he2
  replace hB3 := hB3.ext he2
  refine RL_l rfl (Ld_alloc (v := (.agg #[(.int .i64 0), (.int .i64 0), (.int .i64 0), (.int .i64 0), (.slice none 0 0)])) (by kernel_rfl) ?_)
  have hg_6 := hE.size
  intro W3 he3 hz3 hB6
  replace hE := Ext.trans hE he3
  replace h_q := h_q.ext he3
  replace h_r := h_r.ext he3
  replace hB3 := hB3.ext he3
  replace hB4 := hB4.ext he3
  refine RL_nil (X_then (C_seq (C_seq (C_region (RL_q rfl (Yd_move rfl) (RL_l rfl (Ld_call Try.func14 rfl (by kernel_rfl) rfl (Around_c which _ _ h1 h2 (by omega) (by omega)) ?_)))))))
  rintro e W4 ⟨rfl, rfl⟩
  refine ⟨_, rfl, ?_⟩
  refine RL_nil (X_then (C_block (C_seq (C_region (RL_q rfl (Yd_eql rfl rfl) (RL_q rfl (Yd_assign rfl) (RL_nil (X_then (?_)))))))))
  refine C_cond rfl (fun hb13 => ?_) (fun hb13 => ?_)
  · skip
    try simp only [decide_eq_true_eq, decide_eq_false_iff_not, Bool.not_eq_true', Bool.not_eq_false', Decidable.not_not, Int.not_lt, Int.not_le, Bool.or_eq_true, Bool.and_eq_true, Bool.or_eq_false_iff, Bool.and_eq_false_iff] at hb13
    refine C_region (RL_q rfl (Yd_fld (off := 0) Try.underlying53 (by kernel_rfl) rfl) (RL_q rfl (Yd_load Try.underlying3 rfl rfl (ldB hB4 rfl)) (RL_q rfl (Yd_fld (off := 0) Try.underlying53 (by kernel_rfl) rfl) (RL_l0 (Ld_store (by kernel_rfl) rfl rfl hB3 (Nat.le_of_ble_eq_true rfl) (by simp [cellsL, Value.cells, Value.oneCell']) ?_)))))
    intro W5 hu5 hz5 hB3
    replace hE := ext_but hE hu5 hg_3
    replace h_q := h_q.bt hu5 (by omega)
    replace h_r := h_r.bt hu5 (by omega)
    replace hB4 := hB4.bt hu5 (by omega)
    replace hB6 := hB6.bt hu5 (by omega)
    refine RL_nil (X_block (X_then (C_seq (C_region (RL_q rfl (Yd_loadA Try.underlying53 rfl (by kernel_rfl) rfl (ldBA hB3)) (RL_l0 (Ld_store (by kernel_rfl) rfl rfl hB6 (Nat.le_of_ble_eq_true rfl) (by simp [cellsL, Value.cells, Value.oneCell']) ?_)))))))
    intro W6 hu6 hz6 hB6
    replace hE := ext_but hE hu6 hg_6
    replace h_q := h_q.bt hu6 (by omega)
    replace h_r := h_r.bt hu6 (by omega)
    replace hB3 := hB3.bt hu6 (by omega)
    replace hB4 := hB4.bt hu6 (by omega)
    refine RL_nil (X_then (C_ret (X_retC rfl rfl Try.underlying53 rfl (by kernel_rfl) hB6 ?_)))
    exact ⟨⟨r.op, q.page, q.off, q.len, q.A, q.n, q.c, q.d⟩, rfl, ⟨(h_q.rw_.more (Nat.zero_le _) (by omega)), h_q.ln, h_q.byt, h_q.cap, h_r.op, h_q.page, h_q.off, h_q.len⟩, hE⟩
  · skip
    try simp only [decide_eq_true_eq, decide_eq_false_iff_not, Bool.not_eq_true', Bool.not_eq_false', Decidable.not_not, Int.not_lt, Int.not_le, Bool.or_eq_true, Bool.and_eq_true, Bool.or_eq_false_iff, Bool.and_eq_false_iff] at hb13
    refine C_seq (C_region (RL_q rfl (Yd_eql rfl rfl) (RL_q rfl (Yd_assign rfl) (RL_nil (X_then (?_))))))
    refine C_cond rfl (fun hb18 => ?_) (fun hb18 => ?_)
    · skip
      try simp only [decide_eq_true_eq, decide_eq_false_iff_not, Bool.not_eq_true', Bool.not_eq_false', Decidable.not_not, Int.not_lt, Int.not_le, Bool.or_eq_true, Bool.and_eq_true, Bool.or_eq_false_iff, Bool.and_eq_false_iff] at hb18
      refine C_region (RL_q rfl (Yd_fld (off := 1) Try.underlying53 (by kernel_rfl) rfl) (RL_q rfl (Yd_load Try.underlying3 rfl rfl (ldB hB4 rfl)) (RL_q rfl (Yd_fld (off := 1) Try.underlying53 (by kernel_rfl) rfl) (RL_l0 (Ld_store (by kernel_rfl) rfl rfl hB3 (Nat.le_of_ble_eq_true rfl) (by simp [cellsL, Value.cells, Value.oneCell']) ?_)))))
      intro W5 hu5 hz5 hB3
      replace hE := ext_but hE hu5 hg_3
      replace h_q := h_q.bt hu5 (by omega)
      replace h_r := h_r.bt hu5 (by omega)
      replace hB4 := hB4.bt hu5 (by omega)
      replace hB6 := hB6.bt hu5 (by omega)
      refine RL_nil (X_block (X_then (C_seq (C_region (RL_q rfl (Yd_loadA Try.underlying53 rfl (by kernel_rfl) rfl (ldBA hB3)) (RL_l0 (Ld_store (by kernel_rfl) rfl rfl hB6 (Nat.le_of_ble_eq_true rfl) (by simp [cellsL, Value.cells, Value.oneCell']) ?_)))))))
      intro W6 hu6 hz6 hB6
      replace hE := ext_but hE hu6 hg_6
      replace h_q := h_q.bt hu6 (by omega)
      replace h_r := h_r.bt hu6 (by omega)
      replace hB3 := hB3.bt hu6 (by omega)
      replace hB4 := hB4.bt hu6 (by omega)
      refine RL_nil (X_then (C_ret (X_retC rfl rfl Try.underlying53 rfl (by kernel_rfl) hB6 ?_)))
      exact ⟨⟨q.op, r.page, q.off, q.len, q.A, q.n, q.c, q.d⟩, rfl, ⟨(h_q.rw_.more (Nat.zero_le _) (by omega)), h_q.ln, h_q.byt, h_q.cap, h_q.op, h_r.page, h_q.off, h_q.len⟩, hE⟩
    · skip
      try simp only [decide_eq_true_eq, decide_eq_false_iff_not, Bool.not_eq_true', Bool.not_eq_false', Decidable.not_not, Int.not_lt, Int.not_le, Bool.or_eq_true, Bool.and_eq_true, Bool.or_eq_false_iff, Bool.and_eq_false_iff] at hb18
      refine C_seq (C_region (RL_q rfl (Yd_eql rfl rfl) (RL_q rfl (Yd_assign rfl) (RL_nil (X_then (?_))))))
      refine C_cond rfl (fun hb23 => ?_) (fun hb23 => ?_)
      · skip
        try simp only [decide_eq_true_eq, decide_eq_false_iff_not, Bool.not_eq_true', Bool.not_eq_false', Decidable.not_not, Int.not_lt, Int.not_le, Bool.or_eq_true, Bool.and_eq_true, Bool.or_eq_false_iff, Bool.and_eq_false_iff] at hb23
        refine C_region (RL_q rfl (Yd_fld (off := 2) Try.underlying53 (by kernel_rfl) rfl) (RL_q rfl (Yd_load Try.underlying3 rfl rfl (ldB hB4 rfl)) (RL_q rfl (Yd_fld (off := 2) Try.underlying53 (by kernel_rfl) rfl) (RL_l0 (Ld_store (by kernel_rfl) rfl rfl hB3 (Nat.le_of_ble_eq_true rfl) (by simp [cellsL, Value.cells, Value.oneCell']) ?_)))))
        intro W5 hu5 hz5 hB3
        replace hE := ext_but hE hu5 hg_3
        replace h_q := h_q.bt hu5 (by omega)
        replace h_r := h_r.bt hu5 (by omega)
        replace hB4 := hB4.bt hu5 (by omega)
        replace hB6 := hB6.bt hu5 (by omega)
        refine RL_nil (X_block (X_then (C_seq (C_region (RL_q rfl (Yd_loadA Try.underlying53 rfl (by kernel_rfl) rfl (ldBA hB3)) (RL_l0 (Ld_store (by kernel_rfl) rfl rfl hB6 (Nat.le_of_ble_eq_true rfl) (by simp [cellsL, Value.cells, Value.oneCell']) ?_)))))))
        intro W6 hu6 hz6 hB6
        replace hE := ext_but hE hu6 hg_6
        replace h_q := h_q.bt hu6 (by omega)
        replace h_r := h_r.bt hu6 (by omega)
        replace hB3 := hB3.bt hu6 (by omega)
        replace hB4 := hB4.bt hu6 (by omega)
        refine RL_nil (X_then (C_ret (X_retC rfl rfl Try.underlying53 rfl (by kernel_rfl) hB6 ?_)))
        exact ⟨⟨q.op, q.page, r.off, q.len, q.A, q.n, q.c, q.d⟩, rfl, ⟨(h_q.rw_.more (Nat.zero_le _) (by omega)), h_q.ln, h_q.byt, h_q.cap, h_q.op, h_q.page, h_r.off, h_q.len⟩, hE⟩
      · skip
        try simp only [decide_eq_true_eq, decide_eq_false_iff_not, Bool.not_eq_true', Bool.not_eq_false', Decidable.not_not, Int.not_lt, Int.not_le, Bool.or_eq_true, Bool.and_eq_true, Bool.or_eq_false_iff, Bool.and_eq_false_iff] at hb23
        refine C_seq (C_region (RL_q rfl (Yd_eql rfl rfl) (RL_q rfl (Yd_assign rfl) (RL_nil (X_then (?_))))))
        refine C_cond rfl (fun hb28 => ?_) (fun hb28 => ?_)
        · skip
          try simp only [decide_eq_true_eq, decide_eq_false_iff_not, Bool.not_eq_true', Bool.not_eq_false', Decidable.not_not, Int.not_lt, Int.not_le, Bool.or_eq_true, Bool.and_eq_true, Bool.or_eq_false_iff, Bool.and_eq_false_iff] at hb28
          refine C_region (RL_q rfl (Yd_fld (off := 3) Try.underlying53 (by kernel_rfl) rfl) (RL_q rfl (Yd_load Try.underlying3 rfl rfl (ldB hB4 rfl)) (RL_q rfl (Yd_fld (off := 3) Try.underlying53 (by kernel_rfl) rfl) (RL_l0 (Ld_store (by kernel_rfl) rfl rfl hB3 (Nat.le_of_ble_eq_true rfl) (by simp [cellsL, Value.cells, Value.oneCell']) ?_)))))
          intro W5 hu5 hz5 hB3
          replace hE := ext_but hE hu5 hg_3
          replace h_q := h_q.bt hu5 (by omega)
          replace h_r := h_r.bt hu5 (by omega)
          replace hB4 := hB4.bt hu5 (by omega)
          replace hB6 := hB6.bt hu5 (by omega)
          refine RL_nil (X_block (X_then (C_seq (C_region (RL_q rfl (Yd_loadA Try.underlying53 rfl (by kernel_rfl) rfl (ldBA hB3)) (RL_l0 (Ld_store (by kernel_rfl) rfl rfl hB6 (Nat.le_of_ble_eq_true rfl) (by simp [cellsL, Value.cells, Value.oneCell']) ?_)))))))
          intro W6 hu6 hz6 hB6
          replace hE := ext_but hE hu6 hg_6
          replace h_q := h_q.bt hu6 (by omega)
          replace h_r := h_r.bt hu6 (by omega)
          replace hB3 := hB3.bt hu6 (by omega)
          replace hB4 := hB4.bt hu6 (by omega)
          refine RL_nil (X_then (C_ret (X_retC rfl rfl Try.underlying53 rfl (by kernel_rfl) hB6 ?_)))
          exact ⟨⟨q.op, q.page, q.off, r.len, q.A, q.n, q.c, q.d⟩, rfl, ⟨(h_q.rw_.more (Nat.zero_le _) (by omega)), h_q.ln, h_q.byt, h_q.cap, h_q.op, h_q.page, h_q.off, h_r.len⟩, hE⟩
        · skip
          try simp only [decide_eq_true_eq, decide_eq_false_iff_not, Bool.not_eq_true', Bool.not_eq_false', Decidable.not_not, Int.not_lt, Int.not_le, Bool.or_eq_true, Bool.and_eq_true, Bool.or_eq_false_iff, Bool.and_eq_false_iff] at hb28
          refine C_region (RL_q rfl (Yd_fld (off := 4) Try.underlying53 (by kernel_rfl) rfl) (RL_q rfl (Yd_load Try.underlying24 rfl rfl (ldB hB4 rfl)) (RL_l rfl (Ld_call Try.func17 rfl (by kernel_rfl) rfl (Few_c r.A r.n r.c r.d 34 _ h_r.rw_.rd h_r.ln h_r.rw_.cap (by omega) (by omega) h_r.rw_.nil) ?_))))
          rintro e W5 ⟨A9, c9, rfl, hF, he5⟩
          refine ⟨_, rfl, ?_⟩
          replace hE := Ext.trans hE he5
          replace h_q := h_q.ext he5
          replace h_r := h_r.ext he5
          replace hB3 := hB3.ext he5
          replace hB4 := hB4.ext he5
          replace hB6 := hB6.ext he5
          have hs5 := he5.size
          have hFc := hF.cap.2
          replace hF := hF.rw_
          refine RL_q rfl (Yd_fld (off := 4) Try.underlying53 (by kernel_rfl) rfl) (RL_l0 (Ld_store (by kernel_rfl) rfl rfl hB3 (Nat.le_of_ble_eq_true rfl) (by simp [cellsL, Value.cells, Value.oneCell']) ?_))
          intro W6 hu6 hz6 hB3
          replace hE := ext_but hE hu6 hg_3
          replace h_q := h_q.bt hu6 (by omega)
          replace h_r := h_r.bt hu6 (by omega)
          replace hB4 := hB4.bt hu6 (by omega)
          replace hB6 := hB6.bt hu6 (by omega)
          replace hF := hF.bt hu6 (by omega)
          refine RL_nil (X_block (X_then (C_seq (C_region (RL_q rfl (Yd_loadA Try.underlying53 rfl (by kernel_rfl) rfl (ldBA hB3)) (RL_l0 (Ld_store (by kernel_rfl) rfl rfl hB6 (Nat.le_of_ble_eq_true rfl) (by simp [cellsL, Value.cells, Value.oneCell']) ?_)))))))
          intro W7 hu7 hz7 hB6
          replace hE := ext_but hE hu7 hg_6
          replace h_q := h_q.bt hu7 (by omega)
          replace h_r := h_r.bt hu7 (by omega)
          replace hB3 := hB3.bt hu7 (by omega)
          replace hB4 := hB4.bt hu7 (by omega)
          replace hF := hF.bt hu7 (by omega)
          refine RL_nil (X_then (C_ret (X_retC rfl rfl Try.underlying53 rfl (by kernel_rfl) hB6 ?_)))
          exact ⟨⟨q.op, q.page, q.off, q.len, A9, (few r.d 34).length, c9, few r.d 34⟩, rfl, ⟨hF.more (Nat.zero_le _) (by omega), rfl, few_byt h_r.byt 34, hFc, h_q.op, h_q.page, h_q.off, h_q.len⟩, hE⟩

theorem good_tbl (k : Nat) (h : k < 14) : ∃ op : Int, ([.int .i64 1, .int .i64 1, .int .i64 1, .int .i64 2, .int .i64 2, .int .i64 3, .int .i64 3, .int .i64 3, .int .i64 4, .int .i64 4, .int .i64 5, .int .i64 6, .int .i64 7, .int .i64 8] : List Value)[k]? = some (.int .i64 op) ∧ 1 ≤ op ∧ op ≤ 8 := by
  match k, h with
  | 0, _ => exact ⟨1, rfl, by omega, by omega⟩
  | 1, _ => exact ⟨1, rfl, by omega, by omega⟩
  | 2, _ => exact ⟨1, rfl, by omega, by omega⟩
  | 3, _ => exact ⟨2, rfl, by omega, by omega⟩
  | 4, _ => exact ⟨2, rfl, by omega, by omega⟩
  | 5, _ => exact ⟨3, rfl, by omega, by omega⟩
  | 6, _ => exact ⟨3, rfl, by omega, by omega⟩
  | 7, _ => exact ⟨3, rfl, by omega, by omega⟩
  | 8, _ => exact ⟨4, rfl, by omega, by omega⟩
  | 9, _ => exact ⟨4, rfl, by omega, by omega⟩
  | 10, _ => exact ⟨5, rfl, by omega, by omega⟩
  | 11, _ => exact ⟨6, rfl, by omega, by omega⟩
  | 12, _ => exact ⟨7, rfl, by omega, by omega⟩
  | 13, _ => exact ⟨8, rfl, by omega, by omega⟩
theorem Good_c {lo B : Nat} (r : Rq) (pages : Int) (w : World) (h_r : RqAt w lo B r) (h1 : 1 ≤ pages) (h2 : pages ≤ 9223372036854775807) :
    Calls Try.prog 35 #[.agg #[.int .i64 r.op, .int .i64 r.page, .int .i64 r.off, .int .i64 r.len, .slice r.A r.n r.c], .int .i64 pages] w fun e w' => ∃ x : Rq, e = .returned x.val ∧ RqAt w' w.heap.size w'.heap.size x ∧ rCheck x pages = 0 ∧ Ext w w' := by
  have hE := Ext.refl w
  replace h_r := h_r.fit
  have hr1 := h_r.op
  have hr2 := h_r.page
  have hr3 := h_r.off
  have hr4 := h_r.len
  refine calls_of (l := [.agg #[.int .i64 r.op, .int .i64 r.page, .int .i64 r.off, .int .i64 r.len, .slice r.A r.n r.c], .int .i64 pages]) (N := 59) Try.func35 rfl rfl rfl ?_
  refine C_seq (C_region (RL_l rfl (Ld_box rfl ?_)))
  have hg_2 := hE.size
  intro W1 he1 hz1 hB2
  replace hE := Ext.trans hE he1
  replace h_r := h_r.ext he1
  refine RL_l rfl (Ld_alloc (v := (.agg #[(.int .i64 0), (.int .i64 0), (.int .i64 0), (.int .i64 0), (.slice none 0 0)])) (by kernel_rfl) ?_)
  have hg_4 := hE.size
  intro W2 he2 hz2 hB4
  replace hE := Ext.trans hE he2
  replace h_r := h_r.ext he2
  replace hB2 := hB2.ext he2
  refine RL_nil (X_then (C_seq (C_region (RL_l rfl (Ld_lit Try.underlying22 rfl (lit_flat Try.underlying22 Try.elt3 rfl rfl ⟨rfl, by decide⟩) ?_)))))
  intro W3 he3 hz3 hL7
  replace hE := Ext.trans hE he3
  replace h_r := h_r.ext he3
  replace hB2 := hB2.ext he3
  replace hB4 := hB4.ext he3
  refine RL_q rfl (Yd_fld (off := 0) Try.underlying53 (by kernel_rfl) rfl) (RL_q rfl (Yd_load Try.underlying3 rfl rfl (ldB hB2 rfl)) (RL_l rfl (Ld_call Try.func14 rfl (by kernel_rfl) rfl (Around_c r.op 14 _ (by omega) (by omega) (by omega) (by omega)) ?_)))
  rintro e W4 ⟨rfl, rfl⟩
  refine ⟨_, rfl, ?_⟩
  have ha10 := around_range r.op (m := 14) (by omega)
  generalize around r.op 14 = kk at ha10 ⊢
  obtain ⟨k, rfl⟩ := Int.eq_ofNat_of_zero_le ha10.1
  obtain ⟨op, hop, ho1, ho2⟩ := good_tbl k (by omega)
  refine RL_q rfl (Yd_idx Try.underlying22 (sz := 1) (by kernel_rfl) rfl rfl (by omega) (by omega)) (RL_q rfl (Yd_load Try.underlying3 rfl rfl (ldK (k := k) (v := .int .i64 op) (hL7.rd (sz := 1) (n := 14) rfl) (by omega) hop (by omega))) (RL_q rfl (Yd_assign rfl) (RL_nil (X_then (C_seq (C_region (RL_q rfl (Yd_move rfl) (RL_q rfl (Yd_build Try.bld53 rfl rfl) (?_)))))))))
  refine RL_l rfl (Ld_alloc (v := (.agg #[(.int .i64 0), (.int .i64 0), (.int .i64 0), (.int .i64 0), (.slice none 0 0)])) (by kernel_rfl) ?_)
  have hg_6 := hE.size
  intro W5 he5 hz5 hB6
  replace hE := Ext.trans hE he5
  replace h_r := h_r.ext he5
  replace hB2 := hB2.ext he5
  replace hB4 := hB4.ext he5
  replace hL7 := hL7.ext he5
  refine RL_l0 (Ld_store (by kernel_rfl) rfl rfl hB6 (Nat.le_of_ble_eq_true rfl) (by simp [cellsL, Value.cells, Value.oneCell']) ?_)
  intro W6 hu6 hz6 hB6
  replace hE := ext_but hE hu6 hg_6
  replace h_r := h_r.bt hu6 (by omega)
  replace hB2 := hB2.bt hu6 (by omega)
  replace hB4 := hB4.bt hu6 (by omega)
  replace hL7 := hL7.bt hu6 (by omega)
  refine RL_nil (X_then (C_seq (C_seq (C_region (RL_q rfl (Yd_move rfl) (RL_q rfl (Yd_neq rfl rfl) (RL_q rfl (Yd_move rfl) (?_))))))))
  apply RL_and (dj := 17) 20 3 rfl
  · intro hb17
    try simp only [decide_eq_true_eq, decide_eq_false_iff_not, Bool.not_eq_true', Bool.not_eq_false', Decidable.not_not, Int.not_lt, Int.not_le, Bool.or_eq_true, Bool.and_eq_true, Bool.or_eq_false_iff, Bool.and_eq_false_iff] at hb17
    refine QL_gq rfl rfl rfl (Yd_move rfl) (QL_gq rfl rfl rfl (Yd_neq rfl rfl) (QL_q rfl (Yd_pickT rfl rfl) ((QL_nil 3 rfl rfl rfl))))
  · intro hb17
    try simp only [decide_eq_true_eq, decide_eq_false_iff_not, Bool.not_eq_true', Bool.not_eq_false', Decidable.not_not, Int.not_lt, Int.not_le, Bool.or_eq_true, Bool.and_eq_true, Bool.or_eq_false_iff, Bool.and_eq_false_iff] at hb17
    refine QL_gn rfl rfl rfl rfl (QL_gn rfl rfl rfl rfl (QL_q rfl (Yd_pickF rfl rfl) ((QL_nil 3 rfl rfl rfl))))
  · skip
    refine RL_nil (X_then (?_))
    refine C_cond rfl (fun hb20 => ?_) (fun hb20 => ?_)
    · skip
      try simp only [decide_eq_true_eq, decide_eq_false_iff_not, Bool.not_eq_true', Bool.not_eq_false', Decidable.not_not, Int.not_lt, Int.not_le, Bool.or_eq_true, Bool.and_eq_true, Bool.or_eq_false_iff, Bool.and_eq_false_iff] at hb20
      refine C_region (RL_q rfl (Yd_fld (off := 1) Try.underlying53 (by kernel_rfl) rfl) (RL_q rfl (Yd_load Try.underlying3 rfl rfl (ldB hB2 rfl)) (RL_q rfl (Yd_move rfl) (RL_l rfl (Ld_call Try.func14 rfl (by kernel_rfl) rfl (Around_c r.page pages _ (by omega) (by omega) (by omega) (by omega)) ?_)))))
      rintro e W7 ⟨rfl, rfl⟩
      refine ⟨_, rfl, ?_⟩
      have ha24 := around_range r.page (m := pages) (by omega)
      refine RL_q rfl (Yd_fld (off := 1) Try.underlying53 (by kernel_rfl) rfl) (RL_l0 (Ld_store (by kernel_rfl) rfl rfl hB6 (Nat.le_of_ble_eq_true rfl) (by simp [cellsL, Value.cells, Value.oneCell']) ?_))
      intro W8 hu8 hz8 hB6
      replace hE := ext_but hE hu8 hg_6
      replace h_r := h_r.bt hu8 (by omega)
      replace hB2 := hB2.bt hu8 (by omega)
      replace hB4 := hB4.bt hu8 (by omega)
      replace hL7 := hL7.bt hu8 (by omega)
      refine RL_nil (X_then (C_seq (C_seq (C_region (RL_q rfl (Yd_move rfl) (RL_q rfl (Yd_eql rfl rfl) (RL_q rfl (Yd_move rfl) (?_))))))))
      apply RL_or (dj := 28) 31 3 rfl
      · intro hb28
        try simp only [decide_eq_true_eq, decide_eq_false_iff_not, Bool.not_eq_true', Bool.not_eq_false', Decidable.not_not, Int.not_lt, Int.not_le, Bool.or_eq_true, Bool.and_eq_true, Bool.or_eq_false_iff, Bool.and_eq_false_iff] at hb28
        refine QL_gq rfl rfl rfl (Yd_move rfl) (QL_gq rfl rfl rfl (Yd_eql rfl rfl) (QL_q rfl (Yd_pickF rfl rfl) ((QL_nil 3 rfl rfl rfl))))
      · intro hb28
        try simp only [decide_eq_true_eq, decide_eq_false_iff_not, Bool.not_eq_true', Bool.not_eq_false', Decidable.not_not, Int.not_lt, Int.not_le, Bool.or_eq_true, Bool.and_eq_true, Bool.or_eq_false_iff, Bool.and_eq_false_iff] at hb28
        refine QL_gn rfl rfl rfl rfl (QL_gn rfl rfl rfl rfl (QL_q rfl (Yd_pickT rfl rfl) ((QL_nil 3 rfl rfl rfl))))
      · skip
        refine RL_nil (X_then (?_))
        refine C_cond rfl (fun hb31 => ?_) (fun hb31 => ?_)
        · skip
          try simp only [decide_eq_true_eq, decide_eq_false_iff_not, Bool.not_eq_true', Bool.not_eq_false', Decidable.not_not, Int.not_lt, Int.not_le, Bool.or_eq_true, Bool.and_eq_true, Bool.or_eq_false_iff, Bool.and_eq_false_iff] at hb31
          refine C_region (RL_q rfl (Yd_fld (off := 2) Try.underlying53 (by kernel_rfl) rfl) (RL_q rfl (Yd_load Try.underlying3 rfl rfl (ldB hB2 rfl)) (RL_l rfl (Ld_call Try.func14 rfl (by kernel_rfl) rfl (Around_c r.off 33 _ (by omega) (by omega) (by omega) (by omega)) ?_))))
          rintro e W9 ⟨rfl, rfl⟩
          refine ⟨_, rfl, ?_⟩
          have ha34 := around_range r.off (m := 33) (by omega)
          refine RL_q rfl (Yd_fld (off := 2) Try.underlying53 (by kernel_rfl) rfl) (RL_l0 (Ld_store (by kernel_rfl) rfl rfl hB6 (Nat.le_of_ble_eq_true rfl) (by simp [cellsL, Value.cells, Value.oneCell']) ?_))
          intro W10 hu10 hz10 hB6
          replace hE := ext_but hE hu10 hg_6
          replace h_r := h_r.bt hu10 (by omega)
          replace hB2 := hB2.bt hu10 (by omega)
          replace hB4 := hB4.bt hu10 (by omega)
          replace hL7 := hL7.bt hu10 (by omega)
          refine RL_nil (X_then (C_seq (C_seq (C_region (RL_q rfl (Yd_move rfl) (RL_q rfl (Yd_eql rfl rfl) (RL_nil (X_then (?_)))))))))
          refine C_cond rfl (fun hb37 => ?_) (fun hb37 => ?_)
          · skip
            try simp only [decide_eq_true_eq, decide_eq_false_iff_not, Bool.not_eq_true', Bool.not_eq_false', Decidable.not_not, Int.not_lt, Int.not_le, Bool.or_eq_true, Bool.and_eq_true, Bool.or_eq_false_iff, Bool.and_eq_false_iff] at hb37
            refine C_region (RL_q rfl (Yd_fld (off := 3) Try.underlying53 (by kernel_rfl) rfl) (RL_q rfl (Yd_load Try.underlying3 rfl rfl (ldB hB2 rfl)) (RL_q rfl (Yd_fld (off := 2) Try.underlying53 (by kernel_rfl) rfl) (RL_q rfl (Yd_load Try.underlying3 rfl rfl (ldB hB6 rfl)) (RL_q rfl (Yd_sub rfl rfl (i64w (by omega) (by omega))) (RL_l rfl (Ld_call Try.func14 rfl (by kernel_rfl) rfl (Around_c r.len (33 - around r.off 33) _ (by omega) (by omega) (by omega) (by omega)) ?_)))))))
            rintro e W11 ⟨rfl, rfl⟩
            refine ⟨_, rfl, ?_⟩
            have ha43 := around_range r.len (m := (33 - around r.off 33)) (by omega)
            refine RL_q rfl (Yd_fld (off := 3) Try.underlying53 (by kernel_rfl) rfl) (RL_l0 (Ld_store (by kernel_rfl) rfl rfl hB6 (Nat.le_of_ble_eq_true rfl) (by simp [cellsL, Value.cells, Value.oneCell']) ?_))
            intro W12 hu12 hz12 hB6
            replace hE := ext_but hE hu12 hg_6
            replace h_r := h_r.bt hu12 (by omega)
            replace hB2 := hB2.bt hu12 (by omega)
            replace hB4 := hB4.bt hu12 (by omega)
            replace hL7 := hL7.bt hu12 (by omega)
            refine RL_nil (X_then (C_seq (C_seq (C_region (RL_q rfl (Yd_move rfl) (RL_q rfl (Yd_eql rfl rfl) (RL_nil (X_then (?_)))))))))
            refine C_cond rfl (fun hb46 => ?_) (fun hb46 => ?_)
            · skip
              try simp only [decide_eq_true_eq, decide_eq_false_iff_not, Bool.not_eq_true', Bool.not_eq_false', Decidable.not_not, Int.not_lt, Int.not_le, Bool.or_eq_true, Bool.and_eq_true, Bool.or_eq_false_iff, Bool.and_eq_false_iff] at hb46
              exfalso; omega
            · skip
              try simp only [decide_eq_true_eq, decide_eq_false_iff_not, Bool.not_eq_true', Bool.not_eq_false', Decidable.not_not, Int.not_lt, Int.not_le, Bool.or_eq_true, Bool.and_eq_true, Bool.or_eq_false_iff, Bool.and_eq_false_iff] at hb46
              refine C_skip (X_then (C_seq (C_region (RL_q rfl (Yd_loadA Try.underlying53 rfl (by kernel_rfl) rfl (ldBA hB6)) (RL_l0 (Ld_store (by kernel_rfl) rfl rfl hB4 (Nat.le_of_ble_eq_true rfl) (by simp [cellsL, Value.cells, Value.oneCell']) ?_))))))
              intro W13 hu13 hz13 hB4
              replace hE := ext_but hE hu13 hg_4
              replace h_r := h_r.bt hu13 (by omega)
              replace hB2 := hB2.bt hu13 (by omega)
              replace hL7 := hL7.bt hu13 (by omega)
              replace hB6 := hB6.bt hu13 (by omega)
              refine RL_nil (X_then (C_ret (X_retC rfl rfl Try.underlying53 rfl (by kernel_rfl) hB4 ?_)))
              refine ⟨⟨op, (around r.page pages), (around r.off 33), (around r.len (33 - around r.off 33)), none, 0, 0, []⟩, rfl, ⟨Rw.none, rfl, Byt.nil, Nat.zero_le _, ⟨by dsimp only; omega, by dsimp only; omega⟩, ⟨by dsimp only; omega, by dsimp only; omega⟩, ⟨by dsimp only; omega, by dsimp only; omega⟩, ⟨by dsimp only; omega, by dsimp only; omega⟩⟩, ?_, hE⟩
              unfold rCheck
              dsimp only
              repeat' split
              all_goals first | rfl | omega
          · skip
            try simp only [decide_eq_true_eq, decide_eq_false_iff_not, Bool.not_eq_true', Bool.not_eq_false', Decidable.not_not, Int.not_lt, Int.not_le, Bool.or_eq_true, Bool.and_eq_true, Bool.or_eq_false_iff, Bool.and_eq_false_iff] at hb37
            refine C_skip (X_then (C_seq (C_seq (C_region (RL_q rfl (Yd_move rfl) (RL_q rfl (Yd_eql rfl rfl) (RL_nil (X_then (?_)))))))))
            refine C_cond rfl (fun hb46 => ?_) (fun hb46 => ?_)
            · skip
              try simp only [decide_eq_true_eq, decide_eq_false_iff_not, Bool.not_eq_true', Bool.not_eq_false', Decidable.not_not, Int.not_lt, Int.not_le, Bool.or_eq_true, Bool.and_eq_true, Bool.or_eq_false_iff, Bool.and_eq_false_iff] at hb46
              refine C_regionH (fun k => k = W3.heap.size) (fun W => W.cell? ⟨W3.heap.size, 2, none⟩ = some (.int .i64 (around r.off 33))) (l := [(0, true), (1, true), (2, true), (3, true), (6, true), (7, true), (8, true), (4, false), (5, false), (9, false), (10, true), (11, false)]) (by kernel_rfl) (by kernel_rfl) rfl (by kernel_rfl) (fun _ _ d _ _ h => by cases d <;> exact h) ?_
              intro W11 he11 hh11
              replace hE := Ext.trans hE he11
              replace h_r := h_r.ext he11
              replace hB2 := hB2.ext he11
              replace hB4 := hB4.ext he11
              replace hL7 := hL7.ext he11
              replace hB6 := hB6.ext he11
              have hs11 := he11.size
              refine ⟨(ldB hB6 rfl _ (Ext.refl _)), ?_⟩
              refine RH_q rfl rfl (Yd_fld (off := 4) Try.underlying53 (by kernel_rfl) rfl) (RH_q rfl rfl (Yd_load Try.underlying24 rfl rfl (fun W hW => ldBK hB2 rfl hW.1 (by intro e; have e : (_ : Nat) = _ := e; omega))) (RH_q rfl rfl (Yd_fld (off := 3) Try.underlying53 (by kernel_rfl) rfl) (RH_q rfl rfl (Yd_load Try.underlying3 rfl rfl (fun W hW => ldBK hB2 rfl hW.1 (by intro e; have e : (_ : Nat) = _ := e; omega))) (RH_q rfl rfl (Yd_fld (off := 2) Try.underlying53 (by kernel_rfl) rfl) (RH_q rfl rfl (Yd_load Try.underlying3 rfl rfl (fun W hW => hW.2)) (RH_q rfl rfl (Yd_sub rfl rfl (i64w (by omega) (by omega))) (RH_l rfl rfl (Ld_call Try.func14 rfl (by kernel_rfl) rfl (Around_c r.len 33 _ (by omega) (by omega) (by omega) (by omega)) ?_))))))))
              rintro e W12 ⟨rfl, rfl⟩
              refine ⟨_, rfl, ?_⟩
              refine ⟨Kp.refl _ _, (ldB hB6 rfl _ (Ext.refl _)), ?_⟩
              have ha51 := around_range r.len (m := 33) (by omega)
              generalize around r.len 33 = nn at ha51 ⊢
              obtain ⟨m, rfl⟩ := Int.eq_ofNat_of_zero_le ha51.1
              refine RH_l rfl rfl (Ld_call Try.func51 rfl (by kernel_rfl) rfl (Fill_c r.A r.n r.c m r.d _ h_r.rw_.rd h_r.ln (by have := h_r.cap; have := h_r.rw_.cap; simp only [maxLen] at *; omega) (by omega)) ?_)
              rintro e W13 ⟨A8, c8, rfl, hH, he13⟩
              refine ⟨_, rfl, ?_⟩
              refine ⟨Kp.of_ext he13, (ldB hB6 rfl _ he13), ?_⟩
              replace hE := Ext.trans hE he13
              replace h_r := h_r.ext he13
              replace hB2 := hB2.ext he13
              replace hB4 := hB4.ext he13
              replace hL7 := hL7.ext he13
              replace hB6 := hB6.ext he13
              have hs13 := he13.size
              refine RH_l rfl rfl (Ld_call Try.func17 rfl (by kernel_rfl) rfl (Few_c A8 m c8 (fill r.d m) (32 - around r.off 33) _ hH.rd (fill_len _ _) hH.cap.1 (by omega) (by omega) (fun h => (hH.none_ h).1)) ?_)
              rintro e W14 ⟨A9, c9, rfl, hF, he14⟩
              refine ⟨_, rfl, ?_⟩
              refine ⟨Kp.of_ext he14, (ldB hB6 rfl _ he14), ?_⟩
              replace hE := Ext.trans hE he14
              replace h_r := h_r.ext he14
              replace hB2 := hB2.ext he14
              replace hB4 := hB4.ext he14
              replace hL7 := hL7.ext he14
              replace hB6 := hB6.ext he14
              have hs14 := he14.size
              have hFc := hF.cap.2
              replace hF := hF.rw_
              refine RH_q rfl rfl (Yd_fld (off := 4) Try.underlying53 (by kernel_rfl) rfl) (RH_l0 rfl (Ld_store (by kernel_rfl) rfl rfl hB6 (Nat.le_of_ble_eq_true rfl) (by simp [cellsL, Value.cells, Value.oneCell']) ?_))
              intro W15 hu15 hz15 hB6
              refine ⟨Kp.of_but hu15 rfl, (by rw [hB6.cell]; rfl), ?_⟩
              replace hE := ext_but hE hu15 hg_6
              replace h_r := h_r.bt hu15 (by omega)
              replace hB2 := hB2.bt hu15 (by omega)
              replace hB4 := hB4.bt hu15 (by omega)
              replace hL7 := hL7.bt hu15 (by omega)
              replace hF := hF.bt hu15 (by omega)
              refine RH_nil (X_then (C_seq (C_region (RL_q rfl (Yd_loadA Try.underlying53 rfl (by kernel_rfl) rfl (ldBA hB6)) (RL_l0 (Ld_store (by kernel_rfl) rfl rfl hB4 (Nat.le_of_ble_eq_true rfl) (by simp [cellsL, Value.cells, Value.oneCell']) ?_))))))
              intro W16 hu16 hz16 hB4
              replace hE := ext_but hE hu16 hg_4
              replace h_r := h_r.bt hu16 (by omega)
              replace hB2 := hB2.bt hu16 (by omega)
              replace hL7 := hL7.bt hu16 (by omega)
              replace hB6 := hB6.bt hu16 (by omega)
              replace hF := hF.bt hu16 (by omega)
              refine RL_nil (X_then (C_ret (X_retC rfl rfl Try.underlying53 rfl (by kernel_rfl) hB4 ?_)))
              have hfl := few_le (fill r.d m) (32 - around r.off 33) (by omega)
              refine ⟨⟨op, (around r.page pages), (around r.off 33), 0, A9, (few (fill r.d m) (32 - around r.off 33)).length, c9, few (fill r.d m) (32 - around r.off 33)⟩, rfl, ⟨hF.more (by omega) (by omega), rfl, few_byt (fill_byt h_r.byt m) _, hFc, ⟨by dsimp only; omega, by dsimp only; omega⟩, ⟨by dsimp only; omega, by dsimp only; omega⟩, ⟨by dsimp only; omega, by dsimp only; omega⟩, ⟨by dsimp only; omega, by dsimp only; omega⟩⟩, ?_, hE⟩
              unfold rCheck
              dsimp only
              repeat' split
              all_goals first | rfl | omega
            · skip
              try simp only [decide_eq_true_eq, decide_eq_false_iff_not, Bool.not_eq_true', Bool.not_eq_false', Decidable.not_not, Int.not_lt, Int.not_le, Bool.or_eq_true, Bool.and_eq_true, Bool.or_eq_false_iff, Bool.and_eq_false_iff] at hb46
              exfalso; omega
        · skip
          try simp only [decide_eq_true_eq, decide_eq_false_iff_not, Bool.not_eq_true', Bool.not_eq_false', Decidable.not_not, Int.not_lt, Int.not_le, Bool.or_eq_true, Bool.and_eq_true, Bool.or_eq_false_iff, Bool.and_eq_false_iff] at hb31
          refine C_skip (X_then (C_seq (C_seq (C_region (RL_q rfl (Yd_move rfl) (RL_q rfl (Yd_eql rfl rfl) (RL_nil (X_then (?_)))))))))
          refine C_cond rfl (fun hb37 => ?_) (fun hb37 => ?_)
          · skip
            try simp only [decide_eq_true_eq, decide_eq_false_iff_not, Bool.not_eq_true', Bool.not_eq_false', Decidable.not_not, Int.not_lt, Int.not_le, Bool.or_eq_true, Bool.and_eq_true, Bool.or_eq_false_iff, Bool.and_eq_false_iff] at hb37
            exfalso; omega
          · skip
            try simp only [decide_eq_true_eq, decide_eq_false_iff_not, Bool.not_eq_true', Bool.not_eq_false', Decidable.not_not, Int.not_lt, Int.not_le, Bool.or_eq_true, Bool.and_eq_true, Bool.or_eq_false_iff, Bool.and_eq_false_iff] at hb37
            refine C_skip (X_then (C_seq (C_seq (C_region (RL_q rfl (Yd_move rfl) (RL_q rfl (Yd_eql rfl rfl) (RL_nil (X_then (?_)))))))))
            refine C_cond rfl (fun hb46 => ?_) (fun hb46 => ?_)
            · skip
              try simp only [decide_eq_true_eq, decide_eq_false_iff_not, Bool.not_eq_true', Bool.not_eq_false', Decidable.not_not, Int.not_lt, Int.not_le, Bool.or_eq_true, Bool.and_eq_true, Bool.or_eq_false_iff, Bool.and_eq_false_iff] at hb46
              exfalso; omega
            · skip
              try simp only [decide_eq_true_eq, decide_eq_false_iff_not, Bool.not_eq_true', Bool.not_eq_false', Decidable.not_not, Int.not_lt, Int.not_le, Bool.or_eq_true, Bool.and_eq_true, Bool.or_eq_false_iff, Bool.and_eq_false_iff] at hb46
              refine C_skip (X_then (C_seq (C_region (RL_q rfl (Yd_loadA Try.underlying53 rfl (by kernel_rfl) rfl (ldBA hB6)) (RL_l0 (Ld_store (by kernel_rfl) rfl rfl hB4 (Nat.le_of_ble_eq_true rfl) (by simp [cellsL, Value.cells, Value.oneCell']) ?_))))))
              intro W9 hu9 hz9 hB4
              replace hE := ext_but hE hu9 hg_4
              replace h_r := h_r.bt hu9 (by omega)
              replace hB2 := hB2.bt hu9 (by omega)
              replace hL7 := hL7.bt hu9 (by omega)
              replace hB6 := hB6.bt hu9 (by omega)
              refine RL_nil (X_then (C_ret (X_retC rfl rfl Try.underlying53 rfl (by kernel_rfl) hB4 ?_)))
              refine ⟨⟨op, (around r.page pages), 0, 0, none, 0, 0, []⟩, rfl, ⟨Rw.none, rfl, Byt.nil, Nat.zero_le _, ⟨by dsimp only; omega, by dsimp only; omega⟩, ⟨by dsimp only; omega, by dsimp only; omega⟩, ⟨by dsimp only; omega, by dsimp only; omega⟩, ⟨by dsimp only; omega, by dsimp only; omega⟩⟩, ?_, hE⟩
              unfold rCheck
              dsimp only
              repeat' split
              all_goals first | rfl | omega
    · skip
      try simp only [decide_eq_true_eq, decide_eq_false_iff_not, Bool.not_eq_true', Bool.not_eq_false', Decidable.not_not, Int.not_lt, Int.not_le, Bool.or_eq_true, Bool.and_eq_true, Bool.or_eq_false_iff, Bool.and_eq_false_iff] at hb20
      refine C_skip (X_then (C_seq (C_seq (C_region (RL_q rfl (Yd_move rfl) (RL_q rfl (Yd_eql rfl rfl) (RL_q rfl (Yd_move rfl) (?_))))))))
      apply RL_or (dj := 28) 31 3 rfl
      · intro hb28
        try simp only [decide_eq_true_eq, decide_eq_false_iff_not, Bool.not_eq_true', Bool.not_eq_false', Decidable.not_not, Int.not_lt, Int.not_le, Bool.or_eq_true, Bool.and_eq_true, Bool.or_eq_false_iff, Bool.and_eq_false_iff] at hb28
        refine QL_gq rfl rfl rfl (Yd_move rfl) (QL_gq rfl rfl rfl (Yd_eql rfl rfl) (QL_q rfl (Yd_pickF rfl rfl) ((QL_nil 3 rfl rfl rfl))))
      · intro hb28
        try simp only [decide_eq_true_eq, decide_eq_false_iff_not, Bool.not_eq_true', Bool.not_eq_false', Decidable.not_not, Int.not_lt, Int.not_le, Bool.or_eq_true, Bool.and_eq_true, Bool.or_eq_false_iff, Bool.and_eq_false_iff] at hb28
        refine QL_gn rfl rfl rfl rfl (QL_gn rfl rfl rfl rfl (QL_q rfl (Yd_pickT rfl rfl) ((QL_nil 3 rfl rfl rfl))))
      · skip
        refine RL_nil (X_then (?_))
        refine C_cond rfl (fun hb31 => ?_) (fun hb31 => ?_)
        · skip
          try simp only [decide_eq_true_eq, decide_eq_false_iff_not, Bool.not_eq_true', Bool.not_eq_false', Decidable.not_not, Int.not_lt, Int.not_le, Bool.or_eq_true, Bool.and_eq_true, Bool.or_eq_false_iff, Bool.and_eq_false_iff] at hb31
          exfalso; omega
        · skip
          try simp only [decide_eq_true_eq, decide_eq_false_iff_not, Bool.not_eq_true', Bool.not_eq_false', Decidable.not_not, Int.not_lt, Int.not_le, Bool.or_eq_true, Bool.and_eq_true, Bool.or_eq_false_iff, Bool.and_eq_false_iff] at hb31
          refine C_skip (X_then (C_seq (C_seq (C_region (RL_q rfl (Yd_move rfl) (RL_q rfl (Yd_eql rfl rfl) (RL_nil (X_then (?_)))))))))
          refine C_cond rfl (fun hb37 => ?_) (fun hb37 => ?_)
          · skip
            try simp only [decide_eq_true_eq, decide_eq_false_iff_not, Bool.not_eq_true', Bool.not_eq_false', Decidable.not_not, Int.not_lt, Int.not_le, Bool.or_eq_true, Bool.and_eq_true, Bool.or_eq_false_iff, Bool.and_eq_false_iff] at hb37
            exfalso; omega
          · skip
            try simp only [decide_eq_true_eq, decide_eq_false_iff_not, Bool.not_eq_true', Bool.not_eq_false', Decidable.not_not, Int.not_lt, Int.not_le, Bool.or_eq_true, Bool.and_eq_true, Bool.or_eq_false_iff, Bool.and_eq_false_iff] at hb37
            refine C_skip (X_then (C_seq (C_seq (C_region (RL_q rfl (Yd_move rfl) (RL_q rfl (Yd_eql rfl rfl) (RL_nil (X_then (?_)))))))))
            refine C_cond rfl (fun hb46 => ?_) (fun hb46 => ?_)
            · skip
              try simp only [decide_eq_true_eq, decide_eq_false_iff_not, Bool.not_eq_true', Bool.not_eq_false', Decidable.not_not, Int.not_lt, Int.not_le, Bool.or_eq_true, Bool.and_eq_true, Bool.or_eq_false_iff, Bool.and_eq_false_iff] at hb46
              exfalso; omega
            · skip
              try simp only [decide_eq_true_eq, decide_eq_false_iff_not, Bool.not_eq_true', Bool.not_eq_false', Decidable.not_not, Int.not_lt, Int.not_le, Bool.or_eq_true, Bool.and_eq_true, Bool.or_eq_false_iff, Bool.and_eq_false_iff] at hb46
              refine C_skip (X_then (C_seq (C_region (RL_q rfl (Yd_loadA Try.underlying53 rfl (by kernel_rfl) rfl (ldBA hB6)) (RL_l0 (Ld_store (by kernel_rfl) rfl rfl hB4 (Nat.le_of_ble_eq_true rfl) (by simp [cellsL, Value.cells, Value.oneCell']) ?_))))))
              intro W7 hu7 hz7 hB4
              replace hE := ext_but hE hu7 hg_4
              replace h_r := h_r.bt hu7 (by omega)
              replace hB2 := hB2.bt hu7 (by omega)
              replace hL7 := hL7.bt hu7 (by omega)
              replace hB6 := hB6.bt hu7 (by omega)
              refine RL_nil (X_then (C_ret (X_retC rfl rfl Try.underlying53 rfl (by kernel_rfl) hB4 ?_)))
              refine ⟨⟨op, 0, 0, 0, none, 0, 0, []⟩, rfl, ⟨Rw.none, rfl, Byt.nil, Nat.zero_le _, ⟨by dsimp only; omega, by dsimp only; omega⟩, ⟨by dsimp only; omega, by dsimp only; omega⟩, ⟨by dsimp only; omega, by dsimp only; omega⟩, ⟨by dsimp only; omega, by dsimp only; omega⟩⟩, ?_, hE⟩
              unfold rCheck
              dsimp only
              repeat' split
              all_goals first | rfl | omega
theorem bClone_c {B : Nat} (A : Option Addr) (n c : Nat) (b : List Int) (w : World) (hr : Rd w B 1 A n (ints .u8 b)) (hn : b.length = n) (hnc : n ≤ c) (hm : n ≤ 65536) (hnil : A = none → c = 0) :
    Calls Try.prog 55 #[.slice A n c] w fun e w' => ∃ A' c', e = .returned (.slice A' n c') ∧ Own w' w.heap.size 5 1 A' n c' (ints .u8 b) ∧ Ext w w' := by
  have hE := Ext.refl w
  refine calls_of (l := [.slice A n c]) (N := 8) Try.func55 rfl rfl rfl ?_
  refine C_seq (C_region (RL_q rfl (Yd_assign rfl) (RL_nil (X_then (C_seq (C_seq (C_region (RL_q rfl (Yd_move rfl) (RL_q rfl (Yd_eqlSN Try.underlying24 rfl rfl) (RL_nil (X_then (?_))))))))))))
  refine C_cond rfl (fun hb4 => ?_) (fun hb4 => ?_)
  · skip
    try simp only [decide_eq_true_eq, decide_eq_false_iff_not, Bool.not_eq_true', Bool.not_eq_false', Decidable.not_not, Int.not_lt, Int.not_le, Bool.or_eq_true, Bool.and_eq_true, Bool.or_eq_false_iff, Bool.and_eq_false_iff] at hb4
    refine C_seq (C_region (RL_q rfl (Yd_assign rfl) (RL_nil (X_then (C_ret (X_thenR (X_ret1 rfl rfl ?_)))))))
    have hA : A = none := by cases A <;> simp_all
    obtain rfl : n = 0 := by have := hnil hA; omega
    obtain rfl : b = [] := List.eq_nil_of_length_eq_zero hn
    exact ⟨none, 0, rfl, Own.nil _ _ _ _, hE⟩
  · skip
    try simp only [decide_eq_true_eq, decide_eq_false_iff_not, Bool.not_eq_true', Bool.not_eq_false', Decidable.not_not, Int.not_lt, Int.not_le, Bool.or_eq_true, Bool.and_eq_true, Bool.or_eq_false_iff, Bool.and_eq_false_iff] at hb4
    refine C_skip (X_then (C_seq (C_region (RL_l rfl (Ld_lit Try.underlying24 rfl (lit_flat Try.underlying24 Try.elt5 rfl rfl ⟨rfl, by decide⟩) ?_)))))
    intro W1 he1 hz1 hL5
    replace hE := Ext.trans hE he1
    refine RL_q rfl (Yd_move rfl) (RL_l rfl (Ld_app Try.underlying24 Try.elt5 rfl (by decide) rfl rfl (own_of_blk (base := w.heap.size) (sz := 1) (n := 0) (c := 0) (xs := []) hL5 (Nat.le_refl _) rfl (Nat.le_refl _) (Nat.zero_le _) rfl) (hr.ext hE) (ints_one _ _) (by simp only [maxLen]; omega) (by omega) hE.size hnil (Nat.zero_add _) ?_))
    intro A7 c7 W2 hO hg2 hat2
    replace hE := ext_app (own_of_blk (base := w.heap.size) (sz := 1) (n := 0) (c := 0) (xs := []) hL5 (Nat.le_refl _) rfl (Nat.le_refl _) (Nat.zero_le _) rfl) hE hE.size hg2
    refine RL_q rfl (Yd_assign rfl) (RL_nil (X_then (C_ret (X_ret1 rfl rfl ?_))))
    exact ⟨A7, c7, rfl, hO, hE⟩
theorem Clone_c {lo B : Nat} (r : Rq) (w : World) (h_r : RqAt w lo B r) (hs : r.n ≤ 65536) :
    Calls Try.prog 45 #[.agg #[.int .i64 r.op, .int .i64 r.page, .int .i64 r.off, .int .i64 r.len, .slice r.A r.n r.c]] w fun e w' => ∃ A c, e = .returned (Rq.val ⟨r.op, r.page, r.off, r.len, A, r.n, c, r.d⟩) ∧ Own w' (w.heap.size + 1) 5 1 A r.n c (ints .u8 r.d) ∧ w.heap.size + 2 ≤ w'.heap.size ∧ Ext w w' := by
  have hE := Ext.refl w
  replace h_r := h_r.fit
  refine calls_of (l := [.agg #[.int .i64 r.op, .int .i64 r.page, .int .i64 r.off, .int .i64 r.len, .slice r.A r.n r.c]]) (N := 8) Try.func45 rfl rfl rfl ?_
  refine C_seq (C_region (RL_l rfl (Ld_box rfl ?_)))
  have hg_1 := hE.size
  intro W1 he1 hz1 hB1
  replace hE := Ext.trans hE he1
  replace h_r := h_r.ext he1
  refine RL_l rfl (Ld_alloc (v := (.agg #[(.int .i64 0), (.int .i64 0), (.int .i64 0), (.int .i64 0), (.slice none 0 0)])) (by kernel_rfl) ?_)
  have hg_2 := hE.size
  intro W2 he2 hz2 hB2
  replace hE := Ext.trans hE he2
  replace h_r := h_r.ext he2
  replace hB1 := hB1.ext he2
  refine RL_nil (X_then (C_seq (C_region (RL_q rfl (Yd_fld (off := 4) Try.underlying53 (by kernel_rfl) rfl) (RL_q rfl (Yd_load Try.underlying24 rfl rfl (ldB hB1 rfl)) (RL_l rfl (Ld_call Try.func55 rfl (by kernel_rfl) rfl (bClone_c r.A r.n r.c r.d _ h_r.rw_.rd h_r.ln h_r.rw_.cap hs h_r.rw_.nil) ?_)))))))
  rintro e W3 ⟨A9, c9, rfl, hF, he3⟩
  refine ⟨_, rfl, ?_⟩
  replace hE := Ext.trans hE he3
  replace h_r := h_r.ext he3
  replace hB1 := hB1.ext he3
  replace hB2 := hB2.ext he3
  have hs3 := he3.size
  refine RL_q rfl (Yd_fld (off := 4) Try.underlying53 (by kernel_rfl) rfl) (RL_l0 (Ld_store (by kernel_rfl) rfl rfl hB1 (Nat.le_of_ble_eq_true rfl) (by simp [cellsL, Value.cells, Value.oneCell']) ?_))
  intro W4 hu4 hz4 hB1
  replace hE := ext_but hE hu4 hg_1
  replace h_r := h_r.bt hu4 (by omega)
  replace hB2 := hB2.bt hu4 (by omega)
  replace hF := hF.bt hu4 (by omega)
  refine RL_nil (X_then (C_seq (C_region (RL_q rfl (Yd_loadA Try.underlying53 rfl (by kernel_rfl) rfl (ldBA hB1)) (RL_l0 (Ld_store (by kernel_rfl) rfl rfl hB2 (Nat.le_of_ble_eq_true rfl) (by simp [cellsL, Value.cells, Value.oneCell']) ?_))))))
  intro W5 hu5 hz5 hB2
  replace hE := ext_but hE hu5 hg_2
  replace h_r := h_r.bt hu5 (by omega)
  replace hB1 := hB1.bt hu5 (by omega)
  replace hF := hF.bt hu5 (by omega)
  refine RL_nil (X_then (C_ret (X_retC rfl rfl Try.underlying53 rfl (by kernel_rfl) hB2 ?_)))
  exact ⟨A9, c9, rfl, hF.base_ (by omega), by omega, hE⟩
end Go.Proofs.AL
