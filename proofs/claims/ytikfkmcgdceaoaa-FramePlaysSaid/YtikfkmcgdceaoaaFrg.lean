import Derived.Test.YtikfkmcgdceaoaaFrf
set_option linter.unusedVariables false
set_option linter.unusedSimpArgs false
namespace Go.Proofs.AL
open Go.RowKit

theorem X_retCT {P : Program} {N : Nat} {E : Env} {w : World} {fn : Func} {R : Ending → World → Prop} {t u : Tmp} {ty : TypeId} {d : TypeDesc} {g : Nat} {ti : TypeId} {cs : List Value} {x : Value} (hr : fn.results = #[.cell t ty, .tmp u]) (hv : lk E t = some (.pointer (some ⟨g, 0, none⟩))) (hx : lk E u = some x) (hT : P.underlying ty = some d) (hd : isFlat d = false) (hn : (P.info? ty).map (·.size) = some cs.length) (hb : Blk w g ti cs) (h : R (.returned (.tuple #[.agg cs.toArray, x])) w) : X N (bodyPost P fn R) .ret E w :=
  fun a ha => ⟨ha.defers, _, by
    have h1 := run_loadVarA (P := P) hT hd hn w (p := ⟨g, 0, none⟩) (fun j u hu => by rw [add_lit, Nat.zero_add, hb.cell]; exact hu)
    have h2 : a.tmps.getD t undef = .pointer (some ⟨g, 0, none⟩) := ha.tmps t _ hv
    have h3 : a.tmps.getD u undef = x := ha.tmps u _ hx
    simp only [Array.getD_eq_getD_getElem?] at h2 h3
    simp [results, hr, h2, h3, asAddr, h1], h⟩
theorem X_retCTT {P : Program} {N : Nat} {E : Env} {w : World} {fn : Func} {R : Ending → World → Prop} {t u v : Tmp} {ty : TypeId} {d : TypeDesc} {g : Nat} {ti : TypeId} {cs : List Value} {x y : Value} (hr : fn.results = #[.cell t ty, .tmp u, .tmp v]) (hv : lk E t = some (.pointer (some ⟨g, 0, none⟩))) (hx : lk E u = some x) (hy : lk E v = some y) (hT : P.underlying ty = some d) (hd : isFlat d = false) (hn : (P.info? ty).map (·.size) = some cs.length) (hb : Blk w g ti cs) (h : R (.returned (.tuple #[.agg cs.toArray, x, y])) w) : X N (bodyPost P fn R) .ret E w :=
  fun a ha => ⟨ha.defers, _, by
    have h1 := run_loadVarA (P := P) hT hd hn w (p := ⟨g, 0, none⟩) (fun j u hu => by rw [add_lit, Nat.zero_add, hb.cell]; exact hu)
    have h2 : a.tmps.getD t undef = .pointer (some ⟨g, 0, none⟩) := ha.tmps t _ hv
    have h3 : a.tmps.getD u undef = x := ha.tmps u _ hx
    have h4 : a.tmps.getD v undef = y := ha.tmps v _ hy
    simp only [Array.getD_eq_getD_getElem?] at h2 h3 h4
    simp [results, hr, h2, h3, h4, asAddr, h1], h⟩
theorem str_at {L : List Int} (hy : Byt L) {j : Nat} {u : Value} (hu : (ints .u8 L)[j]? = some u) (cap : Nat) : (bytesRow (strOfNums L) cap)[j]? = some u := by
  have hj : j < L.length := by
    rcases Nat.lt_or_ge j L.length with h | h
    · exact h
    · rw [List.getElem?_eq_none (by simpa [ints] using h)] at hu; cases hu
  rw [ints_get .u8 L j hj] at hu
  injection hu with hu
  subst hu
  rw [bytesRow_at _ _ _ (by simpa [strOfNums] using hj)]
  have hb := hy.get j hj
  have : (strOfNums L).data[j]'(by simpa [strOfNums] using hj) = UInt8.ofNat L[j].toNat := by simp [strOfNums]
  rw [this]
  congr 2
  simp only [UInt8.toNat_ofNat']
  omega
theorem Ld_ofStr {P : Program} {E : Env} {w : World} {Q : Exit → Act → World → Prop} {K : Value → World → Prop} {ty t src e : TypeId} {x : Operand} {L : List Int} (hs : P.underlying src = some .string) (hd : P.underlying t = some (.slice e)) (he : P.underlying e = some (.int .u8)) (hx : ev E x = some (.string (strOfNums L))) (hy : Byt L) (hl : L.length ≤ 60000)
    (hK : ∀ c w', Ext w w' → Vw tU8 w' w.heap.size w'.heap.size (some ⟨w.heap.size, 0, none⟩) L.length c L → K (.slice (some ⟨w.heap.size, 0, none⟩) L.length c) w') : Ld P E (.convert src t x) ty w Q K := by
  have hz := strOfNums_size L
  have hE : Ext w (w.drew.alloc (.cells (bytesRow (strOfNums L) (grownCap w L.length 0 e)) e ((bytesRow (strOfNums L) (grownCap w L.length 0 e)).size, (bytesRow (strOfNums L) (grownCap w L.length 0 e)).size + 1))) := Ext.trans ((Below.refl _ _).drew) (Ext.alloc _ _)
  refine Ld.of_run (.slice (some ⟨w.heap.size, 0, none⟩) L.length (grownCap w L.length 0 e)) _ (fun N a ha o ho ht => by
    simp only [execOp, ho, ha.ev hx]
    have h := run_bytes_of_string w src t e (strOfNums L) hs hd he
    rw [hz] at h
    simp [h]) (hK _ _ hE ⟨⟨⟨by rw [cells_ints]; simp [ints]; exact (Nat.mul_one _).symm, fun hn0 => ⟨_, rfl, ?_, fun j u hu => ?_⟩⟩, grownCap_ge _ _ _ _, (fun e => by cases e), fun ad e => by cases e; exact Nat.le_refl _⟩, grownCap_le_maxLen _ _ _ _ (by simp only [maxLen]; omega), hy⟩)
  · exact (Array.getElem?_eq_some_iff.1 (heap_alloc_new w.drew _)).1
  · rw [cells_ints] at hu
    rw [add_lit, Nat.zero_add, cell_of_row _ w.heap.size j _ e _ (heap_alloc_new w.drew _)]
    exact str_at hy hu _
theorem refPinV {f : Fr} {w : World}  (okf : FOk f) :
    Calls Try.prog 45 #[.agg #[.bool f.u, .bool f.d, .bool f.r, .int .i64 f.pins, .int .i64 f.page, .string (strOfNums f.b)]] w fun e w' => e = .returned (.tuple #[.agg #[.bool ((pinF f).2).u, .bool ((pinF f).2).d, .bool ((pinF f).2).r, .int .i64 ((pinF f).2).pins, .int .i64 ((pinF f).2).page, .string (strOfNums ((pinF f).2).b)], .int .i64 (pinF f).1]) ∧ Ext w w' := by
  have hE := Ext.refl w
  have hpp := okf.hp
  have hll := okf.hl
  refine calls_of (l := [.agg #[.bool f.u, .bool f.d, .bool f.r, .int .i64 f.pins, .int .i64 f.page, .string (strOfNums f.b)]]) (N := 18) Try.func45 rfl rfl rfl ?_
  refine C_seq (C_region (RL_l rfl (Ld_box rfl ?_)))
  have hg_1 := hE.size
  intro W1 he1 hz1 hB1
  replace hE := Ext.trans hE he1
  refine RL_l rfl (Ld_alloc (v := (.agg #[(.bool false), (.bool false), (.bool false), (.int .i64 0), (.int .i64 0), (.string ⟨#[]⟩)])) (by kernel_rfl) ?_)
  have hg_2 := hE.size
  intro W2 he2 hz2 hB2
  replace hE := Ext.trans hE he2
  replace hB1 := hB1.ext he2
  refine RL_q rfl (Yd_assign rfl) (RL_nil (X_then (C_seq (C_seq (C_region (RL_q rfl (Yd_fld (off := 0) Try.underlying43 (by kernel_rfl) rfl) (RL_q rfl (Yd_load Try.underlying4 rfl rfl (ldB hB1 rfl)) (RL_q rfl (Yd_not rfl) (RL_nil (X_then (?_)))))))))))
  refine C_cond rfl (fun hb6 => ?_) (fun hb6 => ?_)
  · skip
    try simp only [decide_eq_true_eq, decide_eq_false_iff_not, Bool.not_eq_true', Bool.not_eq_false', Decidable.not_not, Int.not_lt, Int.not_le, Bool.or_eq_true, Bool.and_eq_true, Bool.or_eq_false_iff, Bool.and_eq_false_iff] at hb6
    refine C_seq (C_region (RL_q rfl (Yd_loadA Try.underlying43 rfl (by kernel_rfl) rfl (ldBA hB1)) (RL_l0 (Ld_store (by kernel_rfl) rfl rfl hB2 (Nat.le_of_ble_eq_true rfl) (by simp [cellsL, Value.cells, Value.oneCell']) ?_))))
    intro W3 hu3 hz3 hB2
    have hk3 := Kp.ofb hu3
    have hs3 := hk3.size
    replace hE := Ext.kp hE hk3 (fun k hk => by first | omega | (have hk := hk; dsimp only at hk; omega))
    replace hB1 := hB1.kp hk3 (fun hk => by first | omega | (have hk := hk; dsimp only at hk; omega))
    refine RL_q rfl (Yd_assign rfl) (RL_nil (X_then (C_ret (X_thenR (X_retCT rfl rfl rfl Try.underlying43 rfl (by kernel_rfl) hB2 ?_)))))
    have hp : pinF f = (6, f) := by unfold pinF; rw [if_pos hb6]
    rw [hp]; exact ⟨rfl, hE⟩
  · skip
    try simp only [decide_eq_true_eq, decide_eq_false_iff_not, Bool.not_eq_true', Bool.not_eq_false', Decidable.not_not, Int.not_lt, Int.not_le, Bool.or_eq_true, Bool.and_eq_true, Bool.or_eq_false_iff, Bool.and_eq_false_iff] at hb6
    refine C_skip (X_then (C_seq (C_seq (C_region (RL_q rfl (Yd_fld (off := 3) Try.underlying43 (by kernel_rfl) rfl) (RL_q rfl (Yd_load Try.underlying3 rfl rfl (ldB hB1 rfl)) (RL_q rfl (Yd_geq rfl rfl) (RL_nil (X_then (?_))))))))))
    refine C_cond rfl (fun hb10 => ?_) (fun hb10 => ?_)
    · skip
      try simp only [decide_eq_true_eq, decide_eq_false_iff_not, Bool.not_eq_true', Bool.not_eq_false', Decidable.not_not, Int.not_lt, Int.not_le, Bool.or_eq_true, Bool.and_eq_true, Bool.or_eq_false_iff, Bool.and_eq_false_iff] at hb10
      refine C_seq (C_region (RL_q rfl (Yd_loadA Try.underlying43 rfl (by kernel_rfl) rfl (ldBA hB1)) (RL_l0 (Ld_store (by kernel_rfl) rfl rfl hB2 (Nat.le_of_ble_eq_true rfl) (by simp [cellsL, Value.cells, Value.oneCell']) ?_))))
      intro W3 hu3 hz3 hB2
      have hk3 := Kp.ofb hu3
      have hs3 := hk3.size
      replace hE := Ext.kp hE hk3 (fun k hk => by first | omega | (have hk := hk; dsimp only at hk; omega))
      replace hB1 := hB1.kp hk3 (fun hk => by first | omega | (have hk := hk; dsimp only at hk; omega))
      refine RL_q rfl (Yd_assign rfl) (RL_nil (X_then (C_ret (X_thenR (X_retCT rfl rfl rfl Try.underlying43 rfl (by kernel_rfl) hB2 ?_)))))
      have hp : pinF f = (13, f) := by unfold pinF; rw [if_neg (by simp [hb6]), if_pos hb10]
      rw [hp]; exact ⟨rfl, hE⟩
    · skip
      try simp only [decide_eq_true_eq, decide_eq_false_iff_not, Bool.not_eq_true', Bool.not_eq_false', Decidable.not_not, Int.not_lt, Int.not_le, Bool.or_eq_true, Bool.and_eq_true, Bool.or_eq_false_iff, Bool.and_eq_false_iff] at hb10
      refine C_skip (X_then (C_seq (C_region (RL_q rfl (Yd_fld (off := 3) Try.underlying43 (by kernel_rfl) rfl) (RL_q rfl (Yd_load Try.underlying3 rfl rfl (ldB hB1 rfl)) (RL_q rfl (Yd_add rfl rfl (i64w (by omega) (by omega))) (RL_q rfl (Yd_fld (off := 3) Try.underlying43 (by kernel_rfl) rfl) (RL_l0 (Ld_store (by kernel_rfl) rfl rfl hB1 (Nat.le_of_ble_eq_true rfl) (by simp [cellsL, Value.cells, Value.oneCell']) ?_)))))))))
      intro W3 hu3 hz3 hB1
      have hk3 := Kp.ofb hu3
      have hs3 := hk3.size
      replace hE := Ext.kp hE hk3 (fun k hk => by first | omega | (have hk := hk; dsimp only at hk; omega))
      replace hB2 := hB2.kp hk3 (fun hk => by first | omega | (have hk := hk; dsimp only at hk; omega))
      refine RL_nil (X_then (C_seq (C_region (RL_q rfl (Yd_fld (off := 2) Try.underlying43 (by kernel_rfl) rfl) (RL_l0 (Ld_store (by kernel_rfl) rfl rfl hB1 (Nat.le_of_ble_eq_true rfl) (by simp [cellsL, Value.cells, Value.oneCell']) ?_))))))
      intro W4 hu4 hz4 hB1
      have hk4 := Kp.ofb hu4
      have hs4 := hk4.size
      replace hE := Ext.kp hE hk4 (fun k hk => by first | omega | (have hk := hk; dsimp only at hk; omega))
      replace hB2 := hB2.kp hk4 (fun hk => by first | omega | (have hk := hk; dsimp only at hk; omega))
      refine RL_nil (X_then (C_seq (C_region (RL_q rfl (Yd_loadA Try.underlying43 rfl (by kernel_rfl) rfl (ldBA hB1)) (RL_l0 (Ld_store (by kernel_rfl) rfl rfl hB2 (Nat.le_of_ble_eq_true rfl) (by simp [cellsL, Value.cells, Value.oneCell']) ?_))))))
      intro W5 hu5 hz5 hB2
      have hk5 := Kp.ofb hu5
      have hs5 := hk5.size
      replace hE := Ext.kp hE hk5 (fun k hk => by first | omega | (have hk := hk; dsimp only at hk; omega))
      replace hB1 := hB1.kp hk5 (fun hk => by first | omega | (have hk := hk; dsimp only at hk; omega))
      refine RL_q rfl (Yd_assign rfl) (RL_nil (X_then (C_ret (X_retCT rfl rfl rfl Try.underlying43 rfl (by kernel_rfl) hB2 ?_))))
      have hp : pinF f = (0, ⟨f.u, f.d, true, f.pins + 1, f.page, f.b⟩) := by unfold pinF; rw [if_neg (by simp [hb6]), if_neg (by omega)]
      rw [hp]; exact ⟨rfl, hE⟩
theorem refUnpinV {f : Fr} {w : World}  (okf : FOk f) :
    Calls Try.prog 46 #[.agg #[.bool f.u, .bool f.d, .bool f.r, .int .i64 f.pins, .int .i64 f.page, .string (strOfNums f.b)]] w fun e w' => e = .returned (.tuple #[.agg #[.bool ((unpinF f).2).u, .bool ((unpinF f).2).d, .bool ((unpinF f).2).r, .int .i64 ((unpinF f).2).pins, .int .i64 ((unpinF f).2).page, .string (strOfNums ((unpinF f).2).b)], .int .i64 (unpinF f).1]) ∧ Ext w w' := by
  have hE := Ext.refl w
  have hpp := okf.hp
  have hll := okf.hl
  refine calls_of (l := [.agg #[.bool f.u, .bool f.d, .bool f.r, .int .i64 f.pins, .int .i64 f.page, .string (strOfNums f.b)]]) (N := 13) Try.func46 rfl rfl rfl ?_
  refine C_seq (C_region (RL_l rfl (Ld_box rfl ?_)))
  have hg_1 := hE.size
  intro W1 he1 hz1 hB1
  replace hE := Ext.trans hE he1
  refine RL_l rfl (Ld_alloc (v := (.agg #[(.bool false), (.bool false), (.bool false), (.int .i64 0), (.int .i64 0), (.string ⟨#[]⟩)])) (by kernel_rfl) ?_)
  have hg_2 := hE.size
  intro W2 he2 hz2 hB2
  replace hE := Ext.trans hE he2
  replace hB1 := hB1.ext he2
  refine RL_q rfl (Yd_assign rfl) (RL_nil (X_then (C_seq (C_seq (C_region (RL_q rfl (Yd_fld (off := 3) Try.underlying43 (by kernel_rfl) rfl) (RL_q rfl (Yd_load Try.underlying3 rfl rfl (ldB hB1 rfl)) (RL_q rfl (Yd_eql rfl rfl) (RL_nil (X_then (?_)))))))))))
  refine C_cond rfl (fun hb6 => ?_) (fun hb6 => ?_)
  · skip
    try simp only [decide_eq_true_eq, decide_eq_false_iff_not, Bool.not_eq_true', Bool.not_eq_false', Decidable.not_not, Int.not_lt, Int.not_le, Bool.or_eq_true, Bool.and_eq_true, Bool.or_eq_false_iff, Bool.and_eq_false_iff] at hb6
    refine C_seq (C_region (RL_q rfl (Yd_loadA Try.underlying43 rfl (by kernel_rfl) rfl (ldBA hB1)) (RL_l0 (Ld_store (by kernel_rfl) rfl rfl hB2 (Nat.le_of_ble_eq_true rfl) (by simp [cellsL, Value.cells, Value.oneCell']) ?_))))
    intro W3 hu3 hz3 hB2
    have hk3 := Kp.ofb hu3
    have hs3 := hk3.size
    replace hE := Ext.kp hE hk3 (fun k hk => by first | omega | (have hk := hk; dsimp only at hk; omega))
    replace hB1 := hB1.kp hk3 (fun hk => by first | omega | (have hk := hk; dsimp only at hk; omega))
    refine RL_q rfl (Yd_assign rfl) (RL_nil (X_then (C_ret (X_thenR (X_retCT rfl rfl rfl Try.underlying43 rfl (by kernel_rfl) hB2 ?_)))))
    have hp : unpinF f = (6, f) := by unfold unpinF; rw [if_pos hb6]
    rw [hp]; exact ⟨rfl, hE⟩
  · skip
    try simp only [decide_eq_true_eq, decide_eq_false_iff_not, Bool.not_eq_true', Bool.not_eq_false', Decidable.not_not, Int.not_lt, Int.not_le, Bool.or_eq_true, Bool.and_eq_true, Bool.or_eq_false_iff, Bool.and_eq_false_iff] at hb6
    refine C_skip (X_then (C_seq (C_region (RL_q rfl (Yd_fld (off := 3) Try.underlying43 (by kernel_rfl) rfl) (RL_q rfl (Yd_load Try.underlying3 rfl rfl (ldB hB1 rfl)) (RL_q rfl (Yd_sub rfl rfl (i64w (by omega) (by omega))) (RL_q rfl (Yd_fld (off := 3) Try.underlying43 (by kernel_rfl) rfl) (RL_l0 (Ld_store (by kernel_rfl) rfl rfl hB1 (Nat.le_of_ble_eq_true rfl) (by simp [cellsL, Value.cells, Value.oneCell']) ?_)))))))))
    intro W3 hu3 hz3 hB1
    have hk3 := Kp.ofb hu3
    have hs3 := hk3.size
    replace hE := Ext.kp hE hk3 (fun k hk => by first | omega | (have hk := hk; dsimp only at hk; omega))
    replace hB2 := hB2.kp hk3 (fun hk => by first | omega | (have hk := hk; dsimp only at hk; omega))
    refine RL_nil (X_then (C_seq (C_region (RL_q rfl (Yd_loadA Try.underlying43 rfl (by kernel_rfl) rfl (ldBA hB1)) (RL_l0 (Ld_store (by kernel_rfl) rfl rfl hB2 (Nat.le_of_ble_eq_true rfl) (by simp [cellsL, Value.cells, Value.oneCell']) ?_))))))
    intro W4 hu4 hz4 hB2
    have hk4 := Kp.ofb hu4
    have hs4 := hk4.size
    replace hE := Ext.kp hE hk4 (fun k hk => by first | omega | (have hk := hk; dsimp only at hk; omega))
    replace hB1 := hB1.kp hk4 (fun hk => by first | omega | (have hk := hk; dsimp only at hk; omega))
    refine RL_q rfl (Yd_assign rfl) (RL_nil (X_then (C_ret (X_retCT rfl rfl rfl Try.underlying43 rfl (by kernel_rfl) hB2 ?_))))
    have hp : unpinF f = (0, ⟨f.u, f.d, f.r, f.pins - 1, f.page, f.b⟩) := by unfold unpinF; rw [if_neg hb6]
    rw [hp]; exact ⟨rfl, hE⟩
theorem refLoadV {f : Fr} {pg : Int} {lo_b B_b : Nat} {A_b : Option Addr} {n_b c_b : Nat} {b : List Int} {w : World}  (okf : FOk f) (b_pg : -9223372036854775808 ≤ pg ∧ pg ≤ 9223372036854775807) (h_b : Vw tU8 w lo_b B_b A_b n_b c_b b) :
    Calls Try.prog 49 #[.agg #[.bool f.u, .bool f.d, .bool f.r, .int .i64 f.pins, .int .i64 f.page, .string (strOfNums f.b)], .int .i64 pg, .slice A_b n_b c_b] w fun e w' => e = .returned (.tuple #[.agg #[.bool ((loadF f pg b).2).u, .bool ((loadF f pg b).2).d, .bool ((loadF f pg b).2).r, .int .i64 ((loadF f pg b).2).pins, .int .i64 ((loadF f pg b).2).page, .string (strOfNums ((loadF f pg b).2).b)], .int .i64 (loadF f pg b).1]) ∧ Ext w w' := by
  have hE := Ext.refl w
  have hpp := okf.hp
  have hll := okf.hl
  replace h_b := h_b.fit
  have hn_b := h_b.ln
  have hc_b := h_b.cap
  have hm_b := h_b.max
  simp only [maxLen] at hm_b
  refine calls_of (l := [.agg #[.bool f.u, .bool f.d, .bool f.r, .int .i64 f.pins, .int .i64 f.page, .string (strOfNums f.b)], .int .i64 pg, .slice A_b n_b c_b]) (N := 16) Try.func49 rfl rfl rfl ?_
  refine C_seq (C_region (RL_l rfl (Ld_box rfl ?_)))
  have hg_3 := hE.size
  intro W1 he1 hz1 hB3
  replace hE := Ext.trans hE he1
  replace h_b := h_b.ext he1
  refine RL_l rfl (Ld_alloc (v := (.agg #[(.bool false), (.bool false), (.bool false), (.int .i64 0), (.int .i64 0), (.string ⟨#[]⟩)])) (by kernel_rfl) ?_)
  have hg_6 := hE.size
  intro W2 he2 hz2 hB6
  replace hE := Ext.trans hE he2
  replace h_b := h_b.ext he2
  replace hB3 := hB3.ext he2
  refine RL_q rfl (Yd_assign rfl) (RL_nil (X_then (C_seq (C_seq (C_region (RL_q rfl (Yd_move rfl) (RL_q rfl (Yd_len Try.underlying32 rfl) (RL_q rfl (Yd_neq rfl rfl) (RL_nil (X_then (?_)))))))))))
  refine C_cond rfl (fun hb10 => ?_) (fun hb10 => ?_)
  · skip
    try simp only [decide_eq_true_eq, decide_eq_false_iff_not, Bool.not_eq_true', Bool.not_eq_false', Decidable.not_not, Int.not_lt, Int.not_le, Bool.or_eq_true, Bool.and_eq_true, Bool.or_eq_false_iff, Bool.and_eq_false_iff] at hb10
    refine C_seq (C_region (RL_q rfl (Yd_loadA Try.underlying43 rfl (by kernel_rfl) rfl (ldBA hB3)) (RL_l0 (Ld_store (by kernel_rfl) rfl rfl hB6 (Nat.le_of_ble_eq_true rfl) (by simp [cellsL, Value.cells, Value.oneCell']) ?_))))
    intro W3 hu3 hz3 hB6
    have hk3 := Kp.ofb hu3
    have hs3 := hk3.size
    replace hE := Ext.kp hE hk3 (fun k hk => by first | omega | (have hk := hk; dsimp only at hk; omega))
    replace h_b := h_b.kp hk3 (fun k hk => by first | omega | (have hk := hk; dsimp only at hk; omega))
    replace hB3 := hB3.kp hk3 (fun hk => by first | omega | (have hk := hk; dsimp only at hk; omega))
    refine RL_q rfl (Yd_assign rfl) (RL_nil (X_then (C_ret (X_thenR (X_retCT rfl rfl rfl Try.underlying43 rfl (by kernel_rfl) hB6 ?_)))))
    have hp : loadF f pg b = (2, f) := by unfold loadF; rw [if_neg (by omega)]
    rw [hp]; exact ⟨rfl, hE⟩
  · skip
    try simp only [decide_eq_true_eq, decide_eq_false_iff_not, Bool.not_eq_true', Bool.not_eq_false', Decidable.not_not, Int.not_lt, Int.not_le, Bool.or_eq_true, Bool.and_eq_true, Bool.or_eq_false_iff, Bool.and_eq_false_iff] at hb10
    refine C_skip (X_then (C_seq (C_region (RL_q rfl (Yd_move rfl) (RL_q rfl (Yd_move rfl) (RL_q rfl (Yd_str Try.underlying32 Try.underlying5 Try.underlying9 rfl (fun W hW => Rd.ext (h_b).u8 hW)) (RL_q rfl (Yd_build Try.bld43 rfl rfl) (RL_l0 (Ld_store (by kernel_rfl) rfl rfl hB6 (Nat.le_of_ble_eq_true rfl) (by simp [cellsL, Value.cells, Value.oneCell']) ?_)))))))))
    intro W3 hu3 hz3 hB6
    have hk3 := Kp.ofb hu3
    have hs3 := hk3.size
    replace hE := Ext.kp hE hk3 (fun k hk => by first | omega | (have hk := hk; dsimp only at hk; omega))
    replace h_b := h_b.kp hk3 (fun k hk => by first | omega | (have hk := hk; dsimp only at hk; omega))
    replace hB3 := hB3.kp hk3 (fun hk => by first | omega | (have hk := hk; dsimp only at hk; omega))
    refine RL_q rfl (Yd_assign rfl) (RL_nil (X_then (C_ret (X_retCT rfl rfl rfl Try.underlying43 rfl (by kernel_rfl) hB6 ?_))))
    have hp : loadF f pg b = (0, ⟨true, false, false, 0, pg, b⟩) := by exact loadF_32 (by omega)
    rw [hp]; exact ⟨rfl, hE⟩
theorem refGetFV {f : Fr} {off : Int} {n : Int} {w : World}  (okf : FOk f) (b_off : -9223372036854775808 ≤ off ∧ off ≤ 9223372036854775807) (b_n : -9223372036854775808 ≤ n ∧ n ≤ 9223372036854775807) :
    Calls Try.prog 47 #[.agg #[.bool f.u, .bool f.d, .bool f.r, .int .i64 f.pins, .int .i64 f.page, .string (strOfNums f.b)], .int .i64 off, .int .i64 n] w fun e w' => ∃ (A0 : Option Addr) (n0 c0 : Nat), e = .returned (.tuple #[.agg #[.bool ((getF f off n).2.2).u, .bool ((getF f off n).2.2).d, .bool ((getF f off n).2.2).r, .int .i64 ((getF f off n).2.2).pins, .int .i64 ((getF f off n).2.2).page, .string (strOfNums ((getF f off n).2.2).b)], .slice A0 n0 c0, .int .i64 (getF f off n).2.1]) ∧ Ow tU8 5 w' w.heap.size w'.heap.size A0 n0 c0 ((getF f off n).1) ∧ Ext w w' := by
  have hE := Ext.refl w
  have hpp := okf.hp
  have hll := okf.hl
  refine calls_of (l := [.agg #[.bool f.u, .bool f.d, .bool f.r, .int .i64 f.pins, .int .i64 f.page, .string (strOfNums f.b)], .int .i64 off, .int .i64 n]) (N := 31) Try.func47 rfl rfl rfl ?_
  refine C_seq (C_region (RL_l rfl (Ld_box rfl ?_)))
  have hg_3 := hE.size
  intro W1 he1 hz1 hB3
  replace hE := Ext.trans hE he1
  refine RL_l rfl (Ld_alloc (v := (.agg #[(.bool false), (.bool false), (.bool false), (.int .i64 0), (.int .i64 0), (.string ⟨#[]⟩)])) (by kernel_rfl) ?_)
  have hg_6 := hE.size
  intro W2 he2 hz2 hB6
  replace hE := Ext.trans hE he2
  replace hB3 := hB3.ext he2
  refine RL_q rfl (Yd_assign rfl) (RL_q rfl (Yd_assign rfl) (RL_nil (X_then (C_seq (C_seq (C_region (RL_q rfl (Yd_fld (off := 3) Try.underlying43 (by kernel_rfl) rfl) (RL_q rfl (Yd_load Try.underlying3 rfl rfl (ldB hB3 rfl)) (RL_q rfl (Yd_eql rfl rfl) (RL_nil (X_then (?_))))))))))))
  refine C_cond rfl (fun hb13 => ?_) (fun hb13 => ?_)
  · skip
    try simp only [decide_eq_true_eq, decide_eq_false_iff_not, Bool.not_eq_true', Bool.not_eq_false', Decidable.not_not, Int.not_lt, Int.not_le, Bool.or_eq_true, Bool.and_eq_true, Bool.or_eq_false_iff, Bool.and_eq_false_iff] at hb13
    refine C_seq (C_region (RL_q rfl (Yd_loadA Try.underlying43 rfl (by kernel_rfl) rfl (ldBA hB3)) (RL_l0 (Ld_store (by kernel_rfl) rfl rfl hB6 (Nat.le_of_ble_eq_true rfl) (by simp [cellsL, Value.cells, Value.oneCell']) ?_))))
    intro W3 hu3 hz3 hB6
    have hk3 := Kp.ofb hu3
    have hs3 := hk3.size
    replace hE := Ext.kp hE hk3 (fun k hk => by first | omega | (have hk := hk; dsimp only at hk; omega))
    replace hB3 := hB3.kp hk3 (fun hk => by first | omega | (have hk := hk; dsimp only at hk; omega))
    refine RL_q rfl (Yd_assign rfl) (RL_q rfl (Yd_assign rfl) (RL_nil (X_then (C_ret (X_thenR (X_retCTT rfl rfl rfl rfl Try.underlying43 rfl (by kernel_rfl) hB6 ?_))))))
    have hp : getF f off n = ([], 6, f) := by unfold getF; rw [if_pos hb13]
    rw [hp]; exact ⟨_, _, _, rfl, Ow.nil, hE⟩
  · skip
    try simp only [decide_eq_true_eq, decide_eq_false_iff_not, Bool.not_eq_true', Bool.not_eq_false', Decidable.not_not, Int.not_lt, Int.not_le, Bool.or_eq_true, Bool.and_eq_true, Bool.or_eq_false_iff, Bool.and_eq_false_iff] at hb13
    refine C_skip (X_then (C_seq (C_region (RL_q rfl (Yd_fld (off := 5) Try.underlying43 (by kernel_rfl) rfl) (RL_q rfl (Yd_load Try.underlying9 rfl rfl (ldB hB3 rfl)) (RL_l rfl (Ld_ofStr (L := f.b) Try.underlying9 Try.underlying32 Try.underlying5 rfl okf.hy (by omega) ?_)))))))
    intro c18 W3 he3 hS18
    replace hE := Ext.trans hE he3
    replace hB3 := hB3.ext he3
    replace hB6 := hB6.ext he3
    have hs3 := he3.size
    have hc18 := hS18.cap
    refine RL_q rfl (Yd_move rfl) (RL_q rfl (Yd_move rfl) (RL_l rfl (Ld_call Try.func44 rfl (by kernel_rfl) rfl (refGetV hS18 ⟨by first | omega | (dsimp only; omega), by first | omega | (dsimp only; omega)⟩ ⟨by first | omega | (dsimp only; omega), by first | omega | (dsimp only; omega)⟩) ?_)))
    rintro e W4 ⟨A21_0, n21_0, c21_0, y21_1, rfl, hF21_0, hy21_1, he4⟩
    refine ⟨_, rfl, ?_⟩
    replace hE := Ext.trans hE he4
    replace hB3 := hB3.ext he4
    replace hB6 := hB6.ext he4
    replace hS18 := hS18.ext he4
    have hs4 := he4.size
    have hn21_0 := hF21_0.ln
    try simp only [List.length_append, List.length_cons, List.length_nil, List.length_set, List.length_take, List.length_drop, List.length_replicate, List.length_map, Nat.zero_add, Nat.add_zero] at hn21_0
    have hc21_0 := hF21_0.cap
    replace hy21_1 : y21_1 = fitsE 32 off n := by rw [hll] at hy21_1; exact hy21_1
    refine RL_q rfl (Yd_move rfl) (RL_q rfl (Yd_extract rfl rfl) (RL_q rfl (Yd_extract rfl rfl) (RL_q rfl (Yd_assign rfl) (RL_q rfl (Yd_assign rfl) (RL_nil (X_then (C_seq (C_seq (C_region (RL_q rfl (Yd_move rfl) (RL_q rfl (Yd_neq rfl rfl) (RL_nil (X_then (?_))))))))))))))
    refine C_cond rfl (fun hb25 => ?_) (fun hb25 => ?_)
    · skip
      try simp only [decide_eq_true_eq, decide_eq_false_iff_not, Bool.not_eq_true', Bool.not_eq_false', Decidable.not_not, Int.not_lt, Int.not_le, Bool.or_eq_true, Bool.and_eq_true, Bool.or_eq_false_iff, Bool.and_eq_false_iff] at hb25
      refine C_seq (C_region (RL_q rfl (Yd_loadA Try.underlying43 rfl (by kernel_rfl) rfl (ldBA hB3)) (RL_q rfl (Yd_move rfl) (RL_l0 (Ld_store (by kernel_rfl) rfl rfl hB6 (Nat.le_of_ble_eq_true rfl) (by simp [cellsL, Value.cells, Value.oneCell']) ?_)))))
      intro W5 hu5 hz5 hB6
      have hk5 := Kp.ofb hu5
      have hs5 := hk5.size
      replace hE := Ext.kp hE hk5 (fun k hk => by first | omega | (have hk := hk; dsimp only at hk; omega))
      replace hB3 := hB3.kp hk5 (fun hk => by first | omega | (have hk := hk; dsimp only at hk; omega))
      replace hS18 := hS18.kp hk5 (fun k hk => by first | omega | (have hk := hk; dsimp only at hk; omega))
      replace hF21_0 := hF21_0.kp hk5 (fun k hk => by first | omega | (have hk := hk; dsimp only at hk; omega))
      refine RL_q rfl (Yd_assign rfl) (RL_q rfl (Yd_assign rfl) (RL_nil (X_then (C_ret (X_thenR (X_retCTT rfl rfl rfl rfl Try.underlying43 rfl (by kernel_rfl) hB6 ?_))))))
      have hp : getF f off n = ([], fitsE 32 off n, f) := by unfold getF; rw [if_neg hb13, if_neg (by rw [← hy21_1]; exact hb25)]
      rw [hp]; exact ⟨_, _, _, by rw [← hy21_1]; rfl, Ow.nil, hE⟩
    · skip
      try simp only [decide_eq_true_eq, decide_eq_false_iff_not, Bool.not_eq_true', Bool.not_eq_false', Decidable.not_not, Int.not_lt, Int.not_le, Bool.or_eq_true, Bool.and_eq_true, Bool.or_eq_false_iff, Bool.and_eq_false_iff] at hb25
      refine C_skip (X_then (C_seq (C_region (RL_q rfl (Yd_fld (off := 2) Try.underlying43 (by kernel_rfl) rfl) (RL_l0 (Ld_store (by kernel_rfl) rfl rfl hB3 (Nat.le_of_ble_eq_true rfl) (by simp [cellsL, Value.cells, Value.oneCell']) ?_))))))
      intro W5 hu5 hz5 hB3
      have hk5 := Kp.ofb hu5
      have hs5 := hk5.size
      replace hE := Ext.kp hE hk5 (fun k hk => by first | omega | (have hk := hk; dsimp only at hk; omega))
      replace hB6 := hB6.kp hk5 (fun hk => by first | omega | (have hk := hk; dsimp only at hk; omega))
      replace hS18 := hS18.kp hk5 (fun k hk => by first | omega | (have hk := hk; dsimp only at hk; omega))
      replace hF21_0 := hF21_0.kp hk5 (fun k hk => by first | omega | (have hk := hk; dsimp only at hk; omega))
      refine RL_nil (X_then (C_seq (C_region (RL_q rfl (Yd_loadA Try.underlying43 rfl (by kernel_rfl) rfl (ldBA hB3)) (RL_q rfl (Yd_move rfl) (RL_l0 (Ld_store (by kernel_rfl) rfl rfl hB6 (Nat.le_of_ble_eq_true rfl) (by simp [cellsL, Value.cells, Value.oneCell']) ?_)))))))
      intro W6 hu6 hz6 hB6
      have hk6 := Kp.ofb hu6
      have hs6 := hk6.size
      replace hE := Ext.kp hE hk6 (fun k hk => by first | omega | (have hk := hk; dsimp only at hk; omega))
      replace hB3 := hB3.kp hk6 (fun hk => by first | omega | (have hk := hk; dsimp only at hk; omega))
      replace hS18 := hS18.kp hk6 (fun k hk => by first | omega | (have hk := hk; dsimp only at hk; omega))
      replace hF21_0 := hF21_0.kp hk6 (fun k hk => by first | omega | (have hk := hk; dsimp only at hk; omega))
      refine RL_q rfl (Yd_assign rfl) (RL_q rfl (Yd_assign rfl) (RL_nil (X_then (C_ret (X_retCTT rfl rfl rfl rfl Try.underlying43 rfl (by kernel_rfl) hB6 ?_)))))
      have hp : getF f off n = (pGet f.b off n, 0, ⟨f.u, f.d, true, f.pins, f.page, f.b⟩) := by unfold getF; rw [if_neg hb13, if_pos (by rw [← hy21_1]; exact hb25)]
      rw [hp]; exact ⟨_, _, _, rfl, (hF21_0.fit.more (by omega) (Nat.le_refl _)), hE⟩
theorem refPutFV {f : Fr} {off : Int} {lo_b B_b : Nat} {A_b : Option Addr} {n_b c_b : Nat} {b : List Int} {w : World}  (okf : FOk f) (b_off : -9223372036854775808 ≤ off ∧ off ≤ 9223372036854775807) (h_b : Vw tU8 w lo_b B_b A_b n_b c_b b) :
    Calls Try.prog 48 #[.agg #[.bool f.u, .bool f.d, .bool f.r, .int .i64 f.pins, .int .i64 f.page, .string (strOfNums f.b)], .int .i64 off, .slice A_b n_b c_b] w fun e w' => e = .returned (.tuple #[.agg #[.bool ((putF f off b).2).u, .bool ((putF f off b).2).d, .bool ((putF f off b).2).r, .int .i64 ((putF f off b).2).pins, .int .i64 ((putF f off b).2).page, .string (strOfNums ((putF f off b).2).b)], .int .i64 (putF f off b).1]) ∧ Ext w w' := by
  have hE := Ext.refl w
  have hpp := okf.hp
  have hll := okf.hl
  replace h_b := h_b.fit
  have hn_b := h_b.ln
  have hc_b := h_b.cap
  have hm_b := h_b.max
  simp only [maxLen] at hm_b
  refine calls_of (l := [.agg #[.bool f.u, .bool f.d, .bool f.r, .int .i64 f.pins, .int .i64 f.page, .string (strOfNums f.b)], .int .i64 off, .slice A_b n_b c_b]) (N := 33) Try.func48 rfl rfl rfl ?_
  refine C_seq (C_region (RL_l rfl (Ld_box rfl ?_)))
  have hg_3 := hE.size
  intro W1 he1 hz1 hB3
  replace hE := Ext.trans hE he1
  replace h_b := h_b.ext he1
  refine RL_l rfl (Ld_alloc (v := (.agg #[(.bool false), (.bool false), (.bool false), (.int .i64 0), (.int .i64 0), (.string ⟨#[]⟩)])) (by kernel_rfl) ?_)
  have hg_6 := hE.size
  intro W2 he2 hz2 hB6
  replace hE := Ext.trans hE he2
  replace h_b := h_b.ext he2
  replace hB3 := hB3.ext he2
  refine RL_q rfl (Yd_assign rfl) (RL_nil (X_then (C_seq (C_seq (C_region (RL_q rfl (Yd_fld (off := 3) Try.underlying43 (by kernel_rfl) rfl) (RL_q rfl (Yd_load Try.underlying3 rfl rfl (ldB hB3 rfl)) (RL_q rfl (Yd_eql rfl rfl) (RL_nil (X_then (?_)))))))))))
  refine C_cond rfl (fun hb12 => ?_) (fun hb12 => ?_)
  · skip
    try simp only [decide_eq_true_eq, decide_eq_false_iff_not, Bool.not_eq_true', Bool.not_eq_false', Decidable.not_not, Int.not_lt, Int.not_le, Bool.or_eq_true, Bool.and_eq_true, Bool.or_eq_false_iff, Bool.and_eq_false_iff] at hb12
    refine C_seq (C_region (RL_q rfl (Yd_loadA Try.underlying43 rfl (by kernel_rfl) rfl (ldBA hB3)) (RL_l0 (Ld_store (by kernel_rfl) rfl rfl hB6 (Nat.le_of_ble_eq_true rfl) (by simp [cellsL, Value.cells, Value.oneCell']) ?_))))
    intro W3 hu3 hz3 hB6
    have hk3 := Kp.ofb hu3
    have hs3 := hk3.size
    replace hE := Ext.kp hE hk3 (fun k hk => by first | omega | (have hk := hk; dsimp only at hk; omega))
    replace h_b := h_b.kp hk3 (fun k hk => by first | omega | (have hk := hk; dsimp only at hk; omega))
    replace hB3 := hB3.kp hk3 (fun hk => by first | omega | (have hk := hk; dsimp only at hk; omega))
    refine RL_q rfl (Yd_assign rfl) (RL_nil (X_then (C_ret (X_thenR (X_retCT rfl rfl rfl Try.underlying43 rfl (by kernel_rfl) hB6 ?_)))))
    have hp : putF f off b = (6, f) := by unfold putF; rw [if_pos hb12]
    rw [hp]; exact ⟨rfl, hE⟩
  · skip
    try simp only [decide_eq_true_eq, decide_eq_false_iff_not, Bool.not_eq_true', Bool.not_eq_false', Decidable.not_not, Int.not_lt, Int.not_le, Bool.or_eq_true, Bool.and_eq_true, Bool.or_eq_false_iff, Bool.and_eq_false_iff] at hb12
    refine C_skip (X_then (C_seq (C_region (RL_q rfl (Yd_fld (off := 5) Try.underlying43 (by kernel_rfl) rfl) (RL_q rfl (Yd_load Try.underlying9 rfl rfl (ldB hB3 rfl)) (RL_l rfl (Ld_ofStr (L := f.b) Try.underlying9 Try.underlying32 Try.underlying5 rfl okf.hy (by omega) ?_)))))))
    intro c17 W3 he3 hS17
    replace hE := Ext.trans hE he3
    replace h_b := h_b.ext he3
    replace hB3 := hB3.ext he3
    replace hB6 := hB6.ext he3
    have hs3 := he3.size
    have hc17 := hS17.cap
    refine RL_q rfl (Yd_move rfl) (RL_q rfl (Yd_move rfl) (RL_l rfl (Ld_call Try.func26 rfl (by kernel_rfl) rfl (refPutV8 hS17 ⟨by first | omega | (dsimp only; omega), by first | omega | (dsimp only; omega)⟩ h_b) ?_)))
    rintro e W4 ⟨A20_0, n20_0, c20_0, y20_1, rfl, hF20_0, hy20_1, he4⟩
    refine ⟨_, rfl, ?_⟩
    replace hE := Ext.trans hE he4
    replace h_b := h_b.ext he4
    replace hB3 := hB3.ext he4
    replace hB6 := hB6.ext he4
    replace hS17 := hS17.ext he4
    have hs4 := he4.size
    have hn20_0 := hF20_0.ln
    try simp only [List.length_append, List.length_cons, List.length_nil, List.length_set, List.length_take, List.length_drop, List.length_replicate, List.length_map, Nat.zero_add, Nat.add_zero] at hn20_0
    have hc20_0 := hF20_0.cap
    replace hy20_1 : y20_1 = fitsE 32 off b.length := by rw [hll, ← h_b.ln] at hy20_1; exact hy20_1
    refine RL_q rfl (Yd_move rfl) (RL_q rfl (Yd_extract rfl rfl) (RL_q rfl (Yd_extract rfl rfl) (RL_q rfl (Yd_assign rfl) (RL_q rfl (Yd_assign rfl) (RL_nil (X_then (C_seq (C_seq (C_region (RL_q rfl (Yd_move rfl) (RL_q rfl (Yd_neq rfl rfl) (RL_nil (X_then (?_))))))))))))))
    refine C_cond rfl (fun hb24 => ?_) (fun hb24 => ?_)
    · skip
      try simp only [decide_eq_true_eq, decide_eq_false_iff_not, Bool.not_eq_true', Bool.not_eq_false', Decidable.not_not, Int.not_lt, Int.not_le, Bool.or_eq_true, Bool.and_eq_true, Bool.or_eq_false_iff, Bool.and_eq_false_iff] at hb24
      refine C_seq (C_region (RL_q rfl (Yd_loadA Try.underlying43 rfl (by kernel_rfl) rfl (ldBA hB3)) (RL_q rfl (Yd_move rfl) (RL_l0 (Ld_store (by kernel_rfl) rfl rfl hB6 (Nat.le_of_ble_eq_true rfl) (by simp [cellsL, Value.cells, Value.oneCell']) ?_)))))
      intro W5 hu5 hz5 hB6
      have hk5 := Kp.ofb hu5
      have hs5 := hk5.size
      replace hE := Ext.kp hE hk5 (fun k hk => by first | omega | (have hk := hk; dsimp only at hk; omega))
      replace h_b := h_b.kp hk5 (fun k hk => by first | omega | (have hk := hk; dsimp only at hk; omega))
      replace hB3 := hB3.kp hk5 (fun hk => by first | omega | (have hk := hk; dsimp only at hk; omega))
      replace hS17 := hS17.kp hk5 (fun k hk => by first | omega | (have hk := hk; dsimp only at hk; omega))
      replace hF20_0 := hF20_0.kp hk5 (fun k hk => by first | omega | (have hk := hk; dsimp only at hk; omega))
      refine RL_q rfl (Yd_assign rfl) (RL_nil (X_then (C_ret (X_thenR (X_retCT rfl rfl rfl Try.underlying43 rfl (by kernel_rfl) hB6 ?_)))))
      have hp : putF f off b = (fitsE 32 off b.length, f) := by unfold putF; rw [if_neg hb12, if_neg (by rw [← hy20_1]; exact hb24)]
      rw [hp]; exact ⟨by rw [← hy20_1]; rfl, hE⟩
    · skip
      try simp only [decide_eq_true_eq, decide_eq_false_iff_not, Bool.not_eq_true', Bool.not_eq_false', Decidable.not_not, Int.not_lt, Int.not_le, Bool.or_eq_true, Bool.and_eq_true, Bool.or_eq_false_iff, Bool.and_eq_false_iff] at hb24
      refine C_skip (X_then (C_seq (C_region (RL_q rfl (Yd_move rfl) (RL_q rfl (Yd_str Try.underlying32 Try.underlying5 Try.underlying9 rfl (fun W hW => Rd.ext (hF20_0.vw).u8 hW)) (RL_q rfl (Yd_fld (off := 5) Try.underlying43 (by kernel_rfl) rfl) (RL_l0 (Ld_store (by kernel_rfl) rfl rfl hB3 (Nat.le_of_ble_eq_true rfl) (by simp [cellsL, Value.cells, Value.oneCell']) ?_))))))))
      intro W5 hu5 hz5 hB3
      have hk5 := Kp.ofb hu5
      have hs5 := hk5.size
      replace hE := Ext.kp hE hk5 (fun k hk => by first | omega | (have hk := hk; dsimp only at hk; omega))
      replace h_b := h_b.kp hk5 (fun k hk => by first | omega | (have hk := hk; dsimp only at hk; omega))
      replace hB6 := hB6.kp hk5 (fun hk => by first | omega | (have hk := hk; dsimp only at hk; omega))
      replace hS17 := hS17.kp hk5 (fun k hk => by first | omega | (have hk := hk; dsimp only at hk; omega))
      replace hF20_0 := hF20_0.kp hk5 (fun k hk => by first | omega | (have hk := hk; dsimp only at hk; omega))
      refine RL_nil (X_then (C_seq (C_region (RL_q rfl (Yd_fld (off := 2) Try.underlying43 (by kernel_rfl) rfl) (RL_l0 (Ld_store (by kernel_rfl) rfl rfl hB3 (Nat.le_of_ble_eq_true rfl) (by simp [cellsL, Value.cells, Value.oneCell']) ?_))))))
      intro W6 hu6 hz6 hB3
      have hk6 := Kp.ofb hu6
      have hs6 := hk6.size
      replace hE := Ext.kp hE hk6 (fun k hk => by first | omega | (have hk := hk; dsimp only at hk; omega))
      replace h_b := h_b.kp hk6 (fun k hk => by first | omega | (have hk := hk; dsimp only at hk; omega))
      replace hB6 := hB6.kp hk6 (fun hk => by first | omega | (have hk := hk; dsimp only at hk; omega))
      replace hS17 := hS17.kp hk6 (fun k hk => by first | omega | (have hk := hk; dsimp only at hk; omega))
      replace hF20_0 := hF20_0.kp hk6 (fun k hk => by first | omega | (have hk := hk; dsimp only at hk; omega))
      refine RL_nil (X_then (C_seq (C_region (RL_q rfl (Yd_fld (off := 1) Try.underlying43 (by kernel_rfl) rfl) (RL_l0 (Ld_store (by kernel_rfl) rfl rfl hB3 (Nat.le_of_ble_eq_true rfl) (by simp [cellsL, Value.cells, Value.oneCell']) ?_))))))
      intro W7 hu7 hz7 hB3
      have hk7 := Kp.ofb hu7
      have hs7 := hk7.size
      replace hE := Ext.kp hE hk7 (fun k hk => by first | omega | (have hk := hk; dsimp only at hk; omega))
      replace h_b := h_b.kp hk7 (fun k hk => by first | omega | (have hk := hk; dsimp only at hk; omega))
      replace hB6 := hB6.kp hk7 (fun hk => by first | omega | (have hk := hk; dsimp only at hk; omega))
      replace hS17 := hS17.kp hk7 (fun k hk => by first | omega | (have hk := hk; dsimp only at hk; omega))
      replace hF20_0 := hF20_0.kp hk7 (fun k hk => by first | omega | (have hk := hk; dsimp only at hk; omega))
      refine RL_nil (X_then (C_seq (C_region (RL_q rfl (Yd_loadA Try.underlying43 rfl (by kernel_rfl) rfl (ldBA hB3)) (RL_l0 (Ld_store (by kernel_rfl) rfl rfl hB6 (Nat.le_of_ble_eq_true rfl) (by simp [cellsL, Value.cells, Value.oneCell']) ?_))))))
      intro W8 hu8 hz8 hB6
      have hk8 := Kp.ofb hu8
      have hs8 := hk8.size
      replace hE := Ext.kp hE hk8 (fun k hk => by first | omega | (have hk := hk; dsimp only at hk; omega))
      replace h_b := h_b.kp hk8 (fun k hk => by first | omega | (have hk := hk; dsimp only at hk; omega))
      replace hB3 := hB3.kp hk8 (fun hk => by first | omega | (have hk := hk; dsimp only at hk; omega))
      replace hS17 := hS17.kp hk8 (fun k hk => by first | omega | (have hk := hk; dsimp only at hk; omega))
      replace hF20_0 := hF20_0.kp hk8 (fun k hk => by first | omega | (have hk := hk; dsimp only at hk; omega))
      refine RL_q rfl (Yd_assign rfl) (RL_nil (X_then (C_ret (X_retCT rfl rfl rfl Try.underlying43 rfl (by kernel_rfl) hB6 ?_))))
      have hp : putF f off b = (0, ⟨f.u, true, true, f.pins, f.page, pPut f.b off b⟩) := by unfold putF; rw [if_neg hb12, if_pos (by rw [← hy20_1]; exact hb24)]
      rw [hp]; exact ⟨rfl, hE⟩
end Go.Proofs.AL
