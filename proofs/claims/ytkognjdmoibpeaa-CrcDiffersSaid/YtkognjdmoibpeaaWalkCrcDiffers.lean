import Derived.Test.YtkognjdmoibpeaaCrc
set_option linter.unusedVariables false
set_option linter.unusedSimpArgs false
namespace Go.Proofs.AL
open Go.RowKit

/-- a block of a slice, if the slice has anything -/
def Bk (w : World) (n g : Nat) (t : TypeId) (cs : List Value) : Prop := 0 < n → Blk w g t cs
theorem Bk.ext {w w' : World} {n g : Nat} {t : TypeId} {cs : List Value} (h : Bk w n g t cs) (hb : Ext w w') : Bk w' n g t cs := fun hn => (h hn).ext hb
theorem Bk.bt {w w' : World} {n g g' : Nat} {t : TypeId} {cs : List Value} (h : Bk w n g' t cs) (hb : But g w w') (hne : g' ≠ g) : Bk w' n g' t cs := fun hn => (h hn).bt hb hne
theorem own_bk {w : World} {base n c : Nat} {e : TypeId} {A : Option Addr} {xs : List Int} (h : Own w base e 1 A n c (ints .u8 xs)) (hlt : base < w.heap.size) : ∃ g ys, (0 < n → A = some ⟨g, 0, none⟩) ∧ base ≤ g ∧ g < w.heap.size ∧ Bk w n g e (ints .u8 xs ++ ys) := by
  by_cases hn : 0 < n
  · obtain ⟨g, ys, h1, h2, h3, _⟩ := h.blk hn
    exact ⟨g, ys, fun _ => h1, h2, h3.lt, fun _ => h3⟩
  · exact ⟨base, [], fun h => absurd h hn, Nat.le_refl _, hlt, fun h => absurd h hn⟩
theorem set_cells {cs : List Int} {ys : List Value} {i o : Nat} {v : Int} (hi : i < cs.length) (ho : o = i) : (ints .u8 cs ++ ys).take o ++ cellsL (.int .u8 v) ++ (ints .u8 cs ++ ys).drop (o + (cellsL (.int .u8 v)).length) = ints .u8 (cs.set i v) ++ ys := by
  subst ho
  have h1 : (ints .u8 cs).length = cs.length := by simp [ints]
  have h2 : cellsL (.int .u8 v) = [.int .u8 v] := rfl
  rw [h2, List.take_append_of_le_length (by omega), List.drop_append_of_le_length (by simp; omega), List.set_eq_take_append_cons_drop, if_pos hi]
  simp [ints]
theorem cell_at {cs : List Int} {ys : List Value} {i o : Nat} (hi : i < cs.length) (ho : o = i) : (ints .u8 cs ++ ys)[o]? = some (.int .u8 cs[i]) := by
  subst ho
  rw [List.getElem?_append_left (by simpa [ints] using hi), ints_get _ _ _ hi]

theorem few_few (b : List Int) (m : Int) (h : 0 ≤ m) : few (few b m) m = few b m := few_all (few_le b m h).1
theorem turn {a y : Int} (ha : 0 ≤ a ∧ a ≤ 255) (hy : 0 ≤ y ∧ y ≤ 255) (hne : y ≠ 0) : (0 ≤ bitsOp .xor .u8 a y ∧ bitsOp .xor .u8 a y ≤ 255) ∧ bitsOp .xor .u8 a y ≠ a := by
  obtain ⟨a, rfl⟩ := Int.eq_ofNat_of_zero_le ha.1
  obtain ⟨y, rfl⟩ := Int.eq_ofNat_of_zero_le hy.1
  rw [xor8 (by omega) (by omega)]
  have h : a ^^^ y < 256 := Nat.xor_lt_two_pow (n := 8) (by omega) (by omega)
  refine ⟨by omega, fun e => ?_⟩
  have e : a ^^^ y = a := by omega
  have e2 := congrArg (fun z => a ^^^ z) e
  simp only [← Nat.xor_assoc, Nat.xor_self, Nat.zero_xor] at e2
  omega
theorem CrcDiffers_c (A0 : Option Addr) (n0 c0 : Nat) (b : List Int) (at_ by_ : Int) (w : World) (hr0 : Rd w w.heap.size 1 A0 n0 (ints .u8 b)) (hn0 : b.length = n0) (hc0 : n0 ≤ c0) (hm0 : c0 ≤ maxLen) (hz0 : A0 = none → c0 = 0) (hy0 : Byt b) (h1 : -9223372036854775808 ≤ at_) (h2 : at_ ≤ 9223372036854775807) (h3 : 0 ≤ by_) (h4 : by_ ≤ 255) :
    Calls Try.prog 5 #[.slice A0 n0 c0, .int .i64 at_, .int .u8 by_] w fun e w' => e = .returned (.bool true) ∧ Ext w w' := by
  have hE := Ext.refl w
  have h40 := few_le b 40 (by omega)
  have hyf := few_byt hy0 40
  refine calls_of (l := [.slice A0 n0 c0, .int .i64 at_, .int .u8 by_]) (N := 41) Try.func5 rfl rfl rfl ?_
  refine C_seq (C_region (RL_q rfl (Yd_assign rfl) (RL_nil (X_then (C_seq (C_region (RL_q rfl (Yd_move rfl) (RL_l rfl (Ld_call Try.func15 rfl (by kernel_rfl) rfl (Few_c A0 n0 c0 b 40 _ (hr0.ext hE) hn0 hc0 (by omega) (by omega) hz0) ?_)))))))))
  rintro e W1 ⟨A7, c7, rfl, hO, he1⟩
  refine ⟨_, rfl, ?_⟩
  replace hE := Ext.trans hE he1
  have hs1 := he1.size
  replace hO := hO.rw_
  refine RL_q rfl (Yd_assign rfl) (RL_nil (X_then (C_seq (C_seq (C_region (RL_q rfl (Yd_move rfl) (RL_q rfl (Yd_len Try.underlying22 rfl) (RL_q rfl (Yd_eql rfl rfl) (RL_nil (X_then (?_)))))))))))
  refine C_cond rfl (fun hb14 => ?_) (fun hb14 => ?_)
  · skip
    try simp only [decide_eq_true_eq, decide_eq_false_iff_not, Bool.not_eq_true', Bool.not_eq_false', Decidable.not_not, Int.not_lt, Int.not_le, Bool.or_eq_true, Bool.and_eq_true, Bool.or_eq_false_iff, Bool.and_eq_false_iff] at hb14
    refine C_seq (C_region (RL_l rfl (Ld_call Try.func19 rfl (by kernel_rfl) rfl (lives02_c _) ?_)))
    rintro e W2 ⟨rfl, he2⟩
    refine ⟨_, rfl, ?_⟩
    replace hE := Ext.trans hE he2
    replace hO := hO.ext he2
    have hs2 := he2.size
    refine RL_q rfl (Yd_assign rfl) (RL_nil (X_then (C_ret (X_thenR (X_ret1 rfl rfl ?_)))))
    exact ⟨rfl, hE⟩
  · skip
    try simp only [decide_eq_true_eq, decide_eq_false_iff_not, Bool.not_eq_true', Bool.not_eq_false', Decidable.not_not, Int.not_lt, Int.not_le, Bool.or_eq_true, Bool.and_eq_true, Bool.or_eq_false_iff, Bool.and_eq_false_iff] at hb14
    refine C_skip (X_then (C_seq (C_seq (C_region (RL_q rfl (Yd_move rfl) (RL_q rfl (Yd_eql rfl rfl) (RL_nil (X_then (?_)))))))))
    refine C_cond rfl (fun hb17 => ?_) (fun hb17 => ?_)
    · skip
      try simp only [decide_eq_true_eq, decide_eq_false_iff_not, Bool.not_eq_true', Bool.not_eq_false', Decidable.not_not, Int.not_lt, Int.not_le, Bool.or_eq_true, Bool.and_eq_true, Bool.or_eq_false_iff, Bool.and_eq_false_iff] at hb17
      refine C_region (RL_q rfl (Yd_assign rfl) (RL_nil (X_then (C_seq (C_region (RL_q rfl (Yd_move rfl) (RL_l rfl (Ld_call Try.func15 rfl (by kernel_rfl) rfl ((few_few b 40 (by omega) ▸ Few_c A7 _ c7 (few b 40) 40 _ hO.rd rfl hO.cap (by omega) (by omega) hO.nil)) ?_))))))))
      rintro e W2 ⟨A8, c8, rfl, hP, he2⟩
      refine ⟨_, rfl, ?_⟩
      replace hE := Ext.trans hE he2
      replace hO := hO.ext he2
      have hs2 := he2.size
      have hP1 := hP.lt'
      refine RL_q rfl (Yd_assign rfl) (RL_nil (X_then (C_seq (C_region (RL_q rfl (Yd_move rfl) (RL_q rfl (Yd_move rfl) (RL_q rfl (Yd_len Try.underlying22 rfl) (RL_l rfl (Ld_call Try.func20 rfl (by kernel_rfl) rfl (Around_c at_ _ _ h1 h2 (by omega) (by omega)) ?_)))))))))
      rintro e W3 ⟨rfl, rfl⟩
      refine ⟨_, rfl, ?_⟩
      have hk := around_range at_ (m := ((few b 40).length : Int)) (by omega)
      generalize around at_ ((few b 40).length : Int) = kk at hk ⊢
      obtain ⟨k, rfl⟩ := Int.eq_ofNat_of_zero_le hk.1
      have hk2 : k < (few b 40).length := by omega
      obtain ⟨gP, ys, rfl, hgP, hBP, hlP⟩ := hP.blk (by omega)
      have hgP2 : gP < _ := (hP1 _ rfl).2
      have hget := ints_get .u8 (few b 40) k hk2
      refine RL_q rfl (Yd_assign rfl) (RL_nil (X_then (C_seq (C_region (RL_q rfl (Yd_move rfl) (RL_q rfl (Yd_move rfl) (RL_q rfl (Yd_move rfl) (RL_q rfl (Yd_move rfl) (RL_q rfl (Yd_idxL Try.underlying22 (sz := 1) (by kernel_rfl) rfl rfl (by omega) (by omega)) (RL_q rfl (Yd_load Try.underlying5 rfl rfl (ldB hBP (cell_at (i := k) (o := 0 + ((k : Nat) : Int).toNat * 1) hk2 (by omega)))) (RL_q rfl (Yd_move rfl) (RL_q rfl (Yd_xor rfl rfl rfl) (RL_q rfl (Yd_idxL Try.underlying22 (sz := 1) (by kernel_rfl) rfl rfl (by omega) (by omega)) (RL_l0 (Ld_store (by kernel_rfl) rfl rfl hBP (by simp [cellsL, Value.cells, ints]; omega) (by simp [cellsL, Value.cells, Value.oneCell']) ?_)))))))))))))))
      intro W4 hu4 hz4 hN
      replace hE := ext_but hE hu4 (by omega)
      replace hO := hO.bt hu4 (by omega)
      rw [set_cells (i := k) hk2 (by omega)] at hN
      obtain ⟨hv, hvn⟩ := turn (y := 1) (hyf.get k hk2) (by omega) (by omega)
      have hQ : Rd W4 W4.heap.size 1 (some ⟨gP, 0, none⟩) (few b 40).length (ints .u8 ((few b 40).set k (bitsOp .xor .u8 ((few b 40)[k]'hk2) 1))) := (hN.rd (sz := 1) (n := (ints .u8 ((few b 40).set k (bitsOp .xor .u8 ((few b 40)[k]'hk2) 1)) ++ ys).length) (by simp)).rest (by simp [ints]) (fun h => by simp [ints]; omega)
      have hyq : Byt ((few b 40).set k (bitsOp .xor .u8 ((few b 40)[k]'hk2) 1)) := hyf.set k hv.1 hv.2
      have hdif : cmore 0 ((few b 40).set k (bitsOp .xor .u8 ((few b 40)[k]'hk2) 1)) ≠ cmore 0 (few b 40) := fun e => by
        have h1 := creg_lt (n := 4294967295) (by omega) hyq
        have h2 := creg_lt (n := 4294967295) (by omega) hyf
        have h3 := creg_set hyf 4294967295 (by omega) k hk2 hv hvn
        unfold cmore at e
        rw [Nat.sub_zero] at e
        omega
      obtain ⟨q, hq⟩ : ∃ q, q = (few b 40).set k (bitsOp .xor .u8 ((few b 40)[k]'hk2) 1) := ⟨_, rfl⟩
      rw [← hq] at hQ hyq hdif
      have hql : q.length = (few b 40).length := by rw [hq, List.length_set]
      refine RL_nil (X_then (C_seq (C_region (RL_q rfl (Yd_move rfl) (RL_l rfl (Ld_call Try.func16 rfl (by kernel_rfl) rfl (Sum_c (some ⟨gP, 0, none⟩) _ c8 q _ hQ hql (by omega) hyq) ?_))))))
      rintro e W5 ⟨rfl, he5⟩
      refine ⟨_, rfl, ?_⟩
      replace hE := Ext.trans hE he5
      replace hO := hO.ext he5
      have hs5 := he5.size
      refine RL_q rfl (Yd_move rfl) (RL_l rfl (Ld_call Try.func16 rfl (by kernel_rfl) rfl (Sum_c A7 _ c7 (few b 40) _ hO.rd rfl (by omega) hyf) ?_))
      rintro e W6 ⟨rfl, he6⟩
      refine ⟨_, rfl, ?_⟩
      replace hE := Ext.trans hE he6
      replace hO := hO.ext he6
      have hs6 := he6.size
      refine RL_q rfl (Yd_neq rfl rfl) (RL_q rfl (Yd_move rfl) (?_))
      refine RL_is (d := 38) (b' := true) rfl (by simp only [Bool.not_eq_true', decide_eq_false_iff_not]; omega) ?_
      refine RL_gl rfl rfl rfl (Ld_call Try.func19 rfl (by kernel_rfl) rfl (lives02_c _) ?_)
      rintro e W7 ⟨rfl, he7⟩
      refine ⟨_, rfl, ?_⟩
      replace hE := Ext.trans hE he7
      replace hO := hO.ext he7
      have hs7 := he7.size
      refine RL_q rfl (Yd_pickT rfl rfl) (RL_q rfl (Yd_assign rfl) (RL_nil (X_then (C_ret (X_ret1 rfl rfl ?_)))))
      exact ⟨rfl, hE⟩
    · skip
      try simp only [decide_eq_true_eq, decide_eq_false_iff_not, Bool.not_eq_true', Bool.not_eq_false', Decidable.not_not, Int.not_lt, Int.not_le, Bool.or_eq_true, Bool.and_eq_true, Bool.or_eq_false_iff, Bool.and_eq_false_iff] at hb17
      refine C_skip (X_then (C_seq (C_region (RL_q rfl (Yd_move rfl) (RL_l rfl (Ld_call Try.func15 rfl (by kernel_rfl) rfl ((few_few b 40 (by omega) ▸ Few_c A7 _ c7 (few b 40) 40 _ hO.rd rfl hO.cap (by omega) (by omega) hO.nil)) ?_))))))
      rintro e W2 ⟨A8, c8, rfl, hP, he2⟩
      refine ⟨_, rfl, ?_⟩
      replace hE := Ext.trans hE he2
      replace hO := hO.ext he2
      have hs2 := he2.size
      have hP1 := hP.lt'
      refine RL_q rfl (Yd_assign rfl) (RL_nil (X_then (C_seq (C_region (RL_q rfl (Yd_move rfl) (RL_q rfl (Yd_move rfl) (RL_q rfl (Yd_len Try.underlying22 rfl) (RL_l rfl (Ld_call Try.func20 rfl (by kernel_rfl) rfl (Around_c at_ _ _ h1 h2 (by omega) (by omega)) ?_)))))))))
      rintro e W3 ⟨rfl, rfl⟩
      refine ⟨_, rfl, ?_⟩
      have hk := around_range at_ (m := ((few b 40).length : Int)) (by omega)
      generalize around at_ ((few b 40).length : Int) = kk at hk ⊢
      obtain ⟨k, rfl⟩ := Int.eq_ofNat_of_zero_le hk.1
      have hk2 : k < (few b 40).length := by omega
      obtain ⟨gP, ys, rfl, hgP, hBP, hlP⟩ := hP.blk (by omega)
      have hgP2 : gP < _ := (hP1 _ rfl).2
      have hget := ints_get .u8 (few b 40) k hk2
      refine RL_q rfl (Yd_assign rfl) (RL_nil (X_then (C_seq (C_region (RL_q rfl (Yd_move rfl) (RL_q rfl (Yd_move rfl) (RL_q rfl (Yd_move rfl) (RL_q rfl (Yd_move rfl) (RL_q rfl (Yd_idxL Try.underlying22 (sz := 1) (by kernel_rfl) rfl rfl (by omega) (by omega)) (RL_q rfl (Yd_load Try.underlying5 rfl rfl (ldB hBP (cell_at (i := k) (o := 0 + ((k : Nat) : Int).toNat * 1) hk2 (by omega)))) (RL_q rfl (Yd_move rfl) (RL_q rfl (Yd_xor rfl rfl rfl) (RL_q rfl (Yd_idxL Try.underlying22 (sz := 1) (by kernel_rfl) rfl rfl (by omega) (by omega)) (RL_l0 (Ld_store (by kernel_rfl) rfl rfl hBP (by simp [cellsL, Value.cells, ints]; omega) (by simp [cellsL, Value.cells, Value.oneCell']) ?_)))))))))))))))
      intro W4 hu4 hz4 hN
      replace hE := ext_but hE hu4 (by omega)
      replace hO := hO.bt hu4 (by omega)
      rw [set_cells (i := k) hk2 (by omega)] at hN
      obtain ⟨hv, hvn⟩ := turn (y := by_) (hyf.get k hk2) (by omega) (by omega)
      have hQ : Rd W4 W4.heap.size 1 (some ⟨gP, 0, none⟩) (few b 40).length (ints .u8 ((few b 40).set k (bitsOp .xor .u8 ((few b 40)[k]'hk2) by_))) := (hN.rd (sz := 1) (n := (ints .u8 ((few b 40).set k (bitsOp .xor .u8 ((few b 40)[k]'hk2) by_)) ++ ys).length) (by simp)).rest (by simp [ints]) (fun h => by simp [ints]; omega)
      have hyq : Byt ((few b 40).set k (bitsOp .xor .u8 ((few b 40)[k]'hk2) by_)) := hyf.set k hv.1 hv.2
      have hdif : cmore 0 ((few b 40).set k (bitsOp .xor .u8 ((few b 40)[k]'hk2) by_)) ≠ cmore 0 (few b 40) := fun e => by
        have h1 := creg_lt (n := 4294967295) (by omega) hyq
        have h2 := creg_lt (n := 4294967295) (by omega) hyf
        have h3 := creg_set hyf 4294967295 (by omega) k hk2 hv hvn
        unfold cmore at e
        rw [Nat.sub_zero] at e
        omega
      obtain ⟨q, hq⟩ : ∃ q, q = (few b 40).set k (bitsOp .xor .u8 ((few b 40)[k]'hk2) by_) := ⟨_, rfl⟩
      rw [← hq] at hQ hyq hdif
      have hql : q.length = (few b 40).length := by rw [hq, List.length_set]
      refine RL_nil (X_then (C_seq (C_region (RL_q rfl (Yd_move rfl) (RL_l rfl (Ld_call Try.func16 rfl (by kernel_rfl) rfl (Sum_c (some ⟨gP, 0, none⟩) _ c8 q _ hQ hql (by omega) hyq) ?_))))))
      rintro e W5 ⟨rfl, he5⟩
      refine ⟨_, rfl, ?_⟩
      replace hE := Ext.trans hE he5
      replace hO := hO.ext he5
      have hs5 := he5.size
      refine RL_q rfl (Yd_move rfl) (RL_l rfl (Ld_call Try.func16 rfl (by kernel_rfl) rfl (Sum_c A7 _ c7 (few b 40) _ hO.rd rfl (by omega) hyf) ?_))
      rintro e W6 ⟨rfl, he6⟩
      refine ⟨_, rfl, ?_⟩
      replace hE := Ext.trans hE he6
      replace hO := hO.ext he6
      have hs6 := he6.size
      refine RL_q rfl (Yd_neq rfl rfl) (RL_q rfl (Yd_move rfl) (?_))
      refine RL_is (d := 38) (b' := true) rfl (by simp only [Bool.not_eq_true', decide_eq_false_iff_not]; omega) ?_
      refine RL_gl rfl rfl rfl (Ld_call Try.func19 rfl (by kernel_rfl) rfl (lives02_c _) ?_)
      rintro e W7 ⟨rfl, he7⟩
      refine ⟨_, rfl, ?_⟩
      replace hE := Ext.trans hE he7
      replace hO := hO.ext he7
      have hs7 := he7.size
      refine RL_q rfl (Yd_pickT rfl rfl) (RL_q rfl (Yd_assign rfl) (RL_nil (X_then (C_ret (X_ret1 rfl rfl ?_)))))
      exact ⟨rfl, hE⟩
end Go.Proofs.AL
