import Derived.Test.YtfckeecfppmepaaRqz
set_option linter.unusedVariables false
set_option linter.unusedSimpArgs false
namespace Go.Proofs.AL
open Go.RowKit

/-- the reader's state behind k numbers -/
def qS (b : List Int) : Nat → RS
  | 0 => some b
  | k + 1 => (rUint (qS b k)).2
def qU (b : List Int) (k : Nat) : Int := (rUint (qS b k)).1
def qI (b : List Int) (k : Nat) : Int := IntKind.i64.wrap (qU b k)
def qD (b : List Int) : List Int := (rBytes 32 (qS b 6)).1
def qT (b : List Int) : RS := (rBytes 32 (qS b 6)).2
def qE (b : List Int) : Int := rEnd (qT b)
def vI (b : List Int) (k : Nat) : Int := if qE b = 0 then qI b k else 0
def vD (b : List Int) : List Int := if qE b = 0 then qD b else []
theorem vI_rng (b : List Int) (k : Nat) : -9223372036854775808 ≤ vI b k ∧ vI b k ≤ 9223372036854775807 := by
  unfold vI; split
  · exact i64_range _
  · omega
theorem qI_rng (b : List Int) (k : Nat) : -9223372036854775808 ≤ qI b k ∧ qI b k ≤ 9223372036854775807 := i64_range _
theorem qE_two {b : List Int} (h : ¬ qE b = 0) : qE b = 2 := by
  unfold qE at h ⊢
  cases hq : qT b with
  | none => rfl
  | some l => rw [hq] at h; simp only [rEnd] at h ⊢; split at h <;> simp_all
theorem qE_two' {b : List Int} (h : ¬ qE b = 0) : 2 = qE b := (qE_two h).symm
def qL (b : List Int) (k : Nat) : List Int := (List.range k).map (qI b)
theorem qL_zero (b : List Int) : [] = qL b 0 := rfl
theorem qL_succ (b : List Int) (k : Nat) : qL b k ++ [qI b k] = qL b (k + 1) := by simp [qL, List.range_succ]
theorem qL_six (b : List Int) : qL b 6 = [qI b 0, qI b 1, qI b 2, qI b 3, qI b 4, qI b 5] := rfl
@[simp] theorem qL_len (b : List Int) (k : Nat) : (qL b k).length = k := by simp [qL]
theorem qU_rng {b : List Int} {k : Nat} (h : rGood (qS b k)) : 0 ≤ qU b k ∧ qU b k ≤ 18446744073709551615 := (rUint_good h).2
/-- the reference's reader at block g -/
def RQ (T : TypeId) (lo lim : Nat) (w : World) (g : Nat) : RS → Prop
  | none => (∃ A n c, ∃ I : Int, Blk w g T [.slice A n c, .int .i64 I, .bool true]) ∧ lim ≤ g
  | some bs => (∃ A c, ∃ all : List Int, ∃ I : Nat, Blk w g T [.slice A all.length c, .int .i64 I, .bool false] ∧ Rd w lim 1 A all.length (ints .u8 all) ∧ all.length ≤ c ∧ (A = none → c = 0) ∧ c ≤ maxLen ∧ bs = all.drop I ∧ I ≤ all.length ∧ all.length ≤ 60000 ∧ ∀ ad, A = some ad → lo ≤ ad.block) ∧ lim ≤ g
theorem RQ.lim {T : TypeId} {lo lim : Nat} {w : World} {g : Nat} {st : RS} (h : RQ T lo lim w g st) : lim ≤ g := by cases st <;> exact h.2
theorem RQ.lt {T : TypeId} {lo lim : Nat} {w : World} {g : Nat} {st : RS} (h : RQ T lo lim w g st) : g < w.heap.size := by
  cases st with
  | none => obtain ⟨⟨A, n, c, I, h1⟩, _⟩ := h; exact h1.lt
  | some bs => obtain ⟨⟨A, c, all, I, h1, _⟩, _⟩ := h; exact h1.lt
theorem RQ.kp {T : TypeId} {lo lim : Nat} {w w' : World} {g : Nat} {st : RS} (h : RQ T lo lim w g st) {G : Nat → Prop} (hb : Kp G w w') (hg : ¬ G g) (hG : ∀ k, G k → k < lo ∨ lim ≤ k) : RQ T lo lim w' g st := by
  cases st with
  | none => obtain ⟨⟨A, n, c, I, h1⟩, h2⟩ := h; exact ⟨⟨A, n, c, I, h1.kp hb hg⟩, h2⟩
  | some bs =>
    obtain ⟨⟨A, c, all, I, h1, h2, h3⟩, h5⟩ := h
    exact ⟨⟨A, c, all, I, h1.kp hb hg, h2.kp2 hb h3.2.2.2.2.2.2 hG, h3⟩, h5⟩
theorem RQ.ext {T : TypeId} {lo lim : Nat} {w w' : World} {g : Nat} {st : RS} (h : RQ T lo lim w g st) (hb : Ext w w') : RQ T lo lim w' g st := h.kp (G := NoB) (Kp.of_ext hb) (fun h => h) (fun _ h => h.elim)
theorem RQ.new {T : TypeId} {lo lim : Nat} {w : World} {g c : Nat} {bs : List Int} {A : Option Addr} (hB : Blk w g T [.slice A bs.length c, .int .i64 0, .bool false]) (hr : Rd w lim 1 A bs.length (ints .u8 bs)) (hc : bs.length ≤ c) (hz : A = none → c = 0) (hcm : c ≤ maxLen) (hl : bs.length ≤ 60000) (hlo : ∀ ad, A = some ad → lo ≤ ad.block) (h : lim ≤ g) : RQ T lo lim w g (some bs) :=
  ⟨⟨A, c, bs, 0, hB, hr, hc, hz, hcm, rfl, Nat.zero_le _, hl, hlo⟩, h⟩

theorem take8_drop {all : List Int} {I j : Nat} (h : I + 8 ≤ all.length) (hj : j < 8) : ((all.drop I).take 8)[j]? = some (all[I + j]'(by omega)) := by
  rw [List.getElem?_take, if_pos hj, List.getElem?_drop, List.getElem?_eq_getElem (by omega)]
theorem rqUint_0 (w : World) (g lo lim : Nat) (h : RQ 38 lo lim w g none) :
    Calls Try.prog 25 #[.pointer (some ⟨g, 0, none⟩)] w fun e w' => e = .returned (.int .u64 (rUint (none)).1) ∧ RQ 38 lo lim w' g (rUint (none)).2 ∧ But g w w' := by
  obtain ⟨⟨A, n, c, I, hB⟩, hl⟩ := h
  refine calls_of (l := [.pointer (some ⟨g, 0, none⟩)]) (N := 54) Try.func25 rfl rfl rfl ?_
  refine C_seq (C_region (RL_q rfl (Yd_assign rfl) (RL_nil (X_then (C_seq (C_seq (?_)))))))
  refine C_regionD (NoB) (l := [(0, true), (1, true), (2, true), (3, true), (4, true), (5, true), (6, true), (7, true), (8, true), (9, true), (10, true), (11, true), (12, true), (13, true), (14, true), (15, true), (16, true)]) (by kernel_rfl) (by kernel_rfl) rfl (by kernel_rfl) (fun _ _ d _ _ h => by cases d <;> exact h) ?_
  intro W1 he1 hh1
  replace hB := hB.ext he1
  refine RO_q rfl rfl (Yd_move rfl) (RO_q rfl rfl (Yd_nil rfl) (RO_q rfl rfl (Yd_fld (off := 2) Try.underlying38 (by kernel_rfl) rfl) (RO_q rfl rfl (Yd_load Try.underlying4 rfl rfl (fun W hW => (ldB hB rfl) W hW.ext)) (RO_q rfl rfl (Yd_move rfl) (RO_gn rfl rfl rfl rfl rfl (RO_gn rfl rfl rfl rfl rfl (RO_gn rfl rfl rfl rfl rfl (RO_gn rfl rfl rfl rfl rfl (RO_gn rfl rfl rfl rfl rfl (RO_gn rfl rfl rfl rfl rfl (RO_gn rfl rfl rfl rfl rfl (RO_gn rfl rfl rfl rfl rfl (RO_gn rfl rfl rfl rfl rfl (RO_gn rfl rfl rfl rfl rfl (RO_gn rfl rfl rfl rfl rfl (RO_q rfl rfl (Yd_pickT rfl rfl) (RO_nil (X_then (C_yes rfl rfl (C_seq (C_region (RL_q rfl (Yd_move rfl) (RL_q rfl (Yd_nil rfl) (RL_q rfl (Yd_fld (off := 2) Try.underlying38 (by kernel_rfl) rfl) (RL_l0 (Ld_store (by kernel_rfl) rfl rfl hB (Nat.le_of_ble_eq_true rfl) (by simp [cellsL, Value.cells, Value.oneCell']) ?_))))))))))))))))))))))))))
  intro W2 hu2 hz2 hB1
  refine RL_nil (X_then (C_seq (C_region (RL_q rfl (Yd_assign rfl) (RL_nil (X_then (C_ret (X_thenR (X_ret1 rfl rfl ?_)))))))))
  exact ⟨rfl, ⟨⟨A, n, c, I, hB1⟩, hl⟩, But.trans (But.of_ext he1) hu2⟩
theorem rqUint_1 (w : World) (g lo lim : Nat) (bs : List Int) (h : RQ 38 lo lim w g (some bs)) (hlen : bs.length < 8) :
    Calls Try.prog 25 #[.pointer (some ⟨g, 0, none⟩)] w fun e w' => e = .returned (.int .u64 (rUint (some bs)).1) ∧ RQ 38 lo lim w' g (rUint (some bs)).2 ∧ But g w w' := by
  obtain ⟨⟨A, c, all, I, hB, hr, hc, hz, hcm, rfl, hI, hle, hlo⟩, hl⟩ := h
  refine calls_of (l := [.pointer (some ⟨g, 0, none⟩)]) (N := 54) Try.func25 rfl rfl rfl ?_
  refine C_seq (C_region (RL_q rfl (Yd_assign rfl) (RL_nil (X_then (C_seq (C_seq (?_)))))))
  refine C_regionD (NoB) (l := [(0, true), (1, true), (2, true), (3, true), (4, true), (5, true), (6, true), (7, true), (8, true), (9, true), (10, true), (11, true), (12, true), (13, true), (14, true), (15, true), (16, true)]) (by kernel_rfl) (by kernel_rfl) rfl (by kernel_rfl) (fun _ _ d _ _ h => by cases d <;> exact h) ?_
  intro W1 he1 hh1
  replace hB := hB.ext he1
  refine RO_q rfl rfl (Yd_move rfl) (RO_q rfl rfl (Yd_nil rfl) (RO_q rfl rfl (Yd_fld (off := 2) Try.underlying38 (by kernel_rfl) rfl) (RO_q rfl rfl (Yd_load Try.underlying4 rfl rfl (fun W hW => (ldB hB rfl) W hW.ext)) (RO_q rfl rfl (Yd_move rfl) (RO_gq rfl rfl rfl rfl (Yd_move rfl) (RO_gq rfl rfl rfl rfl (Yd_nil rfl) (RO_gq rfl rfl rfl rfl (Yd_fld (off := 0) Try.underlying38 (by kernel_rfl) rfl) (RO_gq rfl rfl rfl rfl (Yd_load Try.underlying24 rfl rfl (fun W hW => (ldB hB rfl) W hW.ext)) (RO_gq rfl rfl rfl rfl (Yd_len Try.underlying24 rfl) (RO_gq rfl rfl rfl rfl (Yd_move rfl) (RO_gq rfl rfl rfl rfl (Yd_nil rfl) (RO_gq rfl rfl rfl rfl (Yd_fld (off := 1) Try.underlying38 (by kernel_rfl) rfl) (RO_gq rfl rfl rfl rfl (Yd_load Try.underlying3 rfl rfl (fun W hW => (ldB hB rfl) W hW.ext)) (RO_gq rfl rfl rfl rfl (Yd_sub rfl rfl (i64w (by omega) (by omega))) (RO_gq rfl rfl rfl rfl (Yd_lss rfl rfl) (RO_q rfl rfl (Yd_pickF rfl rfl) (RO_nil (X_then (?_)))))))))))))))))))
  refine C_yes rfl (decide_eq_true (by rw [List.length_drop] at hlen; omega)) (C_seq (C_region (RL_q rfl (Yd_move rfl) (RL_q rfl (Yd_nil rfl) (RL_q rfl (Yd_fld (off := 2) Try.underlying38 (by kernel_rfl) rfl) (RL_l0 (Ld_store (by kernel_rfl) rfl rfl hB (Nat.le_of_ble_eq_true rfl) (by simp [cellsL, Value.cells, Value.oneCell']) ?_)))))))
  intro W2 hu2 hz2 hB1
  refine RL_nil (X_then (C_seq (C_region (RL_q rfl (Yd_assign rfl) (RL_nil (X_then (C_ret (X_thenR (X_ret1 rfl rfl ?_)))))))))
  have e : rUint (some (all.drop I)) = (0, none) := by simp only [rUint]; rw [if_neg (by omega)]
  rw [e]
  exact ⟨rfl, ⟨⟨A, all.length, c, I, hB1⟩, hl⟩, But.trans (But.of_ext he1) hu2⟩
theorem rqUint_2 (w : World) (g lo lim : Nat) (bs : List Int) (h : RQ 38 lo lim w g (some bs)) (hlen : 8 ≤ bs.length) (hb : Byt bs) :
    Calls Try.prog 25 #[.pointer (some ⟨g, 0, none⟩)] w fun e w' => e = .returned (.int .u64 (rUint (some bs)).1) ∧ RQ 38 lo lim w' g (rUint (some bs)).2 ∧ But g w w' := by
  obtain ⟨⟨A, c, all, I, hB, hr, hc, hz, hcm, rfl, hI, hle, hlo⟩, hl⟩ := h
  have hE := Ext.refl w
  refine calls_of (l := [.pointer (some ⟨g, 0, none⟩)]) (N := 54) Try.func25 rfl rfl rfl ?_
  refine C_seq (C_region (RL_q rfl (Yd_assign rfl) (RL_nil (X_then (C_seq (C_seq (?_)))))))
  refine C_regionD (NoB) (l := [(0, true), (1, true), (2, true), (3, true), (4, true), (5, true), (6, true), (7, true), (8, true), (9, true), (10, true), (11, true), (12, true), (13, true), (14, true), (15, true), (16, true)]) (by kernel_rfl) (by kernel_rfl) rfl (by kernel_rfl) (fun _ _ d _ _ h => by cases d <;> exact h) ?_
  intro W1 he1 hh1
  replace hB := hB.ext he1
  replace hr := hr.ext he1
  replace hE := Ext.trans hE he1
  refine RO_q rfl rfl (Yd_move rfl) (RO_q rfl rfl (Yd_nil rfl) (RO_q rfl rfl (Yd_fld (off := 2) Try.underlying38 (by kernel_rfl) rfl) (RO_q rfl rfl (Yd_load Try.underlying4 rfl rfl (fun W hW => (ldB hB rfl) W hW.ext)) (RO_q rfl rfl (Yd_move rfl) (RO_gq rfl rfl rfl rfl (Yd_move rfl) (RO_gq rfl rfl rfl rfl (Yd_nil rfl) (RO_gq rfl rfl rfl rfl (Yd_fld (off := 0) Try.underlying38 (by kernel_rfl) rfl) (RO_gq rfl rfl rfl rfl (Yd_load Try.underlying24 rfl rfl (fun W hW => (ldB hB rfl) W hW.ext)) (RO_gq rfl rfl rfl rfl (Yd_len Try.underlying24 rfl) (RO_gq rfl rfl rfl rfl (Yd_move rfl) (RO_gq rfl rfl rfl rfl (Yd_nil rfl) (RO_gq rfl rfl rfl rfl (Yd_fld (off := 1) Try.underlying38 (by kernel_rfl) rfl) (RO_gq rfl rfl rfl rfl (Yd_load Try.underlying3 rfl rfl (fun W hW => (ldB hB rfl) W hW.ext)) (RO_gq rfl rfl rfl rfl (Yd_sub rfl rfl (i64w (by omega) (by omega))) (RO_gq rfl rfl rfl rfl (Yd_lss rfl rfl) (RO_q rfl rfl (Yd_pickF rfl rfl) (RO_nil (X_then (?_)))))))))))))))))))
  have hlen' : I + 8 ≤ all.length := by rw [List.length_drop] at hlen; omega
  refine C_no rfl (decide_eq_false (by omega)) (C_skip (X_then (C_seq (C_region (RL_q rfl (Yd_assign rfl) (RL_nil (X_then (C_seq (C_seq (C_region (RL_q rfl (Yd_assign rfl) (RL_nil (X_then (C_block (?_)))))))))))))))
  have hb8 : Byt ((all.drop I).take 8) := hb.take 8
  have hl8 : ((all.drop I).take 8).length = 8 := by rw [List.length_take]; omega
  refine C_loop (T := Nat) (fun j => [(0, .pointer (some ⟨g, 0, none⟩)), (3, .int .u64 (leval (((all.drop I).take 8).drop j))), (4, .int .i64 ((j : Int) - 1))]) (fun j w1 => j ≤ 8 ∧ Ext W1 w1) (fun j => j) (8) ⟨rfl, (lk_of rfl (by rw [List.drop_eq_nil_of_le (by omega)]; rfl)), rfl, trivial⟩ ?_ ?_
  · exact ⟨by omega, Ext.refl _⟩
  · rintro j w1 ⟨hj, hL⟩
    refine C_seq (C_seq (C_region (RL_q rfl (Yd_move rfl) (RL_q rfl (Yd_geq rfl rfl) (RL_nil (X_then (?_)))))))
    refine C_cond rfl (fun hb => ?_) (fun hb => ?_)
    · skip
      have hb1 : (0 : Int) ≤ (j : Int) - 1 := of_decide_eq_true hb
      obtain ⟨j, rfl⟩ : ∃ i, j = i + 1 := ⟨j - 1, by omega⟩
      obtain ⟨ad, rfl, _, _⟩ := hr.cells (by omega)
      have hget := ints_get .u8 all (I + j) (by omega)
      have hbd := down_bd _ (j + 1) hb8 hl8 (by omega)
      have hx := take8_drop (all := all) (I := I) (j := j) (by omega) (by omega)
      have hx2 : ((all.drop I).take 8)[j]'(by omega) = all[I + j]'(by omega) := by rw [List.getElem?_eq_getElem (by omega)] at hx; exact Option.some.inj hx
      have hbx := hb8.get j (by omega)
      rw [hx2] at hbx
      have hdn := down_next _ j (show j < ((all.drop I).take 8).length by omega)
      rw [hx2] at hdn
      refine C_skip (X_then (C_seq (C_block (?_))))
      refine C_regionD (NoB) (l := [(0, true), (1, true), (2, true), (3, true), (4, true), (5, true), (6, true), (7, true), (8, true), (9, true), (10, true), (11, true), (12, true), (13, true), (14, true), (15, true), (16, true)]) (by kernel_rfl) (by kernel_rfl) rfl (by kernel_rfl) (fun _ _ d _ _ h => by cases d <;> exact h) ?_
      intro W2 he2 hh2
      replace hL := Ext.trans hL he2
      refine RO_q rfl rfl (Yd_move rfl) (RO_q rfl rfl (Yd_mul rfl rfl (u64w (by omega) (by omega))) (RO_q rfl rfl (Yd_move rfl) (RO_q rfl rfl (Yd_nil rfl) (RO_q rfl rfl (Yd_fld (off := 0) Try.underlying38 (by kernel_rfl) rfl) (RO_q rfl rfl (Yd_load Try.underlying24 rfl rfl (fun W hW => (ldB (hB.ext hL) rfl) W hW.ext)) (RO_q rfl rfl (Yd_move rfl) (RO_q rfl rfl (Yd_nil rfl) (RO_q rfl rfl (Yd_fld (off := 1) Try.underlying38 (by kernel_rfl) rfl) (RO_q rfl rfl (Yd_load Try.underlying3 rfl rfl (fun W hW => (ldB (hB.ext hL) rfl) W hW.ext)) (RO_q rfl rfl (Yd_move rfl) (RO_q rfl rfl (Yd_add rfl rfl (i64w (by omega) (by omega))) (RO_q rfl rfl (Yd_idx Try.underlying24 (sz := 1) (by kernel_rfl) rfl rfl (by omega) (by omega)) (RO_q rfl rfl (Yd_load Try.underlying5 rfl rfl (fun W hW => (ldK (hr.ext hL) (by omega) hget (by omega)) W hW.ext)) (RO_q rfl rfl (Yd_conv ⟨_, Try.underlying5⟩ Try.underlying28 rfl (u64w (by omega) (by omega))) (RO_q rfl rfl (Yd_add rfl rfl (u64w (by omega) (by omega))) (RO_q rfl rfl (Yd_assign rfl) (RO_nil (X_block (X_then (C_region (RL_q rfl (Yd_move rfl) (RL_q rfl (Yd_sub rfl rfl (i64w (by omega) (by omega))) (RL_q rfl (Yd_assign rfl) (RL_nil (?_)))))))))))))))))))))))))
      refine X_again (j) ⟨rfl, (lk_int rfl hdn.symm), (lk_int rfl (by omega)), trivial⟩ ?_ (by first | omega | (dsimp only; omega))
      exact ⟨by omega, hL⟩
    · skip
      have hb1 : ¬ (0 : Int) ≤ (j : Int) - 1 := of_decide_eq_false hb
      obtain rfl : j = 0 := by omega
      replace hB := hB.ext hL
      replace hr := hr.ext hL
      replace hE := Ext.trans hE hL
      refine C_exit (X_thenE (X_thenE (X_blockE (X_then (C_seq (C_region (RL_q rfl (Yd_move rfl) (RL_q rfl (Yd_move rfl) (RL_q rfl (Yd_nil rfl) (RL_q rfl (Yd_fld (off := 1) Try.underlying38 (by kernel_rfl) rfl) (RL_q rfl (Yd_load Try.underlying3 rfl rfl (ldB hB rfl)) (RL_q rfl (Yd_add rfl rfl (i64w (by omega) (by omega))) (RL_q rfl (Yd_nil rfl) (RL_q rfl (Yd_fld (off := 1) Try.underlying38 (by kernel_rfl) rfl) (RL_l0 (Ld_store (by kernel_rfl) rfl rfl hB (Nat.le_of_ble_eq_true rfl) (by simp [cellsL, Value.cells, Value.oneCell']) ?_))))))))))))))))
      intro W2 hu2 hz2 hB1
      refine RL_nil (X_then (C_seq (C_region (RL_q rfl (Yd_move rfl) (RL_q rfl (Yd_assign rfl) (RL_nil (X_then (C_ret (X_ret1 rfl rfl ?_)))))))))
      have e : rUint (some (all.drop I)) = (leval ((all.drop I).take 8), some (all.drop (I + 8))) := by simp only [rUint]; rw [if_pos hlen, List.drop_drop]
      rw [e]
      exact ⟨rfl, ⟨⟨A, c, all, I + 8, hB1, hr.kpl (Kp.of_but1 hu2) (fun k hk => by omega), hc, hz, hcm, rfl, by omega, hle, hlo⟩, hl⟩, But.trans (But.of_ext hE) hu2⟩
theorem rqUint_c (w : World) (g lo lim : Nat) (st : RS) (h : RQ 38 lo lim w g st) (hg : rGood st) : Calls Try.prog 25 #[.pointer (some ⟨g, 0, none⟩)] w fun e w' => e = .returned (.int .u64 (rUint (st)).1) ∧ RQ 38 lo lim w' g (rUint (st)).2 ∧ But g w w' := by
  cases st with
  | none => exact rqUint_0 w g lo lim h
  | some bs =>
    by_cases hn : bs.length < 8
    · exact rqUint_1 w g lo lim bs h hn
    · exact rqUint_2 w g lo lim bs h (by omega) hg.1
theorem rqLeft_0 (w : World) (g lo lim : Nat) (h : RQ 38 lo lim w g none) :
    Calls Try.prog 27 #[.pointer (some ⟨g, 0, none⟩)] w fun e w' => e = .returned (.int .i64 (rLeft (none))) ∧ Ext w w' := by
  obtain ⟨⟨A, n, c, I, hB⟩, hl⟩ := h
  refine calls_of (l := [.pointer (some ⟨g, 0, none⟩)]) (N := 17) Try.func27 rfl rfl rfl ?_
  refine C_seq (C_region (RL_q rfl (Yd_assign rfl) (RL_nil (X_then (C_seq (C_seq (C_region (RL_q rfl (Yd_move rfl) (RL_q rfl (Yd_nil rfl) (RL_q rfl (Yd_fld (off := 2) Try.underlying38 (by kernel_rfl) rfl) (RL_q rfl (Yd_load Try.underlying4 rfl rfl (ldB hB rfl)) (RL_nil (X_then (C_yes rfl rfl (C_seq (C_region (RL_q rfl (Yd_assign rfl) (RL_nil (X_then (C_ret (X_thenR (X_ret1 rfl rfl ?_))))))))))))))))))))))
  exact ⟨rfl, Ext.refl _⟩
theorem rqLeft_1 (w : World) (g lo lim : Nat) (bs : List Int) (h : RQ 38 lo lim w g (some bs)) :
    Calls Try.prog 27 #[.pointer (some ⟨g, 0, none⟩)] w fun e w' => e = .returned (.int .i64 (rLeft (some bs))) ∧ Ext w w' := by
  obtain ⟨⟨A, c, all, I, hB, hr, hc, hz, hcm, rfl, hI, hle, hlo⟩, hl⟩ := h
  refine calls_of (l := [.pointer (some ⟨g, 0, none⟩)]) (N := 17) Try.func27 rfl rfl rfl ?_
  refine C_seq (C_region (RL_q rfl (Yd_assign rfl) (RL_nil (X_then (C_seq (C_seq (C_region (RL_q rfl (Yd_move rfl) (RL_q rfl (Yd_nil rfl) (RL_q rfl (Yd_fld (off := 2) Try.underlying38 (by kernel_rfl) rfl) (RL_q rfl (Yd_load Try.underlying4 rfl rfl (ldB hB rfl)) (RL_nil (X_then (C_no rfl rfl (C_skip (X_then (C_seq (?_))))))))))))))))))
  refine C_regionD (NoB) (l := [(0, true), (1, true), (2, true), (3, true), (4, true), (5, true), (6, true), (7, true), (8, true), (9, true), (10, true)]) (by kernel_rfl) (by kernel_rfl) rfl (by kernel_rfl) (fun _ _ d _ _ h => by cases d <;> exact h) ?_
  intro W1 he1 hh1
  replace hB := hB.ext he1
  refine RO_q rfl rfl (Yd_move rfl) (RO_q rfl rfl (Yd_nil rfl) (RO_q rfl rfl (Yd_fld (off := 0) Try.underlying38 (by kernel_rfl) rfl) (RO_q rfl rfl (Yd_load Try.underlying24 rfl rfl (fun W hW => (ldB hB rfl) W hW.ext)) (RO_q rfl rfl (Yd_len Try.underlying24 rfl) (RO_q rfl rfl (Yd_move rfl) (RO_q rfl rfl (Yd_nil rfl) (RO_q rfl rfl (Yd_fld (off := 1) Try.underlying38 (by kernel_rfl) rfl) (RO_q rfl rfl (Yd_load Try.underlying3 rfl rfl (fun W hW => (ldB hB rfl) W hW.ext)) (RO_q rfl rfl (Yd_sub rfl rfl (i64w (by omega) (by omega))) (RO_q rfl rfl (Yd_assign rfl) (RO_nil (X_then (C_ret (X_ret1 rfl rfl ?_))))))))))))))
  refine ⟨?_, he1⟩
  simp only [rLeft, List.length_drop]
  rw [show ((all.length - I : Nat) : Int) = (all.length : Int) - I from by omega]
theorem rqLeft_c (w : World) (g lo lim : Nat) (st : RS) (h : RQ 38 lo lim w g st) : Calls Try.prog 27 #[.pointer (some ⟨g, 0, none⟩)] w fun e w' => e = .returned (.int .i64 (rLeft (st))) ∧ Ext w w' := by
  cases st with
  | none => exact rqLeft_0 w g lo lim h
  | some bs => exact rqLeft_1 w g lo lim bs h
theorem rqErrno_0 (w : World) (g lo lim : Nat) (h : RQ 38 lo lim w g none) :
    Calls Try.prog 29 #[.pointer (some ⟨g, 0, none⟩)] w fun e w' => e = .returned (.int .i64 (rErr (none))) ∧ Ext w w' := by
  obtain ⟨⟨A, n, c, I, hB⟩, hl⟩ := h
  refine calls_of (l := [.pointer (some ⟨g, 0, none⟩)]) (N := 7) Try.func29 rfl rfl rfl ?_
  refine C_seq (C_region (RL_q rfl (Yd_assign rfl) (RL_nil (X_then (C_seq (C_seq (C_region (RL_q rfl (Yd_move rfl) (RL_q rfl (Yd_nil rfl) (RL_q rfl (Yd_fld (off := 2) Try.underlying38 (by kernel_rfl) rfl) (RL_q rfl (Yd_load Try.underlying4 rfl rfl (ldB hB rfl)) (RL_nil (X_then (C_yes rfl rfl (C_seq (C_region (RL_q rfl (Yd_assign rfl) (RL_nil (X_then (C_ret (X_thenR (X_ret1 rfl rfl ?_))))))))))))))))))))))
  exact ⟨rfl, Ext.refl _⟩
theorem rqErrno_1 (w : World) (g lo lim : Nat) (bs : List Int) (h : RQ 38 lo lim w g (some bs)) :
    Calls Try.prog 29 #[.pointer (some ⟨g, 0, none⟩)] w fun e w' => e = .returned (.int .i64 (rErr (some bs))) ∧ Ext w w' := by
  obtain ⟨⟨A, c, all, I, hB, hr, hc, hz, hcm, rfl, hI, hle, hlo⟩, hl⟩ := h
  refine calls_of (l := [.pointer (some ⟨g, 0, none⟩)]) (N := 7) Try.func29 rfl rfl rfl ?_
  refine C_seq (C_region (RL_q rfl (Yd_assign rfl) (RL_nil (X_then (C_seq (C_seq (C_region (RL_q rfl (Yd_move rfl) (RL_q rfl (Yd_nil rfl) (RL_q rfl (Yd_fld (off := 2) Try.underlying38 (by kernel_rfl) rfl) (RL_q rfl (Yd_load Try.underlying4 rfl rfl (ldB hB rfl)) (RL_nil (X_then (C_no rfl rfl (C_skip (X_then (C_seq (C_region (RL_q rfl (Yd_assign rfl) (RL_nil (X_then (C_ret (X_ret1 rfl rfl ?_)))))))))))))))))))))))
  exact ⟨rfl, Ext.refl _⟩
theorem rqErrno_c (w : World) (g lo lim : Nat) (st : RS) (h : RQ 38 lo lim w g st) : Calls Try.prog 29 #[.pointer (some ⟨g, 0, none⟩)] w fun e w' => e = .returned (.int .i64 (rErr (st))) ∧ Ext w w' := by
  cases st with
  | none => exact rqErrno_0 w g lo lim h
  | some bs => exact rqErrno_1 w g lo lim bs h
theorem rqEnd_0 (w : World) (g lo lim : Nat) (h : RQ 38 lo lim w g none) :
    Calls Try.prog 34 #[.pointer (some ⟨g, 0, none⟩)] w fun e w' => e = .returned (.int .i64 (rEnd (none))) ∧ Ext w w' := by
  obtain ⟨⟨A, n, c, I, hB⟩, hl⟩ := h
  refine calls_of (l := [.pointer (some ⟨g, 0, none⟩)]) (N := 19) Try.func34 rfl rfl rfl ?_
  refine C_seq (C_region (RL_q rfl (Yd_assign rfl) (RL_nil (X_then (C_seq (C_seq (?_)))))))
  refine C_regionD (NoB) (l := [(0, true), (1, true), (2, true), (3, true), (4, true), (5, true), (6, true), (7, true), (8, true), (9, true), (10, true), (11, true), (12, true), (13, true), (14, true), (15, true)]) (by kernel_rfl) (by kernel_rfl) rfl (by kernel_rfl) (fun _ _ d _ _ h => by cases d <;> exact h) ?_
  intro W1 he1 hh1
  replace hB := hB.ext he1
  refine RO_q rfl rfl (Yd_move rfl) (RO_q rfl rfl (Yd_nil rfl) (RO_q rfl rfl (Yd_fld (off := 2) Try.underlying38 (by kernel_rfl) rfl) (RO_q rfl rfl (Yd_load Try.underlying4 rfl rfl (fun W hW => (ldB hB rfl) W hW.ext)) (RO_q rfl rfl (Yd_move rfl) (RO_gn rfl rfl rfl rfl rfl (RO_gn rfl rfl rfl rfl rfl (RO_gn rfl rfl rfl rfl rfl (RO_gn rfl rfl rfl rfl rfl (RO_gn rfl rfl rfl rfl rfl (RO_gn rfl rfl rfl rfl rfl (RO_gn rfl rfl rfl rfl rfl (RO_gn rfl rfl rfl rfl rfl (RO_gn rfl rfl rfl rfl rfl (RO_gn rfl rfl rfl rfl rfl (RO_q rfl rfl (Yd_pickT rfl rfl) (RO_nil (X_then (C_yes rfl rfl (C_seq (C_region (RL_q rfl (Yd_assign rfl) (RL_nil (X_then (C_ret (X_thenR (X_ret1 rfl rfl ?_))))))))))))))))))))))))))
  exact ⟨rfl, he1⟩
theorem rqEnd_1 (w : World) (g lo lim : Nat) (bs : List Int) (h : RQ 38 lo lim w g (some bs)) :
    Calls Try.prog 34 #[.pointer (some ⟨g, 0, none⟩)] w fun e w' => e = .returned (.int .i64 (rEnd (some bs))) ∧ Ext w w' := by
  obtain ⟨⟨A, c, all, I, hB, hr, hc, hz, hcm, rfl, hI, hle, hlo⟩, hl⟩ := h
  refine calls_of (l := [.pointer (some ⟨g, 0, none⟩)]) (N := 19) Try.func34 rfl rfl rfl ?_
  refine C_seq (C_region (RL_q rfl (Yd_assign rfl) (RL_nil (X_then (C_seq (C_seq (?_)))))))
  refine C_regionD (NoB) (l := [(0, true), (1, true), (2, true), (3, true), (4, true), (5, true), (6, true), (7, true), (8, true), (9, true), (10, true), (11, true), (12, true), (13, true), (14, true), (15, true)]) (by kernel_rfl) (by kernel_rfl) rfl (by kernel_rfl) (fun _ _ d _ _ h => by cases d <;> exact h) ?_
  intro W1 he1 hh1
  replace hB := hB.ext he1
  refine RO_q rfl rfl (Yd_move rfl) (RO_q rfl rfl (Yd_nil rfl) (RO_q rfl rfl (Yd_fld (off := 2) Try.underlying38 (by kernel_rfl) rfl) (RO_q rfl rfl (Yd_load Try.underlying4 rfl rfl (fun W hW => (ldB hB rfl) W hW.ext)) (RO_q rfl rfl (Yd_move rfl) (RO_gq rfl rfl rfl rfl (Yd_move rfl) (RO_gq rfl rfl rfl rfl (Yd_nil rfl) (RO_gq rfl rfl rfl rfl (Yd_fld (off := 1) Try.underlying38 (by kernel_rfl) rfl) (RO_gq rfl rfl rfl rfl (Yd_load Try.underlying3 rfl rfl (fun W hW => (ldB hB rfl) W hW.ext)) (RO_gq rfl rfl rfl rfl (Yd_move rfl) (RO_gq rfl rfl rfl rfl (Yd_nil rfl) (RO_gq rfl rfl rfl rfl (Yd_fld (off := 0) Try.underlying38 (by kernel_rfl) rfl) (RO_gq rfl rfl rfl rfl (Yd_load Try.underlying24 rfl rfl (fun W hW => (ldB hB rfl) W hW.ext)) (RO_gq rfl rfl rfl rfl (Yd_len Try.underlying24 rfl) (RO_gq rfl rfl rfl rfl (Yd_lss rfl rfl) (RO_q rfl rfl (Yd_pickF rfl rfl) (RO_nil (X_then (?_))))))))))))))))))
  refine C_cond rfl (fun hb => ?_) (fun hb => ?_)
  · skip
    have hb1 : (I : Int) < all.length := of_decide_eq_true hb
    refine C_seq (C_region (RL_q rfl (Yd_assign rfl) (RL_nil (X_then (C_ret (X_thenR (X_ret1 rfl rfl ?_)))))))
    refine ⟨?_, he1⟩
    simp only [rEnd, List.length_drop]
    rw [if_neg (by omega)]
  · skip
    have hb1 : ¬ (I : Int) < all.length := of_decide_eq_false hb
    refine C_skip (X_then (C_seq (C_region (RL_q rfl (Yd_assign rfl) (RL_nil (X_then (C_ret (X_ret1 rfl rfl ?_))))))))
    refine ⟨?_, he1⟩
    simp only [rEnd, List.length_drop]
    rw [if_pos (by omega)]
theorem rqEnd_c (w : World) (g lo lim : Nat) (st : RS) (h : RQ 38 lo lim w g st) : Calls Try.prog 34 #[.pointer (some ⟨g, 0, none⟩)] w fun e w' => e = .returned (.int .i64 (rEnd (st))) ∧ Ext w w' := by
  cases st with
  | none => exact rqEnd_0 w g lo lim h
  | some bs => exact rqEnd_1 w g lo lim bs h
theorem rqBytes_0 (w : World) (g lo lim : Nat) (st : RS) (m : Int) (h : RQ 38 lo lim w g st) (hg : rGood st) (hst : (rUint st).2 = none) :
    Calls Try.prog 32 #[.pointer (some ⟨g, 0, none⟩), .int .i64 m] w fun e w' => ∃ A c, e = .returned (.slice A (rBytes m st).1.length c) ∧ Rd w' lim 1 A (rBytes m st).1.length (ints .u8 (rBytes m st).1) ∧ (rBytes m st).1.length ≤ c ∧ (A = none → c = 0) ∧ c ≤ maxLen ∧ RQ 38 lo lim w' g (rBytes m st).2 ∧ But g w w' := by
  refine calls_of (l := [.pointer (some ⟨g, 0, none⟩), .int .i64 m]) (N := 69) Try.func32 rfl rfl rfl ?_
  refine C_seq (C_region (RL_q rfl (Yd_assign rfl) (RL_nil (X_then (C_seq (C_region (RL_q rfl (Yd_move rfl) (RL_l rfl (Ld_call Try.func25 rfl (by kernel_rfl) rfl (rqUint_c _ g lo lim st h hg) ?_)))))))))
  rintro e W1 ⟨rfl, hL, hu1⟩
  refine ⟨_, rfl, ?_⟩
  have hgood := rUint_good hg
  refine RL_q rfl (Yd_assign rfl) (RL_nil (X_then (C_seq (C_seq (?_)))))
  have hr : rBytes m st = ([], none) := by simp only [rBytes, hst]; split <;> rfl
  rw [hst] at hL
  obtain ⟨⟨A, n, c, I, hB⟩, hl⟩ := hL
  refine C_regionD (NoB) (l := [(0, true), (1, true), (2, true), (3, true), (4, true), (5, true), (6, true), (7, true), (8, true), (9, true), (10, true), (11, true), (12, true), (13, true), (14, true), (15, true), (16, true), (17, true), (18, true), (19, true), (20, true), (21, true), (22, true), (23, true), (24, true), (25, true), (26, true), (27, true), (28, true)]) (by kernel_rfl) (by kernel_rfl) rfl (by kernel_rfl) (fun _ _ d _ _ h => by cases d <;> exact h) ?_
  intro W2 he2 hh2
  replace hB := hB.ext he2
  refine RO_q rfl rfl (Yd_move rfl) (RO_q rfl rfl (Yd_nil rfl) (RO_q rfl rfl (Yd_fld (off := 2) Try.underlying38 (by kernel_rfl) rfl) (RO_q rfl rfl (Yd_load Try.underlying4 rfl rfl (fun W hW => (ldB hB rfl) W hW.ext)) (RO_q rfl rfl (Yd_move rfl) (RO_gn rfl rfl rfl rfl rfl (RO_gn rfl rfl rfl rfl rfl (RO_q rfl rfl (Yd_pickT rfl rfl) (RO_q rfl rfl (Yd_move rfl) (RO_gn rfl rfl rfl rfl rfl (RO_gn rfl rfl rfl rfl rfl (RO_gn rfl rfl rfl rfl rfl (RO_gn rfl rfl rfl rfl rfl (RO_q rfl rfl (Yd_pickT rfl rfl) (RO_q rfl rfl (Yd_move rfl) (RO_gn rfl rfl rfl rfl rfl (RO_gn rfl rfl rfl rfl rfl (RO_gn rfl rfl rfl rfl rfl (RO_gn rfl rfl rfl rfl rfl (RO_gn rfl rfl rfl rfl rfl (RO_gn rfl rfl rfl rfl rfl (RO_gn rfl rfl rfl rfl rfl (RO_gn rfl rfl rfl rfl rfl (RO_gn rfl rfl rfl rfl rfl (RO_gn rfl rfl rfl rfl rfl (RO_gn rfl rfl rfl rfl rfl (RO_gn rfl rfl rfl rfl rfl (RO_gn rfl rfl rfl rfl rfl (RO_q rfl rfl (Yd_pickT rfl rfl) (RO_nil (X_then (C_yes rfl rfl (C_seq (C_region (RL_q rfl (Yd_move rfl) (RL_q rfl (Yd_nil rfl) (RL_q rfl (Yd_fld (off := 2) Try.underlying38 (by kernel_rfl) rfl) (RL_l0 (Ld_store (by kernel_rfl) rfl rfl hB (Nat.le_of_ble_eq_true rfl) (by simp [cellsL, Value.cells, Value.oneCell']) ?_))))))))))))))))))))))))))))))))))))))
  intro W3 hu3 hz3 hB1
  refine RL_nil (X_then (C_seq (C_region (RL_q rfl (Yd_assign rfl) (RL_nil (X_then (C_ret (X_thenR (X_ret1 rfl rfl ?_)))))))))
  rw [hr]
  exact ⟨none, 0, rfl, Rd.none _ _ _, Nat.le_refl _, fun _ => rfl, Nat.zero_le _, ⟨⟨_, _, _, _, hB1⟩, hl⟩, But.trans hu1 (But.trans (But.of_ext he2) hu3)⟩
theorem rqBytes_neg (w : World) (g lo lim : Nat) (st : RS) (bs : List Int) (m : Int) (h : RQ 38 lo lim w g st) (hg : rGood st) (hst : (rUint st).2 = some bs) (hm : m < 0) :
    Calls Try.prog 32 #[.pointer (some ⟨g, 0, none⟩), .int .i64 m] w fun e w' => ∃ A c, e = .returned (.slice A (rBytes m st).1.length c) ∧ Rd w' lim 1 A (rBytes m st).1.length (ints .u8 (rBytes m st).1) ∧ (rBytes m st).1.length ≤ c ∧ (A = none → c = 0) ∧ c ≤ maxLen ∧ RQ 38 lo lim w' g (rBytes m st).2 ∧ But g w w' := by
  refine calls_of (l := [.pointer (some ⟨g, 0, none⟩), .int .i64 m]) (N := 69) Try.func32 rfl rfl rfl ?_
  refine C_seq (C_region (RL_q rfl (Yd_assign rfl) (RL_nil (X_then (C_seq (C_region (RL_q rfl (Yd_move rfl) (RL_l rfl (Ld_call Try.func25 rfl (by kernel_rfl) rfl (rqUint_c _ g lo lim st h hg) ?_)))))))))
  rintro e W1 ⟨rfl, hL, hu1⟩
  refine ⟨_, rfl, ?_⟩
  have hgood := rUint_good hg
  refine RL_q rfl (Yd_assign rfl) (RL_nil (X_then (C_seq (C_seq (?_)))))
  have hr : rBytes m st = ([], none) := by simp only [rBytes]; rw [if_pos (.inl hm)]
  rw [hst] at hL
  have hg2 := hgood.1
  rw [hst] at hg2
  obtain ⟨⟨A, c, all, I, hB, hrd, hc, hz, hcm, rfl, hI, hle, hlo⟩, hl⟩ := hL
  refine C_regionD (NoB) (l := [(0, true), (1, true), (2, true), (3, true), (4, true), (5, true), (6, true), (7, true), (8, true), (9, true), (10, true), (11, true), (12, true), (13, true), (14, true), (15, true), (16, true), (17, true), (18, true), (19, true), (20, true), (21, true), (22, true), (23, true), (24, true), (25, true), (26, true), (27, true), (28, true)]) (by kernel_rfl) (by kernel_rfl) rfl (by kernel_rfl) (fun _ _ d _ _ h => by cases d <;> exact h) ?_
  intro W2 he2 hh2
  replace hB := hB.ext he2
  replace hrd := hrd.ext he2
  refine RO_q rfl rfl (Yd_move rfl) (RO_q rfl rfl (Yd_nil rfl) (RO_q rfl rfl (Yd_fld (off := 2) Try.underlying38 (by kernel_rfl) rfl) (RO_q rfl rfl (Yd_load Try.underlying4 rfl rfl (fun W hW => (ldB hB rfl) W hW.ext)) (RO_q rfl rfl (Yd_move rfl) (RO_gq rfl rfl rfl rfl (Yd_move rfl) (RO_gq rfl rfl rfl rfl (Yd_lss rfl rfl) (RO_q rfl rfl (Yd_pickF rfl rfl) (RO_q rfl rfl (Yd_move rfl) (?_)))))))))
  refine RO_is (d := 18) (b' := true) rfl (decide_eq_true hm) ?_
  refine RO_gn rfl rfl rfl rfl rfl (RO_gn rfl rfl rfl rfl rfl (RO_gn rfl rfl rfl rfl rfl (RO_gn rfl rfl rfl rfl rfl (RO_q rfl rfl (Yd_pickT rfl rfl) (RO_q rfl rfl (Yd_move rfl) (RO_gn rfl rfl rfl rfl rfl (RO_gn rfl rfl rfl rfl rfl (RO_gn rfl rfl rfl rfl rfl (RO_gn rfl rfl rfl rfl rfl (RO_gn rfl rfl rfl rfl rfl (RO_gn rfl rfl rfl rfl rfl (RO_gn rfl rfl rfl rfl rfl (RO_gn rfl rfl rfl rfl rfl (RO_gn rfl rfl rfl rfl rfl (RO_gn rfl rfl rfl rfl rfl (RO_gn rfl rfl rfl rfl rfl (RO_gn rfl rfl rfl rfl rfl (RO_gn rfl rfl rfl rfl rfl (RO_q rfl rfl (Yd_pickT rfl rfl) (RO_nil (X_then (C_yes rfl rfl (C_seq (C_region (RL_q rfl (Yd_move rfl) (RL_q rfl (Yd_nil rfl) (RL_q rfl (Yd_fld (off := 2) Try.underlying38 (by kernel_rfl) rfl) (RL_l0 (Ld_store (by kernel_rfl) rfl rfl hB (Nat.le_of_ble_eq_true rfl) (by simp [cellsL, Value.cells, Value.oneCell']) ?_)))))))))))))))))))))))))))))
  intro W3 hu3 hz3 hB1
  refine RL_nil (X_then (C_seq (C_region (RL_q rfl (Yd_assign rfl) (RL_nil (X_then (C_ret (X_thenR (X_ret1 rfl rfl ?_)))))))))
  rw [hr]
  exact ⟨none, 0, rfl, Rd.none _ _ _, Nat.le_refl _, fun _ => rfl, Nat.zero_le _, ⟨⟨_, _, _, _, hB1⟩, hl⟩, But.trans hu1 (But.trans (But.of_ext he2) hu3)⟩
theorem rqBytes_big (w : World) (g lo lim : Nat) (st : RS) (bs : List Int) (m : Int) (h : RQ 38 lo lim w g st) (hg : rGood st) (hst : (rUint st).2 = some bs) (hm : 0 ≤ m) (hm1 : m ≤ 9223372036854775807) (hm2 : m < (rUint st).1) :
    Calls Try.prog 32 #[.pointer (some ⟨g, 0, none⟩), .int .i64 m] w fun e w' => ∃ A c, e = .returned (.slice A (rBytes m st).1.length c) ∧ Rd w' lim 1 A (rBytes m st).1.length (ints .u8 (rBytes m st).1) ∧ (rBytes m st).1.length ≤ c ∧ (A = none → c = 0) ∧ c ≤ maxLen ∧ RQ 38 lo lim w' g (rBytes m st).2 ∧ But g w w' := by
  refine calls_of (l := [.pointer (some ⟨g, 0, none⟩), .int .i64 m]) (N := 69) Try.func32 rfl rfl rfl ?_
  refine C_seq (C_region (RL_q rfl (Yd_assign rfl) (RL_nil (X_then (C_seq (C_region (RL_q rfl (Yd_move rfl) (RL_l rfl (Ld_call Try.func25 rfl (by kernel_rfl) rfl (rqUint_c _ g lo lim st h hg) ?_)))))))))
  rintro e W1 ⟨rfl, hL, hu1⟩
  refine ⟨_, rfl, ?_⟩
  have hgood := rUint_good hg
  refine RL_q rfl (Yd_assign rfl) (RL_nil (X_then (C_seq (C_seq (?_)))))
  have hr : rBytes m st = ([], none) := by simp only [rBytes]; rw [if_pos (.inr hm2)]
  rw [hst] at hL
  have hg2 := hgood.1
  rw [hst] at hg2
  obtain ⟨⟨A, c, all, I, hB, hrd, hc, hz, hcm, rfl, hI, hle, hlo⟩, hl⟩ := hL
  refine C_regionD (NoB) (l := [(0, true), (1, true), (2, true), (3, true), (4, true), (5, true), (6, true), (7, true), (8, true), (9, true), (10, true), (11, true), (12, true), (13, true), (14, true), (15, true), (16, true), (17, true), (18, true), (19, true), (20, true), (21, true), (22, true), (23, true), (24, true), (25, true), (26, true), (27, true), (28, true)]) (by kernel_rfl) (by kernel_rfl) rfl (by kernel_rfl) (fun _ _ d _ _ h => by cases d <;> exact h) ?_
  intro W2 he2 hh2
  replace hB := hB.ext he2
  replace hrd := hrd.ext he2
  refine RO_q rfl rfl (Yd_move rfl) (RO_q rfl rfl (Yd_nil rfl) (RO_q rfl rfl (Yd_fld (off := 2) Try.underlying38 (by kernel_rfl) rfl) (RO_q rfl rfl (Yd_load Try.underlying4 rfl rfl (fun W hW => (ldB hB rfl) W hW.ext)) (RO_q rfl rfl (Yd_move rfl) (RO_gq rfl rfl rfl rfl (Yd_move rfl) (RO_gq rfl rfl rfl rfl (Yd_lss rfl rfl) (RO_q rfl rfl (Yd_pickF rfl rfl) (RO_q rfl rfl (Yd_move rfl) (?_)))))))))
  refine RO_is (d := 18) (b' := false) rfl (decide_eq_false (by omega)) ?_
  refine RO_gq rfl rfl rfl rfl (Yd_move rfl) (RO_gq rfl rfl rfl rfl (Yd_move rfl) (RO_gq rfl rfl rfl rfl (Yd_conv ⟨_, Try.underlying3⟩ Try.underlying28 rfl (u64w (by omega) (by omega))) (RO_gq rfl rfl rfl rfl (Yd_gtr rfl rfl) (RO_q rfl rfl (Yd_pickF rfl rfl) (RO_q rfl rfl (Yd_move rfl) (?_))))))
  refine RO_is (d := 24) (b' := true) rfl (decide_eq_true hm2) ?_
  refine RO_gn rfl rfl rfl rfl rfl (RO_gn rfl rfl rfl rfl rfl (RO_gn rfl rfl rfl rfl rfl (RO_gn rfl rfl rfl rfl rfl (RO_gn rfl rfl rfl rfl rfl (RO_gn rfl rfl rfl rfl rfl (RO_gn rfl rfl rfl rfl rfl (RO_gn rfl rfl rfl rfl rfl (RO_gn rfl rfl rfl rfl rfl (RO_gn rfl rfl rfl rfl rfl (RO_gn rfl rfl rfl rfl rfl (RO_gn rfl rfl rfl rfl rfl (RO_gn rfl rfl rfl rfl rfl (RO_q rfl rfl (Yd_pickT rfl rfl) (RO_nil (X_then (C_yes rfl rfl (C_seq (C_region (RL_q rfl (Yd_move rfl) (RL_q rfl (Yd_nil rfl) (RL_q rfl (Yd_fld (off := 2) Try.underlying38 (by kernel_rfl) rfl) (RL_l0 (Ld_store (by kernel_rfl) rfl rfl hB (Nat.le_of_ble_eq_true rfl) (by simp [cellsL, Value.cells, Value.oneCell']) ?_)))))))))))))))))))))))
  intro W3 hu3 hz3 hB1
  refine RL_nil (X_then (C_seq (C_region (RL_q rfl (Yd_assign rfl) (RL_nil (X_then (C_ret (X_thenR (X_ret1 rfl rfl ?_)))))))))
  rw [hr]
  exact ⟨none, 0, rfl, Rd.none _ _ _, Nat.le_refl _, fun _ => rfl, Nat.zero_le _, ⟨⟨_, _, _, _, hB1⟩, hl⟩, But.trans hu1 (But.trans (But.of_ext he2) hu3)⟩
theorem rqBytes_short (w : World) (g lo lim : Nat) (st : RS) (bs : List Int) (m : Int) (h : RQ 38 lo lim w g st) (hg : rGood st) (hst : (rUint st).2 = some bs) (hm : 0 ≤ m) (hm1 : m ≤ 9223372036854775807) (hm2 : (rUint st).1 ≤ m) (hm3 : (bs.length : Int) < (rUint st).1) :
    Calls Try.prog 32 #[.pointer (some ⟨g, 0, none⟩), .int .i64 m] w fun e w' => ∃ A c, e = .returned (.slice A (rBytes m st).1.length c) ∧ Rd w' lim 1 A (rBytes m st).1.length (ints .u8 (rBytes m st).1) ∧ (rBytes m st).1.length ≤ c ∧ (A = none → c = 0) ∧ c ≤ maxLen ∧ RQ 38 lo lim w' g (rBytes m st).2 ∧ But g w w' := by
  refine calls_of (l := [.pointer (some ⟨g, 0, none⟩), .int .i64 m]) (N := 69) Try.func32 rfl rfl rfl ?_
  refine C_seq (C_region (RL_q rfl (Yd_assign rfl) (RL_nil (X_then (C_seq (C_region (RL_q rfl (Yd_move rfl) (RL_l rfl (Ld_call Try.func25 rfl (by kernel_rfl) rfl (rqUint_c _ g lo lim st h hg) ?_)))))))))
  rintro e W1 ⟨rfl, hL, hu1⟩
  refine ⟨_, rfl, ?_⟩
  have hgood := rUint_good hg
  refine RL_q rfl (Yd_assign rfl) (RL_nil (X_then (C_seq (C_seq (?_)))))
  have hr : rBytes m st = ([], none) := by simp only [rBytes, hst]; rw [if_neg (by omega)]; simp only [rTake]; rw [if_neg (by omega)]
  rw [hst] at hL
  have hg2 := hgood.1
  rw [hst] at hg2
  obtain ⟨⟨A, c, all, I, hB, hrd, hc, hz, hcm, rfl, hI, hle, hlo⟩, hl⟩ := hL
  rw [List.length_drop] at hm3
  refine C_regionD (NoB) (l := [(0, true), (1, true), (2, true), (3, true), (4, true), (5, true), (6, true), (7, true), (8, true), (9, true), (10, true), (11, true), (12, true), (13, true), (14, true), (15, true), (16, true), (17, true), (18, true), (19, true), (20, true), (21, true), (22, true), (23, true), (24, true), (25, true), (26, true), (27, true), (28, true)]) (by kernel_rfl) (by kernel_rfl) rfl (by kernel_rfl) (fun _ _ d _ _ h => by cases d <;> exact h) ?_
  intro W2 he2 hh2
  replace hB := hB.ext he2
  replace hrd := hrd.ext he2
  refine RO_q rfl rfl (Yd_move rfl) (RO_q rfl rfl (Yd_nil rfl) (RO_q rfl rfl (Yd_fld (off := 2) Try.underlying38 (by kernel_rfl) rfl) (RO_q rfl rfl (Yd_load Try.underlying4 rfl rfl (fun W hW => (ldB hB rfl) W hW.ext)) (RO_q rfl rfl (Yd_move rfl) (RO_gq rfl rfl rfl rfl (Yd_move rfl) (RO_gq rfl rfl rfl rfl (Yd_lss rfl rfl) (RO_q rfl rfl (Yd_pickF rfl rfl) (RO_q rfl rfl (Yd_move rfl) (?_)))))))))
  refine RO_is (d := 18) (b' := false) rfl (decide_eq_false (by omega)) ?_
  refine RO_gq rfl rfl rfl rfl (Yd_move rfl) (RO_gq rfl rfl rfl rfl (Yd_move rfl) (RO_gq rfl rfl rfl rfl (Yd_conv ⟨_, Try.underlying3⟩ Try.underlying28 rfl (u64w (by omega) (by omega))) (RO_gq rfl rfl rfl rfl (Yd_gtr rfl rfl) (RO_q rfl rfl (Yd_pickF rfl rfl) (RO_q rfl rfl (Yd_move rfl) (?_))))))
  refine RO_is (d := 24) (b' := false) rfl (decide_eq_false (by omega)) ?_
  refine RO_gq rfl rfl rfl rfl (Yd_move rfl) (RO_gq rfl rfl rfl rfl (Yd_move rfl) (RO_gq rfl rfl rfl rfl (Yd_nil rfl) (RO_gq rfl rfl rfl rfl (Yd_fld (off := 0) Try.underlying38 (by kernel_rfl) rfl) (RO_gq rfl rfl rfl rfl (Yd_load Try.underlying24 rfl rfl (fun W hW => (ldB hB rfl) W hW.ext)) (RO_gq rfl rfl rfl rfl (Yd_len Try.underlying24 rfl) (RO_gq rfl rfl rfl rfl (Yd_move rfl) (RO_gq rfl rfl rfl rfl (Yd_nil rfl) (RO_gq rfl rfl rfl rfl (Yd_fld (off := 1) Try.underlying38 (by kernel_rfl) rfl) (RO_gq rfl rfl rfl rfl (Yd_load Try.underlying3 rfl rfl (fun W hW => (ldB hB rfl) W hW.ext)) (RO_gq rfl rfl rfl rfl (Yd_sub rfl rfl (i64w (by omega) (by omega))) (RO_gq rfl rfl rfl rfl (Yd_conv ⟨_, Try.underlying3⟩ Try.underlying28 rfl (u64w (by omega) (by omega))) (RO_gq rfl rfl rfl rfl (Yd_gtr rfl rfl) (RO_q rfl rfl (Yd_pickF rfl rfl) (RO_nil (X_then (?_))))))))))))))))
  refine C_yes rfl (decide_eq_true (by omega)) (C_seq (C_region (RL_q rfl (Yd_move rfl) (RL_q rfl (Yd_nil rfl) (RL_q rfl (Yd_fld (off := 2) Try.underlying38 (by kernel_rfl) rfl) (RL_l0 (Ld_store (by kernel_rfl) rfl rfl hB (Nat.le_of_ble_eq_true rfl) (by simp [cellsL, Value.cells, Value.oneCell']) ?_)))))))
  intro W3 hu3 hz3 hB1
  refine RL_nil (X_then (C_seq (C_region (RL_q rfl (Yd_assign rfl) (RL_nil (X_then (C_ret (X_thenR (X_ret1 rfl rfl ?_)))))))))
  rw [hr]
  exact ⟨none, 0, rfl, Rd.none _ _ _, Nat.le_refl _, fun _ => rfl, Nat.zero_le _, ⟨⟨_, _, _, _, hB1⟩, hl⟩, But.trans hu1 (But.trans (But.of_ext he2) hu3)⟩
theorem rqBytes_ok (w : World) (g lo lim : Nat) (st : RS) (bs : List Int) (m : Int) (h : RQ 38 lo lim w g st) (hg : rGood st) (hst : (rUint st).2 = some bs) (hm : 0 ≤ m) (hm1 : m ≤ 9223372036854775807) (hm2 : (rUint st).1 ≤ m) (hm3 : (rUint st).1 ≤ bs.length) :
    Calls Try.prog 32 #[.pointer (some ⟨g, 0, none⟩), .int .i64 m] w fun e w' => ∃ A c, e = .returned (.slice A (rBytes m st).1.length c) ∧ Rd w' lim 1 A (rBytes m st).1.length (ints .u8 (rBytes m st).1) ∧ (rBytes m st).1.length ≤ c ∧ (A = none → c = 0) ∧ c ≤ maxLen ∧ RQ 38 lo lim w' g (rBytes m st).2 ∧ But g w w' := by
  refine calls_of (l := [.pointer (some ⟨g, 0, none⟩), .int .i64 m]) (N := 69) Try.func32 rfl rfl rfl ?_
  refine C_seq (C_region (RL_q rfl (Yd_assign rfl) (RL_nil (X_then (C_seq (C_region (RL_q rfl (Yd_move rfl) (RL_l rfl (Ld_call Try.func25 rfl (by kernel_rfl) rfl (rqUint_c _ g lo lim st h hg) ?_)))))))))
  rintro e W1 ⟨rfl, hL, hu1⟩
  refine ⟨_, rfl, ?_⟩
  have hgood := rUint_good hg
  refine RL_q rfl (Yd_assign rfl) (RL_nil (X_then (C_seq (C_seq (?_)))))
  have hr : rBytes m st = (bs.take (rUint st).1.toNat, some (bs.drop (rUint st).1.toNat)) := by simp only [rBytes, hst]; rw [if_neg (by omega)]; simp only [rTake]; rw [if_pos (by omega)]
  rw [hst] at hL
  have hg2 := hgood.1
  rw [hst] at hg2
  obtain ⟨⟨A, c, all, I, hB, hrd, hc, hz, hcm, rfl, hI, hle, hlo⟩, hl⟩ := hL
  rw [List.length_drop] at hm3
  obtain ⟨k, hkk⟩ := Int.eq_ofNat_of_zero_le hgood.2.1
  have htk : (rUint st).1.toNat = k := by rw [hkk]; rfl
  rw [hr, htk, hkk]
  rw [hkk] at hm2 hm3
  refine C_regionD (NoB) (l := [(0, true), (1, true), (2, true), (3, true), (4, true), (5, true), (6, true), (7, true), (8, true), (9, true), (10, true), (11, true), (12, true), (13, true), (14, true), (15, true), (16, true), (17, true), (18, true), (19, true), (20, true), (21, true), (22, true), (23, true), (24, true), (25, true), (26, true), (27, true), (28, true)]) (by kernel_rfl) (by kernel_rfl) rfl (by kernel_rfl) (fun _ _ d _ _ h => by cases d <;> exact h) ?_
  intro W2 he2 hh2
  replace hB := hB.ext he2
  replace hrd := hrd.ext he2
  refine RO_q rfl rfl (Yd_move rfl) (RO_q rfl rfl (Yd_nil rfl) (RO_q rfl rfl (Yd_fld (off := 2) Try.underlying38 (by kernel_rfl) rfl) (RO_q rfl rfl (Yd_load Try.underlying4 rfl rfl (fun W hW => (ldB hB rfl) W hW.ext)) (RO_q rfl rfl (Yd_move rfl) (RO_gq rfl rfl rfl rfl (Yd_move rfl) (RO_gq rfl rfl rfl rfl (Yd_lss rfl rfl) (RO_q rfl rfl (Yd_pickF rfl rfl) (RO_q rfl rfl (Yd_move rfl) (?_)))))))))
  refine RO_is (d := 18) (b' := false) rfl (decide_eq_false (by omega)) ?_
  refine RO_gq rfl rfl rfl rfl (Yd_move rfl) (RO_gq rfl rfl rfl rfl (Yd_move rfl) (RO_gq rfl rfl rfl rfl (Yd_conv ⟨_, Try.underlying3⟩ Try.underlying28 rfl (u64w (by omega) (by omega))) (RO_gq rfl rfl rfl rfl (Yd_gtr rfl rfl) (RO_q rfl rfl (Yd_pickF rfl rfl) (RO_q rfl rfl (Yd_move rfl) (?_))))))
  refine RO_is (d := 24) (b' := false) rfl (decide_eq_false (by omega)) ?_
  refine RO_gq rfl rfl rfl rfl (Yd_move rfl) (RO_gq rfl rfl rfl rfl (Yd_move rfl) (RO_gq rfl rfl rfl rfl (Yd_nil rfl) (RO_gq rfl rfl rfl rfl (Yd_fld (off := 0) Try.underlying38 (by kernel_rfl) rfl) (RO_gq rfl rfl rfl rfl (Yd_load Try.underlying24 rfl rfl (fun W hW => (ldB hB rfl) W hW.ext)) (RO_gq rfl rfl rfl rfl (Yd_len Try.underlying24 rfl) (RO_gq rfl rfl rfl rfl (Yd_move rfl) (RO_gq rfl rfl rfl rfl (Yd_nil rfl) (RO_gq rfl rfl rfl rfl (Yd_fld (off := 1) Try.underlying38 (by kernel_rfl) rfl) (RO_gq rfl rfl rfl rfl (Yd_load Try.underlying3 rfl rfl (fun W hW => (ldB hB rfl) W hW.ext)) (RO_gq rfl rfl rfl rfl (Yd_sub rfl rfl (i64w (by omega) (by omega))) (RO_gq rfl rfl rfl rfl (Yd_conv ⟨_, Try.underlying3⟩ Try.underlying28 rfl (u64w (by omega) (by omega))) (RO_gq rfl rfl rfl rfl (Yd_gtr rfl rfl) (RO_q rfl rfl (Yd_pickF rfl rfl) (RO_nil (X_then (?_))))))))))))))))
  refine C_no rfl (decide_eq_false (by omega)) (C_skip (X_then (C_seq (C_region (RL_q rfl (Yd_move rfl) (RL_q rfl (Yd_conv ⟨_, Try.underlying28⟩ Try.underlying3 rfl (i64w (by omega) (by omega))) (RL_q rfl (Yd_assign rfl) (RL_nil (X_then (C_seq (?_)))))))))))
  refine C_regionD (NoB) (l := [(0, true), (1, true), (2, true), (3, true), (4, true), (5, true), (6, true), (7, true), (8, true), (9, true), (10, true), (11, true), (12, true), (13, true), (14, true), (15, true)]) (by kernel_rfl) (by kernel_rfl) rfl (by kernel_rfl) (fun _ _ d _ _ h => by cases d <;> exact h) ?_
  intro W3 he3 hh3
  replace hB := hB.ext he3
  replace hrd := hrd.ext he3
  refine RO_q rfl rfl (Yd_move rfl) (RO_q rfl rfl (Yd_nil rfl) (RO_q rfl rfl (Yd_fld (off := 0) Try.underlying38 (by kernel_rfl) rfl) (RO_q rfl rfl (Yd_load Try.underlying24 rfl rfl (fun W hW => (ldB hB rfl) W hW.ext)) (RO_q rfl rfl (Yd_move rfl) (RO_q rfl rfl (Yd_nil rfl) (RO_q rfl rfl (Yd_fld (off := 1) Try.underlying38 (by kernel_rfl) rfl) (RO_q rfl rfl (Yd_load Try.underlying3 rfl rfl (fun W hW => (ldB hB rfl) W hW.ext)) (RO_q rfl rfl (Yd_move rfl) (RO_q rfl rfl (Yd_nil rfl) (RO_q rfl rfl (Yd_fld (off := 1) Try.underlying38 (by kernel_rfl) rfl) (RO_q rfl rfl (Yd_load Try.underlying3 rfl rfl (fun W hW => (ldB hB rfl) W hW.ext)) (RO_q rfl rfl (Yd_move rfl) (RO_q rfl rfl (Yd_add rfl rfl (i64w (by omega) (by omega))) (RO_q rfl rfl (Yd_sliceLH Try.underlying24 (sz := 1) (by kernel_rfl) rfl rfl rfl (by omega) (by omega) (by omega)) (RO_q rfl rfl (Yd_assign rfl) (RO_nil (X_then (C_seq (C_region (RL_q rfl (Yd_move rfl) (RL_q rfl (Yd_move rfl) (RL_q rfl (Yd_nil rfl) (RL_q rfl (Yd_fld (off := 1) Try.underlying38 (by kernel_rfl) rfl) (RL_q rfl (Yd_load Try.underlying3 rfl rfl (ldB hB rfl)) (RL_q rfl (Yd_move rfl) (RL_q rfl (Yd_add rfl rfl (i64w (by omega) (by omega))) (RL_q rfl (Yd_nil rfl) (RL_q rfl (Yd_fld (off := 1) Try.underlying38 (by kernel_rfl) rfl) (RL_l0 (Ld_store (by kernel_rfl) rfl rfl hB (Nat.le_of_ble_eq_true rfl) (by simp [cellsL, Value.cells, Value.oneCell']) ?_))))))))))))))))))))))))))))))
  intro W4 hu4 hz4 hB1
  refine RL_nil (X_then (C_seq (C_region (RL_q rfl (Yd_move rfl) (RL_q rfl (Yd_assign rfl) (RL_nil (X_then (C_ret (X_ret1 rfl rfl ?_)))))))))
  have hcut := (hrd.cut (k := I) (m := I + k) (cap := c) (by omega) (by omega) (by omega)).kpl (Kp.of_but1 hu4) (fun j hj => by omega)
  have hlk : ((all.drop I).take k).length = k := take_len (by rw [List.length_drop]; omega)
  simp only [Nat.mul_one, show I + k - I = k from by omega, ints_drop, ints_take] at hcut
  rw [hlk]
  refine ⟨_, c - I, ?_, hcut, by omega, fun h => ?_, by omega, ⟨⟨A, c, all, I + k, hB1, hrd.kpl (Kp.of_but1 hu4) (fun j hj => by omega), hc, hz, hcm, by rw [List.drop_drop], by omega, hle, hlo⟩, hl⟩, But.trans hu1 (But.trans (But.of_ext (Ext.trans he2 he3)) hu4)⟩
  · have e1 : ((I : Int) + (k : Int)).toNat - ((I : Int)).toNat = k := by omega
    have e2 : ((I : Int)).toNat = I := rfl
    simp only [e2] at e1 ⊢
    rw [e1, Nat.mul_one]
  · split at h
    · omega
    · have := hz (by simpa using h); omega
theorem rqBytes_c (w : World) (g lo lim : Nat) (st : RS) (m : Int) (h : RQ 38 lo lim w g st) (hg : rGood st) (hm1 : m ≤ 9223372036854775807) : Calls Try.prog 32 #[.pointer (some ⟨g, 0, none⟩), .int .i64 m] w fun e w' => ∃ A c, e = .returned (.slice A (rBytes m st).1.length c) ∧ Rd w' lim 1 A (rBytes m st).1.length (ints .u8 (rBytes m st).1) ∧ (rBytes m st).1.length ≤ c ∧ (A = none → c = 0) ∧ c ≤ maxLen ∧ RQ 38 lo lim w' g (rBytes m st).2 ∧ But g w w' := by
  cases hst : (rUint st).2 with
  | none => exact rqBytes_0 w g lo lim st m h hg hst
  | some bs =>
    by_cases h1 : m < 0
    · exact rqBytes_neg w g lo lim st bs m h hg hst h1
    · by_cases h2 : m < (rUint st).1
      · exact rqBytes_big w g lo lim st bs m h hg hst (by omega) hm1 h2
      · by_cases h3 : (bs.length : Int) < (rUint st).1
        · exact rqBytes_short w g lo lim st bs m h hg hst (by omega) hm1 (by omega) h3
        · exact rqBytes_ok w g lo lim st bs m h hg hst (by omega) hm1 (by omega) (by omega)
theorem lrNumG {w : World} {g lo lim k : Nat} {b : List Int} (h : LR 75 lo lim w g (qS b k)) (hg : rGood (qS b k)) :
    Calls Try.prog 30 #[.pointer (some ⟨g, 0, none⟩)] w fun e w' => e = .returned (.int .i64 (qI b k)) ∧ LR 75 lo lim w' g (qS b (k + 1)) ∧ rGood (qS b (k + 1)) ∧ Kp (fun k => k = g) w w' :=
  Calls.mono (lrInt_c w g lo lim _ h hg) fun e w' ⟨h1, h2, h3⟩ => ⟨h1, h2, (rUint_good hg).1, Kp.of_but1 h3⟩
theorem lrEndG {w : World} {g lo lim : Nat} {b : List Int} (h : LR 75 lo lim w g (qT b)) : Calls Try.prog 33 #[.pointer (some ⟨g, 0, none⟩)] w fun e w' => e = .returned (.int .i64 (qE b)) ∧ w = w' := lrEnd_c w g lo lim _ h
theorem rqNumG {w : World} {g lo lim k : Nat} {b : List Int} (h : RQ 38 lo lim w g (qS b k)) (hg : rGood (qS b k)) :
    Calls Try.prog 25 #[.pointer (some ⟨g, 0, none⟩)] w fun e w' => e = .returned (.int .u64 (qU b k)) ∧ RQ 38 lo lim w' g (qS b (k + 1)) ∧ rGood (qS b (k + 1)) ∧ Kp (fun k => k = g) w w' :=
  Calls.mono (rqUint_c w g lo lim _ h hg) fun e w' ⟨h1, h2, h3⟩ => ⟨h1, h2, (rUint_good hg).1, Kp.of_but1 h3⟩
theorem rqEndG {w : World} {g lo lim : Nat} {b : List Int} (h : RQ 38 lo lim w g (qT b)) : Calls Try.prog 34 #[.pointer (some ⟨g, 0, none⟩)] w fun e w' => e = .returned (.int .i64 (qE b)) ∧ Ext w w' := rqEnd_c w g lo lim _ h
theorem lrDataG {w : World} {g lo lim : Nat} {b : List Int} (h : LR 75 lo lim w g (qS b 6)) (hg : rGood (qS b 6)) :
    Calls Try.prog 31 #[.pointer (some ⟨g, 0, none⟩), .int .i64 32] w fun e w' => ∃ A n c, e = .returned (.slice A n c) ∧ Vw tU8 w' lo lim A n c (qD b) ∧ LR 75 lo lim w' g (qT b) ∧ rGood (qT b) ∧ Kp (fun k => k = g) w w' :=
  Calls.mono (lrBytes_c w g lo lim _ 32 h hg (by omega)) fun e w' ⟨A, c, h1, h2, h3, h4, hq, h5, h6⟩ => by
    have hgd := rBytes_good 32 hg
    subst h3
    exact ⟨A, _, _, h1, ⟨⟨by rw [cells_ints]; exact h2, Nat.le_refl _, h4, hq⟩, by have := hgd.2.2; simp only [maxLen]; omega, hgd.2.1⟩, h5, hgd.1, Kp.of_but1 h6⟩
theorem rqDataG {w : World} {g lo lim : Nat} {b : List Int} (h : RQ 38 lo lim w g (qS b 6)) (hg : rGood (qS b 6)) :
    Calls Try.prog 32 #[.pointer (some ⟨g, 0, none⟩), .int .i64 32] w fun e w' => ∃ A n c, e = .returned (.slice A n c) ∧ Vw tU8 w' 0 lim A n c (qD b) ∧ RQ 38 lo lim w' g (qT b) ∧ rGood (qT b) ∧ Kp (fun k => k = g) w w' :=
  Calls.mono (rqBytes_c w g lo lim _ 32 h hg (by omega)) fun e w' ⟨A, c, h1, h2, h3, h4, hq, h5, h6⟩ => by
    have hgd := rBytes_good 32 hg
    exact ⟨A, _, _, h1, ⟨⟨by rw [cells_ints]; exact h2, h3, h4, fun _ _ => Nat.zero_le _⟩, hq, hgd.2.1⟩, h5, hgd.1, Kp.of_but1 h6⟩
theorem ReadG {lo_b B_b : Nat} {A_b : Option Addr} {n_b c_b : Nat} {b : List Int} {w : World}  (h_b : Vw tU8 w lo_b B_b A_b n_b c_b b) (h6 : n_b ≤ 60000) :
    Calls Try.prog 47 #[.slice A_b n_b c_b] w fun e w' => ∃ A n c, e = .returned (.tuple #[.agg #[.int .i64 (vI b 0), .int .i64 (vI b 1)], .agg #[.int .i64 (vI b 2), .int .i64 (vI b 3), .int .i64 (vI b 4), .int .i64 (vI b 5), .slice A n c], .int .i64 (qE b)]) ∧ Vw tU8 w' 0 w'.heap.size A n c (vD b) ∧ Ext w w' := by
  have hE := Ext.refl w
  replace h_b := h_b.fit
  have hn_b := h_b.ln
  have hc_b := h_b.cap
  have hm_b := h_b.max
  simp only [maxLen] at hm_b
  refine calls_of (l := [.slice A_b n_b c_b]) (N := 36) Try.func47 rfl rfl rfl ?_
  refine C_seq (C_region (RL_l rfl (Ld_alloc (v := (.agg #[(.int .i64 0), (.int .i64 0)])) (by kernel_rfl) ?_)))
  have hg_2 := hE.size
  intro W1 he1 hz1 hB2
  replace hE := Ext.trans hE he1
  replace h_b := h_b.ext he1
  refine RL_l rfl (Ld_alloc (v := (.agg #[(.int .i64 0), (.int .i64 0), (.int .i64 0), (.int .i64 0), (.slice none 0 0)])) (by kernel_rfl) ?_)
  have hg_3 := hE.size
  intro W2 he2 hz2 hB3
  replace hE := Ext.trans hE he2
  replace h_b := h_b.ext he2
  replace hB2 := hB2.ext he2
  refine RL_q rfl (Yd_assign rfl) (RL_nil (X_then (C_seq (C_region (RL_q rfl (Yd_move rfl) (RL_l rfl (Ld_call Try.func23 rfl (by kernel_rfl) rfl (lrReadV h_b (by omega)) ?_)))))))
  rintro e W3 ⟨gr10, lim10, rfl, hlm10, hLR10, hGhLR10, he3⟩
  refine ⟨_, rfl, ?_⟩
  replace hE := Ext.trans hE he3
  replace h_b := h_b.ext he3
  replace hB2 := hB2.ext he3
  replace hB3 := hB3.ext he3
  have hs3 := he3.size
  have hlt10 := hLR10.lt
  have hlg10 := hLR10.lim
  replace hLR10 : LR 75 W2.heap.size lim10 W3 gr10 (qS b 0) := hLR10
  replace hGhLR10 : rGood (qS b 0) := hGhLR10
  refine RL_q rfl (Yd_assign rfl) (RL_nil (X_then (C_seq (C_region (RL_q rfl (Yd_move rfl) (RL_l rfl (Ld_call Try.func30 rfl (by kernel_rfl) rfl (lrNumG (k := 0) hLR10 hGhLR10) ?_)))))))
  rintro e W4 ⟨rfl, hLR10n, hGhLR10n, hk4⟩
  refine ⟨_, rfl, ?_⟩
  have hs4 := hk4.size
  replace hE := Ext.kp hE hk4 (fun k hk => by first | omega | (have hk := hk; dsimp only at hk; omega))
  replace h_b := h_b.kp hk4 (fun k hk => by first | omega | (have hk := hk; dsimp only at hk; omega))
  replace hB2 := hB2.kp hk4 (fun hk => by first | omega | (have hk := hk; dsimp only at hk; omega))
  replace hB3 := hB3.kp hk4 (fun hk => by first | omega | (have hk := hk; dsimp only at hk; omega))
  replace hLR10 := hLR10n
  have hu12 := qU_rng hGhLR10
  have hqi12 := qI_rng b 0
  replace hGhLR10 := hGhLR10n
  refine RL_q rfl (Yd_move rfl) (RL_l rfl (Ld_call Try.func30 rfl (by kernel_rfl) rfl (lrNumG (k := 1) hLR10 hGhLR10) ?_))
  rintro e W5 ⟨rfl, hLR10n, hGhLR10n, hk5⟩
  refine ⟨_, rfl, ?_⟩
  have hs5 := hk5.size
  replace hE := Ext.kp hE hk5 (fun k hk => by first | omega | (have hk := hk; dsimp only at hk; omega))
  replace h_b := h_b.kp hk5 (fun k hk => by first | omega | (have hk := hk; dsimp only at hk; omega))
  replace hB2 := hB2.kp hk5 (fun hk => by first | omega | (have hk := hk; dsimp only at hk; omega))
  replace hB3 := hB3.kp hk5 (fun hk => by first | omega | (have hk := hk; dsimp only at hk; omega))
  replace hLR10 := hLR10n
  have hu14 := qU_rng hGhLR10
  have hqi14 := qI_rng b 1
  replace hGhLR10 := hGhLR10n
  refine RL_q rfl (Yd_build Try.bld65 rfl rfl) (RL_l rfl (Ld_alloc (v := (.agg #[(.int .i64 0), (.int .i64 0)])) (by kernel_rfl) ?_))
  have hg_6 := hE.size
  intro W6 he6 hz6 hB6
  replace hE := Ext.trans hE he6
  replace h_b := h_b.ext he6
  replace hB2 := hB2.ext he6
  replace hB3 := hB3.ext he6
  replace hLR10 := LR.ext hLR10 he6
  refine RL_l0 (Ld_store (by kernel_rfl) rfl rfl hB6 (Nat.le_of_ble_eq_true rfl) (by simp [cellsL, Value.cells, Value.oneCell']) ?_)
  intro W7 hu7 hz7 hB6
  have hk7 := Kp.ofb hu7
  have hs7 := hk7.size
  replace hE := Ext.kp hE hk7 (fun k hk => by first | omega | (have hk := hk; dsimp only at hk; omega))
  replace h_b := h_b.kp hk7 (fun k hk => by first | omega | (have hk := hk; dsimp only at hk; omega))
  replace hB2 := hB2.kp hk7 (fun hk => by first | omega | (have hk := hk; dsimp only at hk; omega))
  replace hB3 := hB3.kp hk7 (fun hk => by first | omega | (have hk := hk; dsimp only at hk; omega))
  replace hLR10 := LR.kp hLR10 hk7 (fun hk => by first | omega | (have hk := hk; dsimp only at hk; omega)) (fun k hk => by first | omega | (have hk := hk; dsimp only at hk; omega))
  refine RL_nil (X_then (C_seq (C_region (RL_q rfl (Yd_move rfl) (RL_l rfl (Ld_call Try.func30 rfl (by kernel_rfl) rfl (lrNumG (k := 2) hLR10 hGhLR10) ?_))))))
  rintro e W8 ⟨rfl, hLR10n, hGhLR10n, hk8⟩
  refine ⟨_, rfl, ?_⟩
  have hs8 := hk8.size
  replace hE := Ext.kp hE hk8 (fun k hk => by first | omega | (have hk := hk; dsimp only at hk; omega))
  replace h_b := h_b.kp hk8 (fun k hk => by first | omega | (have hk := hk; dsimp only at hk; omega))
  replace hB2 := hB2.kp hk8 (fun hk => by first | omega | (have hk := hk; dsimp only at hk; omega))
  replace hB3 := hB3.kp hk8 (fun hk => by first | omega | (have hk := hk; dsimp only at hk; omega))
  replace hB6 := hB6.kp hk8 (fun hk => by first | omega | (have hk := hk; dsimp only at hk; omega))
  replace hLR10 := hLR10n
  have hu17 := qU_rng hGhLR10
  have hqi17 := qI_rng b 2
  replace hGhLR10 := hGhLR10n
  refine RL_q rfl (Yd_move rfl) (RL_l rfl (Ld_call Try.func30 rfl (by kernel_rfl) rfl (lrNumG (k := 3) hLR10 hGhLR10) ?_))
  rintro e W9 ⟨rfl, hLR10n, hGhLR10n, hk9⟩
  refine ⟨_, rfl, ?_⟩
  have hs9 := hk9.size
  replace hE := Ext.kp hE hk9 (fun k hk => by first | omega | (have hk := hk; dsimp only at hk; omega))
  replace h_b := h_b.kp hk9 (fun k hk => by first | omega | (have hk := hk; dsimp only at hk; omega))
  replace hB2 := hB2.kp hk9 (fun hk => by first | omega | (have hk := hk; dsimp only at hk; omega))
  replace hB3 := hB3.kp hk9 (fun hk => by first | omega | (have hk := hk; dsimp only at hk; omega))
  replace hB6 := hB6.kp hk9 (fun hk => by first | omega | (have hk := hk; dsimp only at hk; omega))
  replace hLR10 := hLR10n
  have hu19 := qU_rng hGhLR10
  have hqi19 := qI_rng b 3
  replace hGhLR10 := hGhLR10n
  refine RL_q rfl (Yd_move rfl) (RL_l rfl (Ld_call Try.func30 rfl (by kernel_rfl) rfl (lrNumG (k := 4) hLR10 hGhLR10) ?_))
  rintro e W10 ⟨rfl, hLR10n, hGhLR10n, hk10⟩
  refine ⟨_, rfl, ?_⟩
  have hs10 := hk10.size
  replace hE := Ext.kp hE hk10 (fun k hk => by first | omega | (have hk := hk; dsimp only at hk; omega))
  replace h_b := h_b.kp hk10 (fun k hk => by first | omega | (have hk := hk; dsimp only at hk; omega))
  replace hB2 := hB2.kp hk10 (fun hk => by first | omega | (have hk := hk; dsimp only at hk; omega))
  replace hB3 := hB3.kp hk10 (fun hk => by first | omega | (have hk := hk; dsimp only at hk; omega))
  replace hB6 := hB6.kp hk10 (fun hk => by first | omega | (have hk := hk; dsimp only at hk; omega))
  replace hLR10 := hLR10n
  have hu21 := qU_rng hGhLR10
  have hqi21 := qI_rng b 4
  replace hGhLR10 := hGhLR10n
  refine RL_q rfl (Yd_move rfl) (RL_l rfl (Ld_call Try.func30 rfl (by kernel_rfl) rfl (lrNumG (k := 5) hLR10 hGhLR10) ?_))
  rintro e W11 ⟨rfl, hLR10n, hGhLR10n, hk11⟩
  refine ⟨_, rfl, ?_⟩
  have hs11 := hk11.size
  replace hE := Ext.kp hE hk11 (fun k hk => by first | omega | (have hk := hk; dsimp only at hk; omega))
  replace h_b := h_b.kp hk11 (fun k hk => by first | omega | (have hk := hk; dsimp only at hk; omega))
  replace hB2 := hB2.kp hk11 (fun hk => by first | omega | (have hk := hk; dsimp only at hk; omega))
  replace hB3 := hB3.kp hk11 (fun hk => by first | omega | (have hk := hk; dsimp only at hk; omega))
  replace hB6 := hB6.kp hk11 (fun hk => by first | omega | (have hk := hk; dsimp only at hk; omega))
  replace hLR10 := hLR10n
  have hu23 := qU_rng hGhLR10
  have hqi23 := qI_rng b 5
  replace hGhLR10 := hGhLR10n
  refine RL_q rfl (Yd_move rfl) (RL_l rfl (Ld_call Try.func31 rfl (by kernel_rfl) rfl (lrDataG hLR10 hGhLR10) ?_))
  rintro e W12 ⟨A25, n25, c25, rfl, hV25, hLR10n, hGhLR10n, hk12⟩
  refine ⟨_, rfl, ?_⟩
  have hs12 := hk12.size
  replace hE := Ext.kp hE hk12 (fun k hk => by first | omega | (have hk := hk; dsimp only at hk; omega))
  replace h_b := h_b.kp hk12 (fun k hk => by first | omega | (have hk := hk; dsimp only at hk; omega))
  replace hB2 := hB2.kp hk12 (fun hk => by first | omega | (have hk := hk; dsimp only at hk; omega))
  replace hB3 := hB3.kp hk12 (fun hk => by first | omega | (have hk := hk; dsimp only at hk; omega))
  replace hB6 := hB6.kp hk12 (fun hk => by first | omega | (have hk := hk; dsimp only at hk; omega))
  replace hLR10 := hLR10n
  replace hGhLR10 := hGhLR10n
  refine RL_q rfl (Yd_build Try.bld53 rfl rfl) (RL_l rfl (Ld_alloc (v := (.agg #[(.int .i64 0), (.int .i64 0), (.int .i64 0), (.int .i64 0), (.slice none 0 0)])) (by kernel_rfl) ?_))
  have hg_7 := hE.size
  intro W13 he13 hz13 hB7
  replace hE := Ext.trans hE he13
  replace h_b := h_b.ext he13
  replace hB2 := hB2.ext he13
  replace hB3 := hB3.ext he13
  replace hLR10 := LR.ext hLR10 he13
  replace hB6 := hB6.ext he13
  try replace hV25 := hV25.ext he13
  refine RL_l0 (Ld_store (by kernel_rfl) rfl rfl hB7 (Nat.le_of_ble_eq_true rfl) (by simp [cellsL, Value.cells, Value.oneCell']) ?_)
  intro W14 hu14 hz14 hB7
  have hk14 := Kp.ofb hu14
  have hs14 := hk14.size
  replace hE := Ext.kp hE hk14 (fun k hk => by first | omega | (have hk := hk; dsimp only at hk; omega))
  replace h_b := h_b.kp hk14 (fun k hk => by first | omega | (have hk := hk; dsimp only at hk; omega))
  replace hB2 := hB2.kp hk14 (fun hk => by first | omega | (have hk := hk; dsimp only at hk; omega))
  replace hB3 := hB3.kp hk14 (fun hk => by first | omega | (have hk := hk; dsimp only at hk; omega))
  replace hLR10 := LR.kp hLR10 hk14 (fun hk => by first | omega | (have hk := hk; dsimp only at hk; omega)) (fun k hk => by first | omega | (have hk := hk; dsimp only at hk; omega))
  replace hB6 := hB6.kp hk14 (fun hk => by first | omega | (have hk := hk; dsimp only at hk; omega))
  try replace hV25 := hV25.kp hk14 (fun k hk => by first | omega | (have hk := hk; dsimp only at hk; omega))
  refine RL_nil (X_then (C_seq (C_seq (C_region (RL_q rfl (Yd_move rfl) (RL_l rfl (Ld_call Try.func33 rfl (by kernel_rfl) rfl (lrEndG hLR10) ?_)))))))
  rintro e W15 ⟨rfl, rfl⟩
  refine ⟨_, rfl, ?_⟩
  refine RL_q rfl (Yd_assign rfl) (RL_nil (X_then (C_seq (C_region (RL_q rfl (Yd_move rfl) (RL_q rfl (Yd_neq rfl rfl) (RL_nil (X_then (?_)))))))))
  refine C_cond rfl (fun hb30 => ?_) (fun hb30 => ?_)
  · skip
    try simp only [decide_eq_true_eq, decide_eq_false_iff_not, Bool.not_eq_true', Bool.not_eq_false', Decidable.not_not, Int.not_lt, Int.not_le, Bool.or_eq_true, Bool.and_eq_true, Bool.or_eq_false_iff, Bool.and_eq_false_iff] at hb30
    refine C_seq (C_region (RL_q rfl (Yd_build Try.bld65 rfl rfl) (RL_q rfl (Yd_build Try.bld53 rfl rfl) (RL_q rfl (Yd_move rfl) (RL_l0 (Ld_store (by kernel_rfl) rfl rfl hB2 (Nat.le_of_ble_eq_true rfl) (by simp [cellsL, Value.cells, Value.oneCell']) ?_))))))
    intro W16 hu16 hz16 hB2
    have hk16 := Kp.ofb hu16
    have hs16 := hk16.size
    replace hE := Ext.kp hE hk16 (fun k hk => by first | omega | (have hk := hk; dsimp only at hk; omega))
    replace h_b := h_b.kp hk16 (fun k hk => by first | omega | (have hk := hk; dsimp only at hk; omega))
    replace hB3 := hB3.kp hk16 (fun hk => by first | omega | (have hk := hk; dsimp only at hk; omega))
    replace hLR10 := LR.kp hLR10 hk16 (fun hk => by first | omega | (have hk := hk; dsimp only at hk; omega)) (fun k hk => by first | omega | (have hk := hk; dsimp only at hk; omega))
    replace hB6 := hB6.kp hk16 (fun hk => by first | omega | (have hk := hk; dsimp only at hk; omega))
    try replace hV25 := hV25.kp hk16 (fun k hk => by first | omega | (have hk := hk; dsimp only at hk; omega))
    replace hB7 := hB7.kp hk16 (fun hk => by first | omega | (have hk := hk; dsimp only at hk; omega))
    refine RL_l0 (Ld_store (by kernel_rfl) rfl rfl hB3 (Nat.le_of_ble_eq_true rfl) (by simp [cellsL, Value.cells, Value.oneCell']) ?_)
    intro W17 hu17 hz17 hB3
    have hk17 := Kp.ofb hu17
    have hs17 := hk17.size
    replace hE := Ext.kp hE hk17 (fun k hk => by first | omega | (have hk := hk; dsimp only at hk; omega))
    replace h_b := h_b.kp hk17 (fun k hk => by first | omega | (have hk := hk; dsimp only at hk; omega))
    replace hB2 := hB2.kp hk17 (fun hk => by first | omega | (have hk := hk; dsimp only at hk; omega))
    replace hLR10 := LR.kp hLR10 hk17 (fun hk => by first | omega | (have hk := hk; dsimp only at hk; omega)) (fun k hk => by first | omega | (have hk := hk; dsimp only at hk; omega))
    replace hB6 := hB6.kp hk17 (fun hk => by first | omega | (have hk := hk; dsimp only at hk; omega))
    try replace hV25 := hV25.kp hk17 (fun k hk => by first | omega | (have hk := hk; dsimp only at hk; omega))
    replace hB7 := hB7.kp hk17 (fun hk => by first | omega | (have hk := hk; dsimp only at hk; omega))
    refine RL_q rfl (Yd_assign rfl) (RL_nil (X_then (C_ret (X_thenR (X_retCCT rfl rfl rfl rfl Try.underlying65 rfl (by kernel_rfl) hB2 Try.underlying53 rfl (by kernel_rfl) hB3 ?_)))))
    have hq : ¬ qE b = 0 := by simpa using hb30
    have e0 : ∀ k, vI b k = 0 := fun k => if_neg hq
    have e1 : vD b = [] := if_neg hq
    have e2 := qE_two hq
    simp only [e0, e1, e2]
    exact ⟨none, 0, 0, rfl, Vw.none_, hE⟩
  · skip
    try simp only [decide_eq_true_eq, decide_eq_false_iff_not, Bool.not_eq_true', Bool.not_eq_false', Decidable.not_not, Int.not_lt, Int.not_le, Bool.or_eq_true, Bool.and_eq_true, Bool.or_eq_false_iff, Bool.and_eq_false_iff] at hb30
    refine C_skip (X_then (C_seq (?_)))
    refine C_regionD (fun k => k = w.heap.size ∨ k = W1.heap.size) (l := [(0, true), (1, true), (2, false), (3, false), (4, true)]) (by kernel_rfl) (by kernel_rfl) rfl (by kernel_rfl) (fun _ _ d _ _ h => by cases d <;> exact h) ?_
    intro W16 he16 hh16
    replace hE := Ext.trans hE he16
    replace h_b := h_b.ext he16
    replace hB2 := hB2.ext he16
    replace hB3 := hB3.ext he16
    replace hLR10 := LR.ext hLR10 he16
    replace hB6 := hB6.ext he16
    try replace hV25 := hV25.ext he16
    replace hB7 := hB7.ext he16
    have hs16 := he16.size
    refine RO_q rfl rfl (Yd_loadA (cs := [.int .i64 (qI b 0), .int .i64 (qI b 1)]) Try.underlying65 rfl (by kernel_rfl) rfl (fun W hW => ldBS (Blk.kp hB6 hW (fun hk => by first | omega | (have hk := hk; dsimp only at hk; omega))) 0 [.int .i64 (qI b 0), .int .i64 (qI b 1)] rfl W (Ext.refl W))) (RO_q rfl rfl (Yd_loadA (cs := [.int .i64 (qI b 2), .int .i64 (qI b 3), .int .i64 (qI b 4), .int .i64 (qI b 5), .slice A25 n25 c25]) Try.underlying53 rfl (by kernel_rfl) rfl (fun W hW => ldBS (Blk.kp hB7 hW (fun hk => by first | omega | (have hk := hk; dsimp only at hk; omega))) 0 [.int .i64 (qI b 2), .int .i64 (qI b 3), .int .i64 (qI b 4), .int .i64 (qI b 5), .slice A25 n25 c25] rfl W (Ext.refl W))) (RO_l0 rfl (Ld_store (by kernel_rfl) rfl rfl hB2 (Nat.le_of_ble_eq_true rfl) (by simp [cellsL, Value.cells, Value.oneCell']) ?_)))
    intro W17 hu17 hz17 hB2
    refine ⟨Kp.of_but hu17 (by first | rfl | omega | (dsimp only; omega)), ?_⟩
    have hk17 := Kp.ofb hu17
    have hs17 := hk17.size
    replace hE := Ext.kp hE hk17 (fun k hk => by first | omega | (have hk := hk; dsimp only at hk; omega))
    replace h_b := h_b.kp hk17 (fun k hk => by first | omega | (have hk := hk; dsimp only at hk; omega))
    replace hB3 := hB3.kp hk17 (fun hk => by first | omega | (have hk := hk; dsimp only at hk; omega))
    replace hLR10 := LR.kp hLR10 hk17 (fun hk => by first | omega | (have hk := hk; dsimp only at hk; omega)) (fun k hk => by first | omega | (have hk := hk; dsimp only at hk; omega))
    replace hB6 := hB6.kp hk17 (fun hk => by first | omega | (have hk := hk; dsimp only at hk; omega))
    try replace hV25 := hV25.kp hk17 (fun k hk => by first | omega | (have hk := hk; dsimp only at hk; omega))
    replace hB7 := hB7.kp hk17 (fun hk => by first | omega | (have hk := hk; dsimp only at hk; omega))
    refine RO_l0 rfl (Ld_store (by kernel_rfl) rfl rfl hB3 (Nat.le_of_ble_eq_true rfl) (by simp [cellsL, Value.cells, Value.oneCell']) ?_)
    intro W18 hu18 hz18 hB3
    refine ⟨Kp.of_but hu18 (by first | rfl | omega | (dsimp only; omega)), ?_⟩
    have hk18 := Kp.ofb hu18
    have hs18 := hk18.size
    replace hE := Ext.kp hE hk18 (fun k hk => by first | omega | (have hk := hk; dsimp only at hk; omega))
    replace h_b := h_b.kp hk18 (fun k hk => by first | omega | (have hk := hk; dsimp only at hk; omega))
    replace hB2 := hB2.kp hk18 (fun hk => by first | omega | (have hk := hk; dsimp only at hk; omega))
    replace hLR10 := LR.kp hLR10 hk18 (fun hk => by first | omega | (have hk := hk; dsimp only at hk; omega)) (fun k hk => by first | omega | (have hk := hk; dsimp only at hk; omega))
    replace hB6 := hB6.kp hk18 (fun hk => by first | omega | (have hk := hk; dsimp only at hk; omega))
    try replace hV25 := hV25.kp hk18 (fun k hk => by first | omega | (have hk := hk; dsimp only at hk; omega))
    replace hB7 := hB7.kp hk18 (fun hk => by first | omega | (have hk := hk; dsimp only at hk; omega))
    refine RO_q rfl rfl (Yd_assign rfl) (RO_nil (X_then (C_ret (X_retCCT rfl rfl rfl rfl Try.underlying65 rfl (by kernel_rfl) hB2 Try.underlying53 rfl (by kernel_rfl) hB3 ?_))))
    have hq : qE b = 0 := by simpa using hb30
    have e0 : ∀ k, vI b k = qI b k := fun k => if_pos hq
    have e1 : vD b = qD b := if_pos hq
    simp only [e0, e1, hq]
    exact ⟨_, _, _, rfl, hV25.fit.more (by omega) (Nat.le_refl _), hE⟩
theorem refReadG {lo_b B_b : Nat} {A_b : Option Addr} {n_b c_b : Nat} {b : List Int} {w : World}  (h_b : Vw tU8 w lo_b B_b A_b n_b c_b b) (h6 : n_b ≤ 60000) :
    Calls Try.prog 48 #[.slice A_b n_b c_b] w fun e w' => ∃ A n c, e = .returned (.agg #[.int .i64 (vI b 0), .int .i64 (vI b 1), .int .i64 (vI b 2), .int .i64 (vI b 3), .int .i64 (vI b 4), .int .i64 (vI b 5), .slice A n c, .int .i64 (qE b)]) ∧ Vw tU8 w' 0 w'.heap.size A n c (vD b) ∧ Ext w w' := by
  have hE := Ext.refl w
  replace h_b := h_b.fit
  have hn_b := h_b.ln
  have hc_b := h_b.cap
  have hm_b := h_b.max
  simp only [maxLen] at hm_b
  refine calls_of (l := [.slice A_b n_b c_b]) (N := 48) Try.func48 rfl rfl rfl ?_
  refine C_seq (C_region (RL_l rfl (Ld_alloc (v := (.agg #[(.int .i64 0), (.int .i64 0), (.int .i64 0), (.int .i64 0), (.int .i64 0), (.int .i64 0), (.slice none 0 0), (.int .i64 0)])) (by kernel_rfl) ?_)))
  have hg_2 := hE.size
  intro W1 he1 hz1 hB2
  replace hE := Ext.trans hE he1
  replace h_b := h_b.ext he1
  refine RL_nil (X_then (C_seq (C_region (RL_q rfl (Yd_move rfl) (RL_q rfl (Yd_build Try.bld38 rfl rfl) (RL_l rfl (Ld_box rfl ?_)))))))
  have hg_9 := hE.size
  intro W2 he2 hz2 hB9
  replace hE := Ext.trans hE he2
  replace h_b := h_b.ext he2
  replace hB2 := hB2.ext he2
  have hRQ9 : RQ 38 0 w.heap.size W2 W1.heap.size (qS b 0) := by
    rw [← hn_b] at hB9
    exact RQ.new hB9 (by rw [hn_b]; exact h_b.u8) (by omega) h_b.nil h_b.max (by omega) (fun _ _ => Nat.zero_le _) (by omega)
  have hGhRQ9 : rGood (qS b 0) := ⟨h_b.byt, by omega⟩
  clear hB9
  refine RL_q rfl (Yd_assign rfl) (RL_nil (X_then (C_seq (C_region (RL_q rfl (Yd_assign rfl) (RL_nil (X_then (C_seq (C_seq (C_region (RL_q rfl (Yd_assign rfl) (RL_nil (X_then (C_block (?_)))))))))))))))
  refine C_loop (T := Nat × Option Addr × Nat × Nat) (fun ⟨k, lA4, ln4, lc4⟩ => [(2, .pointer (some ⟨w.heap.size, 0, none⟩)), (3, .pointer (some ⟨W1.heap.size, 0, none⟩)), (4, .slice lA4 ln4 lc4), (5, .int .i64 (k : Int))]) (fun ⟨k, lA4, ln4, lc4⟩ lw2 => Ow tI64 3 lw2 W2.heap.size lw2.heap.size lA4 ln4 lc4 (qL b k) ∧ RQ 38 0 w.heap.size lw2 W1.heap.size (qS b k) ∧ rGood (qS b k) ∧ (k ≤ 6) ∧ Kp (fun k => k = W1.heap.size) W2 lw2) (fun ⟨k, lA4, ln4, lc4⟩ => 6 - k) (⟨0, none, 0, 0⟩) ⟨rfl, rfl, rfl, rfl, trivial⟩ ?_ ?_
  · refine ⟨(Ow.nil (lo := W2.heap.size)).cast ?_, hRQ9, hGhRQ9, ?_, Kp.refl _ _⟩
    all_goals (try dsimp only)
    all_goals (first | omega | rfl)
  · rintro ⟨k, lA4, ln4, lc4⟩ lw2 ⟨hR4, hRQ9, hGhRQ9, hi2_0, hL2⟩
    replace hE := Ext.kp hE hL2 (fun k hk => by first | omega | (have hk := hk; dsimp only at hk; omega))
    replace h_b := h_b.kp hL2 (fun k hk => by first | omega | (have hk := hk; dsimp only at hk; omega))
    replace hB2 := hB2.kp hL2 (fun hk => by first | omega | (have hk := hk; dsimp only at hk; omega))
    have hsL2 := hL2.size
    have hnhR4 := hR4.ln
    try simp only [List.length_append, List.length_cons, List.length_nil, List.length_set, List.length_take, List.length_drop, List.length_replicate, List.length_map, Nat.zero_add, Nat.add_zero, le8s_len, le8_len, text_len, qL_len] at hnhR4
    have hchR4 := hR4.cap
    refine C_seq (C_seq (C_region (RL_q rfl (Yd_move rfl) (RL_q rfl (Yd_lss rfl rfl) (RL_nil (X_then (?_)))))))
    refine C_cond rfl (fun hb11 => ?_) (fun hb11 => ?_)
    · skip
      try simp only [decide_eq_true_eq, decide_eq_false_iff_not, Bool.not_eq_true', Bool.not_eq_false', Decidable.not_not, Int.not_lt, Int.not_le, Bool.or_eq_true, Bool.and_eq_true, Bool.or_eq_false_iff, Bool.and_eq_false_iff] at hb11
      refine C_skip (X_then (C_seq (C_block (C_region (RL_q rfl (Yd_move rfl) (RL_q rfl (Yd_move rfl) (RL_l rfl (Ld_call Try.func25 rfl (by kernel_rfl) rfl (rqNumG (k := k) hRQ9 hGhRQ9) ?_))))))))
      rintro e W3 ⟨rfl, hRQ9n, hGhRQ9n, hk3⟩
      refine ⟨_, rfl, ?_⟩
      have hs3 := hk3.size
      replace hE := Ext.kp hE hk3 (fun k hk => by first | omega | (have hk := hk; dsimp only at hk; omega))
      replace h_b := h_b.kp hk3 (fun k hk => by first | omega | (have hk := hk; dsimp only at hk; omega))
      replace hB2 := hB2.kp hk3 (fun hk => by first | omega | (have hk := hk; dsimp only at hk; omega))
      replace hR4 := hR4.kp hk3 (fun k hk => by first | omega | (have hk := hk; dsimp only at hk; omega))
      try replace hL2 := hL2.go hk3 (fun k hk => by first | omega | (have hk := hk; dsimp only at hk; dsimp only; omega))
      replace hRQ9 := hRQ9n
      have hu16 := qU_rng hGhRQ9
      have hqi16 := qI_rng b k
      replace hGhRQ9 := hGhRQ9n
      refine RL_q rfl (Yd_conv ⟨_, Try.underlying28⟩ Try.underlying3 rfl rfl) (RL_l rfl (Ld_lit Try.underlying22 rfl (lit_flat Try.underlying22 Try.elt3 rfl rfl ⟨rfl, by decide⟩) ?_))
      intro W4 he4 hz4 hL18
      replace hE := Ext.trans hE he4
      replace h_b := h_b.ext he4
      replace hB2 := hB2.ext he4
      replace hR4 := hR4.ext he4
      replace hL2 := Kp.go hL2 (Kp.of_ext (G := NoB) he4) (fun _ h => h.elim)
      replace hRQ9 := RQ.ext hRQ9 he4
      have hO18 := Ow.of_blk (T := tI64) (l := [(qI b k)]) hL18 rfl (n := 1) rfl (by simp [maxLen]) (okc ⟨by omega, by omega⟩ okn)
      clear hL18
      refine RL_l rfl (Ld_apO (T := tI64) Try.underlying22 Try.elt3 rfl rfl rfl hR4 hO18.vw (by simp only [maxLen]; omega) (by omega) (by omega) ?_)
      intro A19 c19 W5 hO19 hk5
      have hs5 := hk5.size
      replace hE := Ext.kp hE hk5 (fun k hk => by first | omega | (have hk := hk; dsimp only at hk; omega))
      replace h_b := h_b.kp hk5 (fun k hk => by first | omega | (have hk := hk; dsimp only at hk; omega))
      replace hB2 := hB2.kp hk5 (fun hk => by first | omega | (have hk := hk; dsimp only at hk; omega))
      try replace hL2 := hL2.go hk5 (fun k hk => by first | omega | (have hk := hk; dsimp only at hk; dsimp only; omega))
      replace hRQ9 := RQ.kp hRQ9 hk5 (fun hk => by first | omega | (have hk := hk; dsimp only at hk; omega)) (fun k hk => by first | omega | (have hk := hk; dsimp only at hk; omega))
      replace hO18 := hO18.kp hk5 (fun k hk => by first | omega | (have hk := hk; dsimp only at hk; omega))
      have hn19 := hO19.ln
      try simp only [List.length_append, List.length_cons, List.length_nil, List.length_set, List.length_take, List.length_drop, List.length_replicate, List.length_map, Nat.zero_add, Nat.add_zero, le8s_len, le8_len, text_len, qL_len] at hn19
      have hc19 := hO19.cap
      refine RL_q rfl (Yd_assign rfl) (RL_nil (X_block (X_then (C_region (RL_q rfl (Yd_move rfl) (RL_q rfl (Yd_add rfl rfl (i64w (by omega) (by omega))) (RL_q rfl (Yd_assign rfl) (RL_nil (?_)))))))))
      refine X_again (⟨k + 1, A19, (ln4 + 1), c19⟩) ⟨rfl, rfl, rfl, rfl, trivial⟩ ?_ (by show 6 - (k + 1) < 6 - k; omega)
      refine ⟨hO19.fit.cast ?_, hRQ9, hGhRQ9, ?_, hL2⟩
      all_goals (try dsimp only)
      all_goals (first | omega | exact qL_succ _ _)
    · skip
      try simp only [decide_eq_true_eq, decide_eq_false_iff_not, Bool.not_eq_true', Bool.not_eq_false', Decidable.not_not, Int.not_lt, Int.not_le, Bool.or_eq_true, Bool.and_eq_true, Bool.or_eq_false_iff, Bool.and_eq_false_iff] at hb11
      refine C_exit (X_thenE (X_thenE (X_blockE (X_then (C_seq (?_))))))
      obtain rfl : k = 6 := by omega
      rw [qL_six] at hR4
      refine C_region (RL_q rfl (Yd_move rfl) (RL_l rfl (Ld_call Try.func32 rfl (by kernel_rfl) rfl (rqDataG hRQ9 hGhRQ9) ?_)))
      rintro e W3 ⟨A21, n21, c21, rfl, hV21, hRQ9n, hGhRQ9n, hk3⟩
      refine ⟨_, rfl, ?_⟩
      have hs3 := hk3.size
      replace hE := Ext.kp hE hk3 (fun k hk => by first | omega | (have hk := hk; dsimp only at hk; omega))
      replace h_b := h_b.kp hk3 (fun k hk => by first | omega | (have hk := hk; dsimp only at hk; omega))
      replace hB2 := hB2.kp hk3 (fun hk => by first | omega | (have hk := hk; dsimp only at hk; omega))
      replace hR4 := hR4.kp hk3 (fun k hk => by first | omega | (have hk := hk; dsimp only at hk; omega))
      try replace hL2 := hL2.go hk3 (fun k hk => by first | omega | (have hk := hk; dsimp only at hk; dsimp only; omega))
      replace hRQ9 := hRQ9n
      replace hGhRQ9 := hGhRQ9n
      refine RL_q rfl (Yd_assign rfl) (RL_nil (X_then (C_seq (C_seq (C_region (RL_q rfl (Yd_move rfl) (RL_l rfl (Ld_call Try.func34 rfl (by kernel_rfl) rfl (rqEndG hRQ9) ?_))))))))
      rintro e W4 ⟨rfl, he4⟩
      refine ⟨_, rfl, ?_⟩
      replace hE := Ext.trans hE he4
      replace h_b := h_b.ext he4
      replace hB2 := hB2.ext he4
      replace hR4 := hR4.ext he4
      replace hL2 := Kp.go hL2 (Kp.of_ext (G := NoB) he4) (fun _ h => h.elim)
      replace hRQ9 := RQ.ext hRQ9 he4
      try replace hV21 := hV21.ext he4
      have hs4 := he4.size
      refine RL_q rfl (Yd_neq rfl rfl) (RL_nil (X_then (?_)))
      refine C_cond rfl (fun hb24 => ?_) (fun hb24 => ?_)
      · skip
        try simp only [decide_eq_true_eq, decide_eq_false_iff_not, Bool.not_eq_true', Bool.not_eq_false', Decidable.not_not, Int.not_lt, Int.not_le, Bool.or_eq_true, Bool.and_eq_true, Bool.or_eq_false_iff, Bool.and_eq_false_iff] at hb24
        refine C_seq (C_region (RL_q rfl (Yd_build Try.bld70 rfl rfl) (RL_l0 (Ld_store (by kernel_rfl) rfl rfl hB2 (Nat.le_of_ble_eq_true rfl) (by simp [cellsL, Value.cells, Value.oneCell']) ?_))))
        intro W5 hu5 hz5 hB2
        have hk5 := Kp.ofb hu5
        have hs5 := hk5.size
        replace hE := Ext.kp hE hk5 (fun k hk => by first | omega | (have hk := hk; dsimp only at hk; omega))
        replace h_b := h_b.kp hk5 (fun k hk => by first | omega | (have hk := hk; dsimp only at hk; omega))
        replace hR4 := hR4.kp hk5 (fun k hk => by first | omega | (have hk := hk; dsimp only at hk; omega))
        try replace hL2 := hL2.go hk5 (fun k hk => by first | omega | (have hk := hk; dsimp only at hk; dsimp only; omega))
        replace hRQ9 := RQ.kp hRQ9 hk5 (fun hk => by first | omega | (have hk := hk; dsimp only at hk; omega)) (fun k hk => by first | omega | (have hk := hk; dsimp only at hk; omega))
        try replace hV21 := hV21.kp hk5 (fun k hk => by first | omega | (have hk := hk; dsimp only at hk; omega))
        refine RL_nil (X_then (C_ret (X_thenR (X_retC rfl rfl Try.underlying70 rfl (by kernel_rfl) hB2 ?_))))
        have hq : ¬ qE b = 0 := by simpa using hb24
        have e0 : ∀ k, vI b k = 0 := fun k => if_neg hq
        have e1 : vD b = [] := if_neg hq
        have e2 := qE_two hq
        simp only [e0, e1, e2]
        exact ⟨none, 0, 0, rfl, Vw.none_, hE⟩
      · skip
        try simp only [decide_eq_true_eq, decide_eq_false_iff_not, Bool.not_eq_true', Bool.not_eq_false', Decidable.not_not, Int.not_lt, Int.not_le, Bool.or_eq_true, Bool.and_eq_true, Bool.or_eq_false_iff, Bool.and_eq_false_iff] at hb24
        refine C_skip (X_then (C_seq (?_)))
        refine C_regionD (fun k => k = w.heap.size) (l := [(0, true), (1, true), (2, true), (3, true), (4, true), (5, true), (6, true), (7, true), (8, true), (9, true), (10, true), (11, true), (12, true), (13, true), (14, true), (15, true), (16, true), (17, true), (18, true), (19, true), (20, true), (21, true), (22, false)]) (by kernel_rfl) (by kernel_rfl) rfl (by kernel_rfl) (fun _ _ d _ _ h => by cases d <;> exact h) ?_
        intro W5 he5 hh5
        replace hE := Ext.trans hE he5
        replace h_b := h_b.ext he5
        replace hB2 := hB2.ext he5
        replace hR4 := hR4.ext he5
        replace hL2 := Kp.go hL2 (Kp.of_ext (G := NoB) he5) (fun _ h => h.elim)
        replace hRQ9 := RQ.ext hRQ9 he5
        try replace hV21 := hV21.ext he5
        have hs5 := he5.size
        refine RO_q rfl rfl (Yd_move rfl) (?_)
        obtain ⟨glA4, rfl, hgllA4, hghlA4⟩ := Ow.at_ (i := 0) hR4 (by omega)
        refine RO_q rfl rfl (Yd_idxL Try.underlying22 (sz := 1) (by kernel_rfl) rfl rfl (by omega) (by omega)) (RO_q rfl rfl (Yd_load (v := .int .i64 (qI b 0)) Try.underlying3 rfl rfl (fun W hW => (Vw.lq1L (Vw.kp hR4.vw hW (fun k hk => by first | omega | (have hk := hk; dsimp only at hk; omega))) (i := 0) (a := (qI b 0)) rfl rfl rfl) W (Ext.refl W))) (RO_q rfl rfl (Yd_move rfl) (RO_q rfl rfl (Yd_idxL Try.underlying22 (sz := 1) (by kernel_rfl) rfl rfl (by omega) (by omega)) (RO_q rfl rfl (Yd_load (v := .int .i64 (qI b 1)) Try.underlying3 rfl rfl (fun W hW => (Vw.lq1L (Vw.kp hR4.vw hW (fun k hk => by first | omega | (have hk := hk; dsimp only at hk; omega))) (i := 1) (a := (qI b 1)) rfl rfl rfl) W (Ext.refl W))) (RO_q rfl rfl (Yd_build Try.bld65 rfl rfl) (RO_q rfl rfl (Yd_move rfl) (RO_q rfl rfl (Yd_idxL Try.underlying22 (sz := 1) (by kernel_rfl) rfl rfl (by omega) (by omega)) (RO_q rfl rfl (Yd_load (v := .int .i64 (qI b 2)) Try.underlying3 rfl rfl (fun W hW => (Vw.lq1L (Vw.kp hR4.vw hW (fun k hk => by first | omega | (have hk := hk; dsimp only at hk; omega))) (i := 2) (a := (qI b 2)) rfl rfl rfl) W (Ext.refl W))) (RO_q rfl rfl (Yd_move rfl) (RO_q rfl rfl (Yd_idxL Try.underlying22 (sz := 1) (by kernel_rfl) rfl rfl (by omega) (by omega)) (RO_q rfl rfl (Yd_load (v := .int .i64 (qI b 3)) Try.underlying3 rfl rfl (fun W hW => (Vw.lq1L (Vw.kp hR4.vw hW (fun k hk => by first | omega | (have hk := hk; dsimp only at hk; omega))) (i := 3) (a := (qI b 3)) rfl rfl rfl) W (Ext.refl W))) (RO_q rfl rfl (Yd_move rfl) (RO_q rfl rfl (Yd_idxL Try.underlying22 (sz := 1) (by kernel_rfl) rfl rfl (by omega) (by omega)) (RO_q rfl rfl (Yd_load (v := .int .i64 (qI b 4)) Try.underlying3 rfl rfl (fun W hW => (Vw.lq1L (Vw.kp hR4.vw hW (fun k hk => by first | omega | (have hk := hk; dsimp only at hk; omega))) (i := 4) (a := (qI b 4)) rfl rfl rfl) W (Ext.refl W))) (RO_q rfl rfl (Yd_move rfl) (RO_q rfl rfl (Yd_idxL Try.underlying22 (sz := 1) (by kernel_rfl) rfl rfl (by omega) (by omega)) (RO_q rfl rfl (Yd_load (v := .int .i64 (qI b 5)) Try.underlying3 rfl rfl (fun W hW => (Vw.lq1L (Vw.kp hR4.vw hW (fun k hk => by first | omega | (have hk := hk; dsimp only at hk; omega))) (i := 5) (a := (qI b 5)) rfl rfl rfl) W (Ext.refl W))) (RO_q rfl rfl (Yd_move rfl) (RO_q rfl rfl (Yd_build Try.bld53 rfl rfl) (RO_q rfl rfl (Yd_build Try.bld70 rfl rfl) (RO_l0 rfl (Ld_store (by kernel_rfl) rfl rfl hB2 (Nat.le_of_ble_eq_true rfl) (by simp [cellsL, Value.cells, Value.oneCell']) ?_))))))))))))))))))))))
        intro W6 hu6 hz6 hB2
        refine ⟨Kp.of_but hu6 (by first | rfl | omega | (dsimp only; omega)), ?_⟩
        have hk6 := Kp.ofb hu6
        have hs6 := hk6.size
        replace hE := Ext.kp hE hk6 (fun k hk => by first | omega | (have hk := hk; dsimp only at hk; omega))
        replace h_b := h_b.kp hk6 (fun k hk => by first | omega | (have hk := hk; dsimp only at hk; omega))
        replace hR4 := hR4.kp hk6 (fun k hk => by first | omega | (have hk := hk; dsimp only at hk; omega))
        try replace hL2 := hL2.go hk6 (fun k hk => by first | omega | (have hk := hk; dsimp only at hk; dsimp only; omega))
        replace hRQ9 := RQ.kp hRQ9 hk6 (fun hk => by first | omega | (have hk := hk; dsimp only at hk; omega)) (fun k hk => by first | omega | (have hk := hk; dsimp only at hk; omega))
        try replace hV21 := hV21.kp hk6 (fun k hk => by first | omega | (have hk := hk; dsimp only at hk; omega))
        refine RO_nil (X_then (C_ret (X_retC rfl rfl Try.underlying70 rfl (by kernel_rfl) hB2 ?_)))
        have hq : qE b = 0 := by simpa using hb24
        have e0 : ∀ k, vI b k = qI b k := fun k => if_pos hq
        have e1 : vD b = qD b := if_pos hq
        simp only [e0, e1, hq]
        exact ⟨_, _, _, rfl, hV21.fit.more (by omega) (Nat.le_refl _), hE⟩
theorem rFewV {rop rpg roff rn : Int} {lo_rd B_rd : Nat} {A_rd : Option Addr} {n_rd c_rd : Nat} {rd : List Int} {w : World}  (h_rd : Vw tU8 w lo_rd B_rd A_rd n_rd c_rd rd) (b_r : (-9223372036854775808 ≤ rop ∧ rop ≤ 9223372036854775807) ∧ (-9223372036854775808 ≤ rpg ∧ rpg ≤ 9223372036854775807) ∧ (-9223372036854775808 ≤ roff ∧ roff ≤ 9223372036854775807) ∧ (-9223372036854775808 ≤ rn ∧ rn ≤ 9223372036854775807)) :
    Calls Try.prog 36 #[.agg #[.int .i64 rop, .int .i64 rpg, .int .i64 roff, .int .i64 rn, .slice A_rd n_rd c_rd]] w fun e w' => ∃ A n c, e = .returned (.agg #[.int .i64 rop, .int .i64 rpg, .int .i64 roff, .int .i64 rn, .slice A n c]) ∧ Vw tU8 w' w.heap.size w'.heap.size A n c (few rd 34) ∧ Ext w w' := by
  have hE := Ext.refl w
  replace h_rd := h_rd.fit
  have hn_rd := h_rd.ln
  have hc_rd := h_rd.cap
  have hm_rd := h_rd.max
  simp only [maxLen] at hm_rd
  refine calls_of (l := [.agg #[.int .i64 rop, .int .i64 rpg, .int .i64 roff, .int .i64 rn, .slice A_rd n_rd c_rd]]) (N := 8) Try.func36 rfl rfl rfl ?_
  refine C_seq (C_region (RL_l rfl (Ld_box rfl ?_)))
  have hg_1 := hE.size
  intro W1 he1 hz1 hB1
  replace hE := Ext.trans hE he1
  replace h_rd := h_rd.ext he1
  refine RL_l rfl (Ld_alloc (v := (.agg #[(.int .i64 0), (.int .i64 0), (.int .i64 0), (.int .i64 0), (.slice none 0 0)])) (by kernel_rfl) ?_)
  have hg_2 := hE.size
  intro W2 he2 hz2 hB2
  replace hE := Ext.trans hE he2
  replace h_rd := h_rd.ext he2
  replace hB1 := hB1.ext he2
  refine RL_nil (X_then (C_seq (C_region (RL_q rfl (Yd_fld (off := 4) Try.underlying53 (by kernel_rfl) rfl) (RL_q rfl (Yd_load Try.underlying24 rfl rfl (ldB hB1 rfl)) (RL_l rfl (Ld_call Try.func17 rfl (by kernel_rfl) rfl (FewV h_rd ⟨by first | omega | (dsimp only; omega), by first | omega | (dsimp only; omega)⟩) ?_)))))))
  rintro e W3 ⟨A5, n5, c5, rfl, hF5, hle5, he3⟩
  refine ⟨_, rfl, ?_⟩
  replace hE := Ext.trans hE he3
  replace h_rd := h_rd.ext he3
  replace hB1 := hB1.ext he3
  replace hB2 := hB2.ext he3
  have hs3 := he3.size
  have hn5 := hF5.ln
  try simp only [List.length_append, List.length_cons, List.length_nil, List.length_set, List.length_take, List.length_drop, List.length_replicate, List.length_map, Nat.zero_add, Nat.add_zero, le8s_len, le8_len, text_len, qL_len] at hn5
  have hc5 := hF5.cap
  try rw [hle5.2.2.1 (by omega)] at hF5 hn5
  refine RL_q rfl (Yd_fld (off := 4) Try.underlying53 (by kernel_rfl) rfl) (RL_l0 (Ld_store (by kernel_rfl) rfl rfl hB1 (Nat.le_of_ble_eq_true rfl) (by simp [cellsL, Value.cells, Value.oneCell']) ?_))
  intro W4 hu4 hz4 hB1
  have hk4 := Kp.ofb hu4
  have hs4 := hk4.size
  replace hE := Ext.kp hE hk4 (fun k hk => by first | omega | (have hk := hk; dsimp only at hk; omega))
  replace h_rd := h_rd.kp hk4 (fun k hk => by first | omega | (have hk := hk; dsimp only at hk; omega))
  replace hB2 := hB2.kp hk4 (fun hk => by first | omega | (have hk := hk; dsimp only at hk; omega))
  replace hF5 := hF5.kp hk4 (fun k hk => by first | omega | (have hk := hk; dsimp only at hk; omega))
  refine RL_nil (X_then (C_seq (C_region (RL_q rfl (Yd_loadA Try.underlying53 rfl (by kernel_rfl) rfl (ldBA hB1)) (RL_l0 (Ld_store (by kernel_rfl) rfl rfl hB2 (Nat.le_of_ble_eq_true rfl) (by simp [cellsL, Value.cells, Value.oneCell']) ?_))))))
  intro W5 hu5 hz5 hB2
  have hk5 := Kp.ofb hu5
  have hs5 := hk5.size
  replace hE := Ext.kp hE hk5 (fun k hk => by first | omega | (have hk := hk; dsimp only at hk; omega))
  replace h_rd := h_rd.kp hk5 (fun k hk => by first | omega | (have hk := hk; dsimp only at hk; omega))
  replace hB1 := hB1.kp hk5 (fun hk => by first | omega | (have hk := hk; dsimp only at hk; omega))
  replace hF5 := hF5.kp hk5 (fun k hk => by first | omega | (have hk := hk; dsimp only at hk; omega))
  refine RL_nil (X_then (C_ret (X_retC rfl rfl Try.underlying53 rfl (by kernel_rfl) hB2 ?_)))
  exact ⟨_, _, _, rfl, hF5.vw.fit.more (by omega) (Nat.le_refl _), hE⟩
end Go.Proofs.AL
