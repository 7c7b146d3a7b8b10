import Derived.Test.YtfckeecfppmepaaReq3
import Derived.Test.YtfckeecfppmepaaShp
set_option linter.unusedVariables false
set_option linter.unusedSimpArgs false
namespace Go.Proofs.AL
open Go.RowKit

abbrev rqL (r : Rq) : List Value := [.int .i64 r.op, .int .i64 r.page, .int .i64 r.off, .int .i64 r.len, .slice r.A r.n r.c]
def rqs (l : List Rq) : List Value := (l.map rqL).flatten
theorem rqs_ld {w : World} {B n i j0 : Nat} {ad : Addr} {l : List Rq} (h : Rd w B 5 (some ad) n (rqs l)) (hi : i < l.length) (hn : 0 < n) (hj : j0 = i * 5) : ∀ W, Ext w W → ∀ j u, (rqL l[i])[j]? = some u → W.cell? ((ad.add j0).add j) = some u := fun W hW j u hu => by
  subst hj
  obtain ⟨ad', e, _, hc⟩ := (h.ext hW).cells hn
  injection e with e
  subst e
  have hj : j < 5 := by
    rcases Nat.lt_or_ge j 5 with h | h
    · exact h
    · rw [List.getElem?_eq_none (by simpa using h)] at hu; cases hu
  rw [add_add]
  refine hc _ _ ?_
  rw [rqs, flat_get (sz := 5) (l.map rqL) (fun r hr => by obtain ⟨q, _, rfl⟩ := List.mem_map.1 hr; rfl) i (by simpa using hi) j hj]
  simpa using hu

/-- a block of a slice, if the slice has anything -/
def Bk (w : World) (n g : Nat) (t : TypeId) (cs : List Value) : Prop := 0 < n → Blk w g t cs
theorem Bk.ext {w w' : World} {n g : Nat} {t : TypeId} {cs : List Value} (h : Bk w n g t cs) (hb : Ext w w') : Bk w' n g t cs := fun hn => (h hn).ext hb
theorem Bk.bt {w w' : World} {n g g' : Nat} {t : TypeId} {cs : List Value} (h : Bk w n g' t cs) (hb : But g w w') (hne : g' ≠ g) : Bk w' n g' t cs := fun hn => (h hn).bt hb hne
theorem own_bk {w : World} {base n c : Nat} {e : TypeId} {A : Option Addr} {xs : List Int} (h : Own w base e 1 A n c (ints .u8 xs)) (hlt : base < w.heap.size) : ∃ g ys, (0 < n → A = some ⟨g, 0, none⟩) ∧ base ≤ g ∧ g < w.heap.size ∧ Bk w n g e (ints .u8 xs ++ ys) := by
  by_cases hn : 0 < n
  · obtain ⟨g, ys, h1, h2, h3, _⟩ := h.blk hn
    exact ⟨g, ys, fun _ => h1, h2, h3.lt, fun _ => h3⟩
  · exact ⟨base, [], fun h => absurd h hn, Nat.le_refl _, hlt, fun h => absurd h hn⟩
theorem set_cells {cs : List Int} {ys : List Value} {i o : Nat} {v : Int} (hi : i < cs.length) (ho : o = i) : (ints .u8 cs ++ ys).take o ++ cellsL (.int .u8 v) ++ (ints .u8 cs ++ ys).drop (o + (cellsL (.int .u8 v)).length) = ints .u8 (cs.set i v) ++ ys := by
  subst ho
  have h1 : (ints .u8 cs).length = cs.length := by simp [ints]
  have h2 : cellsL (.int .u8 v) = [.int .u8 v] := rfl
  rw [h2, List.take_append_of_le_length (by omega), List.drop_append_of_le_length (by simp; omega), List.set_eq_take_append_cons_drop, if_pos hi]
  simp [ints]
theorem cell_at {cs : List Int} {ys : List Value} {i o : Nat} (hi : i < cs.length) (ho : o = i) : (ints .u8 cs ++ ys)[o]? = some (.int .u8 cs[i]) := by
  subst ho
  rw [List.getElem?_append_left (by simpa [ints] using hi), ints_get _ _ _ hi]
theorem refFew2_c {lo B : Nat} (r : Rq) (w : World) (h_r : RqAt w lo B r) : Calls Try.prog 36 #[.agg #[.int .i64 r.op, .int .i64 r.page, .int .i64 r.off, .int .i64 r.len, .slice r.A r.n r.c]] w fun e w' => ∃ x : Rq, e = .returned x.val ∧ RqAt w' w.heap.size w'.heap.size x ∧ (x.op = r.op ∧ x.page = r.page ∧ x.off = r.off ∧ x.len = r.len ∧ x.d = few r.d 34) ∧ Ext w w' :=
  Calls.mono (refFew_c r w h_r) fun e w' ⟨A, c, h1, h2, h3⟩ => ⟨_, h1, h2, ⟨rfl, rfl, rfl, rfl, rfl⟩, h3⟩
theorem ReqSame_c {lo B lo' B' : Nat} (a b : Rq) (by_ : Int) (w : World) (h_a : RqAt w lo B a) (h_b : RqAt w lo' B' b) :
    Calls Try.prog 11 #[.agg #[.int .i64 a.op, .int .i64 a.page, .int .i64 a.off, .int .i64 a.len, .slice a.A a.n a.c], .agg #[.int .i64 b.op, .int .i64 b.page, .int .i64 b.off, .int .i64 b.len, .slice b.A b.n b.c], .int .u8 by_] w fun e w' => e = .returned (.bool true) ∧ Ext w w' := by
  have hE := Ext.refl w
  replace h_a := h_a.fit
  replace h_b := h_b.fit
  refine calls_of (l := [.agg #[.int .i64 a.op, .int .i64 a.page, .int .i64 a.off, .int .i64 a.len, .slice a.A a.n a.c], .agg #[.int .i64 b.op, .int .i64 b.page, .int .i64 b.off, .int .i64 b.len, .slice b.A b.n b.c], .int .u8 by_]) (N := 100) Try.func11 rfl rfl rfl ?_
  refine C_seq (C_region (RL_l rfl (Ld_box rfl ?_)))
  have hg_3 := hE.size
  intro W1 he1 hz1 hB3
  replace hE := Ext.trans hE he1
  replace h_a := h_a.ext he1
  replace h_b := h_b.ext he1
  refine RL_l rfl (Ld_box rfl ?_)
  have hg_4 := hE.size
  intro W2 he2 hz2 hB4
  replace hE := Ext.trans hE he2
  replace h_a := h_a.ext he2
  replace h_b := h_b.ext he2
  replace hB3 := hB3.ext he2
  refine RL_q rfl (Yd_assign rfl) (RL_nil (X_then (C_seq (C_region (RL_q rfl (Yd_loadA Try.underlying53 rfl (by kernel_rfl) rfl (ldBA hB3)) (RL_l rfl (Ld_call Try.func36 rfl (by kernel_rfl) rfl (refFew2_c a _ h_a) ?_)))))))
  rintro e W3 ⟨x, rfl, h_x, hxf, he3⟩
  refine ⟨_, rfl, ?_⟩
  replace hE := Ext.trans hE he3
  replace h_a := h_a.ext he3
  replace h_b := h_b.ext he3
  replace hB3 := hB3.ext he3
  replace hB4 := hB4.ext he3
  have hs3 := he3.size
  refine RL_l rfl (Ld_alloc (v := (.agg #[(.int .i64 0), (.int .i64 0), (.int .i64 0), (.int .i64 0), (.slice none 0 0)])) (by kernel_rfl) ?_)
  have hg_7 := hE.size
  intro W4 he4 hz4 hB7
  replace hE := Ext.trans hE he4
  replace h_a := h_a.ext he4
  replace h_b := h_b.ext he4
  replace hB3 := hB3.ext he4
  replace hB4 := hB4.ext he4
  replace h_x := h_x.ext he4
  refine RL_l0 (Ld_store (by kernel_rfl) rfl rfl hB7 (Nat.le_of_ble_eq_true rfl) (by simp [cellsL, Value.cells, Value.oneCell']) ?_)
  intro W5 hu5 hz5 hB7
  replace hE := ext_but hE hu5 hg_7
  replace h_a := h_a.bt hu5 (by omega)
  replace h_b := h_b.bt hu5 (by omega)
  replace hB3 := hB3.bt hu5 (by omega)
  replace hB4 := hB4.bt hu5 (by omega)
  replace h_x := h_x.bt hu5 (by omega)
  refine RL_nil (X_then (C_seq (C_region (RL_q rfl (Yd_loadA Try.underlying53 rfl (by kernel_rfl) rfl (ldBA hB4)) (RL_l rfl (Ld_call Try.func36 rfl (by kernel_rfl) rfl (refFew2_c b _ h_b) ?_))))))
  rintro e W6 ⟨y, rfl, h_y, hyf, he6⟩
  refine ⟨_, rfl, ?_⟩
  replace hE := Ext.trans hE he6
  replace h_a := h_a.ext he6
  replace h_b := h_b.ext he6
  replace hB3 := hB3.ext he6
  replace hB4 := hB4.ext he6
  replace h_x := h_x.ext he6
  replace hB7 := hB7.ext he6
  have hs6 := he6.size
  refine RL_l rfl (Ld_alloc (v := (.agg #[(.int .i64 0), (.int .i64 0), (.int .i64 0), (.int .i64 0), (.slice none 0 0)])) (by kernel_rfl) ?_)
  have hg_8 := hE.size
  intro W7 he7 hz7 hB8
  replace hE := Ext.trans hE he7
  replace h_a := h_a.ext he7
  replace h_b := h_b.ext he7
  replace hB3 := hB3.ext he7
  replace hB4 := hB4.ext he7
  replace h_x := h_x.ext he7
  replace hB7 := hB7.ext he7
  replace h_y := h_y.ext he7
  refine RL_l0 (Ld_store (by kernel_rfl) rfl rfl hB8 (Nat.le_of_ble_eq_true rfl) (by simp [cellsL, Value.cells, Value.oneCell']) ?_)
  intro W8 hu8 hz8 hB8
  replace hE := ext_but hE hu8 hg_8
  replace h_a := h_a.bt hu8 (by omega)
  replace h_b := h_b.bt hu8 (by omega)
  replace hB3 := hB3.bt hu8 (by omega)
  replace hB4 := hB4.bt hu8 (by omega)
  replace h_x := h_x.bt hu8 (by omega)
  replace hB7 := hB7.bt hu8 (by omega)
  replace h_y := h_y.bt hu8 (by omega)
  refine RL_nil (X_then (C_seq (?_)))
  refine C_regionD (NoB) (l := [(0, true), (1, true), (2, true), (3, true), (5, true), (6, true), (8, true), (9, true), (11, true), (12, true), (14, true), (15, true), (4, false), (7, false), (10, false), (13, false), (16, false), (17, false), (18, true)]) (by kernel_rfl) (by kernel_rfl) rfl (by kernel_rfl) (fun _ _ d _ _ h => by cases d <;> exact h) ?_
  intro W9 he9 hh9
  replace hE := Ext.trans hE he9
  replace h_a := h_a.ext he9
  replace h_b := h_b.ext he9
  replace hB3 := hB3.ext he9
  replace hB4 := hB4.ext he9
  replace h_x := h_x.ext he9
  replace hB7 := hB7.ext he9
  replace h_y := h_y.ext he9
  replace hB8 := hB8.ext he9
  have hs9 := he9.size
  refine RO_q rfl rfl (Yd_loadA Try.underlying53 rfl (by kernel_rfl) rfl (fun W hW => (ldBA hB7) W hW.ext)) (RO_q rfl rfl (Yd_loadA Try.underlying53 rfl (by kernel_rfl) rfl (fun W hW => (ldBA hB8) W hW.ext)) (RO_q rfl rfl (Yd_loadA Try.underlying53 rfl (by kernel_rfl) rfl (fun W hW => (ldBA hB7) W hW.ext)) (RO_q rfl rfl (Yd_loadA Try.underlying53 rfl (by kernel_rfl) rfl (fun W hW => (ldBA hB8) W hW.ext)) (RO_q rfl rfl (Yd_loadA Try.underlying53 rfl (by kernel_rfl) rfl (fun W hW => (ldBA hB7) W hW.ext)) (RO_q rfl rfl (Yd_loadA Try.underlying53 rfl (by kernel_rfl) rfl (fun W hW => (ldBA hB8) W hW.ext)) (RO_q rfl rfl (Yd_loadA Try.underlying53 rfl (by kernel_rfl) rfl (fun W hW => (ldBA hB7) W hW.ext)) (RO_q rfl rfl (Yd_loadA Try.underlying53 rfl (by kernel_rfl) rfl (fun W hW => (ldBA hB8) W hW.ext)) (RO_q rfl rfl (Yd_loadA Try.underlying53 rfl (by kernel_rfl) rfl (fun W hW => (ldBA hB7) W hW.ext)) (RO_q rfl rfl (Yd_loadA Try.underlying53 rfl (by kernel_rfl) rfl (fun W hW => (ldBA hB8) W hW.ext)) (RO_q rfl rfl (Yd_loadA Try.underlying53 rfl (by kernel_rfl) rfl (fun W hW => (ldBA hB7) W hW.ext)) (RO_q rfl rfl (Yd_loadA Try.underlying53 rfl (by kernel_rfl) rfl (fun W hW => (ldBA hB8) W hW.ext)) (RO_l rfl rfl (Ld_call Try.func37 rfl (by kernel_rfl) rfl (odd_c x y _ _ h_x h_y (by omega) (by omega)) ?_)))))))))))))
  rintro e W10 ⟨od21, rfl, h_o21, he10⟩
  refine ⟨_, rfl, ?_⟩
  refine ⟨Kp.of_ext he10, ?_⟩
  replace hE := Ext.trans hE he10
  replace h_a := h_a.ext he10
  replace h_b := h_b.ext he10
  replace hB3 := hB3.ext he10
  replace hB4 := hB4.ext he10
  replace h_x := h_x.ext he10
  replace hB7 := hB7.ext he10
  replace h_y := h_y.ext he10
  replace hB8 := hB8.ext he10
  have hs10 := he10.size
  refine RO_l rfl rfl (Ld_call Try.func37 rfl (by kernel_rfl) rfl (odd_c x y _ _ h_x h_y (by omega) (by omega)) ?_)
  rintro e W11 ⟨od24, rfl, h_o24, he11⟩
  refine ⟨_, rfl, ?_⟩
  refine ⟨Kp.of_ext he11, ?_⟩
  replace hE := Ext.trans hE he11
  replace h_a := h_a.ext he11
  replace h_b := h_b.ext he11
  replace hB3 := hB3.ext he11
  replace hB4 := hB4.ext he11
  replace h_x := h_x.ext he11
  replace hB7 := hB7.ext he11
  replace h_y := h_y.ext he11
  replace hB8 := hB8.ext he11
  replace h_o21 := h_o21.ext he11
  have hs11 := he11.size
  refine RO_l rfl rfl (Ld_call Try.func37 rfl (by kernel_rfl) rfl (odd_c x y _ _ h_x h_y (by omega) (by omega)) ?_)
  rintro e W12 ⟨od27, rfl, h_o27, he12⟩
  refine ⟨_, rfl, ?_⟩
  refine ⟨Kp.of_ext he12, ?_⟩
  replace hE := Ext.trans hE he12
  replace h_a := h_a.ext he12
  replace h_b := h_b.ext he12
  replace hB3 := hB3.ext he12
  replace hB4 := hB4.ext he12
  replace h_x := h_x.ext he12
  replace hB7 := hB7.ext he12
  replace h_y := h_y.ext he12
  replace hB8 := hB8.ext he12
  replace h_o21 := h_o21.ext he12
  replace h_o24 := h_o24.ext he12
  have hs12 := he12.size
  refine RO_l rfl rfl (Ld_call Try.func37 rfl (by kernel_rfl) rfl (odd_c x y _ _ h_x h_y (by omega) (by omega)) ?_)
  rintro e W13 ⟨od30, rfl, h_o30, he13⟩
  refine ⟨_, rfl, ?_⟩
  refine ⟨Kp.of_ext he13, ?_⟩
  replace hE := Ext.trans hE he13
  replace h_a := h_a.ext he13
  replace h_b := h_b.ext he13
  replace hB3 := hB3.ext he13
  replace hB4 := hB4.ext he13
  replace h_x := h_x.ext he13
  replace hB7 := hB7.ext he13
  replace h_y := h_y.ext he13
  replace hB8 := hB8.ext he13
  replace h_o21 := h_o21.ext he13
  replace h_o24 := h_o24.ext he13
  replace h_o27 := h_o27.ext he13
  have hs13 := he13.size
  refine RO_l rfl rfl (Ld_call Try.func37 rfl (by kernel_rfl) rfl (odd_c x y _ _ h_x h_y (by omega) (by omega)) ?_)
  rintro e W14 ⟨od33, rfl, h_o33, he14⟩
  refine ⟨_, rfl, ?_⟩
  refine ⟨Kp.of_ext he14, ?_⟩
  replace hE := Ext.trans hE he14
  replace h_a := h_a.ext he14
  replace h_b := h_b.ext he14
  replace hB3 := hB3.ext he14
  replace hB4 := hB4.ext he14
  replace h_x := h_x.ext he14
  replace hB7 := hB7.ext he14
  replace h_y := h_y.ext he14
  replace hB8 := hB8.ext he14
  replace h_o21 := h_o21.ext he14
  replace h_o24 := h_o24.ext he14
  replace h_o27 := h_o27.ext he14
  replace h_o30 := h_o30.ext he14
  have hs14 := he14.size
  refine RO_l rfl rfl (Ld_lit Try.underlying57 rfl (lit_flat Try.underlying57 Try.elt53 rfl rfl ⟨rfl, by decide⟩) ?_)
  intro W15 he15 hz15 hL34
  refine ⟨Kp.of_ext he15, ?_⟩
  replace hE := Ext.trans hE he15
  replace h_a := h_a.ext he15
  replace h_b := h_b.ext he15
  replace hB3 := hB3.ext he15
  replace hB4 := hB4.ext he15
  replace h_x := h_x.ext he15
  replace hB7 := hB7.ext he15
  replace h_y := h_y.ext he15
  replace hB8 := hB8.ext he15
  replace h_o21 := h_o21.ext he15
  replace h_o24 := h_o24.ext he15
  replace h_o27 := h_o27.ext he15
  replace h_o30 := h_o30.ext he15
  replace h_o33 := h_o33.ext he15
  refine RO_q rfl rfl (Yd_assign rfl) (RO_nil (X_then (C_seq (C_seq (C_region (RL_q rfl (Yd_assign rfl) (RL_nil (X_then (C_block (?_))))))))))
  obtain ⟨qs, hqs⟩ : ∃ qs : List Rq, qs = [x, y, od21, od24, od27, od30, od33] := ⟨_, rfl⟩
  have hAll : Rd W15 W15.heap.size 5 (some ⟨W14.heap.size, 0, none⟩) 7 (rqs qs) := by
    rw [hqs]
    exact hL34.rd (sz := 5) (n := 7) rfl
  have hqn : qs.length = 7 := by rw [hqs]; rfl
  have hq : ∀ q ∈ qs, RqAt W15 0 W15.heap.size q := fun q hq => by
    rw [hqs] at hq
    simp only [List.mem_cons, List.not_mem_nil, or_false] at hq
    rcases hq with rfl | rfl | rfl | rfl | rfl | rfl | rfl
    · exact h_x.more (Nat.zero_le _) (by omega)
    · exact h_y.more (Nat.zero_le _) (by omega)
    · exact h_o21.more (Nat.zero_le _) (by omega)
    · exact h_o24.more (Nat.zero_le _) (by omega)
    · exact h_o27.more (Nat.zero_le _) (by omega)
    · exact h_o30.more (Nat.zero_le _) (by omega)
    · exact h_o33.more (Nat.zero_le _) (by omega)
  have hxn : x.n ≤ 34 := by
    have h1 := h_x.ln
    have h2 := few_le a.d 34 (by omega)
    rw [hxf.2.2.2.2] at h1
    omega
  refine C_loop (T := Nat) (fun i => [(2, .int .u8 by_), (3, .pointer (some ⟨w.heap.size, 0, none⟩)), (7, .pointer (some ⟨W3.heap.size, 0, none⟩)), (8, .pointer (some ⟨W6.heap.size, 0, none⟩)), (9, .slice (some ⟨W14.heap.size, 0, none⟩) 7 7), (10, .int .i64 i)]) (fun i w1 => i ≤ 7 ∧ Ext W15 w1) (fun i => 7 - i) (0) ⟨rfl, rfl, rfl, rfl, rfl, rfl, trivial⟩ ?_ ?_
  · exact ⟨by omega, Ext.refl _⟩
  · rintro i w1 ⟨hi, hL⟩
    replace hE := Ext.trans hE hL
    replace hB3 := hB3.ext hL
    replace hB7 := hB7.ext hL
    replace hB8 := hB8.ext hL
    replace h_x := h_x.ext hL
    replace h_y := h_y.ext hL
    replace h_a := h_a.ext hL
    refine C_seq (C_seq (C_region (RL_q rfl (Yd_move rfl) (RL_q rfl (Yd_move rfl) (RL_q rfl (Yd_len Try.underlying57 rfl) (RL_q rfl (Yd_lss rfl rfl) (RL_nil (X_then (?_)))))))))
    refine C_cond rfl (fun hb => ?_) (fun hb => ?_)
    · skip
      have hb : (i : Int) < 7 := of_decide_eq_true hb
      have hq1 := (hq _ (List.getElem_mem (show i < qs.length by omega))).ext hL
      refine C_skip (X_then (C_seq (C_block (C_seq (?_)))))
      refine C_regionD (NoB) (l := [(0, true), (1, true), (2, true), (3, true), (4, true), (6, true), (7, true), (8, true), (9, true), (10, true), (5, false), (11, false), (12, true), (13, true), (14, true), (15, true), (16, true), (17, true), (18, true), (20, true), (21, true), (22, true), (23, true), (24, true), (19, false), (25, false), (26, true), (27, true)]) (by kernel_rfl) (by kernel_rfl) rfl (by kernel_rfl) (fun _ _ d _ _ h => by cases d <;> exact h) ?_
      intro W16 he16 hh16
      replace hE := Ext.trans hE he16
      replace hB3 := hB3.ext he16
      replace hB7 := hB7.ext he16
      replace hL := Ext.trans hL he16
      replace hB8 := hB8.ext he16
      replace h_x := h_x.ext he16
      replace h_y := h_y.ext he16
      replace h_a := h_a.ext he16
      replace hq1 := hq1.ext he16
      have hs16 := he16.size
      refine RO_q rfl rfl (Yd_loadA Try.underlying53 rfl (by kernel_rfl) rfl (fun W hW => (ldBA hB7) W hW.ext)) (RO_q rfl rfl (Yd_move rfl) (RO_q rfl rfl (Yd_move rfl) (RO_q rfl rfl (Yd_idx Try.underlying57 (sz := 5) (by kernel_rfl) rfl rfl (by omega) (by omega)) (RO_q rfl rfl (Yd_loadA Try.underlying53 rfl (by kernel_rfl) rfl (fun W hW => (rqs_ld (i := i) (j0 := ((i : Nat) : Int).toNat * 5) (hAll.ext hL) (by omega) (by omega) (by omega)) W hW.ext)) (RO_q rfl rfl (Yd_loadA Try.underlying53 rfl (by kernel_rfl) rfl (fun W hW => (ldBA hB7) W hW.ext)) (RO_q rfl rfl (Yd_move rfl) (RO_q rfl rfl (Yd_move rfl) (RO_q rfl rfl (Yd_idx Try.underlying57 (sz := 5) (by kernel_rfl) rfl rfl (by omega) (by omega)) (RO_q rfl rfl (Yd_loadA Try.underlying53 rfl (by kernel_rfl) rfl (fun W hW => (rqs_ld (i := i) (j0 := ((i : Nat) : Int).toNat * 5) (hAll.ext hL) (by omega) (by omega) (by omega)) W hW.ext)) (RO_l rfl rfl (Ld_call Try.func43 rfl (by kernel_rfl) rfl (Same_c x qs[i] _ h_x hq1) ?_)))))))))))
      rintro e W17 ⟨rfl, he17⟩
      refine ⟨_, rfl, ?_⟩
      refine ⟨Kp.of_ext he17, ?_⟩
      replace hE := Ext.trans hE he17
      replace hB3 := hB3.ext he17
      replace hB7 := hB7.ext he17
      replace hL := Ext.trans hL he17
      replace hB8 := hB8.ext he17
      replace h_x := h_x.ext he17
      replace h_y := h_y.ext he17
      replace h_a := h_a.ext he17
      replace hq1 := hq1.ext he17
      have hs17 := he17.size
      refine RO_l rfl rfl (Ld_call Try.func44 rfl (by kernel_rfl) rfl (refSame_c x qs[i] _ h_x hq1) ?_)
      rintro e W18 ⟨rfl, he18⟩
      refine ⟨_, rfl, ?_⟩
      refine ⟨Kp.of_ext he18, ?_⟩
      replace hE := Ext.trans hE he18
      replace hB3 := hB3.ext he18
      replace hB7 := hB7.ext he18
      replace hL := Ext.trans hL he18
      replace hB8 := hB8.ext he18
      replace h_x := h_x.ext he18
      replace h_y := h_y.ext he18
      replace h_a := h_a.ext he18
      replace hq1 := hq1.ext he18
      have hs18 := he18.size
      refine RO_q rfl rfl (Yd_neqB Try.underlying4 rfl rfl) (RO_q rfl rfl (Yd_move rfl) (?_))
      refine RO_is (d := 54) (b' := false) rfl (by simp) ?_
      refine RO_gq rfl rfl rfl rfl (Yd_move rfl) (RO_gq rfl rfl rfl rfl (Yd_move rfl) (RO_gq rfl rfl rfl rfl (Yd_idx Try.underlying57 (sz := 5) (by kernel_rfl) rfl rfl (by omega) (by omega)) (RO_gq rfl rfl rfl rfl (Yd_loadA Try.underlying53 rfl (by kernel_rfl) rfl (fun W hW => (rqs_ld (i := i) (j0 := ((i : Nat) : Int).toNat * 5) (hAll.ext hL) (by omega) (by omega) (by omega)) W hW.ext)) (RO_gq rfl rfl rfl rfl (Yd_loadA Try.underlying53 rfl (by kernel_rfl) rfl (fun W hW => (ldBA hB8) W hW.ext)) (RO_gq rfl rfl rfl rfl (Yd_move rfl) (RO_gq rfl rfl rfl rfl (Yd_move rfl) (RO_gq rfl rfl rfl rfl (Yd_idx Try.underlying57 (sz := 5) (by kernel_rfl) rfl rfl (by omega) (by omega)) (RO_gq rfl rfl rfl rfl (Yd_loadA Try.underlying53 rfl (by kernel_rfl) rfl (fun W hW => (rqs_ld (i := i) (j0 := ((i : Nat) : Int).toNat * 5) (hAll.ext hL) (by omega) (by omega) (by omega)) W hW.ext)) (RO_gq rfl rfl rfl rfl (Yd_loadA Try.underlying53 rfl (by kernel_rfl) rfl (fun W hW => (ldBA hB8) W hW.ext)) (RO_gl rfl rfl rfl rfl (Ld_call Try.func43 rfl (by kernel_rfl) rfl (Same_c qs[i] y _ hq1 h_y) ?_)))))))))))
      rintro e W19 ⟨rfl, he19⟩
      refine ⟨_, rfl, ?_⟩
      refine ⟨Kp.of_ext he19, ?_⟩
      replace hE := Ext.trans hE he19
      replace hB3 := hB3.ext he19
      replace hB7 := hB7.ext he19
      replace hL := Ext.trans hL he19
      replace hB8 := hB8.ext he19
      replace h_x := h_x.ext he19
      replace h_y := h_y.ext he19
      replace h_a := h_a.ext he19
      replace hq1 := hq1.ext he19
      have hs19 := he19.size
      refine RO_gl rfl rfl rfl rfl (Ld_call Try.func44 rfl (by kernel_rfl) rfl (refSame_c qs[i] y _ hq1 h_y) ?_)
      rintro e W20 ⟨rfl, he20⟩
      refine ⟨_, rfl, ?_⟩
      refine ⟨Kp.of_ext he20, ?_⟩
      replace hE := Ext.trans hE he20
      replace hB3 := hB3.ext he20
      replace hB7 := hB7.ext he20
      replace hL := Ext.trans hL he20
      replace hB8 := hB8.ext he20
      replace h_x := h_x.ext he20
      replace h_y := h_y.ext he20
      replace h_a := h_a.ext he20
      replace hq1 := hq1.ext he20
      have hs20 := he20.size
      refine RO_gq rfl rfl rfl rfl (Yd_neqB Try.underlying4 rfl rfl) (RO_q rfl rfl (Yd_pickF rfl rfl) (RO_nil (X_then (?_))))
      refine C_no rfl (by simp) (C_skip (X_block (X_then (C_region (RL_q rfl (Yd_move rfl) (RL_q rfl (Yd_add rfl rfl (i64w (by omega) (by omega))) (RL_q rfl (Yd_assign rfl) (RL_nil (?_)))))))))
      refine X_again (i + 1) ⟨rfl, rfl, rfl, rfl, rfl, rfl, trivial⟩ ?_ (by first | omega | (dsimp only; omega))
      exact ⟨by omega, hL⟩
    · skip
      have hb : ¬ (i : Int) < 7 := of_decide_eq_false hb
      have hsL := hL.size
      refine C_exit (X_thenE (X_thenE (X_blockE (X_then (C_seq (C_region (RL_q rfl (Yd_loadA Try.underlying53 rfl (by kernel_rfl) rfl (ldBA hB7)) (RL_l rfl (Ld_call Try.func45 rfl (by kernel_rfl) rfl (Clone_c x _ h_x (by omega)) ?_)))))))))
      rintro e W16 ⟨A10, c10, rfl, hC, hCz, he16⟩
      refine ⟨_, rfl, ?_⟩
      replace hE := Ext.trans hE he16
      replace hB3 := hB3.ext he16
      replace hB7 := hB7.ext he16
      replace hB8 := hB8.ext he16
      replace h_x := h_x.ext he16
      replace h_y := h_y.ext he16
      replace h_a := h_a.ext he16
      have hs16 := he16.size
      obtain ⟨gC, ys, hA10, hgC1, hgC2, hBk⟩ := own_bk hC (by omega)
      have hCr := hC.rw_
      have hCc := hC.cap.2
      refine RL_l rfl (Ld_alloc (v := (.agg #[(.int .i64 0), (.int .i64 0), (.int .i64 0), (.int .i64 0), (.slice none 0 0)])) (by kernel_rfl) ?_)
      have hg_11 := hE.size
      intro W17 he17 hz17 hB11
      replace hE := Ext.trans hE he17
      replace hB3 := hB3.ext he17
      replace hB7 := hB7.ext he17
      replace hB8 := hB8.ext he17
      replace h_x := h_x.ext he17
      replace h_y := h_y.ext he17
      replace h_a := h_a.ext he17
      replace hBk := hBk.ext he17
      replace hCr := hCr.ext he17
      refine RL_l0 (Ld_store (by kernel_rfl) rfl rfl hB11 (Nat.le_of_ble_eq_true rfl) (by simp [cellsL, Value.cells, Value.oneCell']) ?_)
      intro W18 hu18 hz18 hB11
      replace hE := ext_but hE hu18 hg_11
      replace hB3 := hB3.bt hu18 (by omega)
      replace hB7 := hB7.bt hu18 (by omega)
      replace hB8 := hB8.bt hu18 (by omega)
      replace h_x := h_x.bt hu18 (by omega)
      replace h_y := h_y.bt hu18 (by omega)
      replace h_a := h_a.bt hu18 (by omega)
      replace hBk := hBk.bt hu18 (by omega)
      replace hCr := hCr.bt hu18 (by omega)
      refine RL_nil (X_then (C_seq (C_seq (C_region (RL_q rfl (Yd_loadA Try.underlying53 rfl (by kernel_rfl) rfl (ldBA hB11)) (RL_q rfl (Yd_loadA Try.underlying53 rfl (by kernel_rfl) rfl (ldBA hB7)) (RL_l rfl (Ld_call Try.func44 rfl (by kernel_rfl) rfl (refSame_c ⟨x.op, x.page, x.off, x.len, A10, x.n, c10, x.d⟩ x _ ⟨hCr, h_x.ln, h_x.byt, hCc, h_x.op, h_x.page, h_x.off, h_x.len⟩ h_x) ?_))))))))
      rintro e W19 ⟨rfl, he19⟩
      refine ⟨_, rfl, ?_⟩
      replace hE := Ext.trans hE he19
      replace hB3 := hB3.ext he19
      replace hB7 := hB7.ext he19
      replace hB8 := hB8.ext he19
      replace h_x := h_x.ext he19
      replace h_y := h_y.ext he19
      replace h_a := h_a.ext he19
      replace hBk := hBk.ext he19
      replace hCr := hCr.ext he19
      replace hB11 := hB11.ext he19
      have hs19 := he19.size
      refine RL_q rfl (Yd_not rfl) (RL_nil (X_then (?_)))
      refine C_no rfl (by simp [rSame]) (C_skip (X_then (C_seq (C_seq (C_region (RL_q rfl (Yd_assign rfl) (RL_nil (X_then (C_block (?_))))))))))
      refine C_loop (T := Nat) (fun i => [(2, .int .u8 by_), (3, .pointer (some ⟨w.heap.size, 0, none⟩)), (7, .pointer (some ⟨W3.heap.size, 0, none⟩)), (11, .pointer (some ⟨W16.heap.size, 0, none⟩)), (12, .int .i64 i)]) (fun i w1 => i ≤ x.n ∧ Blk w1 w.heap.size 53 (rqL a) ∧ Blk w1 W3.heap.size 53 (rqL x) ∧ Blk w1 W16.heap.size 53 (rqL ⟨x.op, x.page, x.off, x.len, A10, x.n, c10, x.d⟩) ∧ RqAt w1 lo w.heap.size a ∧ RqAt w1 W2.heap.size W3.heap.size x ∧ Ext w w1 ∧ ∃ cs ys, cs.length = x.n ∧ Bk w1 x.n gC 5 (ints .u8 cs ++ ys)) (fun i => x.n - i) (0) ⟨rfl, rfl, rfl, rfl, rfl, trivial⟩ ?_ ?_
      · exact ⟨Nat.zero_le _, hB3, hB7, hB11, h_a, h_x, hE, x.d, ys, h_x.ln, hBk⟩
      · rintro i w1 ⟨hi, hB3, hB7, hB11, h_a, h_x, hE, cs, ys, hcs, hBk⟩
        refine C_seq (C_seq (C_region (RL_q rfl (Yd_move rfl) (RL_q rfl (Yd_fld (off := 4) Try.underlying53 (by kernel_rfl) rfl) (RL_q rfl (Yd_load Try.underlying24 rfl rfl (ldB hB11 rfl)) (RL_q rfl (Yd_len Try.underlying24 rfl) (RL_q rfl (Yd_lss rfl rfl) (RL_nil (X_then (?_))))))))))
        refine C_cond rfl (fun hb => ?_) (fun hb => ?_)
        · skip
          have hb : (i : Int) < x.n := of_decide_eq_true hb
          obtain rfl := hA10 (by omega)
          refine C_skip (X_then (C_seq (C_block (?_))))
          refine C_regionD (fun k => k = gC) (l := [(0, true), (1, true), (2, true), (3, true), (4, true), (5, true), (6, true), (8, true), (7, false), (9, true), (10, true), (11, false)]) (by kernel_rfl) (by kernel_rfl) rfl (by kernel_rfl) (fun _ _ d _ _ h => by cases d <;> exact h) ?_
          intro W20 he20 hh20
          replace hE := Ext.trans hE he20
          replace hB3 := hB3.ext he20
          replace hB7 := hB7.ext he20
          replace hB11 := hB11.ext he20
          replace h_a := h_a.ext he20
          replace h_x := h_x.ext he20
          replace hBk := hBk.ext he20
          have hs20 := he20.size
          refine RO_q rfl rfl (Yd_fld (off := 4) Try.underlying53 (by kernel_rfl) rfl) (RO_q rfl rfl (Yd_load Try.underlying24 rfl rfl (fun W hW => ldBK hB11 rfl hW (by intro e; have e : (_ : Nat) = _ := e; omega))) (RO_q rfl rfl (Yd_move rfl) (RO_q rfl rfl (Yd_fld (off := 4) Try.underlying53 (by kernel_rfl) rfl) (RO_q rfl rfl (Yd_load Try.underlying24 rfl rfl (fun W hW => ldBK hB11 rfl hW (by intro e; have e : (_ : Nat) = _ := e; omega))) (RO_q rfl rfl (Yd_move rfl) (RO_q rfl rfl (Yd_idxL Try.underlying24 (sz := 1) (by kernel_rfl) rfl rfl (by omega) (by omega)) (RO_q rfl rfl (Yd_move rfl) (RO_l rfl rfl (Ld_yd (Yd_load Try.underlying5 rfl rfl (fun W hW => by rw [hW, (hBk (by omega)).cell]; exact cell_at (cs := cs) (ys := ys) (i := i) (o := 0 + ((i : Nat) : Int).toNat * 1) (by omega) (by omega))) ?_)))))))))
          refine ⟨Kp.refl _ _, ?_⟩
          refine RO_q rfl rfl (Yd_xor rfl rfl rfl) (RO_q rfl rfl (Yd_idxL Try.underlying24 (sz := 1) (by kernel_rfl) rfl rfl (by omega) (by omega)) (RO_l0 rfl (Ld_store (by kernel_rfl) rfl rfl (hBk (by omega)) (by simp [ints, cellsL, Value.cells]; omega) (by simp [cellsL, Value.cells, Value.oneCell']) ?_)))
          intro W21 hu21 hz21 hN
          refine ⟨Kp.of_but hu21 rfl, ?_⟩
          replace hB3 := hB3.bt hu21 (by omega)
          replace hB7 := hB7.bt hu21 (by omega)
          replace hB11 := hB11.bt hu21 (by omega)
          replace h_a := h_a.bt hu21 (by omega)
          replace h_x := h_x.bt hu21 (by omega)
          replace hE := ext_but hE hu21 (by omega)
          rw [set_cells (i := i) (by omega) (by omega)] at hN
          refine RO_nil (X_block (X_then (C_region (RL_q rfl (Yd_move rfl) (RL_q rfl (Yd_add rfl rfl (i64w (by omega) (by omega))) (RL_q rfl (Yd_assign rfl) (RL_nil (?_))))))))
          refine X_again (i + 1) ⟨rfl, rfl, rfl, rfl, rfl, trivial⟩ ?_ (by first | omega | (dsimp only; omega))
          exact ⟨by omega, hB3, hB7, hB11, h_a, h_x, hE, _, ys, by simp [hcs], fun _ => hN⟩
        · skip
          have hb : ¬ (i : Int) < x.n := of_decide_eq_false hb
          refine C_exit (X_thenE (X_thenE (X_blockE (X_then (C_seq (?_))))))
          refine C_regionD (NoB) (l := [(0, true), (1, true), (2, false), (3, false), (4, true), (5, false), (6, true), (7, true)]) (by kernel_rfl) (by kernel_rfl) rfl (by kernel_rfl) (fun _ _ d _ _ h => by cases d <;> exact h) ?_
          intro W20 he20 hh20
          replace hE := Ext.trans hE he20
          replace hB3 := hB3.ext he20
          replace hB7 := hB7.ext he20
          replace hB11 := hB11.ext he20
          replace h_a := h_a.ext he20
          replace h_x := h_x.ext he20
          replace hBk := hBk.ext he20
          have hs20 := he20.size
          refine RO_q rfl rfl (Yd_loadA Try.underlying53 rfl (by kernel_rfl) rfl (fun W hW => (ldBA hB7) W hW.ext)) (RO_q rfl rfl (Yd_loadA Try.underlying53 rfl (by kernel_rfl) rfl (fun W hW => (ldBA hB3) W hW.ext)) (RO_l rfl rfl (Ld_call Try.func36 rfl (by kernel_rfl) rfl (refFew2_c a _ h_a) ?_)))
          rintro e W21 ⟨z, rfl, h_z, hzf, he21⟩
          refine ⟨_, rfl, ?_⟩
          refine ⟨Kp.of_ext he21, ?_⟩
          replace hE := Ext.trans hE he21
          replace hB3 := hB3.ext he21
          replace hB7 := hB7.ext he21
          replace hB11 := hB11.ext he21
          replace h_a := h_a.ext he21
          replace h_x := h_x.ext he21
          replace hBk := hBk.ext he21
          have hs21 := he21.size
          refine RO_l rfl rfl (Ld_call Try.func44 rfl (by kernel_rfl) rfl (refSame_c x z _ h_x h_z) ?_)
          rintro e W22 ⟨rfl, he22⟩
          refine ⟨_, rfl, ?_⟩
          refine ⟨Kp.of_ext he22, ?_⟩
          replace hE := Ext.trans hE he22
          replace hB3 := hB3.ext he22
          replace hB7 := hB7.ext he22
          replace hB11 := hB11.ext he22
          replace h_a := h_a.ext he22
          replace h_x := h_x.ext he22
          replace hBk := hBk.ext he22
          replace h_z := h_z.ext he22
          have hs22 := he22.size
          refine RO_q rfl rfl (Yd_move rfl) (?_)
          refine RO_is (d := 97) (b' := true) rfl (by simp [rSame, hxf.1, hxf.2.1, hxf.2.2.1, hxf.2.2.2.1, hxf.2.2.2.2, hzf.1, hzf.2.1, hzf.2.2.1, hzf.2.2.2.1, hzf.2.2.2.2]) ?_
          refine RO_gl rfl rfl rfl rfl (Ld_call Try.func40 rfl (by kernel_rfl) rfl (lives18_c _) ?_)
          rintro e W23 ⟨rfl, he23⟩
          refine ⟨_, rfl, ?_⟩
          refine ⟨Kp.of_ext he23, ?_⟩
          replace hE := Ext.trans hE he23
          replace hB3 := hB3.ext he23
          replace hB7 := hB7.ext he23
          replace hB11 := hB11.ext he23
          replace h_a := h_a.ext he23
          replace h_x := h_x.ext he23
          replace hBk := hBk.ext he23
          replace h_z := h_z.ext he23
          have hs23 := he23.size
          refine RO_q rfl rfl (Yd_pickT rfl rfl) (RO_q rfl rfl (Yd_assign rfl) (RO_nil (X_then (C_ret (X_ret1 rfl rfl ?_)))))
          exact ⟨rfl, hE⟩
end Go.Proofs.AL
