import Derived.Test.YtfckeecfppmepaaReq3
import Derived.Test.YtfckeecfppmepaaShp
set_option linter.unusedVariables false
set_option linter.unusedSimpArgs false
namespace Go.Proofs.AL
open Go.RowKit

abbrev rqL (r : Rq) : List Value := [.int .i64 r.op, .int .i64 r.page, .int .i64 r.off, .int .i64 r.len, .slice r.A r.n r.c]
def rqs (l : List Rq) : List Value := (l.map rqL).flatten
theorem rqs_ld {w : World} {B n i j0 : Nat} {ad : Addr} {l : List Rq} (h : Rd w B 5 (some ad) n (rqs l)) (hi : i < l.length) (hn : 0 < n) (hj : j0 = i * 5) : ∀ W, Ext w W → ∀ j u, (rqL l[i])[j]? = some u → W.cell? ((ad.add j0).add j) = some u := fun W hW j u hu => by
  subst hj
  obtain ⟨ad', e, _, hc⟩ := (h.ext hW).cells hn
  injection e with e
  subst e
  have hj : j < 5 := by
    rcases Nat.lt_or_ge j 5 with h | h
    · exact h
    · rw [List.getElem?_eq_none (by simpa using h)] at hu; cases hu
  rw [add_add]
  refine hc _ _ ?_
  rw [rqs, flat_get (sz := 5) (l.map rqL) (fun r hr => by obtain ⟨q, _, rfl⟩ := List.mem_map.1 hr; rfl) i (by simpa using hi) j hj]
  simpa using hu
theorem ReqChecks_c {lo B : Nat} (r : Rq) (which pages : Int) (w : World) (h_r : RqAt w lo B r) (h1 : -9223372036854775808 ≤ which) (h2 : which ≤ 9223372036854775807) (h3 : -9223372036854775808 ≤ pages) (h4 : pages ≤ 9223372036854775807) :
    Calls Try.prog 9 #[.agg #[.int .i64 r.op, .int .i64 r.page, .int .i64 r.off, .int .i64 r.len, .slice r.A r.n r.c], .int .i64 which, .int .i64 pages] w fun e w' => e = .returned (.bool true) ∧ Ext w w' := by
  have hE := Ext.refl w
  replace h_r := h_r.fit
  refine calls_of (l := [.agg #[.int .i64 r.op, .int .i64 r.page, .int .i64 r.off, .int .i64 r.len, .slice r.A r.n r.c], .int .i64 which, .int .i64 pages]) (N := 64) Try.func9 rfl rfl rfl ?_
  refine C_seq (C_region (RL_l rfl (Ld_box rfl ?_)))
  have hg_3 := hE.size
  intro W1 he1 hz1 hB3
  replace hE := Ext.trans hE he1
  replace h_r := h_r.ext he1
  refine RL_q rfl (Yd_assign rfl) (RL_nil (X_then (C_seq (C_region (RL_q rfl (Yd_move rfl) (RL_l rfl (Ld_call Try.func14 rfl (by kernel_rfl) rfl (Around_c pages 6 _ h3 h4 (by omega) (by omega)) ?_)))))))
  rintro e W2 ⟨rfl, rfl⟩
  refine ⟨_, rfl, ?_⟩
  have ha := around_range pages (m := 6) (by omega)
  generalize around pages 6 = kk at ha ⊢
  refine RL_q rfl (Yd_add rfl rfl (i64w (by omega) (by omega))) (RL_q rfl (Yd_assign rfl) (RL_nil (X_then (C_seq (C_region (RL_q rfl (Yd_loadA Try.underlying53 rfl (by kernel_rfl) rfl (ldBA hB3)) (RL_q rfl (Yd_move rfl) (RL_l rfl (Ld_call Try.func35 rfl (by kernel_rfl) rfl (Good_c r (1 + kk) _ h_r (by omega) (by omega)) ?_)))))))))
  rintro e W3 ⟨gd, rfl, h_g, hgc, he3⟩
  refine ⟨_, rfl, ?_⟩
  replace hE := Ext.trans hE he3
  replace h_r := h_r.ext he3
  replace hB3 := hB3.ext he3
  have hs3 := he3.size
  refine RL_l rfl (Ld_alloc (v := (.agg #[(.int .i64 0), (.int .i64 0), (.int .i64 0), (.int .i64 0), (.slice none 0 0)])) (by kernel_rfl) ?_)
  have hg_8 := hE.size
  intro W4 he4 hz4 hB8
  replace hE := Ext.trans hE he4
  replace h_r := h_r.ext he4
  replace hB3 := hB3.ext he4
  replace h_g := h_g.ext he4
  refine RL_l0 (Ld_store (by kernel_rfl) rfl rfl hB8 (Nat.le_of_ble_eq_true rfl) (by simp [cellsL, Value.cells, Value.oneCell']) ?_)
  intro W5 hu5 hz5 hB8
  replace hE := ext_but hE hu5 hg_8
  replace h_r := h_r.bt hu5 (by omega)
  replace hB3 := hB3.bt hu5 (by omega)
  replace h_g := h_g.bt hu5 (by omega)
  refine RL_nil (X_then (C_seq (?_)))
  refine C_regionD (NoB) (l := [(0, true), (2, true), (3, true), (4, true), (5, true), (1, false), (6, false), (7, false), (8, true)]) (by kernel_rfl) (by kernel_rfl) rfl (by kernel_rfl) (fun _ _ d _ _ h => by cases d <;> exact h) ?_
  intro W6 he6 hh6
  replace hE := Ext.trans hE he6
  replace h_r := h_r.ext he6
  replace hB3 := hB3.ext he6
  replace h_g := h_g.ext he6
  replace hB8 := hB8.ext he6
  have hs6 := he6.size
  refine RO_q rfl rfl (Yd_loadA Try.underlying53 rfl (by kernel_rfl) rfl (fun W hW => (ldBA hB3) W hW.ext)) (RO_q rfl rfl (Yd_loadA Try.underlying53 rfl (by kernel_rfl) rfl (fun W hW => (ldBA hB8) W hW.ext)) (RO_q rfl rfl (Yd_loadA Try.underlying53 rfl (by kernel_rfl) rfl (fun W hW => (ldBA hB8) W hW.ext)) (RO_q rfl rfl (Yd_loadA Try.underlying53 rfl (by kernel_rfl) rfl (fun W hW => (ldBA hB3) W hW.ext)) (RO_q rfl rfl (Yd_move rfl) (RO_l rfl rfl (Ld_call Try.func36 rfl (by kernel_rfl) rfl (refFew_c r _ h_r) ?_))))))
  rintro e W7 ⟨A9, c9, rfl, h_f, he7⟩
  refine ⟨_, rfl, ?_⟩
  refine ⟨Kp.of_ext he7, ?_⟩
  replace hE := Ext.trans hE he7
  replace h_r := h_r.ext he7
  replace hB3 := hB3.ext he7
  replace h_g := h_g.ext he7
  replace hB8 := hB8.ext he7
  have hs7 := he7.size
  refine RO_l rfl rfl (Ld_call Try.func37 rfl (by kernel_rfl) rfl (odd_c gd r which _ h_g h_r h1 h2) ?_)
  rintro e W8 ⟨od, rfl, h_o, he8⟩
  refine ⟨_, rfl, ?_⟩
  refine ⟨Kp.of_ext he8, ?_⟩
  replace hE := Ext.trans hE he8
  replace h_r := h_r.ext he8
  replace hB3 := hB3.ext he8
  replace h_g := h_g.ext he8
  replace hB8 := hB8.ext he8
  replace h_f := h_f.ext he8
  have hs8 := he8.size
  refine RO_l rfl rfl (Ld_lit Try.underlying57 rfl (lit_flat Try.underlying57 Try.elt53 rfl rfl ⟨rfl, by decide⟩) ?_)
  intro W9 he9 hz9 hL24
  refine ⟨Kp.of_ext he9, ?_⟩
  replace hE := Ext.trans hE he9
  replace h_r := h_r.ext he9
  replace hB3 := hB3.ext he9
  replace h_g := h_g.ext he9
  replace hB8 := hB8.ext he9
  replace h_f := h_f.ext he9
  replace h_o := h_o.ext he9
  refine RO_q rfl rfl (Yd_assign rfl) (RO_nil (X_then (C_seq (C_seq (C_region (RL_q rfl (Yd_assign rfl) (RL_nil (X_then (C_block (?_))))))))))
  obtain ⟨qs, hqs⟩ : ∃ qs : List Rq, qs = [⟨r.op, r.page, r.off, r.len, A9, (few r.d 34).length, c9, few r.d 34⟩, gd, od] := ⟨_, rfl⟩
  have hAll : Rd W9 W9.heap.size 5 (some ⟨W8.heap.size, 0, none⟩) 3 (rqs qs) := by
    rw [hqs]
    exact hL24.rd (sz := 5) (n := 3) rfl
  have hqn : qs.length = 3 := by rw [hqs]; rfl
  have hq : ∀ q ∈ qs, RqAt W9 0 W9.heap.size q := fun q hq => by
    rw [hqs] at hq
    simp only [List.mem_cons, List.not_mem_nil, or_false] at hq
    rcases hq with rfl | rfl | rfl
    · exact h_f.more (Nat.zero_le _) (by omega)
    · exact h_g.more (Nat.zero_le _) (by omega)
    · exact h_o.more (Nat.zero_le _) (by omega)
  refine C_loop (T := Nat) (fun i => [(2, .int .i64 pages), (7, .int .i64 (1 + kk)), (8, .pointer (some ⟨W3.heap.size, 0, none⟩)), (9, .slice (some ⟨W8.heap.size, 0, none⟩) 3 3), (10, .int .i64 i)]) (fun i w1 => i ≤ 3 ∧ Ext W9 w1) (fun i => 3 - i) (0) ⟨rfl, rfl, rfl, rfl, rfl, trivial⟩ ?_ ?_
  · exact ⟨by omega, Ext.refl _⟩
  · rintro i w1 ⟨hi, hL⟩
    replace hE := Ext.trans hE hL
    replace hB8 := hB8.ext hL
    replace h_g := h_g.ext hL
    refine C_seq (C_seq (C_region (RL_q rfl (Yd_move rfl) (RL_q rfl (Yd_lss rfl rfl) (RL_nil (X_then (?_)))))))
    refine C_cond rfl (fun hb => ?_) (fun hb => ?_)
    · skip
      have hb : (i : Int) < 3 := of_decide_eq_true hb
      have hq1 := (hq _ (List.getElem_mem (show i < qs.length by omega))).ext hL
      refine C_skip (X_then (C_seq (C_block (C_seq (?_)))))
      refine C_regionD (NoB) (l := [(0, true), (1, true), (2, true), (3, true), (4, true), (6, true), (7, true), (8, true), (9, true), (10, true), (5, false), (11, false), (12, true), (13, true), (14, true), (15, true), (16, true), (17, true), (18, true), (20, true), (21, true), (22, true), (23, true), (24, true), (19, false), (25, false), (26, true), (27, true)]) (by kernel_rfl) (by kernel_rfl) rfl (by kernel_rfl) (fun _ _ d _ _ h => by cases d <;> exact h) ?_
      intro W10 he10 hh10
      replace hE := Ext.trans hE he10
      replace hL := Ext.trans hL he10
      replace hB8 := hB8.ext he10
      replace h_g := h_g.ext he10
      replace hq1 := hq1.ext he10
      have hs10 := he10.size
      refine RO_q rfl rfl (Yd_move rfl) (RO_q rfl rfl (Yd_move rfl) (RO_q rfl rfl (Yd_idx Try.underlying57 (sz := 5) (by kernel_rfl) rfl rfl (by omega) (by omega)) (RO_q rfl rfl (Yd_loadA Try.underlying53 rfl (by kernel_rfl) rfl (fun W hW => (rqs_ld (i := i) (j0 := ((i : Nat) : Int).toNat * 5) (hAll.ext hL) (by omega) (by omega) (by omega)) W hW.ext)) (RO_q rfl rfl (Yd_move rfl) (RO_q rfl rfl (Yd_move rfl) (RO_q rfl rfl (Yd_move rfl) (RO_q rfl rfl (Yd_idx Try.underlying57 (sz := 5) (by kernel_rfl) rfl rfl (by omega) (by omega)) (RO_q rfl rfl (Yd_loadA Try.underlying53 rfl (by kernel_rfl) rfl (fun W hW => (rqs_ld (i := i) (j0 := ((i : Nat) : Int).toNat * 5) (hAll.ext hL) (by omega) (by omega) (by omega)) W hW.ext)) (RO_q rfl rfl (Yd_move rfl) (RO_l rfl rfl (Ld_call Try.func38 rfl (by kernel_rfl) rfl (Check_c qs[i] _ _ hq1) ?_)))))))))))
      rintro e W11 ⟨rfl, he11⟩
      refine ⟨_, rfl, ?_⟩
      refine ⟨Kp.of_ext he11, ?_⟩
      replace hE := Ext.trans hE he11
      replace hL := Ext.trans hL he11
      replace hB8 := hB8.ext he11
      replace h_g := h_g.ext he11
      replace hq1 := hq1.ext he11
      have hs11 := he11.size
      refine RO_l rfl rfl (Ld_call Try.func39 rfl (by kernel_rfl) rfl (refCheck_c qs[i] _ _ hq1) ?_)
      rintro e W12 ⟨rfl, he12⟩
      refine ⟨_, rfl, ?_⟩
      refine ⟨Kp.of_ext he12, ?_⟩
      replace hE := Ext.trans hE he12
      replace hL := Ext.trans hL he12
      replace hB8 := hB8.ext he12
      replace h_g := h_g.ext he12
      replace hq1 := hq1.ext he12
      have hs12 := he12.size
      refine RO_q rfl rfl (Yd_neq rfl rfl) (RO_q rfl rfl (Yd_move rfl) (?_))
      refine RO_is (d := 42) (b' := false) rfl (by simp) ?_
      refine RO_gq rfl rfl rfl rfl (Yd_move rfl) (RO_gq rfl rfl rfl rfl (Yd_move rfl) (RO_gq rfl rfl rfl rfl (Yd_idx Try.underlying57 (sz := 5) (by kernel_rfl) rfl rfl (by omega) (by omega)) (RO_gq rfl rfl rfl rfl (Yd_loadA Try.underlying53 rfl (by kernel_rfl) rfl (fun W hW => (rqs_ld (i := i) (j0 := ((i : Nat) : Int).toNat * 5) (hAll.ext hL) (by omega) (by omega) (by omega)) W hW.ext)) (RO_gq rfl rfl rfl rfl (Yd_move rfl) (RO_gq rfl rfl rfl rfl (Yd_move rfl) (RO_gq rfl rfl rfl rfl (Yd_move rfl) (RO_gq rfl rfl rfl rfl (Yd_idx Try.underlying57 (sz := 5) (by kernel_rfl) rfl rfl (by omega) (by omega)) (RO_gq rfl rfl rfl rfl (Yd_loadA Try.underlying53 rfl (by kernel_rfl) rfl (fun W hW => (rqs_ld (i := i) (j0 := ((i : Nat) : Int).toNat * 5) (hAll.ext hL) (by omega) (by omega) (by omega)) W hW.ext)) (RO_gq rfl rfl rfl rfl (Yd_move rfl) (RO_gl rfl rfl rfl rfl (Ld_call Try.func38 rfl (by kernel_rfl) rfl (Check_c qs[i] _ _ hq1) ?_)))))))))))
      rintro e W13 ⟨rfl, he13⟩
      refine ⟨_, rfl, ?_⟩
      refine ⟨Kp.of_ext he13, ?_⟩
      replace hE := Ext.trans hE he13
      replace hL := Ext.trans hL he13
      replace hB8 := hB8.ext he13
      replace h_g := h_g.ext he13
      replace hq1 := hq1.ext he13
      have hs13 := he13.size
      refine RO_gl rfl rfl rfl rfl (Ld_call Try.func39 rfl (by kernel_rfl) rfl (refCheck_c qs[i] _ _ hq1) ?_)
      rintro e W14 ⟨rfl, he14⟩
      refine ⟨_, rfl, ?_⟩
      refine ⟨Kp.of_ext he14, ?_⟩
      replace hE := Ext.trans hE he14
      replace hL := Ext.trans hL he14
      replace hB8 := hB8.ext he14
      replace h_g := h_g.ext he14
      replace hq1 := hq1.ext he14
      have hs14 := he14.size
      refine RO_gq rfl rfl rfl rfl (Yd_neq rfl rfl) (RO_q rfl rfl (Yd_pickF rfl rfl) (RO_nil (X_then (?_))))
      refine C_no rfl (by simp) (C_skip (X_block (X_then (C_region (RL_q rfl (Yd_move rfl) (RL_q rfl (Yd_add rfl rfl (i64w (by omega) (by omega))) (RL_q rfl (Yd_assign rfl) (RL_nil (?_)))))))))
      refine X_again (i + 1) ⟨rfl, rfl, rfl, rfl, rfl, trivial⟩ ?_ (by first | omega | (dsimp only; omega))
      exact ⟨by omega, hL⟩
    · skip
      have hb : ¬ (i : Int) < 3 := of_decide_eq_false hb
      refine C_exit (X_thenE (X_thenE (X_blockE (X_then (C_seq (C_region (RL_q rfl (Yd_loadA Try.underlying53 rfl (by kernel_rfl) rfl (ldBA hB8)) (RL_q rfl (Yd_move rfl) (RL_l rfl (Ld_call Try.func38 rfl (by kernel_rfl) rfl (Check_c gd (1 + kk) _ h_g) ?_))))))))))
      rintro e W10 ⟨rfl, he10⟩
      refine ⟨_, rfl, ?_⟩
      replace hE := Ext.trans hE he10
      replace hL := Ext.trans hL he10
      replace hB8 := hB8.ext he10
      replace h_g := h_g.ext he10
      have hs10 := he10.size
      rw [hgc]
      refine RL_q rfl (Yd_eql rfl rfl) (RL_q rfl (Yd_move rfl) (?_))
      refine RL_is (d := 61) (b' := true) rfl (rfl) ?_
      refine RL_gl rfl rfl rfl (Ld_call Try.func40 rfl (by kernel_rfl) rfl (lives18_c _) ?_)
      rintro e W11 ⟨rfl, he11⟩
      refine ⟨_, rfl, ?_⟩
      replace hE := Ext.trans hE he11
      replace hL := Ext.trans hL he11
      replace hB8 := hB8.ext he11
      replace h_g := h_g.ext he11
      have hs11 := he11.size
      refine RL_q rfl (Yd_pickT rfl rfl) (RL_q rfl (Yd_assign rfl) (RL_nil (X_then (C_ret (X_ret1 rfl rfl ?_)))))
      exact ⟨rfl, hE⟩
end Go.Proofs.AL
