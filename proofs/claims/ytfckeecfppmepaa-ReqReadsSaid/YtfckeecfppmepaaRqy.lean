import Derived.Test.YtfckeecfppmepaaRqx
set_option linter.unusedVariables false
set_option linter.unusedSimpArgs false
namespace Go.Proofs.AL
open Go.RowKit

theorem X_retCCT {P : Program} {N : Nat} {E : Env} {w : World} {fn : Func} {R : Ending → World → Prop} {t t2 u : Tmp} {ty ty2 : TypeId} {d d2 : TypeDesc} {g g2 : Nat} {ti ti2 : TypeId} {cs cs2 : List Value} {x : Value} (hr : fn.results = #[.cell t ty, .cell t2 ty2, .tmp u]) (hv : lk E t = some (.pointer (some ⟨g, 0, none⟩))) (hv2 : lk E t2 = some (.pointer (some ⟨g2, 0, none⟩))) (hx : lk E u = some x)
    (hT : P.underlying ty = some d) (hd : isFlat d = false) (hn : (P.info? ty).map (·.size) = some cs.length) (hb : Blk w g ti cs) (hT2 : P.underlying ty2 = some d2) (hd2 : isFlat d2 = false) (hn2 : (P.info? ty2).map (·.size) = some cs2.length) (hb2 : Blk w g2 ti2 cs2) (h : R (.returned (.tuple #[.agg cs.toArray, .agg cs2.toArray, x])) w) : X N (bodyPost P fn R) .ret E w :=
  fun a ha => ⟨ha.defers, _, by
    have h1 := run_loadVarA (P := P) hT hd hn w (p := ⟨g, 0, none⟩) (fun j u hu => by rw [add_lit, Nat.zero_add, hb.cell]; exact hu)
    have h1' := run_loadVarA (P := P) hT2 hd2 hn2 w (p := ⟨g2, 0, none⟩) (fun j u hu => by rw [add_lit, Nat.zero_add, hb2.cell]; exact hu)
    have h2 : a.tmps.getD t undef = .pointer (some ⟨g, 0, none⟩) := ha.tmps t _ hv
    have h2' : a.tmps.getD t2 undef = .pointer (some ⟨g2, 0, none⟩) := ha.tmps t2 _ hv2
    have h3 : a.tmps.getD u undef = x := ha.tmps u _ hx
    simp only [Array.getD_eq_getD_getElem?] at h2 h2' h3
    simp [results, hr, h2, h2', h3, asAddr, h1, h1'], h⟩
theorem vw_more {w : World} {lo lo2 B n c : Nat} {A : Option Addr} {l : List Int} (h : Vw tU8 w lo B A n c l) (hl : lo2 ≤ lo) : Vw tU8 w lo2 B A n c l := ⟨⟨h.rw_.rd, h.rw_.cap, h.nil, fun ad e => Nat.le_trans hl (h.rw_.low ad e)⟩, h.max, h.ok⟩
theorem rqB_flat {s l op pg off n : Int} {d : List Int} : rqB s l op pg off n d = le8 s ++ (le8 l ++ (le8 op ++ (le8 pg ++ (le8 off ++ (le8 n ++ (text d ++ [])))))) := by simp [rqB, le8s]
theorem ldBS {w : World} {g : Nat} {t : TypeId} {cs : List Value} (h : Blk w g t cs) (o : Nat) (cs' : List Value) (hs : (cs.drop o).take cs'.length = cs') : ∀ W, Ext w W → ∀ j u, cs'[j]? = some u → W.cell? ((⟨g, o, none⟩ : Addr).add j) = some u := fun W hW j u hu => by
  rw [add_lit, (h.ext hW).cell]
  rw [← hs, List.getElem?_take] at hu
  split at hu
  · rwa [List.getElem?_drop] at hu
  · cases hu
theorem lrReadV {lo_b B_b : Nat} {A_b : Option Addr} {n_b c_b : Nat} {b : List Int} {w : World}  (h_b : Vw tU8 w lo_b B_b A_b n_b c_b b) (h6 : n_b ≤ 60000) :
    Calls Try.prog 23 #[.slice A_b n_b c_b] w fun e w' => ∃ g lim, e = .returned (.pointer (some ⟨g, 0, none⟩)) ∧ w.heap.size ≤ lim ∧ LR 75 w.heap.size lim w' g (some b) ∧ rGood (some b) ∧ Ext w w' :=
  Calls.mono (lrRead_c A_b n_b c_b b w h_b.u8 h_b.ln h_b.nil h6) fun e w' ⟨g, lim, h1, h2, h3, h4⟩ => ⟨g, lim, h1, h2, h3, ⟨h_b.byt, by rw [h_b.ln]; exact h6⟩, h4⟩
theorem ReadK {lo_b B_b : Nat} {A_b : Option Addr} {n_b c_b : Nat} {b : List Int} {w : World} {cs cl rop rpg roff rn : Int} {rd : List Int} (h_b : Vw tU8 w lo_b B_b A_b n_b c_b b) (hb : b = rqB cs cl rop rpg roff rn rd) (hbd : (-9223372036854775808 ≤ cs ∧ cs ≤ 9223372036854775807) ∧ (-9223372036854775808 ≤ cl ∧ cl ≤ 9223372036854775807) ∧ (-9223372036854775808 ≤ rop ∧ rop ≤ 9223372036854775807) ∧ (-9223372036854775808 ≤ rpg ∧ rpg ≤ 9223372036854775807) ∧ (-9223372036854775808 ≤ roff ∧ roff ≤ 9223372036854775807) ∧ (-9223372036854775808 ≤ rn ∧ rn ≤ 9223372036854775807)) (h32 : rd.length ≤ 32) (hyd : Byt rd) :
    Calls Try.prog 47 #[.slice A_b n_b c_b] w fun e w' => ∃ A, e = .returned (.tuple #[.agg #[.int .i64 cs, .int .i64 cl], .agg #[.int .i64 rop, .int .i64 rpg, .int .i64 roff, .int .i64 rn, .slice A rd.length rd.length], .int .i64 0]) ∧ Vw tU8 w' w.heap.size w'.heap.size A rd.length rd.length rd ∧ Ext w w' := by
  have hE := Ext.refl w
  replace h_b := h_b.fit
  have hn_b := h_b.ln
  have hc_b := h_b.cap
  have hm_b := h_b.max
  simp only [maxLen] at hm_b
  subst hb
  have hlb : 56 + rd.length = n_b := by have := hn_b; simp only [rqB, List.length_append, le8s_len, text_len, List.length_cons, List.length_nil] at this; omega
  refine calls_of (l := [.slice A_b n_b c_b]) (N := 36) Try.func47 rfl rfl rfl ?_
  refine C_seq (C_region (RL_l rfl (Ld_alloc (v := (.agg #[(.int .i64 0), (.int .i64 0)])) (by kernel_rfl) ?_)))
  have hg_2 := hE.size
  intro W1 he1 hz1 hB2
  replace hE := Ext.trans hE he1
  replace h_b := h_b.ext he1
  refine RL_l rfl (Ld_alloc (v := (.agg #[(.int .i64 0), (.int .i64 0), (.int .i64 0), (.int .i64 0), (.slice none 0 0)])) (by kernel_rfl) ?_)
  have hg_3 := hE.size
  intro W2 he2 hz2 hB3
  replace hE := Ext.trans hE he2
  replace h_b := h_b.ext he2
  replace hB2 := hB2.ext he2
  refine RL_q rfl (Yd_assign rfl) (RL_nil (X_then (C_seq (C_region (RL_q rfl (Yd_move rfl) (RL_l rfl (Ld_call Try.func23 rfl (by kernel_rfl) rfl (lrReadV h_b (by omega)) ?_)))))))
  rintro e W3 ⟨gr10, lim10, rfl, hlm10, hLR10, hGhLR10, he3⟩
  refine ⟨_, rfl, ?_⟩
  replace hE := Ext.trans hE he3
  replace h_b := h_b.ext he3
  replace hB2 := hB2.ext he3
  replace hB3 := hB3.ext he3
  have hs3 := he3.size
  have hlt10 := hLR10.lt
  have hlg10 := hLR10.lim
  rw [rqB_flat] at hLR10 hGhLR10
  refine RL_q rfl (Yd_assign rfl) (RL_nil (X_then (C_seq (C_region (RL_q rfl (Yd_move rfl) (RL_l rfl (Ld_call Try.func30 rfl (by kernel_rfl) rfl (lrIntK (x := cs) hLR10 hGhLR10 ⟨by omega, by omega⟩) ?_)))))))
  rintro e W4 ⟨rfl, hLR10n, hGhLR10n, hk4⟩
  refine ⟨_, rfl, ?_⟩
  have hs4 := hk4.size
  replace hE := Ext.kp hE hk4 (fun k hk => by first | omega | (have hk := hk; dsimp only at hk; omega))
  replace h_b := h_b.kp hk4 (fun k hk => by first | omega | (have hk := hk; dsimp only at hk; omega))
  replace hB2 := hB2.kp hk4 (fun hk => by first | omega | (have hk := hk; dsimp only at hk; omega))
  replace hB3 := hB3.kp hk4 (fun hk => by first | omega | (have hk := hk; dsimp only at hk; omega))
  replace hLR10 := hLR10n
  replace hGhLR10 := hGhLR10n
  refine RL_q rfl (Yd_move rfl) (RL_l rfl (Ld_call Try.func30 rfl (by kernel_rfl) rfl (lrIntK (x := cl) hLR10 hGhLR10 ⟨by omega, by omega⟩) ?_))
  rintro e W5 ⟨rfl, hLR10n, hGhLR10n, hk5⟩
  refine ⟨_, rfl, ?_⟩
  have hs5 := hk5.size
  replace hE := Ext.kp hE hk5 (fun k hk => by first | omega | (have hk := hk; dsimp only at hk; omega))
  replace h_b := h_b.kp hk5 (fun k hk => by first | omega | (have hk := hk; dsimp only at hk; omega))
  replace hB2 := hB2.kp hk5 (fun hk => by first | omega | (have hk := hk; dsimp only at hk; omega))
  replace hB3 := hB3.kp hk5 (fun hk => by first | omega | (have hk := hk; dsimp only at hk; omega))
  replace hLR10 := hLR10n
  replace hGhLR10 := hGhLR10n
  refine RL_q rfl (Yd_build Try.bld65 rfl rfl) (RL_l rfl (Ld_alloc (v := (.agg #[(.int .i64 0), (.int .i64 0)])) (by kernel_rfl) ?_))
  have hg_6 := hE.size
  intro W6 he6 hz6 hB6
  replace hE := Ext.trans hE he6
  replace h_b := h_b.ext he6
  replace hB2 := hB2.ext he6
  replace hB3 := hB3.ext he6
  replace hLR10 := LR.ext hLR10 he6
  refine RL_l0 (Ld_store (by kernel_rfl) rfl rfl hB6 (Nat.le_of_ble_eq_true rfl) (by simp [cellsL, Value.cells, Value.oneCell']) ?_)
  intro W7 hu7 hz7 hB6
  have hk7 := Kp.ofb hu7
  have hs7 := hk7.size
  replace hE := Ext.kp hE hk7 (fun k hk => by first | omega | (have hk := hk; dsimp only at hk; omega))
  replace h_b := h_b.kp hk7 (fun k hk => by first | omega | (have hk := hk; dsimp only at hk; omega))
  replace hB2 := hB2.kp hk7 (fun hk => by first | omega | (have hk := hk; dsimp only at hk; omega))
  replace hB3 := hB3.kp hk7 (fun hk => by first | omega | (have hk := hk; dsimp only at hk; omega))
  replace hLR10 := LR.kp hLR10 hk7 (fun hk => by first | omega | (have hk := hk; dsimp only at hk; omega)) (fun k hk => by first | omega | (have hk := hk; dsimp only at hk; omega))
  refine RL_nil (X_then (C_seq (C_region (RL_q rfl (Yd_move rfl) (RL_l rfl (Ld_call Try.func30 rfl (by kernel_rfl) rfl (lrIntK (x := rop) hLR10 hGhLR10 ⟨by omega, by omega⟩) ?_))))))
  rintro e W8 ⟨rfl, hLR10n, hGhLR10n, hk8⟩
  refine ⟨_, rfl, ?_⟩
  have hs8 := hk8.size
  replace hE := Ext.kp hE hk8 (fun k hk => by first | omega | (have hk := hk; dsimp only at hk; omega))
  replace h_b := h_b.kp hk8 (fun k hk => by first | omega | (have hk := hk; dsimp only at hk; omega))
  replace hB2 := hB2.kp hk8 (fun hk => by first | omega | (have hk := hk; dsimp only at hk; omega))
  replace hB3 := hB3.kp hk8 (fun hk => by first | omega | (have hk := hk; dsimp only at hk; omega))
  replace hB6 := hB6.kp hk8 (fun hk => by first | omega | (have hk := hk; dsimp only at hk; omega))
  replace hLR10 := hLR10n
  replace hGhLR10 := hGhLR10n
  refine RL_q rfl (Yd_move rfl) (RL_l rfl (Ld_call Try.func30 rfl (by kernel_rfl) rfl (lrIntK (x := rpg) hLR10 hGhLR10 ⟨by omega, by omega⟩) ?_))
  rintro e W9 ⟨rfl, hLR10n, hGhLR10n, hk9⟩
  refine ⟨_, rfl, ?_⟩
  have hs9 := hk9.size
  replace hE := Ext.kp hE hk9 (fun k hk => by first | omega | (have hk := hk; dsimp only at hk; omega))
  replace h_b := h_b.kp hk9 (fun k hk => by first | omega | (have hk := hk; dsimp only at hk; omega))
  replace hB2 := hB2.kp hk9 (fun hk => by first | omega | (have hk := hk; dsimp only at hk; omega))
  replace hB3 := hB3.kp hk9 (fun hk => by first | omega | (have hk := hk; dsimp only at hk; omega))
  replace hB6 := hB6.kp hk9 (fun hk => by first | omega | (have hk := hk; dsimp only at hk; omega))
  replace hLR10 := hLR10n
  replace hGhLR10 := hGhLR10n
  refine RL_q rfl (Yd_move rfl) (RL_l rfl (Ld_call Try.func30 rfl (by kernel_rfl) rfl (lrIntK (x := roff) hLR10 hGhLR10 ⟨by omega, by omega⟩) ?_))
  rintro e W10 ⟨rfl, hLR10n, hGhLR10n, hk10⟩
  refine ⟨_, rfl, ?_⟩
  have hs10 := hk10.size
  replace hE := Ext.kp hE hk10 (fun k hk => by first | omega | (have hk := hk; dsimp only at hk; omega))
  replace h_b := h_b.kp hk10 (fun k hk => by first | omega | (have hk := hk; dsimp only at hk; omega))
  replace hB2 := hB2.kp hk10 (fun hk => by first | omega | (have hk := hk; dsimp only at hk; omega))
  replace hB3 := hB3.kp hk10 (fun hk => by first | omega | (have hk := hk; dsimp only at hk; omega))
  replace hB6 := hB6.kp hk10 (fun hk => by first | omega | (have hk := hk; dsimp only at hk; omega))
  replace hLR10 := hLR10n
  replace hGhLR10 := hGhLR10n
  refine RL_q rfl (Yd_move rfl) (RL_l rfl (Ld_call Try.func30 rfl (by kernel_rfl) rfl (lrIntK (x := rn) hLR10 hGhLR10 ⟨by omega, by omega⟩) ?_))
  rintro e W11 ⟨rfl, hLR10n, hGhLR10n, hk11⟩
  refine ⟨_, rfl, ?_⟩
  have hs11 := hk11.size
  replace hE := Ext.kp hE hk11 (fun k hk => by first | omega | (have hk := hk; dsimp only at hk; omega))
  replace h_b := h_b.kp hk11 (fun k hk => by first | omega | (have hk := hk; dsimp only at hk; omega))
  replace hB2 := hB2.kp hk11 (fun hk => by first | omega | (have hk := hk; dsimp only at hk; omega))
  replace hB3 := hB3.kp hk11 (fun hk => by first | omega | (have hk := hk; dsimp only at hk; omega))
  replace hB6 := hB6.kp hk11 (fun hk => by first | omega | (have hk := hk; dsimp only at hk; omega))
  replace hLR10 := hLR10n
  replace hGhLR10 := hGhLR10n
  refine RL_q rfl (Yd_move rfl) (RL_l rfl (Ld_call Try.func31 rfl (by kernel_rfl) rfl (lrBytesK (d := rd) (rest := []) hLR10 hGhLR10 (by omega) (by omega) (by omega) hyd) ?_))
  rintro e W12 ⟨A25, rfl, hV25, hLR10n, hGhLR10n, hk12⟩
  refine ⟨_, rfl, ?_⟩
  have hs12 := hk12.size
  replace hE := Ext.kp hE hk12 (fun k hk => by first | omega | (have hk := hk; dsimp only at hk; omega))
  replace h_b := h_b.kp hk12 (fun k hk => by first | omega | (have hk := hk; dsimp only at hk; omega))
  replace hB2 := hB2.kp hk12 (fun hk => by first | omega | (have hk := hk; dsimp only at hk; omega))
  replace hB3 := hB3.kp hk12 (fun hk => by first | omega | (have hk := hk; dsimp only at hk; omega))
  replace hB6 := hB6.kp hk12 (fun hk => by first | omega | (have hk := hk; dsimp only at hk; omega))
  replace hLR10 := hLR10n
  replace hGhLR10 := hGhLR10n
  refine RL_q rfl (Yd_build Try.bld53 rfl rfl) (RL_l rfl (Ld_alloc (v := (.agg #[(.int .i64 0), (.int .i64 0), (.int .i64 0), (.int .i64 0), (.slice none 0 0)])) (by kernel_rfl) ?_))
  have hg_7 := hE.size
  intro W13 he13 hz13 hB7
  replace hE := Ext.trans hE he13
  replace h_b := h_b.ext he13
  replace hB2 := hB2.ext he13
  replace hB3 := hB3.ext he13
  replace hLR10 := LR.ext hLR10 he13
  replace hB6 := hB6.ext he13
  try replace hV25 := hV25.ext he13
  refine RL_l0 (Ld_store (by kernel_rfl) rfl rfl hB7 (Nat.le_of_ble_eq_true rfl) (by simp [cellsL, Value.cells, Value.oneCell']) ?_)
  intro W14 hu14 hz14 hB7
  have hk14 := Kp.ofb hu14
  have hs14 := hk14.size
  replace hE := Ext.kp hE hk14 (fun k hk => by first | omega | (have hk := hk; dsimp only at hk; omega))
  replace h_b := h_b.kp hk14 (fun k hk => by first | omega | (have hk := hk; dsimp only at hk; omega))
  replace hB2 := hB2.kp hk14 (fun hk => by first | omega | (have hk := hk; dsimp only at hk; omega))
  replace hB3 := hB3.kp hk14 (fun hk => by first | omega | (have hk := hk; dsimp only at hk; omega))
  replace hLR10 := LR.kp hLR10 hk14 (fun hk => by first | omega | (have hk := hk; dsimp only at hk; omega)) (fun k hk => by first | omega | (have hk := hk; dsimp only at hk; omega))
  replace hB6 := hB6.kp hk14 (fun hk => by first | omega | (have hk := hk; dsimp only at hk; omega))
  try replace hV25 := hV25.kp hk14 (fun k hk => by first | omega | (have hk := hk; dsimp only at hk; omega))
  refine RL_nil (X_then (C_seq (C_seq (C_region (RL_q rfl (Yd_move rfl) (RL_l rfl (Ld_call Try.func33 rfl (by kernel_rfl) rfl (lrEndK hLR10) ?_)))))))
  rintro e W15 ⟨rfl, rfl⟩
  refine ⟨_, rfl, ?_⟩
  refine RL_q rfl (Yd_assign rfl) (RL_nil (X_then (C_seq (C_region (RL_q rfl (Yd_move rfl) (RL_q rfl (Yd_neq rfl rfl) (RL_nil (X_then (C_no rfl rfl (C_skip (X_then (C_seq (?_)))))))))))))
  refine C_regionD (fun k => k = w.heap.size ∨ k = W1.heap.size) (l := [(0, true), (1, true), (2, false), (3, false), (4, true)]) (by kernel_rfl) (by kernel_rfl) rfl (by kernel_rfl) (fun _ _ d _ _ h => by cases d <;> exact h) ?_
  intro W16 he16 hh16
  replace hE := Ext.trans hE he16
  replace h_b := h_b.ext he16
  replace hB2 := hB2.ext he16
  replace hB3 := hB3.ext he16
  replace hLR10 := LR.ext hLR10 he16
  replace hB6 := hB6.ext he16
  try replace hV25 := hV25.ext he16
  replace hB7 := hB7.ext he16
  have hs16 := he16.size
  refine RO_q rfl rfl (Yd_loadA (cs := [.int .i64 cs, .int .i64 cl]) Try.underlying65 rfl (by kernel_rfl) rfl (fun W hW => ldBS (Blk.kp hB6 hW (fun hk => by first | omega | (have hk := hk; dsimp only at hk; omega))) 0 [.int .i64 cs, .int .i64 cl] rfl W (Ext.refl W))) (RO_q rfl rfl (Yd_loadA (cs := [.int .i64 rop, .int .i64 rpg, .int .i64 roff, .int .i64 rn, .slice A25 rd.length rd.length]) Try.underlying53 rfl (by kernel_rfl) rfl (fun W hW => ldBS (Blk.kp hB7 hW (fun hk => by first | omega | (have hk := hk; dsimp only at hk; omega))) 0 [.int .i64 rop, .int .i64 rpg, .int .i64 roff, .int .i64 rn, .slice A25 rd.length rd.length] rfl W (Ext.refl W))) (RO_l0 rfl (Ld_store (by kernel_rfl) rfl rfl hB2 (Nat.le_of_ble_eq_true rfl) (by simp [cellsL, Value.cells, Value.oneCell']) ?_)))
  intro W17 hu17 hz17 hB2
  refine ⟨Kp.of_but hu17 (by first | rfl | omega | (dsimp only; omega)), ?_⟩
  have hk17 := Kp.ofb hu17
  have hs17 := hk17.size
  replace hE := Ext.kp hE hk17 (fun k hk => by first | omega | (have hk := hk; dsimp only at hk; omega))
  replace h_b := h_b.kp hk17 (fun k hk => by first | omega | (have hk := hk; dsimp only at hk; omega))
  replace hB3 := hB3.kp hk17 (fun hk => by first | omega | (have hk := hk; dsimp only at hk; omega))
  replace hLR10 := LR.kp hLR10 hk17 (fun hk => by first | omega | (have hk := hk; dsimp only at hk; omega)) (fun k hk => by first | omega | (have hk := hk; dsimp only at hk; omega))
  replace hB6 := hB6.kp hk17 (fun hk => by first | omega | (have hk := hk; dsimp only at hk; omega))
  try replace hV25 := hV25.kp hk17 (fun k hk => by first | omega | (have hk := hk; dsimp only at hk; omega))
  replace hB7 := hB7.kp hk17 (fun hk => by first | omega | (have hk := hk; dsimp only at hk; omega))
  refine RO_l0 rfl (Ld_store (by kernel_rfl) rfl rfl hB3 (Nat.le_of_ble_eq_true rfl) (by simp [cellsL, Value.cells, Value.oneCell']) ?_)
  intro W18 hu18 hz18 hB3
  refine ⟨Kp.of_but hu18 (by first | rfl | omega | (dsimp only; omega)), ?_⟩
  have hk18 := Kp.ofb hu18
  have hs18 := hk18.size
  replace hE := Ext.kp hE hk18 (fun k hk => by first | omega | (have hk := hk; dsimp only at hk; omega))
  replace h_b := h_b.kp hk18 (fun k hk => by first | omega | (have hk := hk; dsimp only at hk; omega))
  replace hB2 := hB2.kp hk18 (fun hk => by first | omega | (have hk := hk; dsimp only at hk; omega))
  replace hLR10 := LR.kp hLR10 hk18 (fun hk => by first | omega | (have hk := hk; dsimp only at hk; omega)) (fun k hk => by first | omega | (have hk := hk; dsimp only at hk; omega))
  replace hB6 := hB6.kp hk18 (fun hk => by first | omega | (have hk := hk; dsimp only at hk; omega))
  try replace hV25 := hV25.kp hk18 (fun k hk => by first | omega | (have hk := hk; dsimp only at hk; omega))
  replace hB7 := hB7.kp hk18 (fun hk => by first | omega | (have hk := hk; dsimp only at hk; omega))
  refine RO_q rfl rfl (Yd_assign rfl) (RO_nil (X_then (C_ret (X_retCCT rfl rfl rfl rfl Try.underlying65 rfl (by kernel_rfl) hB2 Try.underlying53 rfl (by kernel_rfl) hB3 ?_))))
  exact ⟨_, rfl, vw_more hV25.fit (by omega), hE⟩
end Go.Proofs.AL
