import Derived.Test.YtfckeecfppmepaaSeq
set_option linter.unusedVariables false
set_option linter.unusedSimpArgs false
namespace Go.Proofs.AL
open Go.RowKit

def rqB (s l : Int) (op pg off n : Int) (d : List Int) : List Int := le8s [s, l, op, pg, off, n] ++ text d

theorem rq_next {l : List Int} {k : Nat} {x : Int} (hx : l[k]? = some x) : le8s (l.take k) ++ le8 x = le8s (l.take (k + 1)) := by
  obtain ⟨hk, e⟩ := List.getElem?_eq_some_iff.1 hx
  rw [List.take_succ_eq_append_getElem hk, e, le8s_append]; simp [le8s]
@[simp] theorem text_len (s : List Int) : (text s).length = 8 + s.length := by simp [text]
theorem IntsV {lo_b B_b : Nat} {A_b : Option Addr} {n_b c_b : Nat} {b : List Int} {lo_l B_l : Nat} {A_l : Option Addr} {n_l c_l : Nat} {l : List Int} {w : World}  (h_b : Vw tU8 w lo_b B_b A_b n_b c_b b) (h_l : Vw tI64 w lo_l B_l A_l n_l c_l l) (hn : 0 < n_l) (h6 : n_b + 8 * n_l ≤ 65536) :
    Calls Try.prog 15 #[.slice A_b n_b c_b, .slice A_l n_l c_l] w fun e w' => ∃ (A0 : Option Addr) (n0 c0 : Nat), e = .returned (.slice A0 n0 c0) ∧ Ow tU8 5 w' w.heap.size w'.heap.size A0 n0 c0 (b ++ le8s l) ∧ Ext w w' :=
  Calls.mono (layInts_c A_b A_l n_b c_b n_l c_l b l w h_b.u8 h_b.ln h_b.cap h_b.nil (by have h := h_l.rd; rwa [cells_ints] at h) h_l.ln h6) fun e w' ⟨A, c, h1, _, h3, h4, h5, h7⟩ => ⟨A, _, c, h1, ow_u8 (h5 hn) (h_b.byt.append (le8s_byt l)), h7⟩
theorem BytesV {lo_b B_b : Nat} {A_b : Option Addr} {n_b c_b : Nat} {b : List Int} {lo_d B_d : Nat} {A_d : Option Addr} {n_d c_d : Nat} {d : List Int} {w : World}  (h_b : Vw tU8 w lo_b B_b A_b n_b c_b b) (h_d : Vw tU8 w lo_d B_d A_d n_d c_d d) (h6 : n_b + 8 + n_d ≤ 60000) :
    Calls Try.prog 19 #[.slice A_b n_b c_b, .slice A_d n_d c_d] w fun e w' => ∃ (A0 : Option Addr) (n0 c0 : Nat), e = .returned (.slice A0 n0 c0) ∧ Ow tU8 5 w' w.heap.size w'.heap.size A0 n0 c0 (b ++ text d) ∧ Ext w w' :=
  Calls.mono (layBytes_c A_b A_d n_b c_b n_d c_d b d w h_b.u8 h_b.ln h_b.cap h_b.nil h_d.u8 h_d.ln h_d.nil h6) fun e w' ⟨A, c, h1, h2, h3⟩ => ⟨A, _, c, h1, ow_u8 h2 (h_b.byt.append ((le8_byt _).append h_d.byt)), h3⟩
theorem refIntV {n : Int} {w : World}  (b_n : -9223372036854775808 ≤ n ∧ n ≤ 9223372036854775807) :
    Calls Try.prog 20 #[.int .i64 n] w fun e w' => ∃ (A0 : Option Addr) (n0 c0 : Nat), e = .returned (.slice A0 n0 c0) ∧ Ow tU8 5 w' w.heap.size w'.heap.size A0 n0 c0 (le8 n) ∧ Ext w w' :=
  Calls.mono (refInt_c n w) fun e w' ⟨A, c, h1, h2, h3⟩ => ⟨A, _, c, h1, ow_u8 h2 (le8_byt n), h3⟩
theorem refBytesV {lo_d B_d : Nat} {A_d : Option Addr} {n_d c_d : Nat} {d : List Int} {w : World}  (h_d : Vw tU8 w lo_d B_d A_d n_d c_d d) (h6 : n_d ≤ 60000) :
    Calls Try.prog 22 #[.slice A_d n_d c_d] w fun e w' => ∃ (A0 : Option Addr) (n0 c0 : Nat), e = .returned (.slice A0 n0 c0) ∧ Ow tU8 5 w' w.heap.size w'.heap.size A0 n0 c0 (text d) ∧ Ext w w' :=
  Calls.mono (refBytes_c A_d n_d c_d d w h_d.u8 h_d.ln h_d.nil h6) fun e w' ⟨A, c, h1, h2, h3⟩ => ⟨A, _, c, h1, ow_u8 h2 ((le8_byt _).append h_d.byt), h3⟩
theorem WriteV {cs cl : Int} {rop rpg roff rn : Int} {lo_rd B_rd : Nat} {A_rd : Option Addr} {n_rd c_rd : Nat} {rd : List Int} {w : World}  (b_c : (-9223372036854775808 ≤ cs ∧ cs ≤ 9223372036854775807) ∧ (-9223372036854775808 ≤ cl ∧ cl ≤ 9223372036854775807)) (h_rd : Vw tU8 w lo_rd B_rd A_rd n_rd c_rd rd) (b_r : (-9223372036854775808 ≤ rop ∧ rop ≤ 9223372036854775807) ∧ (-9223372036854775808 ≤ rpg ∧ rpg ≤ 9223372036854775807) ∧ (-9223372036854775808 ≤ roff ∧ roff ≤ 9223372036854775807) ∧ (-9223372036854775808 ≤ rn ∧ rn ≤ 9223372036854775807)) (h6 : n_rd ≤ 50000) :
    Calls Try.prog 49 #[.agg #[.int .i64 cs, .int .i64 cl], .agg #[.int .i64 rop, .int .i64 rpg, .int .i64 roff, .int .i64 rn, .slice A_rd n_rd c_rd]] w fun e w' => ∃ (A0 : Option Addr) (n0 c0 : Nat), e = .returned (.slice A0 n0 c0) ∧ Ow tU8 5 w' w.heap.size w'.heap.size A0 n0 c0 (rqB cs cl rop rpg roff rn rd) ∧ Ext w w' := by
  have hE := Ext.refl w
  replace h_rd := h_rd.fit
  have hn_rd := h_rd.ln
  have hc_rd := h_rd.cap
  have hm_rd := h_rd.max
  simp only [maxLen] at hm_rd
  refine calls_of (l := [.agg #[.int .i64 cs, .int .i64 cl], .agg #[.int .i64 rop, .int .i64 rpg, .int .i64 roff, .int .i64 rn, .slice A_rd n_rd c_rd]]) (N := 22) Try.func49 rfl rfl rfl ?_
  refine C_seq (C_region (RL_l rfl (Ld_box rfl ?_)))
  have hg_2 := hE.size
  intro W1 he1 hz1 hB2
  replace hE := Ext.trans hE he1
  replace h_rd := h_rd.ext he1
  refine RL_l rfl (Ld_box rfl ?_)
  have hg_3 := hE.size
  intro W2 he2 hz2 hB3
  replace hE := Ext.trans hE he2
  replace h_rd := h_rd.ext he2
  replace hB2 := hB2.ext he2
  refine RL_q rfl (Yd_assign rfl) (RL_nil (X_then (C_seq (?_))))
  refine C_regionD (NoB) (l := [(0, true), (1, true), (2, true), (3, true), (4, true), (5, true), (6, true), (7, true), (8, true), (9, true), (10, true), (11, true), (14, true), (15, true), (12, false), (13, false), (16, false), (17, true)]) (by kernel_rfl) (by kernel_rfl) rfl (by kernel_rfl) (fun _ _ d _ _ h => by cases d <;> exact h) ?_
  intro W3 he3 hh3
  replace hE := Ext.trans hE he3
  replace h_rd := h_rd.ext he3
  replace hB2 := hB2.ext he3
  replace hB3 := hB3.ext he3
  have hs3 := he3.size
  refine RO_q rfl rfl (Yd_fld (off := 0) Try.underlying65 (by kernel_rfl) rfl) (RO_q rfl rfl (Yd_load Try.underlying3 rfl rfl (fun W hW => (ldB hB2 rfl) W hW.ext)) (RO_q rfl rfl (Yd_fld (off := 1) Try.underlying65 (by kernel_rfl) rfl) (RO_q rfl rfl (Yd_load Try.underlying3 rfl rfl (fun W hW => (ldB hB2 rfl) W hW.ext)) (RO_q rfl rfl (Yd_fld (off := 0) Try.underlying53 (by kernel_rfl) rfl) (RO_q rfl rfl (Yd_load Try.underlying3 rfl rfl (fun W hW => (ldB hB3 rfl) W hW.ext)) (RO_q rfl rfl (Yd_fld (off := 1) Try.underlying53 (by kernel_rfl) rfl) (RO_q rfl rfl (Yd_load Try.underlying3 rfl rfl (fun W hW => (ldB hB3 rfl) W hW.ext)) (RO_q rfl rfl (Yd_fld (off := 2) Try.underlying53 (by kernel_rfl) rfl) (RO_q rfl rfl (Yd_load Try.underlying3 rfl rfl (fun W hW => (ldB hB3 rfl) W hW.ext)) (RO_q rfl rfl (Yd_fld (off := 3) Try.underlying53 (by kernel_rfl) rfl) (RO_q rfl rfl (Yd_load Try.underlying3 rfl rfl (fun W hW => (ldB hB3 rfl) W hW.ext)) (RO_q rfl rfl (Yd_fld (off := 4) Try.underlying53 (by kernel_rfl) rfl) (RO_q rfl rfl (Yd_load Try.underlying24 rfl rfl (fun W hW => (ldB hB3 rfl) W hW.ext)) (RO_l rfl rfl (Ld_lit Try.underlying22 rfl (lit_flat Try.underlying22 Try.elt3 rfl rfl ⟨rfl, by decide⟩) ?_)))))))))))))))
  intro W4 he4 hz4 hL17
  refine ⟨Kp.of_ext he4, ?_⟩
  replace hE := Ext.trans hE he4
  replace h_rd := h_rd.ext he4
  replace hB2 := hB2.ext he4
  replace hB3 := hB3.ext he4
  have hO17 := Ow.of_blk (T := tI64) (l := [cs, cl, rop, rpg, roff, rn]) hL17 rfl (n := 6) rfl (by simp [maxLen]) (okc ⟨by omega, by omega⟩ (okc ⟨by omega, by omega⟩ (okc ⟨by omega, by omega⟩ (okc ⟨by omega, by omega⟩ (okc ⟨by omega, by omega⟩ (okc ⟨by omega, by omega⟩ okn))))))
  clear hL17
  refine RO_l rfl rfl (Ld_call Try.func15 rfl (by kernel_rfl) rfl (IntsV (Vw.none_ (lo := 0) (B := 0)) hO17.vw (by omega) (by omega)) ?_)
  rintro e W5 ⟨A18, n18, c18, rfl, hF18, he5⟩
  refine ⟨_, rfl, ?_⟩
  refine ⟨Kp.of_ext he5, ?_⟩
  replace hE := Ext.trans hE he5
  replace h_rd := h_rd.ext he5
  replace hB2 := hB2.ext he5
  replace hB3 := hB3.ext he5
  replace hO17 := hO17.ext he5
  have hs5 := he5.size
  have hn18 := hF18.ln
  try simp only [List.length_append, List.length_cons, List.length_nil, List.length_set, List.length_take, List.length_drop, List.length_replicate, List.length_map, Nat.zero_add, Nat.add_zero, le8s_len, le8_len, text_len] at hn18
  have hc18 := hF18.cap
  refine RO_l rfl rfl (Ld_call Try.func19 rfl (by kernel_rfl) rfl (BytesV hF18.vw h_rd (by omega)) ?_)
  rintro e W6 ⟨A21, n21, c21, rfl, hF21, he6⟩
  refine ⟨_, rfl, ?_⟩
  refine ⟨Kp.of_ext he6, ?_⟩
  replace hE := Ext.trans hE he6
  replace h_rd := h_rd.ext he6
  replace hB2 := hB2.ext he6
  replace hB3 := hB3.ext he6
  replace hO17 := hO17.ext he6
  replace hF18 := hF18.ext he6
  have hs6 := he6.size
  have hn21 := hF21.ln
  try simp only [List.length_append, List.length_cons, List.length_nil, List.length_set, List.length_take, List.length_drop, List.length_replicate, List.length_map, Nat.zero_add, Nat.add_zero, le8s_len, le8_len, text_len] at hn21
  have hc21 := hF21.cap
  refine RO_q rfl rfl (Yd_assign rfl) (RO_nil (X_then (C_ret (X_ret1 rfl rfl ?_))))
  refine ⟨_, _, _, rfl, (hF21.fit.more (by omega) (Nat.le_refl _)).cast ?_, hE⟩
  all_goals (rfl)
theorem rBytesV {cs cl : Int} {rop rpg roff rn : Int} {lo_rd B_rd : Nat} {A_rd : Option Addr} {n_rd c_rd : Nat} {rd : List Int} {w : World}  (b_c : (-9223372036854775808 ≤ cs ∧ cs ≤ 9223372036854775807) ∧ (-9223372036854775808 ≤ cl ∧ cl ≤ 9223372036854775807)) (h_rd : Vw tU8 w lo_rd B_rd A_rd n_rd c_rd rd) (b_r : (-9223372036854775808 ≤ rop ∧ rop ≤ 9223372036854775807) ∧ (-9223372036854775808 ≤ rpg ∧ rpg ≤ 9223372036854775807) ∧ (-9223372036854775808 ≤ roff ∧ roff ≤ 9223372036854775807) ∧ (-9223372036854775808 ≤ rn ∧ rn ≤ 9223372036854775807)) (h6 : n_rd ≤ 50000) :
    Calls Try.prog 46 #[.agg #[.int .i64 cs, .int .i64 cl], .agg #[.int .i64 rop, .int .i64 rpg, .int .i64 roff, .int .i64 rn, .slice A_rd n_rd c_rd]] w fun e w' => ∃ (A0 : Option Addr) (n0 c0 : Nat), e = .returned (.slice A0 n0 c0) ∧ Ow tU8 5 w' w.heap.size w'.heap.size A0 n0 c0 (rqB cs cl rop rpg roff rn rd) ∧ Ext w w' := by
  have hE := Ext.refl w
  replace h_rd := h_rd.fit
  have hn_rd := h_rd.ln
  have hc_rd := h_rd.cap
  have hm_rd := h_rd.max
  simp only [maxLen] at hm_rd
  refine calls_of (l := [.agg #[.int .i64 cs, .int .i64 cl], .agg #[.int .i64 rop, .int .i64 rpg, .int .i64 roff, .int .i64 rn, .slice A_rd n_rd c_rd]]) (N := 37) Try.func46 rfl rfl rfl ?_
  refine C_seq (C_region (RL_l rfl (Ld_box rfl ?_)))
  have hg_2 := hE.size
  intro W1 he1 hz1 hB2
  replace hE := Ext.trans hE he1
  replace h_rd := h_rd.ext he1
  refine RL_l rfl (Ld_box rfl ?_)
  have hg_3 := hE.size
  intro W2 he2 hz2 hB3
  replace hE := Ext.trans hE he2
  replace h_rd := h_rd.ext he2
  replace hB2 := hB2.ext he2
  refine RL_q rfl (Yd_assign rfl) (RL_nil (X_then (C_seq (C_region (RL_q rfl (Yd_fld (off := 0) Try.underlying65 (by kernel_rfl) rfl) (RL_q rfl (Yd_load Try.underlying3 rfl rfl (ldB hB2 rfl)) (RL_q rfl (Yd_fld (off := 1) Try.underlying65 (by kernel_rfl) rfl) (RL_q rfl (Yd_load Try.underlying3 rfl rfl (ldB hB2 rfl)) (RL_q rfl (Yd_fld (off := 0) Try.underlying53 (by kernel_rfl) rfl) (RL_q rfl (Yd_load Try.underlying3 rfl rfl (ldB hB3 rfl)) (RL_q rfl (Yd_fld (off := 1) Try.underlying53 (by kernel_rfl) rfl) (RL_q rfl (Yd_load Try.underlying3 rfl rfl (ldB hB3 rfl)) (RL_q rfl (Yd_fld (off := 2) Try.underlying53 (by kernel_rfl) rfl) (RL_q rfl (Yd_load Try.underlying3 rfl rfl (ldB hB3 rfl)) (RL_q rfl (Yd_fld (off := 3) Try.underlying53 (by kernel_rfl) rfl) (RL_q rfl (Yd_load Try.underlying3 rfl rfl (ldB hB3 rfl)) (RL_l rfl (Ld_lit Try.underlying22 rfl (lit_flat Try.underlying22 Try.elt3 rfl rfl ⟨rfl, by decide⟩) ?_))))))))))))))))))
  intro W3 he3 hz3 hL20
  replace hE := Ext.trans hE he3
  replace h_rd := h_rd.ext he3
  replace hB2 := hB2.ext he3
  replace hB3 := hB3.ext he3
  have hO20 := Ow.of_blk (T := tI64) (l := [cs, cl, rop, rpg, roff, rn]) hL20 rfl (n := 6) rfl (by simp [maxLen]) (okc ⟨by omega, by omega⟩ (okc ⟨by omega, by omega⟩ (okc ⟨by omega, by omega⟩ (okc ⟨by omega, by omega⟩ (okc ⟨by omega, by omega⟩ (okc ⟨by omega, by omega⟩ okn))))))
  clear hL20
  refine RL_q rfl (Yd_assign rfl) (RL_nil (X_then (C_seq (C_region (RL_q rfl (Yd_assign rfl) (RL_nil (X_then (C_seq (C_seq (C_region (RL_q rfl (Yd_assign rfl) (RL_nil (X_then (C_block (?_)))))))))))))))
  refine C_loop (T := Nat × Option Addr × Nat × Nat) (fun ⟨k, lA6, ln6, lc6⟩ => [(3, .pointer (some ⟨W1.heap.size, 0, none⟩)), (4, .slice none 0 0), (5, .slice (some ⟨W2.heap.size, 0, none⟩) 6 6), (6, .slice lA6 ln6 lc6), (7, .int .i64 (k : Int))]) (fun ⟨k, lA6, ln6, lc6⟩ lw3 => Ow tU8 5 lw3 W3.heap.size lw3.heap.size lA6 ln6 lc6 (le8s ([cs, cl, rop, rpg, roff, rn].take k)) ∧ (k ≤ 6) ∧ Ext W3 lw3) (fun ⟨k, lA6, ln6, lc6⟩ => 6 - k) (⟨0, none, 0, 0⟩) ⟨rfl, rfl, rfl, rfl, rfl, trivial⟩ ?_ ?_
  · refine ⟨(Ow.nil (lo := W3.heap.size)).cast ?_, ?_, Ext.refl _⟩
    all_goals (try dsimp only)
    all_goals (first | omega | rfl)
  · rintro ⟨k, lA6, ln6, lc6⟩ lw3 ⟨hR6, hi3_0, hL3⟩
    replace hE := Ext.trans hE hL3
    replace h_rd := h_rd.ext hL3
    replace hB2 := hB2.ext hL3
    replace hB3 := hB3.ext hL3
    replace hO20 := hO20.ext hL3
    have hsL3 := hL3.size
    have hnhR6 := hR6.ln
    try simp only [List.length_append, List.length_cons, List.length_nil, List.length_set, List.length_take, List.length_drop, List.length_replicate, List.length_map, Nat.zero_add, Nat.add_zero, le8s_len, le8_len, text_len] at hnhR6
    have hchR6 := hR6.cap
    refine C_seq (C_seq (C_region (RL_q rfl (Yd_move rfl) (RL_q rfl (Yd_lss rfl rfl) (RL_nil (X_then (?_)))))))
    refine C_cond rfl (fun hb22 => ?_) (fun hb22 => ?_)
    · skip
      try simp only [decide_eq_true_eq, decide_eq_false_iff_not, Bool.not_eq_true', Bool.not_eq_false', Decidable.not_not, Int.not_lt, Int.not_le, Bool.or_eq_true, Bool.and_eq_true, Bool.or_eq_false_iff, Bool.and_eq_false_iff] at hb22
      refine C_skip (X_then (C_seq (C_block (C_region (RL_q rfl (Yd_move rfl) (RL_q rfl (Yd_move rfl) (RL_q rfl (Yd_move rfl) (RL_q rfl (Yd_idxL Try.underlying22 (sz := 1) (by kernel_rfl) rfl rfl (by omega) (by omega)) (?_)))))))))
      obtain ⟨x1, hx1, gx1⟩ := Vw.elem (i := k) hO20.vw (by omega)
      replace gx1 : -9223372036854775808 ≤ x1 ∧ x1 ≤ 9223372036854775807 := gx1
      refine RL_q rfl (Yd_load Try.underlying3 rfl rfl (Vw.lq1L hO20.vw hx1 rfl rfl)) (RL_l rfl (Ld_call Try.func20 rfl (by kernel_rfl) rfl (refIntV ⟨by first | omega | (dsimp only; omega), by first | omega | (dsimp only; omega)⟩) ?_))
      rintro e W4 ⟨A30, n30, c30, rfl, hF30, he4⟩
      refine ⟨_, rfl, ?_⟩
      replace hE := Ext.trans hE he4
      replace h_rd := h_rd.ext he4
      replace hB2 := hB2.ext he4
      replace hB3 := hB3.ext he4
      replace hO20 := hO20.ext he4
      replace hR6 := hR6.ext he4
      replace hL3 := Ext.trans hL3 he4
      have hs4 := he4.size
      have hn30 := hF30.ln
      try simp only [List.length_append, List.length_cons, List.length_nil, List.length_set, List.length_take, List.length_drop, List.length_replicate, List.length_map, Nat.zero_add, Nat.add_zero, le8s_len, le8_len, text_len] at hn30
      have hc30 := hF30.cap
      refine RL_l rfl (Ld_apO (T := tU8) Try.underlying24 Try.elt5 rfl rfl rfl hR6 hF30.vw (by simp only [maxLen]; omega) (by omega) (by omega) ?_)
      intro A31 c31 W5 hO31 hk5
      have hs5 := hk5.size
      replace hE := Ext.kp hE hk5 (fun k hk => by first | omega | (have hk := hk; dsimp only at hk; omega))
      replace h_rd := h_rd.kp hk5 (fun k hk => by first | omega | (have hk := hk; dsimp only at hk; omega))
      replace hB2 := hB2.kp hk5 (fun hk => by first | omega | (have hk := hk; dsimp only at hk; omega))
      replace hB3 := hB3.kp hk5 (fun hk => by first | omega | (have hk := hk; dsimp only at hk; omega))
      replace hO20 := hO20.kp hk5 (fun k hk => by first | omega | (have hk := hk; dsimp only at hk; omega))
      try replace hL3 := Ext.kp hL3 hk5 (fun k hk => by first | omega | (have hk := hk; dsimp only at hk; omega))
      replace hF30 := hF30.kp hk5 (fun k hk => by first | omega | (have hk := hk; dsimp only at hk; omega))
      have hn31 := hO31.ln
      try simp only [List.length_append, List.length_cons, List.length_nil, List.length_set, List.length_take, List.length_drop, List.length_replicate, List.length_map, Nat.zero_add, Nat.add_zero, le8s_len, le8_len, text_len] at hn31
      have hc31 := hO31.cap
      refine RL_q rfl (Yd_assign rfl) (RL_nil (X_block (X_then (C_region (RL_q rfl (Yd_move rfl) (RL_q rfl (Yd_add rfl rfl (i64w (by omega) (by omega))) (RL_q rfl (Yd_assign rfl) (RL_nil (?_)))))))))
      refine X_again (⟨k + 1, A31, (ln6 + n30), c31⟩) ⟨rfl, rfl, rfl, rfl, rfl, trivial⟩ ?_ (by show 6 - (k + 1) < 6 - k; omega)
      refine ⟨hO31.fit.cast ?_, ?_, hL3⟩
      all_goals (try dsimp only)
      all_goals (first | omega | (rw [← rq_next (by assumption)]; done) | exact rq_next (by assumption))
    · skip
      try simp only [decide_eq_true_eq, decide_eq_false_iff_not, Bool.not_eq_true', Bool.not_eq_false', Decidable.not_not, Int.not_lt, Int.not_le, Bool.or_eq_true, Bool.and_eq_true, Bool.or_eq_false_iff, Bool.and_eq_false_iff] at hb22
      obtain rfl : k = 6 := by omega
      refine C_exit (X_thenE (X_thenE (X_blockE (X_then (C_seq (C_region (RL_q rfl (Yd_move rfl) (RL_q rfl (Yd_fld (off := 4) Try.underlying53 (by kernel_rfl) rfl) (RL_q rfl (Yd_load Try.underlying24 rfl rfl (ldB hB3 rfl)) (RL_l rfl (Ld_call Try.func22 rfl (by kernel_rfl) rfl (refBytesV h_rd (by omega)) ?_)))))))))))
      rintro e W4 ⟨A35, n35, c35, rfl, hF35, he4⟩
      refine ⟨_, rfl, ?_⟩
      replace hE := Ext.trans hE he4
      replace h_rd := h_rd.ext he4
      replace hB2 := hB2.ext he4
      replace hB3 := hB3.ext he4
      replace hO20 := hO20.ext he4
      replace hR6 := hR6.ext he4
      replace hL3 := Ext.trans hL3 he4
      have hs4 := he4.size
      have hn35 := hF35.ln
      try simp only [List.length_append, List.length_cons, List.length_nil, List.length_set, List.length_take, List.length_drop, List.length_replicate, List.length_map, Nat.zero_add, Nat.add_zero, le8s_len, le8_len, text_len] at hn35
      have hc35 := hF35.cap
      refine RL_l rfl (Ld_apO (T := tU8) Try.underlying24 Try.elt5 rfl rfl rfl hR6 hF35.vw (by simp only [maxLen]; omega) (by omega) (by omega) ?_)
      intro A36 c36 W5 hO36 hk5
      have hs5 := hk5.size
      replace hE := Ext.kp hE hk5 (fun k hk => by first | omega | (have hk := hk; dsimp only at hk; omega))
      replace h_rd := h_rd.kp hk5 (fun k hk => by first | omega | (have hk := hk; dsimp only at hk; omega))
      replace hB2 := hB2.kp hk5 (fun hk => by first | omega | (have hk := hk; dsimp only at hk; omega))
      replace hB3 := hB3.kp hk5 (fun hk => by first | omega | (have hk := hk; dsimp only at hk; omega))
      replace hO20 := hO20.kp hk5 (fun k hk => by first | omega | (have hk := hk; dsimp only at hk; omega))
      try replace hL3 := Ext.kp hL3 hk5 (fun k hk => by first | omega | (have hk := hk; dsimp only at hk; omega))
      replace hF35 := hF35.kp hk5 (fun k hk => by first | omega | (have hk := hk; dsimp only at hk; omega))
      have hn36 := hO36.ln
      try simp only [List.length_append, List.length_cons, List.length_nil, List.length_set, List.length_take, List.length_drop, List.length_replicate, List.length_map, Nat.zero_add, Nat.add_zero, le8s_len, le8_len, text_len] at hn36
      have hc36 := hO36.cap
      refine RL_q rfl (Yd_assign rfl) (RL_nil (X_then (C_ret (X_ret1 rfl rfl ?_))))
      refine ⟨_, _, _, rfl, (hO36.fit.more (by omega) (Nat.le_refl _)).cast ?_, hE⟩
      all_goals (rfl)
end Go.Proofs.AL
