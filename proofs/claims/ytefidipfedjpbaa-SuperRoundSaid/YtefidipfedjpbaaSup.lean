import Derived.Test.YtefidipfedjpbaaCong
import Derived.Test.YtefidipfedjpbaaCrd
set_option linter.unusedVariables false
set_option linter.unusedSimpArgs false
namespace Go.Proofs.AL
open Go.RowKit

theorem ldBS {w : World} {g : Nat} {t : TypeId} {cs : List Value} (h : Blk w g t cs) (o : Nat) (cs' : List Value) (hs : (cs.drop o).take cs'.length = cs') : ∀ W, Ext w W → ∀ j u, cs'[j]? = some u → W.cell? ((⟨g, o, none⟩ : Addr).add j) = some u := fun W hW j u hu => by
  rw [add_lit, (h.ext hW).cell]
  rw [← hs, List.getElem?_take] at hu
  split at hu
  · rwa [List.getElem?_drop] at hu
  · cases hu
theorem X_retCT {P : Program} {N : Nat} {E : Env} {w : World} {fn : Func} {R : Ending → World → Prop} {t u : Tmp} {ty : TypeId} {d : TypeDesc} {g : Nat} {ti : TypeId} {cs : List Value} {x : Value} (hr : fn.results = #[.cell t ty, .tmp u]) (hv : lk E t = some (.pointer (some ⟨g, 0, none⟩))) (hx : lk E u = some x) (hT : P.underlying ty = some d) (hd : isFlat d = false) (hn : (P.info? ty).map (·.size) = some cs.length) (hb : Blk w g ti cs) (h : R (.returned (.tuple #[.agg cs.toArray, x])) w) : X N (bodyPost P fn R) .ret E w :=
  fun a ha => ⟨ha.defers, _, by
    have h1 := run_loadVarA (P := P) hT hd hn w (p := ⟨g, 0, none⟩) (fun j u hu => by rw [add_lit, Nat.zero_add, hb.cell]; exact hu)
    have h2 : a.tmps.getD t undef = .pointer (some ⟨g, 0, none⟩) := ha.tmps t _ hv
    have h3 : a.tmps.getD u undef = x := ha.tmps u _ hx
    simp only [Array.getD_eq_getD_getElem?] at h2 h3
    simp [results, hr, h2, h3, asAddr, h1], h⟩
/-- a superblock as an element of a list -/
structure SpH where
  ep : Int
  fr : Int
  dp : Int
  sc : Int
  A : Option Addr
  n : Nat
  c : Nat
def tSp : Ty SpH := ⟨5, fun h => [.int .i64 h.ep, .int .i64 h.fr, .int .i64 h.dp, .int .i64 h.sc, .slice h.A h.n h.c], fun _ => True, fun _ => rfl, fun _ v hv => by
  simp at hv
  rcases hv with rfl | rfl | rfl | rfl | rfl <;> rfl, by decide⟩
def ptB (l : List Pt) : List Int := l.flatMap fun p => le8s [p.quota, p.base, p.pages]
def ptI (l : List Pt) : List Int := l.flatMap fun p => [p.quota, p.base, p.pages]
theorem ptB_len (l : List Pt) : (ptB l).length = 24 * l.length := by
  induction l with
  | nil => rfl
  | cons p l ih => simp only [ptB, List.flatMap_cons, List.length_append, le8s_len] at ih ⊢; rw [ih]; simp; omega
theorem ptI_len (l : List Pt) : (ptI l).length = 3 * l.length := by
  induction l with
  | nil => rfl
  | cons p l ih => simp only [ptI, List.flatMap_cons, List.length_append] at ih ⊢; rw [ih]; simp; omega
theorem ptB_next {h : List Int} {l : List Pt} {k : Nat} {p : Pt} (hp : l[k]? = some p) : (h ++ ptB (l.take k)) ++ le8s [p.quota, p.base, p.pages] = h ++ ptB (l.take (k + 1)) := by
  rw [← take_next' hp]; simp [ptB]
theorem ptI_next {h : List Int} {l : List Pt} {k : Nat} {p : Pt} (hp : l[k]? = some p) : (h ++ ptI (l.take k)) ++ [p.quota, p.base, p.pages] = h ++ ptI (l.take (k + 1)) := by
  rw [← take_next' hp]; simp [ptI]
theorem le8s_ptI (l : List Pt) : le8s (ptI l) = ptB l := by
  induction l with
  | nil => rfl
  | cons p l ih =>
    have h1 : ptI (p :: l) = [p.quota, p.base, p.pages] ++ ptI l := by simp [ptI]
    have h2 : ptB (p :: l) = le8s [p.quota, p.base, p.pages] ++ ptB l := by simp [ptB]
    rw [h1, h2, le8s_append, ih]
theorem le8s_next {l : List Int} {k : Nat} {x : Int} (hx : l[k]? = some x) : le8s (l.take k) ++ le8 x = le8s (l.take (k + 1)) := by
  rw [← take_next' hx, le8s_append]; simp [le8s]
def supB (ep fr dp sc : Int) (ps : List Pt) : List Int := (le8s [1, ep, fr, dp, sc, (ps.length : Int)] ++ ptB ps) ++ le 4 (cmore 0 (le8s [1, ep, fr, dp, sc, (ps.length : Int)] ++ ptB ps))
theorem supB_len (ep fr dp sc : Int) (ps : List Pt) : (supB ep fr dp sc ps).length = 52 + 24 * ps.length := by
  simp only [supB, List.length_append, le8s_len, ptB_len, le_len, List.length_cons, List.length_nil]; omega
abbrev SMay (ep fr dp sc : Int) (ps : List Pt) : Prop := 1 ≤ ep ∧ ep ≤ 1073741824 ∧ (chk fr dp sc ps).1 = 0
def wrB (ep fr dp sc : Int) (ps : List Pt) : List Int := if SMay ep fr dp sc ps then supB ep fr dp sc ps else []
def wrE (ep fr dp sc : Int) (ps : List Pt) : Int := if SMay ep fr dp sc ps then 0 else 3
theorem wr_yes {ep fr dp sc : Int} {ps : List Pt} (h : SMay ep fr dp sc ps) : wrB ep fr dp sc ps = supB ep fr dp sc ps ∧ wrE ep fr dp sc ps = 0 := by unfold wrB wrE; rw [if_pos h, if_pos h]; exact ⟨rfl, rfl⟩
theorem wr_no {ep fr dp sc : Int} {ps : List Pt} (h : ¬ SMay ep fr dp sc ps) : wrB ep fr dp sc ps = [] ∧ wrE ep fr dp sc ps = 3 := by unfold wrB wrE; rw [if_neg h, if_neg h]; exact ⟨rfl, rfl⟩
theorem IntsV {lo_b B_b : Nat} {A_b : Option Addr} {n_b c_b : Nat} {b : List Int} {lo_l B_l : Nat} {A_l : Option Addr} {n_l c_l : Nat} {l : List Int} {w : World}  (h_b : Vw tU8 w lo_b B_b A_b n_b c_b b) (h_l : Vw tI64 w lo_l B_l A_l n_l c_l l) (hn : 0 < n_l) (h6 : n_b + 8 * n_l ≤ 65536) :
    Calls Try.prog 48 #[.slice A_b n_b c_b, .slice A_l n_l c_l] w fun e w' => ∃ (A0 : Option Addr) (n0 c0 : Nat), e = .returned (.slice A0 n0 c0) ∧ Ow tU8 5 w' w.heap.size w'.heap.size A0 n0 c0 (b ++ le8s l) ∧ Ext w w' :=
  Calls.mono (layInts_c A_b A_l n_b c_b n_l c_l b l w h_b.u8 h_b.ln h_b.cap h_b.nil (by have h := h_l.rd; rwa [cells_ints] at h) h_l.ln h6) fun e w' ⟨A, c, h1, _, h3, h4, h5, h7⟩ => ⟨A, _, c, h1, ow_u8 (h5 hn) (h_b.byt.append (le8s_byt l)), h7⟩
theorem refIntV {n : Int} {w : World}  (b_n : -9223372036854775808 ≤ n ∧ n ≤ 9223372036854775807) :
    Calls Try.prog 50 #[.int .i64 n] w fun e w' => ∃ (A0 : Option Addr) (n0 c0 : Nat), e = .returned (.slice A0 n0 c0) ∧ Ow tU8 5 w' w.heap.size w'.heap.size A0 n0 c0 (le8 n) ∧ Ext w w' :=
  Calls.mono (refInt_c n w) fun e w' ⟨A, c, h1, h2, h3⟩ => ⟨A, _, c, h1, ow_u8 h2 (le8_byt n), h3⟩
theorem sMayV {sep : Int} {sfr sdp ssc : Int} {lo_sps B_sps : Nat} {A_sps : Option Addr} {n_sps c_sps : Nat} {sps : List Pt} {w : World}  (h_sps : Vw tP w lo_sps B_sps A_sps n_sps c_sps sps) (b_s : -9223372036854775808 ≤ sfr ∧ sfr ≤ 9223372036854775807 ∧ -9223372036854775808 ≤ sdp ∧ sdp ≤ 9223372036854775807 ∧ -9223372036854775808 ≤ ssc ∧ ssc ≤ 9223372036854775807) (e_s : -9223372036854775808 ≤ sep ∧ sep ≤ 9223372036854775807) :
    Calls Try.prog 32 #[.agg #[.int .i64 sep, .int .i64 sfr, .int .i64 sdp, .int .i64 ssc, .slice A_sps n_sps c_sps]] w fun e w' => ∃ (x0 : Bool), e = .returned (.bool x0) ∧ x0 = (decide (SMay sep sfr sdp ssc sps)) ∧ Ext w w' := by
  have hE := Ext.refl w
  replace h_sps := h_sps.fit
  have hn_sps := h_sps.ln
  have hc_sps := h_sps.cap
  have hm_sps := h_sps.max
  simp only [maxLen] at hm_sps
  refine calls_of (l := [.agg #[.int .i64 sep, .int .i64 sfr, .int .i64 sdp, .int .i64 ssc, .slice A_sps n_sps c_sps]]) (N := 16) Try.func32 rfl rfl rfl ?_
  refine C_seq (C_region (RL_l rfl (Ld_box rfl ?_)))
  have hg_1 := hE.size
  intro W1 he1 hz1 hB1
  replace hE := Ext.trans hE he1
  replace h_sps := h_sps.ext he1
  refine RL_q rfl (Yd_assign rfl) (RL_nil (X_then (C_seq (C_region (RL_q rfl (Yd_fld (off := 0) Try.underlying52 (by kernel_rfl) rfl) (RL_q rfl (Yd_load Try.underlying3 rfl rfl (ldB hB1 rfl)) (RL_q rfl (Yd_geq rfl rfl) (RL_q rfl (Yd_move rfl) (?_)))))))))
  apply RL_and (dj := 6) 10 4 rfl
  · intro hb6
    try simp only [decide_eq_true_eq, decide_eq_false_iff_not, Bool.not_eq_true', Bool.not_eq_false', Decidable.not_not, Int.not_lt, Int.not_le, Bool.or_eq_true, Bool.and_eq_true, Bool.or_eq_false_iff, Bool.and_eq_false_iff] at hb6
    refine QL_gq rfl rfl rfl (Yd_fld (off := 0) Try.underlying52 (by kernel_rfl) rfl) (QL_gq rfl rfl rfl (Yd_load Try.underlying3 rfl rfl (ldB hB1 rfl)) (QL_gq rfl rfl rfl (Yd_leq rfl rfl) (QL_q rfl (Yd_pickT rfl rfl) ((QL_nil 4 rfl rfl rfl)))))
  · intro hb6
    try simp only [decide_eq_true_eq, decide_eq_false_iff_not, Bool.not_eq_true', Bool.not_eq_false', Decidable.not_not, Int.not_lt, Int.not_le, Bool.or_eq_true, Bool.and_eq_true, Bool.or_eq_false_iff, Bool.and_eq_false_iff] at hb6
    refine QL_gn rfl rfl rfl rfl (QL_gn rfl rfl rfl rfl (QL_gn rfl rfl rfl rfl (QL_q rfl (Yd_pickF rfl rfl) ((QL_nil 4 rfl rfl rfl)))))
  · skip
    refine RL_q rfl (Yd_move rfl) (?_)
    refine RL_case (d := 11) rfl (fun hb11 => ?_) (fun hb11 => ?_)
    · skip
      try simp only [decide_eq_true_eq, decide_eq_false_iff_not, Bool.not_eq_true', Bool.not_eq_false', Decidable.not_not, Int.not_lt, Int.not_le, Bool.or_eq_true, Bool.and_eq_true, Bool.or_eq_false_iff, Bool.and_eq_false_iff] at hb11
      refine RL_gq rfl rfl rfl (Yd_fld (off := 1) Try.underlying52 (by kernel_rfl) rfl) (RL_gq rfl rfl rfl (Yd_loadA (cs := [.int .i64 sfr, .int .i64 sdp, .int .i64 ssc, .slice A_sps n_sps c_sps]) Try.underlying24 rfl (by kernel_rfl) rfl (ldBS hB1 1 [.int .i64 sfr, .int .i64 sdp, .int .i64 ssc, .slice A_sps n_sps c_sps] rfl)) (RL_gl rfl rfl rfl (Ld_call Try.func20 rfl (by kernel_rfl) rfl (MayV (cfr := sfr) (cdp := sdp) (csc := ssc) h_sps ⟨by omega, by omega, by omega, by omega, by omega, by omega⟩) ?_)))
      rintro e W2 ⟨_, rfl, rfl, he2⟩
      refine ⟨_, rfl, ?_⟩
      replace hE := Ext.trans hE he2
      replace h_sps := h_sps.ext he2
      replace hB1 := hB1.ext he2
      have hs2 := he2.size
      refine RL_q rfl (Yd_pickT rfl rfl) (RL_q rfl (Yd_assign rfl) (RL_nil (X_then (C_ret (X_ret1 rfl rfl ?_)))))
      refine ⟨_, rfl, ?_, hE⟩
      all_goals (first | (simp_all [SMay]; done) | (simp_all [SMay]; intros; omega) | (rw [Bool.eq_iff_iff]; constructor <;> (intro h; simp_all [SMay]); done))
    · skip
      try simp only [decide_eq_true_eq, decide_eq_false_iff_not, Bool.not_eq_true', Bool.not_eq_false', Decidable.not_not, Int.not_lt, Int.not_le, Bool.or_eq_true, Bool.and_eq_true, Bool.or_eq_false_iff, Bool.and_eq_false_iff] at hb11
      refine RL_gn rfl rfl rfl rfl (RL_gn rfl rfl rfl rfl (RL_gn rfl rfl rfl rfl (RL_q rfl (Yd_pickF rfl rfl) (RL_q rfl (Yd_assign rfl) (RL_nil (X_then (C_ret (X_ret1 rfl rfl ?_))))))))
      refine ⟨_, rfl, ?_, hE⟩
      all_goals (first | (simp_all [SMay]; done) | (simp_all [SMay]; intros; omega) | (rw [Bool.eq_iff_iff]; constructor <;> (intro h; simp_all [SMay]); done))
theorem refsMayV {sep : Int} {sfr sdp ssc : Int} {lo_sps B_sps : Nat} {A_sps : Option Addr} {n_sps c_sps : Nat} {sps : List Pt} {w : World}  (h_sps : Vw tP w lo_sps B_sps A_sps n_sps c_sps sps) (b_s : -9223372036854775808 ≤ sfr ∧ sfr ≤ 9223372036854775807 ∧ -9223372036854775808 ≤ sdp ∧ sdp ≤ 9223372036854775807 ∧ -9223372036854775808 ≤ ssc ∧ ssc ≤ 9223372036854775807) (e_s : -9223372036854775808 ≤ sep ∧ sep ≤ 9223372036854775807) :
    Calls Try.prog 29 #[.agg #[.int .i64 sep, .int .i64 sfr, .int .i64 sdp, .int .i64 ssc, .slice A_sps n_sps c_sps]] w fun e w' => ∃ (x0 : Bool), e = .returned (.bool x0) ∧ x0 = (decide (SMay sep sfr sdp ssc sps)) ∧ Ext w w' := by
  have hE := Ext.refl w
  replace h_sps := h_sps.fit
  have hn_sps := h_sps.ln
  have hc_sps := h_sps.cap
  have hm_sps := h_sps.max
  simp only [maxLen] at hm_sps
  refine calls_of (l := [.agg #[.int .i64 sep, .int .i64 sfr, .int .i64 sdp, .int .i64 ssc, .slice A_sps n_sps c_sps]]) (N := 18) Try.func29 rfl rfl rfl ?_
  refine C_seq (C_region (RL_l rfl (Ld_box rfl ?_)))
  have hg_1 := hE.size
  intro W1 he1 hz1 hB1
  replace hE := Ext.trans hE he1
  replace h_sps := h_sps.ext he1
  refine RL_q rfl (Yd_assign rfl) (RL_nil (X_then (C_seq (C_region (RL_q rfl (Yd_fld (off := 1) Try.underlying43 (by kernel_rfl) rfl) (RL_q rfl (Yd_loadA (cs := [.int .i64 sfr, .int .i64 sdp, .int .i64 ssc, .slice A_sps n_sps c_sps]) Try.underlying24 rfl (by kernel_rfl) rfl (ldBS hB1 1 [.int .i64 sfr, .int .i64 sdp, .int .i64 ssc, .slice A_sps n_sps c_sps] rfl)) (RL_l rfl (Ld_call Try.func47 rfl (by kernel_rfl) rfl (refMayV (cfr := sfr) (cdp := sdp) (csc := ssc) h_sps ⟨by omega, by omega, by omega, by omega, by omega, by omega⟩) ?_))))))))
  rintro e W2 ⟨_, rfl, rfl, he2⟩
  refine ⟨_, rfl, ?_⟩
  replace hE := Ext.trans hE he2
  replace h_sps := h_sps.ext he2
  replace hB1 := hB1.ext he2
  have hs2 := he2.size
  refine RL_q rfl (Yd_assign rfl) (RL_nil (X_then (C_seq (C_region (RL_q rfl (Yd_move rfl) (RL_q rfl (Yd_move rfl) (?_)))))))
  apply RL_and (dj := 8) 12 4 rfl
  · intro hb8
    try simp only [decide_eq_true_eq, decide_eq_false_iff_not, Bool.not_eq_true', Bool.not_eq_false', Decidable.not_not, Int.not_lt, Int.not_le, Bool.or_eq_true, Bool.and_eq_true, Bool.or_eq_false_iff, Bool.and_eq_false_iff] at hb8
    refine QL_gq rfl rfl rfl (Yd_fld (off := 0) Try.underlying43 (by kernel_rfl) rfl) (QL_gq rfl rfl rfl (Yd_load Try.underlying3 rfl rfl (ldB hB1 rfl)) (QL_gq rfl rfl rfl (Yd_geq rfl rfl) (QL_q rfl (Yd_pickT rfl rfl) ((QL_nil 4 rfl rfl rfl)))))
  · intro hb8
    try simp only [decide_eq_true_eq, decide_eq_false_iff_not, Bool.not_eq_true', Bool.not_eq_false', Decidable.not_not, Int.not_lt, Int.not_le, Bool.or_eq_true, Bool.and_eq_true, Bool.or_eq_false_iff, Bool.and_eq_false_iff] at hb8
    refine QL_gn rfl rfl rfl rfl (QL_gn rfl rfl rfl rfl (QL_gn rfl rfl rfl rfl (QL_q rfl (Yd_pickF rfl rfl) ((QL_nil 4 rfl rfl rfl)))))
  · skip
    refine RL_q rfl (Yd_move rfl) (?_)
    apply RL_and (dj := 13) 17 4 rfl
    · intro hb13
      try simp only [decide_eq_true_eq, decide_eq_false_iff_not, Bool.not_eq_true', Bool.not_eq_false', Decidable.not_not, Int.not_lt, Int.not_le, Bool.or_eq_true, Bool.and_eq_true, Bool.or_eq_false_iff, Bool.and_eq_false_iff] at hb13
      refine QL_gq rfl rfl rfl (Yd_fld (off := 0) Try.underlying43 (by kernel_rfl) rfl) (QL_gq rfl rfl rfl (Yd_load Try.underlying3 rfl rfl (ldB hB1 rfl)) (QL_gq rfl rfl rfl (Yd_leq rfl rfl) (QL_q rfl (Yd_pickT rfl rfl) ((QL_nil 4 rfl rfl rfl)))))
    · intro hb13
      try simp only [decide_eq_true_eq, decide_eq_false_iff_not, Bool.not_eq_true', Bool.not_eq_false', Decidable.not_not, Int.not_lt, Int.not_le, Bool.or_eq_true, Bool.and_eq_true, Bool.or_eq_false_iff, Bool.and_eq_false_iff] at hb13
      refine QL_gn rfl rfl rfl rfl (QL_gn rfl rfl rfl rfl (QL_gn rfl rfl rfl rfl (QL_q rfl (Yd_pickF rfl rfl) ((QL_nil 4 rfl rfl rfl)))))
    · skip
      refine RL_q rfl (Yd_assign rfl) (RL_nil (X_then (C_ret (X_ret1 rfl rfl ?_))))
      refine ⟨_, rfl, ?_, hE⟩
      all_goals (first | (simp_all [SMay]; done) | (simp_all [SMay]; intros; omega) | (rw [Bool.eq_iff_iff]; constructor <;> (intro h; simp_all [SMay]); done))
theorem sSameV {aep : Int} {afr adp asc : Int} {lo_aps B_aps : Nat} {A_aps : Option Addr} {n_aps c_aps : Nat} {aps : List Pt} {bep : Int} {bfr bdp bsc : Int} {lo_bps B_bps : Nat} {A_bps : Option Addr} {n_bps c_bps : Nat} {bps : List Pt} {w : World}  (h_aps : Vw tP w lo_aps B_aps A_aps n_aps c_aps aps) (b_a : -9223372036854775808 ≤ afr ∧ afr ≤ 9223372036854775807 ∧ -9223372036854775808 ≤ adp ∧ adp ≤ 9223372036854775807 ∧ -9223372036854775808 ≤ asc ∧ asc ≤ 9223372036854775807) (e_a : -9223372036854775808 ≤ aep ∧ aep ≤ 9223372036854775807) (h_bps : Vw tP w lo_bps B_bps A_bps n_bps c_bps bps) (b_b : -9223372036854775808 ≤ bfr ∧ bfr ≤ 9223372036854775807 ∧ -9223372036854775808 ≤ bdp ∧ bdp ≤ 9223372036854775807 ∧ -9223372036854775808 ≤ bsc ∧ bsc ≤ 9223372036854775807) (e_b : -9223372036854775808 ≤ bep ∧ bep ≤ 9223372036854775807) :
    Calls Try.prog 35 #[.agg #[.int .i64 aep, .int .i64 afr, .int .i64 adp, .int .i64 asc, .slice A_aps n_aps c_aps], .agg #[.int .i64 bep, .int .i64 bfr, .int .i64 bdp, .int .i64 bsc, .slice A_bps n_bps c_bps]] w fun e w' => ∃ (x0 : Bool), e = .returned (.bool x0) ∧ x0 = (decide (aep = bep ∧ afr = bfr ∧ adp = bdp ∧ asc = bsc ∧ aps = bps)) ∧ Ext w w' := by
  have hE := Ext.refl w
  replace h_aps := h_aps.fit
  have hn_aps := h_aps.ln
  have hc_aps := h_aps.cap
  have hm_aps := h_aps.max
  simp only [maxLen] at hm_aps
  replace h_bps := h_bps.fit
  have hn_bps := h_bps.ln
  have hc_bps := h_bps.cap
  have hm_bps := h_bps.max
  simp only [maxLen] at hm_bps
  refine calls_of (l := [.agg #[.int .i64 aep, .int .i64 afr, .int .i64 adp, .int .i64 asc, .slice A_aps n_aps c_aps], .agg #[.int .i64 bep, .int .i64 bfr, .int .i64 bdp, .int .i64 bsc, .slice A_bps n_bps c_bps]]) (N := 17) Try.func35 rfl rfl rfl ?_
  refine C_seq (C_region (RL_l rfl (Ld_box rfl ?_)))
  have hg_2 := hE.size
  intro W1 he1 hz1 hB2
  replace hE := Ext.trans hE he1
  replace h_aps := h_aps.ext he1
  replace h_bps := h_bps.ext he1
  refine RL_l rfl (Ld_box rfl ?_)
  have hg_3 := hE.size
  intro W2 he2 hz2 hB3
  replace hE := Ext.trans hE he2
  replace h_aps := h_aps.ext he2
  replace h_bps := h_bps.ext he2
  replace hB2 := hB2.ext he2
  refine RL_q rfl (Yd_assign rfl) (RL_nil (X_then (C_seq (C_region (RL_q rfl (Yd_fld (off := 0) Try.underlying52 (by kernel_rfl) rfl) (RL_q rfl (Yd_load Try.underlying3 rfl rfl (ldB hB2 rfl)) (RL_q rfl (Yd_fld (off := 0) Try.underlying52 (by kernel_rfl) rfl) (RL_q rfl (Yd_load Try.underlying3 rfl rfl (ldB hB3 rfl)) (RL_q rfl (Yd_eql rfl rfl) (RL_q rfl (Yd_move rfl) (?_)))))))))))
  refine RL_case (d := 10) rfl (fun hb10 => ?_) (fun hb10 => ?_)
  · skip
    try simp only [decide_eq_true_eq, decide_eq_false_iff_not, Bool.not_eq_true', Bool.not_eq_false', Decidable.not_not, Int.not_lt, Int.not_le, Bool.or_eq_true, Bool.and_eq_true, Bool.or_eq_false_iff, Bool.and_eq_false_iff] at hb10
    refine RL_gq rfl rfl rfl (Yd_fld (off := 1) Try.underlying52 (by kernel_rfl) rfl) (RL_gq rfl rfl rfl (Yd_loadA (cs := [.int .i64 afr, .int .i64 adp, .int .i64 asc, .slice A_aps n_aps c_aps]) Try.underlying24 rfl (by kernel_rfl) rfl (ldBS hB2 1 [.int .i64 afr, .int .i64 adp, .int .i64 asc, .slice A_aps n_aps c_aps] rfl)) (RL_gq rfl rfl rfl (Yd_fld (off := 1) Try.underlying52 (by kernel_rfl) rfl) (RL_gq rfl rfl rfl (Yd_loadA (cs := [.int .i64 bfr, .int .i64 bdp, .int .i64 bsc, .slice A_bps n_bps c_bps]) Try.underlying24 rfl (by kernel_rfl) rfl (ldBS hB3 1 [.int .i64 bfr, .int .i64 bdp, .int .i64 bsc, .slice A_bps n_bps c_bps] rfl)) (RL_gl rfl rfl rfl (Ld_call Try.func25 rfl (by kernel_rfl) rfl (SameV (afr := afr) (adp := adp) (asc := asc) h_aps ⟨by omega, by omega, by omega, by omega, by omega, by omega⟩ (bfr := bfr) (bdp := bdp) (bsc := bsc) h_bps ⟨by omega, by omega, by omega, by omega, by omega, by omega⟩) ?_)))))
    rintro e W3 ⟨_, rfl, rfl, he3⟩
    refine ⟨_, rfl, ?_⟩
    replace hE := Ext.trans hE he3
    replace h_aps := h_aps.ext he3
    replace h_bps := h_bps.ext he3
    replace hB2 := hB2.ext he3
    replace hB3 := hB3.ext he3
    have hs3 := he3.size
    refine RL_q rfl (Yd_pickT rfl rfl) (RL_q rfl (Yd_assign rfl) (RL_nil (X_then (C_ret (X_ret1 rfl rfl ?_)))))
    refine ⟨_, rfl, ?_, hE⟩
    all_goals (first | (simp_all; done) | (simp_all; intros; omega) | (rw [Bool.eq_iff_iff]; constructor <;> (intro h; simp_all)))
  · skip
    try simp only [decide_eq_true_eq, decide_eq_false_iff_not, Bool.not_eq_true', Bool.not_eq_false', Decidable.not_not, Int.not_lt, Int.not_le, Bool.or_eq_true, Bool.and_eq_true, Bool.or_eq_false_iff, Bool.and_eq_false_iff] at hb10
    refine RL_gn rfl rfl rfl rfl (RL_gn rfl rfl rfl rfl (RL_gn rfl rfl rfl rfl (RL_gn rfl rfl rfl rfl (RL_gn rfl rfl rfl rfl (RL_q rfl (Yd_pickF rfl rfl) (RL_q rfl (Yd_assign rfl) (RL_nil (X_then (C_ret (X_ret1 rfl rfl ?_))))))))))
    refine ⟨_, rfl, ?_, hE⟩
    all_goals (first | (simp_all; done) | (simp_all; intros; omega) | (rw [Bool.eq_iff_iff]; constructor <;> (intro h; simp_all)))
theorem refsSameV {aep : Int} {afr adp asc : Int} {lo_aps B_aps : Nat} {A_aps : Option Addr} {n_aps c_aps : Nat} {aps : List Pt} {bep : Int} {bfr bdp bsc : Int} {lo_bps B_bps : Nat} {A_bps : Option Addr} {n_bps c_bps : Nat} {bps : List Pt} {w : World}  (h_aps : Vw tP w lo_aps B_aps A_aps n_aps c_aps aps) (b_a : -9223372036854775808 ≤ afr ∧ afr ≤ 9223372036854775807 ∧ -9223372036854775808 ≤ adp ∧ adp ≤ 9223372036854775807 ∧ -9223372036854775808 ≤ asc ∧ asc ≤ 9223372036854775807) (e_a : -9223372036854775808 ≤ aep ∧ aep ≤ 9223372036854775807) (h_bps : Vw tP w lo_bps B_bps A_bps n_bps c_bps bps) (b_b : -9223372036854775808 ≤ bfr ∧ bfr ≤ 9223372036854775807 ∧ -9223372036854775808 ≤ bdp ∧ bdp ≤ 9223372036854775807 ∧ -9223372036854775808 ≤ bsc ∧ bsc ≤ 9223372036854775807) (e_b : -9223372036854775808 ≤ bep ∧ bep ≤ 9223372036854775807) :
    Calls Try.prog 36 #[.agg #[.int .i64 aep, .int .i64 afr, .int .i64 adp, .int .i64 asc, .slice A_aps n_aps c_aps], .agg #[.int .i64 bep, .int .i64 bfr, .int .i64 bdp, .int .i64 bsc, .slice A_bps n_bps c_bps]] w fun e w' => ∃ (x0 : Bool), e = .returned (.bool x0) ∧ x0 = (decide (aep = bep ∧ afr = bfr ∧ adp = bdp ∧ asc = bsc ∧ aps = bps)) ∧ Ext w w' := by
  have hE := Ext.refl w
  replace h_aps := h_aps.fit
  have hn_aps := h_aps.ln
  have hc_aps := h_aps.cap
  have hm_aps := h_aps.max
  simp only [maxLen] at hm_aps
  replace h_bps := h_bps.fit
  have hn_bps := h_bps.ln
  have hc_bps := h_bps.cap
  have hm_bps := h_bps.max
  simp only [maxLen] at hm_bps
  refine calls_of (l := [.agg #[.int .i64 aep, .int .i64 afr, .int .i64 adp, .int .i64 asc, .slice A_aps n_aps c_aps], .agg #[.int .i64 bep, .int .i64 bfr, .int .i64 bdp, .int .i64 bsc, .slice A_bps n_bps c_bps]]) (N := 19) Try.func36 rfl rfl rfl ?_
  refine C_seq (C_region (RL_l rfl (Ld_box rfl ?_)))
  have hg_2 := hE.size
  intro W1 he1 hz1 hB2
  replace hE := Ext.trans hE he1
  replace h_aps := h_aps.ext he1
  replace h_bps := h_bps.ext he1
  refine RL_l rfl (Ld_box rfl ?_)
  have hg_3 := hE.size
  intro W2 he2 hz2 hB3
  replace hE := Ext.trans hE he2
  replace h_aps := h_aps.ext he2
  replace h_bps := h_bps.ext he2
  replace hB2 := hB2.ext he2
  refine RL_q rfl (Yd_assign rfl) (RL_nil (X_then (C_seq (C_region (RL_q rfl (Yd_fld (off := 1) Try.underlying43 (by kernel_rfl) rfl) (RL_q rfl (Yd_loadA (cs := [.int .i64 afr, .int .i64 adp, .int .i64 asc, .slice A_aps n_aps c_aps]) Try.underlying24 rfl (by kernel_rfl) rfl (ldBS hB2 1 [.int .i64 afr, .int .i64 adp, .int .i64 asc, .slice A_aps n_aps c_aps] rfl)) (RL_q rfl (Yd_fld (off := 1) Try.underlying43 (by kernel_rfl) rfl) (RL_q rfl (Yd_loadA (cs := [.int .i64 bfr, .int .i64 bdp, .int .i64 bsc, .slice A_bps n_bps c_bps]) Try.underlying24 rfl (by kernel_rfl) rfl (ldBS hB3 1 [.int .i64 bfr, .int .i64 bdp, .int .i64 bsc, .slice A_bps n_bps c_bps] rfl)) (RL_l rfl (Ld_call Try.func26 rfl (by kernel_rfl) rfl (refSameV (afr := afr) (adp := adp) (asc := asc) h_aps ⟨by omega, by omega, by omega, by omega, by omega, by omega⟩ (bfr := bfr) (bdp := bdp) (bsc := bsc) h_bps ⟨by omega, by omega, by omega, by omega, by omega, by omega⟩) ?_))))))))))
  rintro e W3 ⟨_, rfl, rfl, he3⟩
  refine ⟨_, rfl, ?_⟩
  replace hE := Ext.trans hE he3
  replace h_aps := h_aps.ext he3
  replace h_bps := h_bps.ext he3
  replace hB2 := hB2.ext he3
  replace hB3 := hB3.ext he3
  have hs3 := he3.size
  refine RL_q rfl (Yd_assign rfl) (RL_nil (X_then (C_seq (C_region (RL_q rfl (Yd_move rfl) (RL_q rfl (Yd_move rfl) (?_)))))))
  apply RL_and (dj := 12) 18 6 rfl
  · intro hb12
    try simp only [decide_eq_true_eq, decide_eq_false_iff_not, Bool.not_eq_true', Bool.not_eq_false', Decidable.not_not, Int.not_lt, Int.not_le, Bool.or_eq_true, Bool.and_eq_true, Bool.or_eq_false_iff, Bool.and_eq_false_iff] at hb12
    refine QL_gq rfl rfl rfl (Yd_fld (off := 0) Try.underlying43 (by kernel_rfl) rfl) (QL_gq rfl rfl rfl (Yd_load Try.underlying3 rfl rfl (ldB hB2 rfl)) (QL_gq rfl rfl rfl (Yd_fld (off := 0) Try.underlying43 (by kernel_rfl) rfl) (QL_gq rfl rfl rfl (Yd_load Try.underlying3 rfl rfl (ldB hB3 rfl)) (QL_gq rfl rfl rfl (Yd_eql rfl rfl) (QL_q rfl (Yd_pickT rfl rfl) ((QL_nil 6 rfl rfl rfl)))))))
  · intro hb12
    try simp only [decide_eq_true_eq, decide_eq_false_iff_not, Bool.not_eq_true', Bool.not_eq_false', Decidable.not_not, Int.not_lt, Int.not_le, Bool.or_eq_true, Bool.and_eq_true, Bool.or_eq_false_iff, Bool.and_eq_false_iff] at hb12
    refine QL_gn rfl rfl rfl rfl (QL_gn rfl rfl rfl rfl (QL_gn rfl rfl rfl rfl (QL_gn rfl rfl rfl rfl (QL_gn rfl rfl rfl rfl (QL_q rfl (Yd_pickF rfl rfl) ((QL_nil 6 rfl rfl rfl)))))))
  · skip
    refine RL_q rfl (Yd_assign rfl) (RL_nil (X_then (C_ret (X_ret1 rfl rfl ?_))))
    refine ⟨_, rfl, ?_, hE⟩
    all_goals (first | (simp_all; done) | (simp_all; intros; omega) | (rw [Bool.eq_iff_iff]; constructor <;> (intro h; simp_all)))
theorem asV {sep : Int} {sfr sdp ssc : Int} {lo_sps B_sps : Nat} {A_sps : Option Addr} {n_sps c_sps : Nat} {sps : List Pt} {w : World}  (h_sps : Vw tP w lo_sps B_sps A_sps n_sps c_sps sps) (b_s : -9223372036854775808 ≤ sfr ∧ sfr ≤ 9223372036854775807 ∧ -9223372036854775808 ≤ sdp ∧ sdp ≤ 9223372036854775807 ∧ -9223372036854775808 ≤ ssc ∧ ssc ≤ 9223372036854775807) (e_s : -9223372036854775808 ≤ sep ∧ sep ≤ 9223372036854775807) :
    Calls Try.prog 38 #[.agg #[.int .i64 sep, .int .i64 sfr, .int .i64 sdp, .int .i64 ssc, .slice A_sps n_sps c_sps]] w fun e w' => e = .returned (.agg #[.int .i64 sep, .int .i64 sfr, .int .i64 sdp, .int .i64 ssc, .slice A_sps n_sps c_sps]) ∧ Ext w w' := by
  have hE := Ext.refl w
  replace h_sps := h_sps.fit
  have hn_sps := h_sps.ln
  have hc_sps := h_sps.cap
  have hm_sps := h_sps.max
  simp only [maxLen] at hm_sps
  refine calls_of (l := [.agg #[.int .i64 sep, .int .i64 sfr, .int .i64 sdp, .int .i64 ssc, .slice A_sps n_sps c_sps]]) (N := 8) Try.func38 rfl rfl rfl ?_
  refine C_seq (C_region (RL_l rfl (Ld_box rfl ?_)))
  have hg_1 := hE.size
  intro W1 he1 hz1 hB1
  replace hE := Ext.trans hE he1
  replace h_sps := h_sps.ext he1
  refine RL_l rfl (Ld_alloc (v := (.agg #[(.int .i64 0), (.int .i64 0), (.int .i64 0), (.int .i64 0), (.slice none 0 0)])) (by kernel_rfl) ?_)
  have hg_2 := hE.size
  intro W2 he2 hz2 hB2
  replace hE := Ext.trans hE he2
  replace h_sps := h_sps.ext he2
  replace hB1 := hB1.ext he2
  refine RL_nil (X_then (C_seq (C_region (RL_q rfl (Yd_fld (off := 0) Try.underlying52 (by kernel_rfl) rfl) (RL_q rfl (Yd_load Try.underlying3 rfl rfl (ldB hB1 rfl)) (RL_q rfl (Yd_fld (off := 1) Try.underlying52 (by kernel_rfl) rfl) (RL_q rfl (Yd_loadA (cs := [.int .i64 sfr, .int .i64 sdp, .int .i64 ssc, .slice A_sps n_sps c_sps]) Try.underlying24 rfl (by kernel_rfl) rfl (ldBS hB1 1 [.int .i64 sfr, .int .i64 sdp, .int .i64 ssc, .slice A_sps n_sps c_sps] rfl)) (RL_q rfl (Yd_build Try.bld43 rfl rfl) (RL_l0 (Ld_store (by kernel_rfl) rfl rfl hB2 (Nat.le_of_ble_eq_true rfl) (by simp [cellsL, Value.cells, Value.oneCell']) ?_))))))))))
  intro W3 hu3 hz3 hB2
  have hk3 := Kp.ofb hu3
  have hs3 := hk3.size
  replace hE := Ext.kp hE hk3 (fun k hk => by first | omega | (have hk := hk; dsimp only at hk; omega))
  replace h_sps := h_sps.kp hk3 (fun k hk => by first | omega | (have hk := hk; dsimp only at hk; omega))
  replace hB1 := hB1.kp hk3 (fun hk => by first | omega | (have hk := hk; dsimp only at hk; omega))
  refine RL_nil (X_then (C_ret (X_retC rfl rfl Try.underlying43 rfl (by kernel_rfl) hB2 ?_)))
  exact ⟨rfl, hE⟩
theorem ofV {sep : Int} {sfr sdp ssc : Int} {lo_sps B_sps : Nat} {A_sps : Option Addr} {n_sps c_sps : Nat} {sps : List Pt} {w : World}  (h_sps : Vw tP w lo_sps B_sps A_sps n_sps c_sps sps) (b_s : -9223372036854775808 ≤ sfr ∧ sfr ≤ 9223372036854775807 ∧ -9223372036854775808 ≤ sdp ∧ sdp ≤ 9223372036854775807 ∧ -9223372036854775808 ≤ ssc ∧ ssc ≤ 9223372036854775807) (e_s : -9223372036854775808 ≤ sep ∧ sep ≤ 9223372036854775807) :
    Calls Try.prog 31 #[.agg #[.int .i64 sep, .int .i64 sfr, .int .i64 sdp, .int .i64 ssc, .slice A_sps n_sps c_sps]] w fun e w' => e = .returned (.agg #[.int .i64 sep, .int .i64 sfr, .int .i64 sdp, .int .i64 ssc, .slice A_sps n_sps c_sps]) ∧ Ext w w' := by
  have hE := Ext.refl w
  replace h_sps := h_sps.fit
  have hn_sps := h_sps.ln
  have hc_sps := h_sps.cap
  have hm_sps := h_sps.max
  simp only [maxLen] at hm_sps
  refine calls_of (l := [.agg #[.int .i64 sep, .int .i64 sfr, .int .i64 sdp, .int .i64 ssc, .slice A_sps n_sps c_sps]]) (N := 8) Try.func31 rfl rfl rfl ?_
  refine C_seq (C_region (RL_l rfl (Ld_box rfl ?_)))
  have hg_1 := hE.size
  intro W1 he1 hz1 hB1
  replace hE := Ext.trans hE he1
  replace h_sps := h_sps.ext he1
  refine RL_l rfl (Ld_alloc (v := (.agg #[(.int .i64 0), (.int .i64 0), (.int .i64 0), (.int .i64 0), (.slice none 0 0)])) (by kernel_rfl) ?_)
  have hg_2 := hE.size
  intro W2 he2 hz2 hB2
  replace hE := Ext.trans hE he2
  replace h_sps := h_sps.ext he2
  replace hB1 := hB1.ext he2
  refine RL_nil (X_then (C_seq (C_region (RL_q rfl (Yd_fld (off := 0) Try.underlying43 (by kernel_rfl) rfl) (RL_q rfl (Yd_load Try.underlying3 rfl rfl (ldB hB1 rfl)) (RL_q rfl (Yd_fld (off := 1) Try.underlying43 (by kernel_rfl) rfl) (RL_q rfl (Yd_loadA (cs := [.int .i64 sfr, .int .i64 sdp, .int .i64 ssc, .slice A_sps n_sps c_sps]) Try.underlying24 rfl (by kernel_rfl) rfl (ldBS hB1 1 [.int .i64 sfr, .int .i64 sdp, .int .i64 ssc, .slice A_sps n_sps c_sps] rfl)) (RL_q rfl (Yd_build Try.bld52 rfl rfl) (RL_l0 (Ld_store (by kernel_rfl) rfl rfl hB2 (Nat.le_of_ble_eq_true rfl) (by simp [cellsL, Value.cells, Value.oneCell']) ?_))))))))))
  intro W3 hu3 hz3 hB2
  have hk3 := Kp.ofb hu3
  have hs3 := hk3.size
  replace hE := Ext.kp hE hk3 (fun k hk => by first | omega | (have hk := hk; dsimp only at hk; omega))
  replace h_sps := h_sps.kp hk3 (fun k hk => by first | omega | (have hk := hk; dsimp only at hk; omega))
  replace hB1 := hB1.kp hk3 (fun hk => by first | omega | (have hk := hk; dsimp only at hk; omega))
  refine RL_nil (X_then (C_ret (X_retC rfl rfl Try.underlying52 rfl (by kernel_rfl) hB2 ?_)))
  exact ⟨rfl, hE⟩
theorem sGoodV {n : Int} {cfr cdp csc : Int} {lo_cps B_cps : Nat} {A_cps : Option Addr} {n_cps c_cps : Nat} {cps : List Pt} {w : World}  (b_n : -9223372036854775808 ≤ n ∧ n ≤ 9223372036854775807) (h_cps : Vw tP w lo_cps B_cps A_cps n_cps c_cps cps) (b_c : -9223372036854775808 ≤ cfr ∧ cfr ≤ 9223372036854775807 ∧ -9223372036854775808 ≤ cdp ∧ cdp ≤ 9223372036854775807 ∧ -9223372036854775808 ≤ csc ∧ csc ≤ 9223372036854775807) :
    Calls Try.prog 28 #[.int .i64 n, .agg #[.int .i64 cfr, .int .i64 cdp, .int .i64 csc, .slice A_cps n_cps c_cps]] w fun e w' => ∃ (ep fr dp sc : Int) (A : Option Addr) (n c : Nat) (ps : List Pt), e = .returned (.agg #[.int .i64 ep, .int .i64 fr, .int .i64 dp, .int .i64 sc, .slice A n c]) ∧ ((1 ≤ ep ∧ ep ≤ 1073741824) ∧ GoodCf fr dp sc ps) ∧ Ow tP 35 w' w.heap.size w'.heap.size A n c ps ∧ Ext w w' := by
  have hE := Ext.refl w
  replace h_cps := h_cps.fit
  have hn_cps := h_cps.ln
  have hc_cps := h_cps.cap
  have hm_cps := h_cps.max
  simp only [maxLen] at hm_cps
  refine calls_of (l := [.int .i64 n, .agg #[.int .i64 cfr, .int .i64 cdp, .int .i64 csc, .slice A_cps n_cps c_cps]]) (N := 11) Try.func28 rfl rfl rfl ?_
  refine C_seq (C_region (RL_l rfl (Ld_box rfl ?_)))
  have hg_3 := hE.size
  intro W1 he1 hz1 hB3
  replace hE := Ext.trans hE he1
  replace h_cps := h_cps.ext he1
  refine RL_l rfl (Ld_alloc (v := (.agg #[(.int .i64 0), (.int .i64 0), (.int .i64 0), (.int .i64 0), (.slice none 0 0)])) (by kernel_rfl) ?_)
  have hg_4 := hE.size
  intro W2 he2 hz2 hB4
  replace hE := Ext.trans hE he2
  replace h_cps := h_cps.ext he2
  replace hB3 := hB3.ext he2
  refine RL_nil (X_then (C_seq (?_)))
  refine C_regionD (fun k => k = W1.heap.size) (l := [(0, true), (3, true), (1, false), (2, true), (4, false), (5, true), (6, false)]) (by kernel_rfl) (by kernel_rfl) rfl (by kernel_rfl) (fun _ _ d _ _ h => by cases d <;> exact h) ?_
  intro W3 he3 hh3
  replace hE := Ext.trans hE he3
  replace h_cps := h_cps.ext he3
  replace hB3 := hB3.ext he3
  replace hB4 := hB4.ext he3
  have hs3 := he3.size
  refine RO_q rfl rfl (Yd_move rfl) (RO_q rfl rfl (Yd_loadA (cs := [.int .i64 cfr, .int .i64 cdp, .int .i64 csc, .slice A_cps n_cps c_cps]) Try.underlying24 rfl (by kernel_rfl) rfl (fun W hW => ldBS (Blk.kp hB3 hW (fun hk => by first | omega | (have hk := hk; dsimp only at hk; omega))) 0 [.int .i64 cfr, .int .i64 cdp, .int .i64 csc, .slice A_cps n_cps c_cps] rfl W (Ext.refl W))) (RO_l rfl rfl (Ld_call Try.func17 rfl (by kernel_rfl) rfl (AroundV ⟨by first | omega | (dsimp only; omega), by first | omega | (dsimp only; omega)⟩ ⟨by first | omega | (dsimp only; omega), by first | omega | (dsimp only; omega)⟩) ?_)))
  rintro e W4 ⟨y6, rfl, hy6, hra6, rfl⟩
  refine ⟨_, rfl, ?_⟩
  refine ⟨Kp.refl _ _, ?_⟩
  refine RO_q rfl rfl (Yd_add rfl rfl (i64w (by omega) (by omega))) (RO_l rfl rfl (Ld_call Try.func14 rfl (by kernel_rfl) rfl (GoodV (cfr := cfr) (cdp := cdp) (csc := csc) h_cps ⟨by omega, by omega, by omega, by omega, by omega, by omega⟩) ?_))
  rintro e W5 ⟨fr9, dp9, sc9, AC9, nC9, cC9, pC9, rfl, hp9, hC9, he5⟩
  refine ⟨_, rfl, ?_⟩
  refine ⟨Kp.of_ext he5, ?_⟩
  replace hE := Ext.trans hE he5
  replace h_cps := h_cps.ext he5
  replace hB3 := hB3.ext he5
  replace hB4 := hB4.ext he5
  have hs5 := he5.size
  have hnC9 := hC9.ln
  have hcC9 := hC9.cap
  have hfb9 := hp9.frb
  have hdb9 := hp9.hdp
  have hsb9 := hp9.hsc
  have hlb9 := hp9.hln
  refine RO_q rfl rfl (Yd_build Try.bld43 rfl rfl) (RO_l0 rfl (Ld_store (by kernel_rfl) rfl rfl hB4 (Nat.le_of_ble_eq_true rfl) (by simp [cellsL, Value.cells, Value.oneCell']) ?_))
  intro W6 hu6 hz6 hB4
  refine ⟨Kp.of_but hu6 (by first | rfl | omega | (dsimp only; omega)), ?_⟩
  have hk6 := Kp.ofb hu6
  have hs6 := hk6.size
  replace hE := Ext.kp hE hk6 (fun k hk => by first | omega | (have hk := hk; dsimp only at hk; omega))
  replace h_cps := h_cps.kp hk6 (fun k hk => by first | omega | (have hk := hk; dsimp only at hk; omega))
  replace hB3 := hB3.kp hk6 (fun hk => by first | omega | (have hk := hk; dsimp only at hk; omega))
  replace hC9 := hC9.kp hk6 (fun k hk => by first | omega | (have hk := hk; dsimp only at hk; omega))
  refine RO_nil (X_then (C_ret (X_retC rfl rfl Try.underlying43 rfl (by kernel_rfl) hB4 ?_)))
  refine ⟨_, _, _, _, _, _, _, _, rfl, ?_, hC9.fit.more (by omega) (Nat.le_refl _), hE⟩
  exact ⟨⟨by omega, by omega⟩, hp9⟩
theorem NextV {sep : Int} {sfr sdp ssc : Int} {lo_sps B_sps : Nat} {A_sps : Option Addr} {n_sps c_sps : Nat} {sps : List Pt} {w : World}  (h_sps : Vw tP w lo_sps B_sps A_sps n_sps c_sps sps) (b_s : -9223372036854775808 ≤ sfr ∧ sfr ≤ 9223372036854775807 ∧ -9223372036854775808 ≤ sdp ∧ sdp ≤ 9223372036854775807 ∧ -9223372036854775808 ≤ ssc ∧ ssc ≤ 9223372036854775807) (e_s : -9223372036854775808 ≤ sep ∧ sep ≤ 9223372036854775807) (h6 : n_sps ≤ 60000) :
    Calls Try.prog 37 #[.agg #[.int .i64 sep, .int .i64 sfr, .int .i64 sdp, .int .i64 ssc, .slice A_sps n_sps c_sps]] w fun e w' => ∃ (ep fr dp sc : Int) (A : Option Addr) (n c : Nat) (ps : List Pt) (er : Int), e = .returned (.tuple #[.agg #[.int .i64 ep, .int .i64 fr, .int .i64 dp, .int .i64 sc, .slice A n c], .int .i64 er]) ∧ ((sep < 1073741824 ∧ er = 0 ∧ ep = sep + 1 ∧ fr = sfr ∧ dp = sdp ∧ sc = ssc ∧ ps = sps) ∨ (1073741824 ≤ sep ∧ er = 13 ∧ ep = 0 ∧ fr = 0 ∧ dp = 0 ∧ sc = 0 ∧ ps = [])) ∧ Ow tP 35 w' w.heap.size w'.heap.size A n c ps ∧ Ext w w' := by
  have hE := Ext.refl w
  replace h_sps := h_sps.fit
  have hn_sps := h_sps.ln
  have hc_sps := h_sps.cap
  have hm_sps := h_sps.max
  simp only [maxLen] at hm_sps
  refine calls_of (l := [.agg #[.int .i64 sep, .int .i64 sfr, .int .i64 sdp, .int .i64 ssc, .slice A_sps n_sps c_sps]]) (N := 15) Try.func37 rfl rfl rfl ?_
  refine C_seq (C_region (RL_l rfl (Ld_box rfl ?_)))
  have hg_1 := hE.size
  intro W1 he1 hz1 hB1
  replace hE := Ext.trans hE he1
  replace h_sps := h_sps.ext he1
  refine RL_l rfl (Ld_alloc (v := (.agg #[(.int .i64 0), (.int .i64 0), (.int .i64 0), (.int .i64 0), (.slice none 0 0)])) (by kernel_rfl) ?_)
  have hg_2 := hE.size
  intro W2 he2 hz2 hB2
  replace hE := Ext.trans hE he2
  replace h_sps := h_sps.ext he2
  replace hB1 := hB1.ext he2
  refine RL_q rfl (Yd_assign rfl) (RL_nil (X_then (C_seq (C_seq (C_region (RL_q rfl (Yd_fld (off := 0) Try.underlying52 (by kernel_rfl) rfl) (RL_q rfl (Yd_load Try.underlying3 rfl rfl (ldB hB1 rfl)) (RL_q rfl (Yd_geq rfl rfl) (RL_nil (X_then (?_)))))))))))
  refine C_cond rfl (fun hb6 => ?_) (fun hb6 => ?_)
  · skip
    try simp only [decide_eq_true_eq, decide_eq_false_iff_not, Bool.not_eq_true', Bool.not_eq_false', Decidable.not_not, Int.not_lt, Int.not_le, Bool.or_eq_true, Bool.and_eq_true, Bool.or_eq_false_iff, Bool.and_eq_false_iff] at hb6
    refine C_seq (C_region (RL_q rfl (Yd_build Try.bld52 rfl rfl) (RL_l0 (Ld_store (by kernel_rfl) rfl rfl hB2 (Nat.le_of_ble_eq_true rfl) (by simp [cellsL, Value.cells, Value.oneCell']) ?_))))
    intro W3 hu3 hz3 hB2
    have hk3 := Kp.ofb hu3
    have hs3 := hk3.size
    replace hE := Ext.kp hE hk3 (fun k hk => by first | omega | (have hk := hk; dsimp only at hk; omega))
    replace h_sps := h_sps.kp hk3 (fun k hk => by first | omega | (have hk := hk; dsimp only at hk; omega))
    replace hB1 := hB1.kp hk3 (fun hk => by first | omega | (have hk := hk; dsimp only at hk; omega))
    refine RL_q rfl (Yd_assign rfl) (RL_nil (X_then (C_ret (X_thenR (X_retCT rfl rfl rfl Try.underlying52 rfl (by kernel_rfl) hB2 ?_)))))
    refine ⟨_, _, _, _, _, _, _, _, _, rfl, ?_, Ow.nil, hE⟩
    first | exact .inr ⟨by omega, rfl, rfl, rfl, rfl, rfl, rfl⟩ | exact .inl ⟨by omega, rfl, rfl, hp13.1, hp13.2.1, hp13.2.2.1, hp13.2.2.2⟩
  · skip
    try simp only [decide_eq_true_eq, decide_eq_false_iff_not, Bool.not_eq_true', Bool.not_eq_false', Decidable.not_not, Int.not_lt, Int.not_le, Bool.or_eq_true, Bool.and_eq_true, Bool.or_eq_false_iff, Bool.and_eq_false_iff] at hb6
    refine C_skip (X_then (C_seq (?_)))
    refine C_regionD (fun k => k = W1.heap.size) (l := [(0, true), (1, true), (2, true), (3, true), (4, true), (5, false), (6, true), (7, false), (8, true)]) (by kernel_rfl) (by kernel_rfl) rfl (by kernel_rfl) (fun _ _ d _ _ h => by cases d <;> exact h) ?_
    intro W3 he3 hh3
    replace hE := Ext.trans hE he3
    replace h_sps := h_sps.ext he3
    replace hB1 := hB1.ext he3
    replace hB2 := hB2.ext he3
    have hs3 := he3.size
    refine RO_q rfl rfl (Yd_fld (off := 0) Try.underlying52 (by kernel_rfl) rfl) (RO_q rfl rfl (Yd_load Try.underlying3 rfl rfl (fun W hW => ldBK hB1 rfl hW (fun hk => by first | omega | (have hk := hk; dsimp only at hk; omega)))) (RO_q rfl rfl (Yd_add rfl rfl (i64w (by omega) (by omega))) (RO_q rfl rfl (Yd_fld (off := 1) Try.underlying52 (by kernel_rfl) rfl) (RO_q rfl rfl (Yd_loadA (cs := [.int .i64 sfr, .int .i64 sdp, .int .i64 ssc, .slice A_sps n_sps c_sps]) Try.underlying24 rfl (by kernel_rfl) rfl (fun W hW => ldBS (Blk.kp hB1 hW (fun hk => by first | omega | (have hk := hk; dsimp only at hk; omega))) 1 [.int .i64 sfr, .int .i64 sdp, .int .i64 ssc, .slice A_sps n_sps c_sps] rfl W (Ext.refl W))) (RO_l rfl rfl (Ld_call Try.func27 rfl (by kernel_rfl) rfl (CloneV (cfr := sfr) (cdp := sdp) (csc := ssc) h_sps ⟨by omega, by omega, by omega, by omega, by omega, by omega⟩ (by omega)) ?_))))))
    rintro e W4 ⟨fr13, dp13, sc13, AC13, nC13, cC13, pC13, rfl, hp13, hC13, he4⟩
    refine ⟨_, rfl, ?_⟩
    refine ⟨Kp.of_ext he4, ?_⟩
    replace hE := Ext.trans hE he4
    replace h_sps := h_sps.ext he4
    replace hB1 := hB1.ext he4
    replace hB2 := hB2.ext he4
    have hs4 := he4.size
    have hnC13 := hC13.ln
    have hcC13 := hC13.cap
    have hlq13 := congrArg List.length hp13.2.2.2
    refine RO_q rfl rfl (Yd_build Try.bld52 rfl rfl) (RO_l0 rfl (Ld_store (by kernel_rfl) rfl rfl hB2 (Nat.le_of_ble_eq_true rfl) (by simp [cellsL, Value.cells, Value.oneCell']) ?_))
    intro W5 hu5 hz5 hB2
    refine ⟨Kp.of_but hu5 (by first | rfl | omega | (dsimp only; omega)), ?_⟩
    have hk5 := Kp.ofb hu5
    have hs5 := hk5.size
    replace hE := Ext.kp hE hk5 (fun k hk => by first | omega | (have hk := hk; dsimp only at hk; omega))
    replace h_sps := h_sps.kp hk5 (fun k hk => by first | omega | (have hk := hk; dsimp only at hk; omega))
    replace hB1 := hB1.kp hk5 (fun hk => by first | omega | (have hk := hk; dsimp only at hk; omega))
    replace hC13 := hC13.kp hk5 (fun k hk => by first | omega | (have hk := hk; dsimp only at hk; omega))
    refine RO_q rfl rfl (Yd_assign rfl) (RO_nil (X_then (C_ret (X_retCT rfl rfl rfl Try.underlying52 rfl (by kernel_rfl) hB2 ?_))))
    refine ⟨_, _, _, _, _, _, _, _, _, rfl, ?_, hC13.fit.more (by omega) (Nat.le_refl _), hE⟩
    first | exact .inr ⟨by omega, rfl, rfl, rfl, rfl, rfl, rfl⟩ | exact .inl ⟨by omega, rfl, rfl, hp13.1, hp13.2.1, hp13.2.2.1, hp13.2.2.2⟩
theorem WriteV {sep : Int} {sfr sdp ssc : Int} {lo_sps B_sps : Nat} {A_sps : Option Addr} {n_sps c_sps : Nat} {sps : List Pt} {w : World}  (h_sps : Vw tP w lo_sps B_sps A_sps n_sps c_sps sps) (b_s : -9223372036854775808 ≤ sfr ∧ sfr ≤ 9223372036854775807 ∧ -9223372036854775808 ≤ sdp ∧ sdp ≤ 9223372036854775807 ∧ -9223372036854775808 ≤ ssc ∧ ssc ≤ 9223372036854775807) (e_s : -9223372036854775808 ≤ sep ∧ sep ≤ 9223372036854775807) :
    Calls Try.prog 30 #[.agg #[.int .i64 sep, .int .i64 sfr, .int .i64 sdp, .int .i64 ssc, .slice A_sps n_sps c_sps]] w fun e w' => ∃ (A0 : Option Addr) (n0 c0 : Nat) (x1 : Int), e = .returned (.tuple #[.slice A0 n0 c0, .int .i64 x1]) ∧ Ow tU8 5 w' w.heap.size w'.heap.size A0 n0 c0 (wrB sep sfr sdp ssc sps) ∧ x1 = (wrE sep sfr sdp ssc sps) ∧ Ext w w' := by
  have hE := Ext.refl w
  replace h_sps := h_sps.fit
  have hn_sps := h_sps.ln
  have hc_sps := h_sps.cap
  have hm_sps := h_sps.max
  simp only [maxLen] at hm_sps
  refine calls_of (l := [.agg #[.int .i64 sep, .int .i64 sfr, .int .i64 sdp, .int .i64 ssc, .slice A_sps n_sps c_sps]]) (N := 47) Try.func30 rfl rfl rfl ?_
  refine C_seq (C_region (RL_l rfl (Ld_box rfl ?_)))
  have hg_1 := hE.size
  intro W1 he1 hz1 hB1
  replace hE := Ext.trans hE he1
  replace h_sps := h_sps.ext he1
  refine RL_q rfl (Yd_assign rfl) (RL_q rfl (Yd_assign rfl) (RL_nil (X_then (C_seq (C_seq (C_region (RL_q rfl (Yd_loadA Try.underlying52 rfl (by kernel_rfl) rfl (ldBA hB1)) (RL_l rfl (Ld_call Try.func32 rfl (by kernel_rfl) rfl (sMayV (sep := sep) (sfr := sfr) (sdp := sdp) (ssc := ssc) h_sps ⟨by omega, by omega, by omega, by omega, by omega, by omega⟩ ⟨by omega, by omega⟩) ?_)))))))))
  rintro e W2 ⟨_, rfl, rfl, he2⟩
  refine ⟨_, rfl, ?_⟩
  replace hE := Ext.trans hE he2
  replace h_sps := h_sps.ext he2
  replace hB1 := hB1.ext he2
  have hs2 := he2.size
  refine RL_q rfl (Yd_not rfl) (RL_nil (X_then (?_)))
  refine C_cond rfl (fun hb9 => ?_) (fun hb9 => ?_)
  · skip
    have hb9 : ¬ SMay sep sfr sdp ssc sps := fun h => by rw [decide_eq_true h] at hb9; cases hb9
    refine C_seq (C_region (RL_q rfl (Yd_assign rfl) (RL_q rfl (Yd_assign rfl) (RL_nil (X_then (C_ret (X_thenR (X_ret2 rfl rfl rfl ?_))))))))
    refine ⟨_, _, _, _, rfl, Ow.nil.cast ?_, ?_, hE⟩
    all_goals (first | exact (wr_no hb9).1.symm | exact (wr_no hb9).2.symm | (rw [(wr_yes hb9).1]; rfl) | exact (wr_yes hb9).2.symm)
  · skip
    have hb9 : SMay sep sfr sdp ssc sps := Decidable.byContradiction fun h => by rw [decide_eq_false h] at hb9; cases hb9
    have hok := chk_ok hb9.2.2
    have hln := hok.hln
    refine C_skip (X_then (C_seq (C_region (RL_q rfl (Yd_fld (off := 0) Try.underlying52 (by kernel_rfl) rfl) (RL_q rfl (Yd_load Try.underlying3 rfl rfl (ldB hB1 rfl)) (RL_q rfl (Yd_fld (off := 1) Try.underlying52 (by kernel_rfl) rfl) (RL_q rfl (Yd_fld (off := 0) Try.underlying24 (by kernel_rfl) rfl) (RL_q rfl (Yd_load Try.underlying3 rfl rfl (ldB hB1 rfl)) (RL_q rfl (Yd_fld (off := 1) Try.underlying52 (by kernel_rfl) rfl) (RL_q rfl (Yd_fld (off := 1) Try.underlying24 (by kernel_rfl) rfl) (RL_q rfl (Yd_load Try.underlying3 rfl rfl (ldB hB1 rfl)) (RL_q rfl (Yd_fld (off := 1) Try.underlying52 (by kernel_rfl) rfl) (RL_q rfl (Yd_fld (off := 2) Try.underlying24 (by kernel_rfl) rfl) (RL_q rfl (Yd_load Try.underlying3 rfl rfl (ldB hB1 rfl)) (RL_q rfl (Yd_fld (off := 1) Try.underlying52 (by kernel_rfl) rfl) (RL_q rfl (Yd_fld (off := 3) Try.underlying24 (by kernel_rfl) rfl) (RL_q rfl (Yd_load Try.underlying22 rfl rfl (ldB hB1 rfl)) (RL_q rfl (Yd_len Try.underlying22 rfl) (RL_l rfl (Ld_lit Try.underlying73 rfl (lit_flat Try.underlying73 Try.elt3 rfl rfl ⟨rfl, by decide⟩) ?_))))))))))))))))))))
    intro W3 he3 hz3 hL25
    replace hE := Ext.trans hE he3
    replace h_sps := h_sps.ext he3
    replace hB1 := hB1.ext he3
    have hO25 := Ow.of_blk (T := tI64) (l := [1, sep, sfr, sdp, ssc, (n_sps : Int)]) hL25 rfl (n := 6) rfl (by simp [maxLen]) (okc ⟨by omega, by omega⟩ (okc ⟨by omega, by omega⟩ (okc ⟨by omega, by omega⟩ (okc ⟨by omega, by omega⟩ (okc ⟨by omega, by omega⟩ (okc ⟨by omega, by omega⟩ okn))))))
    clear hL25
    refine RL_l rfl (Ld_call Try.func48 rfl (by kernel_rfl) rfl (IntsV (Vw.none_ (lo := 0) (B := 0)) hO25.vw (by omega) (by omega)) ?_)
    rintro e W4 ⟨A26, n26, c26, rfl, hF26, he4⟩
    refine ⟨_, rfl, ?_⟩
    replace hE := Ext.trans hE he4
    replace h_sps := h_sps.ext he4
    replace hB1 := hB1.ext he4
    replace hO25 := hO25.ext he4
    have hs4 := he4.size
    have hn26 := hF26.ln
    try simp only [List.length_append, List.length_cons, List.length_nil, List.length_set, List.length_take, List.length_drop, List.length_replicate, List.length_map, Nat.zero_add, Nat.add_zero, oneP_len, le_len, le8s_len, le8_len, ptB_len, ptI_len] at hn26
    have hc26 := hF26.cap
    refine RL_q rfl (Yd_assign rfl) (RL_nil (X_then (C_seq (C_seq (C_region (RL_q rfl (Yd_fld (off := 1) Try.underlying52 (by kernel_rfl) rfl) (RL_q rfl (Yd_fld (off := 3) Try.underlying24 (by kernel_rfl) rfl) (RL_q rfl (Yd_load Try.underlying22 rfl rfl (ldB hB1 rfl)) (RL_q rfl (Yd_len Try.underlying22 rfl) (RL_q rfl (Yd_move rfl) (RL_nil (X_then (C_block (?_))))))))))))))
    refine C_loop (T := Nat × Option Addr × Nat × Nat) (fun ⟨k, lA4, ln4, lc4⟩ => [(2, .slice none 0 0), (3, .int .i64 0), (4, .slice lA4 ln4 lc4), (29, .slice A_sps n_sps c_sps), (30, .int .i64 (n_sps : Int)), (31, .int .i64 (k : Int))]) (fun ⟨k, lA4, ln4, lc4⟩ lw4 => Ow tU8 5 lw4 W3.heap.size lw4.heap.size lA4 ln4 lc4 (le8s [1, sep, sfr, sdp, ssc, (sps.length : Int)] ++ ptB (sps.take k)) ∧ (k ≤ n_sps) ∧ Kp (fun k => W3.heap.size ≤ k) W4 lw4) (fun ⟨k, lA4, ln4, lc4⟩ => n_sps - k) (⟨0, A26, n26, c26⟩) ⟨rfl, rfl, rfl, rfl, rfl, rfl, trivial⟩ ?_ ?_
    · refine ⟨(hF26.fit).cast ?_, ?_, Kp.refl _ _⟩
      all_goals (try dsimp only)
      all_goals (first | omega | (rw [h_sps.ln]; simp [ptB]; done))
    · rintro ⟨k, lA4, ln4, lc4⟩ lw4 ⟨hR4, hi4_0, hL4⟩
      replace hE := Ext.kp hE hL4 (fun k hk => by first | omega | (have hk := hk; dsimp only at hk; omega))
      replace h_sps := h_sps.kp hL4 (fun k hk => by first | omega | (have hk := hk; dsimp only at hk; omega))
      replace hB1 := hB1.kp hL4 (fun hk => by first | omega | (have hk := hk; dsimp only at hk; omega))
      replace hO25 := hO25.kp hL4 (fun k hk => by first | omega | (have hk := hk; dsimp only at hk; omega))
      have hsL4 := hL4.size
      have hnhR4 := hR4.ln
      try simp only [List.length_append, List.length_cons, List.length_nil, List.length_set, List.length_take, List.length_drop, List.length_replicate, List.length_map, Nat.zero_add, Nat.add_zero, oneP_len, le_len, le8s_len, le8_len, ptB_len, ptI_len] at hnhR4
      have hchR4 := hR4.cap
      refine C_seq (C_region (RL_q rfl (Yd_lss rfl rfl) (RL_nil (X_then (C_seq (?_))))))
      refine C_cond rfl (fun hb32 => ?_) (fun hb32 => ?_)
      · skip
        try simp only [decide_eq_true_eq, decide_eq_false_iff_not, Bool.not_eq_true', Bool.not_eq_false', Decidable.not_not, Int.not_lt, Int.not_le, Bool.or_eq_true, Bool.and_eq_true, Bool.or_eq_false_iff, Bool.and_eq_false_iff] at hb32
        refine C_skip (X_then (C_seq (C_block (C_seq (C_region (?_))))))
        obtain ⟨adA_sps, rfl, hghA_sps, hglA_sps⟩ := Vw.at_ (i := k) h_sps (by omega)
        refine RL_q rfl (Yd_idx Try.underlying22 (sz := 3) (by kernel_rfl) rfl rfl (by omega) (by omega)) (?_)
        obtain ⟨x1, hx1, gx1⟩ := Vw.elem (i := k) h_sps (by omega)
        replace gx1 : (-9223372036854775808 ≤ x1.quota ∧ x1.quota ≤ 9223372036854775807) ∧ (-9223372036854775808 ≤ x1.base ∧ x1.base ≤ 9223372036854775807) ∧ (-9223372036854775808 ≤ x1.pages ∧ x1.pages ≤ 9223372036854775807) := gx1
        refine RL_q rfl (Yd_loadA (cs := [.int .i64 x1.quota, .int .i64 x1.base, .int .i64 x1.pages]) Try.underlying35 rfl (by kernel_rfl) rfl (Vw.lqA h_sps hx1 rfl rfl)) (RL_l rfl (Ld_alloc (v := (.agg #[(.int .i64 0), (.int .i64 0), (.int .i64 0)])) (by kernel_rfl) ?_))
        have hg_6 := hE.size
        intro W5 he5 hz5 hB6
        replace hE := Ext.trans hE he5
        replace h_sps := h_sps.ext he5
        replace hB1 := hB1.ext he5
        replace hO25 := hO25.ext he5
        replace hR4 := hR4.ext he5
        replace hL4 := Kp.go hL4 (Kp.of_ext (G := NoB) he5) (fun _ h => h.elim)
        refine RL_l0 (Ld_store (by kernel_rfl) rfl rfl hB6 (Nat.le_of_ble_eq_true rfl) (by simp [cellsL, Value.cells, Value.oneCell']) ?_)
        intro W6 hu6 hz6 hB6
        have hk6 := Kp.ofb hu6
        have hs6 := hk6.size
        replace hE := Ext.kp hE hk6 (fun k hk => by first | omega | (have hk := hk; dsimp only at hk; omega))
        replace h_sps := h_sps.kp hk6 (fun k hk => by first | omega | (have hk := hk; dsimp only at hk; omega))
        replace hB1 := hB1.kp hk6 (fun hk => by first | omega | (have hk := hk; dsimp only at hk; omega))
        replace hO25 := hO25.kp hk6 (fun k hk => by first | omega | (have hk := hk; dsimp only at hk; omega))
        replace hR4 := hR4.kp hk6 (fun k hk => by first | omega | (have hk := hk; dsimp only at hk; omega))
        try replace hL4 := hL4.go hk6 (fun k hk => by first | omega | (have hk := hk; dsimp only at hk; dsimp only; omega))
        refine RL_nil (X_then (C_region (RL_q rfl (Yd_move rfl) (RL_q rfl (Yd_fld (off := 0) Try.underlying35 (by kernel_rfl) rfl) (RL_q rfl (Yd_load Try.underlying3 rfl rfl (ldB hB6 rfl)) (RL_q rfl (Yd_fld (off := 1) Try.underlying35 (by kernel_rfl) rfl) (RL_q rfl (Yd_load Try.underlying3 rfl rfl (ldB hB6 rfl)) (RL_q rfl (Yd_fld (off := 2) Try.underlying35 (by kernel_rfl) rfl) (RL_q rfl (Yd_load Try.underlying3 rfl rfl (ldB hB6 rfl)) (RL_l rfl (Ld_lit Try.underlying73 rfl (lit_flat Try.underlying73 Try.elt3 rfl rfl ⟨rfl, by decide⟩) ?_)))))))))))
        intro W7 he7 hz7 hL42
        replace hE := Ext.trans hE he7
        replace h_sps := h_sps.ext he7
        replace hB1 := hB1.ext he7
        replace hO25 := hO25.ext he7
        replace hR4 := hR4.ext he7
        replace hL4 := Kp.go hL4 (Kp.of_ext (G := NoB) he7) (fun _ h => h.elim)
        replace hB6 := hB6.ext he7
        have hO42 := Ow.of_blk (T := tI64) (l := [x1.quota, x1.base, x1.pages]) hL42 rfl (n := 3) rfl (by simp [maxLen]) (okc ⟨by omega, by omega⟩ (okc ⟨by omega, by omega⟩ (okc ⟨by omega, by omega⟩ okn)))
        clear hL42
        refine RL_l rfl (Ld_call Try.func48 rfl (by kernel_rfl) rfl (IntsV hR4.vw hO42.vw (by omega) (by omega)) ?_)
        rintro e W8 ⟨A43, n43, c43, rfl, hF43, he8⟩
        refine ⟨_, rfl, ?_⟩
        replace hE := Ext.trans hE he8
        replace h_sps := h_sps.ext he8
        replace hB1 := hB1.ext he8
        replace hO25 := hO25.ext he8
        replace hR4 := hR4.ext he8
        replace hL4 := Kp.go hL4 (Kp.of_ext (G := NoB) he8) (fun _ h => h.elim)
        replace hB6 := hB6.ext he8
        replace hO42 := hO42.ext he8
        have hs8 := he8.size
        have hn43 := hF43.ln
        try simp only [List.length_append, List.length_cons, List.length_nil, List.length_set, List.length_take, List.length_drop, List.length_replicate, List.length_map, Nat.zero_add, Nat.add_zero, oneP_len, le_len, le8s_len, le8_len, ptB_len, ptI_len] at hn43
        have hc43 := hF43.cap
        refine RL_q rfl (Yd_assign rfl) (RL_nil (X_block (X_then (C_region (RL_q rfl (Yd_add rfl rfl (i64w (by omega) (by omega))) (RL_q rfl (Yd_move rfl) (RL_nil (?_))))))))
        refine X_again (⟨k + 1, A43, n43, c43⟩) ⟨rfl, rfl, rfl, rfl, rfl, rfl, trivial⟩ ?_ (by show n_sps - (k + 1) < n_sps - k; omega)
        refine ⟨(hF43.fit.more (by omega) (Nat.le_refl _)).cast ?_, ?_, hL4⟩
        all_goals (try dsimp only)
        all_goals (first | omega | exact ptB_next hx1)
      · skip
        try simp only [decide_eq_true_eq, decide_eq_false_iff_not, Bool.not_eq_true', Bool.not_eq_false', Decidable.not_not, Int.not_lt, Int.not_le, Bool.or_eq_true, Bool.and_eq_true, Bool.or_eq_false_iff, Bool.and_eq_false_iff] at hb32
        refine C_exit (X_thenE (X_thenE (X_blockE (X_then (C_seq (C_region (RL_q rfl (Yd_move rfl) (?_))))))))
        have hkk : sps.take k = sps := List.take_of_length_le (by omega)
        rw [hkk] at hR4
        refine RL_l rfl (Ld_call Try.func49 rfl (by kernel_rfl) rfl (PutV hR4.vw (by omega)) ?_)
        rintro e W5 ⟨A46, n46, c46, rfl, hF46, he5⟩
        refine ⟨_, rfl, ?_⟩
        replace hE := Ext.trans hE he5
        replace h_sps := h_sps.ext he5
        replace hB1 := hB1.ext he5
        replace hO25 := hO25.ext he5
        replace hR4 := hR4.ext he5
        replace hL4 := Kp.go hL4 (Kp.of_ext (G := NoB) he5) (fun _ h => h.elim)
        have hs5 := he5.size
        have hn46 := hF46.ln
        try simp only [List.length_append, List.length_cons, List.length_nil, List.length_set, List.length_take, List.length_drop, List.length_replicate, List.length_map, Nat.zero_add, Nat.add_zero, oneP_len, le_len, le8s_len, le8_len, ptB_len, ptI_len] at hn46
        have hc46 := hF46.cap
        refine RL_q rfl (Yd_assign rfl) (RL_q rfl (Yd_assign rfl) (RL_nil (X_then (C_ret (X_ret2 rfl rfl rfl ?_)))))
        refine ⟨_, _, _, _, rfl, (hF46.fit.more (by omega) (Nat.le_refl _)).cast ?_, ?_, hE⟩
        all_goals (first | exact (wr_no hb9).1.symm | exact (wr_no hb9).2.symm | (rw [(wr_yes hb9).1]; rfl) | exact (wr_yes hb9).2.symm)
theorem refBytesV {sep : Int} {sfr sdp ssc : Int} {lo_sps B_sps : Nat} {A_sps : Option Addr} {n_sps c_sps : Nat} {sps : List Pt} {w : World}  (h_sps : Vw tP w lo_sps B_sps A_sps n_sps c_sps sps) (b_s : -9223372036854775808 ≤ sfr ∧ sfr ≤ 9223372036854775807 ∧ -9223372036854775808 ≤ sdp ∧ sdp ≤ 9223372036854775807 ∧ -9223372036854775808 ≤ ssc ∧ ssc ≤ 9223372036854775807) (e_s : -9223372036854775808 ≤ sep ∧ sep ≤ 9223372036854775807) (hn16 : n_sps ≤ 16) :
    Calls Try.prog 33 #[.agg #[.int .i64 sep, .int .i64 sfr, .int .i64 sdp, .int .i64 ssc, .slice A_sps n_sps c_sps]] w fun e w' => ∃ (A0 : Option Addr) (n0 c0 : Nat), e = .returned (.slice A0 n0 c0) ∧ Ow tU8 5 w' w.heap.size w'.heap.size A0 n0 c0 (supB sep sfr sdp ssc sps) ∧ Ext w w' := by
  have hE := Ext.refl w
  replace h_sps := h_sps.fit
  have hn_sps := h_sps.ln
  have hc_sps := h_sps.cap
  have hm_sps := h_sps.max
  simp only [maxLen] at hm_sps
  refine calls_of (l := [.agg #[.int .i64 sep, .int .i64 sfr, .int .i64 sdp, .int .i64 ssc, .slice A_sps n_sps c_sps]]) (N := 70) Try.func33 rfl rfl rfl ?_
  refine C_seq (C_region (RL_l rfl (Ld_box rfl ?_)))
  have hg_1 := hE.size
  intro W1 he1 hz1 hB1
  replace hE := Ext.trans hE he1
  replace h_sps := h_sps.ext he1
  refine RL_q rfl (Yd_assign rfl) (RL_nil (X_then (C_seq (C_region (RL_q rfl (Yd_assign rfl) (RL_nil (X_then (C_seq (C_region (RL_q rfl (Yd_fld (off := 0) Try.underlying43 (by kernel_rfl) rfl) (RL_q rfl (Yd_load Try.underlying3 rfl rfl (ldB hB1 rfl)) (RL_q rfl (Yd_fld (off := 1) Try.underlying43 (by kernel_rfl) rfl) (RL_q rfl (Yd_fld (off := 0) Try.underlying24 (by kernel_rfl) rfl) (RL_q rfl (Yd_load Try.underlying3 rfl rfl (ldB hB1 rfl)) (RL_q rfl (Yd_fld (off := 1) Try.underlying43 (by kernel_rfl) rfl) (RL_q rfl (Yd_fld (off := 1) Try.underlying24 (by kernel_rfl) rfl) (RL_q rfl (Yd_load Try.underlying3 rfl rfl (ldB hB1 rfl)) (RL_q rfl (Yd_fld (off := 1) Try.underlying43 (by kernel_rfl) rfl) (RL_q rfl (Yd_fld (off := 2) Try.underlying24 (by kernel_rfl) rfl) (RL_q rfl (Yd_load Try.underlying3 rfl rfl (ldB hB1 rfl)) (RL_q rfl (Yd_fld (off := 1) Try.underlying43 (by kernel_rfl) rfl) (RL_q rfl (Yd_fld (off := 3) Try.underlying24 (by kernel_rfl) rfl) (RL_q rfl (Yd_load Try.underlying22 rfl rfl (ldB hB1 rfl)) (RL_q rfl (Yd_len Try.underlying22 rfl) (RL_l rfl (Ld_lit Try.underlying73 rfl (lit_flat Try.underlying73 Try.elt3 rfl rfl ⟨rfl, by decide⟩) ?_))))))))))))))))))))))))))
  intro W2 he2 hz2 hL22
  replace hE := Ext.trans hE he2
  replace h_sps := h_sps.ext he2
  replace hB1 := hB1.ext he2
  have hO22 := Ow.of_blk (T := tI64) (l := [1, sep, sfr, sdp, ssc, (n_sps : Int)]) hL22 rfl (n := 6) rfl (by simp [maxLen]) (okc ⟨by omega, by omega⟩ (okc ⟨by omega, by omega⟩ (okc ⟨by omega, by omega⟩ (okc ⟨by omega, by omega⟩ (okc ⟨by omega, by omega⟩ (okc ⟨by omega, by omega⟩ okn))))))
  clear hL22
  refine RL_q rfl (Yd_assign rfl) (RL_nil (X_then (C_seq (C_seq (C_region (RL_q rfl (Yd_assign rfl) (RL_nil (X_then (C_block (?_))))))))))
  refine C_loop (T := Nat × Option Addr × Nat × Nat) (fun ⟨k, lA4, ln4, lc4⟩ => [(1, .pointer (some ⟨w.heap.size, 0, none⟩)), (2, .slice none 0 0), (3, .slice none 0 0), (4, .slice lA4 ln4 lc4), (5, .int .i64 (k : Int))]) (fun ⟨k, lA4, ln4, lc4⟩ lw2 => Ow tI64 3 lw2 W1.heap.size lw2.heap.size lA4 ln4 lc4 ([1, sep, sfr, sdp, ssc, (sps.length : Int)] ++ ptI (sps.take k)) ∧ (k ≤ n_sps) ∧ Kp (fun k => W1.heap.size ≤ k) W2 lw2) (fun ⟨k, lA4, ln4, lc4⟩ => n_sps - k) (⟨0, (some ⟨W1.heap.size, 0, none⟩), 6, 6⟩) ⟨rfl, rfl, rfl, rfl, rfl, trivial⟩ ?_ ?_
  · refine ⟨(hO22.fit).cast ?_, ?_, Kp.refl _ _⟩
    all_goals (try dsimp only)
    all_goals (first | omega | (rw [h_sps.ln]; simp [ptI]; done))
  · rintro ⟨k, lA4, ln4, lc4⟩ lw2 ⟨hR4, hi2_0, hL2⟩
    replace hE := Ext.kp hE hL2 (fun k hk => by first | omega | (have hk := hk; dsimp only at hk; omega))
    replace h_sps := h_sps.kp hL2 (fun k hk => by first | omega | (have hk := hk; dsimp only at hk; omega))
    replace hB1 := hB1.kp hL2 (fun hk => by first | omega | (have hk := hk; dsimp only at hk; omega))
    have hsL2 := hL2.size
    have hnhR4 := hR4.ln
    try simp only [List.length_append, List.length_cons, List.length_nil, List.length_set, List.length_take, List.length_drop, List.length_replicate, List.length_map, Nat.zero_add, Nat.add_zero, oneP_len, le_len, le8s_len, le8_len, ptB_len, ptI_len] at hnhR4
    have hchR4 := hR4.cap
    refine C_seq (C_seq (C_region (RL_q rfl (Yd_move rfl) (RL_q rfl (Yd_fld (off := 1) Try.underlying43 (by kernel_rfl) rfl) (RL_q rfl (Yd_fld (off := 3) Try.underlying24 (by kernel_rfl) rfl) (RL_q rfl (Yd_load Try.underlying22 rfl rfl (ldB hB1 rfl)) (RL_q rfl (Yd_len Try.underlying22 rfl) (RL_q rfl (Yd_lss rfl rfl) (RL_nil (X_then (?_)))))))))))
    refine C_cond rfl (fun hb28 => ?_) (fun hb28 => ?_)
    · skip
      try simp only [decide_eq_true_eq, decide_eq_false_iff_not, Bool.not_eq_true', Bool.not_eq_false', Decidable.not_not, Int.not_lt, Int.not_le, Bool.or_eq_true, Bool.and_eq_true, Bool.or_eq_false_iff, Bool.and_eq_false_iff] at hb28
      refine C_skip (X_then (C_seq (C_block (?_))))
      refine C_regionD (fun k => (W1.heap.size ≤ k ∧ k < lw2.heap.size)) (l := [(0, true), (1, true), (2, true), (3, true), (4, true), (5, true), (6, true), (7, true), (8, true), (9, true), (10, true), (11, true), (12, true), (13, true), (14, true), (15, true), (16, true), (17, true), (18, true), (19, true), (20, true), (21, true), (22, false), (23, false), (24, true)]) (by kernel_rfl) (by kernel_rfl) rfl (by kernel_rfl) (fun _ _ d _ _ h => by cases d <;> exact h) ?_
      intro W3 he3 hh3
      replace hE := Ext.trans hE he3
      replace h_sps := h_sps.ext he3
      replace hB1 := hB1.ext he3
      replace hR4 := hR4.ext he3
      replace hL2 := Kp.go hL2 (Kp.of_ext (G := NoB) he3) (fun _ h => h.elim)
      have hs3 := he3.size
      refine RO_q rfl rfl (Yd_move rfl) (RO_q rfl rfl (Yd_fld (off := 1) Try.underlying43 (by kernel_rfl) rfl) (RO_q rfl rfl (Yd_fld (off := 3) Try.underlying24 (by kernel_rfl) rfl) (RO_q rfl rfl (Yd_load Try.underlying22 rfl rfl (fun W hW => ldBK hB1 rfl hW (fun hk => by first | omega | (have hk := hk; dsimp only at hk; omega)))) (RO_q rfl rfl (Yd_move rfl) (?_)))))
      obtain ⟨adA_sps, rfl, hghA_sps, hglA_sps⟩ := Vw.at_ (i := k) h_sps (by omega)
      refine RO_q rfl rfl (Yd_idx Try.underlying22 (sz := 3) (by kernel_rfl) rfl rfl (by omega) (by omega)) (RO_q rfl rfl (Yd_fldG (off := 0) Try.underlying35 (by kernel_rfl) rfl) (?_))
      obtain ⟨x1, hx1, gx1⟩ := Vw.elem (i := k) h_sps (by omega)
      replace gx1 : (-9223372036854775808 ≤ x1.quota ∧ x1.quota ≤ 9223372036854775807) ∧ (-9223372036854775808 ≤ x1.base ∧ x1.base ≤ 9223372036854775807) ∧ (-9223372036854775808 ≤ x1.pages ∧ x1.pages ≤ 9223372036854775807) := gx1
      refine RO_q rfl rfl (Yd_load Try.underlying3 rfl rfl (fun W hW => (Vw.lqF (Vw.kp h_sps hW (fun k hk => by first | omega | (have hk := hk; dsimp only at hk; omega))) hx1 rfl rfl) W (Ext.refl W))) (RO_q rfl rfl (Yd_fld (off := 1) Try.underlying43 (by kernel_rfl) rfl) (RO_q rfl rfl (Yd_fld (off := 3) Try.underlying24 (by kernel_rfl) rfl) (RO_q rfl rfl (Yd_load Try.underlying22 rfl rfl (fun W hW => ldBK hB1 rfl hW (fun hk => by first | omega | (have hk := hk; dsimp only at hk; omega)))) (RO_q rfl rfl (Yd_move rfl) (RO_q rfl rfl (Yd_idx Try.underlying22 (sz := 3) (by kernel_rfl) rfl rfl (by omega) (by omega)) (RO_q rfl rfl (Yd_fldG (off := 1) Try.underlying35 (by kernel_rfl) rfl) (RO_q rfl rfl (Yd_load Try.underlying3 rfl rfl (fun W hW => (Vw.lqF (Vw.kp h_sps hW (fun k hk => by first | omega | (have hk := hk; dsimp only at hk; omega))) hx1 rfl rfl) W (Ext.refl W))) (RO_q rfl rfl (Yd_fld (off := 1) Try.underlying43 (by kernel_rfl) rfl) (RO_q rfl rfl (Yd_fld (off := 3) Try.underlying24 (by kernel_rfl) rfl) (RO_q rfl rfl (Yd_load Try.underlying22 rfl rfl (fun W hW => ldBK hB1 rfl hW (fun hk => by first | omega | (have hk := hk; dsimp only at hk; omega)))) (RO_q rfl rfl (Yd_move rfl) (RO_q rfl rfl (Yd_idx Try.underlying22 (sz := 3) (by kernel_rfl) rfl rfl (by omega) (by omega)) (RO_q rfl rfl (Yd_fldG (off := 2) Try.underlying35 (by kernel_rfl) rfl) (RO_q rfl rfl (Yd_load Try.underlying3 rfl rfl (fun W hW => (Vw.lqF (Vw.kp h_sps hW (fun k hk => by first | omega | (have hk := hk; dsimp only at hk; omega))) hx1 rfl rfl) W (Ext.refl W))) (RO_l rfl rfl (Ld_lit Try.underlying73 rfl (lit_flat Try.underlying73 Try.elt3 rfl rfl ⟨rfl, by decide⟩) ?_))))))))))))))))
      intro W4 he4 hz4 hL53
      refine ⟨Kp.of_ext he4, ?_⟩
      replace hE := Ext.trans hE he4
      replace h_sps := h_sps.ext he4
      replace hB1 := hB1.ext he4
      replace hR4 := hR4.ext he4
      replace hL2 := Kp.go hL2 (Kp.of_ext (G := NoB) he4) (fun _ h => h.elim)
      have hO53 := Ow.of_blk (T := tI64) (l := [x1.quota, x1.base, x1.pages]) hL53 rfl (n := 3) rfl (by simp [maxLen]) (okc ⟨by omega, by omega⟩ (okc ⟨by omega, by omega⟩ (okc ⟨by omega, by omega⟩ okn)))
      clear hL53
      refine RO_l rfl rfl (Ld_apO (T := tI64) Try.underlying73 Try.elt3 rfl rfl rfl hR4 hO53.vw (by simp only [maxLen]; omega) (by omega) (by omega) ?_)
      intro A54 c54 W5 hO54 hk5
      refine ⟨hk5.mono (fun k hk => by first | omega | exact hk | (have hk := hk; dsimp only at hk; first | omega | (dsimp only; omega))), ?_⟩
      have hs5 := hk5.size
      replace hE := Ext.kp hE hk5 (fun k hk => by first | omega | (have hk := hk; dsimp only at hk; omega))
      replace h_sps := h_sps.kp hk5 (fun k hk => by first | omega | (have hk := hk; dsimp only at hk; omega))
      replace hB1 := hB1.kp hk5 (fun hk => by first | omega | (have hk := hk; dsimp only at hk; omega))
      try replace hL2 := hL2.go hk5 (fun k hk => by first | omega | (have hk := hk; dsimp only at hk; dsimp only; omega))
      replace hO53 := hO53.kp hk5 (fun k hk => by first | omega | (have hk := hk; dsimp only at hk; omega))
      have hn54 := hO54.ln
      try simp only [List.length_append, List.length_cons, List.length_nil, List.length_set, List.length_take, List.length_drop, List.length_replicate, List.length_map, Nat.zero_add, Nat.add_zero, oneP_len, le_len, le8s_len, le8_len, ptB_len, ptI_len] at hn54
      have hc54 := hO54.cap
      refine RO_q rfl rfl (Yd_assign rfl) (RO_nil (X_block (X_then (C_region (RL_q rfl (Yd_move rfl) (RL_q rfl (Yd_add rfl rfl (i64w (by omega) (by omega))) (RL_q rfl (Yd_assign rfl) (RL_nil (?_)))))))))
      refine X_again (⟨k + 1, A54, (ln4 + 3), c54⟩) ⟨rfl, rfl, rfl, rfl, rfl, trivial⟩ ?_ (by show n_sps - (k + 1) < n_sps - k; omega)
      refine ⟨hO54.fit.cast ?_, ?_, hL2⟩
      all_goals (try dsimp only)
      all_goals (first | omega | exact ptI_next hx1)
    · skip
      try simp only [decide_eq_true_eq, decide_eq_false_iff_not, Bool.not_eq_true', Bool.not_eq_false', Decidable.not_not, Int.not_lt, Int.not_le, Bool.or_eq_true, Bool.and_eq_true, Bool.or_eq_false_iff, Bool.and_eq_false_iff] at hb28
      have hkk : sps.take k = sps := List.take_of_length_le (by omega)
      rw [hkk] at hR4
      have hn4 := hR4.ln
      refine C_exit (X_thenE (X_thenE (X_blockE (X_then (C_seq (C_seq (C_region (RL_q rfl (Yd_assign rfl) (RL_nil (X_then (C_block (?_))))))))))))
      refine C_loop (T := Nat × Option Addr × Nat × Nat) (fun ⟨j, lA3, ln3, lc3⟩ => [(2, .slice none 0 0), (3, .slice lA3 ln3 lc3), (4, .slice lA4 ln4 lc4), (6, .int .i64 (j : Int))]) (fun ⟨j, lA3, ln3, lc3⟩ lw102001 => Ow tU8 5 lw102001 lw2.heap.size lw102001.heap.size lA3 ln3 lc3 (le8s (([1, sep, sfr, sdp, ssc, (sps.length : Int)] ++ ptI sps).take j)) ∧ (j ≤ ln4) ∧ Ext lw2 lw102001) (fun ⟨j, lA3, ln3, lc3⟩ => ln4 - j) (⟨0, none, 0, 0⟩) ⟨rfl, rfl, rfl, rfl, trivial⟩ ?_ ?_
      · refine ⟨(Ow.nil (lo := lw2.heap.size)).cast ?_, ?_, Ext.refl _⟩
        all_goals (try dsimp only)
        all_goals (first | omega | rfl)
      · rintro ⟨j, lA3, ln3, lc3⟩ lw102001 ⟨hR3, hi102001_0, hL102001⟩
        replace hE := Ext.trans hE hL102001
        replace h_sps := h_sps.ext hL102001
        replace hB1 := hB1.ext hL102001
        replace hR4 := hR4.ext hL102001
        replace hL2 := Kp.go hL2 (Kp.of_ext (G := NoB) hL102001) (fun _ h => h.elim)
        have hsL102001 := hL102001.size
        have hnhR3 := hR3.ln
        try simp only [List.length_append, List.length_cons, List.length_nil, List.length_set, List.length_take, List.length_drop, List.length_replicate, List.length_map, Nat.zero_add, Nat.add_zero, oneP_len, le_len, le8s_len, le8_len, ptB_len, ptI_len] at hnhR3
        have hchR3 := hR3.cap
        refine C_seq (C_seq (C_region (RL_q rfl (Yd_move rfl) (RL_q rfl (Yd_move rfl) (RL_q rfl (Yd_len Try.underlying73 rfl) (RL_q rfl (Yd_lss rfl rfl) (RL_nil (X_then (?_)))))))))
        refine C_cond rfl (fun hb58 => ?_) (fun hb58 => ?_)
        · skip
          try simp only [decide_eq_true_eq, decide_eq_false_iff_not, Bool.not_eq_true', Bool.not_eq_false', Decidable.not_not, Int.not_lt, Int.not_le, Bool.or_eq_true, Bool.and_eq_true, Bool.or_eq_false_iff, Bool.and_eq_false_iff] at hb58
          refine C_skip (X_then (C_seq (C_block (C_region (RL_q rfl (Yd_move rfl) (RL_q rfl (Yd_move rfl) (RL_q rfl (Yd_move rfl) (?_))))))))
          obtain ⟨glA4, rfl, hgllA4, hghlA4⟩ := Ow.at_ (i := j) hR4 (by omega)
          refine RL_q rfl (Yd_idxL Try.underlying73 (sz := 1) (by kernel_rfl) rfl rfl (by omega) (by omega)) (?_)
          obtain ⟨x2, hx2, gx2⟩ := Vw.elem (i := j) hR4.vw (by omega)
          replace gx2 : -9223372036854775808 ≤ x2 ∧ x2 ≤ 9223372036854775807 := gx2
          refine RL_q rfl (Yd_load Try.underlying3 rfl rfl (Vw.lq1L hR4.vw hx2 rfl rfl)) (RL_l rfl (Ld_call Try.func50 rfl (by kernel_rfl) rfl (refIntV ⟨by first | omega | (dsimp only; omega), by first | omega | (dsimp only; omega)⟩) ?_))
          rintro e W3 ⟨A66, n66, c66, rfl, hF66, he3⟩
          refine ⟨_, rfl, ?_⟩
          replace hE := Ext.trans hE he3
          replace h_sps := h_sps.ext he3
          replace hB1 := hB1.ext he3
          replace hR4 := hR4.ext he3
          replace hL2 := Kp.go hL2 (Kp.of_ext (G := NoB) he3) (fun _ h => h.elim)
          replace hR3 := hR3.ext he3
          replace hL102001 := Ext.trans hL102001 he3
          have hs3 := he3.size
          have hn66 := hF66.ln
          try simp only [List.length_append, List.length_cons, List.length_nil, List.length_set, List.length_take, List.length_drop, List.length_replicate, List.length_map, Nat.zero_add, Nat.add_zero, oneP_len, le_len, le8s_len, le8_len, ptB_len, ptI_len] at hn66
          have hc66 := hF66.cap
          refine RL_l rfl (Ld_apO (T := tU8) Try.underlying47 Try.elt5 rfl rfl rfl hR3 hF66.vw (by simp only [maxLen]; omega) (by omega) (by omega) ?_)
          intro A67 c67 W4 hO67 hk4
          have hs4 := hk4.size
          replace hE := Ext.kp hE hk4 (fun k hk => by first | omega | (have hk := hk; dsimp only at hk; omega))
          replace h_sps := h_sps.kp hk4 (fun k hk => by first | omega | (have hk := hk; dsimp only at hk; omega))
          replace hB1 := hB1.kp hk4 (fun hk => by first | omega | (have hk := hk; dsimp only at hk; omega))
          replace hR4 := hR4.kp hk4 (fun k hk => by first | omega | (have hk := hk; dsimp only at hk; omega))
          try replace hL2 := hL2.go hk4 (fun k hk => by first | omega | (have hk := hk; dsimp only at hk; dsimp only; omega))
          try replace hL102001 := Ext.kp hL102001 hk4 (fun k hk => by first | omega | (have hk := hk; dsimp only at hk; omega))
          replace hF66 := hF66.kp hk4 (fun k hk => by first | omega | (have hk := hk; dsimp only at hk; omega))
          have hn67 := hO67.ln
          try simp only [List.length_append, List.length_cons, List.length_nil, List.length_set, List.length_take, List.length_drop, List.length_replicate, List.length_map, Nat.zero_add, Nat.add_zero, oneP_len, le_len, le8s_len, le8_len, ptB_len, ptI_len] at hn67
          have hc67 := hO67.cap
          refine RL_q rfl (Yd_assign rfl) (RL_nil (X_block (X_then (C_region (RL_q rfl (Yd_move rfl) (RL_q rfl (Yd_add rfl rfl (i64w (by omega) (by omega))) (RL_q rfl (Yd_assign rfl) (RL_nil (?_)))))))))
          refine X_again (⟨j + 1, A67, (ln3 + n66), c67⟩) ⟨rfl, rfl, rfl, rfl, trivial⟩ ?_ (by show ln4 - (j + 1) < ln4 - j; omega)
          refine ⟨hO67.fit.cast ?_, ?_, hL102001⟩
          all_goals (try dsimp only)
          all_goals (first | omega | exact le8s_next (by assumption))
        · skip
          try simp only [decide_eq_true_eq, decide_eq_false_iff_not, Bool.not_eq_true', Bool.not_eq_false', Decidable.not_not, Int.not_lt, Int.not_le, Bool.or_eq_true, Bool.and_eq_true, Bool.or_eq_false_iff, Bool.and_eq_false_iff] at hb58
          refine C_exit (X_thenE (X_thenE (X_blockE (X_then (C_seq (C_region (RL_q rfl (Yd_move rfl) (?_))))))))
          have hjj : ([1, sep, sfr, sdp, ssc, (sps.length : Int)] ++ ptI sps).take j = ([1, sep, sfr, sdp, ssc, (sps.length : Int)] ++ ptI sps) := List.take_of_length_le (by omega)
          rw [hjj, le8s_append, le8s_ptI] at hR3
          refine RL_l rfl (Ld_call Try.func51 rfl (by kernel_rfl) rfl (refPutV hR3.vw (by omega)) ?_)
          rintro e W3 ⟨A69, n69, c69, rfl, hF69, he3⟩
          refine ⟨_, rfl, ?_⟩
          replace hE := Ext.trans hE he3
          replace h_sps := h_sps.ext he3
          replace hB1 := hB1.ext he3
          replace hR4 := hR4.ext he3
          replace hL2 := Kp.go hL2 (Kp.of_ext (G := NoB) he3) (fun _ h => h.elim)
          replace hR3 := hR3.ext he3
          replace hL102001 := Ext.trans hL102001 he3
          have hs3 := he3.size
          have hn69 := hF69.ln
          try simp only [List.length_append, List.length_cons, List.length_nil, List.length_set, List.length_take, List.length_drop, List.length_replicate, List.length_map, Nat.zero_add, Nat.add_zero, oneP_len, le_len, le8s_len, le8_len, ptB_len, ptI_len] at hn69
          have hc69 := hF69.cap
          refine RL_q rfl (Yd_assign rfl) (RL_nil (X_then (C_ret (X_ret1 rfl rfl ?_))))
          refine ⟨_, _, _, rfl, (hF69.fit.more (by omega) (Nat.le_refl _)).cast ?_, hE⟩
          all_goals (rfl)
theorem lives06V  {w : World}   :
    Calls Try.prog 34 #[] w fun e w' => ∃ (x0 : Bool), e = .returned (.bool x0) ∧ x0 = (true) ∧ Ext w w' := by
  have hE := Ext.refl w
  refine calls_of (l := []) (N := 19) Try.func34 rfl rfl rfl ?_
  refine C_seq (C_region (RL_q rfl (Yd_assign rfl) (RL_nil (X_then (C_seq (C_region (RL_q rfl (Yd_build Try.bld35 rfl rfl) (RL_q rfl (Yd_build Try.bld35 rfl rfl) (RL_l rfl (Ld_lit Try.underlying22 rfl (lit_flat Try.underlying22 Try.elt35 rfl rfl ⟨rfl, by decide⟩) ?_))))))))))
  intro W1 he1 hz1 hL6
  replace hE := Ext.trans hE he1
  have hO6 := Ow.of_blk (T := tP) (l := [(⟨1, 0, 2⟩ : Pt), (⟨2, 4, 2⟩ : Pt)]) hL6 rfl (n := 2) rfl (by simp [maxLen]) (okc ⟨⟨by dsimp only; omega, by dsimp only; omega⟩, ⟨by dsimp only; omega, by dsimp only; omega⟩, ⟨by dsimp only; omega, by dsimp only; omega⟩⟩ (okc ⟨⟨by dsimp only; omega, by dsimp only; omega⟩, ⟨by dsimp only; omega, by dsimp only; omega⟩, ⟨by dsimp only; omega, by dsimp only; omega⟩⟩ okn))
  clear hL6
  refine RL_q rfl (Yd_build Try.bld24 rfl rfl) (RL_q rfl (Yd_build Try.bld52 rfl rfl) (RL_l rfl (Ld_call Try.func30 rfl (by kernel_rfl) rfl (WriteV (sep := 1) (sfr := 3) (sdp := 2) (ssc := 8) hO6.vw ⟨by omega, by omega, by omega, by omega, by omega, by omega⟩ ⟨by omega, by omega⟩) ?_)))
  rintro e W2 ⟨A9_0, n9_0, c9_0, y9_1, rfl, hF9_0, hy9_1, he2⟩
  refine ⟨_, rfl, ?_⟩
  replace hE := Ext.trans hE he2
  replace hO6 := hO6.ext he2
  have hs2 := he2.size
  have hn9_0 := hF9_0.ln
  try simp only [List.length_append, List.length_cons, List.length_nil, List.length_set, List.length_take, List.length_drop, List.length_replicate, List.length_map, Nat.zero_add, Nat.add_zero, oneP_len, le_len, le8s_len, le8_len, ptB_len, ptI_len] at hn9_0
  have hc9_0 := hF9_0.cap
  have hw9 : wrB 1 3 2 8 [(⟨1, 0, 2⟩ : Pt), (⟨2, 4, 2⟩ : Pt)] = supB 1 3 2 8 [⟨1, 0, 2⟩, ⟨2, 4, 2⟩] := (wr_yes (by decide)).1
  rw [hw9, supB_len] at hn9_0
  simp only [List.length_cons, List.length_nil] at hn9_0
  refine RL_q rfl (Yd_move rfl) (RL_q rfl (Yd_extract rfl rfl) (RL_q rfl (Yd_extract rfl rfl) (RL_q rfl (Yd_assign rfl) (RL_q rfl (Yd_assign rfl) (RL_nil (X_then (C_seq (C_region (RL_q rfl (Yd_move rfl) (RL_q rfl (Yd_eql rfl rfl) (RL_q rfl (Yd_move rfl) (?_))))))))))))
  refine RL_is (d := 14) (b' := true) rfl (by rw [hy9_1]; decide) ?_
  refine RL_gq rfl rfl rfl (Yd_move rfl) (RL_gq rfl rfl rfl (Yd_len Try.underlying47 rfl) (RL_gq rfl rfl rfl (Yd_eql rfl rfl) (RL_q rfl (Yd_pickT rfl rfl) (RL_q rfl (Yd_assign rfl) (RL_nil (X_then (C_ret (X_ret1 rfl rfl ?_))))))))
  refine ⟨_, rfl, ?_, hE⟩
  all_goals (first | rfl | omega | (simp; omega))
end Go.Proofs.AL
