import Derived.Test.YtikfkmcgdceaoaaSeq
set_option linter.unusedVariables false
set_option linter.unusedSimpArgs false
namespace Go.Proofs.AL
open Go.RowKit

structure F where
  used : Bool
  dirty : Bool
  ref : Bool
  pins : Int
theorem F_ext (a b : F) : a = b ↔ (a.used = b.used ∧ a.dirty = b.dirty ∧ a.ref = b.ref ∧ a.pins = b.pins) := by
  cases a; cases b; simp
instance : DecidableEq F := fun a b => decidable_of_iff _ (F_ext a b).symm
theorem F_eq (a b : F) : ((a.used == b.used) && ((a.dirty == b.dirty) && ((a.ref == b.ref) && ((a.pins == b.pins) && true)))) = decide (a = b) := by
  rw [Bool.eq_iff_iff]
  simp [F_ext]
def tF : Ty F := ⟨4, fun f => [.bool f.used, .bool f.dirty, .bool f.ref, .int .i64 f.pins], fun f => -9223372036854775808 ≤ f.pins ∧ f.pins ≤ 9223372036854775807, fun _ => rfl, fun _ v hv => by
  simp at hv
  rcases hv with rfl | rfl | rfl | rfl <;> rfl, by decide⟩
def fGoes (f : F) : Bool := !f.used || decide (f.pins = 0)
def found (f : F) : Bool := !f.used || (decide (f.pins = 0) && !f.ref)
def clr (f : F) : F := if f.used = true ∧ f.pins = 0 then { f with ref := false } else f
def turnK (h n : Nat) : Nat → Nat → List F → Option Nat × List F
  | 0, _, l => (none, l)
  | d + 1, k, l => match l[(h + k) % n]? with
    | none => (none, l)
    | some f => if found f = true then (some k, l.set ((h + k) % n) (clr f)) else turnK h n d (k + 1) (l.set ((h + k) % n) (clr f))
theorem turnK_found {h n d k : Nat} {l : List F} {f : F} (hd : 0 < d) (hf : l[(h + k) % n]? = some f) (hx : found f = true) : turnK h n d k l = (some k, l.set ((h + k) % n) (clr f)) := by
  obtain ⟨d, rfl⟩ : ∃ e, d = e + 1 := ⟨d - 1, by omega⟩
  simp only [turnK, hf, hx, if_true]
theorem turnK_next {h n d k : Nat} {l : List F} {f : F} (hd : 0 < d) (hf : l[(h + k) % n]? = some f) (hx : found f = false) : turnK h n d k l = turnK h n (d - 1) (k + 1) (l.set ((h + k) % n) (clr f)) := by
  obtain ⟨d, rfl⟩ : ∃ e, d = e + 1 := ⟨d - 1, by omega⟩
  simp only [turnK, hf, hx]
  rfl
theorem turnK_zero {h n k : Nat} {l : List F} : turnK h n 0 k l = (none, l) := rfl
theorem turnK_len {h n : Nat} : ∀ (d k : Nat) (l : List F), (turnK h n d k l).2.length = l.length
  | 0, k, l => rfl
  | d + 1, k, l => by
    simp only [turnK]
    split
    · rfl
    · split
      · simp
      · rw [turnK_len d]; simp
def tV (h n : Nat) (r : Option Nat × List F) : Int := match r.1 with | some k => ((h + k) % n : Nat) | none => 0
def tN (h n : Nat) (r : Option Nat × List F) : Int := match r.1 with | some k => (((h + k) % n + 1) % n : Nat) | none => h
def tL (r : Option Nat × List F) : Int := match r.1 with | some k => (k + 1 : Nat) | none => 0
abbrev turn0 (h n : Nat) (l : List F) := turnK h n (2 * n) 0 l
theorem turn0_len (h n : Nat) (l : List F) : (turn0 h n l).2.length = l.length := turnK_len _ _ _
theorem set_self {l : List F} {i : Nat} {f : F} (h : l[i]? = some f) : l = l.set i f := by
  obtain ⟨hi, e⟩ := List.getElem?_eq_some_iff.1 h
  subst e
  simp
theorem turnK_skip {h n d k : Nat} {l : List F} {f : F} (hd : 0 < d) (hf : l[(h + k) % n]? = some f) (hg : fGoes f = false) : turnK h n d k l = turnK h n (d - 1) (k + 1) l := by
  simp only [fGoes, Bool.or_eq_false_iff, Bool.not_eq_false', decide_eq_false_iff_not] at hg
  rw [turnK_next hd hf (by simp [found, hg.1, hg.2]), show clr f = f from by unfold clr; rw [if_neg (by simp [hg.2])], ← set_self hf]
theorem turnK_clear {h n d k : Nat} {l : List F} {f : F} (hd : 0 < d) (hf : l[(h + k) % n]? = some f) (hg : fGoes f = true) (hu : f.used = true ∧ f.ref = true) : turnK h n d k l = turnK h n (d - 1) (k + 1) (l.set ((h + k) % n) ⟨f.used, f.dirty, false, f.pins⟩) := by
  have hp : f.pins = 0 := by simpa [fGoes, hu.1] using hg
  rw [turnK_next hd hf (by simp [found, hu.1, hu.2]), show clr f = ⟨f.used, f.dirty, false, f.pins⟩ from by unfold clr; rw [if_pos ⟨hu.1, hp⟩]]
theorem turnK_hit {h n d k : Nat} {l : List F} {f : F} (hd : 0 < d) (hf : l[(h + k) % n]? = some f) (hg : fGoes f = true) (hu : f.used = false ∨ f.ref = false) : turnK h n d k l = (some k, l) := by
  have hc : clr f = f := by
    unfold clr
    split
    · rename_i hh
      rcases hu with hu | hu
      · rw [hu] at hh; cases hh.1
      · cases f; simp_all
    · rfl
  rw [turnK_found hd hf (by simp only [fGoes, found] at *; rcases hu with hu | hu <;> simp_all), hc, ← set_self hf]
def count (l : List F) : Nat := (l.filter fGoes).length
theorem count_next {l : List F} {i : Nat} {f : F} (h : l[i]? = some f) : count (l.take (i + 1)) = count (l.take i) + (if fGoes f = true then 1 else 0) := by
  obtain ⟨hi, e⟩ := List.getElem?_eq_some_iff.1 h
  rw [List.take_succ_eq_append_getElem hi, e]
  unfold count
  rw [List.filter_append, List.length_append]
  cases hg : fGoes f <;> simp [hg]
theorem cnt_yes {l : List F} {k c : Nat} {f : F} (h : l[k]? = some f) (hg : fGoes f = true) (hc : c = count (l.take k)) : c + 1 = count (l.take (k + 1)) := by rw [count_next h, if_pos hg, hc]
theorem cnt_no {l : List F} {k c : Nat} {f : F} (h : l[k]? = some f) (hg : fGoes f = false) (hc : c = count (l.take k)) : c = count (l.take (k + 1)) := by rw [count_next h, if_neg (by rw [hg]; simp), hc]; rfl
theorem take_next' {α : Type} {l : List α} {x : α} {k : Nat} (hx : l[k]? = some x) : l.take k ++ [x] = l.take (k + 1) := by
  obtain ⟨hk, e⟩ := List.getElem?_eq_some_iff.1 hx
  rw [List.take_succ_eq_append_getElem hk, e]
theorem take_both {a b : List F} {k : Nat} {x y : F} (h : a.take k = b.take k) (hx : a[k]? = some x) (hy : b[k]? = some y) (e : x = y) : a.take (k + 1) = b.take (k + 1) := by rw [← take_next' hx, ← take_next' hy, h, e]
theorem same_all {a b : List F} {k : Nat} (h : a.take k = b.take k) (ha : a.length ≤ k) (hb : b.length ≤ k) : a = b := by rwa [List.take_of_length_le ha, List.take_of_length_le hb] at h
def zF : F := ⟨false, false, false, 0⟩
def goodF (f : F) : F := if f.used = true then ⟨true, f.dirty, f.ref, around f.pins 3⟩ else zF
def goodL (l : List F) : List F := if l.length = 0 then [zF] else (l.take 8).map goodF
theorem goodF_next1 {l : List F} {k : Nat} {x : F} {y : Int} (hx : l[k]? = some x) (hu : x.used = true) (hy : y = around x.pins 3) : (l.take k).map goodF ++ [⟨true, x.dirty, x.ref, y⟩] = (l.take (k + 1)).map goodF := by
  rw [← take_next' hx, List.map_append, hy]; simp [goodF, hu]
theorem goodF_next0 {l : List F} {k : Nat} {x : F} (hx : l[k]? = some x) (hu : x.used = false) : (l.take k).map goodF ++ [⟨false, false, false, 0⟩] = (l.take (k + 1)).map goodF := by
  rw [← take_next' hx, List.map_append]; simp [goodF, hu, zF]
theorem goodL_nil {l : List F} (h : l.length = 0) : [⟨false, false, false, 0⟩] = goodL l := by unfold goodL; rw [if_pos h]; rfl
theorem goodL_len (l : List F) : 0 < (goodL l).length ∧ (goodL l).length ≤ 8 := by
  unfold goodL
  split
  · decide
  · rw [List.length_map, List.length_take]; omega
theorem goodL_all {l : List F} {k : Nat} (h : 0 < l.length) (h8 : k ≤ 8) (hk : k = l.length ∨ k = 8) : (l.take k).map goodF = goodL l := by
  unfold goodL
  rw [if_neg (by omega)]
  rcases hk with rfl | rfl
  · rw [List.take_length, List.take_of_length_le h8]
  · rfl
theorem AroundV {n : Int} {m : Int} {w : World}  (b_n : -9223372036854775808 ≤ n ∧ n ≤ 9223372036854775807) (b_m : 1 ≤ m ∧ m ≤ 9223372036854775807) :
    Calls Try.prog 15 #[.int .i64 n, .int .i64 m] w fun e w' => ∃ (x0 : Int), e = .returned (.int .i64 x0) ∧ x0 = (around n m) ∧ (0 ≤ x0 ∧ x0 < m) ∧ w = w' :=
  Calls.mono (Around_c n m w b_n.1 b_n.2 b_m.1 b_m.2) fun e w' ⟨h1, h2⟩ => ⟨_, h1, rfl, around_range n (m := m) (by omega), h2⟩
theorem FlFree {p : Addr} {pins : Int} {w : World}  (hp : w.cell? (p.add 3) = some (.int .i64 pins)) :
    Calls Try.prog 19 #[.pointer (some p)] w fun e w' => ∃ (x0 : Bool), e = .returned (.bool x0) ∧ x0 = (decide (pins = 0)) ∧ w = w' := by
  have hE := Ext.refl w
  refine calls_of (l := [.pointer (some p)]) (N := 8) Try.func19 rfl rfl rfl ?_
  refine C_seq (C_region (RL_q rfl (Yd_assign rfl) (RL_nil (X_then (C_seq (C_region (RL_q rfl (Yd_move rfl) (RL_q rfl (Yd_nil rfl) (RL_q rfl (Yd_fldG (off := 3) Try.underlying25 (by kernel_rfl) rfl) (RL_q rfl (Yd_load Try.underlying3 rfl rfl (fun W hW => (hW.cell (World.block_lt_of_cell? w _ hp)).trans hp)) (RL_q rfl (Yd_eql rfl rfl) (RL_q rfl (Yd_assign rfl) (RL_nil (X_then (C_ret (X_ret1 rfl rfl ?_))))))))))))))))
  refine ⟨_, rfl, ?_, rfl⟩
  all_goals (first | rfl | omega | simp)
theorem goesC {i : Int} {gb g n c lo B : Nat} {l : List F} {w : World}   (hbx : Blk w gb 56 [.slice (some ⟨g, 0, none⟩) n c]) (hr : Ow tF 25 w lo B (some ⟨g, 0, none⟩) n c l) (hlo : lo ≤ B ∧ B ≤ gb) (hin : 0 ≤ i ∧ i < n) :
    Calls Try.prog 55 #[.int .i64 i, .pointer (some ⟨gb, 0, none⟩)] w fun e w' => ∃ (x : Bool) (f : F), e = .returned (.bool x) ∧ l[i.toNat]? = some f ∧ x = found f ∧ Ow tF 25 w' lo B (some ⟨g, 0, none⟩) n c (l.set i.toNat (clr f)) ∧ Kp (fun k => lo ≤ k ∧ k < B) w w' := by
  have hE := Ext.refl w
  have hnr := hr.ln
  have hcr := hr.cap
  have hgB : g < B := hr.hi _ rfl
  have hgl : lo ≤ g := (hr.own.lt' _ rfl).1
  have hK : Kp (fun k => lo ≤ k ∧ k < B) w w := Kp.refl _ _
  refine calls_of (l := [.int .i64 i, .pointer (some ⟨gb, 0, none⟩)]) (N := 28) Try.func55 rfl rfl rfl ?_
  refine C_seq (C_region (RL_q rfl (Yd_assign rfl) (RL_nil (X_then (C_seq (C_region (RL_q rfl (Yd_load Try.underlying56 rfl rfl (ldB hbx rfl)) (RL_q rfl (Yd_move rfl) (RL_q rfl (Yd_idxL Try.underlying56 (sz := 4) (by kernel_rfl) rfl rfl (by omega) (by omega)) (RL_q rfl (Yd_assign rfl) (RL_nil (X_then (C_seq (C_block (C_seq (C_region (RL_q rfl (Yd_move rfl) (RL_q rfl (Yd_nil rfl) (RL_q rfl (Yd_fld (off := 0) Try.underlying25 (by kernel_rfl) rfl) (?_))))))))))))))))))))
  obtain ⟨x1, hx1, gx1⟩ := Vw.elem (i := i.toNat) hr.vw (by omega)
  replace gx1 : -9223372036854775808 ≤ x1.pins ∧ x1.pins ≤ 9223372036854775807 := gx1
  refine RL_q rfl (Yd_load Try.underlying4 rfl rfl (Vw.lqFL hr.vw hx1 rfl rfl)) (RL_q rfl (Yd_not rfl) (RL_q rfl (Yd_assign rfl) (RL_nil (X_then (?_)))))
  refine C_cond rfl (fun hb9 => ?_) (fun hb9 => ?_)
  · skip
    try simp only [decide_eq_true_eq, decide_eq_false_iff_not, Bool.not_eq_true', Bool.not_eq_false', Decidable.not_not, Int.not_lt, Int.not_le, Bool.or_eq_true, Bool.and_eq_true, Bool.or_eq_false_iff, Bool.and_eq_false_iff] at hb9
    refine C_seq (C_region (RL_q rfl (Yd_assign rfl) (RL_nil (X_then (C_ret (X_blockR (X_thenR (X_ret1 rfl rfl ?_))))))))
    refine ⟨_, x1, rfl, hx1, ?_, ?_, hK⟩
    · simp [found, hb9]
    · have hcl : clr x1 = x1 := by unfold clr; rw [if_neg (by simp [hb9])]
      rw [hcl, ← set_self hx1]; exact hr
  · skip
    try simp only [decide_eq_true_eq, decide_eq_false_iff_not, Bool.not_eq_true', Bool.not_eq_false', Decidable.not_not, Int.not_lt, Int.not_le, Bool.or_eq_true, Bool.and_eq_true, Bool.or_eq_false_iff, Bool.and_eq_false_iff] at hb9
    refine C_seq (C_region (RL_q rfl (Yd_move rfl) (RL_l rfl (Ld_call Try.func19 rfl (by kernel_rfl) rfl (FlFree (by exact Vw.lqFL hr.vw hx1 (j := 3) rfl rfl _ (Ext.refl _))) ?_))))
    rintro e W1 ⟨_, rfl, rfl, rfl⟩
    refine ⟨_, rfl, ?_⟩
    refine RL_q rfl (Yd_not rfl) (RL_q rfl (Yd_assign rfl) (RL_nil (X_then (?_))))
    refine C_cond rfl (fun hb15 => ?_) (fun hb15 => ?_)
    · skip
      try simp only [decide_eq_true_eq, decide_eq_false_iff_not, Bool.not_eq_true', Bool.not_eq_false', Decidable.not_not, Int.not_lt, Int.not_le, Bool.or_eq_true, Bool.and_eq_true, Bool.or_eq_false_iff, Bool.and_eq_false_iff] at hb15
      refine C_seq (C_region (RL_q rfl (Yd_assign rfl) (RL_nil (X_then (C_ret (X_blockR (X_thenR (X_ret1 rfl rfl ?_))))))))
      refine ⟨_, x1, rfl, hx1, ?_, ?_, hK⟩
      · simp [found, hb9, hb15]
      · have hcl : clr x1 = x1 := by unfold clr; rw [if_neg (by simp [hb9, hb15])]
        rw [hcl, ← set_self hx1]; exact hr
    · skip
      try simp only [decide_eq_true_eq, decide_eq_false_iff_not, Bool.not_eq_true', Bool.not_eq_false', Decidable.not_not, Int.not_lt, Int.not_le, Bool.or_eq_true, Bool.and_eq_true, Bool.or_eq_false_iff, Bool.and_eq_false_iff] at hb15
      refine C_skip (X_block (X_then (C_seq (C_region (RL_q rfl (Yd_move rfl) (RL_q rfl (Yd_nil rfl) (RL_q rfl (Yd_fld (off := 2) Try.underlying25 (by kernel_rfl) rfl) (RL_q rfl (Yd_load Try.underlying4 rfl rfl (Vw.lqFL hr.vw hx1 rfl rfl)) (RL_q rfl (Yd_assign rfl) (RL_nil (X_then (C_seq (C_region (RL_q rfl (Yd_move rfl) (RL_q rfl (Yd_nil rfl) (RL_q rfl (Yd_fld (off := 2) Try.underlying25 (by kernel_rfl) rfl) (RL_l0 (Ld_putF (T := tF) (a := (⟨x1.used, x1.dirty, false, x1.pins⟩ : F)) (by kernel_rfl) rfl rfl hr (i := i.toNat) (j := 2) hx1 rfl rfl rfl rfl (by decide) ⟨by dsimp only; omega, by dsimp only; omega⟩ ?_))))))))))))))))))
      intro W2 hr' hu2
      have hk2 := Kp.ofb hu2
      have hs2 := hk2.size
      replace hbx := hbx.kp hk2 (fun hk => by first | omega | (have hk := hk; dsimp only at hk; omega))
      replace hK := hK.go hk2 (fun k hk => by first | omega | (have hk := hk; dsimp only at hk; dsimp only; omega))
      replace hr := hr'
      have hnhr := hr.ln
      refine RL_nil (X_then (C_seq (C_region (RL_q rfl (Yd_move rfl) (RL_q rfl (Yd_not rfl) (RL_q rfl (Yd_assign rfl) (RL_nil (X_then (C_ret (X_ret1 rfl rfl ?_))))))))))
      refine ⟨_, x1, rfl, hx1, ?_, ?_, hK⟩
      · simp [found, hb9, hb15]
      · have hcl : clr x1 = ⟨x1.used, x1.dirty, false, x1.pins⟩ := by unfold clr; rw [if_pos ⟨hb9, hb15⟩]
        rw [hcl]; exact hr
theorem clFl {lo_l B_l : Nat} {A_l : Option Addr} {n_l c_l : Nat} {l : List F} {w : World}  (h_l : Vw tF w lo_l B_l A_l n_l c_l l) (h6 : n_l ≤ 60000) :
    Calls Try.prog 54 #[.slice A_l n_l c_l] w fun e w' => ∃ (A0 : Option Addr) (n0 c0 : Nat), e = .returned (.slice A0 n0 c0) ∧ Ow tF 25 w' w.heap.size w'.heap.size A0 n0 c0 l ∧ Ext w w' := by
  have hE := Ext.refl w
  replace h_l := h_l.fit
  have hn_l := h_l.ln
  have hc_l := h_l.cap
  have hm_l := h_l.max
  simp only [maxLen] at hm_l
  refine calls_of (l := [.slice A_l n_l c_l]) (N := 8) Try.func54 rfl rfl rfl ?_
  refine C_seq (C_region (RL_q rfl (Yd_assign rfl) (RL_nil (X_then (C_seq (C_seq (C_region (RL_q rfl (Yd_move rfl) (RL_q rfl (Yd_eqlSN Try.underlying56 rfl rfl) (RL_nil (X_then (?_))))))))))))
  refine C_cond rfl (fun hb4 => ?_) (fun hb4 => ?_)
  · skip
    try simp only [decide_eq_true_eq, decide_eq_false_iff_not, Bool.not_eq_true', Bool.not_eq_false', Decidable.not_not, Int.not_lt, Int.not_le, Bool.or_eq_true, Bool.and_eq_true, Bool.or_eq_false_iff, Bool.and_eq_false_iff] at hb4
    refine C_seq (C_region (RL_q rfl (Yd_assign rfl) (RL_nil (X_then (C_ret (X_thenR (X_ret1 rfl rfl ?_)))))))
    refine ⟨_, _, _, rfl, Ow.nil.cast ?_, hE⟩
    all_goals (first | (simp; done) | exact (List.eq_nil_of_length_eq_zero (by have := h_l.nil (Option.isNone_iff_eq_none.1 hb4); omega)).symm)
  · skip
    try simp only [decide_eq_true_eq, decide_eq_false_iff_not, Bool.not_eq_true', Bool.not_eq_false', Decidable.not_not, Int.not_lt, Int.not_le, Bool.or_eq_true, Bool.and_eq_true, Bool.or_eq_false_iff, Bool.and_eq_false_iff] at hb4
    refine C_skip (X_then (C_seq (C_region (RL_l rfl (Ld_lit Try.underlying56 rfl (lit_flat Try.underlying56 Try.elt25 rfl rfl ⟨rfl, by decide⟩) ?_)))))
    intro W1 he1 hz1 hL5
    replace hE := Ext.trans hE he1
    replace h_l := h_l.ext he1
    have hO5 := Ow.of_blk (T := tF) (l := []) hL5 rfl (n := 0) rfl (by simp [maxLen]) okn
    clear hL5
    refine RL_q rfl (Yd_move rfl) (RL_l rfl (Ld_apO (T := tF) Try.underlying56 Try.elt25 rfl rfl rfl hO5 h_l (by simp only [maxLen]; omega) (by omega) (by omega) ?_))
    intro A7 c7 W2 hO7 hk2
    have hs2 := hk2.size
    replace hE := Ext.kp hE hk2 (fun k hk => by first | omega | (have hk := hk; dsimp only at hk; omega))
    replace h_l := h_l.kp hk2 (fun k hk => by first | omega | (have hk := hk; dsimp only at hk; omega))
    have hn7 := hO7.ln
    try simp only [List.length_append, List.length_cons, List.length_nil, List.length_set, List.length_take, List.length_drop, List.length_replicate, List.length_map, Nat.zero_add, Nat.add_zero, turn0_len] at hn7
    have hc7 := hO7.cap
    refine RL_q rfl (Yd_assign rfl) (RL_nil (X_then (C_ret (X_ret1 rfl rfl ?_))))
    refine ⟨_, _, _, rfl, (hO7.fit.more (by omega) (Nat.le_refl _)).cast ?_, hE⟩
    all_goals (first | (simp; done) | exact (List.eq_nil_of_length_eq_zero (by have := h_l.nil (Option.isNone_iff_eq_none.1 hb4); omega)).symm)
theorem turnN {lo_l B_l : Nat} {A_l : Option Addr} {n_l c_l : Nat} {l : List F} {h : Nat} {w : World}  (h_l : Vw tF w lo_l B_l A_l n_l c_l l) (hn0 : 0 < n_l) (hhn : h < n_l) (h6 : n_l ≤ 60000) :
    Calls Try.prog 50 #[.slice A_l n_l c_l, .int .i64 (h : Int)] w fun e w' => ∃ (x0 : Int) (x1 : Int) (A2 : Option Addr) (n2 c2 : Nat) (x3 : Int), e = .returned (.tuple #[.int .i64 x0, .int .i64 x1, .slice A2 n2 c2, .int .i64 x3]) ∧ x0 = (tV h l.length (turn0 h l.length l)) ∧ x1 = (tN h l.length (turn0 h l.length l)) ∧ Ow tF 25 w' w.heap.size w'.heap.size A2 n2 c2 ((turn0 h l.length l).2) ∧ x3 = (tL (turn0 h l.length l)) ∧ Ext w w' := by
  have hE := Ext.refl w
  replace h_l := h_l.fit
  have hn_l := h_l.ln
  have hc_l := h_l.cap
  have hm_l := h_l.max
  simp only [maxLen] at hm_l
  refine calls_of (l := [.slice A_l n_l c_l, .int .i64 (h : Int)]) (N := 48) Try.func50 rfl rfl rfl ?_
  refine C_seq (C_region (RL_q rfl (Yd_assign rfl) (RL_q rfl (Yd_assign rfl) (RL_q rfl (Yd_assign rfl) (RL_q rfl (Yd_assign rfl) (RL_nil (X_then (C_scope (C_seq (C_region (RL_q rfl (Yd_move rfl) (RL_l rfl (Ld_call Try.func54 rfl (by kernel_rfl) rfl (clFl h_l (by omega)) ?_)))))))))))))
  rintro e W1 ⟨A16, n16, c16, rfl, hF16, he1⟩
  refine ⟨_, rfl, ?_⟩
  replace hE := Ext.trans hE he1
  replace h_l := h_l.ext he1
  have hs1 := he1.size
  have hn16 := hF16.ln
  try simp only [List.length_append, List.length_cons, List.length_nil, List.length_set, List.length_take, List.length_drop, List.length_replicate, List.length_map, Nat.zero_add, Nat.add_zero, turn0_len] at hn16
  have hc16 := hF16.cap
  subst hn16
  obtain ⟨gR, rfl, hgRl, hgRh⟩ := Ow.at_ (i := 0) hF16 (by omega)
  refine RL_l rfl (Ld_alloc (v := (.slice none 0 0)) (by kernel_rfl) ?_)
  have hg_8 := hE.size
  intro W2 he2 hz2 hB8
  replace hE := Ext.trans hE he2
  replace h_l := h_l.ext he2
  replace hF16 := hF16.ext he2
  refine RL_l0 (Ld_store (by kernel_rfl) rfl rfl hB8 (Nat.le_of_ble_eq_true rfl) (by simp [cellsL, Value.cells, Value.oneCell']) ?_)
  intro W3 hu3 hz3 hB8
  have hk3 := Kp.ofb hu3
  have hs3 := hk3.size
  replace hE := Ext.kp hE hk3 (fun k hk => by first | omega | (have hk := hk; dsimp only at hk; omega))
  replace h_l := h_l.kp hk3 (fun k hk => by first | omega | (have hk := hk; dsimp only at hk; omega))
  replace hF16 := hF16.kp hk3 (fun k hk => by first | omega | (have hk := hk; dsimp only at hk; omega))
  refine RL_nil (X_then (C_seq (C_region (RL_q rfl (Yd_load Try.underlying56 rfl rfl (ldB hB8 rfl)) (RL_q rfl (Yd_len Try.underlying56 rfl) (RL_q rfl (Yd_assign rfl) (RL_nil (X_then (C_seq (C_region (RL_q rfl (Yd_mkf rfl) (RL_q rfl (Yd_assign rfl) (RL_nil (X_then (C_seq (C_region (RL_q rfl (Yd_assign rfl) (RL_q rfl (Yd_assign rfl) (RL_nil (X_then (C_seq (C_label (X_then (C_seq (C_seq (C_region (RL_q rfl (Yd_move rfl) (RL_q rfl (Yd_mul rfl rfl (i64w (by omega) (by omega))) (RL_q rfl (Yd_move rfl) (RL_nil (X_then (C_block (?_)))))))))))))))))))))))))))))))))
  refine C_loop (T := Nat × List F) (fun ⟨k, lk⟩ => [(1, .int .i64 (h : Int)), (4, .int .i64 0), (5, .int .i64 0), (6, .slice none 0 0), (7, .int .i64 0), (8, .pointer (some ⟨W1.heap.size, 0, none⟩)), (9, .int .i64 (l.length : Int)), (10, .func (.func 55) #[] #[.pointer (some ⟨W1.heap.size, 0, none⟩)]), (11, .int .i64 0), (12, .int .i64 0), (21, .int .i64 (2 * (l.length : Int))), (22, .int .i64 (k : Int))]) (fun ⟨k, lk⟩ lw3 => Ow tF 25 lw3 w.heap.size W1.heap.size (some ⟨gR, 0, none⟩) l.length c16 lk ∧ (k ≤ 2 * l.length) ∧ (lk.length = l.length) ∧ (turnK h l.length (2 * l.length - k) k lk = turn0 h l.length l) ∧ Kp (fun k => (w.heap.size ≤ k ∧ k < W1.heap.size)) W3 lw3) (fun ⟨k, lk⟩ => 2 * l.length - k) (⟨0, l⟩) ⟨rfl, rfl, rfl, rfl, rfl, rfl, rfl, rfl, rfl, rfl, rfl, rfl, trivial⟩ ?_ ?_
  · refine ⟨hF16.cast ?_, ?_, ?_, ?_, Kp.refl _ _⟩
    all_goals (try dsimp only)
    all_goals (first | omega | (rw [List.length_set]; omega) | rfl | assumption)
  · rintro ⟨k, lk⟩ lw3 ⟨hF16, hi3_0, hlk, hinv, hL3⟩
    replace hE := Ext.kp hE hL3 (fun k hk => by first | omega | (have hk := hk; dsimp only at hk; omega))
    replace h_l := h_l.kp hL3 (fun k hk => by first | omega | (have hk := hk; dsimp only at hk; omega))
    replace hB8 := hB8.kp hL3 (fun hk => by first | omega | (have hk := hk; dsimp only at hk; omega))
    have hsL3 := hL3.size
    have hnhF16 := hF16.ln
    try simp only [List.length_append, List.length_cons, List.length_nil, List.length_set, List.length_take, List.length_drop, List.length_replicate, List.length_map, Nat.zero_add, Nat.add_zero, turn0_len] at hnhF16
    have hchF16 := hF16.cap
    refine C_seq (C_region (RL_q rfl (Yd_lss rfl rfl) (RL_nil (X_then (C_seq (?_))))))
    refine C_cond rfl (fun hb23 => ?_) (fun hb23 => ?_)
    · skip
      try simp only [decide_eq_true_eq, decide_eq_false_iff_not, Bool.not_eq_true', Bool.not_eq_false', Decidable.not_not, Int.not_lt, Int.not_le, Bool.or_eq_true, Bool.and_eq_true, Bool.or_eq_false_iff, Bool.and_eq_false_iff] at hb23
      refine C_skip (X_then (C_seq (C_block (C_seq (C_region (RL_q rfl (Yd_move rfl) (RL_q rfl (Yd_assign rfl) (RL_nil (X_then (C_seq (C_region (RL_q rfl (Yd_move rfl) (RL_q rfl (Yd_move rfl) (RL_q rfl (Yd_add rfl rfl (i64w (by omega) (by omega))) (RL_q rfl (Yd_move rfl) (RL_q rfl (Yd_rem (r := (((h + k) % l.length : Nat) : Int)) rfl rfl (by omega) rfl) (?_)))))))))))))))))
      have hi29 : (h + k) % l.length < l.length := Nat.mod_lt _ (by omega)
      refine RL_q rfl (Yd_assign rfl) (RL_nil (X_then (C_seq (C_region (RL_q rfl (Yd_move rfl) (RL_q rfl (Yd_move rfl) (RL_l rfl (Ld_callC (vs := [.int .i64 (((h + k) % l.length : Nat) : Int)]) rfl Try.func55 rfl (by kernel_rfl) rfl (goesC hB8 hF16 ⟨by omega, by omega⟩ ⟨by omega, by omega⟩) ?_))))))))
      rintro e W4 ⟨x32, f32, rfl, hf32, hx32, hR32, hk4⟩
      refine ⟨_, rfl, ?_⟩
      have hs4 := hk4.size
      replace hE := Ext.kp hE hk4 (fun k hk => by first | omega | (have hk := hk; dsimp only at hk; omega))
      replace h_l := h_l.kp hk4 (fun k hk => by first | omega | (have hk := hk; dsimp only at hk; omega))
      replace hB8 := hB8.kp hk4 (fun hk => by first | omega | (have hk := hk; dsimp only at hk; omega))
      try replace hL3 := hL3.go hk4 (fun k hk => by first | omega | (have hk := hk; dsimp only at hk; dsimp only; omega))
      replace hF16 := hR32
      refine RL_nil (X_then (?_))
      refine C_cond rfl (fun hb32 => ?_) (fun hb32 => ?_)
      · skip
        subst hb32
        have hT := turnK_found (h := h) (n := l.length) (d := 2 * l.length - k) (by omega) hf32 hx32.symm
        refine C_seq (C_region (RL_q rfl (Yd_move rfl) (RL_q rfl (Yd_move rfl) (RL_q rfl (Yd_add rfl rfl (i64w (by omega) (by omega))) (RL_q rfl (Yd_assign rfl) (RL_q rfl (Yd_assign rfl) (RL_nil (X_then (C_exit (X_blockO (by decide) (X_thenE (X_thenE (X_blockE (X_then (C_seq (C_seq (C_region (RL_q rfl (Yd_move rfl) (RL_q rfl (Yd_eql rfl rfl) (RL_nil (X_then (?_))))))))))))))))))))))
        refine C_no rfl (by simp; omega) (C_skip (X_then (C_seq (?_))))
        refine C_regionD (NoB) (l := [(0, true), (1, true), (2, true), (3, true), (4, true), (5, true), (6, true), (7, true), (8, true), (9, true), (10, true)]) (by kernel_rfl) (by kernel_rfl) rfl (by kernel_rfl) (fun _ _ d _ _ h => by cases d <;> exact h) ?_
        intro W5 he5 hh5
        replace hE := Ext.trans hE he5
        replace h_l := h_l.ext he5
        replace hB8 := hB8.ext he5
        replace hF16 := hF16.ext he5
        replace hL3 := Kp.go hL3 (Kp.of_ext (G := NoB) he5) (fun _ h => h.elim)
        have hs5 := he5.size
        refine RO_q rfl rfl (Yd_move rfl) (RO_q rfl rfl (Yd_move rfl) (RO_q rfl rfl (Yd_add rfl rfl (i64w (by omega) (by omega))) (RO_q rfl rfl (Yd_move rfl) (RO_q rfl rfl (Yd_rem (r := ((((h + k) % l.length + 1) % l.length : Nat) : Int)) rfl rfl (by omega) rfl) (RO_q rfl rfl (Yd_load Try.underlying56 rfl rfl (fun W hW => (ldB hB8 rfl) W hW.ext)) (RO_q rfl rfl (Yd_move rfl) (RO_q rfl rfl (Yd_assign rfl) (RO_q rfl rfl (Yd_assign rfl) (RO_q rfl rfl (Yd_assign rfl) (RO_q rfl rfl (Yd_assign rfl) (RO_nil (X_then (C_ret (X_ngR (X_ret4 rfl rfl rfl rfl rfl ?_)))))))))))))))
        refine ⟨_, _, _, _, _, _, rfl, ?_, ?_, (hF16.fit.more (by omega) (Nat.le_refl _)).cast ?_, ?_, hE⟩
        all_goals (first | omega | assumption | (rw [← hinv, hT]; done) | (rw [← hinv, hT]; rfl) | (rw [← hinv, hT]; simp [tV, tN, tL]; done) | (rw [← hinv, hT]; simp [tV, tN, tL]; omega))
      · skip
        rw [hb32] at hx32
        have hT := turnK_next (h := h) (n := l.length) (d := 2 * l.length - k) (by omega) hf32 hx32.symm
        rw [hT, show 2 * l.length - k - 1 = 2 * l.length - (k + 1) by omega] at hinv
        refine C_skip (X_block (X_then (C_region (RL_q rfl (Yd_add rfl rfl (i64w (by omega) (by omega))) (RL_q rfl (Yd_move rfl) (RL_nil (?_)))))))
        refine X_again (⟨k + 1, (lk.set ((h + k) % l.length) (clr f32))⟩) ⟨rfl, rfl, rfl, rfl, rfl, rfl, rfl, rfl, rfl, rfl, rfl, rfl, trivial⟩ ?_ (by show 2 * l.length - (k + 1) < 2 * l.length - k; omega)
        refine ⟨hF16.cast ?_, ?_, ?_, ?_, hL3⟩
        all_goals (try dsimp only)
        all_goals (first | omega | (rw [List.length_set]; omega) | rfl | assumption)
    · skip
      try simp only [decide_eq_true_eq, decide_eq_false_iff_not, Bool.not_eq_true', Bool.not_eq_false', Decidable.not_not, Int.not_lt, Int.not_le, Bool.or_eq_true, Bool.and_eq_true, Bool.or_eq_false_iff, Bool.and_eq_false_iff] at hb23
      refine C_exit (X_thenE (X_thenE (X_blockE (X_then (C_seq (C_seq (C_region (RL_q rfl (Yd_move rfl) (RL_q rfl (Yd_eql rfl rfl) (RL_nil (X_then (C_yes rfl rfl (C_seq (?_))))))))))))))
      obtain rfl : k = 2 * l.length := by omega
      have hT := turnK_zero (h := h) (n := l.length) (k := 2 * l.length) (l := lk)
      rw [Nat.sub_self] at hinv
      refine C_regionD (NoB) (l := [(0, true), (1, true), (2, true), (3, true), (4, true), (5, true)]) (by kernel_rfl) (by kernel_rfl) rfl (by kernel_rfl) (fun _ _ d _ _ h => by cases d <;> exact h) ?_
      intro W4 he4 hh4
      replace hE := Ext.trans hE he4
      replace h_l := h_l.ext he4
      replace hB8 := hB8.ext he4
      replace hF16 := hF16.ext he4
      replace hL3 := Kp.go hL3 (Kp.of_ext (G := NoB) he4) (fun _ h => h.elim)
      have hs4 := he4.size
      refine RO_q rfl rfl (Yd_move rfl) (RO_q rfl rfl (Yd_load Try.underlying56 rfl rfl (fun W hW => (ldB hB8 rfl) W hW.ext)) (RO_q rfl rfl (Yd_assign rfl) (RO_q rfl rfl (Yd_assign rfl) (RO_q rfl rfl (Yd_assign rfl) (RO_q rfl rfl (Yd_assign rfl) (RO_nil (X_then (C_ret (X_thenR (X_ngR (X_ret4 rfl rfl rfl rfl rfl ?_)))))))))))
      refine ⟨_, _, _, _, _, _, rfl, ?_, ?_, (hF16.fit.more (by omega) (Nat.le_refl _)).cast ?_, ?_, hE⟩
      all_goals (first | omega | assumption | (rw [← hinv, hT]; done) | (rw [← hinv, hT]; rfl) | (rw [← hinv, hT]; simp [tV, tN, tL]; done) | (rw [← hinv, hT]; simp [tV, tN, tL]; omega))
theorem turnZ {lo_l B_l : Nat} {A_l : Option Addr} {n_l c_l : Nat} {l : List F} {h : Int} {w : World}  (h_l : Vw tF w lo_l B_l A_l n_l c_l l) (b_h : 0 ≤ h ∧ h ≤ 100000) (hn0 : 0 < n_l) (hhn : h < n_l) (h6 : n_l ≤ 60000) :
    Calls Try.prog 50 #[.slice A_l n_l c_l, .int .i64 h] w fun e w' => ∃ (x0 : Int) (x1 : Int) (A2 : Option Addr) (n2 c2 : Nat) (x3 : Int), e = .returned (.tuple #[.int .i64 x0, .int .i64 x1, .slice A2 n2 c2, .int .i64 x3]) ∧ x0 = (tV h.toNat l.length (turn0 h.toNat l.length l)) ∧ x1 = (tN h.toNat l.length (turn0 h.toNat l.length l)) ∧ Ow tF 25 w' w.heap.size w'.heap.size A2 n2 c2 ((turn0 h.toNat l.length l).2) ∧ x3 = (tL (turn0 h.toNat l.length l)) ∧ Ext w w' :=
  by
  obtain ⟨H, rfl⟩ := Int.eq_ofNat_of_zero_le b_h.1
  exact turnN h_l hn0 (by omega) h6
theorem TurnZ {lo_l B_l : Nat} {A_l : Option Addr} {n_l c_l : Nat} {l : List F} {h : Int} {w : World}  (h_l : Vw tF w lo_l B_l A_l n_l c_l l) (b_h : 0 ≤ h ∧ h ≤ 100000) (hn0 : 0 < n_l) (hhn : h < n_l) (h6 : n_l ≤ 60000) :
    Calls Try.prog 35 #[.slice A_l n_l c_l, .int .i64 h] w fun e w' => ∃ (x0 : Int) (x1 : Int) (A2 : Option Addr) (n2 c2 : Nat) (x3 : Bool), e = .returned (.tuple #[.int .i64 x0, .int .i64 x1, .slice A2 n2 c2, .bool x3]) ∧ x0 = (tV h.toNat l.length (turn0 h.toNat l.length l)) ∧ x1 = (tN h.toNat l.length (turn0 h.toNat l.length l)) ∧ Ow tF 25 w' w.heap.size w'.heap.size A2 n2 c2 ((turn0 h.toNat l.length l).2) ∧ x3 = (decide (0 < tL (turn0 h.toNat l.length l))) ∧ Ext w w' := by
  have hE := Ext.refl w
  replace h_l := h_l.fit
  have hn_l := h_l.ln
  have hc_l := h_l.cap
  have hm_l := h_l.max
  simp only [maxLen] at hm_l
  refine calls_of (l := [.slice A_l n_l c_l, .int .i64 h]) (N := 25) Try.func35 rfl rfl rfl ?_
  refine C_seq (C_region (RL_q rfl (Yd_assign rfl) (RL_q rfl (Yd_assign rfl) (RL_q rfl (Yd_assign rfl) (RL_q rfl (Yd_assign rfl) (RL_nil (X_then (C_seq (C_region (RL_q rfl (Yd_move rfl) (RL_q rfl (Yd_move rfl) (RL_l rfl (Ld_call Try.func50 rfl (by kernel_rfl) rfl (turnZ h_l ⟨by first | omega | (dsimp only; omega), by first | omega | (dsimp only; omega)⟩ (by omega) (by omega) (by omega)) ?_)))))))))))))
  rintro e W1 ⟨y15_0, y15_1, A15_2, n15_2, c15_2, y15_3, rfl, hy15_0, hy15_1, hF15_2, hy15_3, he1⟩
  refine ⟨_, rfl, ?_⟩
  replace hE := Ext.trans hE he1
  replace h_l := h_l.ext he1
  have hs1 := he1.size
  have hn15_2 := hF15_2.ln
  try simp only [List.length_append, List.length_cons, List.length_nil, List.length_set, List.length_take, List.length_drop, List.length_replicate, List.length_map, Nat.zero_add, Nat.add_zero, turn0_len] at hn15_2
  have hc15_2 := hF15_2.cap
  refine RL_q rfl (Yd_move rfl) (RL_q rfl (Yd_extract rfl rfl) (RL_q rfl (Yd_extract rfl rfl) (RL_q rfl (Yd_extract rfl rfl) (RL_q rfl (Yd_extract rfl rfl) (RL_q rfl (Yd_assign rfl) (RL_q rfl (Yd_assign rfl) (RL_q rfl (Yd_assign rfl) (RL_q rfl (Yd_assign rfl) (RL_nil (X_then (C_seq (C_region (RL_q rfl (Yd_move rfl) (RL_q rfl (Yd_move rfl) (RL_q rfl (Yd_move rfl) (RL_q rfl (Yd_move rfl) (RL_q rfl (Yd_gtr rfl rfl) (RL_q rfl (Yd_assign rfl) (RL_q rfl (Yd_assign rfl) (RL_q rfl (Yd_assign rfl) (RL_q rfl (Yd_assign rfl) (RL_nil (X_then (C_ret (X_ret4 rfl rfl rfl rfl rfl ?_)))))))))))))))))))))))))
  refine ⟨_, _, _, _, _, _, rfl, ?_, ?_, (hF15_2.fit.more (by omega) (Nat.le_refl _)).cast ?_, ?_, hE⟩
  all_goals (first | assumption | rfl | (subst hy15_3; rfl))
theorem RoundsZ {lo_l B_l : Nat} {A_l : Option Addr} {n_l c_l : Nat} {l : List F} {h : Int} {w : World}  (h_l : Vw tF w lo_l B_l A_l n_l c_l l) (b_h : 0 ≤ h ∧ h ≤ 100000) (hn0 : 0 < n_l) (hhn : h < n_l) (h6 : n_l ≤ 60000) :
    Calls Try.prog 37 #[.slice A_l n_l c_l, .int .i64 h] w fun e w' => ∃ (x0 : Int), e = .returned (.int .i64 x0) ∧ x0 = (tL (turn0 h.toNat l.length l)) ∧ Ext w w' := by
  have hE := Ext.refl w
  replace h_l := h_l.fit
  have hn_l := h_l.ln
  have hc_l := h_l.cap
  have hm_l := h_l.max
  simp only [maxLen] at hm_l
  refine calls_of (l := [.slice A_l n_l c_l, .int .i64 h]) (N := 18) Try.func37 rfl rfl rfl ?_
  refine C_seq (C_region (RL_q rfl (Yd_assign rfl) (RL_nil (X_then (C_seq (C_region (RL_q rfl (Yd_move rfl) (RL_q rfl (Yd_move rfl) (RL_l rfl (Ld_call Try.func50 rfl (by kernel_rfl) rfl (turnZ h_l ⟨by first | omega | (dsimp only; omega), by first | omega | (dsimp only; omega)⟩ (by omega) (by omega) (by omega)) ?_))))))))))
  rintro e W1 ⟨y12_0, y12_1, A12_2, n12_2, c12_2, y12_3, rfl, hy12_0, hy12_1, hF12_2, hy12_3, he1⟩
  refine ⟨_, rfl, ?_⟩
  replace hE := Ext.trans hE he1
  replace h_l := h_l.ext he1
  have hs1 := he1.size
  have hn12_2 := hF12_2.ln
  try simp only [List.length_append, List.length_cons, List.length_nil, List.length_set, List.length_take, List.length_drop, List.length_replicate, List.length_map, Nat.zero_add, Nat.add_zero, turn0_len] at hn12_2
  have hc12_2 := hF12_2.cap
  refine RL_q rfl (Yd_move rfl) (RL_q rfl (Yd_extract rfl rfl) (RL_q rfl (Yd_extract rfl rfl) (RL_q rfl (Yd_extract rfl rfl) (RL_q rfl (Yd_extract rfl rfl) (RL_q rfl (Yd_assign rfl) (RL_q rfl (Yd_assign rfl) (RL_q rfl (Yd_assign rfl) (RL_q rfl (Yd_assign rfl) (RL_nil (X_then (C_seq (C_region (RL_q rfl (Yd_move rfl) (RL_q rfl (Yd_assign rfl) (RL_nil (X_then (C_ret (X_ret1 rfl rfl ?_))))))))))))))))))
  refine ⟨_, rfl, ?_, hE⟩
  all_goals (assumption)
theorem FreeZ {lo_l B_l : Nat} {A_l : Option Addr} {n_l c_l : Nat} {l : List F} {w : World}  (h_l : Vw tF w lo_l B_l A_l n_l c_l l) (h6 : n_l ≤ 60000) :
    Calls Try.prog 41 #[.slice A_l n_l c_l] w fun e w' => ∃ (x0 : Int), e = .returned (.int .i64 x0) ∧ x0 = ((count l : Int)) ∧ Ext w w' := by
  have hE := Ext.refl w
  replace h_l := h_l.fit
  have hn_l := h_l.ln
  have hc_l := h_l.cap
  have hm_l := h_l.max
  simp only [maxLen] at hm_l
  refine calls_of (l := [.slice A_l n_l c_l]) (N := 22) Try.func41 rfl rfl rfl ?_
  refine C_seq (C_region (RL_q rfl (Yd_assign rfl) (RL_nil (X_then (C_seq (C_region (RL_q rfl (Yd_assign rfl) (RL_nil (X_then (C_seq (C_seq (C_region (RL_q rfl (Yd_move rfl) (RL_q rfl (Yd_len Try.underlying56 rfl) (RL_q rfl (Yd_move rfl) (RL_nil (X_then (C_block (?_)))))))))))))))))))
  refine C_loop (T := Nat × Nat) (fun ⟨k, c⟩ => [(2, .int .i64 0), (3, .int .i64 (c : Int)), (6, .slice A_l n_l c_l), (7, .int .i64 (n_l : Int)), (8, .int .i64 (k : Int))]) (fun ⟨k, c⟩ lw0 => (k ≤ n_l) ∧ (c ≤ k) ∧ (c = count (l.take k)) ∧ Ext w lw0) (fun ⟨k, c⟩ => n_l - k) (⟨0, 0⟩) ⟨rfl, rfl, rfl, rfl, rfl, trivial⟩ ?_ ?_
  · refine ⟨?_, ?_, ?_, Ext.refl _⟩
    all_goals (try dsimp only)
    all_goals (first | omega | rfl)
  · rintro ⟨k, c⟩ lw0 ⟨hi0_0, hck, hc, hL0⟩
    replace hE := Ext.trans hE hL0
    replace h_l := h_l.ext hL0
    have hsL0 := hL0.size
    refine C_seq (C_region (RL_q rfl (Yd_lss rfl rfl) (RL_nil (X_then (C_seq (?_))))))
    refine C_cond rfl (fun hb9 => ?_) (fun hb9 => ?_)
    · skip
      try simp only [decide_eq_true_eq, decide_eq_false_iff_not, Bool.not_eq_true', Bool.not_eq_false', Decidable.not_not, Int.not_lt, Int.not_le, Bool.or_eq_true, Bool.and_eq_true, Bool.or_eq_false_iff, Bool.and_eq_false_iff] at hb9
      refine C_skip (X_then (C_seq (C_block (C_seq (C_region (?_))))))
      obtain ⟨adA_l, rfl, hghA_l, hglA_l⟩ := Vw.at_ (i := k) h_l (by omega)
      refine RL_q rfl (Yd_idx Try.underlying56 (sz := 4) (by kernel_rfl) rfl rfl (by omega) (by omega)) (?_)
      obtain ⟨x1, hx1, gx1⟩ := Vw.elem (i := k) h_l (by omega)
      replace gx1 : -9223372036854775808 ≤ x1.pins ∧ x1.pins ≤ 9223372036854775807 := gx1
      refine RL_q rfl (Yd_loadA (cs := [.bool x1.used, .bool x1.dirty, .bool x1.ref, .int .i64 x1.pins]) Try.underlying25 rfl (by kernel_rfl) rfl (Vw.lqA h_l hx1 rfl rfl)) (RL_l rfl (Ld_alloc (v := (.agg #[(.bool false), (.bool false), (.bool false), (.int .i64 0)])) (by kernel_rfl) ?_))
      have hg_5 := hE.size
      intro W1 he1 hz1 hB5
      replace hE := Ext.trans hE he1
      replace h_l := h_l.ext he1
      replace hL0 := Ext.trans hL0 he1
      refine RL_l0 (Ld_store (by kernel_rfl) rfl rfl hB5 (Nat.le_of_ble_eq_true rfl) (by simp [cellsL, Value.cells, Value.oneCell']) ?_)
      intro W2 hu2 hz2 hB5
      have hk2 := Kp.ofb hu2
      have hs2 := hk2.size
      replace hE := Ext.kp hE hk2 (fun k hk => by first | omega | (have hk := hk; dsimp only at hk; omega))
      replace h_l := h_l.kp hk2 (fun k hk => by first | omega | (have hk := hk; dsimp only at hk; omega))
      try replace hL0 := Ext.kp hL0 hk2 (fun k hk => by first | omega | (have hk := hk; dsimp only at hk; omega))
      refine RL_nil (X_then (C_seq (C_region (RL_q rfl (Yd_fld (off := 0) Try.underlying25 (by kernel_rfl) rfl) (RL_q rfl (Yd_load Try.underlying4 rfl rfl (ldB hB5 rfl)) (RL_q rfl (Yd_not rfl) (RL_q rfl (Yd_move rfl) (?_))))))))
      refine RL_case (d := 15) rfl (fun hb15 => ?_) (fun hb15 => ?_)
      · skip
        try simp only [decide_eq_true_eq, decide_eq_false_iff_not, Bool.not_eq_true', Bool.not_eq_false', Decidable.not_not, Int.not_lt, Int.not_le, Bool.or_eq_true, Bool.and_eq_true, Bool.or_eq_false_iff, Bool.and_eq_false_iff] at hb15
        refine RL_gn rfl rfl rfl rfl (RL_q rfl (Yd_pickT rfl rfl) (RL_nil (X_then (C_yes rfl rfl (C_region (RL_q rfl (Yd_move rfl) (RL_q rfl (Yd_add rfl rfl (i64w (by omega) (by omega))) (RL_q rfl (Yd_assign rfl) (RL_nil (X_block (X_then (C_region (RL_q rfl (Yd_add rfl rfl (i64w (by omega) (by omega))) (RL_q rfl (Yd_move rfl) (RL_nil (?_))))))))))))))))
        refine X_again (⟨k + 1, c + 1⟩) ⟨rfl, rfl, rfl, rfl, rfl, trivial⟩ ?_ (by show n_l - (k + 1) < n_l - k; omega)
        refine ⟨?_, ?_, ?_, hL0⟩
        all_goals (try dsimp only)
        all_goals (first | omega | (exact cnt_yes (by assumption) (by first | (simp [fGoes, hb15]; done) | (simp [fGoes, hb15, hb17]; done) | assumption) hc) | (exact cnt_no (by assumption) (by first | (simp [fGoes, hb15, hb17]; done) | assumption) hc))
      · skip
        try simp only [decide_eq_true_eq, decide_eq_false_iff_not, Bool.not_eq_true', Bool.not_eq_false', Decidable.not_not, Int.not_lt, Int.not_le, Bool.or_eq_true, Bool.and_eq_true, Bool.or_eq_false_iff, Bool.and_eq_false_iff] at hb15
        refine RL_gl rfl rfl rfl (Ld_call Try.func19 rfl (by kernel_rfl) rfl (FlFree (by exact ldB hB5 (i := 3) rfl _ (Ext.refl _))) ?_)
        rintro e W3 ⟨_, rfl, rfl, rfl⟩
        refine ⟨_, rfl, ?_⟩
        refine RL_q rfl (Yd_pickF rfl rfl) (RL_nil (X_then (?_)))
        refine C_cond rfl (fun hb17 => ?_) (fun hb17 => ?_)
        · skip
          try simp only [decide_eq_true_eq, decide_eq_false_iff_not, Bool.not_eq_true', Bool.not_eq_false', Decidable.not_not, Int.not_lt, Int.not_le, Bool.or_eq_true, Bool.and_eq_true, Bool.or_eq_false_iff, Bool.and_eq_false_iff] at hb17
          refine C_region (RL_q rfl (Yd_move rfl) (RL_q rfl (Yd_add rfl rfl (i64w (by omega) (by omega))) (RL_q rfl (Yd_assign rfl) (RL_nil (X_block (X_then (C_region (RL_q rfl (Yd_add rfl rfl (i64w (by omega) (by omega))) (RL_q rfl (Yd_move rfl) (RL_nil (?_)))))))))))
          refine X_again (⟨k + 1, c + 1⟩) ⟨rfl, rfl, rfl, rfl, rfl, trivial⟩ ?_ (by show n_l - (k + 1) < n_l - k; omega)
          refine ⟨?_, ?_, ?_, hL0⟩
          all_goals (try dsimp only)
          all_goals (first | omega | (exact cnt_yes (by assumption) (by first | (simp [fGoes, hb15]; done) | (simp [fGoes, hb15, hb17]; done) | assumption) hc) | (exact cnt_no (by assumption) (by first | (simp [fGoes, hb15, hb17]; done) | assumption) hc))
        · skip
          try simp only [decide_eq_true_eq, decide_eq_false_iff_not, Bool.not_eq_true', Bool.not_eq_false', Decidable.not_not, Int.not_lt, Int.not_le, Bool.or_eq_true, Bool.and_eq_true, Bool.or_eq_false_iff, Bool.and_eq_false_iff] at hb17
          refine C_skip (X_block (X_then (C_region (RL_q rfl (Yd_add rfl rfl (i64w (by omega) (by omega))) (RL_q rfl (Yd_move rfl) (RL_nil (?_)))))))
          refine X_again (⟨k + 1, c⟩) ⟨rfl, rfl, rfl, rfl, rfl, trivial⟩ ?_ (by show n_l - (k + 1) < n_l - k; omega)
          refine ⟨?_, ?_, ?_, hL0⟩
          all_goals (try dsimp only)
          all_goals (first | omega | (exact cnt_yes (by assumption) (by first | (simp [fGoes, hb15]; done) | (simp [fGoes, hb15, hb17]; done) | assumption) hc) | (exact cnt_no (by assumption) (by first | (simp [fGoes, hb15, hb17]; done) | assumption) hc))
    · skip
      try simp only [decide_eq_true_eq, decide_eq_false_iff_not, Bool.not_eq_true', Bool.not_eq_false', Decidable.not_not, Int.not_lt, Int.not_le, Bool.or_eq_true, Bool.and_eq_true, Bool.or_eq_false_iff, Bool.and_eq_false_iff] at hb9
      refine C_exit (X_thenE (X_thenE (X_blockE (X_then (C_seq (C_region (RL_q rfl (Yd_move rfl) (RL_q rfl (Yd_assign rfl) (RL_nil (X_then (C_ret (X_ret1 rfl rfl ?_))))))))))))
      refine ⟨_, rfl, ?_, hE⟩
      all_goals (first | rfl | (obtain rfl : k = l.length := by omega); rw [hc, List.take_length])
theorem goesR {f : F} {w : World}   :
    Calls Try.prog 51 #[.agg #[.bool f.used, .bool f.dirty, .bool f.ref, .int .i64 f.pins]] w fun e w' => ∃ (x0 : Bool), e = .returned (.bool x0) ∧ x0 = (fGoes f) ∧ Ext w w' := by
  have hE := Ext.refl w
  refine calls_of (l := [.agg #[.bool f.used, .bool f.dirty, .bool f.ref, .int .i64 f.pins]]) (N := 11) Try.func51 rfl rfl rfl ?_
  refine C_seq (C_region (RL_l rfl (Ld_box rfl ?_)))
  have hg_1 := hE.size
  intro W1 he1 hz1 hB1
  replace hE := Ext.trans hE he1
  refine RL_q rfl (Yd_assign rfl) (RL_nil (X_then (C_seq (C_region (RL_q rfl (Yd_fld (off := 0) Try.underlying79 (by kernel_rfl) rfl) (RL_q rfl (Yd_load Try.underlying4 rfl rfl (ldB hB1 rfl)) (RL_q rfl (Yd_not rfl) (RL_q rfl (Yd_move rfl) (?_)))))))))
  apply RL_or (dj := 6) 10 4 rfl
  · intro hb6
    try simp only [decide_eq_true_eq, decide_eq_false_iff_not, Bool.not_eq_true', Bool.not_eq_false', Decidable.not_not, Int.not_lt, Int.not_le, Bool.or_eq_true, Bool.and_eq_true, Bool.or_eq_false_iff, Bool.and_eq_false_iff] at hb6
    refine QL_gq rfl rfl rfl (Yd_fld (off := 3) Try.underlying79 (by kernel_rfl) rfl) (QL_gq rfl rfl rfl (Yd_load Try.underlying3 rfl rfl (ldB hB1 rfl)) (QL_gq rfl rfl rfl (Yd_eql rfl rfl) (QL_q rfl (Yd_pickF rfl rfl) ((QL_nil 4 rfl rfl rfl)))))
  · intro hb6
    try simp only [decide_eq_true_eq, decide_eq_false_iff_not, Bool.not_eq_true', Bool.not_eq_false', Decidable.not_not, Int.not_lt, Int.not_le, Bool.or_eq_true, Bool.and_eq_true, Bool.or_eq_false_iff, Bool.and_eq_false_iff] at hb6
    refine QL_gn rfl rfl rfl rfl (QL_gn rfl rfl rfl rfl (QL_gn rfl rfl rfl rfl (QL_q rfl (Yd_pickT rfl rfl) ((QL_nil 4 rfl rfl rfl)))))
  · skip
    refine RL_q rfl (Yd_assign rfl) (RL_nil (X_then (C_ret (X_ret1 rfl rfl ?_))))
    refine ⟨_, rfl, ?_, hE⟩
    all_goals (first | rfl | (simp [fGoes]; done))
theorem refFree {lo_l B_l : Nat} {A_l : Option Addr} {n_l c_l : Nat} {l : List F} {w : World}  (h_l : Vw tF w lo_l B_l A_l n_l c_l l) (h6 : n_l ≤ 60000) :
    Calls Try.prog 36 #[.slice A_l n_l c_l] w fun e w' => ∃ (x0 : Int), e = .returned (.int .i64 x0) ∧ x0 = ((count l : Int)) ∧ Ext w w' := by
  have hE := Ext.refl w
  replace h_l := h_l.fit
  have hn_l := h_l.ln
  have hc_l := h_l.cap
  have hm_l := h_l.max
  simp only [maxLen] at hm_l
  refine calls_of (l := [.slice A_l n_l c_l]) (N := 19) Try.func36 rfl rfl rfl ?_
  refine C_seq (C_region (RL_q rfl (Yd_assign rfl) (RL_nil (X_then (C_seq (C_region (RL_q rfl (Yd_assign rfl) (RL_nil (X_then (C_seq (C_seq (C_region (RL_q rfl (Yd_assign rfl) (RL_nil (X_then (C_block (?_)))))))))))))))))
  refine C_loop (T := Nat × Nat) (fun ⟨k, c⟩ => [(0, .slice A_l n_l c_l), (2, .int .i64 0), (3, .int .i64 (c : Int)), (4, .int .i64 (k : Int))]) (fun ⟨k, c⟩ lw0 => (k ≤ n_l) ∧ (c ≤ k) ∧ (c = count (l.take k)) ∧ Ext w lw0) (fun ⟨k, c⟩ => n_l - k) (⟨0, 0⟩) ⟨rfl, rfl, rfl, rfl, trivial⟩ ?_ ?_
  · refine ⟨?_, ?_, ?_, Ext.refl _⟩
    all_goals (try dsimp only)
    all_goals (first | omega | rfl)
  · rintro ⟨k, c⟩ lw0 ⟨hi0_0, hck, hc, hL0⟩
    replace hE := Ext.trans hE hL0
    replace h_l := h_l.ext hL0
    have hsL0 := hL0.size
    refine C_seq (C_seq (C_region (RL_q rfl (Yd_move rfl) (RL_q rfl (Yd_move rfl) (RL_q rfl (Yd_len Try.underlying58 rfl) (RL_q rfl (Yd_lss rfl rfl) (RL_nil (X_then (?_)))))))))
    refine C_cond rfl (fun hb8 => ?_) (fun hb8 => ?_)
    · skip
      try simp only [decide_eq_true_eq, decide_eq_false_iff_not, Bool.not_eq_true', Bool.not_eq_false', Decidable.not_not, Int.not_lt, Int.not_le, Bool.or_eq_true, Bool.and_eq_true, Bool.or_eq_false_iff, Bool.and_eq_false_iff] at hb8
      refine C_skip (X_then (C_seq (C_block (C_seq (C_region (RL_q rfl (Yd_move rfl) (RL_q rfl (Yd_move rfl) (?_))))))))
      obtain ⟨adA_l, rfl, hghA_l, hglA_l⟩ := Vw.at_ (i := k) h_l (by omega)
      refine RL_q rfl (Yd_idx Try.underlying58 (sz := 4) (by kernel_rfl) rfl rfl (by omega) (by omega)) (?_)
      obtain ⟨x1, hx1, gx1⟩ := Vw.elem (i := k) h_l (by omega)
      replace gx1 : -9223372036854775808 ≤ x1.pins ∧ x1.pins ≤ 9223372036854775807 := gx1
      refine RL_q rfl (Yd_loadA (cs := [.bool x1.used, .bool x1.dirty, .bool x1.ref, .int .i64 x1.pins]) Try.underlying79 rfl (by kernel_rfl) rfl (Vw.lqA h_l hx1 rfl rfl)) (RL_l rfl (Ld_call Try.func51 rfl (by kernel_rfl) rfl (goesR (f := (⟨x1.used, x1.dirty, x1.ref, x1.pins⟩ : F))) ?_))
      rintro e W1 ⟨_, rfl, rfl, he1⟩
      refine ⟨_, rfl, ?_⟩
      replace hE := Ext.trans hE he1
      replace h_l := h_l.ext he1
      replace hL0 := Ext.trans hL0 he1
      have hs1 := he1.size
      refine RL_nil (X_then (?_))
      refine C_cond rfl (fun hb15 => ?_) (fun hb15 => ?_)
      · skip
        try simp only [decide_eq_true_eq, decide_eq_false_iff_not, Bool.not_eq_true', Bool.not_eq_false', Decidable.not_not, Int.not_lt, Int.not_le, Bool.or_eq_true, Bool.and_eq_true, Bool.or_eq_false_iff, Bool.and_eq_false_iff] at hb15
        refine C_region (RL_q rfl (Yd_move rfl) (RL_q rfl (Yd_add rfl rfl (i64w (by omega) (by omega))) (RL_q rfl (Yd_assign rfl) (RL_nil (X_block (X_then (C_region (RL_q rfl (Yd_move rfl) (RL_q rfl (Yd_add rfl rfl (i64w (by omega) (by omega))) (RL_q rfl (Yd_assign rfl) (RL_nil (?_))))))))))))
        refine X_again (⟨k + 1, c + 1⟩) ⟨rfl, rfl, rfl, rfl, trivial⟩ ?_ (by show n_l - (k + 1) < n_l - k; omega)
        refine ⟨?_, ?_, ?_, hL0⟩
        all_goals (try dsimp only)
        all_goals (first | omega | exact cnt_yes (by assumption) hb15 hc | exact cnt_no (by assumption) hb15 hc)
      · skip
        try simp only [decide_eq_true_eq, decide_eq_false_iff_not, Bool.not_eq_true', Bool.not_eq_false', Decidable.not_not, Int.not_lt, Int.not_le, Bool.or_eq_true, Bool.and_eq_true, Bool.or_eq_false_iff, Bool.and_eq_false_iff] at hb15
        refine C_skip (X_block (X_then (C_region (RL_q rfl (Yd_move rfl) (RL_q rfl (Yd_add rfl rfl (i64w (by omega) (by omega))) (RL_q rfl (Yd_assign rfl) (RL_nil (?_))))))))
        refine X_again (⟨k + 1, c⟩) ⟨rfl, rfl, rfl, rfl, trivial⟩ ?_ (by show n_l - (k + 1) < n_l - k; omega)
        refine ⟨?_, ?_, ?_, hL0⟩
        all_goals (try dsimp only)
        all_goals (first | omega | exact cnt_yes (by assumption) hb15 hc | exact cnt_no (by assumption) hb15 hc)
    · skip
      try simp only [decide_eq_true_eq, decide_eq_false_iff_not, Bool.not_eq_true', Bool.not_eq_false', Decidable.not_not, Int.not_lt, Int.not_le, Bool.or_eq_true, Bool.and_eq_true, Bool.or_eq_false_iff, Bool.and_eq_false_iff] at hb8
      refine C_exit (X_thenE (X_thenE (X_blockE (X_then (C_seq (C_region (RL_q rfl (Yd_move rfl) (RL_q rfl (Yd_assign rfl) (RL_nil (X_then (C_ret (X_ret1 rfl rfl ?_))))))))))))
      refine ⟨_, rfl, ?_, hE⟩
      all_goals (first | rfl | (obtain rfl : k = l.length := by omega); rw [hc, List.take_length])
theorem SameV {lo_a B_a : Nat} {A_a : Option Addr} {n_a c_a : Nat} {a : List F} {lo_b B_b : Nat} {A_b : Option Addr} {n_b c_b : Nat} {b : List F} {w : World}  (h_a : Vw tF w lo_a B_a A_a n_a c_a a) (h_b : Vw tF w lo_b B_b A_b n_b c_b b) :
    Calls Try.prog 38 #[.slice A_a n_a c_a, .slice A_b n_b c_b] w fun e w' => ∃ (x0 : Bool), e = .returned (.bool x0) ∧ x0 = (decide (a = b)) ∧ Ext w w' := by
  have hE := Ext.refl w
  replace h_a := h_a.fit
  have hn_a := h_a.ln
  have hc_a := h_a.cap
  have hm_a := h_a.max
  simp only [maxLen] at hm_a
  replace h_b := h_b.fit
  have hn_b := h_b.ln
  have hc_b := h_b.cap
  have hm_b := h_b.max
  simp only [maxLen] at hm_b
  refine calls_of (l := [.slice A_a n_a c_a, .slice A_b n_b c_b]) (N := 26) Try.func38 rfl rfl rfl ?_
  refine C_seq (C_region (RL_q rfl (Yd_assign rfl) (RL_nil (X_then (C_seq (C_seq (C_region (RL_q rfl (Yd_move rfl) (RL_q rfl (Yd_len Try.underlying58 rfl) (RL_q rfl (Yd_move rfl) (RL_q rfl (Yd_len Try.underlying58 rfl) (RL_q rfl (Yd_neq rfl rfl) (RL_nil (X_then (?_)))))))))))))))
  refine C_cond rfl (fun hb10 => ?_) (fun hb10 => ?_)
  · skip
    try simp only [decide_eq_true_eq, decide_eq_false_iff_not, Bool.not_eq_true', Bool.not_eq_false', Decidable.not_not, Int.not_lt, Int.not_le, Bool.or_eq_true, Bool.and_eq_true, Bool.or_eq_false_iff, Bool.and_eq_false_iff] at hb10
    refine C_seq (C_region (RL_q rfl (Yd_assign rfl) (RL_nil (X_then (C_ret (X_thenR (X_ret1 rfl rfl ?_)))))))
    refine ⟨_, rfl, ?_, hE⟩
    all_goals (first | exact (decide_eq_false (fun e => by subst e; omega)).symm | exact (decide_eq_false (fun e => by subst e; simp_all)).symm | exact (decide_eq_true (same_all hk (by omega) (by omega))).symm)
  · skip
    try simp only [decide_eq_true_eq, decide_eq_false_iff_not, Bool.not_eq_true', Bool.not_eq_false', Decidable.not_not, Int.not_lt, Int.not_le, Bool.or_eq_true, Bool.and_eq_true, Bool.or_eq_false_iff, Bool.and_eq_false_iff] at hb10
    refine C_skip (X_then (C_seq (C_seq (C_region (RL_q rfl (Yd_assign rfl) (RL_nil (X_then (C_block (?_)))))))))
    refine C_loop (T := Nat) (fun k => [(0, .slice A_a n_a c_a), (1, .slice A_b n_b c_b), (5, .int .i64 (k : Int))]) (fun k lw0 => (k ≤ n_a) ∧ (a.take k = b.take k) ∧ Ext w lw0) (fun k => n_a - k) (0) ⟨rfl, rfl, rfl, trivial⟩ ?_ ?_
    · refine ⟨?_, ?_, Ext.refl _⟩
      all_goals (try dsimp only)
      all_goals (first | omega | rfl | exact take_both hk (by assumption) (by assumption) hb25)
    · rintro k lw0 ⟨hi0_0, hk, hL0⟩
      replace hE := Ext.trans hE hL0
      replace h_a := h_a.ext hL0
      replace h_b := h_b.ext hL0
      have hsL0 := hL0.size
      refine C_seq (C_seq (C_region (RL_q rfl (Yd_move rfl) (RL_q rfl (Yd_move rfl) (RL_q rfl (Yd_len Try.underlying58 rfl) (RL_q rfl (Yd_lss rfl rfl) (RL_nil (X_then (?_)))))))))
      refine C_cond rfl (fun hb14 => ?_) (fun hb14 => ?_)
      · skip
        try simp only [decide_eq_true_eq, decide_eq_false_iff_not, Bool.not_eq_true', Bool.not_eq_false', Decidable.not_not, Int.not_lt, Int.not_le, Bool.or_eq_true, Bool.and_eq_true, Bool.or_eq_false_iff, Bool.and_eq_false_iff] at hb14
        refine C_skip (X_then (C_seq (C_block (C_seq (?_)))))
        refine C_regionD (NoB) (l := [(0, true), (1, true), (2, true), (3, true), (4, true), (5, true), (6, true), (7, true), (8, true)]) (by kernel_rfl) (by kernel_rfl) rfl (by kernel_rfl) (fun _ _ d _ _ h => by cases d <;> exact h) ?_
        intro W1 he1 hh1
        replace hE := Ext.trans hE he1
        replace h_a := h_a.ext he1
        replace h_b := h_b.ext he1
        replace hL0 := Ext.trans hL0 he1
        have hs1 := he1.size
        refine RO_q rfl rfl (Yd_move rfl) (RO_q rfl rfl (Yd_move rfl) (?_))
        obtain ⟨adA_a, rfl, hghA_a, hglA_a⟩ := Vw.at_ (i := k) h_a (by omega)
        refine RO_q rfl rfl (Yd_idx Try.underlying58 (sz := 4) (by kernel_rfl) rfl rfl (by omega) (by omega)) (?_)
        obtain ⟨x1, hx1, gx1⟩ := Vw.elem (i := k) h_a (by omega)
        replace gx1 : -9223372036854775808 ≤ x1.pins ∧ x1.pins ≤ 9223372036854775807 := gx1
        refine RO_q rfl rfl (Yd_loadA (cs := [.bool x1.used, .bool x1.dirty, .bool x1.ref, .int .i64 x1.pins]) Try.underlying79 rfl (by kernel_rfl) rfl (fun W hW => (Vw.lqA h_a hx1 rfl rfl) W hW.ext)) (RO_q rfl rfl (Yd_move rfl) (RO_q rfl rfl (Yd_move rfl) (?_)))
        obtain ⟨adA_b, rfl, hghA_b, hglA_b⟩ := Vw.at_ (i := k) h_b (by omega)
        refine RO_q rfl rfl (Yd_idx Try.underlying58 (sz := 4) (by kernel_rfl) rfl rfl (by omega) (by omega)) (?_)
        obtain ⟨x2, hx2, gx2⟩ := Vw.elem (i := k) h_b (by omega)
        replace gx2 : -9223372036854775808 ≤ x2.pins ∧ x2.pins ≤ 9223372036854775807 := gx2
        refine RO_q rfl rfl (Yd_loadA (cs := [.bool x2.used, .bool x2.dirty, .bool x2.ref, .int .i64 x2.pins]) Try.underlying79 rfl (by kernel_rfl) rfl (fun W hW => (Vw.lqA h_b hx2 rfl rfl) W hW.ext)) (RO_q rfl rfl (Yd_neqA Try.underlying79 (by kernel_rfl) (by kernel_rfl) (tb := [(false, 0, 1), (false, 1, 1), (false, 2, 1), (false, 3, 0)]) (by kernel_rfl) rfl rfl rfl (F_eq (⟨x1.used, x1.dirty, x1.ref, x1.pins⟩ : F) (⟨x2.used, x2.dirty, x2.ref, x2.pins⟩ : F))) (RO_nil (X_then (?_))))
        refine C_cond rfl (fun hb25 => ?_) (fun hb25 => ?_)
        · skip
          try simp only [decide_eq_true_eq, decide_eq_false_iff_not, Bool.not_eq_true', Bool.not_eq_false', Decidable.not_not, Int.not_lt, Int.not_le, Bool.or_eq_true, Bool.and_eq_true, Bool.or_eq_false_iff, Bool.and_eq_false_iff] at hb25
          refine C_seq (C_region (RL_q rfl (Yd_assign rfl) (RL_nil (X_then (C_ret (X_blockR (X_thenR (X_thenR (X_blockR (X_thenR (X_ret1 rfl rfl ?_)))))))))))
          refine ⟨_, rfl, ?_, hE⟩
          all_goals (first | exact (decide_eq_false (fun e => by subst e; omega)).symm | exact (decide_eq_false (fun e => by subst e; simp_all)).symm | exact (decide_eq_true (same_all hk (by omega) (by omega))).symm)
        · skip
          try simp only [decide_eq_true_eq, decide_eq_false_iff_not, Bool.not_eq_true', Bool.not_eq_false', Decidable.not_not, Int.not_lt, Int.not_le, Bool.or_eq_true, Bool.and_eq_true, Bool.or_eq_false_iff, Bool.and_eq_false_iff] at hb25
          refine C_skip (X_block (X_then (C_region (RL_q rfl (Yd_move rfl) (RL_q rfl (Yd_add rfl rfl (i64w (by omega) (by omega))) (RL_q rfl (Yd_assign rfl) (RL_nil (?_))))))))
          refine X_again (k + 1) ⟨rfl, rfl, rfl, trivial⟩ ?_ (by show n_a - (k + 1) < n_a - k; omega)
          refine ⟨?_, ?_, hL0⟩
          all_goals (try dsimp only)
          all_goals (first | omega | rfl | exact take_both hk (by assumption) (by assumption) hb25)
      · skip
        try simp only [decide_eq_true_eq, decide_eq_false_iff_not, Bool.not_eq_true', Bool.not_eq_false', Decidable.not_not, Int.not_lt, Int.not_le, Bool.or_eq_true, Bool.and_eq_true, Bool.or_eq_false_iff, Bool.and_eq_false_iff] at hb14
        refine C_exit (X_thenE (X_thenE (X_blockE (X_then (C_seq (C_region (RL_q rfl (Yd_assign rfl) (RL_nil (X_then (C_ret (X_ret1 rfl rfl ?_)))))))))))
        refine ⟨_, rfl, ?_, hE⟩
        all_goals (first | exact (decide_eq_false (fun e => by subst e; omega)).symm | exact (decide_eq_false (fun e => by subst e; simp_all)).symm | exact (decide_eq_true (same_all hk (by omega) (by omega))).symm)
theorem ofV {lo_l B_l : Nat} {A_l : Option Addr} {n_l c_l : Nat} {l : List F} {w : World}  (h_l : Vw tF w lo_l B_l A_l n_l c_l l) (h6 : n_l * 16 ≤ 140737488351232) :
    Calls Try.prog 32 #[.slice A_l n_l c_l] w fun e w' => ∃ (A0 : Option Addr) (n0 c0 : Nat), e = .returned (.slice A0 n0 c0) ∧ Ow tF 25 w' w.heap.size w'.heap.size A0 n0 c0 l ∧ Ext w w' := by
  have hE := Ext.refl w
  replace h_l := h_l.fit
  have hn_l := h_l.ln
  have hc_l := h_l.cap
  have hm_l := h_l.max
  simp only [maxLen] at hm_l
  refine calls_of (l := [.slice A_l n_l c_l]) (N := 36) Try.func32 rfl rfl rfl ?_
  refine C_seq (C_region (RL_q rfl (Yd_assign rfl) (RL_nil (X_then (C_seq (C_region (RL_q rfl (Yd_assign rfl) (RL_nil (X_then (C_seq (C_seq (C_region (RL_q rfl (Yd_assign rfl) (RL_nil (X_then (C_block (?_)))))))))))))))))
  refine C_loop (T := Nat × Option Addr × Nat × Nat) (fun ⟨k, lA3, ln3, lc3⟩ => [(0, .slice A_l n_l c_l), (2, .slice none 0 0), (3, .slice lA3 ln3 lc3), (4, .int .i64 (k : Int))]) (fun ⟨k, lA3, ln3, lc3⟩ lw0 => Ow tF 25 lw0 w.heap.size lw0.heap.size lA3 ln3 lc3 (l.take k) ∧ (k ≤ n_l) ∧ Ext w lw0) (fun ⟨k, lA3, ln3, lc3⟩ => n_l - k) (⟨0, none, 0, 0⟩) ⟨rfl, rfl, rfl, rfl, trivial⟩ ?_ ?_
  · refine ⟨(Ow.nil (lo := w.heap.size)).cast ?_, ?_, Ext.refl _⟩
    all_goals (try dsimp only)
    all_goals (first | omega | rfl | exact take_next' (by assumption))
  · rintro ⟨k, lA3, ln3, lc3⟩ lw0 ⟨hR3, hi0_0, hL0⟩
    replace hE := Ext.trans hE hL0
    replace h_l := h_l.ext hL0
    have hsL0 := hL0.size
    have hnhR3 := hR3.ln
    try simp only [List.length_append, List.length_cons, List.length_nil, List.length_set, List.length_take, List.length_drop, List.length_replicate, List.length_map, Nat.zero_add, Nat.add_zero, turn0_len] at hnhR3
    have hchR3 := hR3.cap
    refine C_seq (C_seq (C_region (RL_q rfl (Yd_move rfl) (RL_q rfl (Yd_move rfl) (RL_q rfl (Yd_len Try.underlying58 rfl) (RL_q rfl (Yd_lss rfl rfl) (RL_nil (X_then (?_)))))))))
    refine C_cond rfl (fun hb8 => ?_) (fun hb8 => ?_)
    · skip
      try simp only [decide_eq_true_eq, decide_eq_false_iff_not, Bool.not_eq_true', Bool.not_eq_false', Decidable.not_not, Int.not_lt, Int.not_le, Bool.or_eq_true, Bool.and_eq_true, Bool.or_eq_false_iff, Bool.and_eq_false_iff] at hb8
      refine C_skip (X_then (C_seq (C_block (?_))))
      refine C_regionD (fun k => (w.heap.size ≤ k ∧ k < lw0.heap.size)) (l := [(0, true), (1, true), (2, true), (3, true), (4, true), (5, true), (6, true), (7, true), (8, true), (9, true), (10, true), (11, true), (12, true), (13, true), (14, true), (15, true), (16, true), (17, true), (18, true), (19, true), (20, true), (21, true), (22, false), (23, false), (24, true)]) (by kernel_rfl) (by kernel_rfl) rfl (by kernel_rfl) (fun _ _ d _ _ h => by cases d <;> exact h) ?_
      intro W1 he1 hh1
      replace hE := Ext.trans hE he1
      replace h_l := h_l.ext he1
      replace hR3 := hR3.ext he1
      replace hL0 := Ext.trans hL0 he1
      have hs1 := he1.size
      refine RO_q rfl rfl (Yd_move rfl) (RO_q rfl rfl (Yd_move rfl) (RO_q rfl rfl (Yd_move rfl) (?_)))
      obtain ⟨adA_l, rfl, hghA_l, hglA_l⟩ := Vw.at_ (i := k) h_l (by omega)
      refine RO_q rfl rfl (Yd_idx Try.underlying58 (sz := 4) (by kernel_rfl) rfl rfl (by omega) (by omega)) (RO_q rfl rfl (Yd_fldG (off := 0) Try.underlying79 (by kernel_rfl) rfl) (?_))
      obtain ⟨x1, hx1, gx1⟩ := Vw.elem (i := k) h_l (by omega)
      replace gx1 : -9223372036854775808 ≤ x1.pins ∧ x1.pins ≤ 9223372036854775807 := gx1
      refine RO_q rfl rfl (Yd_load Try.underlying4 rfl rfl (fun W hW => (Vw.lqF (Vw.kp h_l hW (fun k hk => by first | omega | (have hk := hk; dsimp only at hk; omega))) hx1 rfl rfl) W (Ext.refl W))) (RO_q rfl rfl (Yd_move rfl) (RO_q rfl rfl (Yd_move rfl) (RO_q rfl rfl (Yd_idx Try.underlying58 (sz := 4) (by kernel_rfl) rfl rfl (by omega) (by omega)) (RO_q rfl rfl (Yd_fldG (off := 1) Try.underlying79 (by kernel_rfl) rfl) (RO_q rfl rfl (Yd_load Try.underlying4 rfl rfl (fun W hW => (Vw.lqF (Vw.kp h_l hW (fun k hk => by first | omega | (have hk := hk; dsimp only at hk; omega))) hx1 rfl rfl) W (Ext.refl W))) (RO_q rfl rfl (Yd_move rfl) (RO_q rfl rfl (Yd_move rfl) (RO_q rfl rfl (Yd_idx Try.underlying58 (sz := 4) (by kernel_rfl) rfl rfl (by omega) (by omega)) (RO_q rfl rfl (Yd_fldG (off := 2) Try.underlying79 (by kernel_rfl) rfl) (RO_q rfl rfl (Yd_load Try.underlying4 rfl rfl (fun W hW => (Vw.lqF (Vw.kp h_l hW (fun k hk => by first | omega | (have hk := hk; dsimp only at hk; omega))) hx1 rfl rfl) W (Ext.refl W))) (RO_q rfl rfl (Yd_move rfl) (RO_q rfl rfl (Yd_move rfl) (RO_q rfl rfl (Yd_idx Try.underlying58 (sz := 4) (by kernel_rfl) rfl rfl (by omega) (by omega)) (RO_q rfl rfl (Yd_fldG (off := 3) Try.underlying79 (by kernel_rfl) rfl) (RO_q rfl rfl (Yd_load Try.underlying3 rfl rfl (fun W hW => (Vw.lqF (Vw.kp h_l hW (fun k hk => by first | omega | (have hk := hk; dsimp only at hk; omega))) hx1 rfl rfl) W (Ext.refl W))) (RO_q rfl rfl (Yd_build Try.bld25 rfl rfl) (RO_l rfl rfl (Ld_lit Try.underlying56 rfl (lit_flat Try.underlying56 Try.elt25 rfl rfl ⟨rfl, by decide⟩) ?_))))))))))))))))))
      intro W2 he2 hz2 hL33
      refine ⟨Kp.of_ext he2, ?_⟩
      replace hE := Ext.trans hE he2
      replace h_l := h_l.ext he2
      replace hR3 := hR3.ext he2
      replace hL0 := Ext.trans hL0 he2
      have hO33 := Ow.of_blk (T := tF) (l := [(⟨x1.used, x1.dirty, x1.ref, x1.pins⟩ : F)]) hL33 rfl (n := 1) rfl (by simp [maxLen]) (okc ⟨by dsimp only; omega, by dsimp only; omega⟩ okn)
      clear hL33
      refine RO_l rfl rfl (Ld_apO (T := tF) Try.underlying56 Try.elt25 rfl rfl rfl hR3 hO33.vw (by simp only [maxLen]; omega) (by omega) (by omega) ?_)
      intro A34 c34 W3 hO34 hk3
      refine ⟨hk3.mono (fun k hk => by first | omega | exact hk | (have hk := hk; dsimp only at hk; first | omega | (dsimp only; omega))), ?_⟩
      have hs3 := hk3.size
      replace hE := Ext.kp hE hk3 (fun k hk => by first | omega | (have hk := hk; dsimp only at hk; omega))
      replace h_l := h_l.kp hk3 (fun k hk => by first | omega | (have hk := hk; dsimp only at hk; omega))
      try replace hL0 := Ext.kp hL0 hk3 (fun k hk => by first | omega | (have hk := hk; dsimp only at hk; omega))
      replace hO33 := hO33.kp hk3 (fun k hk => by first | omega | (have hk := hk; dsimp only at hk; omega))
      have hn34 := hO34.ln
      try simp only [List.length_append, List.length_cons, List.length_nil, List.length_set, List.length_take, List.length_drop, List.length_replicate, List.length_map, Nat.zero_add, Nat.add_zero, turn0_len] at hn34
      have hc34 := hO34.cap
      refine RO_q rfl rfl (Yd_assign rfl) (RO_nil (X_block (X_then (C_region (RL_q rfl (Yd_move rfl) (RL_q rfl (Yd_add rfl rfl (i64w (by omega) (by omega))) (RL_q rfl (Yd_assign rfl) (RL_nil (?_)))))))))
      refine X_again (⟨k + 1, A34, (ln3 + 1), c34⟩) ⟨rfl, rfl, rfl, rfl, trivial⟩ ?_ (by show n_l - (k + 1) < n_l - k; omega)
      refine ⟨hO34.fit.cast ?_, ?_, hL0⟩
      all_goals (try dsimp only)
      all_goals (first | omega | rfl | exact take_next' (by assumption))
    · skip
      try simp only [decide_eq_true_eq, decide_eq_false_iff_not, Bool.not_eq_true', Bool.not_eq_false', Decidable.not_not, Int.not_lt, Int.not_le, Bool.or_eq_true, Bool.and_eq_true, Bool.or_eq_false_iff, Bool.and_eq_false_iff] at hb8
      refine C_exit (X_thenE (X_thenE (X_blockE (X_then (C_seq (C_region (RL_q rfl (Yd_move rfl) (RL_q rfl (Yd_assign rfl) (RL_nil (X_then (C_ret (X_ret1 rfl rfl ?_))))))))))))
      refine ⟨_, _, _, rfl, (hR3.fit.more (by omega) (Nat.le_refl _)).cast ?_, hE⟩
      all_goals ((obtain rfl : k = l.length := by omega); rw [List.take_length])
theorem asV {lo_l B_l : Nat} {A_l : Option Addr} {n_l c_l : Nat} {l : List F} {w : World}  (h_l : Vw tF w lo_l B_l A_l n_l c_l l) (h6 : n_l * 16 ≤ 140737488351232) :
    Calls Try.prog 34 #[.slice A_l n_l c_l] w fun e w' => ∃ (A0 : Option Addr) (n0 c0 : Nat), e = .returned (.slice A0 n0 c0) ∧ Ow tF 79 w' w.heap.size w'.heap.size A0 n0 c0 l ∧ Ext w w' := by
  have hE := Ext.refl w
  replace h_l := h_l.fit
  have hn_l := h_l.ln
  have hc_l := h_l.cap
  have hm_l := h_l.max
  simp only [maxLen] at hm_l
  refine calls_of (l := [.slice A_l n_l c_l]) (N := 36) Try.func34 rfl rfl rfl ?_
  refine C_seq (C_region (RL_q rfl (Yd_assign rfl) (RL_nil (X_then (C_seq (C_region (RL_q rfl (Yd_assign rfl) (RL_nil (X_then (C_seq (C_seq (C_region (RL_q rfl (Yd_assign rfl) (RL_nil (X_then (C_block (?_)))))))))))))))))
  refine C_loop (T := Nat × Option Addr × Nat × Nat) (fun ⟨k, lA3, ln3, lc3⟩ => [(0, .slice A_l n_l c_l), (2, .slice none 0 0), (3, .slice lA3 ln3 lc3), (4, .int .i64 (k : Int))]) (fun ⟨k, lA3, ln3, lc3⟩ lw0 => Ow tF 79 lw0 w.heap.size lw0.heap.size lA3 ln3 lc3 (l.take k) ∧ (k ≤ n_l) ∧ Ext w lw0) (fun ⟨k, lA3, ln3, lc3⟩ => n_l - k) (⟨0, none, 0, 0⟩) ⟨rfl, rfl, rfl, rfl, trivial⟩ ?_ ?_
  · refine ⟨(Ow.nil (lo := w.heap.size)).cast ?_, ?_, Ext.refl _⟩
    all_goals (try dsimp only)
    all_goals (first | omega | rfl | exact take_next' (by assumption))
  · rintro ⟨k, lA3, ln3, lc3⟩ lw0 ⟨hR3, hi0_0, hL0⟩
    replace hE := Ext.trans hE hL0
    replace h_l := h_l.ext hL0
    have hsL0 := hL0.size
    have hnhR3 := hR3.ln
    try simp only [List.length_append, List.length_cons, List.length_nil, List.length_set, List.length_take, List.length_drop, List.length_replicate, List.length_map, Nat.zero_add, Nat.add_zero, turn0_len] at hnhR3
    have hchR3 := hR3.cap
    refine C_seq (C_seq (C_region (RL_q rfl (Yd_move rfl) (RL_q rfl (Yd_move rfl) (RL_q rfl (Yd_len Try.underlying56 rfl) (RL_q rfl (Yd_lss rfl rfl) (RL_nil (X_then (?_)))))))))
    refine C_cond rfl (fun hb8 => ?_) (fun hb8 => ?_)
    · skip
      try simp only [decide_eq_true_eq, decide_eq_false_iff_not, Bool.not_eq_true', Bool.not_eq_false', Decidable.not_not, Int.not_lt, Int.not_le, Bool.or_eq_true, Bool.and_eq_true, Bool.or_eq_false_iff, Bool.and_eq_false_iff] at hb8
      refine C_skip (X_then (C_seq (C_block (?_))))
      refine C_regionD (fun k => (w.heap.size ≤ k ∧ k < lw0.heap.size)) (l := [(0, true), (1, true), (2, true), (3, true), (4, true), (5, true), (6, true), (7, true), (8, true), (9, true), (10, true), (11, true), (12, true), (13, true), (14, true), (15, true), (16, true), (17, true), (18, true), (19, true), (20, true), (21, true), (22, false), (23, false), (24, true)]) (by kernel_rfl) (by kernel_rfl) rfl (by kernel_rfl) (fun _ _ d _ _ h => by cases d <;> exact h) ?_
      intro W1 he1 hh1
      replace hE := Ext.trans hE he1
      replace h_l := h_l.ext he1
      replace hR3 := hR3.ext he1
      replace hL0 := Ext.trans hL0 he1
      have hs1 := he1.size
      refine RO_q rfl rfl (Yd_move rfl) (RO_q rfl rfl (Yd_move rfl) (RO_q rfl rfl (Yd_move rfl) (?_)))
      obtain ⟨adA_l, rfl, hghA_l, hglA_l⟩ := Vw.at_ (i := k) h_l (by omega)
      refine RO_q rfl rfl (Yd_idx Try.underlying56 (sz := 4) (by kernel_rfl) rfl rfl (by omega) (by omega)) (RO_q rfl rfl (Yd_fldG (off := 0) Try.underlying25 (by kernel_rfl) rfl) (?_))
      obtain ⟨x1, hx1, gx1⟩ := Vw.elem (i := k) h_l (by omega)
      replace gx1 : -9223372036854775808 ≤ x1.pins ∧ x1.pins ≤ 9223372036854775807 := gx1
      refine RO_q rfl rfl (Yd_load Try.underlying4 rfl rfl (fun W hW => (Vw.lqF (Vw.kp h_l hW (fun k hk => by first | omega | (have hk := hk; dsimp only at hk; omega))) hx1 rfl rfl) W (Ext.refl W))) (RO_q rfl rfl (Yd_move rfl) (RO_q rfl rfl (Yd_move rfl) (RO_q rfl rfl (Yd_idx Try.underlying56 (sz := 4) (by kernel_rfl) rfl rfl (by omega) (by omega)) (RO_q rfl rfl (Yd_fldG (off := 1) Try.underlying25 (by kernel_rfl) rfl) (RO_q rfl rfl (Yd_load Try.underlying4 rfl rfl (fun W hW => (Vw.lqF (Vw.kp h_l hW (fun k hk => by first | omega | (have hk := hk; dsimp only at hk; omega))) hx1 rfl rfl) W (Ext.refl W))) (RO_q rfl rfl (Yd_move rfl) (RO_q rfl rfl (Yd_move rfl) (RO_q rfl rfl (Yd_idx Try.underlying56 (sz := 4) (by kernel_rfl) rfl rfl (by omega) (by omega)) (RO_q rfl rfl (Yd_fldG (off := 2) Try.underlying25 (by kernel_rfl) rfl) (RO_q rfl rfl (Yd_load Try.underlying4 rfl rfl (fun W hW => (Vw.lqF (Vw.kp h_l hW (fun k hk => by first | omega | (have hk := hk; dsimp only at hk; omega))) hx1 rfl rfl) W (Ext.refl W))) (RO_q rfl rfl (Yd_move rfl) (RO_q rfl rfl (Yd_move rfl) (RO_q rfl rfl (Yd_idx Try.underlying56 (sz := 4) (by kernel_rfl) rfl rfl (by omega) (by omega)) (RO_q rfl rfl (Yd_fldG (off := 3) Try.underlying25 (by kernel_rfl) rfl) (RO_q rfl rfl (Yd_load Try.underlying3 rfl rfl (fun W hW => (Vw.lqF (Vw.kp h_l hW (fun k hk => by first | omega | (have hk := hk; dsimp only at hk; omega))) hx1 rfl rfl) W (Ext.refl W))) (RO_q rfl rfl (Yd_build Try.bld79 rfl rfl) (RO_l rfl rfl (Ld_lit Try.underlying58 rfl (lit_flat Try.underlying58 Try.elt79 rfl rfl ⟨rfl, by decide⟩) ?_))))))))))))))))))
      intro W2 he2 hz2 hL33
      refine ⟨Kp.of_ext he2, ?_⟩
      replace hE := Ext.trans hE he2
      replace h_l := h_l.ext he2
      replace hR3 := hR3.ext he2
      replace hL0 := Ext.trans hL0 he2
      have hO33 := Ow.of_blk (T := tF) (l := [(⟨x1.used, x1.dirty, x1.ref, x1.pins⟩ : F)]) hL33 rfl (n := 1) rfl (by simp [maxLen]) (okc ⟨by dsimp only; omega, by dsimp only; omega⟩ okn)
      clear hL33
      refine RO_l rfl rfl (Ld_apO (T := tF) Try.underlying58 Try.elt79 rfl rfl rfl hR3 hO33.vw (by simp only [maxLen]; omega) (by omega) (by omega) ?_)
      intro A34 c34 W3 hO34 hk3
      refine ⟨hk3.mono (fun k hk => by first | omega | exact hk | (have hk := hk; dsimp only at hk; first | omega | (dsimp only; omega))), ?_⟩
      have hs3 := hk3.size
      replace hE := Ext.kp hE hk3 (fun k hk => by first | omega | (have hk := hk; dsimp only at hk; omega))
      replace h_l := h_l.kp hk3 (fun k hk => by first | omega | (have hk := hk; dsimp only at hk; omega))
      try replace hL0 := Ext.kp hL0 hk3 (fun k hk => by first | omega | (have hk := hk; dsimp only at hk; omega))
      replace hO33 := hO33.kp hk3 (fun k hk => by first | omega | (have hk := hk; dsimp only at hk; omega))
      have hn34 := hO34.ln
      try simp only [List.length_append, List.length_cons, List.length_nil, List.length_set, List.length_take, List.length_drop, List.length_replicate, List.length_map, Nat.zero_add, Nat.add_zero, turn0_len] at hn34
      have hc34 := hO34.cap
      refine RO_q rfl rfl (Yd_assign rfl) (RO_nil (X_block (X_then (C_region (RL_q rfl (Yd_move rfl) (RL_q rfl (Yd_add rfl rfl (i64w (by omega) (by omega))) (RL_q rfl (Yd_assign rfl) (RL_nil (?_)))))))))
      refine X_again (⟨k + 1, A34, (ln3 + 1), c34⟩) ⟨rfl, rfl, rfl, rfl, trivial⟩ ?_ (by show n_l - (k + 1) < n_l - k; omega)
      refine ⟨hO34.fit.cast ?_, ?_, hL0⟩
      all_goals (try dsimp only)
      all_goals (first | omega | rfl | exact take_next' (by assumption))
    · skip
      try simp only [decide_eq_true_eq, decide_eq_false_iff_not, Bool.not_eq_true', Bool.not_eq_false', Decidable.not_not, Int.not_lt, Int.not_le, Bool.or_eq_true, Bool.and_eq_true, Bool.or_eq_false_iff, Bool.and_eq_false_iff] at hb8
      refine C_exit (X_thenE (X_thenE (X_blockE (X_then (C_seq (C_region (RL_q rfl (Yd_move rfl) (RL_q rfl (Yd_assign rfl) (RL_nil (X_then (C_ret (X_ret1 rfl rfl ?_))))))))))))
      refine ⟨_, _, _, rfl, (hR3.fit.more (by omega) (Nat.le_refl _)).cast ?_, hE⟩
      all_goals ((obtain rfl : k = l.length := by omega); rw [List.take_length])
theorem GoodR {lo_l B_l : Nat} {A_l : Option Addr} {n_l c_l : Nat} {l : List F} {w : World}  (h_l : Vw tF w lo_l B_l A_l n_l c_l l) :
    Calls Try.prog 33 #[.slice A_l n_l c_l] w fun e w' => ∃ (A0 : Option Addr) (n0 c0 : Nat), e = .returned (.slice A0 n0 c0) ∧ Ow tF 79 w' w.heap.size w'.heap.size A0 n0 c0 (goodL l) ∧ (0 < n0 ∧ n0 ≤ 8) ∧ Ext w w' := by
  have hE := Ext.refl w
  replace h_l := h_l.fit
  have hn_l := h_l.ln
  have hc_l := h_l.cap
  have hm_l := h_l.max
  simp only [maxLen] at hm_l
  refine calls_of (l := [.slice A_l n_l c_l]) (N := 49) Try.func33 rfl rfl rfl ?_
  refine C_seq (C_region (RL_q rfl (Yd_assign rfl) (RL_nil (X_then (C_seq (C_region (RL_q rfl (Yd_assign rfl) (RL_nil (X_then (C_seq (C_seq (C_region (RL_q rfl (Yd_assign rfl) (RL_nil (X_then (C_block (?_)))))))))))))))))
  refine C_loop (T := Nat × Option Addr × Nat × Nat) (fun ⟨k, lA3, ln3, lc3⟩ => [(0, .slice A_l n_l c_l), (2, .slice none 0 0), (3, .slice lA3 ln3 lc3), (4, .int .i64 (k : Int))]) (fun ⟨k, lA3, ln3, lc3⟩ lw0 => Ow tF 79 lw0 w.heap.size lw0.heap.size lA3 ln3 lc3 ((l.take k).map goodF) ∧ (k ≤ n_l) ∧ (k ≤ 8) ∧ Ext w lw0) (fun ⟨k, lA3, ln3, lc3⟩ => 8 - k) (⟨0, none, 0, 0⟩) ⟨rfl, rfl, rfl, rfl, trivial⟩ ?_ ?_
  · refine ⟨(Ow.nil (lo := w.heap.size)).cast ?_, ?_, ?_, Ext.refl _⟩
    all_goals (try dsimp only)
    all_goals (first | omega | rfl | exact goodF_next1 (by assumption) hb21 (by assumption) | exact goodF_next0 (by assumption) hb21)
  · rintro ⟨k, lA3, ln3, lc3⟩ lw0 ⟨hR3, hi0_0, hi0_1, hL0⟩
    replace hE := Ext.trans hE hL0
    replace h_l := h_l.ext hL0
    have hsL0 := hL0.size
    have hnhR3 := hR3.ln
    try simp only [List.length_append, List.length_cons, List.length_nil, List.length_set, List.length_take, List.length_drop, List.length_replicate, List.length_map, Nat.zero_add, Nat.add_zero, turn0_len] at hnhR3
    have hchR3 := hR3.cap
    refine C_seq (C_seq (C_region (RL_q rfl (Yd_move rfl) (RL_q rfl (Yd_move rfl) (RL_q rfl (Yd_len Try.underlying58 rfl) (RL_q rfl (Yd_lss rfl rfl) (RL_q rfl (Yd_move rfl) (?_))))))))
    apply RL_and (dj := 10) 13 3 rfl
    · intro hb10
      try simp only [decide_eq_true_eq, decide_eq_false_iff_not, Bool.not_eq_true', Bool.not_eq_false', Decidable.not_not, Int.not_lt, Int.not_le, Bool.or_eq_true, Bool.and_eq_true, Bool.or_eq_false_iff, Bool.and_eq_false_iff] at hb10
      refine QL_gq rfl rfl rfl (Yd_move rfl) (QL_gq rfl rfl rfl (Yd_lss rfl rfl) (QL_q rfl (Yd_pickT rfl rfl) ((QL_nil 3 rfl rfl rfl))))
    · intro hb10
      try simp only [decide_eq_true_eq, decide_eq_false_iff_not, Bool.not_eq_true', Bool.not_eq_false', Decidable.not_not, Int.not_lt, Int.not_le, Bool.or_eq_true, Bool.and_eq_true, Bool.or_eq_false_iff, Bool.and_eq_false_iff] at hb10
      refine QL_gn rfl rfl rfl rfl (QL_gn rfl rfl rfl rfl (QL_q rfl (Yd_pickF rfl rfl) ((QL_nil 3 rfl rfl rfl))))
    · skip
      refine RL_nil (X_then (?_))
      refine C_cond rfl (fun hb13 => ?_) (fun hb13 => ?_)
      · skip
        try simp only [decide_eq_true_eq, decide_eq_false_iff_not, Bool.not_eq_true', Bool.not_eq_false', Decidable.not_not, Int.not_lt, Int.not_le, Bool.or_eq_true, Bool.and_eq_true, Bool.or_eq_false_iff, Bool.and_eq_false_iff] at hb13
        refine C_skip (X_then (C_seq (C_block (C_seq (C_region (RL_q rfl (Yd_build Try.bld79 rfl rfl) (RL_l rfl (Ld_alloc (v := (.agg #[(.bool false), (.bool false), (.bool false), (.int .i64 0)])) (by kernel_rfl) ?_))))))))
        have hg_5 := hE.size
        intro W1 he1 hz1 hB5
        replace hE := Ext.trans hE he1
        replace h_l := h_l.ext he1
        replace hR3 := hR3.ext he1
        replace hL0 := Ext.trans hL0 he1
        refine RL_l0 (Ld_store (by kernel_rfl) rfl rfl hB5 (Nat.le_of_ble_eq_true rfl) (by simp [cellsL, Value.cells, Value.oneCell']) ?_)
        intro W2 hu2 hz2 hB5
        have hk2 := Kp.ofb hu2
        have hs2 := hk2.size
        replace hE := Ext.kp hE hk2 (fun k hk => by first | omega | (have hk := hk; dsimp only at hk; omega))
        replace h_l := h_l.kp hk2 (fun k hk => by first | omega | (have hk := hk; dsimp only at hk; omega))
        replace hR3 := hR3.kp hk2 (fun k hk => by first | omega | (have hk := hk; dsimp only at hk; omega))
        try replace hL0 := Ext.kp hL0 hk2 (fun k hk => by first | omega | (have hk := hk; dsimp only at hk; omega))
        refine RL_nil (X_then (C_seq (C_seq (C_region (RL_q rfl (Yd_move rfl) (RL_q rfl (Yd_move rfl) (?_)))))))
        obtain ⟨adA_l, rfl, hghA_l, hglA_l⟩ := Vw.at_ (i := k) h_l (by omega)
        refine RL_q rfl (Yd_idx Try.underlying58 (sz := 4) (by kernel_rfl) rfl rfl (by omega) (by omega)) (RL_q rfl (Yd_fldG (off := 0) Try.underlying79 (by kernel_rfl) rfl) (?_))
        obtain ⟨x1, hx1, gx1⟩ := Vw.elem (i := k) h_l (by omega)
        replace gx1 : -9223372036854775808 ≤ x1.pins ∧ x1.pins ≤ 9223372036854775807 := gx1
        refine RL_q rfl (Yd_load Try.underlying4 rfl rfl (Vw.lqF h_l hx1 rfl rfl)) (RL_nil (X_then (?_)))
        refine C_cond rfl (fun hb21 => ?_) (fun hb21 => ?_)
        · skip
          try simp only [decide_eq_true_eq, decide_eq_false_iff_not, Bool.not_eq_true', Bool.not_eq_false', Decidable.not_not, Int.not_lt, Int.not_le, Bool.or_eq_true, Bool.and_eq_true, Bool.or_eq_false_iff, Bool.and_eq_false_iff] at hb21
          refine C_regionD (fun k => k = lw0.heap.size) (l := [(0, true), (1, true), (2, true), (3, true), (4, true), (5, true), (6, true), (7, true), (8, true), (9, true), (10, true), (11, true), (12, true), (13, true), (14, true), (15, false), (16, true), (17, false)]) (by kernel_rfl) (by kernel_rfl) rfl (by kernel_rfl) (fun _ _ d _ _ h => by cases d <;> exact h) ?_
          intro W3 he3 hh3
          replace hE := Ext.trans hE he3
          replace h_l := h_l.ext he3
          replace hR3 := hR3.ext he3
          replace hL0 := Ext.trans hL0 he3
          replace hB5 := hB5.ext he3
          have hs3 := he3.size
          refine RO_q rfl rfl (Yd_move rfl) (RO_q rfl rfl (Yd_move rfl) (RO_q rfl rfl (Yd_idx Try.underlying58 (sz := 4) (by kernel_rfl) rfl rfl (by omega) (by omega)) (RO_q rfl rfl (Yd_fldG (off := 1) Try.underlying79 (by kernel_rfl) rfl) (RO_q rfl rfl (Yd_load Try.underlying4 rfl rfl (fun W hW => (Vw.lqF (Vw.kp h_l hW (fun k hk => by first | omega | (have hk := hk; dsimp only at hk; omega))) hx1 rfl rfl) W (Ext.refl W))) (RO_q rfl rfl (Yd_move rfl) (RO_q rfl rfl (Yd_move rfl) (RO_q rfl rfl (Yd_idx Try.underlying58 (sz := 4) (by kernel_rfl) rfl rfl (by omega) (by omega)) (RO_q rfl rfl (Yd_fldG (off := 2) Try.underlying79 (by kernel_rfl) rfl) (RO_q rfl rfl (Yd_load Try.underlying4 rfl rfl (fun W hW => (Vw.lqF (Vw.kp h_l hW (fun k hk => by first | omega | (have hk := hk; dsimp only at hk; omega))) hx1 rfl rfl) W (Ext.refl W))) (RO_q rfl rfl (Yd_move rfl) (RO_q rfl rfl (Yd_move rfl) (RO_q rfl rfl (Yd_idx Try.underlying58 (sz := 4) (by kernel_rfl) rfl rfl (by omega) (by omega)) (RO_q rfl rfl (Yd_fldG (off := 3) Try.underlying79 (by kernel_rfl) rfl) (RO_q rfl rfl (Yd_load Try.underlying3 rfl rfl (fun W hW => (Vw.lqF (Vw.kp h_l hW (fun k hk => by first | omega | (have hk := hk; dsimp only at hk; omega))) hx1 rfl rfl) W (Ext.refl W))) (RO_l rfl rfl (Ld_call Try.func15 rfl (by kernel_rfl) rfl (AroundV ⟨by first | omega | (dsimp only; omega), by first | omega | (dsimp only; omega)⟩ ⟨by first | omega | (dsimp only; omega), by first | omega | (dsimp only; omega)⟩) ?_))))))))))))))))
          rintro e W4 ⟨y37, rfl, hy37, hra37, rfl⟩
          refine ⟨_, rfl, ?_⟩
          refine ⟨Kp.refl _ _, ?_⟩
          refine RO_q rfl rfl (Yd_build Try.bld79 rfl rfl) (RO_l0 rfl (Ld_store (by kernel_rfl) rfl rfl hB5 (Nat.le_of_ble_eq_true rfl) (by simp [cellsL, Value.cells, Value.oneCell']) ?_))
          intro W5 hu5 hz5 hB5
          refine ⟨Kp.of_but hu5 rfl, ?_⟩
          have hk5 := Kp.ofb hu5
          have hs5 := hk5.size
          replace hE := Ext.kp hE hk5 (fun k hk => by first | omega | (have hk := hk; dsimp only at hk; omega))
          replace h_l := h_l.kp hk5 (fun k hk => by first | omega | (have hk := hk; dsimp only at hk; omega))
          replace hR3 := hR3.kp hk5 (fun k hk => by first | omega | (have hk := hk; dsimp only at hk; omega))
          try replace hL0 := Ext.kp hL0 hk5 (fun k hk => by first | omega | (have hk := hk; dsimp only at hk; omega))
          refine RO_nil (X_then (C_region (RL_q rfl (Yd_move rfl) (RL_q rfl (Yd_loadA Try.underlying79 rfl (by kernel_rfl) rfl (ldBA hB5)) (RL_l rfl (Ld_lit Try.underlying58 rfl (lit_flat Try.underlying58 Try.elt79 rfl rfl ⟨rfl, by decide⟩) ?_))))))
          intro W6 he6 hz6 hL41
          replace hE := Ext.trans hE he6
          replace h_l := h_l.ext he6
          replace hR3 := hR3.ext he6
          replace hL0 := Ext.trans hL0 he6
          replace hB5 := hB5.ext he6
          have hO41 := Ow.of_blk (T := tF) (l := [(⟨true, x1.dirty, x1.ref, y37⟩ : F)]) hL41 rfl (n := 1) rfl (by simp [maxLen]) (okc ⟨by dsimp only; omega, by dsimp only; omega⟩ okn)
          clear hL41
          refine RL_l rfl (Ld_apO (T := tF) Try.underlying58 Try.elt79 rfl rfl rfl hR3 hO41.vw (by simp only [maxLen]; omega) (by omega) (by omega) ?_)
          intro A42 c42 W7 hO42 hk7
          have hs7 := hk7.size
          replace hE := Ext.kp hE hk7 (fun k hk => by first | omega | (have hk := hk; dsimp only at hk; omega))
          replace h_l := h_l.kp hk7 (fun k hk => by first | omega | (have hk := hk; dsimp only at hk; omega))
          try replace hL0 := Ext.kp hL0 hk7 (fun k hk => by first | omega | (have hk := hk; dsimp only at hk; omega))
          replace hB5 := hB5.kp hk7 (fun hk => by first | omega | (have hk := hk; dsimp only at hk; omega))
          replace hO41 := hO41.kp hk7 (fun k hk => by first | omega | (have hk := hk; dsimp only at hk; omega))
          have hn42 := hO42.ln
          try simp only [List.length_append, List.length_cons, List.length_nil, List.length_set, List.length_take, List.length_drop, List.length_replicate, List.length_map, Nat.zero_add, Nat.add_zero, turn0_len] at hn42
          have hc42 := hO42.cap
          refine RL_q rfl (Yd_assign rfl) (RL_nil (X_block (X_then (C_region (RL_q rfl (Yd_move rfl) (RL_q rfl (Yd_add rfl rfl (i64w (by omega) (by omega))) (RL_q rfl (Yd_assign rfl) (RL_nil (?_)))))))))
          refine X_again (⟨k + 1, A42, (ln3 + 1), c42⟩) ⟨rfl, rfl, rfl, rfl, trivial⟩ ?_ (by show 8 - (k + 1) < 8 - k; omega)
          refine ⟨hO42.fit.cast ?_, ?_, ?_, hL0⟩
          all_goals (try dsimp only)
          all_goals (first | omega | rfl | exact goodF_next1 (by assumption) hb21 (by assumption) | exact goodF_next0 (by assumption) hb21)
        · skip
          try simp only [decide_eq_true_eq, decide_eq_false_iff_not, Bool.not_eq_true', Bool.not_eq_false', Decidable.not_not, Int.not_lt, Int.not_le, Bool.or_eq_true, Bool.and_eq_true, Bool.or_eq_false_iff, Bool.and_eq_false_iff] at hb21
          refine C_skip (X_then (C_region (RL_q rfl (Yd_move rfl) (RL_q rfl (Yd_loadA Try.underlying79 rfl (by kernel_rfl) rfl (ldBA hB5)) (RL_l rfl (Ld_lit Try.underlying58 rfl (lit_flat Try.underlying58 Try.elt79 rfl rfl ⟨rfl, by decide⟩) ?_))))))
          intro W3 he3 hz3 hL41
          replace hE := Ext.trans hE he3
          replace h_l := h_l.ext he3
          replace hR3 := hR3.ext he3
          replace hL0 := Ext.trans hL0 he3
          replace hB5 := hB5.ext he3
          have hO41 := Ow.of_blk (T := tF) (l := [(⟨false, false, false, 0⟩ : F)]) hL41 rfl (n := 1) rfl (by simp [maxLen]) (okc ⟨by dsimp only; omega, by dsimp only; omega⟩ okn)
          clear hL41
          refine RL_l rfl (Ld_apO (T := tF) Try.underlying58 Try.elt79 rfl rfl rfl hR3 hO41.vw (by simp only [maxLen]; omega) (by omega) (by omega) ?_)
          intro A42 c42 W4 hO42 hk4
          have hs4 := hk4.size
          replace hE := Ext.kp hE hk4 (fun k hk => by first | omega | (have hk := hk; dsimp only at hk; omega))
          replace h_l := h_l.kp hk4 (fun k hk => by first | omega | (have hk := hk; dsimp only at hk; omega))
          try replace hL0 := Ext.kp hL0 hk4 (fun k hk => by first | omega | (have hk := hk; dsimp only at hk; omega))
          replace hB5 := hB5.kp hk4 (fun hk => by first | omega | (have hk := hk; dsimp only at hk; omega))
          replace hO41 := hO41.kp hk4 (fun k hk => by first | omega | (have hk := hk; dsimp only at hk; omega))
          have hn42 := hO42.ln
          try simp only [List.length_append, List.length_cons, List.length_nil, List.length_set, List.length_take, List.length_drop, List.length_replicate, List.length_map, Nat.zero_add, Nat.add_zero, turn0_len] at hn42
          have hc42 := hO42.cap
          refine RL_q rfl (Yd_assign rfl) (RL_nil (X_block (X_then (C_region (RL_q rfl (Yd_move rfl) (RL_q rfl (Yd_add rfl rfl (i64w (by omega) (by omega))) (RL_q rfl (Yd_assign rfl) (RL_nil (?_)))))))))
          refine X_again (⟨k + 1, A42, (ln3 + 1), c42⟩) ⟨rfl, rfl, rfl, rfl, trivial⟩ ?_ (by show 8 - (k + 1) < 8 - k; omega)
          refine ⟨hO42.fit.cast ?_, ?_, ?_, hL0⟩
          all_goals (try dsimp only)
          all_goals (first | omega | rfl | exact goodF_next1 (by assumption) hb21 (by assumption) | exact goodF_next0 (by assumption) hb21)
      · skip
        try simp only [decide_eq_true_eq, decide_eq_false_iff_not, Bool.not_eq_true', Bool.not_eq_false', Decidable.not_not, Int.not_lt, Int.not_le, Bool.or_eq_true, Bool.and_eq_true, Bool.or_eq_false_iff, Bool.and_eq_false_iff] at hb13
        refine C_exit (X_thenE (X_thenE (X_blockE (X_then (C_seq (C_seq (C_region (RL_q rfl (Yd_move rfl) (RL_q rfl (Yd_len Try.underlying58 rfl) (RL_q rfl (Yd_eql rfl rfl) (RL_nil (X_then (?_)))))))))))))
        refine C_cond rfl (fun hb45 => ?_) (fun hb45 => ?_)
        · skip
          try simp only [decide_eq_true_eq, decide_eq_false_iff_not, Bool.not_eq_true', Bool.not_eq_false', Decidable.not_not, Int.not_lt, Int.not_le, Bool.or_eq_true, Bool.and_eq_true, Bool.or_eq_false_iff, Bool.and_eq_false_iff] at hb45
          refine C_seq (C_region (RL_q rfl (Yd_build Try.bld79 rfl rfl) (RL_l rfl (Ld_lit Try.underlying58 rfl (lit_flat Try.underlying58 Try.elt79 rfl rfl ⟨rfl, by decide⟩) ?_))))
          intro W1 he1 hz1 hL47
          replace hE := Ext.trans hE he1
          replace h_l := h_l.ext he1
          replace hR3 := hR3.ext he1
          replace hL0 := Ext.trans hL0 he1
          have hO47 := Ow.of_blk (T := tF) (l := [(⟨false, false, false, 0⟩ : F)]) hL47 rfl (n := 1) rfl (by simp [maxLen]) (okc ⟨by dsimp only; omega, by dsimp only; omega⟩ okn)
          clear hL47
          refine RL_q rfl (Yd_assign rfl) (RL_nil (X_then (C_ret (X_thenR (X_ret1 rfl rfl ?_)))))
          refine ⟨_, _, _, rfl, (hO47.fit.more (by omega) (Nat.le_refl _)).cast ?_, ?_, hE⟩
          all_goals (first | exact goodL_nil (by omega) | omega | exact goodL_all (by omega) (by omega) (by omega))
        · skip
          try simp only [decide_eq_true_eq, decide_eq_false_iff_not, Bool.not_eq_true', Bool.not_eq_false', Decidable.not_not, Int.not_lt, Int.not_le, Bool.or_eq_true, Bool.and_eq_true, Bool.or_eq_false_iff, Bool.and_eq_false_iff] at hb45
          refine C_skip (X_then (C_seq (C_region (RL_q rfl (Yd_move rfl) (RL_q rfl (Yd_assign rfl) (RL_nil (X_then (C_ret (X_ret1 rfl rfl ?_)))))))))
          refine ⟨_, _, _, rfl, (hR3.fit.more (by omega) (Nat.le_refl _)).cast ?_, ?_, hE⟩
          all_goals (first | exact goodL_nil (by omega) | omega | exact goodL_all (by omega) (by omega) (by omega))
theorem refTurnN {lo_l B_l : Nat} {A_l : Option Addr} {n_l c_l : Nat} {l : List F} {h : Nat} {w : World}  (h_l : Vw tF w lo_l B_l A_l n_l c_l l) (hn0 : 0 < n_l) (hhn : h < n_l) (h6 : n_l ≤ 60000) :
    Calls Try.prog 40 #[.slice A_l n_l c_l, .int .i64 (h : Int)] w fun e w' => ∃ (v nx lk : Int) (A : Option Addr) (n c : Nat), e = .returned (.agg #[.int .i64 v, .int .i64 nx, .slice A n c, .int .i64 lk]) ∧ v = tV h l.length (turn0 h l.length l) ∧ nx = tN h l.length (turn0 h l.length l) ∧ lk = tL (turn0 h l.length l) ∧ Ow tF 79 w' w.heap.size w'.heap.size A n c (turn0 h l.length l).2 ∧ Ext w w' := by
  have hE := Ext.refl w
  replace h_l := h_l.fit
  have hn_l := h_l.ln
  have hc_l := h_l.cap
  have hm_l := h_l.max
  simp only [maxLen] at hm_l
  refine calls_of (l := [.slice A_l n_l c_l, .int .i64 (h : Int)]) (N := 61) Try.func40 rfl rfl rfl ?_
  refine C_seq (C_region (RL_l rfl (Ld_alloc (v := (.agg #[(.int .i64 0), (.int .i64 0), (.slice none 0 0), (.int .i64 0)])) (by kernel_rfl) ?_)))
  have hg_4 := hE.size
  intro W1 he1 hz1 hB4
  replace hE := Ext.trans hE he1
  replace h_l := h_l.ext he1
  refine RL_nil (X_then (C_seq (C_region (RL_q rfl (Yd_move rfl) (RL_q rfl (Yd_len Try.underlying58 rfl) (RL_q rfl (Yd_assign rfl) (RL_nil (X_then (C_seq (C_region (RL_q rfl (Yd_assign rfl) (RL_nil (X_then (C_seq (C_region (RL_q rfl (Yd_move rfl) (RL_q rfl (Yd_move rfl) (RL_l rfl (Ld_apO (T := tF) Try.underlying58 Try.elt79 rfl rfl rfl (Ow.nil (lo := W1.heap.size) (B := W1.heap.size)) h_l (by simp only [maxLen]; omega) (by omega) (by omega) ?_)))))))))))))))))))
  intro A14 c14 W2 hO14 hk2
  have he2 : Ext W1 W2 := Ext.kp (Ext.refl _) hk2 (fun k hk => by first | omega | (have hk := hk; dsimp only at hk; omega))
  replace hE := Ext.trans hE he2
  replace h_l := h_l.ext he2
  replace hB4 := hB4.ext he2
  have hs2 := he2.size
  have hn14 := hO14.ln
  try simp only [List.length_append, List.length_cons, List.length_nil, List.length_set, List.length_take, List.length_drop, List.length_replicate, List.length_map, Nat.zero_add, Nat.add_zero, turn0_len] at hn14
  have hc14 := hO14.cap
  obtain ⟨gR, rfl, hgRl, hgRh⟩ := Ow.at_ (i := 0) hO14 (by omega)
  refine RL_q rfl (Yd_assign rfl) (RL_nil (X_then (C_seq (C_region (RL_q rfl (Yd_move rfl) (RL_q rfl (Yd_move rfl) (RL_q rfl (Yd_build Try.bld69 rfl rfl) (RL_l rfl (Ld_alloc (v := (.agg #[(.int .i64 0), (.int .i64 0), (.slice none 0 0), (.int .i64 0)])) (by kernel_rfl) ?_)))))))))
  have hg_7 := hE.size
  intro W3 he3 hz3 hB7
  replace hE := Ext.trans hE he3
  replace h_l := h_l.ext he3
  replace hB4 := hB4.ext he3
  replace hO14 := hO14.ext he3
  refine RL_l0 (Ld_store (by kernel_rfl) rfl rfl hB7 (Nat.le_of_ble_eq_true rfl) (by simp [cellsL, Value.cells, Value.oneCell']) ?_)
  intro W4 hu4 hz4 hB7
  have hk4 := Kp.ofb hu4
  have hs4 := hk4.size
  replace hE := Ext.kp hE hk4 (fun k hk => by first | omega | (have hk := hk; dsimp only at hk; omega))
  replace h_l := h_l.kp hk4 (fun k hk => by first | omega | (have hk := hk; dsimp only at hk; omega))
  replace hB4 := hB4.kp hk4 (fun hk => by first | omega | (have hk := hk; dsimp only at hk; omega))
  replace hO14 := hO14.kp hk4 (fun k hk => by first | omega | (have hk := hk; dsimp only at hk; omega))
  refine RL_nil (X_then (C_seq (C_seq (C_region (RL_q rfl (Yd_assign rfl) (RL_nil (X_then (C_block (?_)))))))))
  refine C_loop (T := Nat × List F) (fun ⟨k, lk⟩ => [(1, .int .i64 (h : Int)), (4, .pointer (some ⟨w.heap.size, 0, none⟩)), (5, .int .i64 (n_l : Int)), (6, .slice (some ⟨gR, 0, none⟩) (0 + n_l) c14), (7, .pointer (some ⟨W2.heap.size, 0, none⟩)), (8, .int .i64 (k : Int))]) (fun ⟨k, lk⟩ lw4 => Ow tF 79 lw4 W1.heap.size W2.heap.size (some ⟨gR, 0, none⟩) (0 + n_l) c14 lk ∧ (k ≤ 2 * l.length) ∧ (lk.length = l.length) ∧ (turnK h l.length (2 * l.length - k) k lk = turn0 h l.length l) ∧ Kp (fun k => (W1.heap.size ≤ k ∧ k < W2.heap.size)) W4 lw4) (fun ⟨k, lk⟩ => 2 * l.length - k) (⟨0, l⟩) ⟨rfl, rfl, rfl, rfl, rfl, rfl, trivial⟩ ?_ ?_
  · refine ⟨hO14.cast ?_, ?_, ?_, ?_, Kp.refl _ _⟩
    all_goals (try dsimp only)
    all_goals (first | omega | (rw [List.length_set]; omega) | rfl | (simp; done) | assumption)
  · rintro ⟨k, lk⟩ lw4 ⟨hO14, hi4_0, hlk, hinv, hL4⟩
    replace hE := Ext.kp hE hL4 (fun k hk => by first | omega | (have hk := hk; dsimp only at hk; omega))
    replace h_l := h_l.kp hL4 (fun k hk => by first | omega | (have hk := hk; dsimp only at hk; omega))
    replace hB4 := hB4.kp hL4 (fun hk => by first | omega | (have hk := hk; dsimp only at hk; omega))
    replace hB7 := hB7.kp hL4 (fun hk => by first | omega | (have hk := hk; dsimp only at hk; omega))
    have hsL4 := hL4.size
    have hnhO14 := hO14.ln
    try simp only [List.length_append, List.length_cons, List.length_nil, List.length_set, List.length_take, List.length_drop, List.length_replicate, List.length_map, Nat.zero_add, Nat.add_zero, turn0_len] at hnhO14
    have hchO14 := hO14.cap
    refine C_seq (C_seq (C_region (RL_q rfl (Yd_move rfl) (RL_q rfl (Yd_move rfl) (RL_q rfl (Yd_mul rfl rfl (i64w (by omega) (by omega))) (RL_q rfl (Yd_lss rfl rfl) (RL_nil (X_then (?_)))))))))
    refine C_cond rfl (fun hb21 => ?_) (fun hb21 => ?_)
    · skip
      try simp only [decide_eq_true_eq, decide_eq_false_iff_not, Bool.not_eq_true', Bool.not_eq_false', Decidable.not_not, Int.not_lt, Int.not_le, Bool.or_eq_true, Bool.and_eq_true, Bool.or_eq_false_iff, Bool.and_eq_false_iff] at hb21
      refine C_skip (X_then (C_seq (C_block (C_seq (C_region (RL_q rfl (Yd_move rfl) (RL_q rfl (Yd_move rfl) (RL_q rfl (Yd_add rfl rfl (i64w (by omega) (by omega))) (RL_q rfl (Yd_move rfl) (RL_q rfl (Yd_rem (r := (((h + k) % l.length : Nat) : Int)) rfl rfl (by omega) (by subst hn_l; rfl)) (?_)))))))))))
      have hi28 : (h + k) % l.length < l.length := Nat.mod_lt _ (by omega)
      refine RL_q rfl (Yd_assign rfl) (RL_nil (X_then (C_seq (C_seq (C_region (RL_q rfl (Yd_move rfl) (RL_q rfl (Yd_move rfl) (RL_q rfl (Yd_idxL Try.underlying58 (sz := 4) (by kernel_rfl) rfl rfl (by omega) (by omega)) (?_)))))))))
      obtain ⟨x1, hx1, gx1⟩ := Vw.elem (i := (((h + k) % l.length : Nat) : Int).toNat) hO14.vw (by omega)
      replace gx1 : -9223372036854775808 ≤ x1.pins ∧ x1.pins ≤ 9223372036854775807 := gx1
      refine RL_q rfl (Yd_loadA (cs := [.bool x1.used, .bool x1.dirty, .bool x1.ref, .int .i64 x1.pins]) Try.underlying79 rfl (by kernel_rfl) rfl (Vw.lqAL hO14.vw hx1 rfl rfl)) (RL_l rfl (Ld_call Try.func51 rfl (by kernel_rfl) rfl (goesR (f := (⟨x1.used, x1.dirty, x1.ref, x1.pins⟩ : F))) ?_))
      rintro e W5 ⟨_, rfl, rfl, he5⟩
      refine ⟨_, rfl, ?_⟩
      replace hE := Ext.trans hE he5
      replace h_l := h_l.ext he5
      replace hB4 := hB4.ext he5
      replace hB7 := hB7.ext he5
      replace hO14 := hO14.ext he5
      replace hL4 := Kp.go hL4 (Kp.of_ext (G := NoB) he5) (fun _ h => h.elim)
      have hs5 := he5.size
      refine RL_q rfl (Yd_not rfl) (RL_nil (X_then (?_)))
      refine C_cond rfl (fun hb34 => ?_) (fun hb34 => ?_)
      · skip
        have hT := turnK_skip (h := h) (n := l.length) (d := 2 * l.length - k) (by omega) hx1 (by simpa using hb34)
        rw [hT, show 2 * l.length - k - 1 = 2 * l.length - (k + 1) by omega] at hinv
        refine C_exit (X_thenE (X_blockE (X_then (C_region (RL_q rfl (Yd_move rfl) (RL_q rfl (Yd_add rfl rfl (i64w (by omega) (by omega))) (RL_q rfl (Yd_assign rfl) (RL_nil (?_)))))))))
        refine X_again (⟨k + 1, lk⟩) ⟨rfl, rfl, rfl, rfl, rfl, rfl, trivial⟩ ?_ (by show 2 * l.length - (k + 1) < 2 * l.length - k; omega)
        refine ⟨hO14.cast ?_, ?_, ?_, ?_, hL4⟩
        all_goals (try dsimp only)
        all_goals (first | omega | (rw [List.length_set]; omega) | rfl | (simp; done) | assumption)
      · skip
        refine C_skip (X_then (C_seq (C_seq (C_region (RL_q rfl (Yd_move rfl) (RL_q rfl (Yd_move rfl) (RL_q rfl (Yd_idxL Try.underlying58 (sz := 4) (by kernel_rfl) rfl rfl (by omega) (by omega)) (RL_q rfl (Yd_fld (off := 0) Try.underlying79 (by kernel_rfl) rfl) (RL_q rfl (Yd_load Try.underlying4 rfl rfl (Vw.lqFL hO14.vw hx1 rfl rfl)) (RL_q rfl (Yd_move rfl) (?_)))))))))))
        apply RL_and (dj := 40) 46 6 rfl
        · intro hb40
          try simp only [decide_eq_true_eq, decide_eq_false_iff_not, Bool.not_eq_true', Bool.not_eq_false', Decidable.not_not, Int.not_lt, Int.not_le, Bool.or_eq_true, Bool.and_eq_true, Bool.or_eq_false_iff, Bool.and_eq_false_iff] at hb40
          refine QL_gq rfl rfl rfl (Yd_move rfl) (QL_gq rfl rfl rfl (Yd_move rfl) (QL_gq rfl rfl rfl (Yd_idxL Try.underlying58 (sz := 4) (by kernel_rfl) rfl rfl (by omega) (by omega)) (QL_gq rfl rfl rfl (Yd_fld (off := 2) Try.underlying79 (by kernel_rfl) rfl) (QL_gq rfl rfl rfl (Yd_load Try.underlying4 rfl rfl (Vw.lqFL hO14.vw hx1 rfl rfl)) (QL_q rfl (Yd_pickT rfl rfl) ((QL_nil 6 rfl rfl rfl)))))))
        · intro hb40
          try simp only [decide_eq_true_eq, decide_eq_false_iff_not, Bool.not_eq_true', Bool.not_eq_false', Decidable.not_not, Int.not_lt, Int.not_le, Bool.or_eq_true, Bool.and_eq_true, Bool.or_eq_false_iff, Bool.and_eq_false_iff] at hb40
          refine QL_gn rfl rfl rfl rfl (QL_gn rfl rfl rfl rfl (QL_gn rfl rfl rfl rfl (QL_gn rfl rfl rfl rfl (QL_gn rfl rfl rfl rfl (QL_q rfl (Yd_pickF rfl rfl) ((QL_nil 6 rfl rfl rfl)))))))
        · skip
          refine RL_nil (X_then (?_))
          refine C_cond rfl (fun hb46 => ?_) (fun hb46 => ?_)
          · skip
            have hg : fGoes x1 = true := by simpa using hb34
            have hT := turnK_clear (h := h) (n := l.length) (d := 2 * l.length - k) (by omega) hx1 hg (by simpa using hb46)
            rw [hT, show 2 * l.length - k - 1 = 2 * l.length - (k + 1) by omega] at hinv
            refine C_seq (C_region (RL_q rfl (Yd_move rfl) (RL_q rfl (Yd_move rfl) (RL_q rfl (Yd_idxL Try.underlying58 (sz := 4) (by kernel_rfl) rfl rfl (by omega) (by omega)) (RL_q rfl (Yd_fld (off := 2) Try.underlying79 (by kernel_rfl) rfl) (RL_l0 (Ld_putF (T := tF) (a := (⟨x1.used, x1.dirty, false, x1.pins⟩ : F)) (by kernel_rfl) rfl rfl hO14 (i := (((h + k) % l.length : Nat) : Int).toNat) (j := 2) hx1 rfl rfl rfl rfl (by decide) ⟨by dsimp only; omega, by dsimp only; omega⟩ ?_)))))))
            intro W6 hO14' hu6
            have hk6 := Kp.ofb hu6
            have hs6 := hk6.size
            replace hE := Ext.kp hE hk6 (fun k hk => by first | omega | (have hk := hk; dsimp only at hk; omega))
            replace h_l := h_l.kp hk6 (fun k hk => by first | omega | (have hk := hk; dsimp only at hk; omega))
            replace hB4 := hB4.kp hk6 (fun hk => by first | omega | (have hk := hk; dsimp only at hk; omega))
            replace hB7 := hB7.kp hk6 (fun hk => by first | omega | (have hk := hk; dsimp only at hk; omega))
            try replace hL4 := hL4.go hk6 (fun k hk => by first | omega | (have hk := hk; dsimp only at hk; dsimp only; omega))
            replace hO14 := hO14'
            have hnhO14 := hO14.ln
            refine RL_nil (X_then (C_exit (X_thenE (X_blockE (X_then (C_region (RL_q rfl (Yd_move rfl) (RL_q rfl (Yd_add rfl rfl (i64w (by omega) (by omega))) (RL_q rfl (Yd_assign rfl) (RL_nil (?_)))))))))))
            refine X_again (⟨k + 1, (lk.set ((h + k) % l.length) ⟨x1.used, x1.dirty, false, x1.pins⟩)⟩) ⟨rfl, rfl, rfl, rfl, rfl, rfl, trivial⟩ ?_ (by show 2 * l.length - (k + 1) < 2 * l.length - k; omega)
            refine ⟨hO14.cast ?_, ?_, ?_, ?_, hL4⟩
            all_goals (try dsimp only)
            all_goals (first | omega | (rw [List.length_set]; omega) | rfl | (simp; done) | assumption)
          · skip
            have hg : fGoes x1 = true := by simpa using hb34
            have hT := turnK_hit (h := h) (n := l.length) (d := 2 * l.length - k) (by omega) hx1 hg (by cases hu : x1.used <;> simp_all)
            refine C_skip (X_then (C_seq (C_region (RL_q rfl (Yd_move rfl) (RL_q rfl (Yd_move rfl) (RL_q rfl (Yd_add rfl rfl (i64w (by omega) (by omega))) (RL_q rfl (Yd_move rfl) (RL_q rfl (Yd_rem (r := ((((h + k) % l.length + 1) % l.length : Nat) : Int)) rfl rfl (by omega) (by subst hn_l; rfl)) (RL_q rfl (Yd_move rfl) (RL_q rfl (Yd_move rfl) (RL_q rfl (Yd_add rfl rfl (i64w (by omega) (by omega))) (RL_q rfl (Yd_build Try.bld69 rfl rfl) (RL_l0 (Ld_store (by kernel_rfl) rfl rfl hB4 (Nat.le_of_ble_eq_true rfl) (by simp [cellsL, Value.cells, Value.oneCell']) ?_))))))))))))))
            intro W6 hu6 hz6 hB4
            have hk6 := Kp.ofb hu6
            have hs6 := hk6.size
            replace hE := Ext.kp hE hk6 (fun k hk => by first | omega | (have hk := hk; dsimp only at hk; omega))
            replace h_l := h_l.kp hk6 (fun k hk => by first | omega | (have hk := hk; dsimp only at hk; omega))
            replace hB7 := hB7.kp hk6 (fun hk => by first | omega | (have hk := hk; dsimp only at hk; omega))
            replace hO14 := hO14.kp hk6 (fun k hk => by first | omega | (have hk := hk; dsimp only at hk; omega))
            try replace hL4 := hL4.go hk6 (fun k hk => by first | omega | (have hk := hk; dsimp only at hk; dsimp only; omega))
            refine RL_nil (X_then (C_ret (X_blockR (X_thenR (X_thenR (X_blockR (X_thenR (X_retC rfl rfl Try.underlying69 rfl (by kernel_rfl) hB4 ?_))))))))
            refine ⟨_, _, _, _, _, _, rfl, ?_, ?_, ?_, (hO14.fit.more (by omega) (Nat.le_refl _)).cast ?_, hE⟩
            all_goals (first | (rw [← hinv, hT]; done) | (rw [← hinv, hT]; rfl) | (rw [← hinv, hT]; simp [tV, tN, tL]; done) | (rw [← hinv, hT]; simp [tV, tN, tL]; omega))
    · skip
      try simp only [decide_eq_true_eq, decide_eq_false_iff_not, Bool.not_eq_true', Bool.not_eq_false', Decidable.not_not, Int.not_lt, Int.not_le, Bool.or_eq_true, Bool.and_eq_true, Bool.or_eq_false_iff, Bool.and_eq_false_iff] at hb21
      obtain rfl : k = 2 * l.length := by omega
      have hT := turnK_zero (h := h) (n := l.length) (k := 2 * l.length) (l := lk)
      rw [Nat.sub_self] at hinv
      refine C_exit (X_thenE (X_thenE (X_blockE (X_then (C_seq (C_region (RL_q rfl (Yd_loadA Try.underlying69 rfl (by kernel_rfl) rfl (ldBA hB7)) (RL_l0 (Ld_store (by kernel_rfl) rfl rfl hB4 (Nat.le_of_ble_eq_true rfl) (by simp [cellsL, Value.cells, Value.oneCell']) ?_)))))))))
      intro W5 hu5 hz5 hB4
      have hk5 := Kp.ofb hu5
      have hs5 := hk5.size
      replace hE := Ext.kp hE hk5 (fun k hk => by first | omega | (have hk := hk; dsimp only at hk; omega))
      replace h_l := h_l.kp hk5 (fun k hk => by first | omega | (have hk := hk; dsimp only at hk; omega))
      replace hB7 := hB7.kp hk5 (fun hk => by first | omega | (have hk := hk; dsimp only at hk; omega))
      replace hO14 := hO14.kp hk5 (fun k hk => by first | omega | (have hk := hk; dsimp only at hk; omega))
      try replace hL4 := hL4.go hk5 (fun k hk => by first | omega | (have hk := hk; dsimp only at hk; dsimp only; omega))
      refine RL_nil (X_then (C_ret (X_retC rfl rfl Try.underlying69 rfl (by kernel_rfl) hB4 ?_)))
      refine ⟨_, _, _, _, _, _, rfl, ?_, ?_, ?_, (hO14.fit.more (by omega) (Nat.le_refl _)).cast ?_, hE⟩
      all_goals (first | (rw [← hinv, hT]; done) | (rw [← hinv, hT]; rfl) | (rw [← hinv, hT]; simp [tV, tN, tL]; done) | (rw [← hinv, hT]; simp [tV, tN, tL]; omega))
theorem refTurnZ {lo_l B_l : Nat} {A_l : Option Addr} {n_l c_l : Nat} {l : List F} {h : Int} {w : World}  (h_l : Vw tF w lo_l B_l A_l n_l c_l l) (b_h : 0 ≤ h ∧ h ≤ 100000) (hn0 : 0 < n_l) (hhn : h < n_l) (h6 : n_l ≤ 60000) :
    Calls Try.prog 40 #[.slice A_l n_l c_l, .int .i64 h] w fun e w' => ∃ (v nx lk : Int) (A : Option Addr) (n c : Nat), e = .returned (.agg #[.int .i64 v, .int .i64 nx, .slice A n c, .int .i64 lk]) ∧ v = tV h.toNat l.length (turn0 h.toNat l.length l) ∧ nx = tN h.toNat l.length (turn0 h.toNat l.length l) ∧ lk = tL (turn0 h.toNat l.length l) ∧ Ow tF 79 w' w.heap.size w'.heap.size A n c (turn0 h.toNat l.length l).2 ∧ Ext w w' :=
  by
  obtain ⟨H, rfl⟩ := Int.eq_ofNat_of_zero_le b_h.1
  exact refTurnN h_l hn0 (by omega) h6
theorem lives13V  {w : World}   :
    Calls Try.prog 39 #[] w fun e w' => ∃ (x0 : Bool), e = .returned (.bool x0) ∧ x0 = (true) ∧ Ext w w' := by
  have hE := Ext.refl w
  refine calls_of (l := []) (N := 48) Try.func39 rfl rfl rfl ?_
  refine C_seq (C_region (RL_q rfl (Yd_assign rfl) (RL_nil (X_then (C_seq (C_region (RL_q rfl (Yd_build Try.bld25 rfl rfl) (RL_q rfl (Yd_build Try.bld25 rfl rfl) (RL_l rfl (Ld_lit Try.underlying56 rfl (lit_flat Try.underlying56 Try.elt25 rfl rfl ⟨rfl, by decide⟩) ?_))))))))))
  intro W1 he1 hz1 hL8
  replace hE := Ext.trans hE he1
  have hO8 := Ow.of_blk (T := tF) (l := [(⟨true, false, true, 0⟩ : F), (⟨true, false, true, 0⟩ : F)]) hL8 rfl (n := 2) rfl (by simp [maxLen]) (okc ⟨by dsimp only; omega, by dsimp only; omega⟩ (okc ⟨by dsimp only; omega, by dsimp only; omega⟩ okn))
  clear hL8
  refine RL_q rfl (Yd_assign rfl) (RL_nil (X_then (C_seq (C_region (RL_q rfl (Yd_move rfl) (RL_l rfl (Ld_call Try.func35 rfl (by kernel_rfl) rfl (TurnZ hO8.vw ⟨by first | omega | (dsimp only; omega), by first | omega | (dsimp only; omega)⟩ (by omega) (by omega) (by omega)) ?_)))))))
  rintro e W2 ⟨y11_0, y11_1, A11_2, n11_2, c11_2, _, rfl, hy11_0, hy11_1, hF11_2, rfl, he2⟩
  refine ⟨_, rfl, ?_⟩
  replace hE := Ext.trans hE he2
  replace hO8 := hO8.ext he2
  have hs2 := he2.size
  have hn11_2 := hF11_2.ln
  try simp only [List.length_append, List.length_cons, List.length_nil, List.length_set, List.length_take, List.length_drop, List.length_replicate, List.length_map, Nat.zero_add, Nat.add_zero, turn0_len] at hn11_2
  have hc11_2 := hF11_2.cap
  have e11 : (turn0 (1 : Int).toNat 2 [⟨true, false, true, 0⟩, ⟨true, false, true, 0⟩]).2 = [⟨true, false, false, 0⟩, ⟨true, false, false, 0⟩] := by decide
  replace hF11_2 := hF11_2.cast e11
  have hn2 := hF11_2.ln
  simp only [List.length_cons, List.length_nil] at hn2
  refine RL_q rfl (Yd_move rfl) (RL_q rfl (Yd_extract rfl rfl) (RL_q rfl (Yd_extract rfl rfl) (RL_q rfl (Yd_extract rfl rfl) (RL_q rfl (Yd_extract rfl rfl) (RL_q rfl (Yd_assign rfl) (RL_q rfl (Yd_assign rfl) (RL_q rfl (Yd_assign rfl) (RL_q rfl (Yd_assign rfl) (RL_nil (X_then (C_seq (C_seq (C_region (RL_q rfl (Yd_move rfl) (RL_q rfl (Yd_not rfl) (RL_q rfl (Yd_move rfl) (?_)))))))))))))))))
  refine RL_is (d := 18) (b' := false) rfl (by decide) ?_
  refine RL_gq rfl rfl rfl (Yd_move rfl) (RL_gq rfl rfl rfl (Yd_neq rfl rfl) (RL_q rfl (Yd_pickF rfl rfl) (RL_q rfl (Yd_move rfl) (?_))))
  refine RL_is (d := 22) (b' := false) rfl (by rw [hy11_0]; decide) ?_
  refine RL_gq rfl rfl rfl (Yd_move rfl) (RL_gq rfl rfl rfl (Yd_neq rfl rfl) (RL_q rfl (Yd_pickF rfl rfl) (RL_q rfl (Yd_move rfl) (?_))))
  refine RL_is (d := 26) (b' := false) rfl (by rw [hy11_1]; decide) ?_
  refine RL_gq rfl rfl rfl (Yd_move rfl) (RL_gq rfl rfl rfl (Yd_len Try.underlying56 rfl) (RL_gq rfl rfl rfl (Yd_neq rfl rfl) (RL_q rfl (Yd_pickF rfl rfl) (RL_nil (X_then (?_))))))
  refine C_no rfl (by simp; omega) (C_skip (X_then (C_seq (C_region (RL_q rfl (Yd_move rfl) (?_))))))
  obtain ⟨gA11_2, rfl, hglA11_2, hghA11_2⟩ := Ow.at_ (i := 0) hF11_2 (by omega)
  refine RL_q rfl (Yd_idxL Try.underlying56 (sz := 4) (by kernel_rfl) rfl rfl (by omega) (by omega)) (RL_q rfl (Yd_fld (off := 2) Try.underlying25 (by kernel_rfl) rfl) (RL_q rfl (Yd_load Try.underlying4 rfl rfl (Vw.lqFL hF11_2.vw (i := 0) (a := (⟨true, false, false, 0⟩ : F)) rfl rfl rfl)) (RL_q rfl (Yd_not rfl) (RL_q rfl (Yd_move rfl) (RL_gq rfl rfl rfl (Yd_move rfl) (RL_gq rfl rfl rfl (Yd_idxL Try.underlying56 (sz := 4) (by kernel_rfl) rfl rfl (by omega) (by omega)) (RL_gq rfl rfl rfl (Yd_fld (off := 2) Try.underlying25 (by kernel_rfl) rfl) (RL_gq rfl rfl rfl (Yd_load Try.underlying4 rfl rfl (Vw.lqFL hF11_2.vw (i := 1) (a := (⟨true, false, false, 0⟩ : F)) rfl rfl rfl)) (RL_gq rfl rfl rfl (Yd_not rfl) (RL_q rfl (Yd_pickT rfl rfl) (RL_q rfl (Yd_move rfl) (RL_gq rfl rfl rfl (Yd_move rfl) (RL_gl rfl rfl rfl (Ld_call Try.func37 rfl (by kernel_rfl) rfl (RoundsZ hO8.vw ⟨by first | omega | (dsimp only; omega), by first | omega | (dsimp only; omega)⟩ (by omega) (by omega) (by omega)) ?_))))))))))))))
  rintro e W3 ⟨y45, rfl, hy45, he3⟩
  refine ⟨_, rfl, ?_⟩
  replace hE := Ext.trans hE he3
  replace hO8 := hO8.ext he3
  replace hF11_2 := hF11_2.ext he3
  have hs3 := he3.size
  refine RL_gq rfl rfl rfl (Yd_eql rfl rfl) (RL_q rfl (Yd_pickT rfl rfl) (RL_q rfl (Yd_assign rfl) (RL_nil (X_then (C_ret (X_ret1 rfl rfl ?_))))))
  refine ⟨_, rfl, ?_, hE⟩
  rw [hy45]; decide
end Go.Proofs.AL
