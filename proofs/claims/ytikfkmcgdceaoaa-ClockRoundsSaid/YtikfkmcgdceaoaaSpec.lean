import Derived.Test.YtikfkmcgdceaoaaClock
namespace Go.Proofs.AL
open Go.RowKit
def fat (l : List F) (j : Nat) : F := l.getD j zF
theorem fat_get {l : List F} {j : Nat} (h : j < l.length) : l[j]? = some (fat l j) := by
  unfold fat; rw [List.getD_eq_getElem?_getD, List.getElem?_eq_getElem h]; rfl
theorem fat_of {l : List F} {j : Nat} {f : F} (h : l[j]? = some f) : fat l j = f := by
  unfold fat; rw [List.getD_eq_getElem?_getD, h]; rfl
theorem fat_set {l : List F} {i j : Nat} {f : F} (hi : i < l.length) : fat (l.set i f) j = if i = j then f else fat l j := by
  unfold fat
  rw [List.getD_eq_getElem?_getD, List.getElem?_set, List.getD_eq_getElem?_getD]
  by_cases e : i = j
  · subst e; simp [hi]
  · simp [e]
theorem found_clr (f : F) : found (clr f) = fGoes f := by
  unfold clr found fGoes
  cases hu : f.used <;> by_cases hp : f.pins = 0 <;> simp [hu, hp]
theorem clr_clr (f : F) : clr (clr f) = clr f := by
  unfold clr
  cases hu : f.used <;> by_cases hp : f.pins = 0 <;> simp [hu, hp]
theorem clr_not {f : F} (h : fGoes f = false) : clr f = f := by
  simp only [fGoes, Bool.or_eq_false_iff, Bool.not_eq_false', decide_eq_false_iff_not] at h
  unfold clr; rw [if_neg (by simp [h.2])]
theorem found_goes {f : F} (h : found f = true) : fGoes f = true := by
  unfold found fGoes at *
  cases hu : f.used <;> simp_all
theorem mod_inj {h n a b : Nat} (ha : a < n) (hb : b < n) (e : (h + a) % n = (h + b) % n) : a = b := by
  have h1 := Nat.div_add_mod (h + a) n
  have h2 := Nat.div_add_mod (h + b) n
  rw [e] at h1
  rcases Nat.lt_trichotomy ((h + a) / n) ((h + b) / n) with h3 | h3 | h3
  · have : n * ((h + a) / n) + n ≤ n * ((h + b) / n) := by rw [← Nat.mul_succ]; exact Nat.mul_le_mul_left n h3
    omega
  · rw [h3] at h1; omega
  · have : n * ((h + b) / n) + n ≤ n * ((h + a) / n) := by rw [← Nat.mul_succ]; exact Nat.mul_le_mul_left n h3
    omega
theorem mod_sur {h n j : Nat} (hj : j < n) (hh : h < n) : ∃ m, m < n ∧ (h + m) % n = j := by
  by_cases hle : h ≤ j
  · exact ⟨j - h, by omega, by rw [show h + (j - h) = j by omega]; exact Nat.mod_eq_of_lt hj⟩
  · exact ⟨j + n - h, by omega, by rw [show h + (j + n - h) = j + n by omega, Nat.add_mod_right]; exact Nat.mod_eq_of_lt hj⟩
theorem mod_wrap {h n m : Nat} : (h + (n + m)) % n = (h + m) % n := by
  rw [show h + (n + m) = (h + m) + n by omega, Nat.add_mod_right]
structure TInv (h n : Nat) (l0 : List F) (k : Nat) (l : List F) : Prop where
  len : l.length = n
  two : ∀ j, fat l j = fat l0 j ∨ fat l j = clr (fat l0 j)
  new : ∀ m, k ≤ m → m < n → fat l ((h + m) % n) = fat l0 ((h + m) % n)
  old : ∀ m, m < k → m < n → fat l ((h + m) % n) = clr (fat l0 ((h + m) % n)) ∧ found (fat l0 ((h + m) % n)) = false
  sec : ∀ m, n + m < k → m < n → fGoes (fat l0 ((h + m) % n)) = false
def TEnd (h n : Nat) (l0 : List F) (r : Option Nat × List F) : Prop :=
  r.2.length = n ∧ (∀ j, fat r.2 j = fat l0 j ∨ fat r.2 j = clr (fat l0 j)) ∧
  ((∃ k, r.1 = some k ∧ k < 2 * n ∧ ((k < n ∧ found (fat l0 ((h + k) % n)) = true ∧ ∀ m, m < k → found (fat l0 ((h + m) % n)) = false) ∨ (n ≤ k ∧ fGoes (fat l0 ((h + k) % n)) = true ∧ ∀ j, j < n → found (fat l0 j) = false))) ∨ (r.1 = none ∧ r.2 = l0 ∧ ∀ j, j < n → fGoes (fat l0 j) = false))
theorem turn_go {h n : Nat} {l0 : List F} (h0 : 0 < n) (hh : h < n) (hl0 : l0.length = n) : ∀ (d k : Nat) (l : List F), d + k = 2 * n → TInv h n l0 k l → TEnd h n l0 (turnK h n d k l)
  | 0, k, l, hd, hI => by
    obtain rfl : k = 2 * n := by omega
    have hall : ∀ j, j < n → fGoes (fat l0 j) = false := fun j hj => by
      obtain ⟨m, hm, rfl⟩ := mod_sur hj hh
      exact hI.sec m (by omega) hm
    refine ⟨hI.len, hI.two, .inr ⟨rfl, ?_, hall⟩⟩
    show l = l0
    apply List.ext_getElem?
    intro j
    by_cases hj : j < n
    · rw [fat_get (by rw [hI.len]; exact hj), fat_get (by omega)]
      rcases hI.two j with e | e
      · rw [e]
      · rw [e, clr_not (hall j hj)]
    · rw [List.getElem?_eq_none (by rw [hI.len]; omega), List.getElem?_eq_none (by omega)]
  | d + 1, k, l, hd, hI => by
    have hi : (h + k) % n < n := Nat.mod_lt _ h0
    have hf := fat_get (l := l) (j := (h + k) % n) (by rw [hI.len]; exact hi)
    have hset : ∀ j, fat (l.set ((h + k) % n) (clr (fat l ((h + k) % n)))) j = if (h + k) % n = j then clr (fat l ((h + k) % n)) else fat l j := fun j => fat_set (by rw [hI.len]; exact hi)
    have hcl : clr (fat l ((h + k) % n)) = clr (fat l0 ((h + k) % n)) := by
      rcases hI.two ((h + k) % n) with e | e
      · rw [e]
      · rw [e, clr_clr]
    have htwo : ∀ j, fat (l.set ((h + k) % n) (clr (fat l ((h + k) % n)))) j = fat l0 j ∨ fat (l.set ((h + k) % n) (clr (fat l ((h + k) % n)))) j = clr (fat l0 j) := fun j => by
      rw [hset]
      by_cases e : (h + k) % n = j
      · rw [if_pos e, hcl, e]; exact .inr rfl
      · rw [if_neg e]; exact hI.two j
    have hfat : (k < n ∧ fat l ((h + k) % n) = fat l0 ((h + k) % n)) ∨ (n ≤ k ∧ fat l ((h + k) % n) = clr (fat l0 ((h + k) % n)) ∧ ∀ m, m < n → found (fat l0 ((h + m) % n)) = false) := by
      by_cases hk : k < n
      · exact .inl ⟨hk, hI.new k (Nat.le_refl _) hk⟩
      · refine .inr ⟨by omega, ?_, fun m hm => (hI.old m (by omega) hm).2⟩
        have e : (h + k) % n = (h + (k - n)) % n := by rw [← mod_wrap (m := k - n)]; congr 2; omega
        rw [e]
        exact (hI.old (k - n) (by omega) (by omega)).1
    cases hx : found (fat l ((h + k) % n)) with
    | true =>
      rw [turnK_found (by omega) hf hx]
      refine ⟨by rw [List.length_set]; exact hI.len, htwo, .inl ⟨k, rfl, by omega, ?_⟩⟩
      rcases hfat with ⟨h1, h2⟩ | ⟨h1, h2, h3⟩
      · exact .inl ⟨h1, by rw [← h2]; exact hx, fun m hm => (hI.old m hm (by omega)).2⟩
      · refine .inr ⟨h1, by rw [← found_clr, ← h2]; exact hx, fun j hj => ?_⟩
        obtain ⟨m, hm, rfl⟩ := mod_sur hj hh
        exact h3 m hm
    | false =>
      rw [turnK_next (by omega) hf hx, Nat.add_sub_cancel]
      refine turn_go h0 hh hl0 d (k + 1) _ (by omega) ⟨by rw [List.length_set]; exact hI.len, htwo, fun m h1 h2 => ?_, fun m h1 h2 => ?_, fun m h1 h2 => ?_⟩
      · rw [hset, if_neg (fun e => by have := mod_inj (by omega) h2 e; omega)]
        exact hI.new m (by omega) h2
      · rw [hset]
        by_cases e : (h + k) % n = (h + m) % n
        · rw [if_pos e, hcl, e]
          refine ⟨rfl, ?_⟩
          rcases hfat with ⟨h3, h4⟩ | ⟨_, _, h5⟩
          · rw [h4, e] at hx; exact hx
          · exact h5 m h2
        · rw [if_neg e]
          by_cases hm : m < k
          · exact hI.old m hm h2
          · obtain rfl : m = k := by omega
            exact absurd rfl e
      · by_cases hm : n + m < k
        · exact hI.sec m hm h2
        · obtain rfl : k = n + m := by omega
          rcases hfat with ⟨h3, _⟩ | ⟨_, h4, _⟩
          · omega
          · rw [h4, found_clr, mod_wrap] at hx
            exact hx
theorem turn_spec {h : Nat} {l : List F} (h0 : 0 < l.length) (hh : h < l.length) : TEnd h l.length l (turn0 h l.length l) :=
  turn_go h0 hh rfl _ _ _ (by omega) ⟨rfl, fun _ => .inl rfl, fun _ _ _ => rfl, fun _ h _ => absurd h (by omega), fun _ h _ => absurd h (by omega)⟩
theorem count_pos {l : List F} : 0 < count l ↔ ∃ j, j < l.length ∧ fGoes (fat l j) = true := by
  unfold count
  rw [List.length_pos_iff_exists_mem]
  constructor
  · rintro ⟨f, hf⟩
    obtain ⟨h1, h2⟩ := List.mem_filter.1 hf
    obtain ⟨j, hj, rfl⟩ := List.mem_iff_getElem.1 h1
    exact ⟨j, hj, by rw [fat_of (List.getElem?_eq_getElem hj)]; exact h2⟩
  · rintro ⟨j, hj, h⟩
    refine ⟨fat l j, List.mem_filter.2 ⟨?_, h⟩⟩
    have := fat_get hj
    exact List.mem_of_getElem? this
theorem spec_no {h n : Nat} {l : List F} {r : Option Nat × List F} (hS : TEnd h n l r) (hp : ¬ 0 < tL r) : tV h n r = 0 ∧ tN h n r = h ∧ r.2 = l ∧ ∀ j, j < n → fGoes (fat l j) = false := by
  obtain ⟨_, _, h3⟩ := hS
  rcases h3 with ⟨k, e, _⟩ | ⟨e, h4, h5⟩
  · exact absurd (by unfold tL; rw [e]; dsimp only; omega) hp
  · exact ⟨by unfold tV; rw [e], by unfold tN; rw [e], h4, h5⟩
theorem spec_yes {h n : Nat} {l : List F} {r : Option Nat × List F} (hS : TEnd h n l r) (h0 : 0 < n) (hp : 0 < tL r) : ∃ v : Nat, v < n ∧ tV h n r = v ∧ tN h n r = ((v + 1) % n : Nat) ∧ fGoes (fat l v) = true ∧ (found (fat l v) = true ∨ ∀ j, j < n → found (fat l j) = false) ∧ tL r ≤ 2 * n := by
  obtain ⟨_, _, h3⟩ := hS
  rcases h3 with ⟨k, e, h4, h5⟩ | ⟨e, _⟩
  · refine ⟨(h + k) % n, Nat.mod_lt _ h0, by unfold tV; rw [e], by unfold tN; rw [e], ?_, ?_, by unfold tL; rw [e]; dsimp only; omega⟩
    · rcases h5 with ⟨_, h6, _⟩ | ⟨_, h6, _⟩
      · exact found_goes h6
      · exact h6
    · rcases h5 with ⟨_, h6, _⟩ | ⟨_, _, h6⟩
      · exact .inl h6
      · exact .inr h6
  · exact absurd hp (by unfold tL; rw [e]; dsimp only; omega)
theorem spec_is {h : Nat} {l : List F} {r : Option Nat × List F} (hS : TEnd h l.length l r) (h0 : 0 < l.length) : (0 < tL r) ↔ (0 < (count l : Int)) := by
  have hc := count_pos (l := l)
  constructor
  · intro hp
    obtain ⟨v, h1, _, _, h2, _⟩ := spec_yes hS h0 hp
    have := hc.2 ⟨v, h1, h2⟩
    omega
  · intro hp
    by_cases h1 : 0 < tL r
    · exact h1
    · obtain ⟨_, _, _, h2⟩ := spec_no hS h1
      obtain ⟨j, h3, h4⟩ := hc.1 (by omega)
      rw [h2 j h3] at h4
      cases h4
theorem tL_le {h n : Nat} {l : List F} {r : Option Nat × List F} (hS : TEnd h n l r) : tL r ≤ 2 * n := by
  obtain ⟨_, _, h3⟩ := hS
  rcases h3 with ⟨k, e, h4, _⟩ | ⟨e, _⟩ <;> (unfold tL; rw [e]; dsimp only; omega)
theorem rows_ty {α : Type} {T : Ty α} {rows : List (List Value)} (h : ∀ r ∈ rows, ∃ a, r = T.enc a ∧ T.ok a) : ∃ l, rows.flatten = T.cells l ∧ l.length = rows.length ∧ ∀ a ∈ l, T.ok a := by
  induction rows with
  | nil => exact ⟨[], rfl, rfl, fun _ h => by cases h⟩
  | cons r rows ih =>
    obtain ⟨l, h1, h2, h3⟩ := ih (fun r hr => h r (by simp [hr]))
    obtain ⟨a, rfl, ha⟩ := h r (by simp)
    exact ⟨a :: l, by rw [List.flatten_cons, h1]; rfl, by simp [h2], okc ha h3⟩
theorem vw_rows {α : Type} {T : Ty α} {w : World} {A : Option Addr} {n c : Nat} {rows : List (List Value)} (hr : Rd w w.heap.size T.sz A n rows.flatten) (hc : n ≤ c) (hm : c ≤ maxLen) (hz : A = none → c = 0) (h : ∀ r ∈ rows, ∃ a, r = T.enc a ∧ T.ok a) : ∃ l, Vw T w 0 w.heap.size A n c l := by
  obtain ⟨l, h1, _, h3⟩ := rows_ty h
  rw [h1] at hr
  exact ⟨l, ⟨hr, hc, hz, fun _ _ => Nat.zero_le _⟩, hm, h3⟩
theorem touch1 {x y : F} (h : x = y ∨ x = clr y) (hp : 0 < y.pins) : x = y := by
  rcases h with h | h
  · exact h
  · rw [h]; unfold clr; rw [if_neg (by omega)]
theorem touch2 {x y : F} (h : x = y ∨ x = clr y) (hr : x.ref = true) : y.ref = true := by
  rcases h with h | h
  · rw [← h]; exact hr
  · rw [h] at hr
    unfold clr at hr
    split at hr
    · cases hr
    · exact hr
theorem touch3 {x y : F} (h : x = y ∨ x = clr y) : (⟨x.used, x.dirty, y.ref, x.pins⟩ : F) = y := by
  rcases h with h | h
  · rw [h]
  · rw [h]; unfold clr; split <;> rfl
theorem found_or (x : F) : found x = (!x.used || (decide (x.pins = 0) && !x.ref)) := rfl
theorem spare_next {l : List F} {o : Bool} {k : Nat} {x : F} (ho : o = true → ∃ j, j < l.length ∧ found (fat l j) = true) (hx : l[k]? = some x) : ((o || !x.used) || (decide (x.pins = 0) && !x.ref)) = true → ∃ j, j < l.length ∧ found (fat l j) = true := by
  intro h
  cases o with
  | true => exact ho rfl
  | false =>
    refine ⟨k, (List.getElem?_eq_some_iff.1 hx).1, ?_⟩
    rw [fat_of hx, found_or]
    simpa using h
theorem spare_end {l : List F} {o : Bool} {v n : Nat} {x : F} (hn : n = l.length) (ho : o = true → ∃ j, j < l.length ∧ found (fat l j) = true) (hv : found (fat l v) = true ∨ ∀ j, j < n → found (fat l j) = false) (hx : l[v]? = some x) : ((!o || !x.used) || !x.ref) = true := by
  subst hn
  cases o with
  | false => simp
  | true =>
    obtain ⟨j, h1, h2⟩ := ho rfl
    rcases hv with h3 | h3
    · rw [fat_of hx, found_or] at h3
      cases hu : x.used <;> simp_all
    · rw [h3 j h1] at h2; cases h2
theorem second0 : ∀ k, k ≤ 12 → ∀ h, h < k → turn0 h k (List.replicate k ⟨true, false, true, 0⟩) = (some k, List.replicate k ⟨true, false, false, 0⟩) := by decide +kernel
theorem second {k h : Nat} (hk : k ≤ 12) (hh : h < k) : tV h (List.replicate k (⟨true, false, true, 0⟩ : F)).length (turn0 h (List.replicate k (⟨true, false, true, 0⟩ : F)).length (List.replicate k ⟨true, false, true, 0⟩)) = h ∧ tN h (List.replicate k (⟨true, false, true, 0⟩ : F)).length (turn0 h (List.replicate k (⟨true, false, true, 0⟩ : F)).length (List.replicate k ⟨true, false, true, 0⟩)) = ((h + 1) % k : Nat) ∧
    tL (turn0 h (List.replicate k (⟨true, false, true, 0⟩ : F)).length (List.replicate k ⟨true, false, true, 0⟩)) = (k : Int) + 1 ∧ (turn0 h (List.replicate k (⟨true, false, true, 0⟩ : F)).length (List.replicate k ⟨true, false, true, 0⟩)).2 = List.replicate k ⟨true, false, false, 0⟩ := by
  rw [List.length_replicate, second0 k hk h hh]
  have e : (h + k) % k = h := by rw [Nat.add_mod_right, Nat.mod_eq_of_lt hh]
  refine ⟨?_, ?_, ?_, rfl⟩
  · simp only [tV, e]
  · simp only [tN, e]
  · simp only [tL]; omega
theorem rep_get {k j : Nat} {f x : F} (h : (List.replicate k f)[j]? = some x) : x = f := by
  rw [List.getElem?_replicate] at h
  split at h
  · injection h with h; exact h.symm
  · cases h
def nr (f : F) : F := ⟨f.used, f.dirty, false, f.pins⟩
def nrTo (i : Nat) (l : List F) : List F := (l.take i).map nr ++ l.drop i
theorem nrTo_zero (l : List F) : nrTo 0 l = l := rfl
theorem nrTo_len (i : Nat) (l : List F) : (nrTo i l).length = l.length := by simp [nrTo]; omega
theorem nrTo_all {i : Nat} {l : List F} (h : l.length ≤ i) : nrTo i l = l.map nr := by unfold nrTo; rw [List.take_of_length_le h, List.drop_of_length_le h, List.append_nil]
theorem nrTo_next {i : Nat} {l : List F} {x : F} (hx : (nrTo i l)[i]? = some x) : (nrTo i l).set i ⟨x.used, x.dirty, false, x.pins⟩ = nrTo (i + 1) l := by
  have hi : i < l.length := by have := (List.getElem?_eq_some_iff.1 hx).1; rwa [nrTo_len] at this
  have h1 : ((l.take i).map nr).length = i := by rw [List.length_map, List.length_take]; omega
  have h2 : l[i] = x := by
    unfold nrTo at hx
    rw [List.getElem?_append_right (by omega), h1, Nat.sub_self, List.getElem?_drop, Nat.add_zero, List.getElem?_eq_getElem hi] at hx
    exact Option.some.inj hx
  unfold nrTo
  rw [List.set_append_right _ _ (by omega), h1, Nat.sub_self, List.drop_eq_getElem_cons hi, List.set_cons_zero, List.take_succ_eq_append_getElem hi, List.map_append, h2, List.append_assoc]
  rfl
def cntT (s : List Bool) : Nat := (s.filter id).length
theorem cntT_set : ∀ {s : List Bool} {v : Nat}, s[v]? = some false → cntT (s.set v true) = cntT s + 1
  | [], v, h => by simp at h
  | b :: s, 0, h => by
    simp at h
    subst h
    simp [cntT]
  | b :: s, v + 1, h => by
    have ih := cntT_set (s := s) (v := v) (by simpa using h)
    simp only [cntT, List.set_cons_succ] at *
    cases b <;> simp [ih]
theorem cnt_le : ∀ (M : List F) (s : List Bool), M.length = s.length → (∀ j, j < M.length → fGoes (fat M j) = true → s.getD j false = true) → count M ≤ cntT s
  | [], [], _, _ => Nat.le_refl _
  | [], _ :: _, h, _ => by simp at h
  | _ :: _, [], h, _ => by simp at h
  | f :: M, b :: s, h, hj => by
    have ih := cnt_le M s (by simpa using h) (fun j h1 h2 => hj (j + 1) (by simp; omega) h2)
    have h0 := hj 0 (by simp)
    unfold count cntT at *
    rw [List.filter_cons, List.filter_cons]
    cases hf : fGoes f with
    | true =>
      have : b = true := h0 hf
      subst this
      simp; omega
    | false => cases b <;> simp <;> omega
structure RInv (M : List F) (H n p : Nat) (s : List Bool) (k : Nat) : Prop where
  len : s.length = n
  a : ∀ j, s.getD j false = true → ∃ m, m < p ∧ m < n ∧ j = (H + m) % n
  b : ∀ m, m < p → m < n → fGoes (fat M ((H + m) % n)) = true → s.getD ((H + m) % n) false = true
  d : k + cntT s = count M
  le : p ≤ n
theorem cntT_rep (n : Nat) : cntT (List.replicate n false) = 0 := by
  unfold cntT
  rw [List.length_eq_zero_iff, List.filter_eq_nil_iff]
  intro b hb
  rw [List.eq_of_mem_replicate hb]; simp
theorem r_zero {M : List F} {H n : Nat} : RInv M H n 0 (List.replicate n false) (count M) :=
  ⟨by simp, (fun j h => by
    rw [List.getD_eq_getElem?_getD, List.getElem?_replicate] at h
    split at h <;> cases h), (fun m h => absurd h (by omega)), (by rw [cntT_rep]; rfl), Nat.zero_le _⟩
theorem getD_false {s : List Bool} {v : Nat} (h : v < s.length) (e : ¬ s.getD v false = true) : s[v]? = some false := by
  rw [List.getD_eq_getElem?_getD, List.getElem?_eq_getElem h] at e
  rw [List.getElem?_eq_getElem h]
  simpa using e
theorem r_step {M : List F} {H n p k : Nat} {s : List Bool} {r : Option Nat × List F} (hI : RInv M H n p s k) (hk : 0 < k) (hM : ∀ j, found (fat M j) = fGoes (fat M j)) (hn : M.length = n) (hH : H < n) (hS : TEnd ((H + p) % n) n M r) :
    ∃ v pp, v < n ∧ 0 < tL r ∧ tV ((H + p) % n) n r = (v : Int) ∧ tN ((H + p) % n) n r = (((H + pp) % n : Nat) : Int) ∧ s[v]? = some false ∧ RInv M H n pp (s.set v true) (k - 1) := by
  have hn0 : 0 < n := by omega
  have hd := hI.d
  obtain ⟨q, hq, hqf⟩ : ∃ j, j < n ∧ (fGoes (fat M j) = true ∧ ¬ s.getD j false = true) := by
    apply Classical.byContradiction
    intro hno
    have := cnt_le M s (by rw [hn, hI.len]) (fun j h1 h2 => Classical.byContradiction fun h3 => hno ⟨j, by omega, h2, h3⟩)
    omega
  obtain ⟨q', hq', rfl⟩ := mod_sur hq hH
  have hqp : p ≤ q' := by
    rcases Nat.lt_or_ge q' p with h | h
    · exact absurd (hI.b q' h hq' hqf.1) hqf.2
    · exact h
  have hadd : ∀ m, ((H + p) % n + m) % n = (H + (p + m)) % n := fun m => by rw [Nat.mod_add_mod, Nat.add_assoc]
  obtain ⟨_, _, h3⟩ := hS
  rcases h3 with ⟨kk, e, _, h5⟩ | ⟨_, _, h5⟩
  · have hkk : kk ≤ q' - p ∧ fGoes (fat M ((H + (p + kk)) % n)) = true ∧ ∀ m, m < kk → fGoes (fat M ((H + (p + m)) % n)) = false := by
      rcases h5 with ⟨h6, h7, h8⟩ | ⟨_, _, h8⟩
      · refine ⟨?_, by rw [← hM, ← hadd]; exact h7, fun m hm => by rw [← hM, ← hadd]; exact h8 m hm⟩
        rcases Nat.lt_or_ge (q' - p) kk with h9 | h9
        · have := h8 (q' - p) h9
          rw [hadd, hM, show p + (q' - p) = q' by omega, hqf.1] at this
          cases this
        · exact h9
      · have := h8 _ (Nat.mod_lt (H + q') hn0)
        rw [hM, hqf.1] at this
        cases this
    obtain ⟨hkk1, hkk2, hkk3⟩ := hkk
    have hpk : p + kk < n := by omega
    have hvn : (H + (p + kk)) % n < n := Nat.mod_lt _ hn0
    have hs0 : s[(H + (p + kk)) % n]? = some false := by
      refine getD_false (by rw [hI.len]; exact hvn) fun h => ?_
      obtain ⟨m, h1, h2, h4⟩ := hI.a _ h
      have := mod_inj hpk h2 h4
      omega
    have hset : ∀ j, (s.set ((H + (p + kk)) % n) true).getD j false = if (H + (p + kk)) % n = j then true else s.getD j false := fun j => by
      rw [List.getD_eq_getElem?_getD, List.getElem?_set, List.getD_eq_getElem?_getD]
      by_cases e : (H + (p + kk)) % n = j
      · subst e; simp [hI.len, hvn]
      · simp [e]
    refine ⟨(H + (p + kk)) % n, p + kk + 1, hvn, by unfold tL; rw [e]; dsimp only; omega, by unfold tV; rw [e]; dsimp only; rw [hadd], ?_, hs0, ⟨by rw [List.length_set]; exact hI.len, fun j hj => ?_, fun m h1 h2 h4 => ?_, ?_, by omega⟩⟩
    · unfold tN; rw [e]; dsimp only
      rw [hadd, Nat.mod_add_mod]
      congr 2
    · rw [hset] at hj
      by_cases e2 : (H + (p + kk)) % n = j
      · exact ⟨p + kk, by omega, hpk, e2.symm⟩
      · rw [if_neg e2] at hj
        obtain ⟨m, h1, h2, h4⟩ := hI.a j hj
        exact ⟨m, by omega, h2, h4⟩
    · rw [hset]
      by_cases e2 : (H + (p + kk)) % n = (H + m) % n
      · rw [if_pos e2]
      · rw [if_neg e2]
        rcases Nat.lt_or_ge m p with h6 | h6
        · exact hI.b m h6 h2 h4
        · rcases Nat.lt_or_ge m (p + kk) with h7 | h7
          · have := hkk3 (m - p) (by omega)
            rw [show p + (m - p) = m by omega, h4] at this
            cases this
          · obtain rfl : m = p + kk := by omega
            exact absurd rfl e2
    · rw [cntT_set hs0]; omega
  · have := h5 _ (Nat.mod_lt (H + q') hn0)
    rw [hqf.1] at this
    cases this
theorem nr_found (l : List F) (j : Nat) : found (fat (l.map nr) j) = fGoes (fat (l.map nr) j) := by
  by_cases h : j < l.length
  · have : fat (l.map nr) j = nr l[j] := fat_of (by simp [h])
    rw [this]
    simp [found, fGoes, nr]
  · have : fat (l.map nr) j = zF := by unfold fat; rw [List.getD_eq_getElem?_getD, List.getElem?_eq_none (by simpa using h)]; rfl
    rw [this]; decide
end Go.Proofs.AL
