import Derived.Test.YtefidipfedjpbaaSeq
set_option linter.unusedVariables false
set_option linter.unusedSimpArgs false
namespace Go.Proofs.AL
open Go.RowKit

structure Pt where
  quota : Int
  base : Int
  pages : Int
theorem Pt_ext (a b : Pt) : a = b ↔ (a.quota = b.quota ∧ a.base = b.base ∧ a.pages = b.pages) := by
  cases a; cases b; simp
instance : DecidableEq Pt := fun a b => decidable_of_iff _ (Pt_ext a b).symm
theorem Pt_eq (a b : Pt) : ((a.quota == b.quota) && ((a.base == b.base) && ((a.pages == b.pages) && true))) = decide (a = b) := by
  rw [Bool.eq_iff_iff]
  simp [Pt_ext]
def tP : Ty Pt := ⟨3, fun p => [.int .i64 p.quota, .int .i64 p.base, .int .i64 p.pages], fun p => (-9223372036854775808 ≤ p.quota ∧ p.quota ≤ 9223372036854775807) ∧ (-9223372036854775808 ≤ p.base ∧ p.base ≤ 9223372036854775807) ∧ (-9223372036854775808 ≤ p.pages ∧ p.pages ≤ 9223372036854775807), fun _ => rfl, fun _ v hv => by
  simp at hv
  rcases hv with rfl | rfl | rfl <;> rfl, by decide⟩
/-- a configuration as an element of a list -/
structure CfH where
  fr : Int
  dp : Int
  sc : Int
  A : Option Addr
  n : Nat
  c : Nat
def tCf : Ty CfH := ⟨4, fun h => [.int .i64 h.fr, .int .i64 h.dp, .int .i64 h.sc, .slice h.A h.n h.c], fun _ => True, fun _ => rfl, fun _ v hv => by
  simp at hv
  rcases hv with rfl | rfl | rfl | rfl <;> rfl, by decide⟩
theorem take_next' {α : Type} {l : List α} {x : α} {k : Nat} (hx : l[k]? = some x) : l.take k ++ [x] = l.take (k + 1) := by
  obtain ⟨hk, e⟩ := List.getElem?_eq_some_iff.1 hx
  rw [List.take_succ_eq_append_getElem hk, e]
theorem take_bothP {a b : List Pt} {k : Nat} {x y : Pt} (h : a.take k = b.take k) (hx : a[k]? = some x) (hy : b[k]? = some y) (e : x = y) : a.take (k + 1) = b.take (k + 1) := by rw [← take_next' hx, ← take_next' hy, h, e]
theorem same_allP {a b : List Pt} {k : Nat} (h : a.take k = b.take k) (ha : a.length ≤ k) (hb : b.length ≤ k) : a = b := by rwa [List.take_of_length_le ha, List.take_of_length_le hb] at h
def pend (p : Pt) : Int := p.base + p.pages * 2
def partC (p : Pt) (s : Int) : Nat := if p.quota < 1 ∨ 64 < p.quota then 5 else if p.pages < 1 ∨ 64 < p.pages then 6 else if p.base < 0 ∨ s < p.base ∨ s < pend p then 7 else 0
def ovl (p q : Pt) : Bool := !(decide (pend p ≤ q.base) || decide (pend q ≤ p.base))
theorem partC_zero {p : Pt} {s : Int} (h : partC p s = 0) : 1 ≤ p.quota ∧ p.quota ≤ 64 ∧ 1 ≤ p.pages ∧ p.pages ≤ 64 ∧ 0 ≤ p.base ∧ p.base + p.pages * 2 ≤ s := by
  unfold partC pend at h
  split at h
  · cases h
  · split at h
    · cases h
    · split at h
      · cases h
      · omega
theorem partC_le (p : Pt) (s : Int) : partC p s = 0 ∨ partC p s = 5 ∨ partC p s = 6 ∨ partC p s = 7 := by
  unfold partC
  split
  · simp
  · split
    · simp
    · split <;> simp
def apart (l : List Pt) : Prop := ∀ (i j : Nat) (p q : Pt), j < i → l[i]? = some p → l[j]? = some q → ovl p q = false
theorem apart_nil : apart [] := fun i j p q _ h => by simp at h
theorem take_get {α : Type} {l : List α} {k i : Nat} {x : α} (h : (l.take k)[i]? = some x) : i < k ∧ l[i]? = some x := by
  rw [List.getElem?_take] at h
  split at h
  · exact ⟨by assumption, h⟩
  · cases h
theorem get_take {α : Type} {l : List α} {k i : Nat} {x : α} (hi : i < k) (h : l[i]? = some x) : (l.take k)[i]? = some x := by
  rw [List.getElem?_take, if_pos hi]; exact h
theorem apart_next {l : List Pt} {k : Nat} {p : Pt} (h : apart (l.take k)) (hp : l[k]? = some p) (ho : ∀ j q, j < k → l[j]? = some q → ovl p q = false) : apart (l.take (k + 1)) := by
  intro i j a b hji ha hb
  obtain ⟨h1, h2⟩ := take_get ha
  obtain ⟨h3, h4⟩ := take_get hb
  by_cases hi : i < k
  · exact h i j a b hji (get_take hi h2) (get_take (by omega) h4)
  · obtain rfl : i = k := by omega
    rw [hp] at h2
    injection h2 with h2
    subst h2
    exact ho j b hji h4
theorem any_ovl {l : List Pt} {k : Nat} {p : Pt} : (l.take k).any (ovl p) = true ↔ ∃ j q, j < k ∧ l[j]? = some q ∧ ovl p q = true := by
  rw [List.any_eq_true]
  constructor
  · rintro ⟨q, hq, h⟩
    obtain ⟨j, hj, rfl⟩ := List.mem_iff_getElem.1 hq
    have h1 := take_get (List.getElem?_eq_getElem hj)
    exact ⟨j, _, h1.1, h1.2, h⟩
  · rintro ⟨j, q, h1, h2, h3⟩
    exact ⟨q, List.mem_of_getElem? (get_take h1 h2), h3⟩
theorem ovl_self {p : Pt} (h : 1 ≤ p.pages) : ovl p p = true := by unfold ovl pend; simp; omega
theorem hov_next {l : List Pt} {p x : Pt} {j : Nat} (h : ∀ j' q, j' < j → l[j']? = some q → ovl p q = false) (hx : l[j]? = some x) (ho : ovl p x = false) : ∀ j' q, j' < j + 1 → l[j']? = some q → ovl p q = false := by
  intro j' q hj hq
  by_cases e : j' < j
  · exact h j' q e hq
  · obtain rfl : j' = j := by omega
    rw [hx] at hq
    injection hq with hq
    rw [← hq]; exact ho
theorem ovl_no {p q : Pt} (h : pend p ≤ q.base ∨ pend q ≤ p.base) : ovl p q = false := by unfold ovl; rcases h with h | h <;> simp [h]
theorem ovl_yes {p q : Pt} (h1 : 1 ≤ p.pages) (h : p = q ∨ (¬ pend p ≤ q.base ∧ ¬ pend q ≤ p.base)) : ovl p q = true := by
  rcases h with rfl | h
  · exact ovl_self h1
  · unfold ovl; simp [h.1, h.2]
theorem gd_next {l : List Pt} {k : Nat} {x : Pt} {sc : Int} (h : ∀ j q, j < k → l[j]? = some q → partC q sc = 0) (hx : l[k]? = some x) (hp : partC x sc = 0) : ∀ j q, j < k + 1 → l[j]? = some q → partC q sc = 0 := by
  intro j q hj hq
  by_cases e : j < k
  · exact h j q e hq
  · obtain rfl : j = k := by omega
    rw [hx] at hq
    injection hq with hq
    rw [← hq]; exact hp
theorem gd_mem {l : List Pt} {k : Nat} {sc : Int} (h1 : sc ≤ 1024) (h : ∀ j q, j < k → l[j]? = some q → partC q sc = 0) : ∀ p ∈ l.take k, 0 ≤ p.base ∧ p.base ≤ 4096 ∧ 1 ≤ p.pages ∧ p.pages ≤ 64 := by
  intro p hp
  obtain ⟨j, hj, rfl⟩ := List.mem_iff_getElem.1 hp
  have h2 := take_get (List.getElem?_eq_getElem hj)
  have := partC_zero (h j _ h2.1 h2.2)
  omega
theorem meets_any {l : List Pt} {k : Nat} {x : Pt} {y : Int} (hap : apart (l.take k)) (hx : l[k]? = some x) (hm : (0 ≤ y ∧ ∃ (i j : Nat) (p q : Pt), j < i ∧ (l.take (k + 1))[i]? = some p ∧ (l.take (k + 1))[j]? = some q ∧ ovl p q = true) ∨ (y = -1 ∧ apart (l.take (k + 1)))) (hy : 0 ≤ y) : (l.take k).any (ovl x) = true := by
  rcases hm with ⟨_, i, j, p, q, hji, hp, hq, ho⟩ | ⟨h, _⟩
  · obtain ⟨h1, h2⟩ := take_get hp
    obtain ⟨h3, h4⟩ := take_get hq
    by_cases hi : i < k
    · rw [hap i j p q hji (get_take hi h2) (get_take (by omega) h4)] at ho
      cases ho
    · obtain rfl : i = k := by omega
      rw [hx] at h2
      injection h2 with h2
      subst h2
      exact any_ovl.2 ⟨j, q, hji, h4, ho⟩
  · omega
theorem meets_none {l : List Pt} {k : Nat} {x : Pt} {y : Int} (hx : l[k]? = some x) (hm : (0 ≤ y ∧ ∃ (i j : Nat) (p q : Pt), j < i ∧ (l.take (k + 1))[i]? = some p ∧ (l.take (k + 1))[j]? = some q ∧ ovl p q = true) ∨ (y = -1 ∧ apart (l.take (k + 1)))) (hy : ¬ 0 ≤ y) : (l.take k).any (ovl x) = false ∧ apart (l.take (k + 1)) := by
  rcases hm with ⟨h, _⟩ | ⟨_, h⟩
  · exact absurd h hy
  · refine ⟨?_, h⟩
    cases hb : (l.take k).any (ovl x) with
    | false => rfl
    | true =>
      obtain ⟨j, q, h1, h2, h3⟩ := any_ovl.1 hb
      rw [h k j x q h1 (get_take (by omega) hx) (get_take (by omega) h2)] at h3
      cases h3
def chkR (fr sc : Int) : List Pt → List Pt → Int → Nat × Int
  | _, [], sum => if sum = fr then (0, 0) else (9, 0)
  | pre, p :: r, sum => if partC p sc ≠ 0 then (partC p sc, pre.length) else if pre.any (ovl p) = true then (8, pre.length) else chkR fr sc (pre ++ [p]) r (sum + p.quota)
def chk (fr dp sc : Int) (ps : List Pt) : Nat × Int :=
  if (ps.length : Int) < 1 ∨ 16 < (ps.length : Int) then (1, 0) else if fr < 1 ∨ 64 < fr then (2, 0) else if dp < 1 ∨ 8 < dp then (3, 0) else if sc < 1 ∨ 1024 < sc then (4, 0) else chkR fr sc [] ps 0
def codes : List (List Int) := [[], [112, 97, 114, 116, 115], [102, 114, 97, 109, 101, 115], [100, 101, 112, 116, 104], [115, 101, 99, 116, 111, 114, 115], [113, 117, 111, 116, 97], [112, 97, 103, 101, 115], [98, 97, 115, 101], [101, 120, 116, 101, 110, 116], [115, 117, 109]]
def cS (k : Nat) : List Int := codes.getD k []
theorem chkR_le {fr sc : Int} : ∀ (r pre : List Pt) (sum : Int), (chkR fr sc pre r sum).1 ≤ 9
  | [], pre, sum => by unfold chkR; split <;> simp
  | p :: r, pre, sum => by
    unfold chkR
    split
    · rcases partC_le p sc with h | h | h | h <;> simp [h]
    · split
      · simp
      · exact chkR_le r _ _
theorem chk_le (fr dp sc : Int) (ps : List Pt) : (chk fr dp sc ps).1 ≤ 9 := by
  unfold chk
  split
  · simp
  · split
    · simp
    · split
      · simp
      · split
        · simp
        · exact chkR_le _ _ _
theorem cS_nil {k : Nat} (h : k ≤ 9) : cS k = [] ↔ k = 0 := by
  have : ∀ k, k ≤ 9 → (cS k = [] ↔ k = 0) := by decide
  exact this k h
theorem chkR_part {fr sc sum : Int} {ps : List Pt} {k : Nat} {p : Pt} (hp : ps[k]? = some p) (h : partC p sc ≠ 0) : chkR fr sc (ps.take k) (ps.drop k) sum = (partC p sc, (k : Int)) := by
  obtain ⟨hk, e⟩ := List.getElem?_eq_some_iff.1 hp
  rw [List.drop_eq_getElem_cons hk, e, chkR, if_pos h, List.length_take, Nat.min_eq_left (by omega)]
theorem chkR_ext {fr sc sum : Int} {ps : List Pt} {k : Nat} {p : Pt} (hp : ps[k]? = some p) (h : partC p sc = 0) (ha : (ps.take k).any (ovl p) = true) : chkR fr sc (ps.take k) (ps.drop k) sum = (8, (k : Int)) := by
  obtain ⟨hk, e⟩ := List.getElem?_eq_some_iff.1 hp
  rw [List.drop_eq_getElem_cons hk, e, chkR, if_neg (by simp [h]), if_pos ha, List.length_take, Nat.min_eq_left (by omega)]
theorem chkR_next {fr sc sum : Int} {ps : List Pt} {k : Nat} {p : Pt} (hp : ps[k]? = some p) (h : partC p sc = 0) (ha : (ps.take k).any (ovl p) = false) : chkR fr sc (ps.take k) (ps.drop k) sum = chkR fr sc (ps.take (k + 1)) (ps.drop (k + 1)) (sum + p.quota) := by
  obtain ⟨hk, e⟩ := List.getElem?_eq_some_iff.1 hp
  rw [List.drop_eq_getElem_cons hk, e, chkR, if_neg (by simp [h]), if_neg (by simp [ha]), ← take_next' hp]
theorem chkR_end {fr sc sum : Int} {ps : List Pt} {k : Nat} (hk : ps.length ≤ k) : chkR fr sc (ps.take k) (ps.drop k) sum = if sum = fr then (0, 0) else (9, 0) := by
  rw [List.drop_of_length_le hk, chkR]
theorem chk1 {fr dp sc : Int} {ps : List Pt} (h : (ps.length : Int) < 1 ∨ 16 < (ps.length : Int)) : chk fr dp sc ps = (1, 0) := by unfold chk; rw [if_pos h]
theorem chk2 {fr dp sc : Int} {ps : List Pt} (h1 : ¬ ((ps.length : Int) < 1 ∨ 16 < (ps.length : Int))) (h : fr < 1 ∨ 64 < fr) : chk fr dp sc ps = (2, 0) := by unfold chk; rw [if_neg h1, if_pos h]
theorem chk3 {fr dp sc : Int} {ps : List Pt} (h1 : ¬ ((ps.length : Int) < 1 ∨ 16 < (ps.length : Int))) (h2 : ¬ (fr < 1 ∨ 64 < fr)) (h : dp < 1 ∨ 8 < dp) : chk fr dp sc ps = (3, 0) := by unfold chk; rw [if_neg h1, if_neg h2, if_pos h]
theorem chk4 {fr dp sc : Int} {ps : List Pt} (h1 : ¬ ((ps.length : Int) < 1 ∨ 16 < (ps.length : Int))) (h2 : ¬ (fr < 1 ∨ 64 < fr)) (h3 : ¬ (dp < 1 ∨ 8 < dp)) (h : sc < 1 ∨ 1024 < sc) : chk fr dp sc ps = (4, 0) := by unfold chk; rw [if_neg h1, if_neg h2, if_neg h3, if_pos h]
theorem chk5 {fr dp sc : Int} {ps : List Pt} (h1 : ¬ ((ps.length : Int) < 1 ∨ 16 < (ps.length : Int))) (h2 : ¬ (fr < 1 ∨ 64 < fr)) (h3 : ¬ (dp < 1 ∨ 8 < dp)) (h : ¬ (sc < 1 ∨ 1024 < sc)) : chk fr dp sc ps = chkR fr sc [] ps 0 := by unfold chk; rw [if_neg h1, if_neg h2, if_neg h3, if_neg h]
def has (p : Pt) (s : Int) : Bool := decide (p.base ≤ s) && decide (s < p.base + 2 * p.pages)
/-- two parts that may be overlap if they share a sector -/
theorem ovl_has {p q : Pt} {sc : Int} (hp : partC p sc = 0) (hq : partC q sc = 0) : ovl p q = true ↔ ∃ s : Int, 0 ≤ s ∧ s < sc ∧ has p s = true ∧ has q s = true := by
  have h1 := partC_zero hp
  have h2 := partC_zero hq
  unfold ovl pend has
  constructor
  · intro h
    simp at h
    by_cases hb : p.base ≤ q.base
    · exact ⟨q.base, by omega, by omega, by simp; omega, by simp; omega⟩
    · exact ⟨p.base, by omega, by omega, by simp; omega, by simp; omega⟩
  · rintro ⟨s, _, _, h3, h4⟩
    simp at h3 h4 ⊢
    omega

theorem hnj_next {l : List Pt} {o : Bool} {s : Nat} {x : Pt} {j : Nat} (h : ∀ j' q, j' < j → l[j']? = some q → o = true → has q s = false) (hx : l[j]? = some x) (hh : has x s = false) : ∀ j' q, j' < j + 1 → l[j']? = some q → o = true → has q s = false := by
  intro j' q hj hq ho
  by_cases e : j' < j
  · exact h j' q e hq ho
  · obtain rfl : j' = j := by omega
    rw [hx] at hq
    injection hq with hq
    rw [← hq]; exact hh
theorem hno_next {l : List Pt} {x : Pt} {k s : Nat} (h : ∀ s' : Nat, s' < s → has x s' = true → ∀ j q, j < k → l[j]? = some q → has q s' = false) (hs : has x s = true → ∀ j q, j < k → l[j]? = some q → has q s = false) : ∀ s' : Nat, s' < s + 1 → has x s' = true → ∀ j q, j < k → l[j]? = some q → has q s' = false := by
  intro s' h1 h2
  by_cases e : s' < s
  · exact h s' e h2
  · obtain rfl : s' = s := by omega
    exact hs h2
theorem no_any {l : List Pt} {x : Pt} {k : Nat} {sc : Int} (hp : partC x sc = 0) (hg : ∀ j q, j < k → l[j]? = some q → partC q sc = 0) (h : ∀ s' : Nat, (0 : Int) ≤ s' → (s' : Int) < sc → has x s' = true → ∀ j q, j < k → l[j]? = some q → has q s' = false) : (l.take k).any (ovl x) = false := by
  cases hb : (l.take k).any (ovl x) with
  | false => rfl
  | true =>
    obtain ⟨j, q, h1, h2, h3⟩ := any_ovl.1 hb
    obtain ⟨s, h4, h5, h6, h7⟩ := (ovl_has hp (hg j q h1 h2)).1 h3
    obtain ⟨s, rfl⟩ := Int.eq_ofNat_of_zero_le h4
    rw [h s h4 h5 h6 j q h1 h2] at h7
    cases h7

def sumP (l : List Pt) : Int := (l.map (·.pages)).sum
theorem sumP_nil : sumP [] = 0 := rfl
theorem sumP_next {l : List Pt} {k : Nat} {x : Pt} (hx : l[k]? = some x) : sumP (l.take (k + 1)) = sumP (l.take k) + x.pages := by
  rw [← take_next' hx]; simp [sumP]
def cntF (f : Nat → Bool) : Nat → Nat
  | 0 => 0
  | s + 1 => cntF f s + (if f s = true then 1 else 0)
theorem cntF_le (f : Nat → Bool) : ∀ s, cntF f s ≤ s
  | 0 => Nat.le_refl _
  | s + 1 => by have := cntF_le f s; simp only [cntF]; split <;> omega
theorem cntF_not (f : Nat → Bool) : ∀ s, cntF (fun i => !f i) s + cntF f s = s
  | 0 => rfl
  | s + 1 => by have := cntF_not f s; simp only [cntF]; by_cases hf : f s = true <;> simp [hf] <;> omega
theorem cntF_add {f g h : Nat → Bool} : ∀ s, (∀ i, i < s → h i = (f i || g i) ∧ (f i = true → g i = false)) → cntF h s = cntF f s + cntF g s
  | 0, _ => rfl
  | s + 1, hh => by
    have h1 := cntF_add s (fun i hi => hh i (by omega))
    obtain ⟨h2, h3⟩ := hh s (by omega)
    simp only [cntF, h1, h2]
    cases hf : f s
    · simp; omega
    · simp [h3 hf]; omega
theorem cntF_has (b m : Nat) : ∀ s, cntF (fun i => decide (b ≤ i) && decide (i < b + m)) s = min (b + m) s - min b s
  | 0 => by simp [cntF]
  | s + 1 => by
    simp only [cntF, cntF_has b m s, Bool.and_eq_true, decide_eq_true_eq]
    split <;> omega
theorem cntF_congr {f g : Nat → Bool} : ∀ s, (∀ i, i < s → f i = g i) → cntF f s = cntF g s
  | 0, _ => rfl
  | s + 1, h => by simp only [cntF, cntF_congr s (fun i hi => h i (by omega)), h s (by omega)]
def anyHas (l : List Pt) (s : Nat) : Bool := l.any (fun p => has p s)
theorem apart_tail {p : Pt} {l : List Pt} (h : apart (p :: l)) : apart l ∧ ∀ q ∈ l, ovl q p = false := by
  constructor
  · intro i j a b hji ha hb
    exact h (i + 1) (j + 1) a b (by omega) ha hb
  · intro q hq
    obtain ⟨i, hi, rfl⟩ := List.mem_iff_getElem.1 hq
    exact h (i + 1) 0 _ p (by omega) (by simp [hi]) rfl
theorem no_both {p q : Pt} {s : Int} (h : ovl q p = false) (h1 : has p s = true) : has q s = false := by
  cases hq : has q s with
  | false => rfl
  | true =>
    unfold ovl pend at h
    unfold has at h1 hq
    simp at h h1 hq
    omega
theorem cnt_any {sc : Nat} : ∀ {l : List Pt}, apart l → (∀ p ∈ l, 0 ≤ p.base ∧ 1 ≤ p.pages ∧ pend p ≤ sc) → (cntF (anyHas l) sc : Int) = 2 * sumP l
  | [], _, _ => by
    have : cntF (anyHas []) sc = 0 := by
      rw [cntF_congr (g := fun i => decide (0 ≤ i) && decide (i < 0 + 0)) sc (fun i _ => by simp [anyHas]), cntF_has]; omega
    rw [this]; rfl
  | p :: l, ha, hb => by
    obtain ⟨h1, h2⟩ := apart_tail ha
    have h3 := cnt_any h1 (fun q hq => hb q (List.mem_cons_of_mem _ hq))
    obtain ⟨b1, b2, b3⟩ := hb p List.mem_cons_self
    unfold pend at b3
    have h4 : cntF (fun i => has p i) sc = 2 * p.pages.toNat := by
      rw [cntF_congr (g := fun i => decide (p.base.toNat ≤ i) && decide (i < p.base.toNat + 2 * p.pages.toNat)) sc (fun i _ => by
        rw [Bool.eq_iff_iff]; simp [has]; omega), cntF_has]
      omega
    rw [cntF_add (f := fun i => has p i) (g := anyHas l) sc (fun i _ => ⟨by simp [anyHas], fun hf => by
      unfold anyHas
      cases hq : l.any (fun q => has q i) with
      | false => rfl
      | true =>
        obtain ⟨q, hq1, hq2⟩ := List.any_eq_true.1 hq
        rw [no_both (h2 q hq1) hf] at hq2
        cases hq2⟩), h4]
    unfold sumP at h3 ⊢
    simp only [List.map_cons, List.sum_cons]
    omega
def freeN (l : List Pt) (s : Nat) : Nat := cntF (fun i => !anyHas l i) s
theorem freeN_eq {l : List Pt} {sc : Int} (h0 : 0 ≤ sc) (ha : apart l) (hb : ∀ p ∈ l, 0 ≤ p.base ∧ 1 ≤ p.pages ∧ pend p ≤ sc) : (freeN l sc.toNat : Int) = sc - 2 * sumP l := by
  have h1 := cntF_not (anyHas l) sc.toNat
  have h2 := cnt_any (sc := sc.toNat) ha (fun p hp => by have := hb p hp; omega)
  unfold freeN
  omega
theorem any_next {l : List Pt} {s j : Nat} {x : Pt} {o : Bool} (hx : l[j]? = some x) (h : o = anyHas (l.take j) s) : (o || has x s) = anyHas (l.take (j + 1)) s := by
  rw [← take_next' hx, h]; simp [anyHas]
theorem any_keep {l : List Pt} {s j : Nat} {o : Bool} (ho : o = true) (h : o = anyHas (l.take j) s) : true = anyHas (l.take (j + 1)) s := by
  rw [ho] at h
  unfold anyHas at h ⊢
  obtain ⟨q, h1, h2⟩ := List.any_eq_true.1 h.symm
  exact (List.any_eq_true.2 ⟨q, (List.take_subset_take_left l (by omega)) h1, h2⟩).symm
theorem free_next {l : List Pt} {s n k : Nat} {o : Bool} (hk : l.length ≤ k) (ho : o = anyHas (l.take k) s) (hn : n = freeN l s) : (o = false → n + 1 = freeN l (s + 1)) ∧ (o = true → n = freeN l (s + 1)) := by
  rw [List.take_of_length_le hk] at ho
  constructor
  · intro h; rw [h] at ho; unfold freeN at hn ⊢; simp only [cntF, ← ho, hn]; rfl
  · intro h; rw [h] at ho; unfold freeN at hn ⊢; simp only [cntF, ← ho, hn]; rfl
structure GoodCf (fr dp sc : Int) (ps : List Pt) : Prop where
  hln : 1 ≤ ps.length ∧ ps.length ≤ 4
  hfr : fr = (ps.map (·.quota)).sum
  hdp : 1 ≤ dp ∧ dp ≤ 4
  hsc : 2 ≤ sc ∧ sc ≤ 50
  hpt : ∀ p ∈ ps, 1 ≤ p.quota ∧ p.quota ≤ 3 ∧ 1 ≤ p.pages ∧ p.pages ≤ 4 ∧ 0 ≤ p.base ∧ pend p ≤ sc
  hap : apart ps
theorem q_sum : ∀ {l : List Pt}, (∀ p ∈ l, 1 ≤ p.quota ∧ p.quota ≤ 3) → (l.length : Int) ≤ (l.map (·.quota)).sum ∧ (l.map (·.quota)).sum ≤ 3 * l.length
  | [], _ => by simp
  | p :: l, h => by
    have h1 := q_sum (l := l) (fun q hq => h q (List.mem_cons_of_mem _ hq))
    have h2 := h p List.mem_cons_self
    simp only [List.map_cons, List.sum_cons, List.length_cons]
    omega
theorem GoodCf.frb {fr dp sc : Int} {ps : List Pt} (h : GoodCf fr dp sc ps) : 1 ≤ fr ∧ fr ≤ 12 := by
  have h1 := q_sum (l := ps) (fun p hp => ⟨(h.hpt p hp).1, (h.hpt p hp).2.1⟩)
  have := h.hfr; have := h.hln
  omega
theorem partC_of {p : Pt} {s : Int} (h : 1 ≤ p.quota ∧ p.quota ≤ 64 ∧ 1 ≤ p.pages ∧ p.pages ≤ 64 ∧ 0 ≤ p.base ∧ pend p ≤ s) : partC p s = 0 := by
  unfold partC pend at *
  rw [if_neg (by omega), if_neg (by omega), if_neg (by omega)]
theorem chkR_all {fr sc : Int} {ps : List Pt} (hp : ∀ p ∈ ps, partC p sc = 0) (ha : apart ps) : ∀ (d k : Nat) (sum : Int), d = ps.length - k → k ≤ ps.length → chkR fr sc (ps.take k) (ps.drop k) sum = if sum + ((ps.drop k).map (·.quota)).sum = fr then (0, 0) else (9, 0)
  | 0, k, sum, h, hk => by
    rw [chkR_end (by omega), List.drop_of_length_le (by omega)]; simp
  | d + 1, k, sum, h, hk => by
    have hg : ps[k]? = some ps[k] := List.getElem?_eq_getElem (by omega)
    rw [chkR_next hg (hp _ (List.getElem_mem _)) ?_, chkR_all hp ha d (k + 1) _ (by omega) (by omega), List.drop_eq_getElem_cons (show k < ps.length by omega)]
    · simp only [List.map_cons, List.sum_cons, Int.add_assoc]
    · cases hb : (ps.take k).any (ovl ps[k]) with
      | false => rfl
      | true =>
        obtain ⟨j, q, h1, h2, h3⟩ := any_ovl.1 hb
        rw [ha k j _ q h1 hg h2] at h3
        cases h3
theorem good_chk {fr dp sc by_ : Int} {ps : List Pt} (h : GoodCf fr dp sc ps) (hb : -3 ≤ by_ ∧ by_ ≤ 3) : chk (fr + by_) dp sc ps = if fr + by_ < 1 then (2, 0) else if by_ = 0 then (0, 0) else (9, 0) := by
  have hl := h.hln; have hd := h.hdp; have hs := h.hsc; have hf := h.frb
  have := chkR_all (fr := fr + by_) (sc := sc) (ps := ps) (fun p hp => partC_of (by have := h.hpt p hp; omega)) h.hap ps.length 0 0 (by omega) (by omega)
  simp only [List.take_zero, List.drop_zero, Int.zero_add, ← h.hfr] at this
  by_cases h1 : fr + by_ < 1
  · rw [chk2 (by omega) (by omega), if_pos h1]
  · rw [chk5 (by omega) (by omega) (by omega) (by omega), this, if_neg h1]
    by_cases h2 : by_ = 0
    · rw [if_pos (by omega), if_pos h2]
    · rw [if_neg (by omega), if_neg h2]
theorem good_zero {fr dp sc : Int} {ps : List Pt} (h : GoodCf fr dp sc ps) : chk fr dp sc ps = (0, 0) := by
  have := good_chk (by_ := 0) h (by omega)
  rw [Int.add_zero] at this
  rw [this, if_neg (by have := h.frb; omega), if_pos rfl]
/-- what may be is well made -/
theorem chkR_ok {fr sc : Int} {ps : List Pt} : ∀ (d k : Nat) (sum : Int), d = ps.length - k → k ≤ ps.length → (∀ j q, j < k → ps[j]? = some q → partC q sc = 0) → apart (ps.take k) → (chkR fr sc (ps.take k) (ps.drop k) sum).1 = 0 → (∀ p ∈ ps, partC p sc = 0) ∧ apart ps
  | 0, k, sum, h, hk, hg, ha, _ => by
    rw [List.take_of_length_le (by omega)] at ha
    refine ⟨fun p hp => ?_, ha⟩
    obtain ⟨j, hj, rfl⟩ := List.mem_iff_getElem.1 hp
    exact hg j _ (by omega) (List.getElem?_eq_getElem hj)
  | d + 1, k, sum, h, hk, hg, ha, hc => by
    have hx : ps[k]? = some ps[k] := List.getElem?_eq_getElem (by omega)
    by_cases hp : partC ps[k] sc = 0
    · cases hb : (ps.take k).any (ovl ps[k]) with
      | false =>
        rw [chkR_next hx hp hb] at hc
        refine chkR_ok d (k + 1) _ (by omega) (by omega) (gd_next hg hx hp) (apart_next ha hx fun j q hj hq => ?_) hc
        cases ho : ovl ps[k] q with
        | false => rfl
        | true => rw [any_ovl.2 ⟨j, q, hj, hq, ho⟩] at hb; cases hb
      | true => rw [chkR_ext hx hp hb] at hc; cases hc
    · rw [chkR_part hx hp] at hc; exact absurd hc hp
structure OkCf (sc : Int) (ps : List Pt) : Prop where
  hsc : 1 ≤ sc ∧ sc ≤ 1024
  hln : ps.length ≤ 16
  hpt : ∀ p ∈ ps, partC p sc = 0
  hap : apart ps
theorem chk_ok {fr dp sc : Int} {ps : List Pt} (h : (chk fr dp sc ps).1 = 0) : OkCf sc ps := by
  unfold chk at h
  split at h
  · cases h
  · split at h
    · cases h
    · split at h
      · cases h
      · split at h
        · cases h
        · have := chkR_ok (fr := fr) (sc := sc) (ps := ps) ps.length 0 0 (by omega) (by omega) (fun j q hj => absurd hj (by omega)) (by simpa using apart_nil) (by simpa using h)
          exact ⟨by omega, by omega, this.1, this.2⟩
theorem GoodCf.ok {fr dp sc : Int} {ps : List Pt} (h : GoodCf fr dp sc ps) : OkCf sc ps := chk_ok (fr := fr) (dp := dp) (by rw [good_zero h])
theorem one_has {ps : List Pt} {i j : Nat} {p q : Pt} {s : Int} (ha : apart ps) (hi : ps[i]? = some p) (hj : ps[j]? = some q) (hij : j < i) (h1 : has q s = true) : has p s = false := no_both (ha i j p q hij hi hj) h1
theorem has_in {p : Pt} {sc s : Int} (h : partC p sc = 0) (h1 : has p s = true) : s < sc := by
  have h2 := partC_zero h
  unfold has at h1
  simp at h1
  omega
def HN (ps : List Pt) (k s n : Nat) : Prop := (n = 0 ∧ ∀ j p, j < k → ps[j]? = some p → has p s = false) ∨ (n = 1 ∧ ∃ j p, j < k ∧ ps[j]? = some p ∧ has p s = true)
theorem HN.zero {ps : List Pt} {s : Nat} : HN ps 0 s 0 := .inl ⟨rfl, fun j p h => absurd h (by omega)⟩
theorem HN.yes {ps : List Pt} {sc : Int} {k s n : Nat} {x : Pt} (ok : OkCf sc ps) (h : HN ps k s n) (hx : ps[k]? = some x) (hh : has x s = true) : HN ps (k + 1) s (n + 1) := by
  rcases h with ⟨rfl, _⟩ | ⟨_, j, p, h1, h2, h3⟩
  · exact .inr ⟨rfl, k, x, by omega, hx, hh⟩
  · rw [one_has ok.hap hx h2 h1 h3] at hh; cases hh
theorem HN.no {ps : List Pt} {k s n : Nat} {x : Pt} (h : HN ps k s n) (hx : ps[k]? = some x) (hh : has x s = false) : HN ps (k + 1) s n := by
  rcases h with ⟨h0, h1⟩ | ⟨h0, j, p, h1, h2⟩
  · refine .inl ⟨h0, fun j p hj hp => ?_⟩
    by_cases e : j < k
    · exact h1 j p e hp
    · obtain rfl : j = k := by omega
      rw [hx] at hp; injection hp with hp; rw [← hp]; exact hh
  · exact .inr ⟨h0, j, p, by omega, h2⟩
theorem HN.le {ps : List Pt} {k s n : Nat} (h : HN ps k s n) : n ≤ 1 := by rcases h with ⟨h, _⟩ | ⟨h, _⟩ <;> omega
theorem HN.sc {ps : List Pt} {sc : Int} {k s n : Nat} (ok : OkCf sc ps) (h : HN ps k s n) (hn : 0 < n) : (s : Int) < sc := by
  rcases h with ⟨h, _⟩ | ⟨_, j, p, _, h2, h3⟩
  · omega
  · exact has_in (ok.hpt _ (List.mem_of_getElem? h2)) h3
structure GI (k : Nat) (fr : Int) (at_ : Int) (ps : List Pt) : Prop where
  hln : ps.length = k
  hfr : fr = (ps.map (·.quota)).sum
  hat : 0 ≤ at_ ∧ at_ ≤ 10 * k
  hat2 : 2 * (k : Int) ≤ at_
  hpt : ∀ p ∈ ps, 1 ≤ p.quota ∧ p.quota ≤ 3 ∧ 1 ≤ p.pages ∧ p.pages ≤ 4 ∧ 0 ≤ p.base ∧ pend p ≤ at_
  hap : apart ps
theorem GI.zero : GI 0 0 0 [] := ⟨rfl, rfl, by omega, by omega, fun p h => by simp at h, apart_nil⟩
theorem GI.frb {k : Nat} {fr at_ : Int} {ps : List Pt} (h : GI k fr at_ ps) : (k : Int) ≤ fr ∧ fr ≤ 3 * k := by
  have h1 := q_sum (l := ps) (fun p hp => ⟨(h.hpt p hp).1, (h.hpt p hp).2.1⟩)
  have := h.hfr; have := h.hln
  omega
theorem GI.next {k : Nat} {fr at_ q b g : Int} {ps : List Pt} (h : GI k fr at_ ps) (hq : 0 ≤ q ∧ q < 3) (hb : 0 ≤ b ∧ b < 3) (hg : 0 ≤ g ∧ g < 4) : GI (k + 1) (fr + (1 + q)) (at_ + b + 2 * (1 + g)) (ps ++ [⟨1 + q, at_ + b, 1 + g⟩]) := by
  obtain ⟨h1, h2, h3, h4, h5, h6⟩ := h
  refine ⟨by simp [h1], by simp [h2], by omega, by omega, fun p hp => ?_, ?_⟩
  · rcases List.mem_append.1 hp with hp | hp
    · have := h5 p hp; omega
    · obtain rfl := List.mem_singleton.1 hp
      simp only [pend]; omega
  · have := apart_next (l := ps ++ [⟨1 + q, at_ + b, 1 + g⟩]) (k := k) (p := ⟨1 + q, at_ + b, 1 + g⟩) (by rw [← h1, List.take_left]; exact h6) (by rw [← h1]; simp) (fun j r hj hr => by
      rw [List.getElem?_append_left (by omega)] at hr
      have := h5 r (List.mem_of_getElem? hr)
      exact ovl_no (.inr (by simp only; omega)))
    rwa [List.take_of_length_le (by simp [h1])] at this
theorem GI.good {k : Nat} {fr at_ dp s : Int} {ps : List Pt} (h : GI k fr at_ ps) (hk : 1 ≤ k ∧ k ≤ 4) (hd : 0 ≤ dp ∧ dp < 4) (hs : 0 ≤ s ∧ s < 3) : GoodCf fr (1 + dp) (at_ + s) ps := by
  obtain ⟨h1, h2, h3, h4, h5, h6⟩ := h
  exact ⟨by omega, h2, by omega, by omega, fun p hp => by have := h5 p hp; omega, h6⟩
def oneP (k : Nat) : List Pt := (List.range k).map fun (j : Nat) => ⟨1, 2 * (j : Int), 1⟩
theorem oneP_next (k : Nat) : oneP k ++ [⟨1, 2 * (k : Int), 1⟩] = oneP (k + 1) := by simp [oneP, List.range_succ]
theorem oneP_len (k : Nat) : (oneP k).length = k := by simp [oneP]
theorem oneP_chk {k : Nat} (hk : k ≤ 20) : chk (if (k : Int) < 1 then 1 else k) 1 64 (oneP k) = if k < 1 ∨ 16 < k then (1, 0) else (0, 0) := by
  have : ∀ k : Fin 21, chk (if ((k : Nat) : Int) < 1 then 1 else (k : Nat)) 1 64 (oneP k) = if (k : Nat) < 1 ∨ 16 < (k : Nat) then (1, 0) else (0, 0) := by decide +kernel
  exact this ⟨k, by omega⟩
theorem AroundV {n : Int} {m : Int} {w : World}  (b_n : -9223372036854775808 ≤ n ∧ n ≤ 9223372036854775807) (b_m : 1 ≤ m ∧ m ≤ 9223372036854775807) :
    Calls Try.prog 17 #[.int .i64 n, .int .i64 m] w fun e w' => ∃ (x0 : Int), e = .returned (.int .i64 x0) ∧ x0 = (around n m) ∧ (0 ≤ x0 ∧ x0 < m) ∧ w = w' :=
  Calls.mono (Around_c n m w b_n.1 b_n.2 b_m.1 b_m.2) fun e w' ⟨h1, h2⟩ => ⟨_, h1, rfl, around_range n (m := m) (by omega), h2⟩
theorem inV {n : Int} {low : Int} {high : Int} {w : World}   :
    Calls Try.prog 40 #[.int .i64 n, .int .i64 low, .int .i64 high] w fun e w' => ∃ (x0 : Bool), e = .returned (.bool x0) ∧ x0 = (decide (low ≤ n) && decide (n ≤ high)) ∧ w = w' := by
  have hE := Ext.refl w
  refine calls_of (l := [.int .i64 n, .int .i64 low, .int .i64 high]) (N := 15) Try.func40 rfl rfl rfl ?_
  refine C_seq (C_region (RL_q rfl (Yd_assign rfl) (RL_nil (X_then (C_seq (C_region (RL_q rfl (Yd_move rfl) (RL_q rfl (Yd_move rfl) (RL_q rfl (Yd_geq rfl rfl) (RL_q rfl (Yd_move rfl) (?_)))))))))))
  apply RL_and (dj := 10) 14 4 rfl
  · intro hb10
    try simp only [decide_eq_true_eq, decide_eq_false_iff_not, Bool.not_eq_true', Bool.not_eq_false', Decidable.not_not, Int.not_lt, Int.not_le, Bool.or_eq_true, Bool.and_eq_true, Bool.or_eq_false_iff, Bool.and_eq_false_iff] at hb10
    refine QL_gq rfl rfl rfl (Yd_move rfl) (QL_gq rfl rfl rfl (Yd_move rfl) (QL_gq rfl rfl rfl (Yd_leq rfl rfl) (QL_q rfl (Yd_pickT rfl rfl) ((QL_nil 4 rfl rfl rfl)))))
  · intro hb10
    try simp only [decide_eq_true_eq, decide_eq_false_iff_not, Bool.not_eq_true', Bool.not_eq_false', Decidable.not_not, Int.not_lt, Int.not_le, Bool.or_eq_true, Bool.and_eq_true, Bool.or_eq_false_iff, Bool.and_eq_false_iff] at hb10
    refine QL_gn rfl rfl rfl rfl (QL_gn rfl rfl rfl rfl (QL_gn rfl rfl rfl rfl (QL_q rfl (Yd_pickF rfl rfl) ((QL_nil 4 rfl rfl rfl)))))
  · skip
    refine RL_q rfl (Yd_assign rfl) (RL_nil (X_then (C_ret (X_ret1 rfl rfl ?_))))
    refine ⟨_, rfl, ?_, rfl⟩
    all_goals (rfl)
theorem outV {n : Int} {low : Int} {high : Int} {w : World}   :
    Calls Try.prog 43 #[.int .i64 n, .int .i64 low, .int .i64 high] w fun e w' => ∃ (x0 : Bool), e = .returned (.bool x0) ∧ x0 = (decide (n < low) || decide (high < n)) ∧ w = w' := by
  have hE := Ext.refl w
  refine calls_of (l := [.int .i64 n, .int .i64 low, .int .i64 high]) (N := 15) Try.func43 rfl rfl rfl ?_
  refine C_seq (C_region (RL_q rfl (Yd_assign rfl) (RL_nil (X_then (C_seq (C_region (RL_q rfl (Yd_move rfl) (RL_q rfl (Yd_move rfl) (RL_q rfl (Yd_lss rfl rfl) (RL_q rfl (Yd_move rfl) (?_)))))))))))
  apply RL_or (dj := 10) 14 4 rfl
  · intro hb10
    try simp only [decide_eq_true_eq, decide_eq_false_iff_not, Bool.not_eq_true', Bool.not_eq_false', Decidable.not_not, Int.not_lt, Int.not_le, Bool.or_eq_true, Bool.and_eq_true, Bool.or_eq_false_iff, Bool.and_eq_false_iff] at hb10
    refine QL_gq rfl rfl rfl (Yd_move rfl) (QL_gq rfl rfl rfl (Yd_move rfl) (QL_gq rfl rfl rfl (Yd_gtr rfl rfl) (QL_q rfl (Yd_pickF rfl rfl) ((QL_nil 4 rfl rfl rfl)))))
  · intro hb10
    try simp only [decide_eq_true_eq, decide_eq_false_iff_not, Bool.not_eq_true', Bool.not_eq_false', Decidable.not_not, Int.not_lt, Int.not_le, Bool.or_eq_true, Bool.and_eq_true, Bool.or_eq_false_iff, Bool.and_eq_false_iff] at hb10
    refine QL_gn rfl rfl rfl rfl (QL_gn rfl rfl rfl rfl (QL_gn rfl rfl rfl rfl (QL_q rfl (Yd_pickT rfl rfl) ((QL_nil 4 rfl rfl rfl)))))
  · skip
    refine RL_q rfl (Yd_assign rfl) (RL_nil (X_then (C_ret (X_ret1 rfl rfl ?_))))
    refine ⟨_, rfl, ?_, rfl⟩
    all_goals (rfl)
theorem endV {p : Pt} {w : World}  (hb : 0 ≤ p.base ∧ p.base ≤ 4096 ∧ 0 ≤ p.pages ∧ p.pages ≤ 4096) :
    Calls Try.prog 44 #[.agg #[.int .i64 p.quota, .int .i64 p.base, .int .i64 p.pages]] w fun e w' => ∃ (x0 : Int), e = .returned (.int .i64 x0) ∧ x0 = (pend p) ∧ Ext w w' := by
  have hE := Ext.refl w
  refine calls_of (l := [.agg #[.int .i64 p.quota, .int .i64 p.base, .int .i64 p.pages]]) (N := 9) Try.func44 rfl rfl rfl ?_
  refine C_seq (C_region (RL_l rfl (Ld_box rfl ?_)))
  have hg_1 := hE.size
  intro W1 he1 hz1 hB1
  replace hE := Ext.trans hE he1
  refine RL_q rfl (Yd_assign rfl) (RL_nil (X_then (C_seq (C_region (RL_q rfl (Yd_fld (off := 1) Try.underlying35 (by kernel_rfl) rfl) (RL_q rfl (Yd_load Try.underlying3 rfl rfl (ldB hB1 rfl)) (RL_q rfl (Yd_fld (off := 2) Try.underlying35 (by kernel_rfl) rfl) (RL_q rfl (Yd_load Try.underlying3 rfl rfl (ldB hB1 rfl)) (RL_q rfl (Yd_mul rfl rfl (i64w (by omega) (by omega))) (RL_q rfl (Yd_add rfl rfl (i64w (by omega) (by omega))) (RL_q rfl (Yd_assign rfl) (RL_nil (X_then (C_ret (X_ret1 rfl rfl ?_)))))))))))))))
  refine ⟨_, rfl, ?_, hE⟩
  all_goals (rfl)
theorem partV {p : Pt} {s : Int} {w : World}  (b_s : 1 ≤ s ∧ s ≤ 1024) :
    Calls Try.prog 41 #[.agg #[.int .i64 p.quota, .int .i64 p.base, .int .i64 p.pages], .int .i64 s] w fun e w' => ∃ (x0 : List Int), e = .returned (.string (strOfNums x0)) ∧ (x0 = (cS (partC p s)) ∧ Byt x0) ∧ Ext w w' := by
  have hE := Ext.refl w
  refine calls_of (l := [.agg #[.int .i64 p.quota, .int .i64 p.base, .int .i64 p.pages], .int .i64 s]) (N := 27) Try.func41 rfl rfl rfl ?_
  refine C_seq (C_region (RL_l rfl (Ld_box rfl ?_)))
  have hg_2 := hE.size
  intro W1 he1 hz1 hB2
  replace hE := Ext.trans hE he1
  refine RL_q rfl (Yd_assign rfl) (RL_nil (X_then (C_seq (C_block (C_seq (C_region (RL_q rfl (Yd_fld (off := 0) Try.underlying35 (by kernel_rfl) rfl) (RL_q rfl (Yd_load Try.underlying3 rfl rfl (ldB hB2 rfl)) (RL_l rfl (Ld_call Try.func40 rfl (by kernel_rfl) rfl (inV ) ?_))))))))))
  rintro e W2 ⟨_, rfl, rfl, rfl⟩
  refine ⟨_, rfl, ?_⟩
  refine RL_q rfl (Yd_not rfl) (RL_q rfl (Yd_assign rfl) (RL_nil (X_then (?_))))
  refine C_cond rfl (fun hb5 => ?_) (fun hb5 => ?_)
  · skip
    try simp only [decide_eq_true_eq, decide_eq_false_iff_not, Bool.not_eq_true', Bool.not_eq_false', Decidable.not_not, Int.not_lt, Int.not_le, Bool.or_eq_true, Bool.and_eq_true, Bool.or_eq_false_iff, Bool.and_eq_false_iff] at hb5
    refine C_seq (C_region (RL_q rfl (Yd_assign rfl) (RL_nil (X_then (C_ret (X_blockR (X_thenR (X_ret1 rfl rfl ?_))))))))
    refine ⟨[113, 117, 111, 116, 97], rfl, ⟨?_, by decide⟩, hE⟩
    all_goals (first | (rw [show partC p s = 5 from by unfold partC; rw [if_pos (by omega)]]; rfl) | (rw [show partC p s = 6 from by unfold partC; rw [if_neg (by omega), if_pos (by omega)]]; rfl) | (rw [show partC p s = 7 from by unfold partC pend; rw [if_neg (by omega), if_neg (by omega), if_pos (by first | omega | (rw [hy23] at hb15; simp only [pend] at hb15; omega))]]; rfl) | (rw [show partC p s = 0 from by unfold partC pend; rw [if_neg (by omega), if_neg (by omega), if_neg (by rw [hy23] at hb15; simp only [pend] at hb15; omega)]]; rfl))
  · skip
    try simp only [decide_eq_true_eq, decide_eq_false_iff_not, Bool.not_eq_true', Bool.not_eq_false', Decidable.not_not, Int.not_lt, Int.not_le, Bool.or_eq_true, Bool.and_eq_true, Bool.or_eq_false_iff, Bool.and_eq_false_iff] at hb5
    refine C_seq (C_region (RL_q rfl (Yd_fld (off := 2) Try.underlying35 (by kernel_rfl) rfl) (RL_q rfl (Yd_load Try.underlying3 rfl rfl (ldB hB2 rfl)) (RL_l rfl (Ld_call Try.func40 rfl (by kernel_rfl) rfl (inV ) ?_)))))
    rintro e W3 ⟨_, rfl, rfl, rfl⟩
    refine ⟨_, rfl, ?_⟩
    refine RL_q rfl (Yd_not rfl) (RL_q rfl (Yd_assign rfl) (RL_nil (X_then (?_))))
    refine C_cond rfl (fun hb10 => ?_) (fun hb10 => ?_)
    · skip
      try simp only [decide_eq_true_eq, decide_eq_false_iff_not, Bool.not_eq_true', Bool.not_eq_false', Decidable.not_not, Int.not_lt, Int.not_le, Bool.or_eq_true, Bool.and_eq_true, Bool.or_eq_false_iff, Bool.and_eq_false_iff] at hb10
      refine C_seq (C_region (RL_q rfl (Yd_assign rfl) (RL_nil (X_then (C_ret (X_blockR (X_thenR (X_ret1 rfl rfl ?_))))))))
      refine ⟨[112, 97, 103, 101, 115], rfl, ⟨?_, by decide⟩, hE⟩
      all_goals (first | (rw [show partC p s = 5 from by unfold partC; rw [if_pos (by omega)]]; rfl) | (rw [show partC p s = 6 from by unfold partC; rw [if_neg (by omega), if_pos (by omega)]]; rfl) | (rw [show partC p s = 7 from by unfold partC pend; rw [if_neg (by omega), if_neg (by omega), if_pos (by first | omega | (rw [hy23] at hb15; simp only [pend] at hb15; omega))]]; rfl) | (rw [show partC p s = 0 from by unfold partC pend; rw [if_neg (by omega), if_neg (by omega), if_neg (by rw [hy23] at hb15; simp only [pend] at hb15; omega)]]; rfl))
    · skip
      try simp only [decide_eq_true_eq, decide_eq_false_iff_not, Bool.not_eq_true', Bool.not_eq_false', Decidable.not_not, Int.not_lt, Int.not_le, Bool.or_eq_true, Bool.and_eq_true, Bool.or_eq_false_iff, Bool.and_eq_false_iff] at hb10
      refine C_seq (C_region (RL_q rfl (Yd_fld (off := 1) Try.underlying35 (by kernel_rfl) rfl) (RL_q rfl (Yd_load Try.underlying3 rfl rfl (ldB hB2 rfl)) (RL_q rfl (Yd_move rfl) (RL_l rfl (Ld_call Try.func40 rfl (by kernel_rfl) rfl (inV ) ?_))))))
      rintro e W4 ⟨_, rfl, rfl, rfl⟩
      refine ⟨_, rfl, ?_⟩
      refine RL_q rfl (Yd_not rfl) (RL_q rfl (Yd_move rfl) (?_))
      refine RL_case (d := 21) rfl (fun hb21 => ?_) (fun hb21 => ?_)
      · skip
        try simp only [decide_eq_true_eq, decide_eq_false_iff_not, Bool.not_eq_true', Bool.not_eq_false', Decidable.not_not, Int.not_lt, Int.not_le, Bool.or_eq_true, Bool.and_eq_true, Bool.or_eq_false_iff, Bool.and_eq_false_iff] at hb21
        refine RL_gn rfl rfl rfl rfl (RL_gn rfl rfl rfl rfl (RL_gn rfl rfl rfl rfl (RL_gn rfl rfl rfl rfl (RL_q rfl (Yd_pickT rfl rfl) (RL_q rfl (Yd_assign rfl) (RL_nil (X_then (C_yes rfl rfl (C_seq (C_region (RL_q rfl (Yd_assign rfl) (RL_nil (X_then (C_ret (X_blockR (X_thenR (X_ret1 rfl rfl ?_)))))))))))))))))
        refine ⟨[98, 97, 115, 101], rfl, ⟨?_, by decide⟩, hE⟩
        all_goals (first | (rw [show partC p s = 5 from by unfold partC; rw [if_pos (by omega)]]; rfl) | (rw [show partC p s = 6 from by unfold partC; rw [if_neg (by omega), if_pos (by omega)]]; rfl) | (rw [show partC p s = 7 from by unfold partC pend; rw [if_neg (by omega), if_neg (by omega), if_pos (by first | omega | (rw [hy23] at hb15; simp only [pend] at hb15; omega))]]; rfl) | (rw [show partC p s = 0 from by unfold partC pend; rw [if_neg (by omega), if_neg (by omega), if_neg (by rw [hy23] at hb15; simp only [pend] at hb15; omega)]]; rfl))
      · skip
        try simp only [decide_eq_true_eq, decide_eq_false_iff_not, Bool.not_eq_true', Bool.not_eq_false', Decidable.not_not, Int.not_lt, Int.not_le, Bool.or_eq_true, Bool.and_eq_true, Bool.or_eq_false_iff, Bool.and_eq_false_iff] at hb21
        refine RL_gq rfl rfl rfl (Yd_loadA Try.underlying35 rfl (by kernel_rfl) rfl (ldBA hB2)) (RL_gl rfl rfl rfl (Ld_call Try.func44 rfl (by kernel_rfl) rfl (endV (p := p) (by first | omega | (dsimp only; omega))) ?_))
        rintro e W5 ⟨y23, rfl, hy23, he5⟩
        refine ⟨_, rfl, ?_⟩
        replace hE := Ext.trans hE he5
        replace hB2 := hB2.ext he5
        have hs5 := he5.size
        refine RL_gq rfl rfl rfl (Yd_move rfl) (RL_gq rfl rfl rfl (Yd_gtr rfl rfl) (RL_q rfl (Yd_pickF rfl rfl) (RL_q rfl (Yd_assign rfl) (RL_nil (X_then (?_))))))
        refine C_cond rfl (fun hb15 => ?_) (fun hb15 => ?_)
        · skip
          try simp only [decide_eq_true_eq, decide_eq_false_iff_not, Bool.not_eq_true', Bool.not_eq_false', Decidable.not_not, Int.not_lt, Int.not_le, Bool.or_eq_true, Bool.and_eq_true, Bool.or_eq_false_iff, Bool.and_eq_false_iff] at hb15
          refine C_seq (C_region (RL_q rfl (Yd_assign rfl) (RL_nil (X_then (C_ret (X_blockR (X_thenR (X_ret1 rfl rfl ?_))))))))
          refine ⟨[98, 97, 115, 101], rfl, ⟨?_, by decide⟩, hE⟩
          all_goals (first | (rw [show partC p s = 5 from by unfold partC; rw [if_pos (by omega)]]; rfl) | (rw [show partC p s = 6 from by unfold partC; rw [if_neg (by omega), if_pos (by omega)]]; rfl) | (rw [show partC p s = 7 from by unfold partC pend; rw [if_neg (by omega), if_neg (by omega), if_pos (by first | omega | (rw [hy23] at hb15; simp only [pend] at hb15; omega))]]; rfl) | (rw [show partC p s = 0 from by unfold partC pend; rw [if_neg (by omega), if_neg (by omega), if_neg (by rw [hy23] at hb15; simp only [pend] at hb15; omega)]]; rfl))
        · skip
          try simp only [decide_eq_true_eq, decide_eq_false_iff_not, Bool.not_eq_true', Bool.not_eq_false', Decidable.not_not, Int.not_lt, Int.not_le, Bool.or_eq_true, Bool.and_eq_true, Bool.or_eq_false_iff, Bool.and_eq_false_iff] at hb15
          refine C_skip (X_block (X_then (C_seq (C_region (RL_q rfl (Yd_assign rfl) (RL_nil (X_then (C_ret (X_ret1 rfl rfl ?_)))))))))
          refine ⟨[], rfl, ⟨?_, by decide⟩, hE⟩
          all_goals (first | (rw [show partC p s = 5 from by unfold partC; rw [if_pos (by omega)]]; rfl) | (rw [show partC p s = 6 from by unfold partC; rw [if_neg (by omega), if_pos (by omega)]]; rfl) | (rw [show partC p s = 7 from by unfold partC pend; rw [if_neg (by omega), if_neg (by omega), if_pos (by first | omega | (rw [hy23] at hb15; simp only [pend] at hb15; omega))]]; rfl) | (rw [show partC p s = 0 from by unfold partC pend; rw [if_neg (by omega), if_neg (by omega), if_neg (by rw [hy23] at hb15; simp only [pend] at hb15; omega)]]; rfl))
theorem hasV {p : Pt} {s : Int} {w : World}  (b_s : -4096 ≤ s ∧ s ≤ 4096) (hb : 0 ≤ p.base ∧ p.base ≤ 4096 ∧ 1 ≤ p.pages ∧ p.pages ≤ 64) :
    Calls Try.prog 22 #[.agg #[.int .i64 p.quota, .int .i64 p.base, .int .i64 p.pages], .int .i64 s] w fun e w' => ∃ (x0 : Bool), e = .returned (.bool x0) ∧ x0 = (has p s) ∧ Ext w w' := by
  have hE := Ext.refl w
  refine calls_of (l := [.agg #[.int .i64 p.quota, .int .i64 p.base, .int .i64 p.pages], .int .i64 s]) (N := 19) Try.func22 rfl rfl rfl ?_
  refine C_seq (C_region (RL_l rfl (Ld_box rfl ?_)))
  have hg_2 := hE.size
  intro W1 he1 hz1 hB2
  replace hE := Ext.trans hE he1
  refine RL_q rfl (Yd_assign rfl) (RL_nil (X_then (C_seq (C_region (RL_q rfl (Yd_move rfl) (RL_q rfl (Yd_fld (off := 1) Try.underlying35 (by kernel_rfl) rfl) (RL_q rfl (Yd_load Try.underlying3 rfl rfl (ldB hB2 rfl)) (RL_q rfl (Yd_geq rfl rfl) (RL_q rfl (Yd_move rfl) (?_))))))))))
  apply RL_and (dj := 9) 18 9 rfl
  · intro hb9
    try simp only [decide_eq_true_eq, decide_eq_false_iff_not, Bool.not_eq_true', Bool.not_eq_false', Decidable.not_not, Int.not_lt, Int.not_le, Bool.or_eq_true, Bool.and_eq_true, Bool.or_eq_false_iff, Bool.and_eq_false_iff] at hb9
    refine QL_gq rfl rfl rfl (Yd_move rfl) (QL_gq rfl rfl rfl (Yd_fld (off := 1) Try.underlying35 (by kernel_rfl) rfl) (QL_gq rfl rfl rfl (Yd_load Try.underlying3 rfl rfl (ldB hB2 rfl)) (QL_gq rfl rfl rfl (Yd_fld (off := 2) Try.underlying35 (by kernel_rfl) rfl) (QL_gq rfl rfl rfl (Yd_load Try.underlying3 rfl rfl (ldB hB2 rfl)) (QL_gq rfl rfl rfl (Yd_mul rfl rfl (i64w (by omega) (by omega))) (QL_gq rfl rfl rfl (Yd_add rfl rfl (i64w (by omega) (by omega))) (QL_gq rfl rfl rfl (Yd_lss rfl rfl) (QL_q rfl (Yd_pickT rfl rfl) ((QL_nil 9 rfl rfl rfl))))))))))
  · intro hb9
    try simp only [decide_eq_true_eq, decide_eq_false_iff_not, Bool.not_eq_true', Bool.not_eq_false', Decidable.not_not, Int.not_lt, Int.not_le, Bool.or_eq_true, Bool.and_eq_true, Bool.or_eq_false_iff, Bool.and_eq_false_iff] at hb9
    refine QL_gn rfl rfl rfl rfl (QL_gn rfl rfl rfl rfl (QL_gn rfl rfl rfl rfl (QL_gn rfl rfl rfl rfl (QL_gn rfl rfl rfl rfl (QL_gn rfl rfl rfl rfl (QL_gn rfl rfl rfl rfl (QL_gn rfl rfl rfl rfl (QL_q rfl (Yd_pickF rfl rfl) ((QL_nil 9 rfl rfl rfl))))))))))
  · skip
    refine RL_q rfl (Yd_assign rfl) (RL_nil (X_then (C_ret (X_ret1 rfl rfl ?_))))
    refine ⟨_, rfl, ?_, hE⟩
    all_goals (rfl)
theorem meetsV {lo_l B_l : Nat} {A_l : Option Addr} {n_l c_l : Nat} {l : List Pt} {w : World}  (h_l : Vw tP w lo_l B_l A_l n_l c_l l) (hbd : ∀ p ∈ l, 0 ≤ p.base ∧ p.base ≤ 4096 ∧ 1 ≤ p.pages ∧ p.pages ≤ 64) :
    Calls Try.prog 42 #[.slice A_l n_l c_l] w fun e w' => ∃ (x0 : Int), e = .returned (.int .i64 x0) ∧ x0 = (x0) ∧ ((0 ≤ x0 ∧ ∃ (i j : Nat) (p q : Pt), j < i ∧ l[i]? = some p ∧ l[j]? = some q ∧ ovl p q = true) ∨ (x0 = -1 ∧ apart l)) ∧ Ext w w' := by
  have hE := Ext.refl w
  replace h_l := h_l.fit
  have hn_l := h_l.ln
  have hc_l := h_l.cap
  have hm_l := h_l.max
  simp only [maxLen] at hm_l
  refine calls_of (l := [.slice A_l n_l c_l]) (N := 42) Try.func42 rfl rfl rfl ?_
  refine C_seq (C_region (RL_q rfl (Yd_assign rfl) (RL_nil (X_then (C_scope (C_seq (C_label (X_then (C_seq (C_seq (C_region (RL_q rfl (Yd_move rfl) (RL_q rfl (Yd_len Try.underlying22 rfl) (RL_q rfl (Yd_move rfl) (RL_nil (X_then (C_block (?_))))))))))))))))))
  refine C_loop (T := Nat) (fun i => [(0, .slice A_l n_l c_l), (7, .slice A_l n_l c_l), (8, .int .i64 (n_l : Int)), (9, .int .i64 (i : Int))]) (fun i lw0 => (i ≤ n_l) ∧ (apart (l.take i)) ∧ Ext w lw0) (fun i => n_l - i) (0) ⟨rfl, rfl, rfl, rfl, trivial⟩ ?_ ?_
  · refine ⟨?_, ?_, Ext.refl _⟩
    all_goals (try dsimp only)
    all_goals (first | omega | exact apart_nil | exact apart_next hap hx1 (fun j' q hj hq => hov j' q (by omega) hq))
  · rintro i lw0 ⟨hi0_0, hap, hL0⟩
    replace hE := Ext.trans hE hL0
    replace h_l := h_l.ext hL0
    have hsL0 := hL0.size
    refine C_seq (C_region (RL_q rfl (Yd_lss rfl rfl) (RL_nil (X_then (C_seq (?_))))))
    refine C_cond rfl (fun hb10 => ?_) (fun hb10 => ?_)
    · skip
      try simp only [decide_eq_true_eq, decide_eq_false_iff_not, Bool.not_eq_true', Bool.not_eq_false', Decidable.not_not, Int.not_lt, Int.not_le, Bool.or_eq_true, Bool.and_eq_true, Bool.or_eq_false_iff, Bool.and_eq_false_iff] at hb10
      refine C_skip (X_then (C_seq (C_block (C_seq (C_region (RL_q rfl (Yd_move rfl) (?_)))))))
      obtain ⟨adA_l, rfl, hghA_l, hglA_l⟩ := Vw.at_ (i := i) h_l (by omega)
      refine RL_q rfl (Yd_idx Try.underlying22 (sz := 3) (by kernel_rfl) rfl rfl (by omega) (by omega)) (?_)
      obtain ⟨x1, hx1, gx1⟩ := Vw.elem (i := i) h_l (by omega)
      replace gx1 : (-9223372036854775808 ≤ x1.quota ∧ x1.quota ≤ 9223372036854775807) ∧ (-9223372036854775808 ≤ x1.base ∧ x1.base ≤ 9223372036854775807) ∧ (-9223372036854775808 ≤ x1.pages ∧ x1.pages ≤ 9223372036854775807) := gx1
      refine RL_q rfl (Yd_loadA (cs := [.int .i64 x1.quota, .int .i64 x1.base, .int .i64 x1.pages]) Try.underlying35 rfl (by kernel_rfl) rfl (Vw.lqA h_l hx1 rfl rfl)) (?_)
      have hbd1 := hbd _ (List.mem_of_getElem? hx1)
      refine RL_l rfl (Ld_alloc (v := (.agg #[(.int .i64 0), (.int .i64 0), (.int .i64 0)])) (by kernel_rfl) ?_)
      have hg_4 := hE.size
      intro W1 he1 hz1 hB4
      replace hE := Ext.trans hE he1
      replace h_l := h_l.ext he1
      replace hL0 := Ext.trans hL0 he1
      refine RL_q rfl (Yd_assign rfl) (RL_l0 (Ld_store (by kernel_rfl) rfl rfl hB4 (Nat.le_of_ble_eq_true rfl) (by simp [cellsL, Value.cells, Value.oneCell']) ?_))
      intro W2 hu2 hz2 hB4
      have hk2 := Kp.ofb hu2
      have hs2 := hk2.size
      replace hE := Ext.kp hE hk2 (fun k hk => by first | omega | (have hk := hk; dsimp only at hk; omega))
      replace h_l := h_l.kp hk2 (fun k hk => by first | omega | (have hk := hk; dsimp only at hk; omega))
      try replace hL0 := Ext.kp hL0 hk2 (fun k hk => by first | omega | (have hk := hk; dsimp only at hk; omega))
      refine RL_nil (X_then (C_seq (C_seq (C_region (RL_q rfl (Yd_move rfl) (RL_q rfl (Yd_move rfl) (RL_q rfl (Yd_sliceH Try.underlying22 (sz := 3) (by kernel_rfl) rfl rfl (by omega) (by omega)) (RL_q rfl (Yd_len Try.underlying22 rfl) (RL_q rfl (Yd_move rfl) (RL_nil (X_then (C_block (?_)))))))))))))
      refine C_loop (T := Nat) (fun j => [(0, .slice (some adA_l) n_l c_l), (3, .int .i64 (i : Int)), (4, .pointer (some ⟨lw0.heap.size, 0, none⟩)), (7, .slice (some adA_l) n_l c_l), (8, .int .i64 (n_l : Int)), (9, .int .i64 (i : Int)), (16, .slice (some adA_l) i c_l), (17, .int .i64 (i : Int)), (18, .int .i64 (j : Int))]) (fun j lw2 => (j ≤ i) ∧ (∀ j' q, j' < j → l[j']? = some q → ovl x1 q = false) ∧ Ext W2 lw2) (fun j => i - j) (0) ⟨rfl, rfl, rfl, rfl, rfl, rfl, rfl, rfl, rfl, trivial⟩ ?_ ?_
      · refine ⟨?_, ?_, Ext.refl _⟩
        all_goals (try dsimp only)
        all_goals (first | omega | (intro j' q hj; exact absurd hj (by omega)))
      · rintro j lw2 ⟨hi2_0, hov, hL2⟩
        replace hE := Ext.trans hE hL2
        replace h_l := h_l.ext hL2
        replace hL0 := Ext.trans hL0 hL2
        replace hB4 := hB4.ext hL2
        have hsL2 := hL2.size
        refine C_seq (C_region (RL_q rfl (Yd_lss rfl rfl) (RL_nil (X_then (C_seq (?_))))))
        refine C_cond rfl (fun hb19 => ?_) (fun hb19 => ?_)
        · skip
          try simp only [decide_eq_true_eq, decide_eq_false_iff_not, Bool.not_eq_true', Bool.not_eq_false', Decidable.not_not, Int.not_lt, Int.not_le, Bool.or_eq_true, Bool.and_eq_true, Bool.or_eq_false_iff, Bool.and_eq_false_iff] at hb19
          refine C_skip (X_then (C_seq (C_block (C_seq (C_region (RL_q rfl (Yd_idx Try.underlying22 (sz := 3) (by kernel_rfl) rfl rfl (by omega) (by omega)) (?_)))))))
          obtain ⟨x2, hx2, gx2⟩ := Vw.elem (i := j) (Vw.take (k := i) h_l (by omega)) (by omega)
          replace gx2 : (-9223372036854775808 ≤ x2.quota ∧ x2.quota ≤ 9223372036854775807) ∧ (-9223372036854775808 ≤ x2.base ∧ x2.base ≤ 9223372036854775807) ∧ (-9223372036854775808 ≤ x2.pages ∧ x2.pages ≤ 9223372036854775807) := gx2
          refine RL_q rfl (Yd_loadA (cs := [.int .i64 x2.quota, .int .i64 x2.base, .int .i64 x2.pages]) Try.underlying35 rfl (by kernel_rfl) rfl (Vw.lqA (Vw.take (k := i) h_l (by omega)) hx2 rfl rfl)) (?_)
          have hbd2 := hbd _ (List.mem_of_mem_take (List.mem_of_getElem? hx2))
          refine RL_l rfl (Ld_alloc (v := (.agg #[(.int .i64 0), (.int .i64 0), (.int .i64 0)])) (by kernel_rfl) ?_)
          have hg_6 := hE.size
          intro W3 he3 hz3 hB6
          replace hE := Ext.trans hE he3
          replace h_l := h_l.ext he3
          replace hL0 := Ext.trans hL0 he3
          replace hB4 := hB4.ext he3
          replace hL2 := Ext.trans hL2 he3
          refine RL_l0 (Ld_store (by kernel_rfl) rfl rfl hB6 (Nat.le_of_ble_eq_true rfl) (by simp [cellsL, Value.cells, Value.oneCell']) ?_)
          intro W4 hu4 hz4 hB6
          have hk4 := Kp.ofb hu4
          have hs4 := hk4.size
          replace hE := Ext.kp hE hk4 (fun k hk => by first | omega | (have hk := hk; dsimp only at hk; omega))
          replace h_l := h_l.kp hk4 (fun k hk => by first | omega | (have hk := hk; dsimp only at hk; omega))
          try replace hL0 := Ext.kp hL0 hk4 (fun k hk => by first | omega | (have hk := hk; dsimp only at hk; omega))
          replace hB4 := hB4.kp hk4 (fun hk => by first | omega | (have hk := hk; dsimp only at hk; omega))
          try replace hL2 := Ext.kp hL2 hk4 (fun k hk => by first | omega | (have hk := hk; dsimp only at hk; omega))
          refine RL_nil (X_then (C_seq (C_seq (?_))))
          refine C_regionD (NoB) (l := [(0, true), (1, true), (2, true), (3, true), (4, true), (6, true), (7, true), (5, false), (8, true), (9, true), (10, true), (12, true), (13, true), (11, false), (14, true), (15, true), (16, true)]) (by kernel_rfl) (by kernel_rfl) rfl (by kernel_rfl) (fun _ _ d _ _ h => by cases d <;> exact h) ?_
          intro W5 he5 hh5
          replace hE := Ext.trans hE he5
          replace h_l := h_l.ext he5
          replace hL0 := Ext.trans hL0 he5
          replace hB4 := hB4.ext he5
          replace hL2 := Ext.trans hL2 he5
          replace hB6 := hB6.ext he5
          have hs5 := he5.size
          refine RO_q rfl rfl (Yd_loadA Try.underlying35 rfl (by kernel_rfl) rfl (fun W hW => (ldBA hB4) W hW.ext)) (RO_q rfl rfl (Yd_loadA Try.underlying35 rfl (by kernel_rfl) rfl (fun W hW => (ldBA hB6) W hW.ext)) (RO_q rfl rfl (Yd_neqA Try.underlying35 (by kernel_rfl) (by kernel_rfl) (tb := [(false, 0, 0), (false, 1, 0), (false, 2, 0)]) (by kernel_rfl) rfl rfl rfl (Pt_eq x1 x2)) (RO_q rfl rfl (Yd_move rfl) (?_))))
          refine RO_case (d := 25) rfl (fun hb25 => ?_) (fun hb25 => ?_)
          · skip
            try simp only [decide_eq_true_eq, decide_eq_false_iff_not, Bool.not_eq_true', Bool.not_eq_false', Decidable.not_not, Int.not_lt, Int.not_le, Bool.or_eq_true, Bool.and_eq_true, Bool.or_eq_false_iff, Bool.and_eq_false_iff] at hb25
            refine RO_gq rfl rfl rfl rfl (Yd_loadA Try.underlying35 rfl (by kernel_rfl) rfl (fun W hW => (ldBA hB4) W hW.ext)) (RO_gq rfl rfl rfl rfl (Yd_fld (off := 1) Try.underlying35 (by kernel_rfl) rfl) (RO_gq rfl rfl rfl rfl (Yd_load Try.underlying3 rfl rfl (fun W hW => (ldB hB6 rfl) W hW.ext)) (RO_gl rfl rfl rfl rfl (Ld_call Try.func44 rfl (by kernel_rfl) rfl (endV (p := x1) (by first | omega | (dsimp only; omega))) ?_))))
            rintro e W6 ⟨y27, rfl, hy27, he6⟩
            refine ⟨_, rfl, ?_⟩
            refine ⟨Kp.of_ext he6, ?_⟩
            replace hE := Ext.trans hE he6
            replace h_l := h_l.ext he6
            replace hL0 := Ext.trans hL0 he6
            replace hB4 := hB4.ext he6
            replace hL2 := Ext.trans hL2 he6
            replace hB6 := hB6.ext he6
            have hs6 := he6.size
            refine RO_gq rfl rfl rfl rfl (Yd_leq rfl rfl) (RO_gq rfl rfl rfl rfl (Yd_move rfl) (?_))
            refine RO_case (d := 31) rfl (fun hb31 => ?_) (fun hb31 => ?_)
            · skip
              try simp only [decide_eq_true_eq, decide_eq_false_iff_not, Bool.not_eq_true', Bool.not_eq_false', Decidable.not_not, Int.not_lt, Int.not_le, Bool.or_eq_true, Bool.and_eq_true, Bool.or_eq_false_iff, Bool.and_eq_false_iff] at hb31
              refine RO_gn rfl rfl rfl rfl rfl (RO_gn rfl rfl rfl rfl rfl (RO_gn rfl rfl rfl rfl rfl (RO_gnL rfl rfl rfl rfl rfl (RO_gn rfl rfl rfl rfl rfl (RO_gq rfl rfl rfl rfl (Yd_pickT rfl rfl) (RO_q rfl rfl (Yd_pickT rfl rfl) (RO_nil (X_then (C_yes rfl rfl (C_exit (X_thenE (X_blockE (X_then (C_region (RL_q rfl (Yd_add rfl rfl (i64w (by omega) (by omega))) (RL_q rfl (Yd_move rfl) (RL_nil (?_))))))))))))))))))
              refine X_again (j + 1) ⟨rfl, rfl, rfl, rfl, rfl, rfl, rfl, rfl, rfl, trivial⟩ ?_ (by show i - (j + 1) < i - j; omega)
              refine ⟨?_, ?_, hL2⟩
              all_goals (try dsimp only)
              all_goals (first | omega | (intro j' q hj hq; exact hov_next hov (take_get hx2).2 (ovl_no (by omega)) j' q hj hq))
            · skip
              try simp only [decide_eq_true_eq, decide_eq_false_iff_not, Bool.not_eq_true', Bool.not_eq_false', Decidable.not_not, Int.not_lt, Int.not_le, Bool.or_eq_true, Bool.and_eq_true, Bool.or_eq_false_iff, Bool.and_eq_false_iff] at hb31
              refine RO_gq rfl rfl rfl rfl (Yd_loadA Try.underlying35 rfl (by kernel_rfl) rfl (fun W hW => (ldBA hB6) W hW.ext)) (RO_gq rfl rfl rfl rfl (Yd_fld (off := 1) Try.underlying35 (by kernel_rfl) rfl) (RO_gq rfl rfl rfl rfl (Yd_load Try.underlying3 rfl rfl (fun W hW => (ldB hB4 rfl) W hW.ext)) (RO_gl rfl rfl rfl rfl (Ld_call Try.func44 rfl (by kernel_rfl) rfl (endV (p := x2) (by first | omega | (dsimp only; omega))) ?_))))
              rintro e W7 ⟨y33, rfl, hy33, he7⟩
              refine ⟨_, rfl, ?_⟩
              refine ⟨Kp.of_ext he7, ?_⟩
              replace hE := Ext.trans hE he7
              replace h_l := h_l.ext he7
              replace hL0 := Ext.trans hL0 he7
              replace hB4 := hB4.ext he7
              replace hL2 := Ext.trans hL2 he7
              replace hB6 := hB6.ext he7
              have hs7 := he7.size
              refine RO_gq rfl rfl rfl rfl (Yd_leq rfl rfl) (RO_gq rfl rfl rfl rfl (Yd_pickF rfl rfl) (RO_q rfl rfl (Yd_pickT rfl rfl) (RO_nil (X_then (?_)))))
              refine C_cond rfl (fun hb38 => ?_) (fun hb38 => ?_)
              · skip
                try simp only [decide_eq_true_eq, decide_eq_false_iff_not, Bool.not_eq_true', Bool.not_eq_false', Decidable.not_not, Int.not_lt, Int.not_le, Bool.or_eq_true, Bool.and_eq_true, Bool.or_eq_false_iff, Bool.and_eq_false_iff] at hb38
                refine C_exit (X_thenE (X_blockE (X_then (C_region (RL_q rfl (Yd_add rfl rfl (i64w (by omega) (by omega))) (RL_q rfl (Yd_move rfl) (RL_nil (?_))))))))
                refine X_again (j + 1) ⟨rfl, rfl, rfl, rfl, rfl, rfl, rfl, rfl, rfl, trivial⟩ ?_ (by show i - (j + 1) < i - j; omega)
                refine ⟨?_, ?_, hL2⟩
                all_goals (try dsimp only)
                all_goals (first | omega | (intro j' q hj hq; exact hov_next hov (take_get hx2).2 (ovl_no (by omega)) j' q hj hq))
              · skip
                try simp only [decide_eq_true_eq, decide_eq_false_iff_not, Bool.not_eq_true', Bool.not_eq_false', Decidable.not_not, Int.not_lt, Int.not_le, Bool.or_eq_true, Bool.and_eq_true, Bool.or_eq_false_iff, Bool.and_eq_false_iff] at hb38
                refine C_skip (X_then (C_seq (C_region (RL_q rfl (Yd_move rfl) (RL_q rfl (Yd_assign rfl) (RL_nil (X_then (C_ret (X_blockR (X_thenR (X_thenR (X_blockR (X_thenR (X_blockR (X_thenR (X_thenR (X_blockR (X_thenR (X_ngR (X_ret1 rfl rfl ?_))))))))))))))))))))
                refine ⟨_, rfl, ?_, ?_, hE⟩
                all_goals (first | rfl | exact .inr ⟨by first | rfl | omega, by rw [List.take_of_length_le (by omega)] at hap; exact hap⟩ | exact .inl ⟨by omega, _, _, _, _, (take_get hx2).1, hx1, (take_get hx2).2, ovl_yes (by omega) (by first | exact .inl (by assumption) | exact .inr ⟨by omega, by omega⟩)⟩)
          · skip
            try simp only [decide_eq_true_eq, decide_eq_false_iff_not, Bool.not_eq_true', Bool.not_eq_false', Decidable.not_not, Int.not_lt, Int.not_le, Bool.or_eq_true, Bool.and_eq_true, Bool.or_eq_false_iff, Bool.and_eq_false_iff] at hb25
            refine RO_gn rfl rfl rfl rfl rfl (RO_gn rfl rfl rfl rfl rfl (RO_gn rfl rfl rfl rfl rfl (RO_gnL rfl rfl rfl rfl rfl (RO_gn rfl rfl rfl rfl rfl (RO_gn rfl rfl rfl rfl rfl (RO_gu rfl rfl rfl rfl (RO_gu rfl rfl rfl rfl (RO_gu rfl rfl rfl rfl (RO_guL rfl rfl rfl rfl (RO_gu rfl rfl rfl rfl (RO_gn rfl rfl rfl rfl rfl (RO_q rfl rfl (Yd_pickF rfl rfl) (RO_nil (X_then (C_no rfl rfl (C_skip (X_then (C_seq (C_region (RL_q rfl (Yd_move rfl) (RL_q rfl (Yd_assign rfl) (RL_nil (X_then (C_ret (X_blockR (X_thenR (X_thenR (X_blockR (X_thenR (X_blockR (X_thenR (X_thenR (X_blockR (X_thenR (X_ngR (X_ret1 rfl rfl ?_))))))))))))))))))))))))))))))))))))
            refine ⟨_, rfl, ?_, ?_, hE⟩
            all_goals (first | rfl | exact .inr ⟨by first | rfl | omega, by rw [List.take_of_length_le (by omega)] at hap; exact hap⟩ | exact .inl ⟨by omega, _, _, _, _, (take_get hx2).1, hx1, (take_get hx2).2, ovl_yes (by omega) (by first | exact .inl (by assumption) | exact .inr ⟨by omega, by omega⟩)⟩)
        · skip
          try simp only [decide_eq_true_eq, decide_eq_false_iff_not, Bool.not_eq_true', Bool.not_eq_false', Decidable.not_not, Int.not_lt, Int.not_le, Bool.or_eq_true, Bool.and_eq_true, Bool.or_eq_false_iff, Bool.and_eq_false_iff] at hb19
          refine C_exit (X_thenE (X_thenE (X_blockE (X_then (C_exit (X_blockE (X_then (C_region (RL_q rfl (Yd_add rfl rfl (i64w (by omega) (by omega))) (RL_q rfl (Yd_move rfl) (RL_nil (?_))))))))))))
          refine X_again (i + 1) ⟨rfl, rfl, rfl, rfl, trivial⟩ ?_ (by show n_l - (i + 1) < n_l - i; omega)
          refine ⟨?_, ?_, hL0⟩
          all_goals (try dsimp only)
          all_goals (first | omega | exact apart_nil | exact apart_next hap hx1 (fun j' q hj hq => hov j' q (by omega) hq))
    · skip
      try simp only [decide_eq_true_eq, decide_eq_false_iff_not, Bool.not_eq_true', Bool.not_eq_false', Decidable.not_not, Int.not_lt, Int.not_le, Bool.or_eq_true, Bool.and_eq_true, Bool.or_eq_false_iff, Bool.and_eq_false_iff] at hb10
      refine C_exit (X_thenE (X_thenE (X_blockE (X_then (C_seq (C_region (RL_q rfl (Yd_assign rfl) (RL_nil (X_then (C_ret (X_ngR (X_ret1 rfl rfl ?_))))))))))))
      refine ⟨_, rfl, ?_, ?_, hE⟩
      all_goals (first | rfl | exact .inr ⟨by first | rfl | omega, by rw [List.take_of_length_le (by omega)] at hap; exact hap⟩ | exact .inl ⟨by omega, _, _, _, _, (take_get hx2).1, hx1, (take_get hx2).2, ovl_yes (by omega) (by first | exact .inl (by assumption) | exact .inr ⟨by omega, by omega⟩)⟩)
theorem CheckV {cfr cdp csc : Int} {lo_cps B_cps : Nat} {A_cps : Option Addr} {n_cps c_cps : Nat} {cps : List Pt} {w : World}  (h_cps : Vw tP w lo_cps B_cps A_cps n_cps c_cps cps) (b_c : -9223372036854775808 ≤ cfr ∧ cfr ≤ 9223372036854775807 ∧ -9223372036854775808 ≤ cdp ∧ cdp ≤ 9223372036854775807 ∧ -9223372036854775808 ≤ csc ∧ csc ≤ 9223372036854775807) :
    Calls Try.prog 18 #[.agg #[.int .i64 cfr, .int .i64 cdp, .int .i64 csc, .slice A_cps n_cps c_cps]] w fun e w' => ∃ (x0 : List Int) (x1 : Int), e = .returned (.tuple #[.string (strOfNums x0), .int .i64 x1]) ∧ (x0 = (cS (chk cfr cdp csc cps).1) ∧ Byt x0) ∧ x1 = ((chk cfr cdp csc cps).2) ∧ Ext w w' := by
  have hE := Ext.refl w
  replace h_cps := h_cps.fit
  have hn_cps := h_cps.ln
  have hc_cps := h_cps.cap
  have hm_cps := h_cps.max
  simp only [maxLen] at hm_cps
  refine calls_of (l := [.agg #[.int .i64 cfr, .int .i64 cdp, .int .i64 csc, .slice A_cps n_cps c_cps]]) (N := 62) Try.func18 rfl rfl rfl ?_
  refine C_seq (C_region (RL_l rfl (Ld_box rfl ?_)))
  have hg_1 := hE.size
  intro W1 he1 hz1 hB1
  replace hE := Ext.trans hE he1
  replace h_cps := h_cps.ext he1
  refine RL_q rfl (Yd_assign rfl) (RL_q rfl (Yd_assign rfl) (RL_nil (X_then (C_seq (C_block (C_seq (C_region (RL_q rfl (Yd_fld (off := 3) Try.underlying24 (by kernel_rfl) rfl) (RL_q rfl (Yd_load Try.underlying22 rfl rfl (ldB hB1 rfl)) (RL_q rfl (Yd_len Try.underlying22 rfl) (RL_l rfl (Ld_call Try.func40 rfl (by kernel_rfl) rfl (inV ) ?_))))))))))))
  rintro e W2 ⟨_, rfl, rfl, rfl⟩
  refine ⟨_, rfl, ?_⟩
  refine RL_q rfl (Yd_not rfl) (RL_q rfl (Yd_assign rfl) (RL_nil (X_then (?_))))
  refine C_cond rfl (fun hb8 => ?_) (fun hb8 => ?_)
  · skip
    try simp only [decide_eq_true_eq, decide_eq_false_iff_not, Bool.not_eq_true', Bool.not_eq_false', Decidable.not_not, Int.not_lt, Int.not_le, Bool.or_eq_true, Bool.and_eq_true, Bool.or_eq_false_iff, Bool.and_eq_false_iff] at hb8
    refine C_seq (C_region (RL_q rfl (Yd_assign rfl) (RL_q rfl (Yd_assign rfl) (RL_nil (X_then (C_ret (X_blockR (X_thenR (X_ret2 rfl rfl rfl ?_)))))))))
    refine ⟨[112, 97, 114, 116, 115], _, rfl, ⟨?_, by decide⟩, ?_, hE⟩
    all_goals (first | (rw [(chk1 (by omega))]; done) | (rw [(chk1 (by omega))]; rfl) | (rw [(chk2 (by omega) (by omega))]; done) | (rw [(chk2 (by omega) (by omega))]; rfl) | (rw [(chk3 (by omega) (by omega) (by omega))]; done) | (rw [(chk3 (by omega) (by omega) (by omega))]; rfl) | (rw [(chk4 (by omega) (by omega) (by omega) (by omega))]; done) | (rw [(chk4 (by omega) (by omega) (by omega) (by omega))]; rfl) | (rw [hR, hT]; done) | (rw [hR, hT]; rfl) | (rw [hR, hT]; assumption) | (rw [hR, hT, if_pos (by omega)]; done) | (rw [hR, hT, if_pos (by omega)]; rfl) | (rw [hR, hT, if_neg (by omega)]; done) | (rw [hR, hT, if_neg (by omega)]; rfl))
  · skip
    try simp only [decide_eq_true_eq, decide_eq_false_iff_not, Bool.not_eq_true', Bool.not_eq_false', Decidable.not_not, Int.not_lt, Int.not_le, Bool.or_eq_true, Bool.and_eq_true, Bool.or_eq_false_iff, Bool.and_eq_false_iff] at hb8
    refine C_seq (C_region (RL_q rfl (Yd_fld (off := 0) Try.underlying24 (by kernel_rfl) rfl) (RL_q rfl (Yd_load Try.underlying3 rfl rfl (ldB hB1 rfl)) (RL_l rfl (Ld_call Try.func40 rfl (by kernel_rfl) rfl (inV ) ?_)))))
    rintro e W3 ⟨_, rfl, rfl, rfl⟩
    refine ⟨_, rfl, ?_⟩
    refine RL_q rfl (Yd_not rfl) (RL_q rfl (Yd_assign rfl) (RL_nil (X_then (?_))))
    refine C_cond rfl (fun hb14 => ?_) (fun hb14 => ?_)
    · skip
      try simp only [decide_eq_true_eq, decide_eq_false_iff_not, Bool.not_eq_true', Bool.not_eq_false', Decidable.not_not, Int.not_lt, Int.not_le, Bool.or_eq_true, Bool.and_eq_true, Bool.or_eq_false_iff, Bool.and_eq_false_iff] at hb14
      refine C_seq (C_region (RL_q rfl (Yd_assign rfl) (RL_q rfl (Yd_assign rfl) (RL_nil (X_then (C_ret (X_blockR (X_thenR (X_ret2 rfl rfl rfl ?_)))))))))
      refine ⟨[102, 114, 97, 109, 101, 115], _, rfl, ⟨?_, by decide⟩, ?_, hE⟩
      all_goals (first | (rw [(chk1 (by omega))]; done) | (rw [(chk1 (by omega))]; rfl) | (rw [(chk2 (by omega) (by omega))]; done) | (rw [(chk2 (by omega) (by omega))]; rfl) | (rw [(chk3 (by omega) (by omega) (by omega))]; done) | (rw [(chk3 (by omega) (by omega) (by omega))]; rfl) | (rw [(chk4 (by omega) (by omega) (by omega) (by omega))]; done) | (rw [(chk4 (by omega) (by omega) (by omega) (by omega))]; rfl) | (rw [hR, hT]; done) | (rw [hR, hT]; rfl) | (rw [hR, hT]; assumption) | (rw [hR, hT, if_pos (by omega)]; done) | (rw [hR, hT, if_pos (by omega)]; rfl) | (rw [hR, hT, if_neg (by omega)]; done) | (rw [hR, hT, if_neg (by omega)]; rfl))
    · skip
      try simp only [decide_eq_true_eq, decide_eq_false_iff_not, Bool.not_eq_true', Bool.not_eq_false', Decidable.not_not, Int.not_lt, Int.not_le, Bool.or_eq_true, Bool.and_eq_true, Bool.or_eq_false_iff, Bool.and_eq_false_iff] at hb14
      refine C_seq (C_region (RL_q rfl (Yd_fld (off := 1) Try.underlying24 (by kernel_rfl) rfl) (RL_q rfl (Yd_load Try.underlying3 rfl rfl (ldB hB1 rfl)) (RL_l rfl (Ld_call Try.func40 rfl (by kernel_rfl) rfl (inV ) ?_)))))
      rintro e W4 ⟨_, rfl, rfl, rfl⟩
      refine ⟨_, rfl, ?_⟩
      refine RL_q rfl (Yd_not rfl) (RL_q rfl (Yd_assign rfl) (RL_nil (X_then (?_))))
      refine C_cond rfl (fun hb19 => ?_) (fun hb19 => ?_)
      · skip
        try simp only [decide_eq_true_eq, decide_eq_false_iff_not, Bool.not_eq_true', Bool.not_eq_false', Decidable.not_not, Int.not_lt, Int.not_le, Bool.or_eq_true, Bool.and_eq_true, Bool.or_eq_false_iff, Bool.and_eq_false_iff] at hb19
        refine C_seq (C_region (RL_q rfl (Yd_assign rfl) (RL_q rfl (Yd_assign rfl) (RL_nil (X_then (C_ret (X_blockR (X_thenR (X_ret2 rfl rfl rfl ?_)))))))))
        refine ⟨[100, 101, 112, 116, 104], _, rfl, ⟨?_, by decide⟩, ?_, hE⟩
        all_goals (first | (rw [(chk1 (by omega))]; done) | (rw [(chk1 (by omega))]; rfl) | (rw [(chk2 (by omega) (by omega))]; done) | (rw [(chk2 (by omega) (by omega))]; rfl) | (rw [(chk3 (by omega) (by omega) (by omega))]; done) | (rw [(chk3 (by omega) (by omega) (by omega))]; rfl) | (rw [(chk4 (by omega) (by omega) (by omega) (by omega))]; done) | (rw [(chk4 (by omega) (by omega) (by omega) (by omega))]; rfl) | (rw [hR, hT]; done) | (rw [hR, hT]; rfl) | (rw [hR, hT]; assumption) | (rw [hR, hT, if_pos (by omega)]; done) | (rw [hR, hT, if_pos (by omega)]; rfl) | (rw [hR, hT, if_neg (by omega)]; done) | (rw [hR, hT, if_neg (by omega)]; rfl))
      · skip
        try simp only [decide_eq_true_eq, decide_eq_false_iff_not, Bool.not_eq_true', Bool.not_eq_false', Decidable.not_not, Int.not_lt, Int.not_le, Bool.or_eq_true, Bool.and_eq_true, Bool.or_eq_false_iff, Bool.and_eq_false_iff] at hb19
        refine C_seq (C_region (RL_q rfl (Yd_fld (off := 2) Try.underlying24 (by kernel_rfl) rfl) (RL_q rfl (Yd_load Try.underlying3 rfl rfl (ldB hB1 rfl)) (RL_l rfl (Ld_call Try.func40 rfl (by kernel_rfl) rfl (inV ) ?_)))))
        rintro e W5 ⟨_, rfl, rfl, rfl⟩
        refine ⟨_, rfl, ?_⟩
        refine RL_q rfl (Yd_not rfl) (RL_q rfl (Yd_assign rfl) (RL_nil (X_then (?_))))
        refine C_cond rfl (fun hb24 => ?_) (fun hb24 => ?_)
        · skip
          try simp only [decide_eq_true_eq, decide_eq_false_iff_not, Bool.not_eq_true', Bool.not_eq_false', Decidable.not_not, Int.not_lt, Int.not_le, Bool.or_eq_true, Bool.and_eq_true, Bool.or_eq_false_iff, Bool.and_eq_false_iff] at hb24
          refine C_seq (C_region (RL_q rfl (Yd_assign rfl) (RL_q rfl (Yd_assign rfl) (RL_nil (X_then (C_ret (X_blockR (X_thenR (X_ret2 rfl rfl rfl ?_)))))))))
          refine ⟨[115, 101, 99, 116, 111, 114, 115], _, rfl, ⟨?_, by decide⟩, ?_, hE⟩
          all_goals (first | (rw [(chk1 (by omega))]; done) | (rw [(chk1 (by omega))]; rfl) | (rw [(chk2 (by omega) (by omega))]; done) | (rw [(chk2 (by omega) (by omega))]; rfl) | (rw [(chk3 (by omega) (by omega) (by omega))]; done) | (rw [(chk3 (by omega) (by omega) (by omega))]; rfl) | (rw [(chk4 (by omega) (by omega) (by omega) (by omega))]; done) | (rw [(chk4 (by omega) (by omega) (by omega) (by omega))]; rfl) | (rw [hR, hT]; done) | (rw [hR, hT]; rfl) | (rw [hR, hT]; assumption) | (rw [hR, hT, if_pos (by omega)]; done) | (rw [hR, hT, if_pos (by omega)]; rfl) | (rw [hR, hT, if_neg (by omega)]; done) | (rw [hR, hT, if_neg (by omega)]; rfl))
        · skip
          try simp only [decide_eq_true_eq, decide_eq_false_iff_not, Bool.not_eq_true', Bool.not_eq_false', Decidable.not_not, Int.not_lt, Int.not_le, Bool.or_eq_true, Bool.and_eq_true, Bool.or_eq_false_iff, Bool.and_eq_false_iff] at hb24
          refine C_skip (X_block (X_then (C_seq (C_region (RL_q rfl (Yd_assign rfl) (RL_nil (X_then (C_seq (C_seq (C_region (RL_q rfl (Yd_fld (off := 3) Try.underlying24 (by kernel_rfl) rfl) (RL_q rfl (Yd_load Try.underlying22 rfl rfl (ldB hB1 rfl)) (RL_q rfl (Yd_len Try.underlying22 rfl) (RL_q rfl (Yd_move rfl) (RL_nil (X_then (C_block (?_))))))))))))))))))
          refine C_loop (T := Nat × Int) (fun ⟨k, sm⟩ => [(1, .pointer (some ⟨w.heap.size, 0, none⟩)), (4, .int .i64 sm), (30, .slice A_cps n_cps c_cps), (31, .int .i64 (n_cps : Int)), (32, .int .i64 (k : Int))]) (fun ⟨k, sm⟩ lw5 => (k ≤ n_cps) ∧ (0 ≤ sm ∧ sm ≤ 64 * k) ∧ (chk cfr cdp csc cps = chkR cfr csc (cps.take k) (cps.drop k) sm) ∧ (∀ j q, j < k → cps[j]? = some q → partC q csc = 0) ∧ (apart (cps.take k)) ∧ Ext W1 lw5) (fun ⟨k, sm⟩ => n_cps - k) (⟨0, 0⟩) ⟨rfl, rfl, rfl, rfl, rfl, trivial⟩ ?_ ?_
          · refine ⟨?_, ?_, ?_, ?_, ?_, Ext.refl _⟩
            all_goals (try dsimp only)
            all_goals (first | omega | exact (chk5 (by omega) (by omega) (by omega) (by omega)) | (intro j q hj; exact absurd hj (by omega)) | exact apart_nil)
          · rintro ⟨k, sm⟩ lw5 ⟨hi5_0, hsm, hR, hgd, hap, hL5⟩
            replace hE := Ext.trans hE hL5
            replace h_cps := h_cps.ext hL5
            replace hB1 := hB1.ext hL5
            have hsL5 := hL5.size
            refine C_seq (C_region (RL_q rfl (Yd_lss rfl rfl) (RL_nil (X_then (C_seq (?_))))))
            refine C_cond rfl (fun hb33 => ?_) (fun hb33 => ?_)
            · skip
              try simp only [decide_eq_true_eq, decide_eq_false_iff_not, Bool.not_eq_true', Bool.not_eq_false', Decidable.not_not, Int.not_lt, Int.not_le, Bool.or_eq_true, Bool.and_eq_true, Bool.or_eq_false_iff, Bool.and_eq_false_iff] at hb33
              refine C_skip (X_then (C_seq (C_block (C_seq (C_region (RL_q rfl (Yd_move rfl) (?_)))))))
              obtain ⟨adA_cps, rfl, hghA_cps, hglA_cps⟩ := Vw.at_ (i := k) h_cps (by omega)
              refine RL_q rfl (Yd_idx Try.underlying22 (sz := 3) (by kernel_rfl) rfl rfl (by omega) (by omega)) (?_)
              obtain ⟨x1, hx1, gx1⟩ := Vw.elem (i := k) h_cps (by omega)
              replace gx1 : (-9223372036854775808 ≤ x1.quota ∧ x1.quota ≤ 9223372036854775807) ∧ (-9223372036854775808 ≤ x1.base ∧ x1.base ≤ 9223372036854775807) ∧ (-9223372036854775808 ≤ x1.pages ∧ x1.pages ≤ 9223372036854775807) := gx1
              refine RL_q rfl (Yd_loadA (cs := [.int .i64 x1.quota, .int .i64 x1.base, .int .i64 x1.pages]) Try.underlying35 rfl (by kernel_rfl) rfl (Vw.lqA h_cps hx1 rfl rfl)) (RL_l rfl (Ld_alloc (v := (.agg #[(.int .i64 0), (.int .i64 0), (.int .i64 0)])) (by kernel_rfl) ?_))
              have hg_6 := hE.size
              intro W6 he6 hz6 hB6
              replace hE := Ext.trans hE he6
              replace h_cps := h_cps.ext he6
              replace hB1 := hB1.ext he6
              replace hL5 := Ext.trans hL5 he6
              refine RL_q rfl (Yd_assign rfl) (RL_l0 (Ld_store (by kernel_rfl) rfl rfl hB6 (Nat.le_of_ble_eq_true rfl) (by simp [cellsL, Value.cells, Value.oneCell']) ?_))
              intro W7 hu7 hz7 hB6
              have hk7 := Kp.ofb hu7
              have hs7 := hk7.size
              replace hE := Ext.kp hE hk7 (fun k hk => by first | omega | (have hk := hk; dsimp only at hk; omega))
              replace h_cps := h_cps.kp hk7 (fun k hk => by first | omega | (have hk := hk; dsimp only at hk; omega))
              replace hB1 := hB1.kp hk7 (fun hk => by first | omega | (have hk := hk; dsimp only at hk; omega))
              try replace hL5 := Ext.kp hL5 hk7 (fun k hk => by first | omega | (have hk := hk; dsimp only at hk; omega))
              refine RL_nil (X_then (C_seq (C_seq (C_region (RL_q rfl (Yd_loadA Try.underlying35 rfl (by kernel_rfl) rfl (ldBA hB6)) (RL_q rfl (Yd_fld (off := 2) Try.underlying24 (by kernel_rfl) rfl) (RL_q rfl (Yd_load Try.underlying3 rfl rfl (ldB hB1 rfl)) (RL_l rfl (Ld_call Try.func41 rfl (by kernel_rfl) rfl (partV (p := x1) ⟨by first | omega | (dsimp only; omega), by first | omega | (dsimp only; omega)⟩) ?_)))))))))
              rintro e W8 ⟨z40, rfl, ⟨hz40, hby40⟩, he8⟩
              refine ⟨_, rfl, ?_⟩
              replace hE := Ext.trans hE he8
              replace h_cps := h_cps.ext he8
              replace hB1 := hB1.ext he8
              replace hL5 := Ext.trans hL5 he8
              replace hB6 := hB6.ext he8
              have hs8 := he8.size
              refine RL_q rfl (Yd_assign rfl) (RL_nil (X_then (C_seq (C_region (RL_q rfl (Yd_move rfl) (RL_q rfl (Yd_neqSB (b := []) rfl rfl hby40 (by decide)) (RL_nil (X_then (?_)))))))))
              refine C_cond rfl (fun hb42 => ?_) (fun hb42 => ?_)
              · skip
                have hpc : partC x1 csc ≠ 0 := fun e => by rw [hz40, e] at hb42; simp [cS, codes] at hb42
                have hT := chkR_part (fr := cfr) (sum := sm) hx1 hpc
                refine C_seq (C_region (RL_q rfl (Yd_move rfl) (RL_q rfl (Yd_move rfl) (RL_q rfl (Yd_assign rfl) (RL_q rfl (Yd_assign rfl) (RL_nil (X_then (C_ret (X_thenR (X_blockR (X_thenR (X_thenR (X_blockR (X_thenR (X_ret2 rfl rfl rfl ?_)))))))))))))))
                refine ⟨z40, _, rfl, ⟨?_, hby40⟩, ?_, hE⟩
                all_goals (first | (rw [(chk1 (by omega))]; done) | (rw [(chk1 (by omega))]; rfl) | (rw [(chk2 (by omega) (by omega))]; done) | (rw [(chk2 (by omega) (by omega))]; rfl) | (rw [(chk3 (by omega) (by omega) (by omega))]; done) | (rw [(chk3 (by omega) (by omega) (by omega))]; rfl) | (rw [(chk4 (by omega) (by omega) (by omega) (by omega))]; done) | (rw [(chk4 (by omega) (by omega) (by omega) (by omega))]; rfl) | (rw [hR, hT]; done) | (rw [hR, hT]; rfl) | (rw [hR, hT]; assumption) | (rw [hR, hT, if_pos (by omega)]; done) | (rw [hR, hT, if_pos (by omega)]; rfl) | (rw [hR, hT, if_neg (by omega)]; done) | (rw [hR, hT, if_neg (by omega)]; rfl))
              · skip
                have hpc : partC x1 csc = 0 := (cS_nil (by rcases partC_le x1 csc with h | h | h | h <;> omega)).1 (by rw [hz40] at hb42; simpa using hb42)
                have hpz := partC_zero hpc
                have hgd2 := gd_next hgd hx1 hpc
                refine C_skip (X_then (C_seq (C_seq (C_region (RL_q rfl (Yd_fld (off := 3) Try.underlying24 (by kernel_rfl) rfl) (RL_q rfl (Yd_load Try.underlying22 rfl rfl (ldB hB1 rfl)) (RL_q rfl (Yd_move rfl) (RL_q rfl (Yd_add rfl rfl (i64w (by omega) (by omega))) (RL_q rfl (Yd_sliceH Try.underlying22 (sz := 3) (by kernel_rfl) rfl rfl (by omega) (by omega)) (RL_l rfl (Ld_call Try.func42 rfl (by kernel_rfl) rfl (meetsV (Vw.take (k := ((k : Int) + 1).toNat) h_cps (by omega)) (gd_mem (by omega) hgd2)) ?_)))))))))))
                rintro e W9 ⟨y50, rfl, hy50, hmt50, he9⟩
                refine ⟨_, rfl, ?_⟩
                replace hE := Ext.trans hE he9
                replace h_cps := h_cps.ext he9
                replace hB1 := hB1.ext he9
                replace hL5 := Ext.trans hL5 he9
                replace hB6 := hB6.ext he9
                have hs9 := he9.size
                refine RL_q rfl (Yd_geq rfl rfl) (RL_nil (X_then (?_)))
                refine C_cond rfl (fun hb51 => ?_) (fun hb51 => ?_)
                · skip
                  have hany := meets_any hap hx1 hmt50 (by simpa using hb51)
                  have hT := chkR_ext (fr := cfr) (sum := sm) hx1 hpc hany
                  refine C_seq (C_region (RL_q rfl (Yd_move rfl) (RL_q rfl (Yd_assign rfl) (RL_q rfl (Yd_assign rfl) (RL_nil (X_then (C_ret (X_thenR (X_blockR (X_thenR (X_thenR (X_blockR (X_thenR (X_ret2 rfl rfl rfl ?_))))))))))))))
                  refine ⟨[101, 120, 116, 101, 110, 116], _, rfl, ⟨?_, by decide⟩, ?_, hE⟩
                  all_goals (first | (rw [(chk1 (by omega))]; done) | (rw [(chk1 (by omega))]; rfl) | (rw [(chk2 (by omega) (by omega))]; done) | (rw [(chk2 (by omega) (by omega))]; rfl) | (rw [(chk3 (by omega) (by omega) (by omega))]; done) | (rw [(chk3 (by omega) (by omega) (by omega))]; rfl) | (rw [(chk4 (by omega) (by omega) (by omega) (by omega))]; done) | (rw [(chk4 (by omega) (by omega) (by omega) (by omega))]; rfl) | (rw [hR, hT]; done) | (rw [hR, hT]; rfl) | (rw [hR, hT]; assumption) | (rw [hR, hT, if_pos (by omega)]; done) | (rw [hR, hT, if_pos (by omega)]; rfl) | (rw [hR, hT, if_neg (by omega)]; done) | (rw [hR, hT, if_neg (by omega)]; rfl))
                · skip
                  obtain ⟨hany, hap2⟩ := meets_none hx1 hmt50 (by simpa using hb51)
                  have hT := chkR_next (fr := cfr) (sum := sm) hx1 hpc hany
                  refine C_skip (X_then (C_region (RL_q rfl (Yd_move rfl) (RL_q rfl (Yd_fld (off := 0) Try.underlying35 (by kernel_rfl) rfl) (RL_q rfl (Yd_load Try.underlying3 rfl rfl (ldB hB6 rfl)) (RL_q rfl (Yd_add rfl rfl (i64w (by omega) (by omega))) (RL_q rfl (Yd_assign rfl) (RL_nil (X_block (X_then (C_region (RL_q rfl (Yd_add rfl rfl (i64w (by omega) (by omega))) (RL_q rfl (Yd_move rfl) (RL_nil (?_)))))))))))))))
                  refine X_again (⟨k + 1, (sm + x1.quota)⟩) ⟨rfl, rfl, rfl, rfl, rfl, trivial⟩ ?_ (by show n_cps - (k + 1) < n_cps - k; omega)
                  refine ⟨?_, ?_, ?_, ?_, ?_, hL5⟩
                  all_goals (try dsimp only)
                  all_goals (first | omega | exact hR.trans hT | exact gd_next hgd hx1 hpc | exact hap2)
            · skip
              try simp only [decide_eq_true_eq, decide_eq_false_iff_not, Bool.not_eq_true', Bool.not_eq_false', Decidable.not_not, Int.not_lt, Int.not_le, Bool.or_eq_true, Bool.and_eq_true, Bool.or_eq_false_iff, Bool.and_eq_false_iff] at hb33
              have hT := chkR_end (fr := cfr) (sc := csc) (sum := sm) (ps := cps) (k := k) (by omega)
              refine C_exit (X_thenE (X_thenE (X_blockE (X_then (C_seq (C_seq (C_region (RL_q rfl (Yd_move rfl) (RL_q rfl (Yd_fld (off := 0) Try.underlying24 (by kernel_rfl) rfl) (RL_q rfl (Yd_load Try.underlying3 rfl rfl (ldB hB1 rfl)) (RL_q rfl (Yd_neq rfl rfl) (RL_nil (X_then (?_))))))))))))))
              refine C_cond rfl (fun hb61 => ?_) (fun hb61 => ?_)
              · skip
                try simp only [decide_eq_true_eq, decide_eq_false_iff_not, Bool.not_eq_true', Bool.not_eq_false', Decidable.not_not, Int.not_lt, Int.not_le, Bool.or_eq_true, Bool.and_eq_true, Bool.or_eq_false_iff, Bool.and_eq_false_iff] at hb61
                refine C_seq (C_region (RL_q rfl (Yd_assign rfl) (RL_q rfl (Yd_assign rfl) (RL_nil (X_then (C_ret (X_thenR (X_ret2 rfl rfl rfl ?_))))))))
                refine ⟨[115, 117, 109], _, rfl, ⟨?_, by decide⟩, ?_, hE⟩
                all_goals (first | (rw [(chk1 (by omega))]; done) | (rw [(chk1 (by omega))]; rfl) | (rw [(chk2 (by omega) (by omega))]; done) | (rw [(chk2 (by omega) (by omega))]; rfl) | (rw [(chk3 (by omega) (by omega) (by omega))]; done) | (rw [(chk3 (by omega) (by omega) (by omega))]; rfl) | (rw [(chk4 (by omega) (by omega) (by omega) (by omega))]; done) | (rw [(chk4 (by omega) (by omega) (by omega) (by omega))]; rfl) | (rw [hR, hT]; done) | (rw [hR, hT]; rfl) | (rw [hR, hT]; assumption) | (rw [hR, hT, if_pos (by omega)]; done) | (rw [hR, hT, if_pos (by omega)]; rfl) | (rw [hR, hT, if_neg (by omega)]; done) | (rw [hR, hT, if_neg (by omega)]; rfl))
              · skip
                try simp only [decide_eq_true_eq, decide_eq_false_iff_not, Bool.not_eq_true', Bool.not_eq_false', Decidable.not_not, Int.not_lt, Int.not_le, Bool.or_eq_true, Bool.and_eq_true, Bool.or_eq_false_iff, Bool.and_eq_false_iff] at hb61
                refine C_skip (X_then (C_seq (C_region (RL_q rfl (Yd_assign rfl) (RL_q rfl (Yd_assign rfl) (RL_nil (X_then (C_ret (X_ret2 rfl rfl rfl ?_)))))))))
                refine ⟨[], _, rfl, ⟨?_, by decide⟩, ?_, hE⟩
                all_goals (first | (rw [(chk1 (by omega))]; done) | (rw [(chk1 (by omega))]; rfl) | (rw [(chk2 (by omega) (by omega))]; done) | (rw [(chk2 (by omega) (by omega))]; rfl) | (rw [(chk3 (by omega) (by omega) (by omega))]; done) | (rw [(chk3 (by omega) (by omega) (by omega))]; rfl) | (rw [(chk4 (by omega) (by omega) (by omega) (by omega))]; done) | (rw [(chk4 (by omega) (by omega) (by omega) (by omega))]; rfl) | (rw [hR, hT]; done) | (rw [hR, hT]; rfl) | (rw [hR, hT]; assumption) | (rw [hR, hT, if_pos (by omega)]; done) | (rw [hR, hT, if_pos (by omega)]; rfl) | (rw [hR, hT, if_neg (by omega)]; done) | (rw [hR, hT, if_neg (by omega)]; rfl))
theorem refCheckV {cfr cdp csc : Int} {lo_cps B_cps : Nat} {A_cps : Option Addr} {n_cps c_cps : Nat} {cps : List Pt} {w : World}  (h_cps : Vw tP w lo_cps B_cps A_cps n_cps c_cps cps) (b_c : -9223372036854775808 ≤ cfr ∧ cfr ≤ 9223372036854775807 ∧ -9223372036854775808 ≤ cdp ∧ cdp ≤ 9223372036854775807 ∧ -9223372036854775808 ≤ csc ∧ csc ≤ 9223372036854775807) :
    Calls Try.prog 19 #[.agg #[.int .i64 cfr, .int .i64 cdp, .int .i64 csc, .slice A_cps n_cps c_cps]] w fun e w' => ∃ (x0 : List Int) (x1 : Int), e = .returned (.tuple #[.string (strOfNums x0), .int .i64 x1]) ∧ (x0 = (cS (chk cfr cdp csc cps).1) ∧ Byt x0) ∧ x1 = ((chk cfr cdp csc cps).2) ∧ Ext w w' := by
  have hE := Ext.refl w
  replace h_cps := h_cps.fit
  have hn_cps := h_cps.ln
  have hc_cps := h_cps.cap
  have hm_cps := h_cps.max
  simp only [maxLen] at hm_cps
  refine calls_of (l := [.agg #[.int .i64 cfr, .int .i64 cdp, .int .i64 csc, .slice A_cps n_cps c_cps]]) (N := 86) Try.func19 rfl rfl rfl ?_
  refine C_seq (C_region (RL_l rfl (Ld_box rfl ?_)))
  have hg_1 := hE.size
  intro W1 he1 hz1 hB1
  replace hE := Ext.trans hE he1
  replace h_cps := h_cps.ext he1
  refine RL_q rfl (Yd_assign rfl) (RL_q rfl (Yd_assign rfl) (RL_nil (X_then (C_seq (C_seq (C_region (RL_q rfl (Yd_fld (off := 3) Try.underlying24 (by kernel_rfl) rfl) (RL_q rfl (Yd_load Try.underlying22 rfl rfl (ldB hB1 rfl)) (RL_q rfl (Yd_len Try.underlying22 rfl) (RL_l rfl (Ld_call Try.func43 rfl (by kernel_rfl) rfl (outV ) ?_)))))))))))
  rintro e W2 ⟨_, rfl, rfl, rfl⟩
  refine ⟨_, rfl, ?_⟩
  refine RL_nil (X_then (?_))
  refine C_cond rfl (fun hb13 => ?_) (fun hb13 => ?_)
  · skip
    try simp only [decide_eq_true_eq, decide_eq_false_iff_not, Bool.not_eq_true', Bool.not_eq_false', Decidable.not_not, Int.not_lt, Int.not_le, Bool.or_eq_true, Bool.and_eq_true, Bool.or_eq_false_iff, Bool.and_eq_false_iff] at hb13
    refine C_seq (C_region (RL_q rfl (Yd_assign rfl) (RL_q rfl (Yd_assign rfl) (RL_nil (X_then (C_ret (X_thenR (X_ret2 rfl rfl rfl ?_))))))))
    refine ⟨[112, 97, 114, 116, 115], _, rfl, ⟨?_, by decide⟩, ?_, hE⟩
    all_goals (first | (rw [(chk1 (by omega))]; done) | (rw [(chk1 (by omega))]; rfl) | (rw [(chk2 (by omega) (by omega))]; done) | (rw [(chk2 (by omega) (by omega))]; rfl) | (rw [(chk3 (by omega) (by omega) (by omega))]; done) | (rw [(chk3 (by omega) (by omega) (by omega))]; rfl) | (rw [(chk4 (by omega) (by omega) (by omega) (by omega))]; done) | (rw [(chk4 (by omega) (by omega) (by omega) (by omega))]; rfl) | (rw [hR, hT]; done) | (rw [hR, hT]; rfl) | (rw [hR, hT]; assumption) | (rw [hR, hT, if_pos (by omega)]; done) | (rw [hR, hT, if_pos (by omega)]; rfl) | (rw [hR, hT, if_neg (by omega)]; done) | (rw [hR, hT, if_neg (by omega)]; rfl))
  · skip
    try simp only [decide_eq_true_eq, decide_eq_false_iff_not, Bool.not_eq_true', Bool.not_eq_false', Decidable.not_not, Int.not_lt, Int.not_le, Bool.or_eq_true, Bool.and_eq_true, Bool.or_eq_false_iff, Bool.and_eq_false_iff] at hb13
    refine C_skip (X_then (C_seq (C_seq (C_region (RL_q rfl (Yd_fld (off := 0) Try.underlying24 (by kernel_rfl) rfl) (RL_q rfl (Yd_load Try.underlying3 rfl rfl (ldB hB1 rfl)) (RL_l rfl (Ld_call Try.func43 rfl (by kernel_rfl) rfl (outV ) ?_))))))))
    rintro e W3 ⟨_, rfl, rfl, rfl⟩
    refine ⟨_, rfl, ?_⟩
    refine RL_nil (X_then (?_))
    refine C_cond rfl (fun hb16 => ?_) (fun hb16 => ?_)
    · skip
      try simp only [decide_eq_true_eq, decide_eq_false_iff_not, Bool.not_eq_true', Bool.not_eq_false', Decidable.not_not, Int.not_lt, Int.not_le, Bool.or_eq_true, Bool.and_eq_true, Bool.or_eq_false_iff, Bool.and_eq_false_iff] at hb16
      refine C_seq (C_region (RL_q rfl (Yd_assign rfl) (RL_q rfl (Yd_assign rfl) (RL_nil (X_then (C_ret (X_thenR (X_ret2 rfl rfl rfl ?_))))))))
      refine ⟨[102, 114, 97, 109, 101, 115], _, rfl, ⟨?_, by decide⟩, ?_, hE⟩
      all_goals (first | (rw [(chk1 (by omega))]; done) | (rw [(chk1 (by omega))]; rfl) | (rw [(chk2 (by omega) (by omega))]; done) | (rw [(chk2 (by omega) (by omega))]; rfl) | (rw [(chk3 (by omega) (by omega) (by omega))]; done) | (rw [(chk3 (by omega) (by omega) (by omega))]; rfl) | (rw [(chk4 (by omega) (by omega) (by omega) (by omega))]; done) | (rw [(chk4 (by omega) (by omega) (by omega) (by omega))]; rfl) | (rw [hR, hT]; done) | (rw [hR, hT]; rfl) | (rw [hR, hT]; assumption) | (rw [hR, hT, if_pos (by omega)]; done) | (rw [hR, hT, if_pos (by omega)]; rfl) | (rw [hR, hT, if_neg (by omega)]; done) | (rw [hR, hT, if_neg (by omega)]; rfl))
    · skip
      try simp only [decide_eq_true_eq, decide_eq_false_iff_not, Bool.not_eq_true', Bool.not_eq_false', Decidable.not_not, Int.not_lt, Int.not_le, Bool.or_eq_true, Bool.and_eq_true, Bool.or_eq_false_iff, Bool.and_eq_false_iff] at hb16
      refine C_skip (X_then (C_seq (C_seq (C_region (RL_q rfl (Yd_fld (off := 1) Try.underlying24 (by kernel_rfl) rfl) (RL_q rfl (Yd_load Try.underlying3 rfl rfl (ldB hB1 rfl)) (RL_l rfl (Ld_call Try.func43 rfl (by kernel_rfl) rfl (outV ) ?_))))))))
      rintro e W4 ⟨_, rfl, rfl, rfl⟩
      refine ⟨_, rfl, ?_⟩
      refine RL_nil (X_then (?_))
      refine C_cond rfl (fun hb19 => ?_) (fun hb19 => ?_)
      · skip
        try simp only [decide_eq_true_eq, decide_eq_false_iff_not, Bool.not_eq_true', Bool.not_eq_false', Decidable.not_not, Int.not_lt, Int.not_le, Bool.or_eq_true, Bool.and_eq_true, Bool.or_eq_false_iff, Bool.and_eq_false_iff] at hb19
        refine C_seq (C_region (RL_q rfl (Yd_assign rfl) (RL_q rfl (Yd_assign rfl) (RL_nil (X_then (C_ret (X_thenR (X_ret2 rfl rfl rfl ?_))))))))
        refine ⟨[100, 101, 112, 116, 104], _, rfl, ⟨?_, by decide⟩, ?_, hE⟩
        all_goals (first | (rw [(chk1 (by omega))]; done) | (rw [(chk1 (by omega))]; rfl) | (rw [(chk2 (by omega) (by omega))]; done) | (rw [(chk2 (by omega) (by omega))]; rfl) | (rw [(chk3 (by omega) (by omega) (by omega))]; done) | (rw [(chk3 (by omega) (by omega) (by omega))]; rfl) | (rw [(chk4 (by omega) (by omega) (by omega) (by omega))]; done) | (rw [(chk4 (by omega) (by omega) (by omega) (by omega))]; rfl) | (rw [hR, hT]; done) | (rw [hR, hT]; rfl) | (rw [hR, hT]; assumption) | (rw [hR, hT, if_pos (by omega)]; done) | (rw [hR, hT, if_pos (by omega)]; rfl) | (rw [hR, hT, if_neg (by omega)]; done) | (rw [hR, hT, if_neg (by omega)]; rfl))
      · skip
        try simp only [decide_eq_true_eq, decide_eq_false_iff_not, Bool.not_eq_true', Bool.not_eq_false', Decidable.not_not, Int.not_lt, Int.not_le, Bool.or_eq_true, Bool.and_eq_true, Bool.or_eq_false_iff, Bool.and_eq_false_iff] at hb19
        refine C_skip (X_then (C_seq (C_seq (C_region (RL_q rfl (Yd_fld (off := 2) Try.underlying24 (by kernel_rfl) rfl) (RL_q rfl (Yd_load Try.underlying3 rfl rfl (ldB hB1 rfl)) (RL_l rfl (Ld_call Try.func43 rfl (by kernel_rfl) rfl (outV ) ?_))))))))
        rintro e W5 ⟨_, rfl, rfl, rfl⟩
        refine ⟨_, rfl, ?_⟩
        refine RL_nil (X_then (?_))
        refine C_cond rfl (fun hb22 => ?_) (fun hb22 => ?_)
        · skip
          try simp only [decide_eq_true_eq, decide_eq_false_iff_not, Bool.not_eq_true', Bool.not_eq_false', Decidable.not_not, Int.not_lt, Int.not_le, Bool.or_eq_true, Bool.and_eq_true, Bool.or_eq_false_iff, Bool.and_eq_false_iff] at hb22
          refine C_seq (C_region (RL_q rfl (Yd_assign rfl) (RL_q rfl (Yd_assign rfl) (RL_nil (X_then (C_ret (X_thenR (X_ret2 rfl rfl rfl ?_))))))))
          refine ⟨[115, 101, 99, 116, 111, 114, 115], _, rfl, ⟨?_, by decide⟩, ?_, hE⟩
          all_goals (first | (rw [(chk1 (by omega))]; done) | (rw [(chk1 (by omega))]; rfl) | (rw [(chk2 (by omega) (by omega))]; done) | (rw [(chk2 (by omega) (by omega))]; rfl) | (rw [(chk3 (by omega) (by omega) (by omega))]; done) | (rw [(chk3 (by omega) (by omega) (by omega))]; rfl) | (rw [(chk4 (by omega) (by omega) (by omega) (by omega))]; done) | (rw [(chk4 (by omega) (by omega) (by omega) (by omega))]; rfl) | (rw [hR, hT]; done) | (rw [hR, hT]; rfl) | (rw [hR, hT]; assumption) | (rw [hR, hT, if_pos (by omega)]; done) | (rw [hR, hT, if_pos (by omega)]; rfl) | (rw [hR, hT, if_neg (by omega)]; done) | (rw [hR, hT, if_neg (by omega)]; rfl))
        · skip
          try simp only [decide_eq_true_eq, decide_eq_false_iff_not, Bool.not_eq_true', Bool.not_eq_false', Decidable.not_not, Int.not_lt, Int.not_le, Bool.or_eq_true, Bool.and_eq_true, Bool.or_eq_false_iff, Bool.and_eq_false_iff] at hb22
          refine C_skip (X_then (C_seq (C_region (RL_q rfl (Yd_assign rfl) (RL_nil (X_then (C_seq (C_seq (C_region (RL_q rfl (Yd_assign rfl) (RL_nil (X_then (C_block (?_))))))))))))))
          refine C_loop (T := Nat × Int) (fun ⟨k, sm⟩ => [(1, .pointer (some ⟨w.heap.size, 0, none⟩)), (4, .int .i64 sm), (5, .int .i64 (k : Int))]) (fun ⟨k, sm⟩ lw5 => (k ≤ n_cps) ∧ (0 ≤ sm ∧ sm ≤ 64 * k) ∧ (chk cfr cdp csc cps = chkR cfr csc (cps.take k) (cps.drop k) sm) ∧ (∀ j q, j < k → cps[j]? = some q → partC q csc = 0) ∧ Ext W1 lw5) (fun ⟨k, sm⟩ => n_cps - k) (⟨0, 0⟩) ⟨rfl, rfl, rfl, trivial⟩ ?_ ?_
          · refine ⟨?_, ?_, ?_, ?_, Ext.refl _⟩
            all_goals (try dsimp only)
            all_goals (first | omega | exact (chk5 (by omega) (by omega) (by omega) (by omega)) | (intro j q hj; exact absurd hj (by omega)))
          · rintro ⟨k, sm⟩ lw5 ⟨hi5_0, hsm, hR, hgd, hL5⟩
            replace hE := Ext.trans hE hL5
            replace h_cps := h_cps.ext hL5
            replace hB1 := hB1.ext hL5
            have hsL5 := hL5.size
            refine C_seq (C_seq (C_region (RL_q rfl (Yd_move rfl) (RL_q rfl (Yd_fld (off := 3) Try.underlying24 (by kernel_rfl) rfl) (RL_q rfl (Yd_load Try.underlying22 rfl rfl (ldB hB1 rfl)) (RL_q rfl (Yd_len Try.underlying22 rfl) (RL_q rfl (Yd_lss rfl rfl) (RL_nil (X_then (?_))))))))))
            refine C_cond rfl (fun hb27 => ?_) (fun hb27 => ?_)
            · skip
              try simp only [decide_eq_true_eq, decide_eq_false_iff_not, Bool.not_eq_true', Bool.not_eq_false', Decidable.not_not, Int.not_lt, Int.not_le, Bool.or_eq_true, Bool.and_eq_true, Bool.or_eq_false_iff, Bool.and_eq_false_iff] at hb27
              refine C_skip (X_then (C_seq (C_block (C_seq (C_region (RL_q rfl (Yd_fld (off := 3) Try.underlying24 (by kernel_rfl) rfl) (RL_q rfl (Yd_load Try.underlying22 rfl rfl (ldB hB1 rfl)) (RL_q rfl (Yd_move rfl) (?_)))))))))
              obtain ⟨adA_cps, rfl, hghA_cps, hglA_cps⟩ := Vw.at_ (i := k) h_cps (by omega)
              refine RL_q rfl (Yd_idx Try.underlying22 (sz := 3) (by kernel_rfl) rfl rfl (by omega) (by omega)) (?_)
              obtain ⟨x1, hx1, gx1⟩ := Vw.elem (i := k) h_cps (by omega)
              replace gx1 : (-9223372036854775808 ≤ x1.quota ∧ x1.quota ≤ 9223372036854775807) ∧ (-9223372036854775808 ≤ x1.base ∧ x1.base ≤ 9223372036854775807) ∧ (-9223372036854775808 ≤ x1.pages ∧ x1.pages ≤ 9223372036854775807) := gx1
              refine RL_q rfl (Yd_loadA (cs := [.int .i64 x1.quota, .int .i64 x1.base, .int .i64 x1.pages]) Try.underlying35 rfl (by kernel_rfl) rfl (Vw.lqA h_cps hx1 rfl rfl)) (RL_l rfl (Ld_alloc (v := (.agg #[(.int .i64 0), (.int .i64 0), (.int .i64 0)])) (by kernel_rfl) ?_))
              have hg_6 := hE.size
              intro W6 he6 hz6 hB6
              replace hE := Ext.trans hE he6
              replace h_cps := h_cps.ext he6
              replace hB1 := hB1.ext he6
              replace hL5 := Ext.trans hL5 he6
              refine RL_l0 (Ld_store (by kernel_rfl) rfl rfl hB6 (Nat.le_of_ble_eq_true rfl) (by simp [cellsL, Value.cells, Value.oneCell']) ?_)
              intro W7 hu7 hz7 hB6
              have hk7 := Kp.ofb hu7
              have hs7 := hk7.size
              replace hE := Ext.kp hE hk7 (fun k hk => by first | omega | (have hk := hk; dsimp only at hk; omega))
              replace h_cps := h_cps.kp hk7 (fun k hk => by first | omega | (have hk := hk; dsimp only at hk; omega))
              replace hB1 := hB1.kp hk7 (fun hk => by first | omega | (have hk := hk; dsimp only at hk; omega))
              try replace hL5 := Ext.kp hL5 hk7 (fun k hk => by first | omega | (have hk := hk; dsimp only at hk; omega))
              refine RL_nil (X_then (C_seq (C_seq (C_region (RL_q rfl (Yd_fld (off := 0) Try.underlying35 (by kernel_rfl) rfl) (RL_q rfl (Yd_load Try.underlying3 rfl rfl (ldB hB6 rfl)) (RL_l rfl (Ld_call Try.func43 rfl (by kernel_rfl) rfl (outV ) ?_))))))))
              rintro e W8 ⟨_, rfl, rfl, rfl⟩
              refine ⟨_, rfl, ?_⟩
              refine RL_nil (X_then (?_))
              refine C_cond rfl (fun hb37 => ?_) (fun hb37 => ?_)
              · skip
                simp only [Bool.or_eq_true, decide_eq_true_eq] at hb37
                have hp : partC x1 csc = 5 := by unfold partC pend; rw [if_pos (by omega)]
                have hT := chkR_part (fr := cfr) (sum := sm) hx1 (by rw [hp]; decide)
                rw [hp] at hT
                refine C_seq (C_region (RL_q rfl (Yd_move rfl) (RL_q rfl (Yd_assign rfl) (RL_q rfl (Yd_assign rfl) (RL_nil (X_then (C_ret (X_thenR (X_blockR (X_thenR (X_thenR (X_blockR (X_thenR (X_ret2 rfl rfl rfl ?_))))))))))))))
                refine ⟨[113, 117, 111, 116, 97], _, rfl, ⟨?_, by decide⟩, ?_, hE⟩
                all_goals (first | (rw [(chk1 (by omega))]; done) | (rw [(chk1 (by omega))]; rfl) | (rw [(chk2 (by omega) (by omega))]; done) | (rw [(chk2 (by omega) (by omega))]; rfl) | (rw [(chk3 (by omega) (by omega) (by omega))]; done) | (rw [(chk3 (by omega) (by omega) (by omega))]; rfl) | (rw [(chk4 (by omega) (by omega) (by omega) (by omega))]; done) | (rw [(chk4 (by omega) (by omega) (by omega) (by omega))]; rfl) | (rw [hR, hT]; done) | (rw [hR, hT]; rfl) | (rw [hR, hT]; assumption) | (rw [hR, hT, if_pos (by omega)]; done) | (rw [hR, hT, if_pos (by omega)]; rfl) | (rw [hR, hT, if_neg (by omega)]; done) | (rw [hR, hT, if_neg (by omega)]; rfl))
              · skip
                simp only [Bool.or_eq_false_iff, decide_eq_false_iff_not] at hb37
                refine C_skip (X_then (C_seq (C_seq (C_region (RL_q rfl (Yd_fld (off := 2) Try.underlying35 (by kernel_rfl) rfl) (RL_q rfl (Yd_load Try.underlying3 rfl rfl (ldB hB6 rfl)) (RL_l rfl (Ld_call Try.func43 rfl (by kernel_rfl) rfl (outV ) ?_))))))))
                rintro e W9 ⟨_, rfl, rfl, rfl⟩
                refine ⟨_, rfl, ?_⟩
                refine RL_nil (X_then (?_))
                refine C_cond rfl (fun hb41 => ?_) (fun hb41 => ?_)
                · skip
                  simp only [Bool.or_eq_true, decide_eq_true_eq] at hb41
                  have hp : partC x1 csc = 6 := by unfold partC pend; rw [if_neg (by omega), if_pos (by omega)]
                  have hT := chkR_part (fr := cfr) (sum := sm) hx1 (by rw [hp]; decide)
                  rw [hp] at hT
                  refine C_seq (C_region (RL_q rfl (Yd_move rfl) (RL_q rfl (Yd_assign rfl) (RL_q rfl (Yd_assign rfl) (RL_nil (X_then (C_ret (X_thenR (X_blockR (X_thenR (X_thenR (X_blockR (X_thenR (X_ret2 rfl rfl rfl ?_))))))))))))))
                  refine ⟨[112, 97, 103, 101, 115], _, rfl, ⟨?_, by decide⟩, ?_, hE⟩
                  all_goals (first | (rw [(chk1 (by omega))]; done) | (rw [(chk1 (by omega))]; rfl) | (rw [(chk2 (by omega) (by omega))]; done) | (rw [(chk2 (by omega) (by omega))]; rfl) | (rw [(chk3 (by omega) (by omega) (by omega))]; done) | (rw [(chk3 (by omega) (by omega) (by omega))]; rfl) | (rw [(chk4 (by omega) (by omega) (by omega) (by omega))]; done) | (rw [(chk4 (by omega) (by omega) (by omega) (by omega))]; rfl) | (rw [hR, hT]; done) | (rw [hR, hT]; rfl) | (rw [hR, hT]; assumption) | (rw [hR, hT, if_pos (by omega)]; done) | (rw [hR, hT, if_pos (by omega)]; rfl) | (rw [hR, hT, if_neg (by omega)]; done) | (rw [hR, hT, if_neg (by omega)]; rfl))
                · skip
                  simp only [Bool.or_eq_false_iff, decide_eq_false_iff_not] at hb41
                  refine C_skip (X_then (C_seq (C_seq (C_region (RL_q rfl (Yd_fld (off := 1) Try.underlying35 (by kernel_rfl) rfl) (RL_q rfl (Yd_load Try.underlying3 rfl rfl (ldB hB6 rfl)) (RL_q rfl (Yd_fld (off := 2) Try.underlying24 (by kernel_rfl) rfl) (RL_q rfl (Yd_load Try.underlying3 rfl rfl (ldB hB1 rfl)) (RL_q rfl (Yd_fld (off := 2) Try.underlying35 (by kernel_rfl) rfl) (RL_q rfl (Yd_load Try.underlying3 rfl rfl (ldB hB6 rfl)) (RL_q rfl (Yd_mul rfl rfl (i64w (by omega) (by omega))) (RL_q rfl (Yd_sub rfl rfl (i64w (by omega) (by omega))) (RL_l rfl (Ld_call Try.func43 rfl (by kernel_rfl) rfl (outV ) ?_))))))))))))))
                  rintro e W10 ⟨_, rfl, rfl, rfl⟩
                  refine ⟨_, rfl, ?_⟩
                  refine RL_nil (X_then (?_))
                  refine C_cond rfl (fun hb51 => ?_) (fun hb51 => ?_)
                  · skip
                    simp only [Bool.or_eq_true, decide_eq_true_eq] at hb51
                    have hp : partC x1 csc = 7 := by unfold partC pend; rw [if_neg (by omega), if_neg (by omega), if_pos (by omega)]
                    have hT := chkR_part (fr := cfr) (sum := sm) hx1 (by rw [hp]; decide)
                    rw [hp] at hT
                    refine C_seq (C_region (RL_q rfl (Yd_move rfl) (RL_q rfl (Yd_assign rfl) (RL_q rfl (Yd_assign rfl) (RL_nil (X_then (C_ret (X_thenR (X_blockR (X_thenR (X_thenR (X_blockR (X_thenR (X_ret2 rfl rfl rfl ?_))))))))))))))
                    refine ⟨[98, 97, 115, 101], _, rfl, ⟨?_, by decide⟩, ?_, hE⟩
                    all_goals (first | (rw [(chk1 (by omega))]; done) | (rw [(chk1 (by omega))]; rfl) | (rw [(chk2 (by omega) (by omega))]; done) | (rw [(chk2 (by omega) (by omega))]; rfl) | (rw [(chk3 (by omega) (by omega) (by omega))]; done) | (rw [(chk3 (by omega) (by omega) (by omega))]; rfl) | (rw [(chk4 (by omega) (by omega) (by omega) (by omega))]; done) | (rw [(chk4 (by omega) (by omega) (by omega) (by omega))]; rfl) | (rw [hR, hT]; done) | (rw [hR, hT]; rfl) | (rw [hR, hT]; assumption) | (rw [hR, hT, if_pos (by omega)]; done) | (rw [hR, hT, if_pos (by omega)]; rfl) | (rw [hR, hT, if_neg (by omega)]; done) | (rw [hR, hT, if_neg (by omega)]; rfl))
                  · skip
                    simp only [Bool.or_eq_false_iff, decide_eq_false_iff_not] at hb51
                    have hpc : partC x1 csc = 0 := by unfold partC pend; rw [if_neg (by omega), if_neg (by omega), if_neg (by omega)]
                    have hpz := partC_zero hpc
                    refine C_skip (X_then (C_seq (C_seq (C_region (RL_q rfl (Yd_assign rfl) (RL_nil (X_then (C_block (?_)))))))))
                    refine C_loop (T := Nat) (fun s => [(1, .pointer (some ⟨w.heap.size, 0, none⟩)), (4, .int .i64 sm), (5, .int .i64 (k : Int)), (6, .pointer (some ⟨lw5.heap.size, 0, none⟩)), (7, .int .i64 (s : Int))]) (fun s lw10 => ((s : Int) ≤ csc) ∧ (∀ s' : Nat, s' < s → has x1 s' = true → ∀ j q, j < k → cps[j]? = some q → has q s' = false) ∧ Ext W7 lw10) (fun s => csc.toNat - s) (0) ⟨rfl, rfl, rfl, rfl, rfl, trivial⟩ ?_ ?_
                    · refine ⟨?_, ?_, Ext.refl _⟩
                      all_goals (try dsimp only)
                      all_goals (first | omega | (intro s' hs; exact absurd hs (by omega)))
                    · rintro s lw10 ⟨hi10_0, hno, hL10⟩
                      replace hE := Ext.trans hE hL10
                      replace h_cps := h_cps.ext hL10
                      replace hB1 := hB1.ext hL10
                      replace hL5 := Ext.trans hL5 hL10
                      replace hB6 := hB6.ext hL10
                      have hsL10 := hL10.size
                      refine C_seq (C_seq (C_region (RL_q rfl (Yd_move rfl) (RL_q rfl (Yd_fld (off := 2) Try.underlying24 (by kernel_rfl) rfl) (RL_q rfl (Yd_load Try.underlying3 rfl rfl (ldB hB1 rfl)) (RL_q rfl (Yd_lss rfl rfl) (RL_nil (X_then (?_)))))))))
                      refine C_cond rfl (fun hb56 => ?_) (fun hb56 => ?_)
                      · skip
                        try simp only [decide_eq_true_eq, decide_eq_false_iff_not, Bool.not_eq_true', Bool.not_eq_false', Decidable.not_not, Int.not_lt, Int.not_le, Bool.or_eq_true, Bool.and_eq_true, Bool.or_eq_false_iff, Bool.and_eq_false_iff] at hb56
                        refine C_skip (X_then (C_seq (C_block (C_seq (C_region (RL_q rfl (Yd_loadA Try.underlying35 rfl (by kernel_rfl) rfl (ldBA hB6)) (RL_q rfl (Yd_move rfl) (RL_l rfl (Ld_call Try.func22 rfl (by kernel_rfl) rfl (hasV (p := x1) ⟨by first | omega | (dsimp only; omega), by first | omega | (dsimp only; omega)⟩ (by first | omega | (dsimp only; omega))) ?_)))))))))
                        rintro e W11 ⟨xb61, rfl, hxb61, he11⟩
                        refine ⟨_, rfl, ?_⟩
                        replace hE := Ext.trans hE he11
                        replace h_cps := h_cps.ext he11
                        replace hB1 := hB1.ext he11
                        replace hL5 := Ext.trans hL5 he11
                        replace hB6 := hB6.ext he11
                        replace hL10 := Ext.trans hL10 he11
                        have hs11 := he11.size
                        refine RL_q rfl (Yd_assign rfl) (RL_nil (X_then (C_seq (C_region (RL_q rfl (Yd_assign rfl) (RL_nil (X_then (C_block (?_)))))))))
                        refine C_loop (T := Nat) (fun j => [(1, .pointer (some ⟨w.heap.size, 0, none⟩)), (4, .int .i64 sm), (5, .int .i64 (k : Int)), (6, .pointer (some ⟨lw5.heap.size, 0, none⟩)), (7, .int .i64 (s : Int)), (8, .bool xb61), (9, .int .i64 (j : Int))]) (fun j lw11 => (j ≤ k) ∧ (∀ j' q, j' < j → cps[j']? = some q → xb61 = true → has q s = false) ∧ Ext W11 lw11) (fun j => k - j) (0) ⟨rfl, rfl, rfl, rfl, rfl, rfl, rfl, trivial⟩ ?_ ?_
                        · refine ⟨?_, ?_, Ext.refl _⟩
                          all_goals (try dsimp only)
                          all_goals (first | omega | (intro j' q hj; exact absurd hj (by omega)))
                        · rintro j lw11 ⟨hi11_0, hnj, hL11⟩
                          replace hE := Ext.trans hE hL11
                          replace h_cps := h_cps.ext hL11
                          replace hB1 := hB1.ext hL11
                          replace hL5 := Ext.trans hL5 hL11
                          replace hB6 := hB6.ext hL11
                          replace hL10 := Ext.trans hL10 hL11
                          have hsL11 := hL11.size
                          refine C_seq (C_seq (C_region (RL_q rfl (Yd_move rfl) (RL_q rfl (Yd_move rfl) (RL_q rfl (Yd_lss rfl rfl) (RL_q rfl (Yd_move rfl) (?_)))))))
                          apply RL_and (dj := 65) 67 2 rfl
                          · intro hb65
                            try simp only [decide_eq_true_eq, decide_eq_false_iff_not, Bool.not_eq_true', Bool.not_eq_false', Decidable.not_not, Int.not_lt, Int.not_le, Bool.or_eq_true, Bool.and_eq_true, Bool.or_eq_false_iff, Bool.and_eq_false_iff] at hb65
                            refine QL_gq rfl rfl rfl (Yd_move rfl) (QL_q rfl (Yd_pickT rfl rfl) ((QL_nil 2 rfl rfl rfl)))
                          · intro hb65
                            try simp only [decide_eq_true_eq, decide_eq_false_iff_not, Bool.not_eq_true', Bool.not_eq_false', Decidable.not_not, Int.not_lt, Int.not_le, Bool.or_eq_true, Bool.and_eq_true, Bool.or_eq_false_iff, Bool.and_eq_false_iff] at hb65
                            refine QL_gn rfl rfl rfl rfl (QL_q rfl (Yd_pickF rfl rfl) ((QL_nil 2 rfl rfl rfl)))
                          · skip
                            refine RL_nil (X_then (?_))
                            refine C_cond rfl (fun hb67 => ?_) (fun hb67 => ?_)
                            · skip
                              try simp only [decide_eq_true_eq, decide_eq_false_iff_not, Bool.not_eq_true', Bool.not_eq_false', Decidable.not_not, Int.not_lt, Int.not_le, Bool.or_eq_true, Bool.and_eq_true, Bool.or_eq_false_iff, Bool.and_eq_false_iff] at hb67
                              refine C_skip (X_then (C_seq (C_block (C_seq (C_region (RL_q rfl (Yd_fld (off := 3) Try.underlying24 (by kernel_rfl) rfl) (RL_q rfl (Yd_load Try.underlying22 rfl rfl (ldB hB1 rfl)) (RL_q rfl (Yd_move rfl) (RL_q rfl (Yd_idx Try.underlying22 (sz := 3) (by kernel_rfl) rfl rfl (by omega) (by omega)) (?_))))))))))
                              obtain ⟨x2, hx2, gx2⟩ := Vw.elem (i := j) h_cps (by omega)
                              replace gx2 : (-9223372036854775808 ≤ x2.quota ∧ x2.quota ≤ 9223372036854775807) ∧ (-9223372036854775808 ≤ x2.base ∧ x2.base ≤ 9223372036854775807) ∧ (-9223372036854775808 ≤ x2.pages ∧ x2.pages ≤ 9223372036854775807) := gx2
                              refine RL_q rfl (Yd_loadA (cs := [.int .i64 x2.quota, .int .i64 x2.base, .int .i64 x2.pages]) Try.underlying35 rfl (by kernel_rfl) rfl (Vw.lqA h_cps hx2 rfl rfl)) (?_)
                              have hq2 := partC_zero (hgd _ _ (by omega) hx2)
                              refine RL_q rfl (Yd_move rfl) (RL_l rfl (Ld_call Try.func22 rfl (by kernel_rfl) rfl (hasV (p := x2) ⟨by first | omega | (dsimp only; omega), by first | omega | (dsimp only; omega)⟩ (by first | omega | (dsimp only; omega))) ?_))
                              rintro e W12 ⟨xb76, rfl, hxb76, he12⟩
                              refine ⟨_, rfl, ?_⟩
                              replace hE := Ext.trans hE he12
                              replace h_cps := h_cps.ext he12
                              replace hB1 := hB1.ext he12
                              replace hL5 := Ext.trans hL5 he12
                              replace hB6 := hB6.ext he12
                              replace hL10 := Ext.trans hL10 he12
                              replace hL11 := Ext.trans hL11 he12
                              have hs12 := he12.size
                              refine RL_nil (X_then (?_))
                              refine C_cond rfl (fun hb76 => ?_) (fun hb76 => ?_)
                              · skip
                                have hany := (any_ovl (l := cps) (k := k) (p := x1)).2 ⟨j, x2, by omega, hx2, (ovl_has hpc (hgd _ _ (by omega) hx2)).2 ⟨(s : Int), by omega, by omega, hxb61.symm.trans hb67.2, hxb76.symm.trans hb76⟩⟩
                                have hT := chkR_ext (fr := cfr) (sum := sm) hx1 hpc hany
                                refine C_seq (C_region (RL_q rfl (Yd_move rfl) (RL_q rfl (Yd_assign rfl) (RL_q rfl (Yd_assign rfl) (RL_nil (X_then (C_ret (X_blockR (X_thenR (X_thenR (X_blockR (X_blockR (X_thenR (X_thenR (X_blockR (X_thenR (X_blockR (X_thenR (X_thenR (X_blockR (X_thenR (X_ret2 rfl rfl rfl ?_))))))))))))))))))))))
                                refine ⟨[101, 120, 116, 101, 110, 116], _, rfl, ⟨?_, by decide⟩, ?_, hE⟩
                                all_goals (first | (rw [(chk1 (by omega))]; done) | (rw [(chk1 (by omega))]; rfl) | (rw [(chk2 (by omega) (by omega))]; done) | (rw [(chk2 (by omega) (by omega))]; rfl) | (rw [(chk3 (by omega) (by omega) (by omega))]; done) | (rw [(chk3 (by omega) (by omega) (by omega))]; rfl) | (rw [(chk4 (by omega) (by omega) (by omega) (by omega))]; done) | (rw [(chk4 (by omega) (by omega) (by omega) (by omega))]; rfl) | (rw [hR, hT]; done) | (rw [hR, hT]; rfl) | (rw [hR, hT]; assumption) | (rw [hR, hT, if_pos (by omega)]; done) | (rw [hR, hT, if_pos (by omega)]; rfl) | (rw [hR, hT, if_neg (by omega)]; done) | (rw [hR, hT, if_neg (by omega)]; rfl))
                              · skip
                                refine C_skip (X_block (X_then (C_region (RL_q rfl (Yd_move rfl) (RL_q rfl (Yd_add rfl rfl (i64w (by omega) (by omega))) (RL_q rfl (Yd_assign rfl) (RL_nil (?_))))))))
                                refine X_again (j + 1) ⟨rfl, rfl, rfl, rfl, rfl, rfl, rfl, trivial⟩ ?_ (by show k - (j + 1) < k - j; omega)
                                refine ⟨?_, ?_, hL11⟩
                                all_goals (try dsimp only)
                                all_goals (first | omega | exact hnj_next hnj hx2 (hxb76.symm.trans hb76))
                            · skip
                              try simp only [decide_eq_true_eq, decide_eq_false_iff_not, Bool.not_eq_true', Bool.not_eq_false', Decidable.not_not, Int.not_lt, Int.not_le, Bool.or_eq_true, Bool.and_eq_true, Bool.or_eq_false_iff, Bool.and_eq_false_iff] at hb67
                              refine C_exit (X_thenE (X_thenE (X_blockE (X_block (X_then (C_region (RL_q rfl (Yd_move rfl) (RL_q rfl (Yd_add rfl rfl (i64w (by omega) (by omega))) (RL_q rfl (Yd_assign rfl) (RL_nil (?_)))))))))))
                              have hno2 := hno_next hno (fun hs j' q hj hq => hnj j' q (by have h' := hxb61.trans hs; simp [h'] at hb67; omega) hq (hxb61.trans hs))
                              refine X_again (s + 1) ⟨rfl, rfl, rfl, rfl, rfl, trivial⟩ ?_ (by show csc.toNat - (s + 1) < csc.toNat - s; omega)
                              refine ⟨?_, ?_, hL10⟩
                              all_goals (try dsimp only)
                              all_goals (first | omega | exact hno2)
                      · skip
                        try simp only [decide_eq_true_eq, decide_eq_false_iff_not, Bool.not_eq_true', Bool.not_eq_false', Decidable.not_not, Int.not_lt, Int.not_le, Bool.or_eq_true, Bool.and_eq_true, Bool.or_eq_false_iff, Bool.and_eq_false_iff] at hb56
                        have hany := no_any (sc := csc) hpc hgd (fun s' h1 h2 => hno s' (by omega))
                        have hT := chkR_next (fr := cfr) (sum := sm) hx1 hpc hany
                        refine C_exit (X_thenE (X_thenE (X_blockE (X_then (C_region (RL_q rfl (Yd_move rfl) (RL_q rfl (Yd_fld (off := 0) Try.underlying35 (by kernel_rfl) rfl) (RL_q rfl (Yd_load Try.underlying3 rfl rfl (ldB hB6 rfl)) (RL_q rfl (Yd_add rfl rfl (i64w (by omega) (by omega))) (RL_q rfl (Yd_assign rfl) (RL_nil (X_block (X_then (C_region (RL_q rfl (Yd_move rfl) (RL_q rfl (Yd_add rfl rfl (i64w (by omega) (by omega))) (RL_q rfl (Yd_assign rfl) (RL_nil (?_)))))))))))))))))))
                        refine X_again (⟨k + 1, (sm + x1.quota)⟩) ⟨rfl, rfl, rfl, trivial⟩ ?_ (by show n_cps - (k + 1) < n_cps - k; omega)
                        refine ⟨?_, ?_, ?_, ?_, hL5⟩
                        all_goals (try dsimp only)
                        all_goals (first | omega | exact hR.trans hT | exact gd_next hgd hx1 hpc)
            · skip
              try simp only [decide_eq_true_eq, decide_eq_false_iff_not, Bool.not_eq_true', Bool.not_eq_false', Decidable.not_not, Int.not_lt, Int.not_le, Bool.or_eq_true, Bool.and_eq_true, Bool.or_eq_false_iff, Bool.and_eq_false_iff] at hb27
              have hT := chkR_end (fr := cfr) (sc := csc) (sum := sm) (ps := cps) (k := k) (by omega)
              refine C_exit (X_thenE (X_thenE (X_blockE (X_then (C_seq (C_seq (C_region (RL_q rfl (Yd_move rfl) (RL_q rfl (Yd_fld (off := 0) Try.underlying24 (by kernel_rfl) rfl) (RL_q rfl (Yd_load Try.underlying3 rfl rfl (ldB hB1 rfl)) (RL_q rfl (Yd_neq rfl rfl) (RL_nil (X_then (?_))))))))))))))
              refine C_cond rfl (fun hb85 => ?_) (fun hb85 => ?_)
              · skip
                try simp only [decide_eq_true_eq, decide_eq_false_iff_not, Bool.not_eq_true', Bool.not_eq_false', Decidable.not_not, Int.not_lt, Int.not_le, Bool.or_eq_true, Bool.and_eq_true, Bool.or_eq_false_iff, Bool.and_eq_false_iff] at hb85
                refine C_seq (C_region (RL_q rfl (Yd_assign rfl) (RL_q rfl (Yd_assign rfl) (RL_nil (X_then (C_ret (X_thenR (X_ret2 rfl rfl rfl ?_))))))))
                refine ⟨[115, 117, 109], _, rfl, ⟨?_, by decide⟩, ?_, hE⟩
                all_goals (first | (rw [(chk1 (by omega))]; done) | (rw [(chk1 (by omega))]; rfl) | (rw [(chk2 (by omega) (by omega))]; done) | (rw [(chk2 (by omega) (by omega))]; rfl) | (rw [(chk3 (by omega) (by omega) (by omega))]; done) | (rw [(chk3 (by omega) (by omega) (by omega))]; rfl) | (rw [(chk4 (by omega) (by omega) (by omega) (by omega))]; done) | (rw [(chk4 (by omega) (by omega) (by omega) (by omega))]; rfl) | (rw [hR, hT]; done) | (rw [hR, hT]; rfl) | (rw [hR, hT]; assumption) | (rw [hR, hT, if_pos (by omega)]; done) | (rw [hR, hT, if_pos (by omega)]; rfl) | (rw [hR, hT, if_neg (by omega)]; done) | (rw [hR, hT, if_neg (by omega)]; rfl))
              · skip
                try simp only [decide_eq_true_eq, decide_eq_false_iff_not, Bool.not_eq_true', Bool.not_eq_false', Decidable.not_not, Int.not_lt, Int.not_le, Bool.or_eq_true, Bool.and_eq_true, Bool.or_eq_false_iff, Bool.and_eq_false_iff] at hb85
                refine C_skip (X_then (C_seq (C_region (RL_q rfl (Yd_assign rfl) (RL_q rfl (Yd_assign rfl) (RL_nil (X_then (C_ret (X_ret2 rfl rfl rfl ?_)))))))))
                refine ⟨[], _, rfl, ⟨?_, by decide⟩, ?_, hE⟩
                all_goals (first | (rw [(chk1 (by omega))]; done) | (rw [(chk1 (by omega))]; rfl) | (rw [(chk2 (by omega) (by omega))]; done) | (rw [(chk2 (by omega) (by omega))]; rfl) | (rw [(chk3 (by omega) (by omega) (by omega))]; done) | (rw [(chk3 (by omega) (by omega) (by omega))]; rfl) | (rw [(chk4 (by omega) (by omega) (by omega) (by omega))]; done) | (rw [(chk4 (by omega) (by omega) (by omega) (by omega))]; rfl) | (rw [hR, hT]; done) | (rw [hR, hT]; rfl) | (rw [hR, hT]; assumption) | (rw [hR, hT, if_pos (by omega)]; done) | (rw [hR, hT, if_pos (by omega)]; rfl) | (rw [hR, hT, if_neg (by omega)]; done) | (rw [hR, hT, if_neg (by omega)]; rfl))
theorem MayV {cfr cdp csc : Int} {lo_cps B_cps : Nat} {A_cps : Option Addr} {n_cps c_cps : Nat} {cps : List Pt} {w : World}  (h_cps : Vw tP w lo_cps B_cps A_cps n_cps c_cps cps) (b_c : -9223372036854775808 ≤ cfr ∧ cfr ≤ 9223372036854775807 ∧ -9223372036854775808 ≤ cdp ∧ cdp ≤ 9223372036854775807 ∧ -9223372036854775808 ≤ csc ∧ csc ≤ 9223372036854775807) :
    Calls Try.prog 20 #[.agg #[.int .i64 cfr, .int .i64 cdp, .int .i64 csc, .slice A_cps n_cps c_cps]] w fun e w' => ∃ (x0 : Bool), e = .returned (.bool x0) ∧ x0 = (decide ((chk cfr cdp csc cps).1 = 0)) ∧ Ext w w' := by
  have hE := Ext.refl w
  replace h_cps := h_cps.fit
  have hn_cps := h_cps.ln
  have hc_cps := h_cps.cap
  have hm_cps := h_cps.max
  simp only [maxLen] at hm_cps
  refine calls_of (l := [.agg #[.int .i64 cfr, .int .i64 cdp, .int .i64 csc, .slice A_cps n_cps c_cps]]) (N := 12) Try.func20 rfl rfl rfl ?_
  refine C_seq (C_region (RL_l rfl (Ld_box rfl ?_)))
  have hg_1 := hE.size
  intro W1 he1 hz1 hB1
  replace hE := Ext.trans hE he1
  replace h_cps := h_cps.ext he1
  refine RL_q rfl (Yd_assign rfl) (RL_nil (X_then (C_seq (C_region (RL_q rfl (Yd_loadA Try.underlying24 rfl (by kernel_rfl) rfl (ldBA hB1)) (RL_l rfl (Ld_call Try.func18 rfl (by kernel_rfl) rfl (CheckV h_cps ⟨by omega, by omega, by omega, by omega, by omega, by omega⟩) ?_)))))))
  rintro e W2 ⟨z7_0, y7_1, rfl, ⟨hz7_0, hby7_0⟩, hy7_1, he2⟩
  refine ⟨_, rfl, ?_⟩
  replace hE := Ext.trans hE he2
  replace h_cps := h_cps.ext he2
  replace hB1 := hB1.ext he2
  have hs2 := he2.size
  refine RL_q rfl (Yd_move rfl) (RL_q rfl (Yd_extract rfl rfl) (RL_q rfl (Yd_extract rfl rfl) (RL_q rfl (Yd_assign rfl) (RL_q rfl (Yd_assign rfl) (RL_nil (X_then (C_seq (C_region (RL_q rfl (Yd_move rfl) (RL_q rfl (Yd_eqlSB (b := []) rfl rfl hby7_0 (by decide)) (RL_q rfl (Yd_assign rfl) (RL_nil (X_then (C_ret (X_ret1 rfl rfl ?_)))))))))))))))
  refine ⟨_, rfl, ?_, hE⟩
  all_goals (rw [hz7_0]; simp [cS_nil (chk_le _ _ _ _)])
theorem refMayV {cfr cdp csc : Int} {lo_cps B_cps : Nat} {A_cps : Option Addr} {n_cps c_cps : Nat} {cps : List Pt} {w : World}  (h_cps : Vw tP w lo_cps B_cps A_cps n_cps c_cps cps) (b_c : -9223372036854775808 ≤ cfr ∧ cfr ≤ 9223372036854775807 ∧ -9223372036854775808 ≤ cdp ∧ cdp ≤ 9223372036854775807 ∧ -9223372036854775808 ≤ csc ∧ csc ≤ 9223372036854775807) :
    Calls Try.prog 47 #[.agg #[.int .i64 cfr, .int .i64 cdp, .int .i64 csc, .slice A_cps n_cps c_cps]] w fun e w' => ∃ (x0 : Bool), e = .returned (.bool x0) ∧ x0 = (decide ((chk cfr cdp csc cps).1 = 0)) ∧ Ext w w' := by
  have hE := Ext.refl w
  replace h_cps := h_cps.fit
  have hn_cps := h_cps.ln
  have hc_cps := h_cps.cap
  have hm_cps := h_cps.max
  simp only [maxLen] at hm_cps
  refine calls_of (l := [.agg #[.int .i64 cfr, .int .i64 cdp, .int .i64 csc, .slice A_cps n_cps c_cps]]) (N := 12) Try.func47 rfl rfl rfl ?_
  refine C_seq (C_region (RL_l rfl (Ld_box rfl ?_)))
  have hg_1 := hE.size
  intro W1 he1 hz1 hB1
  replace hE := Ext.trans hE he1
  replace h_cps := h_cps.ext he1
  refine RL_q rfl (Yd_assign rfl) (RL_nil (X_then (C_seq (C_region (RL_q rfl (Yd_loadA Try.underlying24 rfl (by kernel_rfl) rfl (ldBA hB1)) (RL_l rfl (Ld_call Try.func19 rfl (by kernel_rfl) rfl (refCheckV h_cps ⟨by omega, by omega, by omega, by omega, by omega, by omega⟩) ?_)))))))
  rintro e W2 ⟨z7_0, y7_1, rfl, ⟨hz7_0, hby7_0⟩, hy7_1, he2⟩
  refine ⟨_, rfl, ?_⟩
  replace hE := Ext.trans hE he2
  replace h_cps := h_cps.ext he2
  replace hB1 := hB1.ext he2
  have hs2 := he2.size
  refine RL_q rfl (Yd_move rfl) (RL_q rfl (Yd_extract rfl rfl) (RL_q rfl (Yd_extract rfl rfl) (RL_q rfl (Yd_assign rfl) (RL_q rfl (Yd_assign rfl) (RL_nil (X_then (C_seq (C_region (RL_q rfl (Yd_move rfl) (RL_q rfl (Yd_eqlSB (b := []) rfl rfl hby7_0 (by decide)) (RL_q rfl (Yd_assign rfl) (RL_nil (X_then (C_ret (X_ret1 rfl rfl ?_)))))))))))))))
  refine ⟨_, rfl, ?_, hE⟩
  all_goals (rw [hz7_0]; simp [cS_nil (chk_le _ _ _ _)])
end Go.Proofs.AL
