import Derived.Test.YtfckeecfppmepaaBase
import Derived.OpenShut
import Derived.WideShapes
set_option linter.unusedVariables false
/-! What is told of an argument that came in, by its type; generic over the program. -/
namespace Go.Proofs.AL
open Go.WideShapes
/-- the cells of a value that was read as type t: numbers fit, slices lead to rows -/
def Is (P : Program) (w : World) : Nat → TypeId → List Value → Prop
  | 0, _, _ => False
  | d + 1, t, cs => match P.underlying t with
    | some (.int k) => ∃ n, cs = [.int k n] ∧ (Lit.int k n).wf = true
    | some .bool => ∃ b, cs = [.bool b]
    | some .string => ∃ s : ByteArray, cs = [.string s] ∧ s.size ≤ maxLen
    | some (.slice e) => ∃ A n c, cs = [.slice A n c] ∧ n ≤ c ∧ c ≤ maxLen ∧ (A = none → c = 0) ∧ ∃ rows : List (List Value), rows.length = n ∧ (0 < P.cellsOf e → Rd w w.heap.size (P.cellsOf e) A n rows.flatten) ∧ ∀ r ∈ rows, r.length = P.cellsOf e ∧ Is P w d e r
    | some (.array n e) => cs.length = P.cellsOf t ∧ ∀ i, i < n → Is P w d e ((cs.drop (i * P.cellsOf e)).take (P.cellsOf e))
    | some (.struct fs) => cs.length = P.cellsOf t ∧ ∀ (i : Nat) (f : Field), fs[i]? = some f → Is P w d f.type ((cs.drop f.offset).take (P.cellsOf f.type))
    | _ => True
section
variable {P : Program} {w : World} {d : Nat} {t : TypeId} {cs : List Value}
theorem Is.int {k : IntKind} (ht : P.underlying t = some (.int k)) (h : Is P w d t cs) : ∃ n, cs = [.int k n] ∧ (Lit.int k n).wf = true := by
  cases d with
  | zero => exact h.elim
  | succ d => simpa only [Is, ht] using h
theorem Is.bool (ht : P.underlying t = some .bool) (h : Is P w d t cs) : ∃ b, cs = [.bool b] := by
  cases d with
  | zero => exact h.elim
  | succ d => simpa only [Is, ht] using h
theorem Is.str (ht : P.underlying t = some .string) (h : Is P w d t cs) : ∃ s : ByteArray, cs = [.string s] ∧ s.size ≤ maxLen := by
  cases d with
  | zero => exact h.elim
  | succ d => simpa only [Is, ht] using h
theorem Is.slice {e : TypeId} (ht : P.underlying t = some (.slice e)) (h : Is P w d t cs) : ∃ d' A n c, cs = [.slice A n c] ∧ n ≤ c ∧ c ≤ maxLen ∧ (A = none → c = 0) ∧ ∃ rows : List (List Value), rows.length = n ∧ (0 < P.cellsOf e → Rd w w.heap.size (P.cellsOf e) A n rows.flatten) ∧ ∀ r ∈ rows, r.length = P.cellsOf e ∧ Is P w d' e r := by
  cases d with
  | zero => exact h.elim
  | succ d => exact ⟨d, by simpa only [Is, ht] using h⟩
theorem Is.array {n : Nat} {e : TypeId} (ht : P.underlying t = some (.array n e)) (h : Is P w d t cs) : ∃ d', cs.length = P.cellsOf t ∧ ∀ i, i < n → Is P w d' e ((cs.drop (i * P.cellsOf e)).take (P.cellsOf e)) := by
  cases d with
  | zero => exact h.elim
  | succ d => exact ⟨d, by simpa only [Is, ht] using h⟩
theorem Is.struct {fs : Array Field} (ht : P.underlying t = some (.struct fs)) (h : Is P w d t cs) : ∃ d', cs.length = P.cellsOf t ∧ ∀ (i : Nat) (f : Field), fs[i]? = some f → Is P w d' f.type ((cs.drop f.offset).take (P.cellsOf f.type)) := by
  cases d with
  | zero => exact h.elim
  | succ d => exact ⟨d, by simpa only [Is, ht] using h⟩
theorem flat_get {sz : Nat} : ∀ (rows : List (List Value)), (∀ r ∈ rows, r.length = sz) → ∀ i (hi : i < rows.length) j, j < sz → rows.flatten[i * sz + j]? = (rows[i])[j]? := by
  intro rows
  induction rows with
  | nil => intro _ i hi; simp at hi
  | cons r rows ih =>
    intro h i hi j hj
    have hr : r.length = sz := h r (by simp)
    cases i with
    | zero =>
      rw [List.flatten_cons, List.getElem?_append_left (by omega)]
      simp
    | succ i =>
      rw [List.flatten_cons, List.getElem?_append_right (by rw [Nat.add_mul]; omega), show (i + 1) * sz + j - r.length = i * sz + j from by rw [Nat.add_mul]; omega, ih (fun r hr => h r (by simp [hr])) i (by simpa using hi) j hj]
      simp
theorem flat_len {sz : Nat} : ∀ (rows : List (List Value)), (∀ r ∈ rows, r.length = sz) → rows.flatten.length = rows.length * sz := by
  intro rows
  induction rows with
  | nil => intro _; simp
  | cons r rows ih =>
    intro h
    rw [List.flatten_cons, List.length_append, ih (fun r hr => h r (by simp [hr])), h r (by simp), List.length_cons, Nat.add_mul]; omega
/-- a slice of numbers -/
theorem Is.ints {e : TypeId} {k : IntKind} (ht : P.underlying t = some (.slice e)) (he : P.underlying e = some (.int k)) (hc : P.cellsOf e = 1) (h : Is P w d t cs) :
    ∃ A n c l, cs = [.slice A n c] ∧ Rd w w.heap.size 1 A n (Go.Proofs.AL.ints k l) ∧ l.length = n ∧ n ≤ c ∧ c ≤ maxLen ∧ (A = none → c = 0) ∧ ∀ x ∈ l, (Lit.int k x).wf = true := by
  obtain ⟨d', A, n, c, h1, h2, h3, h4, rows, h5, h6, h7⟩ := h.slice ht
  rw [hc] at h6
  have key : ∀ rows : List (List Value), (∀ r ∈ rows, r.length = P.cellsOf e ∧ Is P w d' e r) → ∃ l, rows.flatten = Go.Proofs.AL.ints k l ∧ l.length = rows.length ∧ ∀ x ∈ l, (Lit.int k x).wf = true := by
    intro rows
    induction rows with
    | nil => intro _; exact ⟨[], rfl, rfl, fun x hx => by cases hx⟩
    | cons r rows ih =>
      intro h
      obtain ⟨l, e1, e2, e3⟩ := ih (fun r hr => h r (by simp [hr]))
      obtain ⟨n, rfl, hn⟩ := (h r (by simp)).2.int he
      refine ⟨n :: l, by rw [List.flatten_cons, e1]; rfl, by simp [e2], fun x hx => ?_⟩
      rcases List.mem_cons.1 hx with rfl | hx
      · exact hn
      · exact e3 x hx
  obtain ⟨l, e1, e2, e3⟩ := key rows h7
  exact ⟨A, n, c, l, h1, e1 ▸ h6 (by omega), e2.trans h5, h2, h3, h4, e3⟩
/-- slices, one behind the other: where, how many, room, what -/
abbrev Sl := Option Addr × Nat × Nat × List Int
def slc (S : List Sl) : List Value := S.map fun x => .slice x.1 x.2.1 x.2.2.1
theorem slc_get (S : List Sl) (i : Nat) (h : i < S.length) : (slc S)[i]? = some (.slice S[i].1 S[i].2.1 S[i].2.2.1) := by simp [slc, List.getElem?_eq_getElem h]
def SlOk (w : World) (k : IntKind) (x : Sl) : Prop := Rd w w.heap.size 1 x.1 x.2.1 (Go.Proofs.AL.ints k x.2.2.2) ∧ x.2.2.2.length = x.2.1 ∧ x.2.1 ≤ x.2.2.1 ∧ x.2.2.1 ≤ maxLen ∧ (x.1 = none → x.2.2.1 = 0) ∧ ∀ y ∈ x.2.2.2, (Lit.int k y).wf = true
theorem slices_of {e q : TypeId} {k : IntKind} (he : P.underlying e = some (.slice q)) (hq : P.underlying q = some (.int k)) (hc : P.cellsOf q = 1) : ∀ (rows : List (List Value)), (∀ r ∈ rows, r.length = 1 ∧ Is P w d e r) → ∃ S, rows.flatten = slc S ∧ S.length = rows.length ∧ ∀ x ∈ S, SlOk w k x := by
  intro rows
  induction rows with
  | nil => intro _; exact ⟨[], rfl, rfl, fun x hx => by cases hx⟩
  | cons r rows ih =>
    intro h
    obtain ⟨S, e1, e2, e3⟩ := ih (fun r hr => h r (by simp [hr]))
    obtain ⟨A, n, c, l, rfl, h1⟩ := (h r (by simp)).2.ints he hq hc
    refine ⟨(A, n, c, l) :: S, by rw [List.flatten_cons, e1]; rfl, by simp [e2], fun x hx => ?_⟩
    rcases List.mem_cons.1 hx with rfl | hx
    · exact h1
    · exact e3 x hx
theorem is_of_trod {H : Type} {enc : TypeId × Value → H} : ∀ (fuel : Nat) (t : TypeId) (cs : List Value) (x : DataW H × List MemPlace), DataW.trod enc P w 0 (fun _ => true) true fuel t cs = some x → Is P w fuel t cs := by
  intro fuel
  induction fuel with
  | zero => intro t cs x h; simp [DataW.trod] at h
  | succ d ih =>
    intro t cs x h
    have h0 := h
    unfold Is
    split
    · rename_i k ht
      obtain ⟨n, h1, _, h2⟩ := DataW.trod_int ht h
      exact ⟨n, h1, h2⟩
    · rename_i ht
      obtain ⟨b, h1, _⟩ := DataW.trod_bool ht h
      exact ⟨b, h1⟩
    · rename_i ht
      obtain ⟨s, h1, _, h2⟩ := DataW.trod_string ht h
      exact ⟨s, h1, h2⟩
    · rename_i e ht
      rcases DataW.trod_slice ht h with ⟨h1, _⟩ | ⟨a, len, cap, elems, rest, n, hf, h1, _, _, hl, hm, hlen, hel, _⟩
      · exact ⟨none, 0, 0, h1, Nat.le_refl _, Nat.zero_le _, fun _ => rfl, [], rfl, fun _ => Rd.none _ _ _, fun r hr => by cases hr⟩
      · obtain rfl : d = n := by omega
        have each : ∀ i, i < len → ∃ cs', w.cells? 0 (a.add (i * P.cellsOf e)) (P.cellsOf e) = some cs' ∧ Is P w d e cs' := by
          intro i hi
          have h2 := hel i hi
          rw [List.getElem?_eq_getElem (by omega)] at h2
          obtain ⟨cs', h3, h4⟩ := Option.bind_eq_some_iff.1 h2
          exact ⟨cs', h3, ih _ _ _ h4⟩
        have each2 : ∃ rows : List (List Value), rows.length = len ∧ ∀ i (hi : i < rows.length), w.cells? 0 (a.add (i * P.cellsOf e)) (P.cellsOf e) = some rows[i] ∧ Is P w d e rows[i] := by
          have : ∀ m, m ≤ len → ∃ rows : List (List Value), rows.length = m ∧ ∀ i (hi : i < rows.length), w.cells? 0 (a.add (i * P.cellsOf e)) (P.cellsOf e) = some rows[i] ∧ Is P w d e rows[i] := by
            intro m
            induction m with
            | zero => intro _; exact ⟨[], rfl, fun i hi => by simp at hi⟩
            | succ m ihm =>
              intro hm
              obtain ⟨rows, r1, r2⟩ := ihm (by omega)
              obtain ⟨cs', c1, c2⟩ := each m (by omega)
              refine ⟨rows ++ [cs'], by simp [r1], fun i hi => ?_⟩
              rcases Nat.lt_or_ge i rows.length with h | h
              · rw [List.getElem_append_left h]; exact r2 i h
              · have : i = m := by simp at hi; omega
                subst this
                rw [List.getElem_append_right h]
                simp [r1, c1, c2]
          exact this len (Nat.le_refl _)
        obtain ⟨rows, r1, r2⟩ := each2
        have rl : ∀ r ∈ rows, r.length = P.cellsOf e := fun r hr => by
          obtain ⟨i, hi, rfl⟩ := List.mem_iff_getElem.1 hr
          exact (World.cells?_some (r2 i hi).1).2.1
        refine ⟨some a, len, cap, h1, hl, hm, (fun h => by cases h), rows, r1, fun hpos => ⟨by rw [flat_len rows rl, r1], fun hn => ⟨a, rfl, ?_, ?_⟩⟩, fun r hr => ⟨rl r hr, ?_⟩⟩
        · have h3 := (World.cells?_some (r2 0 (by omega)).1).2.2 0 hpos
          rw [List.getElem?_eq_getElem (by rw [rl _ (List.getElem_mem _)]; exact hpos)] at h3
          have := World.block_lt_of_cell? w _ h3
          rwa [add_block, add_block] at this
        · intro j u hu
          have hj : j < rows.flatten.length := by
            rcases Nat.lt_or_ge j rows.flatten.length with h | h
            · exact h
            · rw [List.getElem?_eq_none h] at hu; cases hu
          rw [flat_len rows rl] at hj
          have hdm : j = j / P.cellsOf e * P.cellsOf e + j % P.cellsOf e := by rw [Nat.mul_comm]; exact (Nat.div_add_mod _ _).symm
          have hi : j / P.cellsOf e < rows.length := Nat.div_lt_of_lt_mul (by rw [Nat.mul_comm]; exact hj)
          have hmd := Nat.mod_lt j hpos
          rw [hdm, flat_get rows rl _ hi _ hmd] at hu
          rw [hdm, ← add_add, (World.cells?_some (r2 _ hi).1).2.2 _ hmd]
          exact hu
        · obtain ⟨i, hi, rfl⟩ := List.mem_iff_getElem.1 hr
          exact (r2 i hi).2
    · rename_i n e ht
      obtain ⟨xs, m, hf, _, hl, hxl, hx⟩ := DataW.trod_array ht h
      obtain rfl : d = m := by omega
      refine ⟨hl, fun i hi => ?_⟩
      have h2 := hx i hi
      rw [List.getElem?_eq_getElem (by omega)] at h2
      exact ih _ _ _ h2
    · rename_i fs ht
      obtain ⟨xs, m, hf, _, hl, hxl, hx⟩ := DataW.trod_struct ht h
      obtain rfl : d = m := by omega
      refine ⟨hl, fun i f hi => ?_⟩
      have h2 := hx i f hi
      have : i < fs.size := (Array.getElem?_eq_some_iff.1 hi).1
      rw [List.getElem?_eq_getElem (by omega)] at h2
      exact ih _ _ _ h2
    · trivial
theorem okWide_array {n : Nat} {e : TypeId} {r : Reach} {base : Nat} {v : Value} (ht : P.underlying t = some (.array n e)) (h : Value.okWide P w r base t v) : ∃ cs, v = .agg cs ∧ cs.size = P.cellsOf t := by
  simp only [Value.okWide, ht] at h
  obtain ⟨cs, h1, h2, _⟩ := h
  exact ⟨cs, h1, h2⟩
end
end Go.Proofs.AL
