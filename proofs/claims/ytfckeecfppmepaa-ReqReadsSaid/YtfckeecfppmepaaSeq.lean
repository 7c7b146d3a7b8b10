/- Lists behind slices, for whatever type of elements: 'Ty' (how an element lies in cells), 'Vw' (a slice that reads as a list), 'Ow' (such a slice of the call's own). -/
import Derived.Test.YtfckeecfppmepaaLay
import Derived.LoopN
import Derived.Laws.StructEq
import Derived.Scope
set_option linter.unusedVariables false
set_option linter.unusedSimpArgs false
namespace Go.Proofs.AL
open Go.RowKit
structure Ty (α : Type) where
  sz : Nat
  enc : α → List Value
  ok : α → Prop
  len : ∀ a, (enc a).length = sz
  one : ∀ a, ∀ v ∈ enc a, v.oneCell' = true
  pos : 0 < sz
namespace Ty
variable {α : Type} (T : Ty α)
def cells (l : List α) : List Value := l.flatMap T.enc
theorem cells_len (l : List α) : (T.cells l).length = l.length * T.sz := by
  induction l with
  | nil => simp [cells]
  | cons a l ih =>
    have : T.cells (a :: l) = T.enc a ++ T.cells l := rfl
    rw [this, List.length_append, ih, T.len, List.length_cons, Nat.add_mul]; omega
theorem cells_append (a b : List α) : T.cells (a ++ b) = T.cells a ++ T.cells b := by simp [cells]
theorem cells_nil : T.cells [] = [] := rfl
theorem cells_one (a : α) : T.cells [a] = T.enc a := by simp [cells]
theorem cells_cons (a : α) (l : List α) : T.cells (a :: l) = T.enc a ++ T.cells l := rfl
theorem cells_drop (l : List α) (k : Nat) (h : k ≤ l.length) : (T.cells l).drop (k * T.sz) = T.cells (l.drop k) := by
  have e : l = l.take k ++ l.drop k := (List.take_append_drop k l).symm
  conv => lhs; rw [e, T.cells_append]
  have h2 : (T.cells (l.take k)).length = k * T.sz := by rw [T.cells_len, List.length_take, Nat.min_eq_left h]
  rw [List.drop_append, ← h2, List.drop_length, Nat.sub_self, List.drop_zero, List.nil_append]
theorem cells_take (l : List α) (k : Nat) (h : k ≤ l.length) : (T.cells l).take (k * T.sz) = T.cells (l.take k) := by
  have e : l = l.take k ++ l.drop k := (List.take_append_drop k l).symm
  conv => lhs; rw [e, T.cells_append]
  have h2 : (T.cells (l.take k)).length = k * T.sz := by rw [T.cells_len, List.length_take, Nat.min_eq_left h]
  rw [List.take_append, ← h2, List.take_length, Nat.sub_self, List.take_zero, List.append_nil]
theorem cells_at (l : List α) (i : Nat) (h : i < l.length) : T.cells l = T.cells (l.take i) ++ T.enc l[i] ++ T.cells (l.drop (i + 1)) := by
  have e : l = l.take i ++ (l[i] :: l.drop (i + 1)) := by rw [← List.drop_eq_getElem_cons h, List.take_append_drop]
  conv => lhs; rw [e, T.cells_append, T.cells_cons]
  rw [List.append_assoc]
theorem take_len (l : List α) (i : Nat) (h : i ≤ l.length) : (T.cells (l.take i)).length = i * T.sz := by rw [T.cells_len, List.length_take, Nat.min_eq_left h]
theorem cells_get (l : List α) (i j : Nat) (h : i < l.length) (hj : j < T.sz) : (T.cells l)[i * T.sz + j]? = (T.enc l[i])[j]? := by
  rw [T.cells_at l i h]
  have h1 := T.take_len l i (by omega)
  rw [List.append_assoc, List.getElem?_append_right (by omega), h1, Nat.add_sub_cancel_left, List.getElem?_append_left (by rw [T.len]; exact hj)]
theorem cells_one' (l : List α) : ∀ v ∈ T.cells l, v.oneCell' = true := fun v hv => by
  simp only [cells, List.mem_flatMap] at hv
  obtain ⟨a, _, h⟩ := hv
  exact T.one a v h
/-- one element is another one -/
theorem cells_set (l : List α) (i : Nat) (a : α) (h : i < l.length) (o : Nat) (ho : o = i * T.sz) (ys : List Value) : (T.cells l ++ ys).take o ++ T.enc a ++ (T.cells l ++ ys).drop (o + (T.enc a).length) = T.cells (l.set i a) ++ ys := by
  subst ho
  have h1 := T.take_len l i (by omega)
  have h0 := T.cells_len l
  have hle : (i + 1) * T.sz ≤ l.length * T.sz := Nat.mul_le_mul_right _ (by omega)
  have hs : (i + 1) * T.sz = i * T.sz + T.sz := by rw [Nat.add_mul, Nat.one_mul]
  rw [T.len, ← hs, List.take_append_of_le_length (by omega), List.drop_append_of_le_length (by omega), T.cells_take _ _ (by omega), T.cells_drop _ _ (by omega), List.set_eq_take_append_cons_drop, if_pos h, T.cells_append, T.cells_cons]
  simp
/-- one cell of one element is another one -/
theorem cells_setf (l : List α) (i j : Nat) (a : α) (v : Value) (h : i < l.length) (hj : j < T.sz) (o : Nat) (ho : o = i * T.sz + j) (he : (T.enc l[i]).set j v = T.enc a) (ys : List Value) (hv : cellsL v = [v]) : (T.cells l ++ ys).take o ++ cellsL v ++ (T.cells l ++ ys).drop (o + (cellsL v).length) = T.cells (l.set i a) ++ ys := by
  rw [hv]
  have hlen : o < (T.cells l ++ ys).length := by
    have h0 := T.cells_len l
    have hle : (i + 1) * T.sz ≤ l.length * T.sz := Nat.mul_le_mul_right _ (by omega)
    have hs : (i + 1) * T.sz = i * T.sz + T.sz := by rw [Nat.add_mul, Nat.one_mul]
    rw [List.length_append]; omega
  have e : (T.cells l ++ ys).take o ++ [v] ++ (T.cells l ++ ys).drop (o + [v].length) = (T.cells l ++ ys).set o v := by
    rw [List.set_eq_take_append_cons_drop, if_pos hlen]; simp
  rw [e, T.cells_at (l.set i a) i (by simpa using h)]
  subst ho
  conv => lhs; rw [T.cells_at l i h]
  have h1 := T.take_len l i (by omega)
  have h2 : (T.enc l[i]).length = T.sz := T.len _
  simp only [List.append_assoc]
  rw [List.set_append_right _ _ (by omega), h1, Nat.add_sub_cancel_left, List.set_append_left _ _ (by omega), he]
  simp [List.take_set_of_le, List.drop_set_of_lt]
end Ty
/-- numbers of a kind -/
def tInt (k : IntKind) (P : Int → Prop) : Ty Int := ⟨1, fun x => [.int k x], P, fun _ => rfl, fun _ v hv => by simp at hv; subst hv; rfl, by decide⟩
def tBool : Ty Bool := ⟨1, fun x => [.bool x], fun _ => True, fun _ => rfl, fun _ v hv => by simp at hv; subst hv; rfl, by decide⟩
abbrev tU8 : Ty Int := tInt .u8 (fun x => 0 ≤ x ∧ x ≤ 255)
abbrev tI64 : Ty Int := tInt .i64 (fun x => -9223372036854775808 ≤ x ∧ x ≤ 9223372036854775807)
theorem cells_ints (k : IntKind) (P : Int → Prop) (l : List Int) : (tInt k P).cells l = ints k l := by
  induction l with
  | nil => rfl
  | cons a l ih => rw [Ty.cells_cons, ih]; rfl
theorem okc {α : Type} {p : α → Prop} {a : α} {l : List α} (h : p a) (k : ∀ x ∈ l, p x) : ∀ x ∈ a :: l, p x := fun x hx => by
  rcases List.mem_cons.1 hx with e | e
  · subst e; exact h
  · exact k x e
theorem okn {α : Type} {p : α → Prop} : ∀ x ∈ ([] : List α), p x := fun _ h => by cases h
/-- a slice that reads as a list, its rows between two blocks -/
structure Vw {α : Type} (T : Ty α) (w : World) (lo B : Nat) (A : Option Addr) (n c : Nat) (l : List α) : Prop where
  rw_ : Rw w lo B T.sz A n c (T.cells l)
  max : c ≤ maxLen
  ok : ∀ a ∈ l, T.ok a
/-- such a slice that is the call's own -/
structure Ow {α : Type} (T : Ty α) (t : TypeId) (w : World) (lo B : Nat) (A : Option Addr) (n c : Nat) (l : List α) : Prop where
  own : Own w lo t T.sz A n c (T.cells l)
  hi : ∀ ad, A = some ad → ad.block < B
  ok : ∀ a ∈ l, T.ok a
section
variable {α : Type} {T : Ty α} {t : TypeId} {w w' : World} {lo lo' B B' n c k m : Nat} {A : Option Addr} {l l' : List α} {G : Nat → Prop}
theorem mul_right {a b s : Nat} (hs : 0 < s) (h : a * s = b * s) : a = b := Nat.eq_of_mul_eq_mul_right hs h
theorem Vw.ln (h : Vw T w lo B A n c l) : l.length = n := mul_right T.pos (by rw [← T.cells_len]; exact h.rw_.rd.len)
theorem Vw.cap (h : Vw T w lo B A n c l) : n ≤ c := h.rw_.cap
theorem Vw.nil (h : Vw T w lo B A n c l) : A = none → c = 0 := h.rw_.nil
theorem Vw.ext (h : Vw T w lo B A n c l) (hb : Ext w w') : Vw T w' lo B A n c l := { h with rw_ := h.rw_.ext hb }
theorem Vw.kp (h : Vw T w lo B A n c l) (hb : Kp G w w') (hG : ∀ k, G k → k < lo ∨ B ≤ k) : Vw T w' lo B A n c l := { h with rw_ := h.rw_.kp hb hG }
theorem Vw.bt {g : Nat} (h : Vw T w lo B A n c l) (hb : But g w w') (hG : g < lo ∨ B ≤ g) : Vw T w' lo B A n c l := { h with rw_ := h.rw_.bt hb hG }
theorem Vw.more (h : Vw T w lo B A n c l) (hl : lo' ≤ lo) (hB : B ≤ B') : Vw T w lo' B' A n c l := { h with rw_ := h.rw_.more hl hB }
theorem Vw.cast (h : Vw T w lo B A n c l) (e : l = l') : Vw T w lo B A n c l' := e ▸ h
theorem Rw.fit' {sz : Nat} {xs : List Value} (hs : 0 < sz) (h : Rw w lo B sz A n c xs) : Rw w lo w.heap.size sz A n c xs :=
  ⟨⟨h.rd.len, fun hn => by
    obtain ⟨ad, e, _, hc⟩ := h.rd.cells hn
    refine ⟨ad, e, ?_, hc⟩
    have hl : 0 < xs.length := by rw [h.rd.len]; exact Nat.mul_pos hn hs
    have := World.block_lt_of_cell? w _ (hc 0 xs[0] (List.getElem?_eq_getElem hl))
    rwa [add_block] at this⟩, h.cap, h.nil, h.low⟩
theorem Vw.fit (h : Vw T w lo B A n c l) : Vw T w lo w.heap.size A n c l := { h with rw_ := h.rw_.fit' T.pos }
theorem Vw.none_ : Vw T w lo B none 0 0 [] := ⟨Rw.none, Nat.zero_le _, fun _ h => by cases h⟩
theorem Vw.rd (h : Vw T w lo B A n c l) : Rd w B T.sz A n (T.cells l) := h.rw_.rd
/-- s[:k] -/
theorem Vw.take (h : Vw T w lo B A n c l) (hk : k ≤ n) : Vw T w lo B A k c (l.take k) := by
  have hl := h.ln
  refine ⟨⟨?_, Nat.le_trans hk h.cap, h.nil, h.rw_.low⟩, h.max, fun a ha => h.ok a (List.mem_of_mem_take ha)⟩
  have := h.rw_.rd.cut (k := 0) (m := k) (cap := k + 1) (by omega) hk (by omega)
  rw [if_neg (by omega), Nat.zero_mul, List.drop_zero, Nat.sub_zero, T.cells_take _ _ (by omega)] at this
  simpa [add_zero'] using this
/-- s[k:m] -/
theorem Vw.cut (h : Vw T w lo B A n c l) (hk : k ≤ m) (hm : m ≤ n) : Vw T w lo B (if c = k then A else A.map (·.add (k * T.sz))) (m - k) (c - k) ((l.drop k).take (m - k)) := by
  have hl := h.ln
  have hc := h.cap
  refine ⟨⟨?_, by omega, fun e => ?_, fun ad e => ?_⟩, Nat.le_trans (Nat.sub_le _ _) h.max, fun a ha => h.ok a (List.mem_of_mem_drop (List.mem_of_mem_take ha))⟩
  · have := h.rw_.rd.cut (k := k) (m := m) (cap := c) hk hm (by omega)
    rwa [T.cells_drop _ _ (by omega), T.cells_take _ _ (by rw [List.length_drop]; omega)] at this
  · split at e
    · omega
    · have := h.nil (by simpa using e); omega
  · split at e
    · exact h.rw_.low ad e
    · obtain ⟨ad', e1, rfl⟩ := Option.map_eq_some_iff.1 e
      rw [add_block]; exact h.rw_.low ad' e1
/-- s[k:] -/
theorem Vw.drop (h : Vw T w lo B A n c l) (hk : k ≤ n) : Vw T w lo B (if c = k then A else A.map (·.add (k * T.sz))) (n - k) (c - k) (l.drop k) := by
  have := h.cut (k := k) (m := n) hk (Nat.le_refl _)
  rwa [List.take_of_length_le (by rw [List.length_drop, h.ln]; exact Nat.le_refl _)] at this
theorem Vw.at_ (h : Vw T w lo B A n c l) {i : Nat} (hi : i < n) : ∃ ad, A = some ad ∧ ad.block < B ∧ lo ≤ ad.block := by
  obtain ⟨ad, e, hb, _⟩ := h.rw_.rd.cells (by omega)
  exact ⟨ad, e, hb, h.rw_.low ad e⟩
/-- loads: a whole element; one cell of an element -/
theorem Vw.cell {ad : Addr} (h : Vw T w lo B (some ad) n c l) {i j : Nat} (hi : i < l.length) {o : Nat} (ho : o = i * T.sz) {v : Value} (hv : (T.enc l[i])[j]? = some v) : w.cell? ((ad.add o).add j) = some v := by
  subst ho
  have hn := h.ln
  obtain ⟨ad', e, _, hc⟩ := h.rw_.rd.cells (by omega)
  injection e with e
  subst e
  have hj : j < T.sz := by
    rcases Nat.lt_or_ge j T.sz with h | h
    · exact h
    · rw [List.getElem?_eq_none (by rw [T.len]; exact h)] at hv; cases hv
  rw [add_add]
  exact hc _ _ (by rw [T.cells_get l i j hi hj]; exact hv)
theorem Vw.ldA {ad : Addr} (h : Vw T w lo B (some ad) n c l) {i : Nat} (hi : i < l.length) {o : Nat} (ho : o = i * T.sz) {cs : List Value} (hcs : T.enc l[i] = cs) : ∀ W, Ext w W → ∀ j u, cs[j]? = some u → W.cell? ((ad.add o).add j) = some u :=
  fun W hW j u hu => (h.ext hW).cell hi ho (by rw [hcs]; exact hu)
theorem Vw.ldF {ad : Addr} (h : Vw T w lo B (some ad) n c l) {i j : Nat} (hi : i < l.length) {o : Nat} (ho : o = i * T.sz) {v : Value} (hv : (T.enc l[i])[j]? = some v) : ∀ W, Ext w W → W.cell? ((ad.add o).add j) = some v :=
  fun W hW => (h.ext hW).cell hi ho hv
theorem Vw.ld1 {ad : Addr} (h : Vw T w lo B (some ad) n c l) {i : Nat} (hi : i < l.length) {o : Nat} (ho : o = i * T.sz) {v : Value} (hv : (T.enc l[i])[0]? = some v) : ∀ W, Ext w W → W.cell? (ad.add o) = some v :=
  fun W hW => by have := (h.ext hW).cell hi ho hv; rwa [add_zero'] at this
theorem Ow.vw (h : Ow T t w lo B A n c l) : Vw T w lo B A n c l := by
  have h2 := h.own.rw_
  refine ⟨⟨⟨h2.rd.len, fun hn => ?_⟩, h2.cap, h2.nil, h2.low⟩, h.own.cap.2, h.ok⟩
  obtain ⟨ad, e, _, hc⟩ := h2.rd.cells hn
  exact ⟨ad, e, h.hi ad e, hc⟩
theorem Ow.ln (h : Ow T t w lo B A n c l) : l.length = n := h.vw.ln
theorem Ow.cap (h : Ow T t w lo B A n c l) : n ≤ c := h.vw.cap
theorem Ow.ext (h : Ow T t w lo B A n c l) (hb : Ext w w') : Ow T t w' lo B A n c l := ⟨h.own.ext hb, h.hi, h.ok⟩
theorem Ow.kp (h : Ow T t w lo B A n c l) (hb : Kp G w w') (hG : ∀ k, G k → k < lo ∨ B ≤ k) : Ow T t w' lo B A n c l := by
  refine ⟨?_, h.hi, h.ok⟩
  have hlt := h.own.lt'
  rcases h.own with ⟨h1, h2⟩
  refine ⟨h1, ?_⟩
  rcases h2 with h2 | ⟨g, cap, cur, e, hg, hh, r⟩
  · exact .inl h2
  · obtain rfl : A = some ⟨g, 0, none⟩ := by injection e
    exact .inr ⟨g, cap, cur, e, hg, (hb.block g (hlt _ rfl).2 (fun hk => by have := hG _ hk; have := h.hi _ rfl; dsimp only at *; omega)).trans hh, r⟩
theorem Ow.bt {g : Nat} (h : Ow T t w lo B A n c l) (hb : But g w w') (hG : g < lo ∨ B ≤ g) : Ow T t w' lo B A n c l := h.kp (G := fun k => k = g) (Kp.of_but hb rfl) (fun k hk => by obtain rfl := hk; exact hG)
theorem Ow.more (h : Ow T t w lo B A n c l) (hl : lo' ≤ lo) (hB : B ≤ B') : Ow T t w lo' B' A n c l := ⟨h.own.base_ hl, fun ad e => Nat.lt_of_lt_of_le (h.hi ad e) hB, h.ok⟩
theorem Ow.cast (h : Ow T t w lo B A n c l) (e : l = l') : Ow T t w lo B A n c l' := e ▸ h
theorem Ow.nil : Ow T t w lo B none 0 0 [] := ⟨Own.nil w lo t T.sz, (fun _ h => by cases h), (fun _ h => by cases h)⟩
theorem Ow.of_own (h : Own w lo t T.sz A n c (T.cells l)) (ok : ∀ a ∈ l, T.ok a) : Ow T t w lo w.heap.size A n c l := ⟨h, fun ad e => (h.lt' ad e).2, ok⟩
theorem Ow.fit (h : Ow T t w lo B A n c l) : Ow T t w lo w.heap.size A n c l := Ow.of_own h.own h.ok
/-- a new block as a list of the call's own -/
theorem Ow.of_blk {g : Nat} {cs : List Value} (h : Blk w g t cs) (e : cs = T.cells l) (hn : l.length = n) (hm : n ≤ maxLen) (ok : ∀ a ∈ l, T.ok a) : Ow T t w g (g + 1) (some ⟨g, 0, none⟩) n n l := by
  subst e hn
  refine ⟨own_of_blk h (Nat.le_refl _) (T.cells_len l) (Nat.le_refl _) hm (by rw [← T.cells_len, List.take_length]), fun ad e => by injection e with e; subst e; exact Nat.lt_succ_self _, ok⟩
/-- what an append touches -/
theorem Ow.kpOf {v : Value} (h : Ow T t w lo B A n c l) (hv : v = .slice A n c) (hg : w.grownBy w' v.ownBlock) : Kp (fun k => lo ≤ k ∧ k < B) w w' := by
  subst hv
  refine ⟨hg.os, hg.tape, hg.output, hg.size, fun k hk hn => hg.block k hk (fun e => ?_)⟩
  cases A with
  | none => simp [Value.ownBlock] at e
  | some ad =>
    have e : k = ad.block := by simpa [Value.ownBlock] using e
    subst e
    exact hn ⟨(h.own.lt' ad rfl).1, h.hi ad rfl⟩
theorem Ext.kp {w0 : World} (h : Ext w0 w) (hb : Kp G w w') (hG : ∀ k, G k → w0.heap.size ≤ k) : Ext w0 w' :=
  ⟨hb.os.trans h.os, hb.tape.trans h.tape, hb.output.trans h.output, Nat.le_trans h.size hb.size, fun k hk => (hb.block k (Nat.lt_of_lt_of_le hk h.size) (fun e => by have := hG k e; omega)).trans (h.block k hk)⟩
theorem But.kp {g : Nat} {w0 : World} (h : But g w0 w) (hb : Kp G w w') (hG : ∀ k, G k → k = g ∨ w0.heap.size ≤ k) : But g w0 w' :=
  ⟨hb.os.trans h.os, hb.tape.trans h.tape, hb.output.trans h.output, Nat.le_trans h.size hb.size, fun k hk hn => (hb.block k (Nat.lt_of_lt_of_le hk h.size) (fun e => by
    rcases hG k e with h | h
    · exact hn (by rw [h])
    · omega)).trans (h.block k hk hn)⟩
theorem Kp.go {G' : Nat → Prop} {w0 : World} (h : Kp G w0 w) (hb : Kp G' w w') (hG : ∀ k, G' k → G k ∨ w0.heap.size ≤ k) : Kp G w0 w' :=
  ⟨hb.os.trans h.os, hb.tape.trans h.tape, hb.output.trans h.output, Nat.le_trans h.size hb.size, fun k hk hn => (hb.block k (Nat.lt_of_lt_of_le hk h.size) (fun e => by
    rcases hG k e with h | h
    · exact hn h
    · omega)).trans (h.block k hk hn)⟩
theorem Kp.ofb {g : Nat} (h : But g w w') : Kp (fun k => k = g) w w' := Kp.of_but h rfl
theorem Kp.mono {G' : Nat → Prop} (h : Kp G w w') (hG : ∀ k, G k → G' k) : Kp G' w w' := ⟨h.os, h.tape, h.output, h.size, fun k hk hn => h.block k hk (fun e => hn (hG k e))⟩
end
section
variable {α : Type} {T : Ty α} {e : TypeId} {P : Program} {w : World} {E : Env} {ty t : TypeId} {x y : Operand} {Q : Exit → Act → World → Prop} {K : Value → World → Prop}
/-- append(dst, src...) onto a list of the call's own -/
theorem Ld_apO {lo B lo2 B2 n n' m c by_ : Nat} {A A2 : Option Addr} {l l2 : List α} {zv : Value} (hT : P.underlying t = some (.slice e)) (he : Elt P e zv T.sz by_) (hzs : zv.cells.size = T.sz)
    (hx : ev E x = some (.slice A n n')) (hy : ev E y = some (.slice A2 m c)) (ho : Ow T e w lo B A n n' l) (hr : Vw T w lo2 B2 A2 m c l2) (h63 : n + m ≤ maxLen) (hby : (n + m) * by_ ≤ 140737488355328) (hlo : lo ≤ w.heap.size)
    (hK : ∀ A' c' w', Ow T e w' lo w'.heap.size A' (n + m) c' (l ++ l2) → Kp (fun k => lo ≤ k ∧ k < B) w w' → K (.slice A' (n + m) c') w') :
    Ld P E (.call { callee := .builtin .append, args := #[x, y], argTypes := #[t, t] }) ty w Q K := by
  refine Ld_app hT he hzs T.pos hx hy ho.own hr.rd (T.cells_one' l2) h63 hby hlo hr.nil rfl fun A' c' w' h2 h3 _ => hK A' c' w' (Ow.of_own (by rw [T.cells_append]; exact h2) ?_) (ho.kpOf rfl h3)
  intro a ha
  rcases List.mem_append.1 ha with h | h
  · exact ho.ok a h
  · exact hr.ok a h
/-- append(dst, src...) where dst has no room: a new row -/
theorem Ld_apF {lo B lo2 B2 n m c by_ : Nat} {A A2 : Option Addr} {l l2 : List α} {zv : Value} (hT : P.underlying t = some (.slice e)) (he : Elt P e zv T.sz by_) (hzs : zv.cells.size = T.sz)
    (hx : ev E x = some (.slice A n n)) (hy : ev E y = some (.slice A2 m c)) (ho : Vw T w lo B A n n l) (hr : Vw T w lo2 B2 A2 m c l2) (h63 : n + m ≤ maxLen) (hby : (n + m) * by_ ≤ 140737488355328) (hm : 0 < m)
    (hK : ∀ A' c' w', Ow T e w' w.heap.size w'.heap.size A' (n + m) c' (l ++ l2) → Ext w w' → K (.slice A' (n + m) c') w') :
    Ld P E (.call { callee := .builtin .append, args := #[x, y], argTypes := #[t, t] }) ty w Q K := by
  refine Ld_appF hT he hzs T.pos hx hy ho.rd hr.rd (T.cells_one' l2) h63 hby hm ho.nil rfl fun A' c' w' h2 h3 => hK A' c' w' (Ow.of_own (by rw [T.cells_append]; exact h2) ?_) h3
  intro a ha
  rcases List.mem_append.1 ha with h | h
  · exact ho.ok a h
  · exact hr.ok a h
/-- a store into a list of the call's own: of a whole element (of any number of cells), or of one cell of it -/
theorem Ow.put {lo B n c g i : Nat} {a : α} {l : List α} {ys : List Value} {w w' : World} {xs : List Value} (h : Ow T e w lo B (some ⟨g, 0, none⟩) n c l) (hb : Blk w' g e xs) (hx : xs = T.cells (l.set i a) ++ ys) (hl : xs.length = c * T.sz) (ok : T.ok a) :
    Ow T e w' lo B (some ⟨g, 0, none⟩) n c (l.set i a) := by
  subst hx
  have hln := h.ln
  have hcap := h.own.cap
  refine ⟨own_of_blk hb (h.own.lt' _ rfl).1 hl hcap.1 hcap.2 ?_, h.hi, fun b hb => ?_⟩
  · have : (T.cells (l.set i a)).length = n * T.sz := by rw [T.cells_len, List.length_set, hln]
    rw [← this, List.take_left]
  · rcases List.mem_or_eq_of_mem_set hb with h1 | h1
    · exact h.ok b h1
    · subst h1; exact ok
end
/-- between bytes as they were told before and these lists -/
theorem ow_u8 {w : World} {lo : Nat} {t : TypeId} {A : Option Addr} {n c : Nat} {l : List Int} (h : Own w lo t 1 A n c (ints .u8 l)) (hy : Byt l) : Ow tU8 t w lo w.heap.size A n c l := Ow.of_own (by rw [cells_ints]; exact h) hy
theorem Vw.u8 {w : World} {lo B : Nat} {A : Option Addr} {n c : Nat} {l : List Int} (h : Vw tU8 w lo B A n c l) : Rd w B 1 A n (ints .u8 l) := by have := h.rd; rwa [cells_ints] at this
theorem vw_u8 {w : World} {lo B : Nat} {A : Option Addr} {n c : Nat} {l : List Int} (h : Rd w B 1 A n (ints .u8 l)) (hc : n ≤ c) (hm : c ≤ maxLen) (hz : A = none → c = 0) (hy : Byt l) (hlo : lo = 0) : Vw tU8 w lo B A n c l :=
  ⟨⟨by rw [cells_ints]; exact h, hc, hz, fun _ _ => by omega⟩, hm, hy⟩
theorem Vw.byt {w : World} {lo B : Nat} {A : Option Addr} {n c : Nat} {l : List Int} (h : Vw tU8 w lo B A n c l) : Byt l := h.ok
theorem Ow.byt {t : TypeId} {w : World} {lo B : Nat} {A : Option Addr} {n c : Nat} {l : List Int} (h : Ow tU8 t w lo B A n c l) : Byt l := h.ok

section
variable {α : Type} {T : Ty α} {t : TypeId} {w w' : World} {lo lo' B B' n c k m : Nat} {A : Option Addr} {l l' : List α} {G : Nat → Prop}
theorem Vw.elem (h : Vw T w lo B A n c l) {i : Nat} (hi : i < n) : ∃ a, l[i]? = some a ∧ T.ok a := by
  have hl := h.ln
  exact ⟨l[i]'(by omega), List.getElem?_eq_getElem (by omega), h.ok _ (List.getElem_mem _)⟩
theorem get_of {i : Nat} {a : α} (h : l[i]? = some a) : ∃ hi : i < l.length, l[i] = a := by
  obtain ⟨hi, e⟩ := List.getElem?_eq_some_iff.1 h
  exact ⟨hi, e⟩
theorem Vw.lqA {ad : Addr} (h : Vw T w lo B (some ad) n c l) {i : Nat} {a : α} (hg : l[i]? = some a) {o : Nat} (ho : o = i * T.sz) {cs : List Value} (hcs : T.enc a = cs) : ∀ W, Ext w W → ∀ j u, cs[j]? = some u → W.cell? ((ad.add o).add j) = some u := by
  obtain ⟨hi, e⟩ := get_of hg
  exact h.ldA hi ho (by rw [e]; exact hcs)
theorem Vw.lqF {ad : Addr} (h : Vw T w lo B (some ad) n c l) {i j : Nat} {a : α} (hg : l[i]? = some a) {o : Nat} (ho : o = i * T.sz) {v : Value} (hv : (T.enc a)[j]? = some v) : ∀ W, Ext w W → W.cell? ((ad.add o).add j) = some v := by
  obtain ⟨hi, e⟩ := get_of hg
  exact h.ldF hi ho (by rw [e]; exact hv)
theorem Vw.lq1 {ad : Addr} (h : Vw T w lo B (some ad) n c l) {i : Nat} {a : α} (hg : l[i]? = some a) {o : Nat} (ho : o = i * T.sz) {v : Value} (hv : (T.enc a)[0]? = some v) : ∀ W, Ext w W → W.cell? (ad.add o) = some v := by
  obtain ⟨hi, e⟩ := get_of hg
  exact h.ld1 hi ho (by rw [e]; exact hv)
theorem Vw.lqAL {g : Nat} (h : Vw T w lo B (some ⟨g, 0, none⟩) n c l) {i : Nat} {a : α} (hg : l[i]? = some a) {o : Nat} (ho : o = i * T.sz) {cs : List Value} (hcs : T.enc a = cs) : ∀ W, Ext w W → ∀ j u, cs[j]? = some u → W.cell? ((⟨g, 0 + o, none⟩ : Addr).add j) = some u := by
  rw [← add_lit]; exact h.lqA hg ho hcs
theorem Vw.lqFL {g : Nat} (h : Vw T w lo B (some ⟨g, 0, none⟩) n c l) {i j : Nat} {a : α} (hg : l[i]? = some a) {o : Nat} (ho : o = i * T.sz) {v : Value} (hv : (T.enc a)[j]? = some v) : ∀ W, Ext w W → W.cell? ⟨g, 0 + o + j, none⟩ = some v := by
  rw [← add_lit, ← add_lit]; exact h.lqF hg ho hv
theorem Vw.lq1L {g : Nat} (h : Vw T w lo B (some ⟨g, 0, none⟩) n c l) {i : Nat} {a : α} (hg : l[i]? = some a) {o : Nat} (ho : o = i * T.sz) {v : Value} (hv : (T.enc a)[0]? = some v) : ∀ W, Ext w W → W.cell? ⟨g, 0 + o, none⟩ = some v := by
  rw [← add_lit]; exact h.lq1 hg ho hv
theorem Ow.at_ (h : Ow T t w lo B A n c l) {i : Nat} (hi : i < n) : ∃ g, A = some ⟨g, 0, none⟩ ∧ lo ≤ g ∧ g < B := by
  obtain ⟨g, ys, e, hg, _⟩ := h.own.blk (by omega)
  exact ⟨g, e, hg, h.hi _ e⟩
/-- s[:k:m] -/
theorem Vw.full (h : Vw T w lo B A n c l) (hk : k ≤ m) (hm : m ≤ n) : Vw T w lo B A k m (l.take k) := by
  have h1 := h.take (k := k) (by omega)
  have hc := h.cap
  exact ⟨⟨h1.rw_.rd, hk, fun e => by have := h.nil e; omega, h1.rw_.low⟩, by have := h.max; omega, h1.ok⟩
end
section
variable {α : Type} {T : Ty α} {e : TypeId} {P : Program} {w : World} {E : Env} {ty t : TypeId} {x y : Operand} {Q : Exit → Act → World → Prop} {K : Value → World → Prop}
/-- make([]T, n) -/
theorem Ld_mk {by_ n : Nat} {zv : Value} {a : α} {kl kc : IntKind} {l c : Int} (hT : P.underlying t = some (.slice e)) (he : Elt P e zv T.sz by_) (hzs : zv.cells.size = T.sz) (hx : ev E x = some (.int kl l)) (hy : ev E y = some (.int kc c)) (hl : l = n) (hc : c = n)
    (ha : zv.cells.toList = T.enc a) (hby : by_ * n ≤ 281474976710656) (h63 : n ≤ maxLen) (ok : T.ok a)
    (hK : ∀ w', Ow T e w' w.heap.size (w.heap.size + 1) (some ⟨w.heap.size, 0, none⟩) n n (List.replicate n a) → Ext w w' → K (.slice (some ⟨w.heap.size, 0, none⟩) n n) w') : Ld P E (.makeSlice t x y) ty w Q K := by
  refine Ld_make hT he hx hy hl hc hby h63 fun w' h1 h2 h3 => ?_
  refine hK w' ?_ h1
  have hcs : (madeCells zv.cells (n * T.sz)).toList = T.cells (List.replicate n a) := by
    apply List.ext_getElem
    · simp [madeCells, T.cells_len]
    · intro j h4 h5
      have h6 : j < n * T.sz := by simpa [madeCells] using h4
      have h7 : (madeCells zv.cells (n * T.sz)).toList[j] = zv.cells[j % zv.cells.size]! := by simp [madeCells]
      have h8 : j = (j / T.sz) * T.sz + j % T.sz := by rw [Nat.mul_comm]; exact (Nat.div_add_mod _ _).symm
      have h9 : j / T.sz < n := Nat.div_lt_of_lt_mul (by rw [Nat.mul_comm]; exact h6)
      have h10 := T.cells_get (List.replicate n a) (j / T.sz) (j % T.sz) (by simpa using h9) (Nat.mod_lt _ T.pos)
      rw [← h8] at h10
      rw [h7, hzs]
      have h11 : j % T.sz < zv.cells.size := by rw [hzs]; exact Nat.mod_lt _ T.pos
      rw [getElem!_pos zv.cells _ h11]
      have h12 : (T.cells (List.replicate n a))[j]? = some (T.cells (List.replicate n a))[j] := List.getElem?_eq_getElem h5
      rw [h12, List.getElem_replicate, ← ha] at h10
      have h13 : (zv.cells.toList)[j % T.sz]? = some zv.cells[j % T.sz] := by rw [List.getElem?_eq_getElem (by simpa using h11)]; simp
      rw [h13] at h10
      exact (Option.some.inj h10).symm
  have := Ow.of_blk (T := T) (l := List.replicate n a) h3 hcs (n := n) (by simp) (by simpa using h63) (fun b hb => by rw [List.eq_of_mem_replicate hb]; exact ok)
  simpa using this
/-- a store of a whole element -/
theorem Ld_putO {lo B n c g o i : Nat} {l : List α} {a : α} {v : Value} (hn : (P.info? t).map (·.size) = some (cellsL v).length) (hx : ev E x = some (.pointer (some ⟨g, o, none⟩))) (hy : ev E y = some v) (h : Ow T e w lo B (some ⟨g, 0, none⟩) n c l) (hi : i < n) (ho : o = 0 + i * T.sz) (hv : cellsL v = T.enc a) (hz : n ≤ c) (ok : T.ok a)
    (hK : ∀ w', Ow T e w' lo B (some ⟨g, 0, none⟩) n c (l.set i a) → But g w w' → K undef w') : Ld P E (.store t x y) ty w Q K := by
  obtain ⟨g', ys, e1, hg, hb, hl⟩ := h.own.blk (by omega)
  injection e1 with e1
  obtain rfl : g = g' := by injection e1
  have hln := h.ln
  have h0 := T.cells_len l
  have hle : (i + 1) * T.sz ≤ l.length * T.sz := Nat.mul_le_mul_right _ (by omega)
  have hs : (i + 1) * T.sz = i * T.sz + T.sz := by rw [Nat.add_mul, Nat.one_mul]
  have hlv : (cellsL v).length = T.sz := by rw [hv, T.len]
  refine Ld_store hn hx hy hb (by rw [List.length_append]; omega) (by rw [hv]; exact T.one a) fun w' hu _ hN => hK w' ?_ hu
  have e2 := T.cells_set l i a (by omega) o (by omega) ys
  rw [hv, e2] at hN
  refine h.put hN rfl ?_ ok
  rw [← e2]
  simp only [List.length_append, List.length_take, List.length_drop] at hl ⊢
  rw [T.len]
  omega
/-- a store of one cell of an element -/
theorem Ld_putF {lo B n c g o i j : Nat} {l : List α} {a b : α} {v : Value} (hn : (P.info? t).map (·.size) = some (cellsL v).length) (hx : ev E x = some (.pointer (some ⟨g, o, none⟩))) (hy : ev E y = some v) (h : Ow T e w lo B (some ⟨g, 0, none⟩) n c l) (hg : l[i]? = some b) (ho : o = 0 + i * T.sz + j) (hv : cellsL v = [v]) (h1 : v.oneCell' = true) (he : (T.enc b).set j v = T.enc a) (hj : j < T.sz) (ok : T.ok a)
    (hK : ∀ w', Ow T e w' lo B (some ⟨g, 0, none⟩) n c (l.set i a) → But g w w' → K undef w') : Ld P E (.store t x y) ty w Q K := by
  obtain ⟨hi, hb⟩ := get_of hg
  have hln := h.ln
  obtain ⟨g', ys, e1, hg', hbl, hl⟩ := h.own.blk (by omega)
  injection e1 with e1
  obtain rfl : g = g' := by injection e1
  have h0 := T.cells_len l
  have hle : (i + 1) * T.sz ≤ l.length * T.sz := Nat.mul_le_mul_right _ (by omega)
  have hs : (i + 1) * T.sz = i * T.sz + T.sz := by rw [Nat.add_mul, Nat.one_mul]
  refine Ld_store hn hx hy hbl (by rw [List.length_append, hv]; simp only [List.length_cons, List.length_nil]; omega) (by rw [hv]; intro u hu; simp at hu; subst hu; exact h1) fun w' hu _ hN => hK w' ?_ hu
  have e2 := T.cells_setf l i j a v hi hj o (by omega) (by rw [hb]; exact he) ys hv
  rw [e2] at hN
  refine h.put hN rfl ?_ ok
  rw [← e2, hv]
  simp only [List.length_append, List.length_take, List.length_drop, List.length_cons, List.length_nil] at hl ⊢
  omega
/-- copy(dst[off:..], src) into a list of the call's own -/
theorem Ld_cpO {lo B lo2 B2 n c off m c2 dn dc : Nat} {A A2 D : Option Addr} {t2 : TypeId} {l l2 : List α} (hs1 : T.sz = 1) (hT : P.underlying t = some (.slice e)) (hsz : (P.info? e).map (·.size) = some 1) (hx : ev E x = some (.slice D dn dc)) (hy : ev E y = some (.slice A2 m c2))
    (h : Ow T e w lo B A n c l) (hr : Vw T w lo2 B2 A2 m c2 l2) (hD : 0 < m → 0 < n → ∀ g, A = some ⟨g, 0, none⟩ → D = some ⟨g, off, none⟩) (hd : m ≤ dn) (ho : off + m ≤ n)
    (hK : ∀ w', Ow T e w' lo B A n c (l.take off ++ l2 ++ l.drop (off + m)) → Kp (fun k => lo ≤ k ∧ k < B) w w' → K (.int .i64 m) w') :
    Ld P E (.call { callee := .builtin .copy, args := #[x, y], argTypes := #[t, t2] }) ty w Q K := by
  have hln := h.ln
  have hl2 := hr.ln
  rcases Nat.eq_zero_or_pos m with hm | hm
  · subst hm
    obtain rfl : l2 = [] := List.eq_nil_of_length_eq_zero hl2
    have hrun := run_copy_none (P := P) w t t2 ty e D A2 dn dc 0 c2 hT hsz (by simp)
    refine Ld.of_run (.int .i64 0) w (fun N a ha o ho ht => by simp [execOp, ho, ha.ev hx, ha.ev hy, ht, resolve, invoke, builtin, hrun, goInt]) ?_
    exact hK w (by simpa using h) (Kp.refl _ _)
  · obtain ⟨g, ys, rfl, hg, hb, hl⟩ := h.own.blk (by omega)
    have h0 := T.cells_len l
    have h02 := T.cells_len l2
    rw [hs1] at h0 h02 hl
    have hD' := hD hm (by omega) g rfl
    have hrd := hr.rd
    rw [hs1] at hrd
    refine Ld_copy hT hsz hx hy hb (fun _ _ => hD') hrd hd (by rw [List.length_append]; omega) (T.cells_one' l2) fun w' hu _ hN => ?_
    have hgB := h.hi _ rfl
    refine hK w' ?_ (Kp.of_but hu ⟨hg, hgB⟩)
    have e1 : (T.cells l ++ ys).take off = T.cells (l.take off) := by
      rw [List.take_append_of_le_length (by omega)]
      have := T.cells_take l off (by omega)
      rwa [hs1, Nat.mul_one] at this
    have e2 : (T.cells l ++ ys).drop (off + m) = T.cells (l.drop (off + m)) ++ ys := by
      rw [List.drop_append_of_le_length (by omega)]
      have := T.cells_drop l (off + m) (by omega)
      rw [hs1, Nat.mul_one] at this
      rw [this]
    rw [e1, e2, ← List.append_assoc, ← T.cells_append, ← T.cells_append] at hN
    have hlen : (l.take off ++ l2 ++ l.drop (off + m)).length = n := by simp only [List.length_append, List.length_take, List.length_drop]; omega
    have hcap := h.own.cap
    refine ⟨own_of_blk hN hg ?_ hcap.1 hcap.2 ?_, h.hi, fun b hb => ?_⟩
    · simp only [List.length_append, T.cells_len, hs1] at hl ⊢
      simp only [List.length_append] at hlen
      omega
    · have h3 : (T.cells (l.take off ++ l2 ++ l.drop (off + m))).length = n * T.sz := by rw [T.cells_len, hlen]
      rw [← h3, List.take_left]
    · rcases List.mem_append.1 hb with h4 | h4
      · rcases List.mem_append.1 h4 with h5 | h5
        · exact h.ok b (List.mem_of_mem_take h5)
        · exact hr.ok b h5
      · exact h.ok b (List.mem_of_mem_drop h4)
end
theorem Yd_eqlSB {P : Program} {S : World → Prop} {E : Env} {ty t t2 : TypeId} {x y : Operand} {a b : List Int} (hx : ev E x = some (.string (strOfNums a))) (hy : ev E y = some (.string (strOfNums b))) (ha : Byt a) (hb : Byt b) : Yd P S E (.binOp .eql t x y t2) ty (.bool (decide (a = b))) := by
  rw [← str_dec ha hb]; exact Yd_eqlS hx hy
theorem Yd_neqSB {P : Program} {S : World → Prop} {E : Env} {ty t t2 : TypeId} {x y : Operand} {a b : List Int} (hx : ev E x = some (.string (strOfNums a))) (hy : ev E y = some (.string (strOfNums b))) (ha : Byt a) (hb : Byt b) : Yd P S E (.binOp .neq t x y t2) ty (.bool (!decide (a = b))) := by
  rw [← str_dec ha hb]; exact Yd_neqS hx hy
instance (l : List Int) : Decidable (Byt l) := List.decidableBAll _ l
/-- slices as elements of a slice -/
structure SlH where
  A : Option Addr
  n : Nat
  c : Nat
def tSl : Ty SlH := ⟨1, fun h => [.slice h.A h.n h.c], fun _ => True, fun _ => rfl, fun _ v hv => by simp at hv; subst hv; rfl, by decide⟩
/-- what slices in a list hold -/
def Vws {α : Type} (T : Ty α) (w : World) (lo B N : Nat) (hs : List SlH) (ls : List (List α)) : Prop :=
  hs.length = ls.length ∧ ∀ (i : Nat) (h : SlH) (l : List α), hs[i]? = some h → ls[i]? = some l → Vw T w lo B h.A h.n h.c l ∧ h.n ≤ N
section
variable {α : Type} {T : Ty α} {w w' : World} {lo B N : Nat} {hs : List SlH} {ls : List (List α)} {G : Nat → Prop}
theorem Vws.nil : Vws T w lo B N [] [] := ⟨rfl, fun i h l e => by simp at e⟩
theorem Vws.cons {A : Option Addr} {n c : Nat} {l : List α} (h1 : Vw T w lo B A n c l) (h2 : n ≤ N) (h3 : Vws T w lo B N hs ls) : Vws T w lo B N (⟨A, n, c⟩ :: hs) (l :: ls) :=
  ⟨by simp [h3.1], fun i h k e1 e2 => by
    cases i with
    | zero => simp at e1 e2; subst e1 e2; exact ⟨h1, h2⟩
    | succ i => exact h3.2 i h k (by simpa using e1) (by simpa using e2)⟩
theorem Vws.ofs (h : Vws T w lo B N hs ls) : Vws T w lo B N hs ls := h
theorem Vws.ext (h : Vws T w lo B N hs ls) (hb : Ext w w') : Vws T w' lo B N hs ls := ⟨h.1, fun i a l e1 e2 => ⟨(h.2 i a l e1 e2).1.ext hb, (h.2 i a l e1 e2).2⟩⟩
theorem Vws.kp (h : Vws T w lo B N hs ls) (hb : Kp G w w') (hG : ∀ k, G k → k < lo ∨ B ≤ k) : Vws T w' lo B N hs ls := ⟨h.1, fun i a l e1 e2 => ⟨(h.2 i a l e1 e2).1.kp hb hG, (h.2 i a l e1 e2).2⟩⟩
theorem Vws.get (h : Vws T w lo B N hs ls) {i : Nat} {a : SlH} (e : hs[i]? = some a) : ∃ l, ls[i]? = some l ∧ Vw T w lo B a.A a.n a.c l ∧ a.n ≤ N := by
  have hi := (List.getElem?_eq_some_iff.1 e).1
  have h1 := h.1
  exact ⟨ls[i]'(by omega), List.getElem?_eq_getElem (by omega), h.2 i a _ e (List.getElem?_eq_getElem (by omega))⟩
end
theorem cp_cut {A : Option Addr} {c k n m : Nat} (h : k + m ≤ n) (hc : n ≤ c) : 0 < m → 0 < n → ∀ g, A = some ⟨g, 0, none⟩ → (if c = k then A else A.map (·.add (k * 1))) = some ⟨g, k, none⟩ := by
  rintro h1 _ g rfl
  rw [if_neg (by omega), Option.map_some, add_lit]
  simp
/-! rounds that are walked one by one -/
section
variable {P : Program} {N : Nat} {Q : Exit → Act → World → Prop} {E : Env} {w : World} {c : Code} {n : Nat}
def CR (P : Program) (N : Nat) (Q : Exit → Act → World → Prop) (c : Code) (n : Nat) (E : Env) (w : World) : Prop := ∀ a, Sim N a E → Code.rounds P c Q n a w
theorem C_rounds (n : Nat) (h : CR P N Q c n E w) : C P N Q (.loop c) E w := fun a ha => wp_loop_rounds n (h a ha)
theorem CR_succ (h : C P N (Exit.then (Code.rounds P c Q n) Q) c E w) : CR P N Q c (n + 1) E w := fun a ha => h a ha
theorem CR_sub {E' : Env} (hs : SubE E' E) (h : CR P N Q c n E' w) : CR P N Q c n E w := fun a ha => h a (ha.sub hs)
theorem X_round (h : CR P N Q c n E w) : X N (Exit.then (Code.rounds P c Q n) Q) .normal E w := fun a ha => h a ha
/-- two ways that meet again -/
def JoinK {T : Type} (N : Nat) (E' : T → Env) (F : T → World → Prop) (a : Act) (w : World) : Prop := ∃ x, Sim N a (E' x) ∧ F x w
theorem C_joinX {T : Type} (E' : T → Env) (F : T → World → Prop) (hc : C P N (Exit.then (JoinK N E' F) Q) c E w) (hr : ∀ x w, F x w → X N Q .normal (E' x) w) : C P N Q c E w := fun a ha => by
  refine Code.wp_mono (fun e a' w' hq => ?_) (hc a ha)
  cases e with
  | normal => obtain ⟨x, h1, h2⟩ := hq; exact hr x w' h2 a' h1
  | _ => exact hq
theorem X_join {T : Type} {E' : T → Env} {F : T → World → Prop} (x : T) (hs : SubE (E' x) E) (hF : F x w) : X N (Exit.then (JoinK N E' F) Q) .normal E w := fun _ ha => ⟨x, ha.sub hs, hF⟩
end
/-! a region that draws its order, where two may come up that both make memory: both ways -/
inductive Pl
  | nil : Pl
  | q : Nat → Pl → Pl
  | l : Nat → Pl → Pl
  | two : Nat → Nat → Pl → Pl → Pl
def Pl.len : Pl → Nat
  | .nil => 0
  | .q _ r => r.len + 1
  | .l _ r => r.len + 1
  | .two _ _ r _ => r.len + 1
def okPl (ops : Array Oper) : Array Bool → Pl → Bool
  | listed, .nil => (Region.ready .any ops listed).isEmpty
  | listed, .q i r => Region.free .any ops listed i && ((Region.ready .any ops listed).contains i && okPl ops (listed.setIfInBounds i true) r)
  | listed, .l i r => decide (Region.ready .any ops listed = [i]) && okPl ops (listed.setIfInBounds i true) r
  | listed, .two i j r s => decide (Region.ready .any ops listed = [i, j]) && (decide (r.len = s.len) && (okPl ops (listed.setIfInBounds i true) r && okPl ops (listed.setIfInBounds j true) s))
section
variable {P : Program} {N : Nat} {Q : Exit → Act → World → Prop} {E : Env} {w : World} {ops : Array Oper} {G : Nat → Prop}
def RP (P : Program) (N : Nat) (G : Nat → Prop) (ops : Array Oper) (Q : Exit → Act → World → Prop) (p : Pl) (E : Env) (w : World) : Prop :=
  Region.noSelect ops = true → (∀ c a d v w, Q (.panic c) (a.put d v) w → Q (.panic c) a w) →
  ∀ listed, okPl ops listed p = true → ∀ a, Sim N a E → wpAnyH P .any ops Q (Kp G w) p.len listed a w
def RPl (P : Program) (N : Nat) (G : Nat → Prop) (ops : Array Oper) (Q : Exit → Act → World → Prop) (o : Oper) (r : Pl) (E : Env) (w : World) : Prop :=
  ∀ a, Sim N a E → ∀ K : Act → World → Prop, (∀ a' w', Kp G w w' → ∀ E', Sim N a' E' → RP P N G ops Q r E' w' → K a' w') → if Region.wanted o (yielded ops a.tmps) = true then o.wp P a w K Q else K (a.put o.dst undef) w
theorem C_regionP {id : Nat} {p : Pl} (G : Nat → Prop) (hm : P.follows .mixedOrders = true) (hn : Region.noSelect ops = true) (hl : p.len = ops.size) (ho : okPl ops (Array.replicate ops.size false) p = true)
    (hQ : ∀ c a d v w, Q (.panic c) (a.put d v) w → Q (.panic c) a w) (h : ∀ w1, Ext w w1 → w1.heap = w.heap → RP P N G ops Q p E w1) : C P N Q (.region id ops true) E w := fun a ha => by
  refine wp_region_held hm (S := Kp G w.drew) ?_
  have := h w.drew ((Below.refl _ _).drew) rfl hn hQ _ ho a ha
  rw [hl] at this
  exact this
theorem RP_nil (h : X N Q .normal E w) : RP P N G ops Q .nil E w := fun _ _ listed ho a ha => by
  refine wpAnyH_done ?_ (h a ha) 0
  simpa [okPl] using ho
theorem RP_q {i d : Nat} {op : Op} {ty : TypeId} {pos : String} {aft : Array Edge} {rest : Pl} {v : Value} (hi : ops[i]? = some ⟨some d, op, ty, pos, aft, none⟩) (hd : Nat.blt d N = true)
    (hy : Yd P (Kp G w) E op ty v) (h : RP P N G ops Q rest ((d, v) :: E) w) : RP P N G ops Q (.q i rest) E w := fun hn hQ listed ho a ha => by
  simp only [okPl, Bool.and_eq_true] at ho
  exact wpAnyH_take hi hn ho.1 ho.2.1 (fun c a w => hQ c a _ _ w) (.inl ⟨by simp [Region.wanted], fun W hW => hy N a ha _ rfl rfl W hW⟩) (Kp.refl G w) (h hn hQ _ ho.2.2 _ (ha.put d hd v))
theorem RP_gq {i d j dj : Nat} {b : Bool} {op : Op} {ty : TypeId} {pos : String} {aft : Array Edge} {rest : Pl} {v : Value} (hi : ops[i]? = some ⟨some d, op, ty, pos, aft, some (j, b)⟩)
    (hj : (ops[j]?).bind (·.dst) = some dj) (hv : lk E dj = some (.bool b)) (hd : Nat.blt d N = true)
    (hy : Yd P (Kp G w) E op ty v) (h : RP P N G ops Q rest ((d, v) :: E) w) : RP P N G ops Q (.q i rest) E w := fun hn hQ listed ho a ha => by
  simp only [okPl, Bool.and_eq_true] at ho
  exact wpAnyH_take hi hn ho.1 ho.2.1 (fun c a w => hQ c a _ _ w) (.inl ⟨by simp [Region.wanted, yielded_of ha hj hv], fun W hW => hy N a ha _ rfl rfl W hW⟩) (Kp.refl G w) (h hn hQ _ ho.2.2 _ (ha.put d hd v))
theorem RP_gn {i d j dj : Nat} {b b' : Bool} {op : Op} {ty : TypeId} {pos : String} {aft : Array Edge} {rest : Pl} (hi : ops[i]? = some ⟨some d, op, ty, pos, aft, some (j, b)⟩)
    (hj : (ops[j]?).bind (·.dst) = some dj) (hv : lk E dj = some (.bool b')) (hb : (b' == b) = false) (hd : Nat.blt d N = true)
    (h : RP P N G ops Q rest ((d, undef) :: E) w) : RP P N G ops Q (.q i rest) E w := fun hn hQ listed ho a ha => by
  simp only [okPl, Bool.and_eq_true] at ho
  exact wpAnyH_take hi hn ho.1 ho.2.1 (fun c a w => hQ c a _ _ w) (.inr ⟨by simpa [Region.wanted, yielded_of ha hj hv] using hb, rfl⟩) (Kp.refl G w) (h hn hQ _ ho.2.2 _ (ha.put d hd undef))
theorem RP_gu {i d j dj : Nat} {b : Bool} {op : Op} {ty : TypeId} {pos : String} {aft : Array Edge} {rest : Pl} (hi : ops[i]? = some ⟨some d, op, ty, pos, aft, some (j, b)⟩)
    (hj : (ops[j]?).bind (·.dst) = some dj) (hv : lk E dj = some undef) (hd : Nat.blt d N = true)
    (h : RP P N G ops Q rest ((d, undef) :: E) w) : RP P N G ops Q (.q i rest) E w := fun hn hQ listed ho a ha => by
  simp only [okPl, Bool.and_eq_true] at ho
  exact wpAnyH_take hi hn ho.1 ho.2.1 (fun c a w => hQ c a _ _ w) (.inr ⟨by simp [Region.wanted, yielded_of ha hj hv, undef], rfl⟩) (Kp.refl G w) (h hn hQ _ ho.2.2 _ (ha.put d hd undef))
theorem RP_two {i j : Nat} {oi oj : Oper} {r s : Pl} (hi : ops[i]? = some oi) (hj : ops[j]? = some oj) (h1 : RPl P N G ops Q oi r E w) (h2 : RPl P N G ops Q oj s E w) : RP P N G ops Q (.two i j r s) E w := fun hn hQ listed ho a ha => by
  simp only [okPl, Bool.and_eq_true, decide_eq_true_eq] at ho
  refine wpAnyH_all ho.1 (by simp) ?_
  intro i' hi'
  have : i' = i ∨ i' = j := by simpa using hi'
  rcases this with rfl | rfl
  · refine wpOp_step hi (fun K hK => ?_)
    refine h1 a ha K (fun a' w' he E' hE' hR => hK a' w' ⟨he, ?_⟩)
    exact wpAnyH_mono (fun W hW => he.trans hW) _ _ _ _ (hR hn hQ _ ho.2.2.1 a' hE')
  · refine wpOp_step hj (fun K hK => ?_)
    refine h2 a ha K (fun a' w' he E' hE' hR => hK a' w' ⟨he, ?_⟩)
    have := hR hn hQ _ ho.2.2.2 a' hE'
    rw [← ho.2.1] at this
    exact wpAnyH_mono (fun W hW => he.trans hW) _ _ _ _ this
theorem RP_loud {i : Nat} {o : Oper} {r : Pl} (hi : ops[i]? = some o) (h1 : RPl P N G ops Q o r E w) : RP P N G ops Q (.l i r) E w := fun hn hQ listed ho a ha => by
  simp only [okPl, Bool.and_eq_true, decide_eq_true_eq] at ho
  refine wpAnyH_all ho.1 (by simp) ?_
  intro i' hi'
  obtain rfl : i' = i := by simpa using hi'
  refine wpOp_step hi (fun K hK => ?_)
  refine h1 a ha K (fun a' w' he E' hE' hR => hK a' w' ⟨he, ?_⟩)
  exact wpAnyH_mono (fun W hW => he.trans hW) _ _ _ _ (hR hn hQ _ ho.2 a' hE')
theorem RPl_l {d : Nat} {op : Op} {ty : TypeId} {pos : String} {aft : Array Edge} {rest : Pl} (hd : Nat.blt d N = true)
    (h : Ld P E op ty w Q (fun v w' => Kp G w w' ∧ RP P N G ops Q rest ((d, v) :: E) w')) : RPl P N G ops Q ⟨some d, op, ty, pos, aft, none⟩ rest E w := fun a ha K hK => by
  rw [if_pos (by simp [Region.wanted])]
  refine Oper.wp_mono (fun a' w' => ?_) (h N a ha ⟨some d, op, ty, pos, aft, none⟩ rfl rfl)
  rintro ⟨v, rfl, he, hv⟩
  exact hK _ _ he _ (ha.put d hd v) hv
theorem RPl_gl {d j dj : Nat} {b : Bool} {op : Op} {ty : TypeId} {pos : String} {aft : Array Edge} {rest : Pl} (hj : (ops[j]?).bind (·.dst) = some dj) (hv : lk E dj = some (.bool b)) (hd : Nat.blt d N = true)
    (h : Ld P E op ty w Q (fun v w' => Kp G w w' ∧ RP P N G ops Q rest ((d, v) :: E) w')) : RPl P N G ops Q ⟨some d, op, ty, pos, aft, some (j, b)⟩ rest E w := fun a ha K hK => by
  rw [if_pos (by simp [Region.wanted, yielded_of ha hj hv])]
  refine Oper.wp_mono (fun a' w' => ?_) (h N a ha ⟨some d, op, ty, pos, aft, some (j, b)⟩ rfl rfl)
  rintro ⟨v, rfl, he, hv⟩
  exact hK _ _ he _ (ha.put d hd v) hv
theorem RPl_l0 {op : Op} {ty : TypeId} {pos : String} {aft : Array Edge} {rest : Pl}
    (h : Ld P E op ty w Q (fun _ w' => Kp G w w' ∧ RP P N G ops Q rest E w')) : RPl P N G ops Q ⟨none, op, ty, pos, aft, none⟩ rest E w := fun a ha K hK => by
  rw [if_pos (by simp [Region.wanted])]
  refine Oper.wp_mono (fun a' w' => ?_) (h N a ha ⟨none, op, ty, pos, aft, none⟩ rfl rfl)
  rintro ⟨v, rfl, he, hv⟩
  exact hK _ _ he _ ha hv
theorem RPl_gn {d j dj : Nat} {b b' : Bool} {op : Op} {ty : TypeId} {pos : String} {aft : Array Edge} {rest : Pl} (hj : (ops[j]?).bind (·.dst) = some dj) (hv : lk E dj = some (.bool b')) (hb : (b' == b) = false) (hd : Nat.blt d N = true)
    (h : RP P N G ops Q rest ((d, undef) :: E) w) : RPl P N G ops Q ⟨some d, op, ty, pos, aft, some (j, b)⟩ rest E w := fun a ha K hK => by
  rw [if_neg (by simpa [Region.wanted, yielded_of ha hj hv] using hb)]
  exact hK _ _ (Kp.refl G w) _ (ha.put d hd undef) h
theorem RPl_gu {d j dj : Nat} {b : Bool} {op : Op} {ty : TypeId} {pos : String} {aft : Array Edge} {rest : Pl} (hj : (ops[j]?).bind (·.dst) = some dj) (hv : lk E dj = some undef) (hd : Nat.blt d N = true)
    (h : RP P N G ops Q rest ((d, undef) :: E) w) : RPl P N G ops Q ⟨some d, op, ty, pos, aft, some (j, b)⟩ rest E w := fun a ha K hK => by
  rw [if_neg (by simp [Region.wanted, yielded_of ha hj hv, undef])]
  exact hK _ _ (Kp.refl G w) _ (ha.put d hd undef) h
theorem RP_is {l : Pl} {d : Nat} {b b' : Bool} (hd : lk E d = some (.bool b)) (e : b = b') (h : RP P N G ops Q l ((d, .bool b') :: E) w) : RP P N G ops Q l E w := fun hn hQ listed ho a ha => h hn hQ listed ho a (ha.is hd (by rw [e]))
theorem RP_case {l : Pl} {d : Nat} {b : Bool} (hd : lk E d = some (.bool b)) (ht : b = true → RP P N G ops Q l ((d, .bool true) :: E) w) (hf : b = false → RP P N G ops Q l ((d, .bool false) :: E) w) : RP P N G ops Q l E w := by
  cases b with
  | true => exact RP_is hd rfl (ht rfl)
  | false => exact RP_is hd rfl (hf rfl)
end
section
variable {P : Program} {N : Nat} {E : Env} {w : World}
theorem X_ret4 {fn : Func} {R : Ending → World → Prop} {t u s r : Tmp} {x y z v : Value} (hr : fn.results = #[.tmp t, .tmp u, .tmp s, .tmp r]) (hx : lk E t = some x) (hy : lk E u = some y) (hz : lk E s = some z) (hv : lk E r = some v) (h : R (.returned (.tuple #[x, y, z, v])) w) : X N (bodyPost P fn R) .ret E w :=
  fun a ha => ⟨ha.defers, .tuple #[x, y, z, v], by have h1 := ha.tmps t x hx; have h2 := ha.tmps u y hy; have h3 := ha.tmps s z hz; have h4 := ha.tmps r v hv; simp at h1 h2 h3 h4; simp [results, hr, h1, h2, h3, h4], h⟩
end
/-! scopes, closures, fields at any address, '==' of structs -/
section
variable {P : Program} {N : Nat} {Q : Exit → Act → World → Prop} {E : Env} {w : World} {c : Code}
theorem C_scope (h : C P N (Exit.noGoto Q) c E w) : C P N Q (.scope c) E w := fun a ha => wp_scope_straight (h a ha)
theorem X_ngN (h : X N Q .normal E w) : X N (Exit.noGoto Q) .normal E w := h
theorem X_ngE {i : Nat} (h : X N Q (.exit i) E w) : X N (Exit.noGoto Q) (.exit i) E w := h
theorem X_ngR (h : X N Q .ret E w) : X N (Exit.noGoto Q) .ret E w := h
end
section
variable {P : Program} {S : World → Prop} {E : Env} {w : World} {ty t t2 : TypeId} {x y : Operand} {Q : Exit → Act → World → Prop} {K : Value → World → Prop}
def evl (E : Env) : List Operand → Option (List Value)
  | [] => some []
  | x :: r => match ev E x, evl E r with
    | some v, some l => some (v :: l)
    | _, _ => none
theorem evl_map {N : Nat} {a : Act} (ha : Sim N a E) : ∀ {l : List Operand} {vs : List Value}, evl E l = some vs → l.map a.eval = vs
  | [], vs, h => by simp [evl] at h; subst h; rfl
  | x :: r, vs, h => by
    simp only [evl] at h
    cases hx : ev E x with
    | none => simp [hx] at h
    | some v =>
      cases hr : evl E r with
      | none => simp [hx, hr] at h
      | some l =>
        simp [hx, hr] at h
        subst h
        simp [ha.ev hx, evl_map ha hr]
theorem Yd_mkf {f : FuncId} {cap : List Operand} {vs : List Value} (hx : evl E cap = some vs) : Yd P S E (.makeFunc (.func f) #[] cap.toArray) ty (.func (.func f) #[] vs.toArray) := fun N a ha o ho ht W hW => by
  have h := evl_map ha hx
  have h2 : cap.toArray.map a.eval = vs.toArray := by rw [← h]; simp
  simp [execOp, ho, Instr.makeFunc]
  rw [← h]
/-- a call of a function value with what it captured -/
theorem Ld_callC {f : FuncId} {args : List Operand} {vs cap : List Value} {ats : Array TypeId} {R : Ending → World → Prop} {fn : Func} (hx0 : ev E x = some (.func (.func f) #[] cap.toArray)) (hf : P.funcs[f]? = some fn) (hb : fn.body.isSome = true) (hn : (fn.name == "runtime.NumGoroutine") = false)
    (hx : evs E (args.map (fun x => (0, x))) = some (vs.map fun v => (0, v))) (hc : Calls P f (vs ++ cap).toArray w R) (hR : ∀ e w', R e w' → ∃ v, e = .returned v ∧ K v w') :
    Ld P E (.call { callee := .value x, args := args.toArray, argTypes := ats }) ty w Q K := fun N a ha o ho ht => by
  have h1 : args.toArray.map a.eval = vs.toArray := by
    have := evs_map ha hx
    simp only [List.map_map] at this
    have h2 : (args.map fun x => a.eval x) = vs := by
      have h3 := congrArg (List.map Prod.snd) this
      simpa [List.map_map, Function.comp_def] using h3
    rw [← h2]
    simp
  have h2 : (execOp a.eval o).run P w = .ok (.enter f (vs ++ cap).toArray) w := by
    have h3 : fn.name ≠ "runtime.NumGoroutine" := by simpa using hn
    simp only [execOp, ho]
    simp [resolve, ha.ev hx0, Deferred.ofValue, h1, invoke, callFunc, hf, h3]
    intro hn0
    rw [hn0] at hb
    cases hb
  unfold Oper.wp
  rw [h2]
  show Calls P f (vs ++ cap).toArray w _
  refine Calls.mono hc fun e w' he => ?_
  obtain ⟨v, rfl, hv⟩ := hR e w' he
  exact ⟨v, rfl, hv⟩
theorem Yd_fldG {fs : Array Field} {i off : Nat} {p : Addr} (hT : P.underlying t = some (.struct fs)) (hf : fs[i]?.map (fun f => (f.offset, (P.info? f.type).map (fun i => decide (i.size = 0)))) = some (off, some false)) (hx : ev E x = some (.pointer (some p))) :
    Yd P S E (.fieldAddr t x i) ty (.pointer (some (p.add off))) :=
  fun N a ha o ho ht W hW => by
    obtain ⟨f, hf1, hf2⟩ := Option.map_eq_some_iff.1 hf
    simp only [Prod.mk.injEq] at hf2
    obtain ⟨he, hs⟩ := hf2
    obtain ⟨fi, hfi, hz⟩ := Option.map_eq_some_iff.1 hs
    have hz' : ¬ fi.size = 0 := by simpa using hz
    simp [execOp, ho, ha.ev hx, Instr.fieldAt, run_underlying hT, hf1, Instr.sureAddr, fieldPlace, sizeOf, typeInfo, hfi, hz', he]
/-- the kinds that '==' of flat structs tells apart -/
def fkind (P : Program) (t : TypeId) : Nat := match P.underlying t with
  | some (.int _) => 0
  | some .bool => 1
  | some .string => 2
  | _ => 9
def eqT : List (Bool × Nat × Nat) → List Value → List Value → Option Bool
  | [], _, _ => some true
  | (true, _, _) :: r, xs, ys => eqT r xs ys
  | (false, off, k) :: r, xs, ys => match k, xs[off]?, ys[off]?, eqT r xs ys with
    | 0, some (.int k a), some (.int k' b), some s => if k = k' then some ((a == b) && s) else none
    | 1, some (.bool a), some (.bool b), some s => some ((a == b) && s)
    | 2, some (.string a), some (.string b), some s => some ((a.toList == b.toList) && s)
    | _, _, _, _ => none
theorem run_part_flat {t : TypeId} {d : TypeDesc} {cs : Array Value} {off : Nat} {v : Value} (hT : P.underlying t = some d) (hd : isFlat d = true) (hv : cs[off]? = some v) (W : World) : (part t cs off).run P W = .ok v W := by
  simp [part, run_isAgg hT, hd, hv]
theorem run_eqT {d : Nat} {xs ys : List Value} (W : World) : ∀ (fs : List Field) {b : Bool}, eqT (fs.map fun f => (f.name == "_", f.offset, fkind P f.type)) xs ys = some b → (Op.eqFields (d + 1) xs.toArray ys.toArray fs).run P W = .ok b W
  | [], b, h => by simp [eqT] at h; subst h; simp [Op.eqFields]
  | f :: fs, b, h => by
    rw [List.map_cons] at h
    cases hn : (f.name == "_") with
    | true =>
      rw [hn] at h
      have hn' : ¬ (f.name ≠ "_") := by simpa using hn
      rw [Op.eqFields, if_neg hn']
      exact run_eqT W fs (by simpa [eqT] using h)
    | false =>
      rw [hn] at h
      have hn' : f.name ≠ "_" := by simpa using hn
      rw [Op.eqFields]
      simp only [if_pos hn', Sem.run_bind]
      simp only [eqT] at h
      cases hu : P.underlying f.type with
      | none => simp [fkind, hu] at h
      | some dd =>
        cases dd <;> try (simp [fkind, hu] at h; done)
        case int kk =>
          simp only [fkind, hu] at h
          split at h
          · rename_i k a k' c s e0 e1 e2 e3
            split at h
            · rename_i hk
              subst hk
              injection h with h
              subst h
              rw [run_part_flat hu rfl (by simpa using e1) W]
              simp only [Result.andThen_ok]
              rw [run_part_flat hu rfl (by simpa using e2) W]
              simp only [Result.andThen_ok]
              rw [run_equalIn_int W d f.type k kk a c hu]
              have h3 := run_eqT (d := d) W fs e3
              cases h4 : (a == c) <;> simp [h3]
            · cases h
          · rename_i h5 _ _ _ ; cases h5
          · rename_i h5 _ _ _ ; cases h5
          · cases h
        case bool =>
          simp only [fkind, hu] at h
          split at h
          · rename_i h5 _ _ _ ; cases h5
          · rename_i a c s e0 e1 e2 e3
            injection h with h
            subst h
            rw [run_part_flat hu rfl (by simpa using e1) W]
            simp only [Result.andThen_ok]
            rw [run_part_flat hu rfl (by simpa using e2) W]
            simp only [Result.andThen_ok]
            rw [run_equalIn_bool' W d f.type a c hu]
            have h3 := run_eqT (d := d) W fs e3
            cases h4 : (a == c) <;> simp [h3]
          · rename_i h5 _ _ _ ; cases h5
          · cases h
        case string =>
          simp only [fkind, hu] at h
          split at h
          · rename_i h5 _ _ _ ; cases h5
          · rename_i h5 _ _ _ ; cases h5
          · rename_i a c s e0 e1 e2 e3
            injection h with h
            subst h
            rw [run_part_flat hu rfl (by simpa using e1) W]
            simp only [Result.andThen_ok]
            rw [run_part_flat hu rfl (by simpa using e2) W]
            simp only [Result.andThen_ok]
            rw [run_equalIn_string W d f.type a c hu]
            have h3 := run_eqT (d := d) W fs e3
            cases h4 : (a.toList == c.toList) <;> simp [h3]
          · cases h
theorem run_eqA {fs : Array Field} {xs ys : List Value} {b : Bool} {tb : List (Bool × Nat × Nat)} (hT : P.underlying t = some (.struct fs)) (hp : P.stoodInHeld t = false) (ht : (fs.toList.map fun f => (f.name == "_", f.offset, fkind P f.type)) = tb) (hb : eqT tb xs ys = some b) (W : World) :
    (Op.equalIn 10000 t (.agg xs.toArray) (.agg ys.toArray)).run P W = .ok b W := by
  have hf : P.fieldsOf t = fs := by simp [Program.fieldsOf, hT]
  rw [run_equalIn_struct W 9999 t xs.toArray ys.toArray (by rw [hf]; exact hT) hp, hf]
  subst ht
  exact run_eqT W fs.toList hb
theorem Yd_eqlA {fs : Array Field} {xs ys : List Value} {b r : Bool} {tb : List (Bool × Nat × Nat)} (hT : P.underlying t = some (.struct fs)) (hp : P.stoodInHeld t = false) (hg : P.eqGuardType P.depth t = false) (ht : (fs.toList.map fun f => (f.name == "_", f.offset, fkind P f.type)) = tb) (hx : ev E x = some (.agg xs.toArray)) (hy : ev E y = some (.agg ys.toArray)) (hb : eqT tb xs ys = some b) (hr : b = r) :
    Yd P S E (.binOp .eql t x y t2) ty (.bool r) := fun N a ha o ho hty W hW => by
  subst hr
  simp only [execOp, ho, ha.ev hx, ha.ev hy]
  simp [run_eqGuard_agg W .eql t x y _ _ hg, run_eql_struct, run_eqA hT hp ht hb W]
theorem Yd_neqA {fs : Array Field} {xs ys : List Value} {b r : Bool} {tb : List (Bool × Nat × Nat)} (hT : P.underlying t = some (.struct fs)) (hp : P.stoodInHeld t = false) (hg : P.eqGuardType P.depth t = false) (ht : (fs.toList.map fun f => (f.name == "_", f.offset, fkind P f.type)) = tb) (hx : ev E x = some (.agg xs.toArray)) (hy : ev E y = some (.agg ys.toArray)) (hb : eqT tb xs ys = some b) (hr : b = r) :
    Yd P S E (.binOp .neq t x y t2) ty (.bool (!r)) := fun N a ha o ho hty W hW => by
  subst hr
  simp only [execOp, ho, ha.ev hx, ha.ev hy]
  simp [run_eqGuard_agg W .neq t x y _ _ hg, run_neq_struct, run_eqA hT hp ht hb W]
end
theorem rows_ty {α : Type} {T : Ty α} {rows : List (List Value)} (h : ∀ r ∈ rows, ∃ a, r = T.enc a ∧ T.ok a) : ∃ l, rows.flatten = T.cells l ∧ l.length = rows.length ∧ ∀ a ∈ l, T.ok a := by
  induction rows with
  | nil => exact ⟨[], rfl, rfl, fun _ h => by cases h⟩
  | cons r rows ih =>
    obtain ⟨l, h1, h2, h3⟩ := ih (fun r hr => h r (by simp [hr]))
    obtain ⟨a, rfl, ha⟩ := h r (by simp)
    exact ⟨a :: l, by rw [List.flatten_cons, h1]; rfl, by simp [h2], okc ha h3⟩
theorem vw_rows {α : Type} {T : Ty α} {w : World} {A : Option Addr} {n c : Nat} {rows : List (List Value)} (hr : Rd w w.heap.size T.sz A n rows.flatten) (hc : n ≤ c) (hm : c ≤ maxLen) (hz : A = none → c = 0) (h : ∀ r ∈ rows, ∃ a, r = T.enc a ∧ T.ok a) : ∃ l, Vw T w 0 w.heap.size A n c l := by
  obtain ⟨l, h1, _, h3⟩ := rows_ty h
  rw [h1] at hr
  exact ⟨l, ⟨hr, hc, hz, fun _ _ => Nat.zero_le _⟩, hm, h3⟩
end Go.Proofs.AL
