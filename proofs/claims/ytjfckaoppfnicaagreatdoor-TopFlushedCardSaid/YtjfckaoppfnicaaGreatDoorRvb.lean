/- RV: what it gives is what the program does. -/
import Derived.Test.YtjfckaoppfnicaaGreatDoorRva
import Derived.Laws.IdiomStrings
import Derived.OrdersHeld
import Derived.LoopN
import Derived.Scope
import Derived.Defers
set_option linter.unusedVariables false
set_option linter.unusedSimpArgs false
/- RV, soundness, sixth part: tables, memory that is told, operations that yield a value. -/
set_option linter.unusedVariables false
set_option linter.unusedSimpArgs false
namespace Go.Proofs.AL.Rx
open Go Go.RowKit
theorem Tr.get_leaf {α : Type} (k : Nat) : (Tr.leaf : Tr α).get k = none := by unfold Tr.get; rfl
theorem Tr.get_set {α : Type} {v : Option α} {x : α} : ∀ (n k k' : Nat) (t : Tr α), (Tr.set v n k t).get k' = some x → (k' = k ∧ v = some x) ∨ (k' ≠ k ∧ t.get k' = some x)
  | 0, k, k', t, h => by unfold Tr.set at h; rw [Tr.get_leaf] at h; cases h
  | n + 1, 0, k', .leaf, h => by
    unfold Tr.set at h
    cases k' with
    | zero => unfold Tr.get at h; exact .inl ⟨rfl, h⟩
    | succ k' =>
      unfold Tr.get at h
      simp only at h
      cases hb : Nat.beq (k' % 2) 0 <;> simp [hb, Tr.get_leaf] at h
  | n + 1, k + 1, k', .leaf, h => by
    unfold Tr.set at h
    simp only at h
    cases k' with
    | zero =>
      cases hb : Nat.beq (k % 2) 0 <;> simp [hb, Tr.get] at h
    | succ k' =>
      cases hb : Nat.beq (k % 2) 0 with
      | true =>
        simp only [hb, cond_true] at h
        unfold Tr.get at h
        simp only at h
        cases hc : Nat.beq (k' % 2) 0 with
        | true =>
          simp only [hc, cond_true] at h
          rcases Tr.get_set n (k / 2) (k' / 2) .leaf h with ⟨h1, h2⟩ | ⟨h1, h2⟩
          · have e1 := Nat.eq_of_beq_eq_true hb
            have e2 := Nat.eq_of_beq_eq_true hc
            exact .inl ⟨by omega, h2⟩
          · rw [Tr.get_leaf] at h2; cases h2
        | false => simp [hc, Tr.get_leaf] at h
      | false =>
        simp only [hb, cond_false] at h
        unfold Tr.get at h
        simp only at h
        cases hc : Nat.beq (k' % 2) 0 with
        | true => simp [hc, Tr.get_leaf] at h
        | false =>
          simp only [hc, cond_false] at h
          rcases Tr.get_set n (k / 2) (k' / 2) .leaf h with ⟨h1, h2⟩ | ⟨h1, h2⟩
          · have e1 : k % 2 ≠ 0 := fun e => by rw [e] at hb; cases hb
            have e2 : k' % 2 ≠ 0 := fun e => by rw [e] at hc; cases hc
            exact .inl ⟨by omega, h2⟩
          · rw [Tr.get_leaf] at h2; cases h2
  | n + 1, 0, k', .node l u r, h => by
    unfold Tr.set at h
    cases k' with
    | zero => unfold Tr.get at h; exact .inl ⟨rfl, h⟩
    | succ k' => unfold Tr.get at h; exact .inr ⟨by omega, by unfold Tr.get; exact h⟩
  | n + 1, k + 1, k', .node l u r, h => by
    unfold Tr.set at h
    simp only at h
    cases k' with
    | zero =>
      refine .inr ⟨by omega, ?_⟩
      cases hb : Nat.beq (k % 2) 0 <;> simp [hb, Tr.get] at h <;> (unfold Tr.get; exact h)
    | succ k' =>
      cases hb : Nat.beq (k % 2) 0 with
      | true =>
        simp only [hb, cond_true] at h
        unfold Tr.get at h ⊢
        simp only at h ⊢
        have e1 := Nat.eq_of_beq_eq_true hb
        cases hc : Nat.beq (k' % 2) 0 with
        | true =>
          simp only [hc, cond_true] at h ⊢
          have e2 := Nat.eq_of_beq_eq_true hc
          rcases Tr.get_set n (k / 2) (k' / 2) l h with ⟨h1, h2⟩ | ⟨h1, h2⟩
          · exact .inl ⟨by omega, h2⟩
          · exact .inr ⟨fun e => h1 (by have : k' = k := by omega
                                        rw [this]), h2⟩
        | false =>
          simp only [hc, cond_false] at h ⊢
          have e2 : k' % 2 ≠ 0 := fun e => by rw [e] at hc; cases hc
          exact .inr ⟨by omega, h⟩
      | false =>
        simp only [hb, cond_false] at h
        unfold Tr.get at h ⊢
        simp only at h ⊢
        have e1 : k % 2 ≠ 0 := fun e => by rw [e] at hb; cases hb
        cases hc : Nat.beq (k' % 2) 0 with
        | true =>
          simp only [hc, cond_true] at h ⊢
          have e2 := Nat.eq_of_beq_eq_true hc
          exact .inr ⟨by omega, h⟩
        | false =>
          simp only [hc, cond_false] at h ⊢
          have e2 : k' % 2 ≠ 0 := fun e => by rw [e] at hc; cases hc
          rcases Tr.get_set n (k / 2) (k' / 2) r h with ⟨h1, h2⟩ | ⟨h1, h2⟩
          · exact .inl ⟨by omega, h2⟩
          · exact .inr ⟨fun e => h1 (by have : k' = k := by omega
                                        rw [this]), h2⟩
/-- what is fixed, and the first block that is the walk's own -/
structure Fb where
  F : Fx
  B : Nat
  invLt : ∀ k w g h, F.inv k w g h → g < w.heap.size
  invKp : ∀ k w w' g h, F.inv k w g h → w'.heap[g]? = w.heap[g]? → Below B w w' → F.inv k w' g h
section
variable {G : Fb} {ρ : Val} {P : Program} {w w' W : World} {a : Act} {E : VEnv} {o : Oper} {x y z : Operand} {t t2 ty : TypeId} {r : AV} {m : Tr Ao}
theorem objOk_lt {id : Nat} {ob : Ao} (h : objOk G.F ρ w id ob) : ρ.blk id < w.heap.size := by
  cases ob with
  | cells t cs more => cases more with
    | none => exact (Array.getElem?_eq_some_iff.1 h).1
    | some sz => obtain ⟨_, _, h, _⟩ := h; exact (Array.getElem?_eq_some_iff.1 h).1
  | map es c => exact (Array.getElem?_eq_some_iff.1 h).1
  | look es => obtain ⟨_, _, h, _⟩ := h; exact (Array.getElem?_eq_some_iff.1 h).1
  | iter _ _ _ _ => exact (Array.getElem?_eq_some_iff.1 h).1
  | inv k j => exact G.invLt _ _ _ _ h
  | ro cs => obtain ⟨_, _, _, h⟩ := h; exact (Array.getElem?_eq_some_iff.1 h).1
theorem objOk_kp {id : Nat} {ob : Ao} (h : objOk G.F ρ w id ob) (hb : w'.heap[ρ.blk id]? = w.heap[ρ.blk id]?) (hB : Below G.B w w') : objOk G.F ρ w' id ob := by
  cases ob with
  | cells t cs more => cases more with
    | none => exact hb.trans h
    | some sz => obtain ⟨rest, n, h, r⟩ := h; exact ⟨rest, n, hb.trans h, r⟩
  | map es c => exact hb.trans h
  | look es => obtain ⟨e, c, h, r⟩ := h; exact ⟨e, c, hb.trans h, r⟩
  | iter _ _ _ _ => exact hb.trans h
  | inv k j => exact G.invKp _ _ _ _ _ h hb hB
  | ro cs => obtain ⟨e, c, d, h⟩ := h; exact ⟨e, c, d, hb.trans h⟩
/-- may it be written to? -/
def wr : Ao → Bool
  | .ro _ => false
  | .inv k _ => !(Nat.beq k 5)
  | _ => true
structure MemOk (G : Fb) (ρ : Val) (w : World) (m : Tr Ao) : Prop where
  ok : ∀ id o, m.get id = some o → objOk G.F ρ w id o
  lo : ∀ id o, m.get id = some o → wr o = true → G.B ≤ ρ.blk id
  inj : ∀ i j o p, m.get i = some o → m.get j = some p → wr o = true → ρ.blk i = ρ.blk j → i = j
theorem MemOk.holds (h : MemOk G ρ w m) (ids : List Nat) : Holds G.F ρ w m ids := fun id _ o ho => h.ok id o ho
theorem MemOk.lt (h : MemOk G ρ w m) {id : Nat} {ob : Ao} (hg : m.get id = some ob) : ρ.blk id < w.heap.size := objOk_lt (h.ok id ob hg)
theorem MemOk.sub {m' : Tr Ao} (h : MemOk G ρ w m) (hs : ∀ id o, m'.get id = some o → m.get id = some o) : MemOk G ρ w m' :=
  ⟨fun i o ho => h.ok i o (hs i o ho), fun i o ho hw => h.lo i o (hs i o ho) hw, fun i j o p ho hp hw e => h.inj i j o p (hs i o ho) (hs j p hp) hw e⟩
theorem MemOk.new {i : Nat} {ob : Ao} (h : MemOk G ρ w m) (he : Ext w w') (hB : G.B ≤ w.heap.size) (hi : w.heap.size ≤ ρ.blk i) (ho : objOk G.F ρ w' i ob) : MemOk G ρ w' (Tr.set (some ob) 40 i m) := by
  have hbl : Below G.B w w' := he.mono hB
  refine ⟨fun id q hq => ?_, fun id q hq hw => ?_, fun j k q p hq hp hw e => ?_⟩
  · rcases Tr.get_set _ _ _ _ hq with ⟨rfl, e⟩ | ⟨_, hq⟩
    · injection e with e; subst e; exact ho
    · exact objOk_kp (h.ok id q hq) (he.block _ (h.lt hq)) hbl
  · rcases Tr.get_set _ _ _ _ hq with ⟨rfl, e⟩ | ⟨_, hq⟩
    · omega
    · exact h.lo id q hq hw
  · rcases Tr.get_set _ _ _ _ hq with ⟨rfl, e1⟩ | ⟨n1, hq1⟩ <;> rcases Tr.get_set _ _ _ _ hp with ⟨rfl, e2⟩ | ⟨n2, hp1⟩
    · rfl
    · have := h.lt hp1; omega
    · have := h.lt hq1; omega
    · exact h.inj j k q p hq1 hp1 hw e
/-- one object is another one -/
theorem MemOk.put {i : Nat} {ob ob' : Ao} (h : MemOk G ρ w m) (hg : m.get i = some ob) (hwi : wr ob = true) (he : But (ρ.blk i) w w') (ho : objOk G.F ρ w' i ob') : MemOk G ρ w' (Tr.set (some ob') 40 i m) ∧ Below G.B w w' := by
  have hbl : Below G.B w w' := he.below (Nat.le_trans (h.lo i ob hg hwi) (Nat.le_of_lt (h.lt hg))) (h.lo i ob hg hwi)
  refine ⟨⟨fun id q hq => ?_, fun id q hq hw => ?_, fun j k q p hq hp hw e => ?_⟩, hbl⟩
  · rcases Tr.get_set _ _ _ _ hq with ⟨rfl, e⟩ | ⟨hne, hq⟩
    · injection e with e; subst e; exact ho
    · exact objOk_kp (h.ok id q hq) (he.block _ (h.lt hq) (fun e => hne (h.inj i id ob q hg hq hwi (by injection e with e; exact e.symm)).symm)) hbl
  · rcases Tr.get_set _ _ _ _ hq with ⟨rfl, e⟩ | ⟨_, hq⟩
    · exact h.lo _ _ hg hwi
    · exact h.lo id q hq hw
  · rcases Tr.get_set _ _ _ _ hq with ⟨rfl, e1⟩ | ⟨n1, hq1⟩ <;> rcases Tr.get_set _ _ _ _ hp with ⟨rfl, e2⟩ | ⟨n2, hp1⟩
    · rfl
    · exact absurd (h.inj _ _ _ _ hg hp1 hwi e).symm n2
    · exact absurd (h.inj _ _ _ _ hq1 hg hw e) n1
    · exact h.inj j k q p hq1 hp1 hw e
theorem MemOk.del {i : Nat} (h : MemOk G ρ w m) : MemOk G ρ w (Tr.set none 40 i m) := h.sub fun id q hq => by
  rcases Tr.get_set _ _ _ _ hq with ⟨_, e⟩ | ⟨_, hq⟩
  · cases e
  · exact hq
/-- a row that was appended to: the old name is gone -/
theorem MemOk.app {i j : Nat} {ob ob' : Ao} (h : MemOk G ρ w m) (hg : m.get i = some ob) (hwi : wr ob = true) (hj : ρ.blk j = ρ.blk i) (he : But (ρ.blk i) w w') (ho : objOk G.F ρ w' j ob') : MemOk G ρ w' (Tr.set (some ob') 40 j (Tr.set none 40 i m)) ∧ Below G.B w w' := by
  have hbl : Below G.B w w' := he.below (Nat.le_trans (h.lo i ob hg hwi) (Nat.le_of_lt (h.lt hg))) (h.lo i ob hg hwi)
  have old : ∀ id q, (Tr.set (none : Option Ao) 40 i m).get id = some q → id ≠ i ∧ m.get id = some q := fun id q hq => by
    rcases Tr.get_set _ _ _ _ hq with ⟨_, e⟩ | hq
    · cases e
    · exact hq
  have far : ∀ id q, (Tr.set (none : Option Ao) 40 i m).get id = some q → ρ.blk id ≠ ρ.blk i := fun id q hq e => (old id q hq).1 (h.inj i id ob q hg (old id q hq).2 hwi e.symm).symm
  refine ⟨⟨fun id q hq => ?_, fun id q hq hw => ?_, fun k l q p hq hp hw e => ?_⟩, hbl⟩
  · rcases Tr.get_set _ _ _ _ hq with ⟨rfl, e⟩ | ⟨hne, hq⟩
    · injection e with e; subst e; exact ho
    · exact objOk_kp (h.ok id q (old id q hq).2) (he.block _ (h.lt (old id q hq).2) (fun e => far id q hq (by injection e))) hbl
  · rcases Tr.get_set _ _ _ _ hq with ⟨rfl, e⟩ | ⟨_, hq⟩
    · rw [hj]; exact h.lo _ _ hg hwi
    · exact h.lo id q (old id q hq).2 hw
  · rcases Tr.get_set _ _ _ _ hq with ⟨rfl, e1⟩ | ⟨n1, hq1⟩ <;> rcases Tr.get_set _ _ _ _ hp with ⟨rfl, e2⟩ | ⟨n2, hp1⟩
    · rfl
    · exact absurd (e.symm.trans hj) (far _ _ hp1)
    · exact absurd (e.trans hj) (far _ _ hq1)
    · exact h.inj k l q p (old _ _ hq1).2 (old _ _ hp1).2 hw e
/-! operations that yield a value -/
structure CxOk (G : Fb) (c : Cx) : Prop where
  mixed : c.P.follows .mixedOrders = true
  ext : ∀ f vs v, c.e f vs = some v → ∀ ρ w, (callFunc f (concs G.F ρ vs).toArray).run c.P w = .ok (.value (conc G.F ρ v)) w
theorem entryA_mem {b : Nat} : ∀ {es : List (AV × AV × Nat)}, entryA b es = some r → ∃ e ∈ es, r = .tup [e.1, e.2.1] ∧ (es.map (entC G.F ρ)).find? (fun x => x.born == b) = some (entC G.F ρ e)
  | [], h => by simp [entryA] at h
  | (k, v, n) :: l, h => by
    simp only [entryA] at h
    cases hb : Nat.beq n b with
    | true =>
      simp only [hb, cond_true] at h
      injection h with h
      have := Nat.eq_of_beq_eq_true hb
      exact ⟨(k, v, n), by simp, h.symm, by simp [entC, this]⟩
    | false =>
      simp only [hb, cond_false] at h
      obtain ⟨e, h1, h2, h3⟩ := entryA_mem h
      have hne : ¬ n = b := fun e => by subst e; simp at hb
      exact ⟨e, by simp [h1], h2, by rw [List.map_cons, List.find?_cons_of_neg (by simp [entC, hne])]; exact h3⟩
theorem d_entry (hs : Sy G.F ρ a E) (ho : o.op = .entry x) (hm : MemOk G ρ w m) (h : rEntry m (evA E x) = some r) : Does P a o w (conc G.F ρ r) := by
  unfold rEntry at h
  split at h
  · rename_i id h1
    split at h
    · rename_i mm since seen last h2
      split at h
      · rename_i es c b h3 h4
        cases hb : Nat.beq c last with
        | false => simp [hb] at h
        | true =>
          obtain rfl := Nat.eq_of_beq_eq_true hb
          simp only [hb, cond_true] at h
          obtain ⟨e, h5, h6, h7⟩ := entryA_mem (G := G) (ρ := ρ) h
          have g1 := hm.ok id _ h2
          have g2 := hm.ok mm _ h3
          have r1 : (getObj (ρ.blk id)).run P w = .ok (.mapIter (some (ρ.blk mm)) since seen.toArray c) w := by
            have : w.heap[ρ.blk id]? = _ := g1
            simp [getObj, Sem.run, this]
          have r2 : (getObj (ρ.blk mm)).run P w = .ok (.map (es.map (entC G.F ρ)).toArray c) w := run_getO g2
          subst h6
          have h8 : seen.toArray.back? = some b := by simp [h4]
          simp [Does, execOp, ho, hs.ev h1, conc, concs, Instr.entry, r1, h8, r2, h7, entC]
      · cases h
    · cases h
  · cases h
theorem xbinop_v {P : Program} {s : St} {op : BinOp} {t : TypeId} {c : Bool} {a b : Option AV} {v : AV} (h : xbinop P s op t c a b = .v v) : rBin P op t c a b = some v := by
  unfold xbinop at h
  split at h
  · rename_i u hu
    injection h with h; rw [hu, h]
  · cases hb : ysB op a b <;> rw [hb] at h <;> cases h
theorem xbinop_m {P : Program} {s s' : St} {op : BinOp} {t : TypeId} {c : Bool} {a b : Option AV} {v : AV} (h : xbinop P s op t c a b = .m v s') : False := by
  unfold xbinop at h
  split at h
  · cases h
  · cases hb : ysB op a b <;> rw [hb] at h <;> cases h
theorem xbinop_d {P : Program} {s : St} {op : BinOp} {t : TypeId} {c : Bool} {a b : Option AV} {v : AV} (h : xbinop P s op t c a b = .d v) : False := by
  unfold xbinop at h
  split at h
  · cases h
  · cases hb : ysB op a b <;> rw [hb] at h <;> cases h
theorem xbinop_l {P : Program} {s : St} {op : BinOp} {t : TypeId} {c : Bool} {a b : Option AV} {l : List (AV × St)} (h : xbinop P s op t c a b = .l l) : ysB op a b = true ∧ l = [(.bool false, s), (.bool true, s)] := by
  unfold xbinop at h
  split at h
  · cases h
  · cases hb : ysB op a b
    · rw [hb] at h; cases h
    · rw [hb] at h; injection h with h; exact ⟨rfl, h.symm⟩
theorem rv_v {u : Option AV} {v : AV} (h : rv u = .v v) : u = some v := by cases u <;> simp_all [rv]
theorem rm_v {u : Option (AV × St)} {v : AV} (h : rm u = .v v) : False := by cases u <;> simp_all [rm]
theorem rl_v {u : Res} {v : AV} (h : rl u = .v v) : False := by cases u <;> simp_all [rl]
/-- an operation that yields a value -/
theorem xop_v {c : Cx} {rec : Callee} {s : St} {op : Op} {v : AV} (ok : CxOk G c) (hs : Sy G.F ρ a E) (hm : (quietOp c op = true ∧ Holds G.F ρ w s.mem (fpOf E op)) ∨ MemOk G ρ w s.mem) (ho : o.op = op) (h : xop c rec s E op = .v v) : Does c.P a o w (conc G.F ρ v) := by
  have hm' : Holds G.F ρ w s.mem (fpOf E op) := by
    rcases hm with h | h
    · exact h.2
    · exact h.holds _
  cases op <;> simp only [xop] at h
  case move x => exact d_move hs ho (rv_v h)
  case assign x => exact d_assign hs ho (rv_v h)
  case pick z x y => exact d_pick hs ho (rv_v h)
  case nilCheck x => exact d_nil hs ho (rv_v h)
  case binOp op t x y t2 => exact d_bin hs ho (xbinop_v h)
  case unOp op t x => exact d_un hs ho (rv_v h)
  case convert t t2 x =>
    unfold xconv at h
    cases hb : isSliceT (c.P.underlying t2) with
    | true => simp only [hb, cond_true] at h; exact (rm_v h).elim
    | false => simp only [hb, cond_false] at h; exact d_conv hs ho hm' (rv_v h)
  case sliceToArrayPointer t x => exact d_s2p hs ho (rv_v h)
  case makeInterface t x => exact d_mkif hs ho (rv_v h)
  case makeFunc f p q => exact d_mkfn hs ho (rv_v h)
  case slice t x lo hi mx => exact d_sliceU hs ho (rv_v h)
  case fieldAddr t x f => exact d_fld hs ho (rv_v h)
  case field t x f => exact d_field hs ho (rv_v h)
  case indexAddr t x i => exact d_idx hs ho (rv_v h)
  case index t x i => exact d_index hs ho (rv_v h)
  case lookup t x k q =>
    rcases hm with hq | hM
    · cases hq.1
    · exact d_look hs ho (hM.holds _) (rv_v h)
  case extract x i => exact d_ext hs ho (rv_v h)
  case typeAssert x xt d q => exact d_ass hs ho (rv_v h)
  case load t x => exact d_load hs ho hm' (rv_v h)
  case build t ps => exact d_build hs ho (rv_v h)
  case entry x =>
    rcases hm with hq | hM
    · cases hq.1
    · exact d_entry hs ho hM (rv_v h)
  case call q =>
    unfold xcallop at h
    split at h
    · rename_i f hf
      unfold xfun at h
      split at h
      · rename_i g vs h1 h2
        split at h
        · rename_i v' he
          injection h with h; subst h
          split at he
          · rename_i f'
            have h3 := hs.evsA h2
            have := ok.ext f' vs v' he ρ w
            simp [Does, execOp, ho, resolve, hf, h3, Act.eval, Deferred.ofValue, invoke, this]
          · cases he
        · exact (rl_v h).elim
      · cases h
    · cases h
    · rename_i b hb
      split at h
      · refine d_lenU (m := s.mem) hs ho hb (fun x hx => ?_) (rv_v h)
        have : fpOf E (.call q) = idOf E x := by simp [fpOf, hx]
        rw [← this]; exact hm'
      · exact d_cap hs ho hb (rv_v h)
      · exact d_minU hs ho hb (rv_v h)
      · exact d_max hs ho hb (rv_v h)
      all_goals first | exact (rm_v h).elim | cases h
  case defer q =>
    unfold xdefer at h
    split at h
    · split at h <;> cases h
    · cases h
  case makeMap t r => cases r <;> simp [rm] at h
  case next x b => cases b <;> simp only at h <;> first | exact (rl_v h).elim | cases h
  all_goals first | exact (rm_v h).elim | cases h
end
end Go.Proofs.AL.Rx
/- RV, soundness, seventh part: operations that make or turn memory. -/
set_option linter.unusedVariables false
set_option linter.unusedSimpArgs false
namespace Go.Proofs.AL.Rx
open Go Go.RowKit
/-- where the new name lies -/
def NewAt (ρ : Val) (i : Nat) : Value → Prop
  | .pointer (some ad) => ρ.blk i = ad.block
  | .slice (some ad) n c => ρ.blk i = ad.block ∧ ρ.cap i = c - n
  | .map (some g) => ρ.blk i = g
  | _ => True
def Ran (P : Program) (a : Act) (o : Oper) (w : World) (u : Value) (w' : World) : Prop := (execOp a.eval o).run P w = .ok (.value u) w' ∨ ((execOp a.eval o).run P w = .ok .skip w' ∧ u = undef)
structure MSG (N : Value → Prop) (G : Fb) (ρ : Val) (P : Program) (a : Act) (o : Oper) (w : World) (v : AV) (m' : Tr Ao) (u : Value) (w' : World) : Prop where
  ran : Ran P a o w u w'
  below : Below G.B w w'
  size : w.heap.size ≤ w'.heap.size
  val : N u → u = conc G.F ρ v ∧ MemOk G ρ w' m'
/-- with a new name -/
abbrev MS (G : Fb) (ρ : Val) (P : Program) (a : Act) (o : Oper) (w : World) (i : Nat) (v : AV) (m' : Tr Ao) (u : Value) (w' : World) : Prop := MSG (NewAt ρ i) G ρ P a o w v m' u w'
/-- without -/
abbrev MS0 (G : Fb) (ρ : Val) (P : Program) (a : Act) (o : Oper) (w : World) (v : AV) (m' : Tr Ao) (u : Value) (w' : World) : Prop := MSG (fun _ => True) G ρ P a o w v m' u w'
section
variable {G : Fb} {ρ : Val} {P : Program} {w w' W : World} {a : Act} {E : VEnv} {o : Oper} {x y z : Operand} {t t2 ty : TypeId} {r : AV} {m : Tr Ao} {s s' : St} {v : AV}
theorem ext_alloc_below (hB : G.B ≤ w.heap.size) (ob : Obj) : Below G.B w (w.alloc ob) := (Ext.alloc w ob).mono hB
theorem conc_cellsA (v : AV) : (conc G.F ρ v).cells = (concs G.F ρ v.cells).toArray := by
  have := conc_cellsL (F := G.F) (ρ := ρ) v
  unfold cellsL at this
  rw [← this]
theorem g_alloc (hm : MemOk G ρ w s.mem) (hB : G.B ≤ w.heap.size) (ho : o.op = .alloc t) (h : mAlloc s t (zeroA P t) = some (v, s')) : ∃ u w', MS G ρ P a o w s.nx v s'.mem u w' ∧ s'.nx = s.nx + 1 := by
  unfold mAlloc at h
  split at h
  · rename_i z hz
    cases hb : z.cells.all AV.flat with
    | false => simp [hb] at h
    | true =>
      simp only [hb, cond_true] at h
      injection h with h; injection h with h1 h2; subst h1 h2
      obtain ⟨zv, h3, h4⟩ := Option.bind_eq_some_iff.1 hz
      obtain ⟨i, hi, h3⟩ := Option.bind_eq_some_iff.1 h3
      have h5 := ofV_conc (F := G.F) (ρ := ρ) zv z h4
      refine ⟨.pointer (some ⟨w.heap.size, 0, none⟩), w.alloc (.cells zv.cells t), ⟨.inl ?_, ext_alloc_below hB _, by simp, fun hn => ⟨?_, hm.new (Ext.alloc w _) hB ?_ ?_⟩⟩, rfl⟩
      · simp [execOp, ho, Instr.alloc, zeroValue, typeInfo, hi, h3, newVar, run_newRow]
      · simp [conc]; exact hn.symm
      · rw [hn]; exact Nat.le_refl _
      · show (w.alloc _).heap[ρ.blk s.nx]? = _
        rw [hn, ← conc_cellsA, h5]
        exact heap_alloc_new w _
  · cases h
theorem g_box (hs : Sy G.F ρ a E) (hm : MemOk G ρ w s.mem) (hB : G.B ≤ w.heap.size) (ho : o.op = .box t x) (h : mAlloc s t (evA E x) = some (v, s')) : ∃ u w', MS G ρ P a o w s.nx v s'.mem u w' ∧ s'.nx = s.nx + 1 := by
  unfold mAlloc at h
  split at h
  · rename_i z hz
    cases hb : z.cells.all AV.flat with
    | false => simp [hb] at h
    | true =>
      simp only [hb, cond_true] at h
      injection h with h; injection h with h1 h2; subst h1 h2
      refine ⟨.pointer (some ⟨w.heap.size, 0, none⟩), w.alloc (.cells (conc G.F ρ z).cells t), ⟨.inl ?_, ext_alloc_below hB _, by simp, fun hn => ⟨?_, hm.new (Ext.alloc w _) hB ?_ ?_⟩⟩, rfl⟩
      · simp [execOp, ho, hs.ev hz, Instr.box, newVar, run_newRow]
      · simp [conc]; exact hn.symm
      · rw [hn]; exact Nat.le_refl _
      · show (w.alloc _).heap[ρ.blk s.nx]? = _
        rw [hn, ← conc_cellsA]
        exact heap_alloc_new w _
  · cases h
/-! stores -/
theorem storeA_spec {id off : Nat} {vs : List AV} (h : storeA s id off vs = some s') : ∃ t cs more, s.mem.get id = some (.cells t cs more) ∧ off + vs.length ≤ cs.length ∧ vs.all AV.flat = true ∧ s' = s.put id (.cells t (setAt cs off vs) more) := by
  unfold storeA at h
  split at h
  · rename_i t cs more hg
    cases hb : Nat.ble (off + vs.length) cs.length && vs.all AV.flat with
    | false => simp [hb] at h
    | true =>
      simp only [hb, cond_true] at h
      injection h with h
      simp only [Bool.and_eq_true] at hb
      exact ⟨t, cs, more, hg, Nat.le_of_ble_eq_true hb.1, hb.2, h.symm⟩
  · cases h
theorem setAt_len {l vs : List AV} {n : Nat} (h : n + vs.length ≤ l.length) : (setAt l n vs).length = l.length := by
  simp [setAt]; omega
theorem store_run {id off : Nat} {vs : List AV} (hm : MemOk G ρ w s.mem) (h : storeA s id off vs = some s') :
    ∃ w', (storeCells ⟨ρ.blk id, off, none⟩ (concs G.F ρ vs) 0).run P w = .ok () w' ∧ MemOk G ρ w' s'.mem ∧ Below G.B w w' ∧ w'.heap.size = w.heap.size := by
  obtain ⟨t, cs, more, hg, hl, hf, rfl⟩ := storeA_spec h
  have hob := hm.ok id _ hg
  have h1 := concs_one (F := G.F) (ρ := ρ) hf
  cases more with
  | none =>
    obtain ⟨W', h2, h3, h4, h5⟩ := run_storeCells_blk (P := P) (g := ρ.blk id) (ti := t) (concs G.F ρ vs) 0 off (concs G.F ρ cs) w hob (by simp; exact hl) h1
    have h6 : objOk G.F ρ W' id (.cells t (setAt cs off vs) none) := by
      show W'.heap[ρ.blk id]? = _
      rw [setAt_conc]
      simpa [Blk] using h5
    have h7 := hm.put hg rfl h3 h6
    exact ⟨W', h2, h7.1, h7.2, h4⟩
  | some sz =>
    obtain ⟨rest, n, hb, e1, e2, e3⟩ := hob
    obtain ⟨W', h2, h3, h4, h5⟩ := run_storeCells_blk (P := P) (g := ρ.blk id) (ti := t) (concs G.F ρ vs) 0 off (concs G.F ρ cs ++ rest) w hb (by simp; omega) h1
    have h6 : objOk G.F ρ W' id (.cells t (setAt cs off vs) (some sz)) := by
      refine ⟨rest, n, ?_, by rw [setAt_len hl]; exact e1, e2, e3⟩
      have h5' : W'.heap[ρ.blk id]? = _ := h5
      rw [h5', setAt_conc]
      congr 2
      simp only [Nat.add_zero, concs_len]
      rw [List.take_append_of_le_length (by simp; omega), List.drop_append_of_le_length (by simp; omega)]
      simp
    have h7 := hm.put hg rfl h3 h6
    exact ⟨W', h2, h7.1, h7.2, h4⟩
theorem g_store (hs : Sy G.F ρ a E) (hm : MemOk G ρ w s.mem) (ho : o.op = .store t x y) (h : mStore P s t (evA E x) (evA E y) = some (v, s')) : ∃ u w', MS0 G ρ P a o w v s'.mem u w' ∧ s'.nx = s.nx := by
  unfold mStore at h
  split at h
  · rename_i id off u hx hy
    split at h
    · rename_i n hz
      cases hb : Nat.beq u.cells.length n with
      | false => simp [hb] at h
      | true =>
        obtain rfl := Nat.eq_of_beq_eq_true hb
        simp only [hb, cond_true] at h
        obtain ⟨s1, h1, h2⟩ := Option.map_eq_some_iff.1 h
        injection h2 with h2 h3; subst h2 h3
        obtain ⟨w', h4, h5, h6, h7⟩ := store_run (P := P) hm h1
        refine ⟨undef, w', ⟨.inr ⟨?_, rfl⟩, h6, by omega, fun _ => ⟨rfl, h5⟩⟩, ?_⟩
        · have h8 : (conc G.F ρ u).cells.size = u.cells.length := by rw [conc_cellsA]; simp
          have h9 : (conc G.F ρ u).cells.toList = concs G.F ρ u.cells := by rw [conc_cellsA]
          simp [execOp, ho, hs.ev hx, hs.ev hy, conc, Instr.storeAt, Instr.sureAddr, storeVar, run_size hz, h8, h9, h4]
        · obtain ⟨_, _, _, _, _, _, rfl⟩ := storeA_spec h1; rfl
    · cases h
  · cases h
theorem repA_snoc (zs : List AV) : ∀ n, repA zs (n + 1) = repA zs n ++ zs
  | 0 => by simp [repA]
  | n + 1 => by
    have := repA_snoc zs n
    show zs ++ repA zs (n + 1) = (zs ++ repA zs n) ++ zs
    rw [this, List.append_assoc]
theorem repA_len (zs : List AV) : ∀ n, (repA zs n).length = n * zs.length
  | 0 => by simp [repA]
  | n + 1 => by rw [repA, List.length_append, repA_len zs n, Nat.add_mul]; omega
theorem rep_cells (zs : List AV) (sz : Nat) (hz : zs.length = sz) : ∀ n, ((Array.range (n * sz)).map ((concs G.F ρ zs).toArray[· % (concs G.F ρ zs).toArray.size]!)).toList = concs G.F ρ (repA zs n) := by
  intro n
  induction n with
  | zero => simp [repA, concs]
  | succ n ih =>
    rw [repA_snoc, concs_append, ← ih]
    simp only [Array.toList_map, Array.toList_range]
    rw [Nat.add_mul, Nat.one_mul, List.range_add, List.map_append]
    congr 1
    apply List.ext_getElem?
    intro i
    simp only [List.map_map, List.getElem?_map, List.size_toArray, concs_len, hz]
    by_cases hi : i < sz
    · have h1 : (n * sz + i) % sz = i := by rw [Nat.mul_comm, Nat.mul_add_mod]; exact Nat.mod_eq_of_lt hi
      have h2 : i < (concs G.F ρ zs).length := by simp [hz, hi]
      simp [List.getElem?_range hi, h1, List.getElem?_eq_getElem h2]
    · rw [List.getElem?_eq_none (by simp; omega), List.getElem?_eq_none (by simp [hz]; omega)]
      rfl
theorem concP_eval {ps : Array (Nat × Operand)} {vs : List (Nat × AV)} (hs : Sy G.F ρ a E) (h1 : evAps E ps.toList = some vs) : ps.map (fun p : Nat × Operand => (p.1, a.eval p.2)) = (concP G.F ρ vs).toArray := by
  apply Array.ext'
  rw [Array.toList_map, hs.evps h1]
theorem g_lit {len : Nat} {ps : Array (Nat × Operand)} (hs : Sy G.F ρ a E) (hm : MemOk G ρ w s.mem) (hB : G.B ≤ w.heap.size) (ho : o.op = .buildSlice t len ps) (h : mLit P s t len (evAps E ps.toList) = some (v, s')) : ∃ u w', MS G ρ P a o w s.nx v s'.mem u w' ∧ s'.nx = s.nx + 1 := by
  unfold mLit at h
  split at h
  · rename_i vs h1
    split at h
    · rename_i e ht
      split at h
      · rename_i sz z hz h2
        cases hb : Nat.beq z.cells.length sz && Nat.ble (len * sz) 1000000 && z.cells.all AV.flat with
        | false => simp [hb] at h
        | true =>
          simp only [hb, cond_true] at h
          simp only [Bool.and_eq_true] at hb
          have b1 := Nat.eq_of_beq_eq_true hb.1.1
          have b2 := Nat.le_of_ble_eq_true hb.1.2
          obtain ⟨cs, hc, h3⟩ := Option.map_eq_some_iff.1 h
          injection h3 with h3 h4; subst h3 h4
          obtain ⟨zv, h5, h6⟩ := Option.bind_eq_some_iff.1 h2
          obtain ⟨i, hi, h5⟩ := Option.bind_eq_some_iff.1 h5
          have hsz : i.size = sz := by
            obtain ⟨i', hi', e⟩ := Option.map_eq_some_iff.1 hz
            rw [hi] at hi'; injection hi' with hi'; rw [hi']; exact e
          have h7 := ofV_conc (F := G.F) (ρ := ρ) zv z h6
          have h8 : zv.cells = (concs G.F ρ z.cells).toArray := by rw [← h7, conc_cellsA]
          have h9 := buildA_put (F := G.F) (ρ := ρ) _ vs _ cs hc
          have h10 := rep_cells (G := G) (ρ := ρ) z.cells sz b1 len
          have h11 : litCells P t len (concP G.F ρ vs) = some (concs G.F ρ cs) := by
            unfold litCells
            simp only [ht, hi, hsz]
            rw [if_neg (by omega)]
            simp only [h5, h8]
            rw [fill_putL (fun j => some (j * sz, sz)) ((List.range len).map fun i => (i * sz, sz)) ?_ (concP G.F ρ vs) _ (concs G.F ρ cs) (by rw [h10]; exact h9)]
            · rfl
            · intro i p hp
              rw [List.getElem?_map] at hp
              obtain ⟨j, hj, rfl⟩ := Option.map_eq_some_iff.1 hp
              have := (List.getElem?_eq_some_iff.1 hj).2
              simp at this; subst this; rfl
          have h12 := run_buildSlice ht h11 w
          rw [← concP_eval hs h1] at h12
          refine ⟨.slice (some ⟨w.heap.size, 0, none⟩) len len, w.alloc (.cells (concs G.F ρ cs).toArray e), ⟨.inl ?_, ext_alloc_below hB _, by simp, fun hn => ⟨?_, hm.new (Ext.alloc w _) hB ?_ ?_⟩⟩, rfl⟩
          · simp only [execOp, ho, Sem.run_bind, h12, Result.andThen_ok, Sem.run_pure]
          · simp [conc]; exact hn.1.symm
          · rw [hn.1]; exact Nat.le_refl _
          · show (w.alloc _).heap[ρ.blk s.nx]? = _
            rw [hn.1]
            exact heap_alloc_new w _
      · cases h
    · cases h
  · cases h
theorem g_make (hs : Sy G.F ρ a E) (hm : MemOk G ρ w s.mem) (hB : G.B ≤ w.heap.size) (ho : o.op = .makeSlice t x y) (h : mMake P s t (evA E x) (evA E y) = some (v, s')) : ∃ u w', MS G ρ P a o w s.nx v s'.mem u w' ∧ s'.nx = s.nx + 1 := by
  unfold mMake at h
  split at h
  · rename_i k n k' c hx hy
    split at h
    · rename_i e ht
      split at h
      · rename_i i z hi h2
        cases hb : decide (0 ≤ n) && decide (n ≤ c) && decide (c ≤ 100000) && Nat.ble i.bytes 10000 && Nat.beq z.cells.length i.size && z.cells.all AV.flat with
        | false => simp [hb] at h
        | true =>
          simp only [hb, cond_true] at h
          simp only [Bool.and_eq_true, decide_eq_true_eq] at hb
          obtain ⟨⟨⟨⟨⟨b1, b2⟩, b3⟩, b4⟩, b5⟩, b6⟩ := hb
          have b4 := Nat.le_of_ble_eq_true b4
          have b5 := Nat.eq_of_beq_eq_true b5
          injection h with h; injection h with h3 h4; subst h3 h4
          obtain ⟨zv, h5, h6⟩ := Option.bind_eq_some_iff.1 h2
          rw [hi] at h5
          simp only [Option.bind_some] at h5
          have h7 := ofV_conc (F := G.F) (ρ := ρ) zv z h6
          have h8 : zv.cells = (concs G.F ρ z.cells).toArray := by rw [← h7, conc_cellsA]
          have hby : (i.bytes : Int) * c ≤ 281474976710656 := by
            have h1 : (i.bytes : Int) * c ≤ 10000 * 100000 := by
              have hc0 : 0 ≤ c := by omega
              have := Int.mul_le_mul (show (i.bytes : Int) ≤ 10000 by omega) b3 hc0 (by omega)
              exact this
            omega
          have h12 := run_make (P := P) w t e i zv ht hi h5 k k' n c b1 b2 hby (by omega)
          have h10 := rep_cells (G := G) (ρ := ρ) z.cells i.size b5 c.toNat
          have h13 : madeCells zv.cells (c.toNat * i.size) = (concs G.F ρ (repA z.cells c.toNat)).toArray := by
            apply Array.ext'
            rw [← h10, h8]; rfl
          rw [h13] at h12
          refine ⟨.slice (some ⟨w.heap.size, 0, none⟩) n.toNat c.toNat, w.alloc (.cells (concs G.F ρ (repA z.cells c.toNat)).toArray e), ⟨.inl ?_, ext_alloc_below hB _, by simp, fun hn => ⟨?_, hm.new (Ext.alloc w _) hB ?_ ?_⟩⟩, rfl⟩
          · simp [execOp, ho, hs.ev hx, hs.ev hy, conc, h12]
          · simp [conc]; exact hn.1.symm
          · rw [hn.1]; exact Nat.le_refl _
          · show (w.alloc _).heap[ρ.blk s.nx]? = _
            rw [hn.1]
            exact heap_alloc_new w _
      · cases h
    · cases h
  · cases h
theorem g_mkmap (hm : MemOk G ρ w s.mem) (hB : G.B ≤ w.heap.size) (ho : o.op = .makeMap t none) (h : some (AV.map s.nx, s.new (.map [] 0)) = some (v, s')) : ∃ u w', MS G ρ P a o w s.nx v s'.mem u w' ∧ s'.nx = s.nx + 1 := by
  injection h with h; injection h with h3 h4; subst h3 h4
  refine ⟨.map (some w.heap.size), w.alloc (.map #[] 0), ⟨.inl ?_, ext_alloc_below hB _, by simp, fun hn => ⟨?_, hm.new (Ext.alloc w _) hB ?_ ?_⟩⟩, rfl⟩
  · simp [execOp, ho, Instr.makeMap, newObj, Sem.run]
  · simp [conc]; exact hn.symm
  · rw [hn]; exact Nat.le_refl _
  · show (w.alloc _).heap[ρ.blk s.nx]? = _
    rw [hn]
    exact heap_alloc_new w _
end
end Go.Proofs.AL.Rx
/- maps with texts for keys, of which some entries are known. -/
set_option linter.unusedVariables false
set_option linter.unusedSimpArgs false
namespace Go.Proofs.AL.Rx
open Go Go.RowKit Go.Proofs.AL
section
variable {P : Program} {w : World}
def setO (w : World) (g : Nat) (ob : Obj) : World := { w with heap := w.heap.setIfInBounds g ob }
theorem run_setM {g : Nat} {es : Array MapEntry} {c : Nat} (ob : Obj) (h : w.heap[g]? = some (.map es c)) : (setObj g ob).run P w = .ok () (setO w g ob) := by simp [setObj, Sem.run, h, setO]
theorem run_setI {g : Nat} {p : Option Nat} {q : Nat} {r : Array Nat} {c : Nat} (ob : Obj) (h : w.heap[g]? = some (.mapIter p q r c)) : (setObj g ob).run P w = .ok () (setO w g ob) := by simp [setObj, Sem.run, h, setO]
theorem but_set (w : World) (g : Nat) (ob : Obj) : But g w (setO w g ob) :=
  ⟨rfl, rfl, rfl, by simp [setO], fun k hk hne => by
    have : g ≠ k := fun e => hne (by rw [e])
    simp [setO, this]⟩
theorem get_set {g : Nat} (h : g < w.heap.size) (ob : Obj) : (setO w g ob).heap[g]? = some ob := by simp [setO, h]
theorem size_set (w : World) (g : Nat) (ob : Obj) : (setO w g ob).heap.size = w.heap.size := by simp [setO]
end
theorem beqB (s t : ByteArray) : (s == t) = decide (s = t) := by
  rw [beq_toListBytes]
  by_cases e : s = t
  · subst e; simp
  · simp only [e, decide_false]
    rw [Bool.eq_false_iff]
    intro h
    exact e (by
      have := eq_of_beq h
      rw [ByteArray.toList_eq, ByteArray.toList_eq] at this
      obtain ⟨⟨s⟩⟩ := s
      obtain ⟨⟨t⟩⟩ := t
      simpa using this)
def isKey (s : ByteArray) : Value → Bool
  | .string t => decide (t = s)
  | _ => false
theorem isKey_iff {s : ByteArray} {v : Value} : isKey s v = true ↔ v = .string s := by
  cases v <;> simp [isKey]
/-- where a text is found -/
def sfind (s : ByteArray) : List MapEntry → Nat → Option (Nat × Value)
  | [], _ => none
  | e :: r, i => if isKey s e.key = true then some (i, e.val) else sfind s r (i + 1)
theorem find_s (s : ByteArray) : ∀ (l : List MapEntry) (i : Nat), SKeys l → Instr.findNow .string (.string s) l i = some (sfind s l i)
  | [], _, _ => rfl
  | e :: r, i, h => by
    obtain ⟨t, ht⟩ := h e (by simp)
    have ih := find_s s r (i + 1) (fun x hx => h x (by simp [hx]))
    simp only [Instr.findNow, ht, Instr.sameNow, sfind]
    by_cases e : s = t
    · subst e; simp [beqB, isKey]
    · simp [beqB, isKey, e, Ne.symm e, ih]
theorem sfind_some {s : ByteArray} : ∀ {l : List MapEntry} {i : Nat} {n : Nat} {v : Value}, sfind s l i = some (n, v) → ∃ j e, n = i + j ∧ l[j]? = some e ∧ e.key = .string s ∧ e.val = v
  | [], _, _, _, h => by cases h
  | e :: r, i, n, v, h => by
    simp only [sfind] at h
    split at h
    · rename_i he
      injection h with h; injection h with h1 h2
      exact ⟨0, e, h1.symm, rfl, isKey_iff.1 he, h2⟩
    · obtain ⟨j, e', h1, h2, h3, h4⟩ := sfind_some h
      exact ⟨j + 1, e', by omega, h2, h3, h4⟩
theorem sfind_push {s t : ByteArray} {v u : Value} {c : Nat} : ∀ {l : List MapEntry} {i : Nat}, sfind s l i = none → (∃ n, sfind s (l ++ [⟨.string s, v, c⟩]) i = some (n, v)) 
  | [], i, _ => ⟨i, by simp [sfind, isKey]⟩
  | e :: r, i, h => by
    simp only [sfind] at h
    split at h
    · cases h
    · rename_i he
      obtain ⟨n, hn⟩ := sfind_push (v := v) (c := c) (t := t) (u := u) h
      exact ⟨n, by simp only [List.cons_append, sfind, if_neg he, hn]⟩
theorem sfind_old {s : ByteArray} {x : Nat × Value} (z : List MapEntry) : ∀ {l : List MapEntry} {i : Nat}, sfind s l i = some x → sfind s (l ++ z) i = some x
  | [], i, h => by cases h
  | e :: r, i, h => by
    simp only [List.cons_append, sfind] at h ⊢
    split
    · rename_i he; rw [if_pos he] at h; exact h
    · rename_i he; rw [if_neg he] at h; exact sfind_old z h
/-- an entry is written over -/
theorem sfind_mod {s t : ByteArray} {v : Value} : ∀ {l : List MapEntry} {i n : Nat} {u : Value}, sfind s l i = some (i + n, u) → (∃ k, sfind s (l.modify n fun e => { e with key := .string s, val := v }) i = some (k, v)) ∧ (t ≠ s → sfind t (l.modify n fun e => { e with key := .string s, val := v }) i = sfind t l i)
  | [], _, _, _, h => by cases h
  | e :: r, i, n, u, h => by
    simp only [sfind] at h
    split at h
    · rename_i he
      injection h with h; injection h with h1 h2
      obtain rfl : n = 0 := by omega
      have he := isKey_iff.1 he
      refine ⟨⟨i, by simp [sfind, isKey]⟩, fun hne => ?_⟩
      simp [List.modify_zero_cons, sfind, isKey, he, Ne.symm hne]
    · rename_i he
      obtain ⟨j, e', h1, _⟩ := sfind_some h
      obtain ⟨n, rfl⟩ : ∃ m, n = m + 1 := ⟨n - 1, by omega⟩
      obtain ⟨⟨k, hk⟩, h3⟩ := sfind_mod (s := s) (t := t) (v := v) (l := r) (i := i + 1) (n := n) (u := u) (by rw [h]; congr 2; omega)
      refine ⟨⟨k, by simp only [List.modify_succ_cons, sfind, if_neg he, hk]⟩, fun hne => ?_⟩
      simp only [List.modify_succ_cons, sfind, h3 hne]
structure StrM (w : World) (m : Nat) (K : List (ByteArray × Value)) : Prop where
  map : ∃ es clk, w.heap[m]? = some (.map es clk) ∧ SKeys es.toList ∧ ∀ p ∈ K, ∃ i, sfind p.1 es.toList 0 = some (i, p.2)
section
variable {P : Program} {w w' : World} {m : Nat} {K K' : List (ByteArray × Value)}
theorem StrM.lt (h : StrM w m K) : m < w.heap.size := by
  obtain ⟨es, clk, h1, _⟩ := h.map
  exact (Array.getElem?_eq_some_iff.1 h1).1
theorem StrM.sub (h : StrM w m K) (hs : ∀ p ∈ K', p ∈ K) : StrM w m K' := by
  obtain ⟨es, clk, h1, h2, h3⟩ := h.map
  exact ⟨es, clk, h1, h2, fun p hp => h3 p (hs p hp)⟩
theorem StrM.of_heap (h : StrM w m K) (he : w'.heap[m]? = w.heap[m]?) : StrM w' m K := by
  obtain ⟨es, clk, h1, h2⟩ := h.map
  exact ⟨es, clk, he.trans h1, h2⟩
theorem StrM.ext (h : StrM w m K) (he : Ext w w') : StrM w' m K := h.of_heap (he.block m h.lt)
theorem StrM.new (h : w.heap[m]? = some (.map #[] 0)) : StrM w m [] := ⟨#[], 0, h, fun x hx => by simp at hx, fun p hp => by cases hp⟩
theorem run_skey {kt : TypeId} (hd : P.underlying kt = some .string) (s : ByteArray) (e : Bool) : (Instr.checkKey e 10000 kt (.string s)).run P w = .ok () w := by
  unfold Instr.checkKey
  simp only [Sem.run_bind, run_underlying hd, Result.andThen_ok]
  rfl
theorem StrM.put (h : StrM w m K) {t kt et : TypeId} (ht : P.underlying t = some (.map kt et)) (hd : P.underlying kt = some .string) (s : ByteArray) (v : Value) :
    ∃ w', (Instr.mapUpdate t (.map (some m)) (.string s) v).run P w = .ok () w' ∧ But m w w' ∧ w'.heap.size = w.heap.size ∧ StrM w' m ((s, v) :: K.filter fun p => decide (p.1 ≠ s)) := by
  obtain ⟨es, clk, h1, h2, h3⟩ := h.map
  have hlt := h.lt
  have h4 := find_s s es.toList 0 h2
  have hkey : (Instr.findKey kt (.string s) es.toList).run P w = .ok (sfind s es.toList 0) w := by
    simp only [Instr.findKey, Sem.run_bind, run_underlying hd, Result.andThen_ok, h4, Sem.run_pure]
  cases hf : sfind s es.toList 0 with
  | none =>
    refine ⟨setO w m (.map (es.push ⟨.string s, v, clk⟩) (clk + 1)), ?_, but_set _ _ _, size_set _ _ _, _, _, get_set hlt _, ?_, ?_⟩
    · simp only [Instr.mapUpdate, Sem.run_bind, run_underlying ht, Result.andThen_ok, run_getO h1, run_skey hd, hkey, hf, run_setM _ h1]
    · intro x hx
      simp only [Array.toList_push, List.mem_append, List.mem_singleton] at hx
      rcases hx with hx | rfl
      · exact h2 x hx
      · exact ⟨s, rfl⟩
    · intro p hp
      simp only [Array.toList_push]
      rcases List.mem_cons.1 hp with rfl | hp
      · exact sfind_push (t := s) (u := v) hf
      · obtain ⟨i, hi⟩ := h3 p (List.mem_filter.1 hp).1
        exact ⟨i, sfind_old _ hi⟩
  | some q =>
    obtain ⟨n, u⟩ := q
    obtain ⟨j, e0, e1, e2, e3, e4⟩ := sfind_some hf
    simp only [Nat.zero_add] at e1
    subst e1
    have hget : es[n]? = some e0 := by rw [← Array.getElem?_toList]; exact e2
    refine ⟨setO w m (.map (es.modify n fun e => { e with key := .string s, val := v }) clk), ?_, but_set _ _ _, size_set _ _ _, _, _, get_set hlt _, ?_, ?_⟩
    · simp only [Instr.mapUpdate, Sem.run_bind, run_underlying ht, Result.andThen_ok, run_getO h1, run_skey hd, hkey, hf, Instr.keyThatStays, hget, Option.map_some, Option.getD_some, e3]
      have : Instr.sameBits 10000 (.string s) (.string s) = true := by
        simp only [Instr.sameBits]
        exact (beq_toListBytes _ _).trans (by simp)
      simp [this, run_setM _ h1]
    · intro x hx
      rw [Array.toList_modify] at hx
      obtain ⟨i, hi⟩ := List.getElem?_of_mem hx
      rw [List.getElem?_modify] at hi
      cases hg : es.toList[i]? with
      | none => rw [hg] at hi; simp at hi
      | some y =>
        rw [hg] at hi
        by_cases hni : n = i
        · simp [hni] at hi; rw [← hi]; exact ⟨s, rfl⟩
        · simp [hni] at hi; rw [← hi]; exact h2 y (List.mem_of_getElem? hg)
    · intro p hp
      rw [Array.toList_modify]
      rcases List.mem_cons.1 hp with rfl | hp
      · exact (sfind_mod (t := s) (v := v) (by rw [hf, Nat.zero_add])).1
      · obtain ⟨hp1, hp2⟩ := List.mem_filter.1 hp
        obtain ⟨i, hi⟩ := h3 p hp1
        exact ⟨i, ((sfind_mod (t := p.1) (v := v) (by rw [hf, Nat.zero_add])).2 (by simpa using hp2)).trans hi⟩
end
end Go.Proofs.AL.Rx
/- RV, soundness, eighth part: maps, appends, copies, clears, bytes of a text. -/
set_option linter.unusedVariables false
set_option linter.unusedSimpArgs false
namespace Go.Proofs.AL.Rx
open Go Go.RowKit
section
variable {G : Fb} {ρ : Val} {P : Program} {w w' W : World} {a : Act} {E : VEnv} {o : Oper} {x y z : Operand} {t t2 ty : TypeId} {r : AV} {m : Tr Ao} {s s' : St} {v : AV}
theorem keyEq_true {d : TypeDesc} {k k' : AV} (h : keyEq d k k' = some true) : k = k' := by
  unfold keyEq at h
  split at h
  · split at h
    · rename_i k p j q _ _
      by_cases e : k = j
      · simp [e] at h; rw [e, h]
      · simp [e] at h
    · cases h
  · split at h
    · rw [strOfNums_inj h]
    · cases h
  · cases h
theorem bits_key {d : TypeDesc} {k : AV} (hk : keyD d k = true) (n : Nat) : Instr.sameBits n (conc G.F ρ k) (conc G.F ρ k) = true := by
  unfold keyD at hk
  split at hk
  · simp [conc, Instr.sameBits]
  · simp only [conc, Instr.sameBits]
    exact (beq_toListBytes _ _).trans (by simp)
  · cases hk
/-- what a put does -/
theorem putK_I {d : TypeDesc} {k u : AV} {clock : Nat} : ∀ {es es' : List (AV × AV × Nat)} {c' : Nat} (i : Nat), putK d k u clock es = some (es', c') →
    (∃ n v b, findI d k es i = some (some (i + n, v)) ∧ es[n]? = some (k, v, b) ∧ es' = es.set n (k, u, b) ∧ c' = clock) ∨ (findI d k es i = some none ∧ es' = es ++ [(k, u, clock)] ∧ c' = clock + 1)
  | [], es', c', i, h => by simp [putK] at h; obtain ⟨rfl, rfl⟩ := h; exact .inr ⟨rfl, rfl, rfl⟩
  | (k', v', b) :: r, es', c', i, h => by
    simp only [putK] at h
    cases hk : keyEq d k k' with
    | none => simp [hk] at h
    | some t =>
      simp only [hk] at h
      cases t with
      | true =>
        obtain rfl := keyEq_true hk
        simp only at h; injection h with h; injection h with h1 h2; subst h1 h2
        exact .inl ⟨0, v', b, by simp [findI, hk], rfl, rfl, rfl⟩
      | false =>
        obtain ⟨q, hq, e⟩ := Option.map_eq_some_iff.1 h
        injection e with e1 e2; subst e1 e2
        rcases putK_I (i + 1) hq with ⟨n, v, b', h1, h2, h3, h4⟩ | ⟨h1, h2, h3⟩
        · refine .inl ⟨n + 1, v, b', ?_, by simpa using h2, by simp [h3], h4⟩
          simp only [findI, hk, h1]
          congr 3
          omega
        · exact .inr ⟨by simp [findI, hk, h1], by simp [h2], h3⟩
def textOf : Value → ByteArray
  | .string s => s
  | _ => .empty
theorem g_putM (hs : Sy G.F ρ a E) (hm : MemOk G ρ w s.mem) (ho : o.op = .mapUpdate t x y z ∨ o.op = .insert t x y z) (h : mPutM P s t (evA E x) (evA E y) (evA E z) = some (v, s')) : ∃ u w', MS0 G ρ P a o w v s'.mem u w' ∧ s'.nx = s.nx := by
  unfold mPutM at h
  split at h
  · rename_i id k u hx hy hz
    split at h
    · rename_i kt et ht
      split at h
      · rename_i d es c hd hg
        cases hk : keyD d k with
        | false => simp [hk] at h
        | true =>
          simp only [hk, cond_true] at h
          obtain ⟨⟨es', c'⟩, hp, e⟩ := Option.map_eq_some_iff.1 h
          injection e with e1 e2; subst e1 e2
          have hob : w.heap[ρ.blk id]? = some (.map (es.map (entC G.F ρ)).toArray c) := hm.ok id _ hg
          have hlt := hm.lt hg
          have fin : ∀ (es2 : Array MapEntry), es2 = (es'.map (entC G.F ρ)).toArray → (Instr.mapUpdate t (.map (some (ρ.blk id))) (conc G.F ρ k) (conc G.F ρ u)).run P w = .ok () (setO w (ρ.blk id) (.map es2 c')) →
              ∃ u w', MS0 G ρ P a o w undefA (s.put id (.map es' c')).mem u w' ∧ (s.put id (.map es' c')).nx = s.nx := by
            rintro es2 rfl hrun
            have h7 := hm.put (ob' := .map es' c') hg rfl (but_set w (ρ.blk id) (.map (es'.map (entC G.F ρ)).toArray c')) (get_set hlt _)
            refine ⟨undef, _, ⟨.inr ⟨?_, rfl⟩, h7.2, by rw [size_set]; exact Nat.le_refl _, fun _ => ⟨rfl, h7.1⟩⟩, rfl⟩
            rcases ho with ho | ho <;> simp [execOp, ho, hs.ev hx, hs.ev hy, hs.ev hz, conc, hrun]
          rcases putK_I 0 hp with ⟨n, v0, b, h1, h2, rfl, rfl⟩ | ⟨h1, rfl, rfl⟩
          · have h3 := findI_now (F := G.F) (ρ := ρ) h1
            have h5 := run_findK (w := w) hd h3
            have hn : n < es.length := (List.getElem?_eq_some_iff.1 h2).1
            have hn' := (List.getElem?_eq_some_iff.1 h2).2
            refine fin _ ?_ (?_ : _ = Result.ok () (setO w (ρ.blk id) (.map ((es.map (entC G.F ρ)).toArray.modify n fun e => { e with key := conc G.F ρ k, val := conc G.F ρ u }) c')))
            · apply Array.ext'
              apply List.ext_getElem?
              intro i
              simp only [Array.toList_modify]
              simp only [List.getElem?_map, List.getElem?_set, List.getElem?_modify]
              by_cases hin : n = i
              · subst hin
                have hn2 : es[n] = (k, v0, b) := hn'
                simp [hn, hn2, entC]
              · simp [hin]
            · have hkk : ((((es.map (entC G.F ρ)).toArray)[n]?).map (·.key)).getD (conc G.F ρ k) = conc G.F ρ k := by simp [h2, entC]
              simp only [Nat.zero_add, Option.map_some] at h5
              simp only [Instr.mapUpdate, Sem.run_bind, run_underlying ht, Result.andThen_ok, run_getO hob, run_key hd hk, h5, Instr.keyThatStays]
              rw [hkk]
              simp [bits_key hk, run_setM _ hob]
          · have h3 := findI_now (F := G.F) (ρ := ρ) h1
            have h5 := run_findK (w := w) hd h3
            refine fin _ ?_ (?_ : _ = Result.ok () (setO w (ρ.blk id) (.map ((es.map (entC G.F ρ)).toArray.push { key := conc G.F ρ k, val := conc G.F ρ u, born := c }) (c + 1))))
            · apply Array.ext'; simp [entC]
            · simp only [Instr.mapUpdate, Sem.run_bind, run_underlying ht, Result.andThen_ok, run_getO hob, run_key hd hk, h5, Option.map_none, run_setM _ hob]
      · rename_i es hd hg
        split at h
        · rename_i ks
          injection h with h; injection h with e1 e2; subst e1 e2
          obtain ⟨ents, cl, h1, h2, h3⟩ := hm.ok id _ hg
          have hst : StrM w (ρ.blk id) (es.map fun e => (textOf (conc G.F ρ e.1), conc G.F ρ e.2)) := by
            refine ⟨ents, cl, h1, h3, fun p hp => ?_⟩
            obtain ⟨e, he, rfl⟩ := List.mem_map.1 hp
            obtain ⟨t, i, e5, h5⟩ := h2 e.1 e.2 he
            rw [e5] at h5 ⊢
            simp only [conc, textOf] at h5 ⊢
            rw [find_s _ _ 0 h3] at h5
            injection h5 with h5
            exact ⟨i, h5⟩
          obtain ⟨w', hrun, hbut, hsz, hst'⟩ := hst.put ht hd (strOfNums ks) (conc G.F ρ u)
          obtain ⟨ents', cl', g1, g2, g3⟩ := hst'.map
          have h7 := hm.put (w' := w') (ob' := .look ((.str ks, u) :: es.filter fun e => isNo (keyEq .string (.str ks) e.1))) hg rfl hbut ⟨ents', cl', g1, fun k' v' hkv => ?_, g2⟩
          · refine ⟨undef, w', ⟨.inr ⟨?_, rfl⟩, h7.2, Nat.le_of_eq hsz.symm, fun _ => ⟨rfl, h7.1⟩⟩, rfl⟩
            rcases ho with ho | ho <;> simp [execOp, ho, hs.ev hx, hs.ev hy, hs.ev hz, conc, hrun]
          · rcases List.mem_cons.1 hkv with e | hkv
            · injection e with e1 e2; subst e1 e2
              obtain ⟨i, hi⟩ := g3 _ List.mem_cons_self
              exact ⟨ks, i, rfl, by simp only [conc]; rw [find_s _ _ 0 g2, hi]⟩
            · obtain ⟨m1, m2⟩ := List.mem_filter.1 hkv
              obtain ⟨t, i0, e5, _⟩ := h2 k' v' m1
              subst e5
              have hne : strOfNums t ≠ strOfNums ks := by
                simp only [keyEq] at m2
                unfold isNo at m2
                split at m2
                · rename_i h8
                  intro e
                  refine strOfNums_ne h8 ?_
                  have := congrArg (fun b : ByteArray => b.data.toList) e.symm
                  simpa [strOfNums_data] using this
                · cases m2
              obtain ⟨i, hi⟩ := g3 (strOfNums t, conc G.F ρ v') (List.mem_cons_of_mem _ (List.mem_filter.2 ⟨List.mem_map.2 ⟨_, m1, rfl⟩, by simpa using hne⟩))
              exact ⟨t, i, rfl, by simp only [conc]; rw [find_s _ _ 0 g2, hi]⟩
        · cases h
      · cases h
    · cases h
  · cases h
theorem delK_I {d : TypeDesc} {k : AV} : ∀ {es es' : List (AV × AV × Nat)} (i : Nat), delK d k es = some es' →
    (∃ n v, findI d k es i = some (some (i + n, v)) ∧ es' = es.eraseIdx n) ∨ (findI d k es i = some none ∧ es' = es)
  | [], es', i, h => by simp [delK] at h; subst h; exact .inr ⟨rfl, rfl⟩
  | (k', v', b) :: r, es', i, h => by
    simp only [delK] at h
    cases hk : keyEq d k k' with
    | none => simp [hk] at h
    | some t =>
      simp only [hk] at h
      cases t with
      | true =>
        simp only at h; injection h with h; subst h
        exact .inl ⟨0, v', by simp [findI, hk], rfl⟩
      | false =>
        obtain ⟨q, hq, rfl⟩ := Option.map_eq_some_iff.1 h
        rcases delK_I (i + 1) hq with ⟨n, v, h1, rfl⟩ | ⟨h1, rfl⟩
        · refine .inl ⟨n + 1, v, ?_, rfl⟩
          simp only [findI, hk, h1]
          congr 3
          omega
        · exact .inr ⟨by simp [findI, hk, h1], rfl⟩
theorem g_del {c : Call} (hs : Sy G.F ρ a E) (hm : MemOk G ρ w s.mem) (ho : o.op = .call c) (hc : c.callee = .builtin .delete) (h : mDel P s c.argTypes (evAs E c.args.toList) = some (v, s')) : ∃ u w', MS0 G ρ P a o w v s'.mem u w' ∧ s'.nx = s.nx := by
  unfold mDel at h
  split at h
  · rename_i id k h1
    have h2 := hs.evsA h1
    cases ht0 : c.argTypes[0]? with
    | none => simp [ht0] at h
    | some t0 =>
      simp only [ht0, Option.bind_some] at h
      split at h
      · rename_i kt et ht
        split at h
        · rename_i d es cl hd hg
          cases hk : keyD d k with
          | false => simp [hk] at h
          | true =>
            simp only [hk, cond_true] at h
            obtain ⟨es', hp, e⟩ := Option.map_eq_some_iff.1 h
            injection e with e1 e2; subst e1 e2
            have hob : w.heap[ρ.blk id]? = some (.map (es.map (entC G.F ρ)).toArray cl) := hm.ok id _ hg
            have hlt := hm.lt hg
            have fin : ∀ (es2 : Array MapEntry), es2 = (es'.map (entC G.F ρ)).toArray → (Builtin.delete_ c.argTypes o.type #[.map (some (ρ.blk id)), conc G.F ρ k]).run P w = .ok (.tuple #[]) (setO w (ρ.blk id) (.map es2 cl)) →
                ∃ u w', MS0 G ρ P a o w undefA (s.put id (.map es' cl)).mem u w' ∧ (s.put id (.map es' cl)).nx = s.nx := by
              rintro es2 rfl hrun
              have h7 := hm.put (ob' := .map es' cl) hg rfl (but_set w (ρ.blk id) (.map (es'.map (entC G.F ρ)).toArray cl)) (get_set hlt _)
              refine ⟨.tuple #[], _, ⟨.inl ?_, h7.2, by rw [size_set]; exact Nat.le_refl _, fun _ => ⟨by simp [undefA, conc, concs], h7.1⟩⟩, rfl⟩
              simp [execOp, ho, resolve, hc, h2, concs, conc, invoke, builtin, hrun]
            rcases delK_I 0 hp with ⟨n, v0, h1, rfl⟩ | ⟨h1, rfl⟩
            · have h3 := findI_now (F := G.F) (ρ := ρ) h1
              have h5 := run_findK (w := w) hd h3
              refine fin _ ?_ (?_ : _ = Result.ok (Value.tuple #[]) (setO w (ρ.blk id) (.map ((es.map (entC G.F ρ)).toArray.eraseIdxIfInBounds n) cl)))
              · apply Array.ext'
                simp only [Array.toList_eraseIdxIfInBounds]
                have er : ∀ (l : List (AV × AV × Nat)) (n : Nat), (l.eraseIdx n).map (entC G.F ρ) = (l.map (entC G.F ρ)).eraseIdx n := by
                  intro l
                  induction l with
                  | nil => intro n; rfl
                  | cons a l ih => intro n; cases n with
                    | zero => rfl
                    | succ n => simp [ih n]
                rw [er]
              · simp only [Nat.zero_add, Option.map_some] at h5
                simp [Builtin.delete_, ht0, run_underlying ht, run_getO hob, run_key hd hk, h5, run_setM _ hob]
            · have h3 := findI_now (F := G.F) (ρ := ρ) h1
              have h5 := run_findK (w := w) hd h3
              refine fin _ rfl (?_ : _ = Result.ok (Value.tuple #[]) (setO w (ρ.blk id) (.map (es'.map (entC G.F ρ)).toArray cl)))
              simp [Builtin.delete_, ht0, run_underlying ht, run_getO hob, run_key hd hk, h5, run_setM _ hob]
        · cases h
      · cases h
  · cases h
theorem g_range (hs : Sy G.F ρ a E) (hm : MemOk G ρ w s.mem) (hB : G.B ≤ w.heap.size) (ho : o.op = .range t x) (h : mRange P s t (evA E x) = some (v, s')) : ∃ u w', MS G ρ P a o w s.nx v s'.mem u w' ∧ s'.nx = s.nx + 1 := by
  unfold mRange at h
  split at h
  · rename_i id hx
    split at h
    · rename_i es c hg
      cases hb : isMapT (P.underlying t) with
      | false => simp [hb] at h
      | true =>
        simp only [hb, cond_true] at h
        injection h with h; injection h with h3 h4; subst h3 h4
        have hob : w.heap[ρ.blk id]? = some (.map (es.map (entC G.F ρ)).toArray c) := hm.ok id _ hg
        obtain ⟨kt, et, ht⟩ : ∃ kt et, P.underlying t = some (.map kt et) := by
          unfold isMapT at hb
          split at hb
          · exact ⟨_, _, by assumption⟩
          · cases hb
        refine ⟨.pointer (some ⟨w.heap.size, 0, none⟩), w.alloc (.mapIter (some (ρ.blk id)) c #[] c), ⟨.inl ?_, ext_alloc_below hB _, by simp, fun hn => ⟨?_, hm.new (Ext.alloc w _) hB ?_ ?_⟩⟩, rfl⟩
        · simp [execOp, ho, hs.ev hx, conc, Instr.range, run_underlying ht, run_getO hob, newObj, Sem.run]
        · simp [conc]; exact hn.symm
        · rw [hn]; exact Nat.le_refl _
        · show (w.alloc _).heap[ρ.blk s.nx]? = _
          rw [hn]
          exact heap_alloc_new w _
    · cases h
  · cases h
end
end Go.Proofs.AL.Rx
/- RV, soundness, ninth part: appends. -/
set_option linter.unusedVariables false
set_option linter.unusedSimpArgs false
namespace Go.Proofs.AL.Rx
open Go Go.RowKit
section
variable {G : Fb} {ρ : Val} {P : Program} {w w' W : World} {a : Act} {E : VEnv} {o : Oper} {x y z : Operand} {t t2 ty : TypeId} {r : AV} {m : Tr Ao} {s s' : St} {v : AV}
theorem loadCells_heap {ad : Addr} {cs : List Value} (hh : W.heap = w.heap) (h : ∀ j u, cs[j]? = some u → w.cell? (ad.add j) = some u) : (loadCells ad cs.length).run P W = .ok cs.toArray W :=
  run_loadCells_list W ad cs fun j u hu => by
    have := h j u hu
    unfold World.cell? at this ⊢
    rw [hh]; exact this
theorem okB_byte {x : Int} (h : okB x = true) : ((UInt8.ofNat x.toNat).toNat : Int) = x := by
  rw [okB_iff] at h
  simp; omega
theorem ints_str {l : List Int} (h : l.all okB = true) : (strOfNums l).data.map (fun b => Value.int .u8 b.toNat) = (concs G.F ρ (intsOfS l)).toArray := by
  apply Array.ext'
  simp only [Array.toList_map, strOfNums_data, List.map_map, concs_map, intsOfS]
  apply List.map_congr_left
  intro x hx
  have := okB_byte (List.all_eq_true.1 h x hx)
  simp only [Function.comp, conc]
  rw [this]
/-- the cells that are appended, or copied -/
theorem src_run {sz : Nat} {u : AV} {c : List AV} (hm : MemOk G ρ w m) (h : srcA m sz u = some c) : ∃ n, c.length = n * sz ∧ (∀ W, (Builtin.lenOf (conc G.F ρ u)).run P W = .ok n W) ∧ ∀ k, k ≤ n → ∀ W, W.heap = w.heap → (Builtin.firstCells sz k (conc G.F ρ u)).run P W = .ok (concs G.F ρ (c.take (k * sz))).toArray W := by
  by_cases hu : ∃ l, u = .str l
  · obtain ⟨l, rfl⟩ := hu
    simp only [srcA] at h
    cases hb : Nat.beq sz 1 && l.all okB with
    | false => simp [hb] at h
    | true =>
      simp only [hb, cond_true] at h
      injection h with h; subst h
      simp only [Bool.and_eq_true] at hb
      obtain rfl := Nat.eq_of_beq_eq_true hb.1
      refine ⟨l.length, by simp [intsOfS], fun W => by simp [conc, Builtin.lenOf, strOfNums_size], fun k hk W _ => ?_⟩
      have h1 := ints_str (G := G) (ρ := ρ) hb.2
      simp only [conc, Builtin.firstCells, Sem.run_pure]
      congr 1
      rw [ByteArray.data_extract]
      have : (Array.extract (strOfNums l).data 0 k).map (fun b => Value.int .u8 b.toNat) = ((strOfNums l).data.map (fun b => Value.int .u8 b.toNat)).extract 0 k := by simp
      rw [this, h1]
      apply Array.ext'
      simp [concs_take, List.extract_eq_take_drop]
  · have h' : cellsOf m sz u = some c := by
      cases u <;> first | exact h | (exfalso; exact hu ⟨_, rfl⟩)
    obtain ⟨A, n, cp, h1, h2, h3, h4⟩ := (hm.holds (idOf (Tr.set (some u) 40 0 .leaf) (.tmp 0) ++ [match u with | .sl i _ _ _ => i | .rw i _ _ _ => i | _ => 0])).slice (v := u) (fun i hi => by
      rcases hi with ⟨p, q, s, rfl⟩ | ⟨p, q, s, rfl⟩ <;> simp) h'
    refine ⟨n, h2, fun W => by simp [h1, Builtin.lenOf], fun k hk W hW => ?_⟩
    rw [h1]
    cases A with
    | none =>
      obtain ⟨e1, e2, e3⟩ := h3 rfl
      subst e1
      simp [Builtin.firstCells, concs]
    | some ad =>
      simp only [Builtin.firstCells]
      have hl : (concs G.F ρ (c.take (k * sz))).length = k * sz := by
        rw [concs_len, List.length_take, h2]; exact Nat.min_eq_left (Nat.mul_le_mul_right _ hk)
      have := loadCells_heap (P := P) (w := w) (W := W) (ad := ad) (cs := concs G.F ρ (c.take (k * sz))) hW (fun j u hu => h4 ad rfl j u (by
        rw [concs_take, List.getElem?_take] at hu
        split at hu
        · exact hu
        · cases hu))
      rwa [hl] at this
theorem src_all {sz : Nat} {u : AV} {c : List AV} (hm : MemOk G ρ w m) (h : srcA m sz u = some c) : ∃ n, c.length = n * sz ∧ (∀ W, (Builtin.lenOf (conc G.F ρ u)).run P W = .ok n W) ∧ ∀ W, W.heap = w.heap → (Builtin.firstCells sz n (conc G.F ρ u)).run P W = .ok (concs G.F ρ c).toArray W := by
  obtain ⟨n, h1, h2, h3⟩ := src_run (P := P) hm h
  refine ⟨n, h1, h2, fun W hW => ?_⟩
  have := h3 n (Nat.le_refl _) W hW
  rwa [← h1, List.take_length] at this
set_option maxHeartbeats 2000000 in
theorem run_app_room {ats : Array TypeId} {t0 t1 e : TypeId} {d1 : TypeDesc} {i : TypeInfo} {base : Option Addr} {sl sc n : Nat} {u : Value} {new : Array Value} (h0 : ats[0]? = some t0) (h1 : ats[1]? = some t1) (ht : P.underlying t0 = some (.slice e)) (hd : P.underlying t1 = some d1) (hni : notInt (some d1) = true) (hi : P.info? e = some i)
    (hl : (Builtin.lenOf u).run P w = .ok n w) (hf : (Builtin.firstCells i.size n u).run P w = .ok new w) (hr : sl + n ≤ sc) :
    (Builtin.append_ ats ty #[.slice base sl sc, u]).run P w = ((match base with | some a => storeCells (a.add (sl * i.size)) new.toList | none => pure ()).run P w).andThen fun _ w' => .ok (.slice base (sl + n) sc) w' := by
  cases d1 <;> first
    | (cases hni; done)
    | (cases base <;> simp [Builtin.append_, h0, h1, run_underlying ht, run_underlying hd, sizeOf, typeInfo, hi, hl, hf, hr])
set_option maxHeartbeats 2000000 in
theorem run_app_grow {ats : Array TypeId} {t0 t1 e : TypeId} {d1 : TypeDesc} {i : TypeInfo} {zv : Value} {base : Option Addr} {sl sc n : Nat} {u : Value} {old new : Array Value} (h0 : ats[0]? = some t0) (h1 : ats[1]? = some t1) (ht : P.underlying t0 = some (.slice e)) (hd : P.underlying t1 = some d1) (hni : notInt (some d1) = true) (hi : P.info? e = some i) (hz : i.zero = some zv)
    (hl : (Builtin.lenOf u).run P w = .ok n w) (hf : (Builtin.firstCells i.size n u).run P w.drew = .ok new w.drew) (ho : (Builtin.firstCells i.size sl (.slice base sl sc)).run P w.drew = .ok old w.drew) (hr : ¬ sl + n ≤ sc) (h63 : sl + n ≤ 1000000) (hby : Builtin.nextslicecap (sl + n) sc * i.bytes ≤ 281474976710656) :
    (Builtin.append_ ats ty #[.slice base sl sc, u]).run P w = .ok (.slice (some ⟨w.heap.size, 0, none⟩) (sl + n) (grownCap w (sl + n) sc e)) (w.drew.alloc (.cells (old ++ new ++ Builtin.zeroCells zv.cells (grownCap w (sl + n) sc e - (sl + n))) e)) := by
  have h63' : ¬ (9223372036854775807 < ((sl : Int) + (n : Int))) := by omega
  have h48' : ¬ (281474976710656 < Builtin.nextslicecap (sl + n) sc * i.bytes) := by omega
  cases d1 <;> first
    | (cases hni; done)
    | (simp [Builtin.append_, h0, h1, run_underlying ht, run_underlying hd, sizeOf, typeInfo, zeroValue, hi, hz, hl, hr, h63', h48', Question.forced, hf, ho, newRow, grownCap]; done)
end
end Go.Proofs.AL.Rx
/- RV, soundness, tenth part: appends, copies, clears, bytes of a text. -/
set_option linter.unusedVariables false
set_option linter.unusedSimpArgs false
namespace Go.Proofs.AL.Rx
open Go Go.RowKit
section
variable {G : Fb} {ρ : Val} {P : Program} {w w' W : World} {a : Act} {E : VEnv} {o : Oper} {x y z : Operand} {t t2 ty : TypeId} {r : AV} {m : Tr Ao} {s s' : St} {v : AV}
theorem ext_drew_alloc (w : World) (ob : Obj) : Ext w (w.drew.alloc ob) := by
  have h1 : Ext w w.drew := (Below.refl _ _).drew
  exact h1.trans (Ext.alloc w.drew ob)
theorem heap_drew_new (w : World) (ob : Obj) : (w.drew.alloc ob).heap[w.heap.size]? = some ob := heap_alloc_new w.drew ob
/-- what a grown append leaves -/
theorem grow_fin {i N gc sz : Nat} {e : TypeId} {cs : List AV} {zs : List Value} (hm : MemOk G ρ w m) (hB : G.B ≤ w.heap.size) (hr : (execOp a.eval o).run P w = .ok (.value (.slice (some ⟨w.heap.size, 0, none⟩) N gc)) (w.drew.alloc (.cells (concs G.F ρ cs ++ zs).toArray e)))
    (hl : cs.length = N * sz) (h1 : N ≤ gc) (h2 : gc ≤ maxLen) (hz : zs.length = (gc - N) * sz) : ∃ u w', MS G ρ P a o w i (.rw i 0 N 0) (Tr.set (some (.cells e cs (some sz))) 40 i m) u w' := by
  refine ⟨_, _, ⟨.inl hr, (ext_drew_alloc w _).mono hB, (ext_drew_alloc w _).size, fun hn => ⟨?_, hm.new (ext_drew_alloc w _) hB ?_ ?_⟩⟩⟩
  · simp only [conc]
    rw [hn.1, hn.2]
    congr 1; omega
  · rw [hn.1]; exact Nat.le_refl _
  · refine ⟨zs, N, ?_, hl, by rw [hn.2, hz], by rw [hn.2]; omega⟩
    rw [hn.1]
    exact heap_drew_new w _
theorem zsize {e : TypeId} {i : TypeInfo} (hi : P.info? e = some i) (h : (zeroA P e).any (fun z => Nat.beq z.cells.length i.size) = true) : ∃ zv, i.zero = some zv ∧ zv.cells.size = i.size := by
  cases hz : zeroA P e with
  | none => simp [hz] at h
  | some z =>
    simp only [hz, Option.any_some] at h
    obtain ⟨zv, h5, h6⟩ := Option.bind_eq_some_iff.1 hz
    rw [hi] at h5
    simp only [Option.bind_some] at h5
    refine ⟨zv, h5, ?_⟩
    have F0 : Fx := Fx0
    have h7 := ofV_conc (F := F0) (ρ := ⟨fun _ => 0, fun _ => 0⟩) zv z h6
    have h8 := conc_cellsL (F := F0) (ρ := ⟨fun _ => 0, fun _ => 0⟩) z
    rw [h7] at h8
    have h9 := congrArg List.length h8
    simp only [cellsL, Array.length_toList, concs_len] at h9
    rw [h9]; exact Nat.eq_of_beq_eq_true h
theorem appA_run {ats : Array TypeId} {t0 t1 e : TypeId} {d1 : TypeDesc} {i : TypeInfo} {u p : AV} {c : List AV} {n : Nat} (hm : MemOk G ρ w s.mem) (hB : G.B ≤ w.heap.size)
    (h0 : ats[0]? = some t0) (h1 : ats[1]? = some t1) (ht : P.underlying t0 = some (.slice e)) (hd : P.underlying t1 = some d1) (hni : notInt (some d1) = true) (hi : P.info? e = some i)
    (hsz : 0 < i.size) (hby : i.bytes ≤ 10000) (hcf : c.all AV.flat = true) (hc : c.length = n * i.size) (hn0 : 0 < n) (hzz : (zeroA P e).any (fun z => Nat.beq z.cells.length i.size) = true)
    (hl : ∀ W, (Builtin.lenOf (conc G.F ρ p)).run P W = .ok n W) (hf : ∀ W, W.heap = w.heap → (Builtin.firstCells i.size n (conc G.F ρ p)).run P W = .ok (concs G.F ρ c).toArray W)
    (hsm : (lenA s.mem u).any (fun l => small (l + c.length)) = true) (he : ∀ q W', (Builtin.append_ ats o.type #[conc G.F ρ u, conc G.F ρ p]).run P w = .ok q W' → (execOp a.eval o).run P w = .ok (.value q) W')
    (h : appA s e i.size u c = some (v, s')) : ∃ q w', (MS0 G ρ P a o w v s'.mem q w' ∧ s'.nx = s.nx) ∨ (MS G ρ P a o w s.nx v s'.mem q w' ∧ s'.nx = s.nx + 1) := by
  obtain ⟨zv, hz1, hz2⟩ := zsize hi hzz
  have hdiv : c.length / i.size = n := by rw [hc]; exact Nat.mul_div_cancel n hsz
  have hcn : n ≤ c.length := by rw [hc]; exact Nat.le_mul_of_pos_right n hsz
  have hbnd : ∀ L, L + n ≤ 100000 → (L + n) * i.bytes ≤ 140737488355328 := fun L hL => by
    have := Nat.mul_le_mul hL hby
    omega
  unfold appA at h
  split at h
  · -- nil
    injection h with h; injection h with e1 e2; subst e1 e2
    have hs1 : n ≤ 100000 := by
      simp only [lenA, Option.any_some, small] at hsm
      have := Nat.le_of_ble_eq_true hsm; omega
    have hg := run_app_grow (P := P) (w := w) (ty := o.type) (base := none) (sl := 0) (sc := 0) (n := n) (u := conc G.F ρ p) (old := #[]) h0 h1 ht hd hni hi hz1 (hl w) (hf w.drew rfl) (by simp [Builtin.firstCells]) (by omega) (by omega) (growslice_fits (by omega) (by have := hbnd 0 (by omega); simpa using this))
    have hr := he _ _ hg
    have hge := grownCap_ge w (0 + n) 0 e
    have hcm := grownCap_le_maxLen w (0 + n) 0 e (by simp [maxLen]; omega)
    simp only [Nat.zero_add] at hr hge hcm
    rw [hdiv]
    have e3 : (#[] ++ (concs G.F ρ c).toArray ++ Builtin.zeroCells zv.cells (grownCap w n 0 e - n)) = (concs G.F ρ c ++ (Builtin.zeroCells zv.cells (grownCap w n 0 e - n)).toList).toArray := by
      apply Array.ext'; simp
    rw [e3] at hr
    obtain ⟨q, w', hq⟩ := grow_fin (i := s.nx) (sz := i.size) hm hB hr hc hge hcm (by rw [Array.length_toList, size_zeroCells, hz2])
    exact ⟨q, w', .inr ⟨hq, rfl⟩⟩
  · -- a row
    rename_i id len
    split at h
    · rename_i t cs sz' hg
      cases hb : Nat.beq cs.length (len * i.size) && Nat.beq i.size sz' && Nat.beq t e with
      | false => simp [hb] at h
      | true =>
        simp only [hb, cond_true] at h
        simp only [Bool.and_eq_true] at hb
        obtain ⟨⟨b1, b2⟩, b3⟩ := hb
        have b1 := Nat.eq_of_beq_eq_true b1
        obtain rfl := Nat.eq_of_beq_eq_true b2
        obtain rfl := Nat.eq_of_beq_eq_true b3
        injection h with h; injection h with e1 e2; subst e1 e2
        rw [hdiv]
        have hs1 : len + n ≤ 100000 := by
          simp only [lenA, Option.any_some, small] at hsm
          have := Nat.le_of_ble_eq_true hsm; omega
        obtain ⟨rest, n', hob, q1, q2, q3⟩ := hm.ok id _ hg
        have hn' : n' = len := Nat.eq_of_mul_eq_mul_right hsz (by rw [← q1, b1])
        subst hn'
        have hcl : (cs ++ c).length = (n' + n) * i.size := by rw [List.length_append, b1, hc, Nat.add_mul]
        by_cases hroom : n' + n ≤ n' + 0 + ρ.cap id
        · have hg2 := run_app_room (P := P) (w := w) (ty := o.type) (base := some ⟨ρ.blk id, 0, none⟩) (sl := n') (sc := n' + 0 + ρ.cap id) (n := n) (u := conc G.F ρ p) h0 h1 ht hd hni hi (hl w) (hf w rfl) hroom
          obtain ⟨W', h2, h3, h4, h5⟩ := run_storeCells_blk (P := P) (g := ρ.blk id) (ti := t) (concs G.F ρ c) 0 (n' * i.size) (concs G.F ρ cs ++ rest) w hob (by
            simp only [List.length_append, concs_len, b1, q2, hc, Nat.add_zero]
            rw [← Nat.add_mul, ← Nat.add_mul]
            exact Nat.mul_le_mul_right _ (by omega)) (concs_one hcf)
          simp only [add_lit, Nat.zero_add, h2, Result.andThen_ok] at hg2
          have hr := he _ _ hg2
          have hN : ∀ (hn : NewAt ρ s.nx (.slice (some ⟨ρ.blk id, 0, none⟩) (n' + n) (n' + 0 + ρ.cap id))), objOk G.F ρ W' s.nx (.cells t (cs ++ c) (some i.size)) := by
            intro hn
            refine ⟨rest.drop c.length, n' + n, ?_, hcl, ?_, ?_⟩
            · rw [hn.1]
              have h5' : W'.heap[ρ.blk id]? = _ := h5
              rw [h5', concs_append]
              congr 3
              simp only [Nat.add_zero, concs_len]
              rw [List.take_append_of_le_length (by simp [b1]), List.drop_append]
              rw [List.take_of_length_le (by simp [b1]), List.drop_eq_nil_of_le (by simp [b1]), concs_len, b1]
              simp [Nat.add_sub_cancel_left]
            · rw [List.length_drop, q2, hn.2, hc, ← Nat.sub_mul]
              congr 1; omega
            · rw [hn.2]; omega
          refine ⟨_, W', .inr ⟨⟨.inl hr, ?_, by omega, fun hn => ⟨?_, ?_⟩⟩, rfl⟩⟩
          · exact h3.below (Nat.le_trans (hm.lo id _ hg rfl) (Nat.le_of_lt (hm.lt hg))) (hm.lo id _ hg rfl)
          · simp only [conc]
            rw [hn.1, hn.2]
            congr 1; omega
          · exact (hm.app hg rfl hn.1 h3 (hN hn)).1
        · have ho : (Builtin.firstCells i.size n' (.slice (some ⟨ρ.blk id, 0, none⟩) n' (n' + 0 + ρ.cap id))).run P w.drew = .ok (concs G.F ρ cs).toArray w.drew := by
            simp only [Builtin.firstCells]
            have hc1 : ∀ j u, (concs G.F ρ cs)[j]? = some u → w.cell? ((⟨ρ.blk id, 0, none⟩ : Addr).add j) = some u := fun j u hu => by
              have hj := (List.getElem?_eq_some_iff.1 hu).1
              rw [add_lit, Nat.zero_add]
              simp only [World.cell?, hob]
              simp only [Option.isSome_none, Bool.false_eq_true, if_false, List.getElem?_toArray]
              rw [List.getElem?_append_left hj, hu]
            have := loadCells_heap (P := P) (w := w) (W := w.drew) (ad := ⟨ρ.blk id, 0, none⟩) (cs := concs G.F ρ cs) rfl hc1
            rwa [concs_len, b1] at this
          have hg2 := run_app_grow (P := P) (w := w) (ty := o.type) (base := some ⟨ρ.blk id, 0, none⟩) (sl := n') (sc := n' + 0 + ρ.cap id) (n := n) (u := conc G.F ρ p) h0 h1 ht hd hni hi hz1 (hl w) (hf w.drew rfl) ho hroom (by omega) (growslice_fits (by omega) (hbnd n' hs1))
          have hr := he _ _ hg2
          have hge := grownCap_ge w (n' + n) (n' + 0 + ρ.cap id) t
          have hcm := grownCap_le_maxLen w (n' + n) (n' + 0 + ρ.cap id) t (by simp [maxLen]; omega)
          have e3 : ((concs G.F ρ cs).toArray ++ (concs G.F ρ c).toArray ++ Builtin.zeroCells zv.cells (grownCap w (n' + n) (n' + 0 + ρ.cap id) t - (n' + n))) = (concs G.F ρ (cs ++ c) ++ (Builtin.zeroCells zv.cells (grownCap w (n' + n) (n' + 0 + ρ.cap id) t - (n' + n))).toList).toArray := by
            apply Array.ext'; simp [concs_append]
          rw [e3] at hr
          obtain ⟨q, w', hq⟩ := grow_fin (i := s.nx) (sz := i.size) (hm.del (i := id)) hB hr hcl hge hcm (by rw [Array.length_toList, size_zeroCells, hz2])
          exact ⟨q, w', .inr ⟨hq, rfl⟩⟩
    · cases h
  · -- a slice of which the places are told
    rename_i id off len cap
    have hs1 : len + n ≤ 100000 := by
      simp only [lenA, Option.any_some, small] at hsm
      have := Nat.le_of_ble_eq_true hsm; omega
    rw [hdiv] at h
    rcases hb : Nat.ble (len + n) cap with _ | _
    case true =>
      simp only [hb, cond_true] at h
      have hroom := Nat.le_of_ble_eq_true hb
      obtain ⟨s1, hs2, e1⟩ := Option.map_eq_some_iff.1 h
      injection e1 with e1 e2; subst e1 e2
      obtain ⟨w', h4, h5, h6, h7⟩ := store_run (P := P) hm hs2
      have hg2 := run_app_room (P := P) (w := w) (ty := o.type) (base := some ⟨ρ.blk id, off, none⟩) (sl := len) (sc := cap) (n := n) (u := conc G.F ρ p) h0 h1 ht hd hni hi (hl w) (hf w rfl) hroom
      simp only [add_lit, h4, Result.andThen_ok] at hg2
      refine ⟨_, w', .inl ⟨⟨.inl (he _ _ hg2), h6, by omega, fun hn => ⟨rfl, h5⟩⟩, ?_⟩⟩
      obtain ⟨_, _, _, _, _, _, rfl⟩ := storeA_spec hs2; rfl
    case false =>
      simp only [hb, cond_false] at h
      have hroom : ¬ len + n ≤ cap := fun hle => by rw [Nat.ble_eq_true_of_le hle] at hb; cases hb
      obtain ⟨cs, hcs, e1⟩ := Option.map_eq_some_iff.1 h
      injection e1 with e1 e2; subst e1 e2
      obtain ⟨k1, k2⟩ := (hm.holds [id]).cells (by simp) hcs
      have ho : (Builtin.firstCells i.size len (.slice (some ⟨ρ.blk id, off, none⟩) len cap)).run P w.drew = .ok (concs G.F ρ cs).toArray w.drew := by
        simp only [Builtin.firstCells]
        have := loadCells_heap (P := P) (w := w) (W := w.drew) (ad := ⟨ρ.blk id, off, none⟩) (cs := concs G.F ρ cs) rfl k2
        rwa [concs_len, k1] at this
      have hcl : (cs ++ c).length = (len + n) * i.size := by rw [List.length_append, k1, hc, Nat.add_mul]
      have hg2 := run_app_grow (P := P) (w := w) (ty := o.type) (base := some ⟨ρ.blk id, off, none⟩) (sl := len) (sc := cap) (n := n) (u := conc G.F ρ p) h0 h1 ht hd hni hi hz1 (hl w) (hf w.drew rfl) ho hroom (by omega) (growslice_fits (by omega) (hbnd len hs1))
      have hr := he _ _ hg2
      have hge := grownCap_ge w (len + n) cap e
      have hcm := grownCap_le_maxLen w (len + n) cap e (by simp [maxLen]; omega)
      have e3 : ((concs G.F ρ cs).toArray ++ (concs G.F ρ c).toArray ++ Builtin.zeroCells zv.cells (grownCap w (len + n) cap e - (len + n))) = (concs G.F ρ (cs ++ c) ++ (Builtin.zeroCells zv.cells (grownCap w (len + n) cap e - (len + n))).toList).toArray := by
        apply Array.ext'; simp [concs_append]
      rw [e3] at hr
      obtain ⟨q, w', hq⟩ := grow_fin (i := s.nx) (sz := i.size) hm hB hr hcl hge hcm (by rw [Array.length_toList, size_zeroCells, hz2])
      exact ⟨q, w', .inr ⟨hq, rfl⟩⟩
  · cases h
end
end Go.Proofs.AL.Rx
/- RV, soundness, eleventh part: appends, copies, clears, bytes of a text; all that turns memory. -/
set_option linter.unusedVariables false
set_option linter.unusedSimpArgs false
namespace Go.Proofs.AL.Rx
open Go Go.RowKit
section
variable {G : Fb} {ρ : Val} {P : Program} {w w' W : World} {a : Act} {E : VEnv} {o : Oper} {x y z : Operand} {t t2 ty : TypeId} {r : AV} {m : Tr Ao} {s s' : St} {v : AV}
theorem g_app {q : Call} (hs : Sy G.F ρ a E) (hm : MemOk G ρ w s.mem) (hB : G.B ≤ w.heap.size) (ho : o.op = .call q) (hc : q.callee = .builtin .append) (h : mApp P s q.argTypes (evAs E q.args.toList) = some (v, s')) : ∃ u w', (MS0 G ρ P a o w v s'.mem u w' ∧ s'.nx = s.nx) ∨ (MS G ρ P a o w s.nx v s'.mem u w' ∧ s'.nx = s.nx + 1) := by
  unfold mApp at h
  split at h
  · rename_i u p h1
    have h2 := hs.evsA h1
    cases ht0 : q.argTypes[0]? with
    | none => simp [ht0] at h
    | some t0 =>
      simp only [ht0, Option.bind_some] at h
      split at h
      · rename_i e ht
        split at h
        · rename_i i c hi hsrc
          have hsz : sizeA P e = some i.size := by simp [sizeA, hi]
          rw [hsz, Option.getD_some] at hsrc
          cases ht1 : q.argTypes[1]? with
          | none => simp [ht1, notInt] at h
          | some t1 =>
            simp only [ht1, Option.bind_some] at h
            cases hd : P.underlying t1 with
            | none => simp [hd, notInt] at h
            | some d1 =>
              simp only [hd] at h
              cases hb : notInt (some d1) && Nat.blt 0 i.size && Nat.ble i.bytes 10000 && small c.length && c.all AV.flat && Nat.beq (c.length % i.size) 0 && (lenA s.mem u).any (fun l => small (l + c.length)) && (zeroA P e).any (fun z => Nat.beq z.cells.length i.size) with
              | false => simp [hb] at h
              | true =>
                simp only [hb, cond_true] at h
                simp only [Bool.and_eq_true] at hb
                obtain ⟨⟨⟨⟨⟨⟨⟨b1, b2⟩, b3⟩, b4⟩, b5⟩, b6⟩, b7⟩, b8⟩ := hb
                rw [Nat.blt_eq] at b2
                have b3 := Nat.le_of_ble_eq_true b3
                obtain ⟨n, k1, k2, k3⟩ := src_all (P := P) hm hsrc
                have he : ∀ q' W', (Builtin.append_ q.argTypes o.type #[conc G.F ρ u, conc G.F ρ p]).run P w = .ok q' W' → (execOp a.eval o).run P w = .ok (.value q') W' := fun q' W' hr => by
                  simp [execOp, ho, resolve, hc, h2, concs, invoke, builtin, hr]
                cases c with
                | nil =>
                  have hn : n = 0 := by
                    rcases Nat.eq_zero_or_pos n with h | h
                    · exact h
                    · have := Nat.mul_pos h b2
                      simp at k1
                      omega
                  subst hn
                  have key : ∀ base len cap, conc G.F ρ u = .slice base len cap → len ≤ cap → s' = s → v = u → ∃ u w', (MS0 G ρ P a o w v s'.mem u w' ∧ s'.nx = s.nx) ∨ (MS G ρ P a o w s.nx v s'.mem u w' ∧ s'.nx = s.nx + 1) := by
                    intro base len cap hu hle e1 e2
                    subst e1 e2
                    have hg := run_app_room (P := P) (w := w) (ty := o.type) (base := base) (sl := len) (sc := cap) (n := 0) (u := conc G.F ρ p) ht0 ht1 ht hd b1 hi (k2 w) (k3 w rfl) (by omega)
                    have hg2 : (Builtin.append_ q.argTypes o.type #[.slice base len cap, conc G.F ρ p]).run P w = .ok (.slice base len cap) w := by
                      rw [hg]
                      cases base <;> simp [concs, storeCells]
                    rw [← hu] at hg2
                    exact ⟨_, w, .inl ⟨⟨.inl (he _ _ hg2), Below.refl _ _, Nat.le_refl _, fun _ => ⟨rfl, hm⟩⟩, rfl⟩⟩
                  simp only [appN] at h
                  split at h
                  · rename_i id off len cap
                    cases hb2 : Nat.ble len cap with
                    | false => simp [hb2] at h
                    | true =>
                      simp only [hb2, cond_true] at h
                      injection h with h; injection h with e1 e2
                      exact key _ _ _ rfl (Nat.le_of_ble_eq_true hb2) e2.symm e1.symm
                  · injection h with h; injection h with e1 e2
                    exact key _ _ _ rfl (by omega) e2.symm e1.symm
                  · injection h with h; injection h with e1 e2
                    exact key _ _ _ rfl (Nat.le_refl _) e2.symm e1.symm
                  · cases h
                | cons c0 cl =>
                  simp only at h
                  have hn0 : 0 < n := by
                    rcases Nat.eq_zero_or_pos n with h | h
                    · subst h; simp at k1
                    · exact h
                  exact appA_run hm hB ht0 ht1 ht hd b1 hi b2 b3 b5 k1 hn0 b8 k2 k3 b7 he h
        · cases h
      · cases h
  · cases h
theorem dstOf_conc {u : AV} {id off len : Nat} (h : dstOf u = some (id, off, len)) : ∃ cap, conc G.F ρ u = .slice (some ⟨ρ.blk id, off, none⟩) len cap := by
  cases u <;> simp only [dstOf] at h <;> first | (cases h; done) | skip
  · injection h with h; simp only [Prod.mk.injEq] at h; obtain ⟨rfl, rfl, rfl⟩ := h; exact ⟨_, rfl⟩
  · injection h with h; simp only [Prod.mk.injEq] at h; obtain ⟨rfl, rfl, rfl⟩ := h; exact ⟨_, rfl⟩
theorem g_copy {q : Call} (hs : Sy G.F ρ a E) (hm : MemOk G ρ w s.mem) (ho : o.op = .call q) (hc : q.callee = .builtin .copy) (h : mCopy P s q.argTypes (evAs E q.args.toList) = some (v, s')) : ∃ u w', MS0 G ρ P a o w v s'.mem u w' ∧ s'.nx = s.nx := by
  unfold mCopy at h
  split at h
  · rename_i u p h1
    have h2 := hs.evsA h1
    cases ht0 : q.argTypes[0]? with
    | none => simp [ht0] at h
    | some t0 =>
      simp only [ht0, Option.bind_some] at h
      split at h
      · rename_i e ht
        split at h
        · rename_i hz
          obtain ⟨new, hn, h⟩ := Option.bind_eq_some_iff.1 h
          obtain ⟨n, k1, k2, k3⟩ := src_run (P := P) hm hn
          have he : ∀ q' W', (Builtin.copy_ q.argTypes o.type #[conc G.F ρ u, conc G.F ρ p]).run P w = .ok q' W' → (execOp a.eval o).run P w = .ok (.value q') W' := fun q' W' hr => by
            simp [execOp, ho, resolve, hc, h2, concs, invoke, builtin, hr]
          unfold mCpy at h
          split at h
          · rename_i id off len hdst
            obtain ⟨cap, hu⟩ := dstOf_conc (G := G) (ρ := ρ) hdst
            have k4 := k3 (Nat.min n len) (Nat.min_le_left _ _) w rfl
            rw [Nat.mul_one] at k4 k1
            have e1 : new.take (Nat.min n len) = new.take len := by
              show new.take (min n len) = new.take len
              rcases Nat.le_total n len with hle | hle
              · rw [Nat.min_eq_left hle, List.take_of_length_le (by omega), List.take_of_length_le (by omega)]
              · rw [Nat.min_eq_right hle]
            rw [e1] at k4
            have e2 : (new.take len).length = Nat.min n len := by rw [List.length_take, k1, Nat.min_comm]
            have hrun : ∀ W', (storeCells ⟨ρ.blk id, off, none⟩ (concs G.F ρ (new.take len)) 0).run P w = .ok () W' → (Builtin.copy_ q.argTypes o.type #[conc G.F ρ u, conc G.F ρ p]).run P w = .ok (.int .i64 ((new.take len).length : Nat)) W' := fun W' hst => by
              rw [hu]
              simp [Builtin.copy_, ht0, run_underlying ht, k2 w, run_size hz, k4, hst, goInt, e2]
            split at h
            · rename_i hnil
              injection h with h; injection h with e3 e4; subst e3 e4
              have := hrun w (by rw [hnil]; simp [concs, storeCells])
              rw [hnil] at this
              exact ⟨_, w, ⟨.inl (he _ _ this), Below.refl _ _, Nat.le_refl _, fun _ => ⟨rfl, hm⟩⟩, rfl⟩
            · rename_i c0 cl hcons
              obtain ⟨s1, hst, e3⟩ := Option.map_eq_some_iff.1 h
              injection e3 with e3 e4; subst e3 e4
              obtain ⟨w', h4, h5, h6, h7⟩ := store_run (P := P) hm hst
              have := hrun w' (by rw [hcons]; exact h4)
              rw [hcons] at this
              refine ⟨_, w', ⟨.inl (he _ _ this), h6, by omega, fun _ => ⟨rfl, h5⟩⟩, ?_⟩
              obtain ⟨_, _, _, _, _, _, rfl⟩ := storeA_spec hst; rfl
          · split at h
            · injection h with h; injection h with e3 e4; subst e3 e4
              have k4 := k3 0 (Nat.zero_le _) w rfl
              have : (Builtin.copy_ q.argTypes o.type #[conc G.F ρ .nils, conc G.F ρ p]).run P w = .ok (.int .i64 0) w := by
                simp only [conc]
                simp [Builtin.copy_, ht0, run_underlying ht, k2 w, run_size hz, k4, goInt]
              exact ⟨_, w, ⟨.inl (he _ _ this), Below.refl _ _, Nat.le_refl _, fun _ => ⟨rfl, hm⟩⟩, rfl⟩
            · cases h
        · cases h
      · cases h
  · cases h
theorem zeroCells_rep {zv : Value} {z : AV} (h : conc G.F ρ z = zv) (n : Nat) : (Builtin.zeroCells zv.cells n).toList = concs G.F ρ (repA z.cells n) := by
  have h1 := rep_cells (G := G) (ρ := ρ) z.cells z.cells.length rfl n
  rw [← h1, ← h, conc_cellsA]
  simp [Builtin.zeroCells]
theorem g_clear {q : Call} (hs : Sy G.F ρ a E) (hm : MemOk G ρ w s.mem) (ho : o.op = .call q) (hc : q.callee = .builtin .clear) (h : mClear P s q.argTypes (evAs E q.args.toList) = some (v, s')) : ∃ u w', MS0 G ρ P a o w v s'.mem u w' ∧ s'.nx = s.nx := by
  unfold mClear at h
  split at h
  · rename_i u h1
    have h2 := hs.evsA h1
    cases ht0 : q.argTypes[0]? with
    | none => simp [ht0] at h
    | some t0 =>
      simp only [ht0, Option.bind_some] at h
      have he : ∀ q' W', (Builtin.clear_ q.argTypes o.type #[conc G.F ρ u]).run P w = .ok q' W' → (execOp a.eval o).run P w = .ok (.value q') W' := fun q' W' hr => by
        simp [execOp, ho, resolve, hc, h2, concs, invoke, builtin, hr]
      split at h
      · rename_i e ht
        split at h
        · rename_i z hz
          obtain ⟨zv, h5, h6⟩ := Option.bind_eq_some_iff.1 hz
          obtain ⟨i, hi, h5⟩ := Option.bind_eq_some_iff.1 h5
          have h7 := ofV_conc (F := G.F) (ρ := ρ) zv z h6
          unfold mClr at h
          split at h
          · rename_i id off len hdst
            obtain ⟨cap, hu⟩ := dstOf_conc (G := G) (ρ := ρ) hdst
            rcases hb : Nat.beq len 0 with _ | _
            case true =>
              obtain rfl := Nat.eq_of_beq_eq_true hb
              simp only [hb, cond_true] at h
              injection h with h; injection h with e3 e4; subst e3 e4
              have : (Builtin.clear_ q.argTypes o.type #[conc G.F ρ u]).run P w = .ok (.tuple #[]) w := by
                rw [hu]; simp [Builtin.clear_, ht0, run_underlying ht]
              exact ⟨_, w, ⟨.inl (he _ _ this), Below.refl _ _, Nat.le_refl _, fun _ => ⟨by simp [undefA, conc, concs], hm⟩⟩, rfl⟩
            case false =>
              have hn0 : len ≠ 0 := fun e => by subst e; cases hb
              simp only [hb, cond_false] at h
              obtain ⟨s1, hst, e3⟩ := Option.map_eq_some_iff.1 h
              injection e3 with e3 e4; subst e3 e4
              obtain ⟨w', h4, h5', h6', h7'⟩ := store_run (P := P) hm hst
              have : (Builtin.clear_ q.argTypes o.type #[conc G.F ρ u]).run P w = .ok (.tuple #[]) w' := by
                rw [hu]
                obtain ⟨k, rfl⟩ : ∃ k, len = k + 1 := ⟨len - 1, by omega⟩
                have hzc := zeroCells_rep (G := G) (ρ := ρ) h7 (k + 1)
                simp [Builtin.clear_, ht0, run_underlying ht, zeroValue, typeInfo, hi, h5]
                rw [hzc, h4]
                simp
              refine ⟨_, w', ⟨.inl (he _ _ this), h6', by omega, fun _ => ⟨by simp [undefA, conc, concs], h5'⟩⟩, ?_⟩
              obtain ⟨_, _, _, _, _, _, rfl⟩ := storeA_spec hst; rfl
          · split at h
            · injection h with h; injection h with e3 e4; subst e3 e4
              have : (Builtin.clear_ q.argTypes o.type #[conc G.F ρ .nils]).run P w = .ok (.tuple #[]) w := by
                simp [conc, Builtin.clear_, ht0, run_underlying ht]
              exact ⟨_, w, ⟨.inl (he _ _ this), Below.refl _ _, Nat.le_refl _, fun _ => ⟨by simp [undefA, conc, concs], hm⟩⟩, rfl⟩
            · cases h
        · cases h
      · rename_i kt et ht
        unfold mClrM at h
        split at h
        · rename_i id
          split at h
          · rename_i es c hg
            injection h with h; injection h with e3 e4; subst e3 e4
            have hob : w.heap[ρ.blk id]? = some (.map (es.map (entC G.F ρ)).toArray c) := hm.ok id _ hg
            have h7 := hm.put (ob' := .map [] c) hg rfl (but_set w (ρ.blk id) (.map #[] c)) (get_set (hm.lt hg) _)
            have : (Builtin.clear_ q.argTypes o.type #[conc G.F ρ (.map id)]).run P w = .ok (.tuple #[]) (setO w (ρ.blk id) (.map #[] c)) := by
              simp [conc, Builtin.clear_, ht0, run_underlying ht, run_getO hob, run_setM _ hob]
            exact ⟨_, _, ⟨.inl (he _ _ this), h7.2, by rw [size_set]; exact Nat.le_refl _, fun _ => ⟨by simp [undefA, conc, concs], h7.1⟩⟩, rfl⟩
          · cases h
        · cases h
      · cases h
  · cases h
theorem g_bytes (hs : Sy G.F ρ a E) (hm : MemOk G ρ w s.mem) (hB : G.B ≤ w.heap.size) (ho : o.op = .convert t t2 x) (h : mBytes P s t t2 (evA E x) = some (v, s')) : ∃ u w', MS G ρ P a o w s.nx v s'.mem u w' ∧ s'.nx = s.nx + 1 := by
  unfold mBytes at h
  split at h
  · rename_i l hx
    split at h
    · rename_i e h1 h2
      split at h
      · rename_i h3
        cases hb : small l.length && l.all okB with
        | false => simp [hb] at h
        | true =>
          simp only [hb, cond_true] at h
          injection h with h; injection h with e1 e2; subst e1 e2
          simp only [Bool.and_eq_true] at hb
          have hr := run_bytes_of_string (P := P) w t t2 e (strOfNums l) h1 h2 h3
          have hge := grownCap_ge w l.length 0 e
          have hint := ints_str (G := G) (ρ := ρ) hb.2
          have hrow : bytesRow (strOfNums l) (grownCap w (strOfNums l).size 0 e) = (concs G.F ρ (intsOfS l) ++ List.replicate (grownCap w l.length 0 e - l.length) (Value.int .u8 0)).toArray := by
            apply Array.ext'
            simp only [bytesRow, strOfNums_size, Array.toList_append, Array.toList_replicate]
            congr 1
            have := congrArg Array.toList hint
            simpa using this
          rw [hrow] at hr
          rw [strOfNums_size] at hr
          obtain ⟨ob, hob, hr⟩ : ∃ ob : Obj, (∃ mk, ob = .cells (concs G.F ρ (intsOfS l) ++ List.replicate (grownCap w l.length 0 e - l.length) (Value.int .u8 0)).toArray e mk) ∧ (convert t t2 (.string (strOfNums l))).run P w = .ok (.slice (some ⟨w.heap.size, 0, none⟩) l.length (grownCap w l.length 0 e)) (w.drew.alloc ob) := ⟨_, ⟨_, rfl⟩, hr⟩
          refine ⟨.slice (some ⟨w.heap.size, 0, none⟩) l.length (grownCap w l.length 0 e), w.drew.alloc ob, ⟨.inl ?_, (ext_drew_alloc w _).mono hB, (ext_drew_alloc w _).size, fun hn => ⟨?_, hm.new (ext_drew_alloc w _) hB ?_ ?_⟩⟩, rfl⟩
          · simp only [execOp, ho, hs.ev hx, conc, Sem.run_bind, hr, Result.andThen_ok, Sem.run_pure]
          · simp only [conc]
            rw [hn.1, hn.2]
            congr 1; omega
          · rw [hn.1]; exact Nat.le_refl _
          · obtain ⟨mk, rfl⟩ := hob
            refine ⟨List.replicate (grownCap w l.length 0 e - l.length) (.int .u8 0), e, mk, ?_⟩
            rw [hn.1]
            exact heap_drew_new w _
      · cases h
    · cases h
  · cases h
theorem rm_m {u : Option (AV × St)} (h : rm u = .m v s') : u = some (v, s') := by
  cases u with
  | none => cases h
  | some p => obtain ⟨p1, p2⟩ := p; simp only [rm] at h; injection h with h1 h2; rw [h1, h2]
theorem rv_m {u : Option AV} (h : rv u = .m v s') : False := by cases u <;> simp_all [rv]
theorem rl_m {u : Res} (h : rl u = .m v s') : False := by cases u <;> simp_all [rl]
/-- an operation that makes or turns memory -/
theorem xop_m {c : Cx} {rec : Callee} {op : Op} (hs : Sy G.F ρ a E) (hm : MemOk G ρ w s.mem) (hB : G.B ≤ w.heap.size) (ho : o.op = op) (h : xop c rec s E op = .m v s') : ∃ u w', (MS0 G ρ c.P a o w v s'.mem u w' ∧ s'.nx = s.nx) ∨ (MS G ρ c.P a o w s.nx v s'.mem u w' ∧ s'.nx = s.nx + 1) := by
  have one : (∃ u w', MS G ρ c.P a o w s.nx v s'.mem u w' ∧ s'.nx = s.nx + 1) → ∃ u w', (MS0 G ρ c.P a o w v s'.mem u w' ∧ s'.nx = s.nx) ∨ (MS G ρ c.P a o w s.nx v s'.mem u w' ∧ s'.nx = s.nx + 1) := fun ⟨u, w', h1, h2⟩ => ⟨u, w', .inr ⟨h1, h2⟩⟩
  have zero : (∃ u w', MS0 G ρ c.P a o w v s'.mem u w' ∧ s'.nx = s.nx) → ∃ u w', (MS0 G ρ c.P a o w v s'.mem u w' ∧ s'.nx = s.nx) ∨ (MS G ρ c.P a o w s.nx v s'.mem u w' ∧ s'.nx = s.nx + 1) := fun ⟨u, w', h1, h2⟩ => ⟨u, w', .inl ⟨h1, h2⟩⟩
  cases op <;> simp only [xop] at h
  case convert t t2 x =>
    unfold xconv at h
    cases hb : isSliceT (c.P.underlying t2) with
    | true => simp only [hb, cond_true] at h; exact one (g_bytes hs hm hB ho (rm_m h))
    | false => simp only [hb, cond_false] at h; exact (rv_m h).elim
  case binOp op t x y t2 => exact (xbinop_m h).elim
  case alloc t => exact one (g_alloc hm hB ho (rm_m h))
  case box t x => exact one (g_box hs hm hB ho (rm_m h))
  case store t x y => exact zero (g_store hs hm ho (rm_m h))
  case buildSlice t len ps => exact one (g_lit hs hm hB ho (rm_m h))
  case makeSlice t x y => exact one (g_make hs hm hB ho (rm_m h))
  case makeMap t r =>
    cases r with
    | none => exact one (g_mkmap hm hB ho (rm_m h))
    | some r => simp at h
  case mapUpdate t x y z => exact zero (g_putM hs hm (.inl ho) (rm_m h))
  case insert t x y z => exact zero (g_putM hs hm (.inr ho) (rm_m h))
  case range t x => exact one (g_range hs hm hB ho (rm_m h))
  case call q =>
    unfold xcallop at h
    split at h
    · unfold xfun at h
      split at h
      · split at h
        · cases h
        · exact (rl_m h).elim
      · cases h
    · cases h
    · rename_i b hb
      split at h
      · exact (rv_m h).elim
      · exact (rv_m h).elim
      · exact (rv_m h).elim
      · exact (rv_m h).elim
      · exact g_app hs hm hB ho hb (rm_m h)
      · exact zero (g_copy hs hm ho hb (rm_m h))
      · exact zero (g_clear hs hm ho hb (rm_m h))
      · exact zero (g_del hs hm ho hb (rm_m h))
      · cases h
  case defer q =>
    unfold xdefer at h
    split at h
    · split at h <;> cases h
    · cases h
  case next x b => cases b <;> simp only at h <;> first | exact (rl_m h).elim | cases h
  all_goals first | exact (rv_m h).elim | cases h
end
end Go.Proofs.AL.Rx
/- Regions that draw their order: an operation may be taken first where what it reads is as it was till it comes up. -/
namespace Go.Proofs.AL.Rx
open Go
section
variable {P : Program} {ops : Array Oper} {Q : Exit → Act → World → Prop} {md : Region.Mode} {S : World → Prop} {M : Nat → Nat → Bool}
/-- operations that were taken first, and what is to hold till they come up -/
abbrev Pend := List (Nat × (World → Prop))
def wpAnyL (P : Program) (md : Region.Mode) (ops : Array Oper) (Q : Exit → Act → World → Prop) (M : Nat → Nat → Bool) : Nat → Pend → Array Bool → Act → World → Prop
  | 0, _, listed, a, w => Region.ready md ops listed = [] ∧ Q .normal a w
  | fuel + 1, L, listed, a, w => (Region.ready md ops listed = [] → Q .normal a w) ∧
    ∀ j ∈ Region.ready md ops listed, wpOp P ops Q j (fun a' w' => (∀ p ∈ L, M j p.1 = false → p.2 w') ∧ wpAnyL P md ops Q M fuel (L.filter fun p => !M j p.1) (listed.setIfInBounds j true) a' w') a w
theorem wpAny_of_L : ∀ (fuel : Nat) (L : Pend) (listed : Array Bool) (a : Act) (w : World), wpAnyL P md ops Q M fuel L listed a w → wpAny P md ops Q fuel listed a w
  | 0, _, _, _, _, h => h
  | fuel + 1, _, _, _, _, h => ⟨h.1, fun i hi => wpOp_mono (fun a' w' h' => wpAny_of_L fuel _ _ a' w' h'.2) (h.2 i hi)⟩
theorem wpAnyL_sub : ∀ (fuel : Nat) (L L' : Pend) (listed : Array Bool) (a : Act) (w : World), (∀ p ∈ L', p ∈ L) → wpAnyL P md ops Q M fuel L listed a w → wpAnyL P md ops Q M fuel L' listed a w
  | 0, _, _, _, _, _, _, h => h
  | fuel + 1, _, _, _, _, _, hs, h => ⟨h.1, fun i hi => wpOp_mono (fun a' w' h' => ⟨fun p hp hm => h'.1 p (hs p hp) hm, wpAnyL_sub fuel _ _ _ a' w' (fun p hp => by
      rw [List.mem_filter] at hp ⊢; exact ⟨hs p hp.1, hp.2⟩) h'.2⟩) (h.2 i hi)⟩
def Closed (md : Region.Mode) (ops : Array Oper) (listed : Array Bool) : Prop :=
  ∀ k o, ops[k]? = some o → listed.getD k false = true → ∀ e ∈ o.after, Region.binds md e = true → listed.getD e.on false = true
/-- M j i: i comes surely ahead of j -/
def Ahead (md : Region.Mode) (ops : Array Oper) (M : Nat → Nat → Bool) : Prop :=
  ∀ j o, ops[j]? = some o → ∀ i, M j i = true → ∃ e ∈ o.after, Region.binds md e = true ∧ (e.on = i ∨ (e.on < j ∧ M e.on i = true))
theorem Ahead.listed (hM : Ahead md ops M) {listed : Array Bool} (hc : Closed md ops listed) : ∀ (j : Nat) (o : Oper), ops[j]? = some o → (∀ e ∈ o.after, Region.binds md e = true → listed.getD e.on false = true) → ∀ i, M j i = true → listed.getD i false = true := by
  intro j
  induction j using Nat.strongRecOn with
  | _ j ih =>
    intro o ho hl i hm
    obtain ⟨e, he, hb, h⟩ := hM j o ho i hm
    rcases h with rfl | ⟨hlt, h⟩
    · exact hl e he hb
    · have hj : j < ops.size := (Array.getElem?_eq_some_iff.1 ho).1
      have ho' : ops[e.on]? = some ops[e.on] := Array.getElem?_eq_getElem (by omega)
      exact ih e.on hlt _ ho' (hc e.on _ ho' (hl e he hb)) i h
theorem Closed.set {listed : Array Bool} (hc : Closed md ops listed) (hs : listed.size = ops.size) {j : Nat} (hj : j ∈ Region.ready md ops listed) : Closed md ops (listed.setIfInBounds j true) := by
  obtain ⟨_, o, ho, hall⟩ := mem_ready.1 hj
  intro k ok hk hl e he hb
  by_cases hjk : j = k
  · subst hjk
    rw [ho] at hk; injection hk with hk; subst hk
    exact getD_set_true (hall e he hb)
  · rw [getD_set_ne false hjk] at hl
    exact getD_set_true (hc k ok hk hl e he hb)
theorem wpAnyL_first {i : Nat} {oi : Oper} {v : Value} (hM : Ahead md ops M) (hi : ops[i]? = some oi) (hsel : ∀ (j : Nat) (o : Oper) cs b, ops[j]? = some o → o.op ≠ .select cs b)
    (hQ : ∀ c a w, Q (.panic c) (a.put oi.dst v) w → Q (.panic c) a w) :
    ∀ (fuel : Nat) (L : Pend) (listed : Array Bool) (a : Act) (w : World),
      (∀ j oj, ops[j]? = some oj → j ≠ i → listed.getD j true = false → (∀ e ∈ oj.after, Region.binds md e = true → e.on ≠ i) → oi.apart ops oj = true) →
      Closed md ops listed → listed.size = ops.size → i ∈ Region.ready md ops listed → YieldsIf P ops S oi v a → S w → (∀ p ∈ L, p.2 w) →
      wpAnyL P md ops Q M fuel ((i, S) :: L) (listed.setIfInBounds i true) (a.put oi.dst v) w → wpAnyL P md ops Q M (fuel + 1) L listed a w := by
  intro fuel
  induction fuel with
  | zero =>
    intro L listed a w _ _ _ hr hy hS hL H
    refine ⟨fun h => (by rw [h] at hr; cases hr), fun j hj => ?_⟩
    by_cases hji : j = i
    · subst hji; exact hy.wpOp hi hS ⟨fun p hp _ => hL p hp, H⟩
    · have := ready_mono hj hji
      rw [H.1] at this
      cases this
  | succ fuel ih =>
    intro L listed a w hfree hc hsz hr hy hS hL H
    refine ⟨fun h => (by rw [h] at hr; cases hr), fun j hj => ?_⟩
    by_cases hji : j = i
    · subst hji
      refine hy.wpOp hi hS ⟨fun p hp _ => hL p hp, wpAnyL_sub _ _ _ _ _ _ (fun p hp => ?_) H⟩
      exact List.mem_cons_of_mem _ (List.mem_filter.1 hp).1
    · have h1 := H.2 j (ready_mono hj hji)
      obtain ⟨hjun, oj, hoj, hall⟩ := mem_ready.1 hj
      have h0 := (mem_ready.1 hr).1
      have hlt : i < listed.size := by
        rcases Nat.lt_or_ge i listed.size with h' | h'
        · exact h'
        · simp [Array.getElem?_eq_none h'] at h0
      have h0f : listed.getD i false = false := by
        simp [hlt] at h0 ⊢; exact h0
      have hmji : M j i = false := by
        cases hm : M j i with
        | false => rfl
        | true => have := hM.listed hc j oj hoj hall i hm; rw [h0f] at this; cases this
      have hnot : ∀ e ∈ oj.after, Region.binds md e = true → e.on ≠ i := fun e he hb heq => by
        have h1 := hall e he hb
        rw [heq, h0f] at h1
        cases h1
      have h2 := wpOp_putIf hoj (hfree j oj hoj hji hjun hnot) (fun cs b => hsel i oi cs b hi) (fun cs b => hsel j oj cs b hoj) hQ hy h1
      have hfree' : ∀ k ok, ops[k]? = some ok → k ≠ i → (listed.setIfInBounds j true).getD k true = false →
          (∀ e ∈ ok.after, Region.binds md e = true → e.on ≠ i) → oi.apart ops ok = true := fun k ok hk hki hun hno => by
        refine hfree k ok hk hki ?_ hno
        by_cases hjk : j = k
        · subst hjk; exact hjun
        · rw [getD_set_ne true hjk] at hun; exact hun
      refine wpOp_mono (fun a' w' h3 => ?_) h2
      obtain ⟨hy', hP, h4⟩ := h3
      refine ⟨fun p hp hm => hP p (List.mem_cons_of_mem _ hp) hm, ?_⟩
      have hS' : S w' := hP (i, S) (by simp) hmji
      refine ih (L.filter fun p => !M j p.1) (listed.setIfInBounds j true) a' w' hfree' (hc.set hsz hj) (by simpa using hsz) (ready_mono hr (Ne.symm hji)) hy' hS' (fun p hp => ?_) ?_
      · obtain ⟨h5, h6⟩ := List.mem_filter.1 hp
        exact hP p (List.mem_cons_of_mem _ h5) (by simpa using h6)
      · rw [Array.setIfInBounds_comm _ _ hji]
        have e : ((i, S) :: L).filter (fun p => !M j p.1) = (i, S) :: L.filter (fun p => !M j p.1) := by
          rw [List.filter_cons_of_pos (by simp [hmji])]
        rw [e] at h4
        exact h4
end
end Go.Proofs.AL.Rx
/- RV, soundness, twelfth part: a step of a range, a call. -/
set_option linter.unusedVariables false
set_option linter.unusedSimpArgs false
namespace Go.Proofs.AL.Rx
open Go Go.RowKit
section
variable {G : Fb} {ρ : Val} {P : Program} {w w' W : World} {a : Act} {E : VEnv} {o : Oper} {x y z : Operand} {t t2 ty : TypeId} {r : AV} {m : Tr Ao} {s s' : St} {v : AV}
/-- which one comes -/
def jOf (w : World) (n : Nat) : Nat := if (Question.mapNext n).forced then 0 else (Question.mapNext n).cut (w.tape w.drawn (.mapNext n))
def drewIf (w : World) (n : Nat) : World := if (Question.mapNext n).forced then w else { w with drawn := w.drawn + 1 }
theorem run_chooseN (n : Nat) : (choose (.mapNext n)).run P w = .ok (jOf w n) (drewIf w n) := by
  simp only [choose, Sem.run, jOf, drewIf]
  split <;> rfl
theorem jOf_lt {n : Nat} (h : 0 < n) : jOf w n < n := by
  unfold jOf
  split
  · exact h
  · exact Nat.mod_lt _ h
theorem drewIf_heap (n : Nat) : (drewIf w n).heap = w.heap := by unfold drewIf; split <;> rfl
theorem drewIf_ext (n : Nat) : Ext w (drewIf w n) := by
  unfold drewIf
  split
  · exact Ext.refl w
  · exact (Below.refl _ _).drew
theorem hasN_iff {b : Nat} : ∀ {l : List Nat}, hasN b l = l.contains b
  | [] => rfl
  | x :: r => by
    simp only [hasN, hasN_iff, List.contains_cons]
    congr 1
    rw [Bool.eq_iff_iff]
    simp [Nat.beq_eq]
    exact eq_comm
theorem leftA_eq {seen : List Nat} : ∀ (es : List (AV × AV × Nat)), leftA seen es = es.filter fun e => !seen.contains e.2.2
  | [] => rfl
  | (k, v, b) :: r => by
    simp only [leftA, hasN_iff, List.filter_cons, leftA_eq r]
    cases seen.contains b <;> rfl
theorem steps_get {id mm since clock : Nat} {seen : List Nat} : ∀ (l : List (AV × AV × Nat)) (j : Nat), (steps s id mm since seen clock l)[j]? = (l[j]?).map fun e => (.tup [.bool true, e.1, e.2.1], s.put id (.iter mm since (seen ++ [e.2.2]) clock))
  | [], j => by simp [steps]
  | (k, v, b) :: r, 0 => by simp [steps]
  | (k, v, b) :: r, j + 1 => by simp only [steps, List.getElem?_cons_succ]; exact steps_get r j
theorem steps_len {id mm since clock : Nat} {seen : List Nat} : ∀ (l : List (AV × AV × Nat)), (steps s id mm since seen clock l).length = l.length
  | [] => rfl
  | (k, v, b) :: r => by simp [steps, steps_len r]
theorem x_next {l : List (AV × St)} (hs : Sy G.F ρ a E) (hm : MemOk G ρ w s.mem) (ho : o.op = .next x false) (h : xnext s (evA E x) = some l) :
    ∃ v s' u w', l[jOf w l.length]? = some (v, s') ∧ MS0 G ρ P a o w v s'.mem u w' ∧ s'.nx = s.nx := by
  unfold xnext at h
  split at h
  · rename_i id hx
    split at h
    · rename_i mm since seen last hg
      split at h
      · rename_i es clock hg2
        cases hb : es.all (fun e => Nat.blt e.2.2 since && Nat.blt e.2.2 last) with
        | false => simp [hb] at h
        | true =>
          simp only [hb, cond_true] at h
          have hob : w.heap[ρ.blk id]? = some (.mapIter (some (ρ.blk mm)) since seen.toArray last) := hm.ok id _ hg
          have hob2 : w.heap[ρ.blk mm]? = some (.map (es.map (entC G.F ρ)).toArray clock) := hm.ok mm _ hg2
          have hbd : ∀ e ∈ es, e.2.2 < since ∧ e.2.2 < last := fun e he => by
            have := List.all_eq_true.1 hb e he
            simp only [Bool.and_eq_true, Nat.blt_eq] at this
            exact this
          have r1 : (getObj (ρ.blk id)).run P w = .ok (.mapIter (some (ρ.blk mm)) since seen.toArray last) w := by simp [getObj, Sem.run, hob]
          have r2 : (getObj (ρ.blk mm)).run P w = .ok (.map (es.map (entC G.F ρ)).toArray clock) w := run_getO hob2
          have hun : (!seen.toArray.isEmpty && !(es.map (entC G.F ρ)).toArray.isEmpty && (es.map (entC G.F ρ)).toArray.all (fun e => decide (e.born ≥ last))) = false := by
            cases es with
            | nil => simp
            | cons e0 er =>
              have := (hbd e0 (by simp)).2
              have h2 : ((e0 :: er).map (entC G.F ρ)).toArray.all (fun e => decide (e.born ≥ last)) = false := by
                simp [entC]
                intro h; omega
              rw [h2, Bool.and_false]
          have hleft : (es.map (entC G.F ρ)).toArray.filter (fun e => !seen.toArray.contains e.born) = ((leftA seen es).map (entC G.F ρ)).toArray := by
            rw [leftA_eq]
            apply Array.ext'
            rw [Array.toList_filter]
            show List.filter _ (es.map (entC G.F ρ)) = (List.filter _ es).map (entC G.F ρ)
            rw [List.filter_map]
            have : es.filter ((fun e : MapEntry => !seen.toArray.contains e.born) ∘ entC G.F ρ) = es.filter (fun e => !seen.contains e.2.2) := List.filter_congr fun e _ => by simp [entC]; exact decide_eq_decide.2 Iff.rfl
            rw [this]
          have hold : (((leftA seen es).map (entC G.F ρ)).toArray).filter (fun e => decide (e.born < since)) = ((leftA seen es).map (entC G.F ρ)).toArray := by
            apply Array.ext'
            simp only [Array.toList_filter]
            apply List.filter_eq_self.2
            intro e he
            simp only [List.mem_map] at he
            obtain ⟨e', h1, rfl⟩ := he
            have h1 : e' ∈ es := by rw [leftA_eq] at h1; exact (List.mem_filter.1 h1).1
            exact decide_eq_true (hbd e' h1).1
          have hnew : (((leftA seen es).map (entC G.F ρ)).toArray).filter (fun e => decide (e.born ≥ since)) = #[] := by
            apply Array.ext'
            simp only [Array.toList_filter]
            apply List.filter_eq_nil_iff.2
            intro e he
            simp only [List.mem_map] at he
            obtain ⟨e', h1, rfl⟩ := he
            have h1 : e' ∈ es := by rw [leftA_eq] at h1; exact (List.mem_filter.1 h1).1
            have := (hbd e' h1).1
            simp [entC]; omega
          have pre : ∀ res, ((do
              let candidates := (if (((leftA seen es).map (entC G.F ρ)).toArray).isEmpty then #[none] else #[]) ++ ((((leftA seen es).map (entC G.F ρ)).toArray) ++ #[]).map some
              match candidates[← choose (.mapNext candidates.size)]? with
              | some (some e) =>
                setObj (ρ.blk id) (.mapIter (some (ρ.blk mm)) since (seen.toArray.push e.born) clock)
                pure (.tuple #[.bool true, e.key, e.val])
              | some none => pure (.tuple #[.bool false])
              | none => stuck "Next: no such candidate") : Sem Value).run P w = res → (Instr.next (.pointer (some ⟨ρ.blk id, 0, none⟩)) false o.type).run P w = res := by
            rintro res rfl
            unfold Instr.next
            simp only [Sem.run_bind, r1, Result.andThen_ok, r2, hun, Bool.false_eq_true, if_false, hleft, hold, hnew]
            rfl
          have hset : ∀ (ob : Obj), (setObj (ρ.blk id) ob).run P (drewIf w (leftA seen es).length) = .ok () (setO (drewIf w (leftA seen es).length) (ρ.blk id) ob) := fun ob => run_setI ob (by rw [drewIf_heap]; exact hob)
          have he : ∀ u w', (Instr.next (.pointer (some ⟨ρ.blk id, 0, none⟩)) false o.type).run P w = .ok u w' → (execOp a.eval o).run P w = .ok (.value u) w' := fun u w' hr => by
            simp [execOp, ho, hs.ev hx, conc, hr]
          split at h
          · rename_i hnil
            injection h with h; subst h
            refine ⟨_, _, .tuple #[.bool false], drewIf w 1, rfl, ⟨.inl (he _ _ (pre _ ?_)), ?_, ?_, fun _ => ⟨rfl, ?_⟩⟩, rfl⟩
            · rw [hnil]
              simp [run_chooseN, jOf, Question.forced, drewIf]
            · exact (drewIf_ext 1).mono (Nat.le_trans (hm.lo id _ hg rfl) (Nat.le_of_lt (hm.lt hg)))
            · rw [drewIf_heap]; exact Nat.le_refl _
            · have e1 : drewIf w 1 = w := by simp [drewIf, Question.forced]
              rw [e1]
              exact hm.del
          · rename_i hne
            injection h with h; subst h
            have hpos : 0 < (leftA seen es).length := by
              cases hl : leftA seen es with
              | nil => exact absurd hl (by simpa using hne)
              | cons a l => simp
            have hj := jOf_lt (w := w) hpos
            rw [steps_len]
            have hget : (leftA seen es)[jOf w (leftA seen es).length]? = some (leftA seen es)[jOf w (leftA seen es).length] := List.getElem?_eq_getElem hj
            generalize hee : (leftA seen es)[jOf w (leftA seen es).length] = ee at hget
            have h7 := hm.put (w' := setO (drewIf w (leftA seen es).length) (ρ.blk id) (.mapIter (some (ρ.blk mm)) since (seen.toArray.push ee.2.2) clock)) (ob' := .iter mm since (seen ++ [ee.2.2]) clock) hg rfl
              ((But.of_ext (drewIf_ext _)).trans (but_set _ _ _)) (by
                show (setO _ _ _).heap[ρ.blk id]? = _
                rw [get_set (by rw [drewIf_heap]; exact hm.lt hg)]
                simp)
            refine ⟨.tup [.bool true, ee.1, ee.2.1], s.put id (.iter mm since (seen ++ [ee.2.2]) clock), .tuple #[.bool true, conc G.F ρ ee.1, conc G.F ρ ee.2.1], _, by rw [steps_get, hget]; rfl, ⟨.inl (he _ _ (pre _ ?_)), h7.2, ?_, fun _ => ⟨by simp [conc, concs], h7.1⟩⟩, rfl⟩
            · have hemp : (((leftA seen es).map (entC G.F ρ)).toArray).isEmpty = false := by
                cases hl : leftA seen es with
                | nil => exact absurd hl (by simpa using hne)
                | cons a l => simp
              simp only [hemp, Bool.false_eq_true, if_false, Array.append_empty, Array.empty_append]
              have hsz : ((((leftA seen es).map (entC G.F ρ)).toArray).map some).size = (leftA seen es).length := by simp
              simp only [hsz, Sem.run_bind, run_chooseN, Result.andThen_ok]
              have hget2 : ((((leftA seen es).map (entC G.F ρ)).toArray).map some)[jOf w (leftA seen es).length]? = some (some (entC G.F ρ ee)) := by
                simp [hget]
              rw [hget2]
              simp only [Sem.run_bind, hset, Result.andThen_ok, Sem.run_pure, entC]
            · rw [size_set, drewIf_heap]; exact Nat.le_refl _
      · cases h
    · cases h
  · cases h
theorem methA_run {nm : String} {f : FuncId} {u q : AV} (h : methA P t nm u = some (f, q)) (hm : ∀ i off, u = .ptr i off → True) : (∃ e, P.underlying t = some (.pointer e)) ∧ ∀ n W, (method (n + 1) t (conc G.F ρ u) nm).run P W = .ok (f, conc G.F ρ q) W := by
  unfold methA at h
  split at h
  · rename_i id off
    split at h
    · rename_i e mt ht hmt
      obtain ⟨inf, hi, hfind⟩ := Option.bind_eq_some_iff.1 hmt
      refine ⟨⟨e, ht⟩, ?_⟩
      split at h
      · rename_i hpath hfun
        injection h with h; injection h with e1 e2; subst e1 e2
        intro n W
        have h2 : mt.path.isEmpty = true := by
          cases hp : mt.path with
          | mk l => rw [hp] at hpath; simp at hpath; subst hpath; rfl
        simp [method, typeInfo, hi, hfind, hpath, follow, hfun, receiverAt, run_underlying ht, Place.get, conc]
      · rename_i sp hpath hfun
        split at h
        · rename_i o' n0 hderef hfld
          injection h with h; injection h with e1 e2; subst e1 e2
          obtain ⟨fs, fd, d, h3, h4, h5, h6, h7, h8⟩ := fldOf_spec hfld
          intro n W
          have h9 : (sizeOf fd.type).run P W = .ok (n0 + 1) W := run_size h6
          have hnp : ∀ e, d ≠ .pointer e := fun e he => by subst he; cases h8
          simp [method, typeInfo, hi, hfind, hpath, follow, hfun, hderef, run_underlying h3, h4, Place.get, conc, asAddr, fieldPlace, h9, receiverAt, run_underlying h7, add_lit, h5]
        · cases h
      · cases h
    · cases h
  · cases h
/-- a function that may be called so -/
def IsFn (P : Program) (f : FuncId) : Prop := ∃ fn, P.funcs[f]? = some fn ∧ (fn.name == "runtime.NumGoroutine") = false ∧ fn.body.isSome = true
theorem IsFn.run {f : FuncId} (h : IsFn P f) (args : Array Value) : (callFunc f args).run P w = .ok (.enter f args) w := by
  obtain ⟨fn, h1, h2, h3⟩ := h
  have h4 : fn.name ≠ "runtime.NumGoroutine" := by simpa using h2
  simp [callFunc, h1, h4]
  intro h0; rw [h0] at h3; cases h3
theorem made_pos (P : Program) : ∃ n, P.types.size + Made.depth = n + 1 := ⟨P.types.size + Made.depth - 1, by
  have : 0 < Made.depth := by decide
  omega⟩
/-- a call enters its function -/
theorem x_enter {c : Cx} {rec : Callee} {q : Call} {f : Operand} {g : AV} {vs : List AV} {l : List (AV × St)} (ho : o.op = .call q) (hq : q.callee = .value f) (h1 : evA E f = some g) (h2 : evAs E q.args.toList = some vs)
    (hfn : ∀ f vs s l, rec f vs s = some l → IsFn c.P f) (h : xcalled c rec s g vs = some l) : ∃ f' vs', rec f' vs' s = some l ∧ ∀ ρ w, Sy G.F ρ a E → (execOp a.eval o).run c.P w = .ok (.enter f' (concs G.F ρ vs').toArray) w := by
  unfold xcalled at h
  split at h
  · rename_i f' p1 p2
    refine ⟨f', p1 ++ vs ++ p2, h, fun ρ w hs => ?_⟩
    have h3 := hs.evsA h2
    have h4 := hs.ev h1
    have := (hfn _ _ _ _ h).run (w := w) (concs G.F ρ (p1 ++ vs ++ p2)).toArray
    simp only [execOp, ho, Sem.run_bind]
    simp [resolve, hq, h3, h4, conc, Deferred.ofValue, invoke]
    simpa [concs_append] using this
  · rename_i t nm p2
    split at h
    · rename_i u r
      split at h
      · rename_i f' u' hmeth
        refine ⟨f', u' :: r, h, fun ρ w hs => ?_⟩
        have h3 := hs.evsA h2
        have h4 := hs.ev h1
        obtain ⟨⟨e, ht⟩, hrun⟩ := methA_run (G := G) (ρ := ρ) hmeth (fun _ _ _ => trivial)
        obtain ⟨n, hn⟩ := made_pos c.P
        have hfr := (hfn _ _ _ _ h).run (w := w) (concs G.F ρ (u' :: r)).toArray
        simp only [execOp, ho, Sem.run_bind]
        simp [resolve, hq, h3, h4, conc, concs, Deferred.ofValue, invoke, run_underlying ht, callMethod, hn, hrun]
        have htk : List.take r.length (concs G.F ρ r) = concs G.F ρ r := List.take_of_length_le (by simp)
        rw [htk]
        simpa [concs] using hfr
      · cases h
    · cases h
  · cases h
end
end Go.Proofs.AL.Rx
/- RV, soundness, thirteenth part: what is told of a state, and an operation on it. -/
set_option linter.unusedVariables false
set_option linter.unusedSimpArgs false
namespace Go.Proofs.AL.Rx
open Go Go.RowKit
def Agree (A : Nat → Prop) (ρ ρ' : Val) : Prop := ∀ i, A i → ρ'.blk i = ρ.blk i ∧ ρ'.cap i = ρ.cap i
theorem Agree.refl (A : Nat → Prop) (ρ : Val) : Agree A ρ ρ := fun _ _ => ⟨rfl, rfl⟩
theorem Agree.trans {A A' : Nat → Prop} {a b c : Val} (h : Agree A a b) (hs : ∀ i, A i → A' i) (k : Agree A' b c) : Agree A a c := fun i hi => ⟨(k i (hs i hi)).1.trans (h i hi).1, (k i (hs i hi)).2.trans (h i hi).2⟩
def defC (F : Fx) (ρ : Val) : AV → Deferred
  | .fn f x y => ⟨.fn f (concs F ρ y).toArray, (concs F ρ x).toArray⟩
  | _ => ⟨.nil, #[]⟩
def Df (F : Fx) (ρ : Val) (a : Act) (D : List AV) : Prop := a.defers = D.map (defC F ρ)
structure SR (G : Fb) (N : Nat) (A : Nat → Prop) (ρ : Val) (a : Act) (w : World) (E : VEnv) (D : List AV) (m : Tr Ao) : Prop where
  rel : ∀ ρ', Agree A ρ ρ' → Sy G.F ρ' a E ∧ Df G.F ρ' a D ∧ MemOk G ρ' w m
  B : G.B ≤ w.heap.size
  size : a.tmps.size = N
structure Reach (G : Fb) (A0 : Nat → Prop) (ρ0 : Val) (n0 : Nat) (w0 : World) (A : Nat → Prop) (ρ : Val) (n : Nat) (w : World) : Prop where
  agree : Agree A0 ρ0 ρ
  sub : ∀ i, A i → A0 i ∨ (n0 ≤ i ∧ i < n)
  sup : ∀ i, A0 i → A i
  n : n0 ≤ n
  below : Below G.B w0 w
  size : w0.heap.size ≤ w.heap.size
section
variable {G : Fb} {N : Nat} {A A0 A1 : Nat → Prop} {ρ ρ0 ρ1 : Val} {P : Program} {w w0 w1 w' W : World} {a : Act} {E E' : VEnv} {D D' : List AV} {o : Oper} {m : Tr Ao} {s s' : St} {v : AV} {Q : Exit → Act → World → Prop}
theorem Reach.refl (A : Nat → Prop) (ρ : Val) (n : Nat) (w : World) : Reach G A ρ n w A ρ n w := ⟨Agree.refl _ _, fun _ h => .inl h, fun _ h => h, Nat.le_refl _, Below.refl _ _, Nat.le_refl _⟩
theorem Reach.trans {n0 n1 n2 : Nat} {A2 : Nat → Prop} {ρ2 : Val} {w2 : World} (h : Reach G A0 ρ0 n0 w0 A1 ρ1 n1 w1) (k : Reach G A1 ρ1 n1 w1 A2 ρ2 n2 w2) : Reach G A0 ρ0 n0 w0 A2 ρ2 n2 w2 :=
  ⟨h.agree.trans h.sup k.agree, fun i hi => by
    rcases k.sub i hi with h1 | ⟨h1, h2⟩
    · rcases h.sub i h1 with h3 | ⟨h3, h4⟩
      · exact .inl h3
      · exact .inr ⟨h3, Nat.lt_of_lt_of_le h4 k.n⟩
    · exact .inr ⟨Nat.le_trans h.n h1, h2⟩, fun i hi => k.sup i (h.sup i hi), Nat.le_trans h.n k.n, h.below.trans k.below, Nat.le_trans h.size k.size⟩
theorem Reach.bd {n0 n1 : Nat} (h : Reach G A0 ρ0 n0 w0 A1 ρ1 n1 w1) (hA : ∀ i, A0 i → i < n0) : ∀ i, A1 i → i < n1 := fun i hi => by
  rcases h.sub i hi with h1 | ⟨_, h2⟩
  · exact Nat.lt_of_lt_of_le (hA i h1) h.n
  · exact h2
theorem SR.mono (h : SR G N A ρ a w E D m) (hA : ∀ i, A i → A1 i) : SR G N A1 ρ a w E D m := ⟨fun ρ' k => h.rel ρ' (fun i hi => k i (hA i hi)), h.B, h.size⟩
theorem SR.sub {E' : VEnv} {m' : Tr Ao} (h : SR G N A ρ a w E D m) (hE : ∀ t v, E'.get t = some v → E.get t = some v) (hm : ∀ i o, m'.get i = some o → m.get i = some o) : SR G N A ρ a w E' D m' :=
  ⟨fun ρ' k => ⟨fun t v ht => (h.rel ρ' k).1 t v (hE t v ht), (h.rel ρ' k).2.1, (h.rel ρ' k).2.2.sub hm⟩, h.B, h.size⟩
/-- the place that an operation writes to is there -/
def DstOk (N : Nat) (o : Oper) : Prop := ∀ d, o.dst = some d → d < N
theorem Sy.put {F : Fx} {u : Value} (h : Sy F ρ a E) (hd : DstOk a.tmps.size o) (hu : u = conc F ρ v) : Sy F ρ (a.put o.dst u) (dstA E o.dst v) := by
  intro t q hq
  cases hdst : o.dst with
  | none => rw [hdst] at hq; exact h t q hq
  | some d =>
    rw [hdst] at hq
    have hlt := hd d hdst
    rcases Tr.get_set _ _ _ _ hq with ⟨rfl, e⟩ | ⟨hne, hq⟩
    · injection e with e; subst e
      simp [Act.put, hlt, hu]
    · have := h t q hq
      simpa [Act.put, Array.getD_eq_getD_getElem?, Array.getElem?_setIfInBounds, Ne.symm hne] using this
theorem put_size (d : Option Nat) (u : Value) : (a.put d u).tmps.size = a.tmps.size := by cases d <;> simp [Act.put]
theorem put_defers (d : Option Nat) (u : Value) : (a.put d u).defers = a.defers := by cases d <;> rfl
theorem SR.put {u : Value} (h : SR G N A ρ a w E D m) (hd : DstOk N o) (hu : ∀ ρ', Agree A ρ ρ' → u = conc G.F ρ' v) : SR G N A ρ (a.put o.dst u) w (dstA E o.dst v) D m := by
  refine ⟨fun ρ' k => ⟨(h.rel ρ' k).1.put (by rw [h.size]; exact hd) (hu ρ' k), ?_, (h.rel ρ' k).2.2⟩, h.B, by rw [put_size, h.size]⟩
  unfold Df; rw [put_defers]; exact (h.rel ρ' k).2.1
theorem undefA_conc (ρ : Val) : undef = conc G.F ρ undefA := by simp [undefA, conc, concs, undef]
/-- what comes of an operation -/
def Outc (r : R1) (o : Oper) (E : VEnv) (D : List AV) (s : St) (E' : VEnv) (D' : List AV) (s' : St) : Prop :=
  match r with
  | .v v => E' = dstA E o.dst v ∧ D' = D ∧ s' = s
  | .m v s1 => E' = dstA E o.dst v ∧ D' = D ∧ s' = s1
  | .d v => E' = dstA E o.dst undefA ∧ D' = v :: D ∧ s' = s
  | .l l => ∃ v, (v, s') ∈ l ∧ E' = dstA E o.dst v ∧ D' = D
  | .bad => False
structure CalleeOk (G : Fb) (c : Cx) (rec : Callee) : Prop where
  fn : ∀ f vs s l, rec f vs s = some l → IsFn c.P f
  calls : ∀ f vs s l, rec f vs s = some l → ∀ (A : Nat → Prop) ρ w args, (∀ i, A i → i < s.nx) → G.B ≤ w.heap.size → (∀ ρ', Agree A ρ ρ' → (concs G.F ρ' vs).toArray = args ∧ MemOk G ρ' w s.mem) →
    Calls c.P f args w fun e w' => ∃ v s' A1 ρ1, (v, s') ∈ l ∧ Reach G A ρ s.nx w A1 ρ1 s'.nx w' ∧ ∀ ρ', Agree A1 ρ1 ρ' → e = .returned (conc G.F ρ' v) ∧ MemOk G ρ' w' s'.mem
def withNew (ρ : Val) (i : Nat) (u : Value) : Val :=
  match u with
  | .pointer (some ad) => ⟨fun j => if j = i then ad.block else ρ.blk j, ρ.cap⟩
  | .slice (some ad) n c => ⟨fun j => if j = i then ad.block else ρ.blk j, fun j => if j = i then c - n else ρ.cap j⟩
  | .map (some g) => ⟨fun j => if j = i then g else ρ.blk j, ρ.cap⟩
  | _ => ρ
theorem newAt_with {i : Nat} {u : Value} : NewAt (withNew ρ i u) i u := by
  unfold withNew NewAt
  cases u <;> first | trivial | (rename_i x; cases x <;> simp) | (rename_i x n c; cases x <;> simp)
theorem newAt_agree {i : Nat} {u : Value} (h : NewAt ρ i u) (hA : A i) (k : Agree A ρ ρ1) : NewAt ρ1 i u := by
  have := k i hA
  cases u <;> first | trivial | skip
  · rename_i x; cases x
    · trivial
    · exact this.1.trans h
  · rename_i x n c; cases x
    · trivial
    · exact ⟨this.1.trans h.1, this.2.trans h.2⟩
  · rename_i x; cases x
    · trivial
    · exact this.1.trans h
theorem agree_with {i : Nat} {u : Value} (hA : ¬ A i) : Agree A ρ (withNew ρ i u) := by
  intro j hj
  have hne : j ≠ i := fun e => hA (e ▸ hj)
  unfold withNew
  cases u <;> first | exact ⟨rfl, rfl⟩ | (rename_i x; cases x <;> simp [hne]) | (rename_i x n c; cases x <;> simp [hne])
theorem ran_det {u u' : Value} {w1 w2 : World} (h1 : Ran P a o w u w1) (h2 : Ran P a o w u' w2) : u = u' ∧ w1 = w2 := by
  rcases h1 with h1 | ⟨h1, e1⟩ <;> rcases h2 with h2 | ⟨h2, e2⟩ <;> rw [h1] at h2 <;> injection h2 with h3 h4 <;> first | (injection h3 with h3; exact ⟨h3, h4⟩) | (exact ⟨by rw [e1, e2], h4⟩) | cases h3
theorem ran_wp {u : Value} {w1 : World} (h : Ran P a o w u w1) {K : Act → World → Prop} (hK : K (a.put o.dst u) w1) : o.wp P a w K Q := by
  unfold Oper.wp
  rcases h with h | ⟨h, rfl⟩ <;> rw [h] <;> exact hK
theorem rv_l {u : Option AV} {l : List (AV × St)} (h : rv u = .l l) : False := by cases u <;> simp_all [rv]
theorem rm_l {u : Option (AV × St)} {l : List (AV × St)} (h : rm u = .l l) : False := by cases u <;> simp_all [rm]
theorem rl_l {u : Res} {l : List (AV × St)} (h : rl u = .l l) : u = some l := by cases u <;> simp_all [rl]
theorem rv_d {u : Option AV} (h : rv u = .d v) : False := by cases u <;> simp_all [rv]
theorem rm_d {u : Option (AV × St)} (h : rm u = .d v) : False := by cases u <;> simp_all [rm]
theorem rl_d {u : Res} (h : rl u = .d v) : False := by cases u <;> simp_all [rl]
theorem xconv_l {t t2 : TypeId} {x : Option AV} {l : List (AV × St)} (h : xconv P s t t2 x = .l l) : False := by
  unfold xconv at h
  cases hb : isSliceT (P.underlying t2) with
  | true => simp only [hb, cond_true] at h; exact rm_l h
  | false => simp only [hb, cond_false] at h; exact rv_l h
theorem xconv_d {t t2 : TypeId} {x : Option AV} (h : xconv P s t t2 x = .d v) : False := by
  unfold xconv at h
  cases hb : isSliceT (P.underlying t2) with
  | true => simp only [hb, cond_true] at h; exact rm_d h
  | false => simp only [hb, cond_false] at h; exact rv_d h
theorem xop_l {c : Cx} {rec : Callee} {op : Op} {l : List (AV × St)} (h : xop c rec s E op = .l l) : (∃ x, op = .next x false ∧ xnext s (evA E x) = some l) ∨ (∃ q f g vs, op = .call q ∧ q.callee = .value f ∧ evA E f = some g ∧ evAs E q.args.toList = some vs ∧ xcalled c rec s g vs = some l) ∨ (∃ b t x y t2, op = .binOp b t x y t2 ∧ ysB b (evA E x) (evA E y) = true ∧ l = [(.bool false, s), (.bool true, s)]) := by
  cases op <;> simp only [xop] at h
  case binOp b t x y t2 => exact .inr (.inr ⟨b, t, x, y, t2, rfl, xbinop_l h⟩)
  case convert t t2 x => exact (xconv_l h).elim
  case makeMap t r => cases r <;> simp [rm] at h
  case next x b => cases b <;> simp only at h <;> first | exact .inl ⟨x, rfl, rl_l h⟩ | cases h
  case defer q =>
    unfold xdefer at h
    split at h
    · split at h <;> cases h
    · cases h
  case call q =>
    unfold xcallop at h
    split at h
    · rename_i f hf
      unfold xfun at h
      split at h
      · rename_i g vs h1 h2
        split at h
        · cases h
        · exact .inr (.inl ⟨q, f, g, vs, rfl, hf, h1, h2, rl_l h⟩)
      · cases h
    · cases h
    · split at h <;> first | exact (rv_l h).elim | exact (rm_l h).elim | cases h
  all_goals first | exact (rv_l h).elim | exact (rm_l h).elim | cases h
theorem xop_d {c : Cx} {rec : Callee} {op : Op} (h : xop c rec s E op = .d v) : ∃ q f g x y, op = .defer q ∧ q.callee = .value f ∧ q.args.toList = [] ∧ evA E f = some (.fn g x y) ∧ v = .fn g x y := by
  cases op <;> simp only [xop] at h
  case binOp b t x y t2 => exact (xbinop_d h).elim
  case convert t t2 x => exact (xconv_d h).elim
  case makeMap t r => cases r <;> simp [rm] at h
  case next x b => cases b <;> simp only at h <;> first | exact (rl_d h).elim | cases h
  case defer q =>
    unfold xdefer at h
    split at h
    · rename_i f hf
      split at h
      · rename_i g x y h1 h2
        injection h with h
        exact ⟨q, f, g, x, y, rfl, hf, h1, h2, h.symm⟩
      · cases h
    · cases h
  case call q =>
    unfold xcallop at h
    split at h
    · unfold xfun at h
      split at h
      · split at h
        · cases h
        · exact (rl_d h).elim
      · cases h
    · cases h
    · split at h <;> first | exact (rv_d h).elim | exact (rm_d h).elim | cases h
  all_goals first | exact (rv_d h).elim | exact (rm_d h).elim | cases h
/-- '==' of two texts yields one of the two -/
theorem ysB_run {F : Fx} {ρ : Val} {P : Program} {w : World} {a : Act} {E : VEnv} {o : Oper} {b : BinOp} {t : TypeId} {x y : Operand} {t2 : TypeId} (hs : Sy F ρ a E) (ho : o.op = .binOp b t x y t2) (h : ysB b (evA E x) (evA E y) = true) : ∃ v : Bool, Does P a o w (.bool v) := by
  unfold ysB at h
  split at h
  · rename_i p q hx hy
    have ex := hs.ev hx
    have ey := hs.ev hy
    have hg : (eqGuard b t x y (conc F ρ (.ys p)) (conc F ρ (.ys q))).run P w = .ok () w := run_eqG_one (by simp [conc]) rfl
    split at h
    · exact ⟨_, d_bin1 (q := .bool ((strOfNums ((concs F ρ p).map numV)).toList == (strOfNums ((concs F ρ q).map numV)).toList)) ho ex ey hg (by simp only [conc, binOp, Op.stringOp]; rfl)⟩
    · exact ⟨_, d_bin1 (q := .bool (!((strOfNums ((concs F ρ p).map numV)).toList == (strOfNums ((concs F ρ q).map numV)).toList))) ho ex ey hg (by simp only [conc, binOp, Op.stringOp]; rfl)⟩
    · cases h
  · cases h
theorem op_R {c : Cx} {rec : Callee} {K : Act → World → Prop} (ok : CxOk G c) (rok : CalleeOk G c rec) (hd : DstOk N o) (hS : SR G N A ρ a w E D s.mem) (hA : ¬ A s.nx) (hA2 : (∃ l, xop c rec s E o.op = .l l) → ∀ i, A i → i < s.nx)
    (hK : ∀ A1 ρ1 a1 w1 E1 D1 s1, Outc (xop c rec s E o.op) o E D s E1 D1 s1 → SR G N A1 ρ1 a1 w1 E1 D1 s1.mem → Reach G A ρ s.nx w A1 ρ1 s1.nx w1 → ((∃ l, xop c rec s E o.op = .l l) ∨ s1.nx ≤ s.nx + 1) → K a1 w1) (hb : xop c rec s E o.op ≠ .bad) : o.wp c.P a w K Q := by
  obtain ⟨hs0, hf0, hm0⟩ := hS.rel ρ (Agree.refl _ _)
  cases hr : xop c rec s E o.op with
  | bad => exact absurd hr hb
  | v v =>
    have hrun := xop_v ok hs0 (.inr hm0) rfl hr
    refine ran_wp (u := conc G.F ρ v) (.inl hrun) ?_
    refine hK A ρ _ w (dstA E o.dst v) D s (by rw [hr]; exact ⟨rfl, rfl, rfl⟩) (hS.put hd fun ρ' k => ?_) (Reach.refl _ _ _ _) (.inr (by omega))
    obtain ⟨hs1, _, hm1⟩ := hS.rel ρ' k
    have hrun' := xop_v ok hs1 (.inr hm1) rfl hr
    have := hrun.symm.trans hrun'
    injection this with this _; injection this
  | m v s1 =>
    obtain ⟨u, w1, h1⟩ := xop_m hs0 hm0 hS.B rfl hr
    rcases h1 with ⟨h1, hn⟩ | ⟨h1, hn⟩
    · refine ran_wp h1.ran ?_
      have hall : ∀ ρ', Agree A ρ ρ' → u = conc G.F ρ' v ∧ MemOk G ρ' w1 s1.mem := fun ρ' k => by
        obtain ⟨hs1, _, hm1⟩ := hS.rel ρ' k
        obtain ⟨u', w1', h2⟩ := xop_m hs1 hm1 hS.B rfl hr
        rcases h2 with ⟨h2, _⟩ | ⟨h2, hn2⟩
        · obtain ⟨rfl, rfl⟩ := ran_det h1.ran h2.ran
          exact h2.val trivial
        · omega
      refine hK A ρ _ w1 (dstA E o.dst v) D s1 (by rw [hr]; exact ⟨rfl, rfl, rfl⟩) ⟨fun ρ' k => ⟨?_, ?_, (hall ρ' k).2⟩, Nat.le_trans hS.B h1.size, by rw [put_size, hS.size]⟩ ⟨Agree.refl _ _, fun _ h => .inl h, fun _ h => h, by omega, h1.below, h1.size⟩ (.inr (by omega))
      · exact (hS.rel ρ' k).1.put (by rw [hS.size]; exact hd) (hall ρ' k).1
      · unfold Df; rw [put_defers]; exact (hS.rel ρ' k).2.1
    · refine ran_wp h1.ran ?_
      have hall : ∀ ρ', Agree (fun i => A i ∨ i = s.nx) (withNew ρ s.nx u) ρ' → u = conc G.F ρ' v ∧ MemOk G ρ' w1 s1.mem ∧ Agree A ρ ρ' := fun ρ' k => by
        have k' : Agree A ρ ρ' := (agree_with hA).trans (fun _ h => .inl h) k
        obtain ⟨hs1, _, hm1⟩ := hS.rel ρ' k'
        obtain ⟨u', w1', h2⟩ := xop_m hs1 hm1 hS.B rfl hr
        rcases h2 with ⟨h2, hn2⟩ | ⟨h2, _⟩
        · omega
        · obtain ⟨rfl, rfl⟩ := ran_det h1.ran h2.ran
          have := h2.val (newAt_agree newAt_with (.inr rfl) k)
          exact ⟨this.1, this.2, k'⟩
      refine hK (fun i => A i ∨ i = s.nx) (withNew ρ s.nx u) _ w1 (dstA E o.dst v) D s1 (by rw [hr]; exact ⟨rfl, rfl, rfl⟩) ⟨fun ρ' k => ⟨?_, ?_, (hall ρ' k).2.1⟩, Nat.le_trans hS.B h1.size, by rw [put_size, hS.size]⟩ ⟨agree_with hA, fun i h => ?_, fun _ h => .inl h, by omega, h1.below, h1.size⟩ (.inr (by omega))
      · exact (hS.rel ρ' (hall ρ' k).2.2).1.put (by rw [hS.size]; exact hd) (hall ρ' k).1
      · unfold Df; rw [put_defers]; exact (hS.rel ρ' (hall ρ' k).2.2).2.1
      · rcases h with h | rfl
        · exact .inl h
        · exact .inr ⟨Nat.le_refl _, by omega⟩
  | d v =>
    obtain ⟨q, f, g, x, y, ho, hq, hargs, hf1, rfl⟩ := xop_d hr
    have harr : q.args = #[] := by
      cases hq' : q.args with
      | mk l => rw [hq'] at hargs; simp at hargs; subst hargs; rfl
    have hrun : ∀ ρ', Agree A ρ ρ' → (execOp a.eval o).run c.P w = .ok (.defer (defC G.F ρ' (.fn g x y))) w := fun ρ' k => by
      have := (hS.rel ρ' k).1.ev hf1
      simp [execOp, ho, resolve, hq, harr, this, conc, Deferred.ofValue, defC]
    have h0 := hrun ρ (Agree.refl _ _)
    unfold Oper.wp
    rw [h0]
    show K _ w
    refine hK A ρ _ w (dstA E o.dst undefA) (.fn g x y :: D) s (by rw [hr]; exact ⟨rfl, rfl, rfl⟩) ⟨fun ρ' k => ⟨?_, ?_, (hS.rel ρ' k).2.2⟩, hS.B, by rw [put_size]; exact hS.size⟩ (Reach.refl _ _ _ _) (.inr (by omega))
    · exact Sy.put (a := { a with defers := _ }) (hS.rel ρ' k).1 (by show DstOk a.tmps.size o; rw [hS.size]; exact hd) (undefA_conc ρ')
    · unfold Df; rw [put_defers]
      have h1 := h0.symm.trans (hrun ρ' k)
      injection h1 with h1 _; injection h1 with h1
      show defC G.F ρ (.fn g x y) :: a.defers = _
      rw [List.map_cons, h1, (hS.rel ρ' k).2.1]
  | l l =>
    have hbd := hA2 ⟨l, hr⟩
    rcases xop_l hr with ⟨x, ho, hx⟩ | ⟨q, f, g, vs, ho, hq, h1, h2, hx⟩ | ⟨b, t, x, y, t2, ho, hy, rfl⟩
    · obtain ⟨v, s1, u, w1, hj, h3, hn⟩ := x_next (P := c.P) hs0 hm0 ho hx
      refine ran_wp h3.ran ?_
      have hall : ∀ ρ', Agree A ρ ρ' → u = conc G.F ρ' v ∧ MemOk G ρ' w1 s1.mem := fun ρ' k => by
        obtain ⟨hs1, _, hm1⟩ := hS.rel ρ' k
        obtain ⟨v', s1', u', w1', hj', h4, _⟩ := x_next (P := c.P) hs1 hm1 ho hx
        rw [hj] at hj'; injection hj' with hj'; injection hj' with e1 e2; subst e1 e2
        obtain ⟨rfl, rfl⟩ := ran_det h3.ran h4.ran
        exact h4.val trivial
      refine hK A ρ _ w1 (dstA E o.dst v) D s1 (by rw [hr]; exact ⟨v, List.mem_of_getElem? hj, rfl, rfl⟩) ⟨fun ρ' k => ⟨?_, ?_, (hall ρ' k).2⟩, Nat.le_trans hS.B h3.size, by rw [put_size, hS.size]⟩ ⟨Agree.refl _ _, fun _ h => .inl h, fun _ h => h, by omega, h3.below, h3.size⟩ (.inr (by omega))
      · exact (hS.rel ρ' k).1.put (by rw [hS.size]; exact hd) (hall ρ' k).1
      · unfold Df; rw [put_defers]; exact (hS.rel ρ' k).2.1
    · obtain ⟨f', vs', h3, h4⟩ := x_enter (G := G) (a := a) ho hq h1 h2 rok.fn hx
      have hargs : ∀ ρ', Agree A ρ ρ' → (concs G.F ρ' vs').toArray = (concs G.F ρ vs').toArray ∧ MemOk G ρ' w s.mem := fun ρ' k => by
        refine ⟨?_, (hS.rel ρ' k).2.2⟩
        have := (h4 ρ' w (hS.rel ρ' k).1).symm.trans (h4 ρ w hs0)
        injection this with this _
        injection this
      have h4 := h4 ρ w hs0
      unfold Oper.wp
      rw [h4]
      refine Calls.mono (rok.calls f' vs' s l h3 A ρ w _ hbd hS.B hargs) fun e w2 he => ?_
      obtain ⟨v, s1, A1, ρ1, hmem, hreach, hall⟩ := he
      obtain ⟨rfl, hm1⟩ := hall ρ1 (Agree.refl _ _)
      refine hK A1 ρ1 _ w2 (dstA E o.dst v) D s1 (by rw [hr]; exact ⟨v, hmem, rfl, rfl⟩) ⟨fun ρ' k => ⟨?_, ?_, (hall ρ' k).2⟩, Nat.le_trans hS.B hreach.size, by rw [put_size, hS.size]⟩ hreach (.inl ⟨l, hr⟩)
      · refine ((hS.rel ρ' (hreach.agree.trans hreach.sup k)).1).put (by rw [hS.size]; exact hd) ?_
        have := (hall ρ' k).1
        injection this
      · unfold Df; rw [put_defers]; exact (hS.rel ρ' (hreach.agree.trans hreach.sup k)).2.1
    · obtain ⟨v, hv⟩ := ysB_run (F := G.F) (ρ := ρ) (P := c.P) (w := w) hs0 ho hy
      refine ran_wp (u := .bool v) (.inl hv) ?_
      refine hK A ρ _ w (dstA E o.dst (.bool v)) D s (by rw [hr]; exact ⟨.bool v, by cases v <;> simp, rfl, rfl⟩) (hS.put (v := .bool v) hd fun ρ' k => rfl) (Reach.refl _ _ _ _) (.inr (by omega))
end
end Go.Proofs.AL.Rx
/- RV, soundness, fourteenth part: regions. -/
set_option linter.unusedVariables false
set_option linter.unusedSimpArgs false
namespace Go.Proofs.AL.Rx
open Go Go.RowKit
section
variable {G : Fb} {N : Nat} {A A0 A1 : Nat → Prop} {ρ ρ0 ρ1 : Val} {P : Program} {w w0 w1 w' W : World} {a : Act} {E E' : VEnv} {D D' : List AV} {o : Oper} {ops : Array Oper} {m : Tr Ao} {s s' : St} {v : AV} {Q : Exit → Act → World → Prop}
theorem cat_out {x y : Rs} {m : List Out} (h : x.cat y = .out m) : ∃ p q, x = .out p ∧ y = .out q ∧ m = p ++ q := by
  unfold Rs.cat at h
  split at h
  · rename_i p
    split at h
    · rename_i q
      injection h with h
      exact ⟨p, q, rfl, rfl, h.symm⟩
    · rename_i hy
      subst h
      exact absurd rfl (hy m)
  · rename_i hx
    subst h
    exact absurd rfl (hx m)
theorem bindV_out {k : AV → St → Rs} : ∀ {l : List (AV × St)} {m : List Out}, bindV k l = .out m → ∀ v s, (v, s) ∈ l → ∃ p, k v s = .out p ∧ ∀ x ∈ p, x ∈ m
  | [], m, h, v, s, hm => by cases hm
  | (v0, s0) :: r, m, h, v, s, hm => by
    cases r with
    | nil =>
      simp only [bindV] at h
      simp only [List.mem_singleton] at hm
      injection hm with e1 e2; subst e1 e2
      exact ⟨m, h, fun x hx => hx⟩
    | cons b r =>
      simp only [bindV] at h
      obtain ⟨p, q, h1, h2, rfl⟩ := cat_out h
      rcases List.mem_cons.1 hm with e | hm
      · injection e with e1 e2; subst e1 e2
        exact ⟨p, h1, fun x hx => List.mem_append_left _ hx⟩
      · obtain ⟨p', h3, h4⟩ := bindV_out h2 v s hm
        exact ⟨p', h3, fun x hx => List.mem_append_right _ (h4 x hx)⟩
theorem bindI_out {k : Nat → Rs} : ∀ {l : List Nat} {m : List Out}, bindI k l = .out m → ∀ i, i ∈ l → ∃ p, k i = .out p ∧ ∀ x ∈ p, x ∈ m
  | [], m, h, i, hm => by cases hm
  | i0 :: r, m, h, i, hm => by
    cases r with
    | nil =>
      simp only [bindI] at h
      simp only [List.mem_singleton] at hm
      subst hm
      exact ⟨m, h, fun x hx => hx⟩
    | cons b r =>
      simp only [bindI] at h
      obtain ⟨p, q, h1, h2, rfl⟩ := cat_out h
      rcases List.mem_cons.1 hm with e | hm
      · subst e
        exact ⟨p, h1, fun x hx => List.mem_append_left _ hx⟩
      · obtain ⟨p', h3, h4⟩ := bindI_out h2 i hm
        exact ⟨p', h3, fun x hx => List.mem_append_right _ (h4 x hx)⟩
theorem bindO_out {k : Out → Rs} : ∀ {l : List Out} {m : List Out}, bindO k l = .out m → ∀ i, i ∈ l → ∃ p, k i = .out p ∧ ∀ x ∈ p, x ∈ m
  | [], m, h, i, hm => by cases hm
  | i0 :: r, m, h, i, hm => by
    cases r with
    | nil =>
      simp only [bindO] at h
      simp only [List.mem_singleton] at hm
      subst hm
      exact ⟨m, h, fun x hx => hx⟩
    | cons b r =>
      simp only [bindO] at h
      obtain ⟨p, q, h1, h2, rfl⟩ := cat_out h
      rcases List.mem_cons.1 hm with e | hm
      · subst e
        exact ⟨p, h1, fun x hx => List.mem_append_left _ hx⟩
      · obtain ⟨p', h3, h4⟩ := bindO_out h2 i hm
        exact ⟨p', h3, fun x hx => List.mem_append_right _ (h4 x hx)⟩
theorem xdo_out {k : VEnv → List AV → St → Rs} {r : R1} {l : List Out} (h : xdo o E D s k r = .out l) : r ≠ .bad ∧ ∀ E' D' s', Outc r o E D s E' D' s' → ∃ l', k E' D' s' = .out l' ∧ ∀ x ∈ l', x ∈ l := by
  cases r with
  | bad => cases h
  | v v => exact ⟨by simp, fun E' D' s' ⟨e1, e2, e3⟩ => by subst e1 e2 e3; exact ⟨l, h, fun x hx => hx⟩⟩
  | m v s1 => exact ⟨by simp, fun E' D' s' ⟨e1, e2, e3⟩ => by subst e1 e2 e3; exact ⟨l, h, fun x hx => hx⟩⟩
  | d v => exact ⟨by simp, fun E' D' s' ⟨e1, e2, e3⟩ => by subst e1 e2 e3; exact ⟨l, h, fun x hx => hx⟩⟩
  | l l0 => exact ⟨by simp, fun E' D' s' ⟨v, hv, e1, e2⟩ => by subst e1 e2; exact bindV_out h v s' hv⟩
/-! guards -/
def boolV : Value → Option Bool
  | .bool b => some b
  | _ => none
theorem yieldedA {j dj : Nat} {u : Value} (hj : (ops[j]?).bind (·.dst) = some dj) (h : a.tmps.getD dj undef = u) : yielded ops a.tmps j = boolV u := by
  unfold yielded
  rw [hj]
  simp only [Option.bind_some]
  rw [Array.getD_eq_getD_getElem?] at h
  cases hc : a.tmps[dj]? with
  | none => rw [hc] at h; simp at h; subst h; rfl
  | some u' => rw [hc] at h; simp at h; subst h; cases u' <;> rfl
theorem wantA_s {F : Fx} {b : Bool} (hs : Sy F ρ a E) (h : wantA ops E o.guard = some b) : Region.wanted o (yielded ops a.tmps) = b := by
  unfold wantA at h
  unfold Region.wanted
  cases hg : o.guard with
  | none => rw [hg] at h; simp only at h ⊢; injection h
  | some g =>
    obtain ⟨j, want⟩ := g
    rw [hg] at h
    simp only at h ⊢
    split at h
    · rename_i d hd
      split at h
      · rename_i q hq
        injection h with h
        rw [yieldedA hd (hs d _ hq)]
        simp only [conc, boolV]
        rw [← h]
        cases q <;> cases want <;> rfl
      · rename_i hq
        injection h with h
        rw [yieldedA hd (hs d _ hq)]
        simp only [conc, boolV]
        rw [← h]; rfl
      · cases h
    · cases h
/-- an operation, wanted or not, and what comes behind it -/
theorem oper_s {c : Cx} {rec : Callee} {k : VEnv → List AV → St → Rs} {l : List Out} {K : Act → World → Prop} (ok : CxOk G c) (rok : CalleeOk G c rec) (hd : DstOk N o) (hS : SR G N A ρ a w E D s.mem) (hA : ¬ A s.nx) (hA2 : (∃ l, xop c rec s E o.op = .l l) → ∀ i, A i → i < s.nx)
    (h : xoper c rec ops o E D s k = .out l)
    (hK : ∀ A1 ρ1 a1 w1 E1 D1 s1 l', SR G N A1 ρ1 a1 w1 E1 D1 s1.mem → Reach G A ρ s.nx w A1 ρ1 s1.nx w1 → ((∃ l, xop c rec s E o.op = .l l) ∨ s1.nx ≤ s.nx + 1) → k E1 D1 s1 = .out l' → (∀ x ∈ l', x ∈ l) → K a1 w1) :
    if Region.wanted o (yielded ops a.tmps) = true then o.wp c.P a w K Q else K (a.put o.dst undef) w := by
  have hs0 := (hS.rel ρ (Agree.refl _ _)).1
  unfold xoper at h
  split at h
  · rename_i hw
    rw [wantA_s hs0 hw, if_pos rfl]
    obtain ⟨hb, hout⟩ := xdo_out h
    refine op_R ok rok hd hS hA hA2 (fun A1 ρ1 a1 w1 E1 D1 s1 ho hS1 hR hn => ?_) hb
    obtain ⟨l', h1, h2⟩ := hout E1 D1 s1 ho
    exact hK A1 ρ1 a1 w1 E1 D1 s1 l' hS1 hR hn h1 h2
  · rename_i hw
    rw [wantA_s hs0 hw, if_neg (by simp)]
    exact hK A ρ _ w _ D s l (hS.put hd fun ρ' _ => undefA_conc ρ') (Reach.refl _ _ _ _) (.inr (by omega)) h (fun x hx => hx)
  · cases h
def toE : Ex → Exit
  | .normal => .normal
  | .exit i => .exit i
  | .ret => .ret
/-- what an outcome is good for -/
def Fin (G : Fb) (N : Nat) (A0 : Nat → Prop) (ρ0 : Val) (n0 : Nat) (w0 : World) (Q : Exit → Act → World → Prop) (o : Out) : Prop :=
  ∀ A ρ a w, SR G N A ρ a w o.E o.D o.s.mem → Reach G A0 ρ0 n0 w0 A ρ o.s.nx w → Q (toE o.e) a w
theorem Fin.from {n0 n1 : Nat} {x : Out} (h : Fin G N A0 ρ0 n0 w0 Q x) (k : Reach G A0 ρ0 n0 w0 A1 ρ1 n1 w1) : Fin G N A1 ρ1 n1 w1 Q x := fun A ρ a w hS hR => h A ρ a w hS (k.trans hR)
theorem ops_s {c : Cx} {rec : Callee} (ok : CxOk G c) (rok : CalleeOk G c rec) : ∀ (l : List Oper) (A : Nat → Prop) (ρ : Val) (a : Act) (w : World) (E : VEnv) (D : List AV) (s : St) (out : List Out), (∀ o ∈ l, DstOk N o) → xops c rec ops l E D s = .out out → SR G N A ρ a w E D s.mem → (∀ i, A i → i < s.nx) →
    (∀ x ∈ out, Fin G N A ρ s.nx w Q x) → wpList c.P ops Q l a w
  | [], A, ρ, a, w, E, D, s, out, _, h, hS, hA, hF => by
    simp only [xops] at h
    injection h with h; subst h
    exact wpList_nil (hF ⟨.normal, E, D, s⟩ (by simp) A ρ a w hS (Reach.refl _ _ _ _))
  | o :: r, A, ρ, a, w, E, D, s, out, hd, h, hS, hA, hF => by
    simp only [xops] at h
    refine wpList_step fun K hK => ?_
    refine oper_s ok rok (hd o (by simp)) hS (fun h => Nat.lt_irrefl _ (hA _ h)) (fun _ => hA) h fun A1 ρ1 a1 w1 E1 D1 s1 l' hS1 hR _ hk hsub => ?_
    exact hK _ _ (ops_s ok rok r A1 ρ1 a1 w1 E1 D1 s1 l' (fun o ho => hd o (by simp [ho])) hk hS1 (hR.bd hA) fun x hx => (hF x (hsub x hx)).from hR)
/-! what comes surely ahead -/
theorem maskE_spec {ms : List Nat} {i : Nat} : ∀ {es : List Edge} {n : Nat}, (maskE ms es n).testBit i = true → n.testBit i = true ∨ ∃ e ∈ es, Region.binds .any e = true ∧ (e.on = i ∨ (ms.getD e.on 0).testBit i = true)
  | [], n, h => .inl h
  | e :: r, n, h => by
    simp only [maskE] at h
    cases hb : Region.binds .any e with
    | false =>
      simp only [hb, cond_false] at h
      rcases maskE_spec h with h | ⟨e', h1, h2⟩
      · exact .inl h
      · exact .inr ⟨e', by simp [h1], h2⟩
    | true =>
      simp only [hb, cond_true] at h
      rcases maskE_spec h with h | ⟨e', h1, h2⟩
      · simp only [Nat.testBit_or, Bool.or_eq_true] at h
        rcases h with (h | h) | h
        · exact .inl h
        · refine .inr ⟨e, by simp, hb, .inl ?_⟩
          rw [Nat.testBit_two_pow] at h
          simpa using h
        · exact .inr ⟨e, by simp, hb, .inr h⟩
      · exact .inr ⟨e', by simp [h1], h2⟩
theorem masksGo_spec : ∀ (l : List Oper) (ms : List Nat), (masksGo l ms).take ms.length = ms ∧ (masksGo l ms).length = ms.length + l.length ∧ ∀ k o, l[k]? = some o → (masksGo l ms)[ms.length + k]? = some (maskE ((masksGo l ms).take (ms.length + k)) o.after.toList 0)
  | [], ms => by simp [masksGo]
  | o :: r, ms => by
    obtain ⟨h1, h2, h3⟩ := masksGo_spec r (ms ++ [maskE ms o.after.toList 0])
    simp only [masksGo]
    simp only [List.length_append, List.length_cons, List.length_nil, Nat.zero_add] at h1 h2 h3
    have h4 : (masksGo r (ms ++ [maskE ms o.after.toList 0])).take ms.length = ms := by
      have := congrArg (List.take ms.length) h1
      rw [List.take_take, Nat.min_eq_left (by omega), List.take_append_of_le_length (Nat.le_refl _), List.take_length] at this
      exact this
    refine ⟨h4, by rw [h2]; simp; omega, fun k o' hk => ?_⟩
    cases k with
    | zero =>
      simp only [List.getElem?_cons_zero, Option.some.injEq] at hk
      subst hk
      rw [Nat.add_zero, h4]
      have := congrArg (fun l => l[ms.length]?) h1
      simp only [List.getElem?_take] at this
      rw [if_pos (by omega)] at this
      rw [this]
      simp
    | succ k =>
      simp only [List.getElem?_cons_succ] at hk
      have := h3 k o' hk
      rw [show ms.length + 1 + k = ms.length + (k + 1) from by omega] at this
      exact this
theorem masks_ahead : Ahead .any ops (aheadB (masks ops)) := by
  intro j o ho i hm
  obtain ⟨h1, h2, h3⟩ := masksGo_spec ops.toList []
  have hj : ops.toList[j]? = some o := by rw [Array.getElem?_toList]; exact ho
  have h4 := h3 j o hj
  simp only [List.length_nil, Nat.zero_add] at h4 h2
  unfold aheadB masks at hm
  rw [List.getD_eq_getElem?_getD, h4] at hm
  simp only [Option.getD_some] at hm
  rcases maskE_spec hm with h | ⟨e, he, hb, h⟩
  · simp at h
  · refine ⟨e, by simpa using he, hb, ?_⟩
    rcases h with h | h
    · exact .inl h
    · right
      rw [List.getD_eq_getElem?_getD, List.getElem?_take] at h
      split at h
      · rename_i hlt
        refine ⟨hlt, ?_⟩
        unfold aheadB masks
        rw [List.getD_eq_getElem?_getD]; exact h
      · simp at h
end
end Go.Proofs.AL.Rx
/- RV, soundness, fifteenth part: regions that draw their order, code, functions. -/
set_option linter.unusedVariables false
set_option linter.unusedSimpArgs false
namespace Go.Proofs.AL.Rx
open Go Go.RowKit
theorem sameMore_eq : ∀ {a b : Option Nat}, sameMore a b = true → a = b
  | none, none, _ => rfl
  | some a, some b, h => by simp only [sameMore] at h; rw [Nat.eq_of_beq_eq_true h]
  | none, some _, h => by cases h
  | some _, none, h => by cases h
theorem sameNats_eq : ∀ {a b : List Nat}, sameNats a b = true → a = b
  | [], [], _ => rfl
  | a :: l, b :: m, h => by
    simp only [sameNats, Bool.and_eq_true] at h
    rw [Nat.eq_of_beq_eq_true h.1, sameNats_eq h.2]
  | [], _ :: _, h => by cases h
  | _ :: _, [], h => by cases h
theorem samePairs_eq : ∀ {a b : List (AV × AV × Nat)}, samePairs a b = true → a = b
  | [], [], _ => rfl
  | (a, b, c) :: l, (d, e, f) :: m, h => by
    simp only [samePairs, Bool.and_eq_true] at h
    rw [same_eq _ _ h.1.1.1, same_eq _ _ h.1.1.2, Nat.eq_of_beq_eq_true h.1.2, samePairs_eq h.2]
  | [], _ :: _, h => by cases h
  | _ :: _, [], h => by cases h
theorem sameLook_eq : ∀ {a b : List (AV × AV)}, sameLook a b = true → a = b
  | [], [], _ => rfl
  | (a, b) :: l, (d, e) :: m, h => by
    simp only [sameLook, Bool.and_eq_true] at h
    rw [same_eq _ _ h.1.1, same_eq _ _ h.1.2, sameLook_eq h.2]
  | [], _ :: _, h => by cases h
  | _ :: _, [], h => by cases h
theorem sameO_eq : ∀ {a b : Ao}, sameO a b = true → a = b
  | .cells t cs a, b, h => by
    cases b <;> simp only [sameO] at h <;> first | (cases h; done) | skip
    simp only [Bool.and_eq_true] at h
    rw [Nat.eq_of_beq_eq_true h.1.1, sameMore_eq h.1.2, sames_eq _ _ h.2]
  | .map es c, b, h => by
    cases b <;> simp only [sameO] at h <;> first | (cases h; done) | skip
    simp only [Bool.and_eq_true] at h
    rw [Nat.eq_of_beq_eq_true h.1, samePairs_eq h.2]
  | .look es, b, h => by
    cases b <;> simp only [sameO] at h <;> first | (cases h; done) | skip
    rw [sameLook_eq h]
  | .iter a1 a2 a3 a4, b, h => by
    cases b <;> simp only [sameO] at h <;> first | (cases h; done) | skip
    simp only [Bool.and_eq_true] at h
    rw [Nat.eq_of_beq_eq_true h.1.1.1, Nat.eq_of_beq_eq_true h.1.1.2, sameNats_eq h.1.2, Nat.eq_of_beq_eq_true h.2]
  | .inv k j, b, h => by
    cases b <;> simp only [sameO] at h <;> first | (cases h; done) | skip
    simp only [Bool.and_eq_true] at h
    rw [Nat.eq_of_beq_eq_true h.1, Nat.eq_of_beq_eq_true h.2]
  | .ro cs, b, h => by
    cases b <;> simp only [sameO] at h <;> first | (cases h; done) | skip
    rw [sames_eq _ _ h]
/-! outcomes that meet -/
theorem meetT_get {α : Type} {f : α → α → Bool} (hf : ∀ x y, f x y = true → x = y) : ∀ (a b : Tr α) (k : Nat) (x : α), (meetT f a b).get k = some x → a.get k = some x ∧ b.get k = some x
  | .leaf, b, k, x, h => by unfold meetT at h; rw [Tr.get_leaf] at h; cases h
  | .node l u r, .leaf, k, x, h => by unfold meetT at h; rw [Tr.get_leaf] at h; cases h
  | .node l u r, .node l' u' r', k, x, h => by
    unfold meetT at h
    unfold Tr.get at h ⊢
    cases k with
    | zero =>
      simp only at h ⊢
      cases u with
      | none => simp at h
      | some p => cases u' with
        | none => simp at h
        | some q =>
          simp only at h
          cases hb : f p q with
          | false => simp [hb] at h
          | true =>
            simp only [hb, cond_true] at h
            rw [← hf p q hb]
            exact ⟨h, h⟩
    | succ k =>
      simp only at h ⊢
      cases hb : Nat.beq (k % 2) 0 with
      | true => simp only [hb, cond_true] at h ⊢; exact meetT_get hf l l' _ x h
      | false => simp only [hb, cond_false] at h ⊢; exact meetT_get hf r r' _ x h
/-- the first tells less than the second -/
structure Cov (o q : Out) : Prop where
  e : o.e = q.e
  D : o.D = q.D
  nx : o.s.nx = q.s.nx
  E : ∀ t v, o.E.get t = some v → q.E.get t = some v
  m : ∀ i x, o.s.mem.get i = some x → q.s.mem.get i = some x
theorem Cov.refl (o : Out) : Cov o o := ⟨rfl, rfl, rfl, fun _ _ h => h, fun _ _ h => h⟩
theorem Cov.trans {a b c : Out} (h : Cov a b) (k : Cov b c) : Cov a c := ⟨h.e.trans k.e, h.D.trans k.D, h.nx.trans k.nx, fun t v x => k.E t v (h.E t v x), fun t v x => k.m t v (h.m t v x)⟩
theorem meetO_cov {o p : Out} (h : meets2 o p = true) : Cov (meetO p o) p ∧ Cov (meetO p o) o := by
  unfold meets2 at h
  split at h
  · rename_i h1 h2
    simp only [Bool.and_eq_true] at h
    have hD := sames_eq _ _ h.1
    have hn := Nat.eq_of_beq_eq_true h.2
    have hE := fun t v hv => meetT_get (f := same) (fun x y => same_eq x y) p.E o.E t v hv
    have hm := fun t v hv => meetT_get (f := sameO) (fun x y => sameO_eq) p.s.mem o.s.mem t v hv
    exact ⟨⟨rfl, rfl, rfl, fun t v hv => (hE t v hv).1, fun t v hv => (hm t v hv).1⟩, ⟨by rw [h1]; exact h2, hD.symm, hn.symm, fun t v hv => (hE t v hv).2, fun t v hv => (hm t v hv).2⟩⟩
  · cases h
theorem insO_cov (o : Out) : ∀ (l : List Out), (∃ x ∈ insO o l, Cov x o) ∧ ∀ q ∈ l, ∃ x ∈ insO o l, Cov x q
  | [] => ⟨⟨o, by simp [insO], Cov.refl o⟩, fun q hq => by cases hq⟩
  | p :: r => by
    simp only [insO]
    cases hb : meets2 o p with
    | true =>
      simp only [cond_true]
      obtain ⟨h1, h2⟩ := meetO_cov hb
      refine ⟨⟨_, List.mem_cons_self, h2⟩, fun q hq => ?_⟩
      rcases List.mem_cons.1 hq with rfl | hq
      · exact ⟨_, List.mem_cons_self, h1⟩
      · exact ⟨q, List.mem_cons_of_mem _ hq, Cov.refl q⟩
    | false =>
      simp only [cond_false]
      obtain ⟨⟨x, h1, h2⟩, h3⟩ := insO_cov o r
      refine ⟨⟨x, List.mem_cons_of_mem _ h1, h2⟩, fun q hq => ?_⟩
      rcases List.mem_cons.1 hq with rfl | hq
      · exact ⟨q, List.mem_cons_self, Cov.refl q⟩
      · obtain ⟨x, h4, h5⟩ := h3 q hq
        exact ⟨x, List.mem_cons_of_mem _ h4, h5⟩
theorem dedO_cov : ∀ (l : List Out), ∀ q ∈ l, ∃ x ∈ dedO l, Cov x q
  | [], q, hq => by cases hq
  | [o], q, hq => by
    simp only [List.mem_singleton] at hq; subst hq
    exact ⟨q, by simp [dedO], Cov.refl q⟩
  | o :: b :: r, q, hq => by
    simp only [dedO]
    rcases List.mem_cons.1 hq with rfl | hq
    · exact (insO_cov q _).1
    · obtain ⟨x, h1, h2⟩ := dedO_cov (b :: r) q hq
      obtain ⟨y, h3, h4⟩ := (insO_cov o (dedO (b :: r))).2 x h1
      exact ⟨y, h3, h4.trans h2⟩
section
variable {G : Fb} {N : Nat} {A A0 A1 : Nat → Prop} {ρ ρ0 ρ1 : Val} {P : Program} {w w0 w1 w' W : World} {a : Act} {E E' : VEnv} {D D' : List AV} {o : Oper} {ops : Array Oper} {m : Tr Ao} {s s' : St} {v : AV} {Q : Exit → Act → World → Prop}
theorem Fin.cov {n0 : Nat} {x q : Out} (h : Fin G N A0 ρ0 n0 w0 Q x) (k : Cov x q) : Fin G N A0 ρ0 n0 w0 Q q := fun A ρ a w hS hR => by
  rw [← k.e]
  refine h A ρ a w ?_ (by rw [k.nx]; exact hR)
  rw [k.D]
  exact hS.sub k.E k.m
theorem keeps_holds {L : List (Nat × List Nat)} (h : keeps L s s' = true) {i : Nat} {ids : List Nat} (hm : (i, ids) ∈ L) {W : World} (hh : Holds G.F ρ W s'.mem ids) : Holds G.F ρ W s.mem ids := by
  intro id hid ob hob
  have h1 := List.all_eq_true.1 h _ hm
  have h2 := List.all_eq_true.1 h1 id hid
  unfold keeps1 at h2
  rw [hob] at h2
  simp only at h2
  split at h2
  · rename_i p hp
    rw [sameO_eq h2]
    exact hh id hid p hp
  · cases h2
theorem makes_not_l {c : Cx} {rec : Callee} {op : Op} (h : makes op = true) : ¬ ∃ l, xop c rec s E op = .l l := by
  rintro ⟨l, hl⟩
  rcases xop_l hl with ⟨x, rfl, _⟩ | ⟨q, f, g, vs, rfl, hq, _⟩ | ⟨b, t, x, y, t2, rfl, _⟩
  · cases h
  · simp [makes, hq] at h
  · cases h
def Lk (G : Fb) (A : Nat → Prop) (ρ : Val) (s : St) (L : List (Nat × List Nat)) (Lp : Pend) : Prop :=
  ∀ p ∈ Lp, ∃ ids, (p.1, ids) ∈ L ∧ ∀ ρ', Agree A ρ ρ' → ∀ W, Holds G.F ρ' W s.mem ids → p.2 W
theorem any_s {c : Cx} {rec : Callee} (ok : CxOk G c) (rok : CalleeOk G c rec) (hQ : ∀ c a d v w, Q (.panic c) (a.put d v) w → Q (.panic c) a w) {base : Nat} (hops : ∀ o ∈ ops.toList, DstOk N o) (hns : Region.noSelect ops = true) (hA0 : ∀ i, A0 i → i < base) :
    ∀ (n : Nat) (listed : Array Bool) (L : List (Nat × List Nat)) (Lp : Pend) (A : Nat → Prop) (ρ : Val) (a : Act) (w : World) (E : VEnv) (D : List AV) (s : St) (out : List Out),
    xany c rec ops (masks ops) base n listed L E D s = .out out → Closed .any ops listed → listed.size = ops.size → SR G N A ρ a w E D s.mem → Reach G A0 ρ0 base w0 A ρ s.nx w →
    (anyMakes ops = true → base + ops.size ≤ s.nx ∧ ∀ j, j < ops.size → listed.getD j true = false → ¬ A (base + j)) → Lk G A ρ s L Lp →
    (∀ x ∈ out, Fin G N A0 ρ0 base w0 Q x) → wpAnyL c.P .any ops Q (aheadB (masks ops)) n Lp listed a w := by
  intro n
  induction n with
  | zero =>
    intro listed L Lp A ρ a w E D s out h hc hsz hS hR hfr hL hF
    unfold xany at h
    split at h
    · rename_i hr
      injection h with h; subst h
      exact ⟨hr, hF ⟨.normal, E, D, s⟩ (by simp) A ρ a w hS hR⟩
    · cases h
  | succ n ih =>
    intro listed L Lp A ρ a w E D s out h hc hsz hS hR hfr hL hF
    obtain ⟨hs0, _, hm0⟩ := hS.rel ρ (Agree.refl _ _)
    unfold xany at h
    split at h
    · rename_i hr
      injection h with h; subst h
      refine ⟨fun _ => hF ⟨.normal, E, D, s⟩ (by simp) A ρ a w hS hR, fun j hj => ?_⟩
      rw [hr] at hj; cases hj
    · rename_i hne
      split at h
      · rename_i i hfind
        have hmem := List.mem_of_find?_eq_some hfind
        have hcond := List.find?_some hfind
        split at h
        · rename_i o ho
          simp only [ho, Bool.and_eq_true] at hcond
          obtain ⟨hq, hfree⟩ := hcond
          have hdst : DstOk N o := hops o (by
            have := Array.mem_of_getElem? ho
            exact Array.mem_def.1 this)
          have hsel := Region.noSelect_spec hns
          have hfree' := Region.free_spec ho hfree
          have hLw : ∀ p ∈ Lp, p.2 w := fun p hp => by
            obtain ⟨ids, _, h2⟩ := hL p hp
            exact h2 ρ (Agree.refl _ _) w (hm0.holds ids)
          have hc' := hc.set hsz hmem
          have hfr' : ∀ b : Bool, anyMakes ops = true → base + ops.size ≤ s.nx ∧ ∀ j, j < ops.size → (listed.setIfInBounds i true).getD j true = false → ¬ A (base + j) := fun _ hmk => ⟨(hfr hmk).1, fun j hj hl => (hfr hmk).2 j hj (by
            by_cases hij : i = j
            · subst hij; simp [hsz, hj] at hl
            · rw [getD_set_ne true hij] at hl; exact hl)⟩
          split at h
          · rename_i hw
            split at h
            · rename_i v hv
              have hdet : ∀ ρ', Agree A ρ ρ' → conc G.F ρ v = conc G.F ρ' v := fun ρ' k => by
                have h1 := xop_v ok hs0 (.inr hm0) rfl hv
                have h2 := xop_v ok (hS.rel ρ' k).1 (.inr (hS.rel ρ' k).2.2) rfl hv
                have := h1.symm.trans h2
                injection this with this _; injection this
              refine wpAnyL_first (S := fun W => ∃ ρ', Agree A ρ ρ' ∧ Holds G.F ρ' W s.mem (fpOf E o.op)) (v := conc G.F ρ v) masks_ahead ho hsel (fun c a w => hQ c a _ _ w) n Lp listed a w hfree' hc hsz hmem (.inl ⟨wantA_s hs0 hw, fun W hW => ?_⟩) ⟨ρ, Agree.refl _ _, hm0.holds _⟩ hLw ?_
              · obtain ⟨ρ', k, hH⟩ := hW
                rw [hdet ρ' k]
                exact xop_v ok (hS.rel ρ' k).1 (.inl ⟨hq, hH⟩) rfl hv
              · refine ih _ _ _ A ρ _ w _ D s out h hc' (by simpa using hsz) (hS.put hdst fun ρ' k => hdet ρ' k) hR (hfr' true) ?_ hF
                intro p hp
                rcases List.mem_cons.1 hp with rfl | hp
                · exact ⟨fpOf E o.op, List.mem_cons_self, fun ρ' k W hW => ⟨ρ', k, hW⟩⟩
                · obtain ⟨ids, h1, h2⟩ := hL p hp
                  exact ⟨ids, List.mem_cons_of_mem _ h1, h2⟩
            · cases h
          · rename_i hw
            refine wpAnyL_first (S := fun _ => True) (v := undef) masks_ahead ho hsel (fun c a w => hQ c a _ _ w) n Lp listed a w hfree' hc hsz hmem (.inr ⟨wantA_s hs0 hw, rfl⟩) trivial hLw ?_
            refine ih _ _ _ A ρ _ w _ D s out h hc' (by simpa using hsz) (hS.put hdst fun ρ' k => undefA_conc ρ') hR (hfr' true) ?_ hF
            intro p hp
            rcases List.mem_cons.1 hp with rfl | hp
            · exact ⟨[], List.mem_cons_self, fun _ _ _ _ => trivial⟩
            · obtain ⟨ids, h1, h2⟩ := hL p hp
              exact ⟨ids, List.mem_cons_of_mem _ h1, h2⟩
          · cases h
        · cases h
      · refine ⟨fun h0 => absurd h0 hne, fun j hj => ?_⟩
        obtain ⟨out', hk, hsub⟩ := bindI_out h j hj
        obtain ⟨hjun, o, ho, hall⟩ := mem_ready.1 hj
        have hjlt : j < ops.size := (Array.getElem?_eq_some_iff.1 ho).1
        have hdst : DstOk N o := hops o (by
          have := Array.mem_of_getElem? ho
          exact Array.mem_def.1 this)
        have hc' := hc.set hsz hj
        have hbd := hR.bd hA0
        refine wpOp_step ho (fun K hK => ?_)
        simp only [ho] at hk
        -- what holds behind the step
        have next : ∀ (A1 : Nat → Prop) (ρ1 : Val) (a1 : Act) (w1 : World) (E1 : VEnv) (D1 : List AV) (s1 : St) (nx1 : Nat) (l' : List Out), SR G N A1 ρ1 a1 w1 E1 D1 s1.mem → Reach G A0 ρ0 base w0 A1 ρ1 nx1 w1 → Agree A ρ ρ1 → (∀ i, A i → A1 i) →
            (anyMakes ops = true → base + ops.size ≤ nx1 ∧ ∀ k, k < ops.size → (listed.setIfInBounds j true).getD k true = false → ¬ A1 (base + k)) →
            keeps (dropL (masks ops) j L) s s1 = true → xany c rec ops (masks ops) base n (listed.setIfInBounds j true) (dropL (masks ops) j L) E1 D1 ⟨s1.mem, nx1⟩ = .out l' → (∀ x ∈ l', x ∈ out) →
            K a1 w1 := by
          intro A1 ρ1 a1 w1 E1 D1 s1 nx1 l' hS1 hR1 hag hsup hfr1 hkp hx hsub1
          refine hK a1 w1 ⟨fun p hp hM => ?_, ?_⟩
          · obtain ⟨ids, h1, h2⟩ := hL p hp
            have h3 : (p.1, ids) ∈ dropL (masks ops) j L := List.mem_filter.2 ⟨h1, by simp [hM]⟩
            exact h2 ρ1 hag w1 (keeps_holds hkp h3 ((hS1.rel ρ1 (Agree.refl _ _)).2.2.holds ids))
          · refine ih _ _ _ A1 ρ1 a1 w1 E1 D1 ⟨s1.mem, nx1⟩ l' hx hc' (by simpa using hsz) hS1 hR1 hfr1 ?_ (fun x hx => hF x (hsub1 x hx))
            intro p hp
            obtain ⟨hp1, hp2⟩ := List.mem_filter.1 hp
            obtain ⟨ids, h1, h2⟩ := hL p hp1
            have hM : aheadB (masks ops) j p.1 = false := by simpa using hp2
            have h3 : (p.1, ids) ∈ dropL (masks ops) j L := List.mem_filter.2 ⟨h1, by simp [hM]⟩
            exact ⟨ids, h3, fun ρ' k W hW => h2 ρ' (hag.trans hsup k) W (keeps_holds hkp h3 hW)⟩
        cases hmk : makes o.op with
        | true =>
          simp only [hmk, cond_true] at hk
          have hany : anyMakes ops = true := by
            unfold anyMakes
            rw [Array.any_eq_true]
            exact ⟨j, hjlt, by
              have := (Array.getElem?_eq_some_iff.1 ho).2
              rw [this]; exact hmk⟩
          obtain ⟨hb1, hb2⟩ := hfr hany
          refine oper_s (s := ⟨s.mem, base + j⟩) ok rok hdst hS (hb2 j hjlt hjun) (fun hl => absurd hl (makes_not_l hmk)) hk fun A1 ρ1 a1 w1 E1 D1 s1 l' hS1 hR1 hn hkk hsub1 => ?_
          rcases hn with hn | hn
          · exact absurd hn (makes_not_l hmk)
          · simp only at hn
            cases hkp : keeps (dropL (masks ops) j L) s s1 with
            | false => simp [hkp] at hkk
            | true =>
              simp only [hkp, cond_true] at hkk
              refine next A1 ρ1 a1 w1 E1 D1 s1 s.nx l' hS1 ⟨hR.agree.trans hR.sup hR1.agree, fun i hi => ?_, fun i hi => hR1.sup i (hR.sup i hi), hR.n, hR.below.trans hR1.below, Nat.le_trans hR.size hR1.size⟩ hR1.agree hR1.sup (fun _ => ⟨hb1, fun k hk1 hk2 hk3 => ?_⟩) hkp hkk (fun x hx => hsub x (hsub1 x hx))
              · rcases hR1.sub i hi with h1 | ⟨h1, h2⟩
                · exact hR.sub i h1
                · simp only at h1; exact .inr ⟨by omega, by omega⟩
              · have hkj : j ≠ k := fun e => by subst e; simp [hsz, hjlt] at hk2
                rw [getD_set_ne true hkj] at hk2
                rcases hR1.sub _ hk3 with h1 | ⟨h1, h2⟩
                · exact hb2 k hk1 hk2 h1
                · simp only at h1; omega
        | false =>
          simp only [hmk, cond_false] at hk
          refine oper_s ok rok hdst hS (fun h => Nat.lt_irrefl _ (hbd _ h)) (fun _ => hbd) hk fun A1 ρ1 a1 w1 E1 D1 s1 l' hS1 hR1 _ hkk hsub1 => ?_
          cases hkp : keeps (dropL (masks ops) j L) s s1 with
          | false => simp [hkp] at hkk
          | true =>
            simp only [hkp, cond_true] at hkk
            refine next A1 ρ1 a1 w1 E1 D1 s1 s1.nx l' hS1 (hR.trans hR1) hR1.agree hR1.sup (fun hany => ⟨Nat.le_trans (hfr hany).1 hR1.n, fun k hk1 hk2 hk3 => ?_⟩) hkp hkk (fun x hx => hsub x (hsub1 x hx))
            have hkj : j ≠ k := fun e => by subst e; simp [hsz, hjlt] at hk2
            rw [getD_set_ne true hkj] at hk2
            rcases hR1.sub _ hk3 with h1 | ⟨h1, h2⟩
            · exact (hfr hany).2 k hk1 hk2 h1
            · have := (hfr hany).1; omega
end
end Go.Proofs.AL.Rx
/- RV, soundness, sixteenth part: code, functions. -/
set_option linter.unusedVariables false
set_option linter.unusedSimpArgs false
namespace Go.Proofs.AL.Rx
open Go Go.RowKit
section
variable {G : Fb} {N : Nat} {A A0 A1 : Nat → Prop} {ρ ρ0 ρ1 : Val} {P : Program} {w w0 w1 w' W : World} {a : Act} {E E' : VEnv} {D D' : List AV} {o : Oper} {ops : Array Oper} {m : Tr Ao} {s s' : St} {v : AV} {Q : Exit → Act → World → Prop}
/-- a panic says nothing of the temporaries -/
def PanicOk (Q : Exit → Act → World → Prop) : Prop := ∀ c a d v w, Q (.panic c) (a.put d v) w → Q (.panic c) a w
theorem panic_then {K : Act → World → Prop} (h : PanicOk Q) : PanicOk (Exit.then K Q) := h
theorem panic_block {i : Nat} (h : PanicOk Q) : PanicOk (Exit.inBlock i Q) := h
theorem panic_goto (h : PanicOk Q) : PanicOk (Exit.noGoto Q) := h
theorem opsOk_dst (h : opsOk N ops = true) : ∀ o ∈ ops.toList, DstOk N o := fun o ho d hd => by
  have := List.all_eq_true.1 h o ho
  rw [hd] at this
  simpa [Nat.blt_eq] using this
theorem SR.drew (h : SR G N A ρ a w E D m) : SR G N A ρ a w.drew E D m :=
  ⟨fun ρ' k => ⟨(h.rel ρ' k).1, (h.rel ρ' k).2.1, ⟨fun i ob ho => objOk_kp ((h.rel ρ' k).2.2.ok i ob ho) rfl ((Below.refl _ _).drew), (h.rel ρ' k).2.2.lo, (h.rel ρ' k).2.2.inj⟩⟩, h.B, h.size⟩
theorem reg_s {c : Cx} {rec : Callee} {id : Nat} {draw : Bool} {out : List Out} (ok : CxOk G c) (rok : CalleeOk G c rec) (hQ : PanicOk Q) (hN : opsOk N ops = true) (hns : Region.noSelect ops = true) (h : xreg c rec ops draw E D s = .out out) (hS : SR G N A ρ a w E D s.mem) (hA : ∀ i, A i → i < s.nx)
    (hF : ∀ x ∈ out, Fin G N A ρ s.nx w Q x) : (Code.region id ops draw).wp c.P Q a w := by
  unfold xreg at h
  cases draw with
  | false =>
    simp only [cond_false] at h
    exact wp_region_list (ops_s ok rok ops.toList A ρ a w E D s out (opsOk_dst hN) h hS hA hF)
  | true =>
    simp only [cond_true] at h
    generalize hx : xany c rec ops (masks ops) s.nx ops.size (Array.replicate ops.size false) [] E D ⟨s.mem, bif anyMakes ops then s.nx + ops.size else s.nx⟩ = r at h
    cases r with
    | bad y => cases h
    | out l =>
      simp only [dedR] at h
      injection h with h; subst h
      have hF' : ∀ x ∈ l, Fin G N A ρ s.nx w Q x := fun x hx => by
        obtain ⟨y, h1, h2⟩ := dedO_cov l x hx
        exact (hF y h1).cov h2
      refine wp_region_any ok.mixed (wpAny_of_L ops.size [] _ a _ (any_s ok rok hQ (opsOk_dst hN) hns hA ops.size _ [] [] A ρ a w.drew E D _ l hx ?_ (by simp) hS.drew ⟨Agree.refl _ _, fun _ h => .inl h, fun _ h => h, ?_, (Below.refl _ _).drew, Nat.le_refl _⟩ ?_ (fun p hp => by cases hp) hF'))
      · intro k ok hk hl
        simp only [Array.getD_eq_getD_getElem?] at hl
        by_cases hlt : k < ops.size
        · simp [hlt] at hl
        · simp [hlt] at hl
      · cases anyMakes ops <;> simp
      · intro hm
        simp only [hm, cond_true]
        exact ⟨Nat.le_refl _, fun j hj _ hAj => by have := hA _ hAj; omega⟩
theorem bindR_out {k : Out → Rs} {r : Rs} {out : List Out} (h : bindR k r = .out out) : ∃ l, r = .out l ∧ ∀ o ∈ l, ∃ p, seqO k o = .out p ∧ ∀ x ∈ p, x ∈ out := by
  unfold bindR at h
  split at h
  · rename_i l
    exact ⟨l, rfl, fun o ho => bindO_out h o ho⟩
  · rename_i hr
    exact absurd h (hr out)
theorem outO_out {k : Out → Out} {r : Rs} {out : List Out} (h : outO k r = .out out) : ∃ l, r = .out l ∧ out = l.map k := by
  unfold outO at h
  split at h
  · rename_i l
    injection h with h
    exact ⟨l, rfl, h.symm⟩
  · rename_i hr
    exact absurd h (hr out)
/-- what comes behind an outcome of the first part -/
theorem then_fin {c : Cx} {k : Out → Rs} {K : Act → World → Prop} {n0 : Nat} {x : Out} {p out : List Out} (hp : seqO k x = .out p) (hsub : ∀ y ∈ p, y ∈ out) (hF : ∀ y ∈ out, Fin G N A0 ρ0 n0 w0 Q y)
    (hK : ∀ A ρ a w, x.e = .normal → SR G N A ρ a w x.E x.D x.s.mem → Reach G A0 ρ0 n0 w0 A ρ x.s.nx w → k x = .out p → K a w) : Fin G N A0 ρ0 n0 w0 (Exit.then K Q) x := by
  intro A ρ a w hS hR
  cases he : x.e with
  | normal =>
    have : k x = .out p := by unfold seqO at hp; rw [he] at hp; exact hp
    exact hK A ρ a w he hS hR this
  | exit i =>
    have h1 : p = [x] := by unfold seqO at hp; rw [he] at hp; injection hp with hp; exact hp.symm
    subst h1
    have := hF x (hsub x (by simp)) A ρ a w hS hR
    rw [he] at this; exact this
  | ret =>
    have h1 : p = [x] := by unfold seqO at hp; rw [he] at hp; injection hp with hp; exact hp.symm
    subst h1
    have := hF x (hsub x (by simp)) A ρ a w hS hR
    rw [he] at this; exact this
theorem code_s {c : Cx} {rec : Callee} (ok : CxOk G c) (rok : CalleeOk G c rec) : ∀ (n : Nat),
    (∀ (q : Code) (Q : Exit → Act → World → Prop) (A : Nat → Prop) (ρ : Val) (a : Act) (w : World) (E : VEnv) (D : List AV) (s : St) (out : List Out), xcode c rec n q E D s = .out out → codeOk N q = true → PanicOk Q → SR G N A ρ a w E D s.mem → (∀ i, A i → i < s.nx) → (∀ x ∈ out, Fin G N A ρ s.nx w Q x) → q.wp c.P Q a w) ∧
    (∀ (b : Code) (Q : Exit → Act → World → Prop) (A : Nat → Prop) (ρ : Val) (a : Act) (w : World) (E : VEnv) (D : List AV) (s : St) (out : List Out), xcode c rec n (.loop b) E D s = .out out → codeOk N b = true → PanicOk Q → SR G N A ρ a w E D s.mem → (∀ i, A i → i < s.nx) → (∀ x ∈ out, Fin G N A ρ s.nx w Q x) → Code.rounds c.P b Q n a w) := by
  intro n
  induction n with
  | zero => exact ⟨fun q Q A ρ a w E D s out h => by simp [xcode] at h, fun b Q A ρ a w E D s out h => by simp [xcode] at h⟩
  | succ n ih =>
    have loop : ∀ (b : Code) (Q : Exit → Act → World → Prop) (A : Nat → Prop) (ρ : Val) (a : Act) (w : World) (E : VEnv) (D : List AV) (s : St) (out : List Out), xcode c rec (n + 1) (.loop b) E D s = .out out → codeOk N b = true → PanicOk Q → SR G N A ρ a w E D s.mem → (∀ i, A i → i < s.nx) → (∀ x ∈ out, Fin G N A ρ s.nx w Q x) → Code.rounds c.P b Q (n + 1) a w := by
      intro b Q A ρ a w E D s out h hN hQ hS hA hF
      simp only [xcode] at h
      obtain ⟨l, h1, h2⟩ := bindR_out h
      rw [rounds_succ]
      refine ih.1 b _ A ρ a w E D s l h1 hN (panic_then hQ) hS hA fun x hx => ?_
      obtain ⟨p, h3, h4⟩ := h2 x hx
      refine then_fin (c := c) h3 h4 hF fun A1 ρ1 a1 w1 he hS1 hR1 hk => ?_
      exact ih.2 b Q A1 ρ1 a1 w1 x.E x.D x.s p hk hN hQ hS1 (hR1.bd hA) fun y hy => (hF y (h4 y hy)).from hR1
    refine ⟨fun q Q A ρ a w E D s out h hN hQ hS hA hF => ?_, loop⟩
    have hs0 := (hS.rel ρ (Agree.refl _ _)).1
    cases q with
    | skip =>
      simp only [xcode] at h; injection h with h; subst h
      exact wp_skip (hF ⟨.normal, E, D, s⟩ (by simp) A ρ a w hS (Reach.refl _ _ _ _))
    | label l =>
      simp only [xcode] at h; injection h with h; subst h
      exact wp_label (hF ⟨.normal, E, D, s⟩ (by simp) A ρ a w hS (Reach.refl _ _ _ _))
    | region id ops draw =>
      simp only [xcode] at h
      simp only [codeOk, Bool.and_eq_true] at hN
      exact reg_s ok rok hQ hN.1 hN.2 h hS hA hF
    | seq x y =>
      simp only [xcode] at h
      simp only [codeOk, Bool.and_eq_true] at hN
      obtain ⟨l, h1, h2⟩ := bindR_out h
      refine wp_seq (ih.1 x _ A ρ a w E D s l h1 hN.1 (panic_then hQ) hS hA fun z hz => ?_)
      obtain ⟨p, h3, h4⟩ := h2 z hz
      refine then_fin (c := c) h3 h4 hF fun A1 ρ1 a1 w1 he hS1 hR1 hk => ?_
      exact ih.1 y Q A1 ρ1 a1 w1 z.E z.D z.s p hk hN.2 hQ hS1 (hR1.bd hA) fun u hu => (hF u (h4 u hu)).from hR1
    | cond x p q =>
      simp only [xcode] at h
      simp only [codeOk, Bool.and_eq_true] at hN
      unfold xcond at h
      split at h
      · rename_i t ht
        refine wp_cond (t := t) (by rw [hs0.ev ht]; rfl) ?_
        cases t with
        | true => exact ih.1 p Q A ρ a w E D s out h hN.1 hQ hS hA hF
        | false => exact ih.1 q Q A ρ a w E D s out h hN.2 hQ hS hA hF
      · cases h
    | block id b =>
      simp only [xcode] at h
      obtain ⟨l, h1, rfl⟩ := outO_out h
      refine wp_block (ih.1 b _ A ρ a w E D s l h1 hN (panic_block hQ) hS hA fun x hx => ?_)
      intro A1 ρ1 a1 w1 hS1 hR1
      have hFx := hF (leaveA id x) (List.mem_map.2 ⟨x, hx, rfl⟩)
      cases he : x.e with
      | normal =>
        have hl : leaveA id x = x := by unfold leaveA; rw [he]
        rw [hl] at hFx
        have := hFx A1 ρ1 a1 w1 hS1 hR1
        rw [he] at this; exact this
      | ret =>
        have hl : leaveA id x = x := by unfold leaveA; rw [he]
        rw [hl] at hFx
        have := hFx A1 ρ1 a1 w1 hS1 hR1
        rw [he] at this; exact this
      | exit j =>
        cases hb : Nat.beq j id with
        | true =>
          obtain rfl := Nat.eq_of_beq_eq_true hb
          have hl : leaveA j x = ⟨.normal, x.E, x.D, x.s⟩ := by unfold leaveA; rw [he]; simp
          rw [hl] at hFx
          have := hFx A1 ρ1 a1 w1 hS1 hR1
          show Exit.inBlock j Q (.exit j) a1 w1
          simp only [Exit.inBlock, if_true]
          exact this
        | false =>
          have hl : leaveA id x = x := by unfold leaveA; rw [he]; simp only [hb, cond_false]
          rw [hl] at hFx
          have := hFx A1 ρ1 a1 w1 hS1 hR1
          rw [he] at this
          have hne : ¬ j = id := fun e => by subst e; simp at hb
          show Exit.inBlock id Q (.exit j) a1 w1
          simp only [Exit.inBlock, if_neg hne]
          exact this
    | loop b => exact wp_loop_rounds (n + 1) (loop b Q A ρ a w E D s out h hN hQ hS hA hF)
    | rangeFunc _ _ _ _ => simp [xcode] at h
    | exit id =>
      simp only [xcode] at h; injection h with h; subst h
      exact wp_exit (hF ⟨.exit id, E, D, s⟩ (by simp) A ρ a w hS (Reach.refl _ _ _ _))
    | scope b =>
      simp only [xcode] at h
      refine wp_scope_straight (ih.1 b _ A ρ a w E D s out h hN (panic_goto hQ) hS hA fun x hx => ?_)
      intro A1 ρ1 a1 w1 hS1 hR1
      have := hF x hx A1 ρ1 a1 w1 hS1 hR1
      cases he : x.e <;> rw [he] at this <;> exact this
    | goto l => simp [xcode] at h
    | ret =>
      simp only [xcode] at h; injection h with h; subst h
      exact wp_ret (hF ⟨.ret, E, D, s⟩ (by simp) A ρ a w hS (Reach.refl _ _ _ _))
    | refuse y => simp [xcode] at h
/-! functions -/
def resF (tmps : Array Value) (r : ResultVar) : Sem Value :=
  match r with
  | .tmp t => pure (tmps.getD t undef)
  | .cell b t => do loadVar t (← asAddr (tmps.getD b undef))
theorem results_eq (fn : Func) (tmps : Array Value) : results fn tmps = (do
    let vs ← fn.results.mapM (resF tmps)
    pure (if h : vs.size = 1 then vs[0] else .tuple vs)) := by
  unfold results
  congr 1
theorem res1_run {r : ResultVar} (hs : Sy G.F ρ a E) (hm : MemOk G ρ w m) {nx : Nat} (h : res1 P E ⟨m, nx⟩ r = some v) : (resF a.tmps r).run P w = .ok (conc G.F ρ v) w := by
  cases r with
  | tmp t =>
    simp only [res1] at h
    have := hs t v h
    simp only [resF, Sem.run_pure, this]
  | cell b t =>
    simp only [res1] at h
    have h1 := d_load (P := P) (x := .tmp b) (t := t) (a := a) (o := ⟨none, .load t (.tmp b), t, "", #[], none⟩) (m := m) hs rfl (hm.holds _) h
    unfold rLoad at h
    split at h
    · rename_i id off hb
      have h2 := hs b _ hb
      simp only [Does, execOp, Act.eval, h2, conc, Instr.loadAt, Instr.sureAddr] at h1
      simp only [resF, h2, conc, asAddr, Sem.run_bind, Sem.run_pure, Result.andThen_ok]
      simp only [Sem.run_bind, Sem.run_pure, Result.andThen_ok] at h1
      generalize hq : (loadVar t ⟨ρ.blk id, off, none⟩).run P w = q at h1 ⊢
      cases q with
      | ok u w2 =>
        simp only [Result.andThen_ok] at h1
        injection h1 with h1 h3; injection h1 with h1
        rw [h1, h3]
      | halt x w2 => simp [Result.andThen] at h1
    · cases h
theorem resA_run (hs : Sy G.F ρ a E) (hm : MemOk G ρ w m) {nx : Nat} : ∀ {rs : List ResultVar} {l : List AV}, resA P E ⟨m, nx⟩ rs = some l → (rs.mapM (resF a.tmps)).run P w = .ok (concs G.F ρ l) w
  | [], l, h => by simp [resA] at h; subst h; simp [concs]
  | r :: rs, l, h => by
    simp only [resA] at h
    cases h1 : res1 P E ⟨m, nx⟩ r with
    | none => simp [h1] at h
    | some v => cases h2 : resA P E ⟨m, nx⟩ rs with
      | none => simp [h1, h2] at h
      | some l' =>
        simp only [h1, h2] at h
        injection h with h; subst h
        have e1 := res1_run (P := P) hs hm h1
        have e2 := resA_run hs hm h2
        simp [List.mapM_cons, e1, e2, concs]
theorem results_run {fn : Func} {l : List AV} (hs : Sy G.F ρ a E) (hm : MemOk G ρ w m) {nx : Nat} (h : resA P E ⟨m, nx⟩ fn.results.toList = some l) : (results fn a.tmps).run P w = .ok (conc G.F ρ (packA l)) w := by
  have e := resA_run (P := P) hs hm h
  rw [results_eq]
  cases l with
  | nil => simp [Array.mapM_eq_mapM_toList, e, packA, conc, concs]
  | cons v l => cases l with
    | nil => simp [Array.mapM_eq_mapM_toList, e, packA, concs]
    | cons u l => simp [Array.mapM_eq_mapM_toList, e, packA, conc, concs]
end
end Go.Proofs.AL.Rx
/- RV, soundness, last part: functions that are called. -/
set_option linter.unusedVariables false
set_option linter.unusedSimpArgs false
namespace Go.Proofs.AL.Rx
open Go Go.RowKit
def CallPost (G : Fb) (A : Nat → Prop) (ρ : Val) (n0 : Nat) (w : World) (l : List (AV × St)) (e : Ending) (w' : World) : Prop :=
  ∃ v s' A1 ρ1, (v, s') ∈ l ∧ Reach G A ρ n0 w A1 ρ1 s'.nx w' ∧ ∀ ρ', Agree A1 ρ1 ρ' → e = .returned (conc G.F ρ' v) ∧ MemOk G ρ' w' s'.mem
structure SpOk (G : Fb) (c : Cx) : Prop where
  sp : ∀ f vs s l, c.X f vs s = some (some l) → IsFn c.P f ∧ ∀ (A : Nat → Prop) ρ w args, (∀ i, A i → i < s.nx) → G.B ≤ w.heap.size → (∀ ρ', Agree A ρ ρ' → (concs G.F ρ' vs).toArray = args ∧ MemOk G ρ' w s.mem) → Calls c.P f args w (CallPost G A ρ s.nx w l)
  noop : ∀ d, c.noop d = true → ∀ ρ fn tmps R ds w, (∀ w', Ext w w' → Leaves c.P fn tmps R ds .returning w') → Leaves c.P fn tmps R (defC G.F ρ d :: ds) .returning w
theorem MemOk.extW {G : Fb} {ρ : Val} {w w' : World} {m : Tr Ao} (h : MemOk G ρ w m) (he : Ext w w') (hB : G.B ≤ w.heap.size) : MemOk G ρ w' m :=
  ⟨fun i o ho => objOk_kp (h.ok i o ho) (he.block _ (h.lt ho)) (he.mono hB), h.lo, h.inj⟩
theorem insV_cov (o : AV × St) : ∀ (l : List (AV × St)), (∃ x ∈ insV o l, x.1 = o.1 ∧ x.2.nx = o.2.nx ∧ ∀ i q, x.2.mem.get i = some q → o.2.mem.get i = some q) ∧ ∀ p ∈ l, ∃ x ∈ insV o l, x.1 = p.1 ∧ x.2.nx = p.2.nx ∧ ∀ i q, x.2.mem.get i = some q → p.2.mem.get i = some q
  | [] => ⟨⟨o, by simp [insV], rfl, rfl, fun _ _ h => h⟩, fun q hq => by cases hq⟩
  | p :: r => by
    simp only [insV]
    cases hb : same o.1 p.1 && Nat.beq o.2.nx p.2.nx with
    | true =>
      simp only [cond_true]
      simp only [Bool.and_eq_true] at hb
      have h1 := same_eq _ _ hb.1
      have h2 := Nat.eq_of_beq_eq_true hb.2
      have hm := fun t v hv => meetT_get (f := sameO) (fun x y => sameO_eq) p.2.mem o.2.mem t v hv
      refine ⟨⟨_, List.mem_cons_self, h1.symm, h2.symm, fun i q hq => (hm i q hq).2⟩, fun q hq => ?_⟩
      rcases List.mem_cons.1 hq with rfl | hq
      · exact ⟨_, List.mem_cons_self, rfl, rfl, fun i q hq => (hm i q hq).1⟩
      · exact ⟨q, List.mem_cons_of_mem _ hq, rfl, rfl, fun _ _ h => h⟩
    | false =>
      simp only [cond_false]
      obtain ⟨⟨x, h1, h2⟩, h3⟩ := insV_cov o r
      refine ⟨⟨x, List.mem_cons_of_mem _ h1, h2⟩, fun q hq => ?_⟩
      rcases List.mem_cons.1 hq with rfl | hq
      · exact ⟨q, List.mem_cons_self, rfl, rfl, fun _ _ h => h⟩
      · obtain ⟨x, h4, h5⟩ := h3 q hq
        exact ⟨x, List.mem_cons_of_mem _ h4, h5⟩
theorem dedV_cov : ∀ (l : List (AV × St)), ∀ p ∈ l, ∃ x ∈ dedV l, x.1 = p.1 ∧ x.2.nx = p.2.nx ∧ ∀ i q, x.2.mem.get i = some q → p.2.mem.get i = some q
  | [], q, hq => by cases hq
  | [o], q, hq => by
    simp only [List.mem_singleton] at hq; subst hq
    exact ⟨q, by simp [dedV], rfl, rfl, fun _ _ h => h⟩
  | o :: b :: r, q, hq => by
    simp only [dedV]
    rcases List.mem_cons.1 hq with rfl | hq
    · exact (insV_cov q _).1
    · obtain ⟨x, h1, h2, h2', h2''⟩ := dedV_cov (b :: r) q hq
      obtain ⟨y, h3, h4, h4', h4''⟩ := (insV_cov o (dedV (b :: r))).2 x h1
      exact ⟨y, h3, h4.trans h2, h4'.trans h2', fun i q hq => h2'' i q (h4'' i q hq)⟩
section
variable {G : Fb} {N : Nat} {A A0 A1 : Nat → Prop} {ρ ρ0 ρ1 : Val} {P : Program} {w w0 w1 w' W : World} {a : Act} {E E' : VEnv} {D D' : List AV} {o : Oper} {ops : Array Oper} {m : Tr Ao} {s s' : St} {v : AV} {Q : Exit → Act → World → Prop}
theorem env0_get : ∀ (vs : List AV) (i : Nat) (E : VEnv) (t : Nat) (v : AV), (env0A i vs E).get t = some v → (i ≤ t ∧ vs[t - i]? = some v) ∨ E.get t = some v
  | [], i, E, t, v, h => .inr h
  | u :: r, i, E, t, v, h => by
    simp only [env0A] at h
    rcases env0_get r (i + 1) _ t v h with ⟨h1, h2⟩ | h1
    · refine .inl ⟨by omega, ?_⟩
      rw [show t - i = (t - (i + 1)) + 1 from by omega, List.getElem?_cons_succ]
      exact h2
    · rcases Tr.get_set _ _ _ _ h1 with ⟨rfl, e⟩ | ⟨_, h2⟩
      · injection e with e; subst e
        exact .inl ⟨Nat.le_refl _, by simp⟩
      · exact .inr h2
theorem ends_mem {c : Cx} {rs : List ResultVar} : ∀ {l : List Out} {r : List (AV × St)}, ends c rs l = some r → ∀ o ∈ l, ∃ p ∈ r, endA c rs o = some p
  | [], r, h, o, ho => by cases ho
  | x :: l, r, h, o, ho => by
    simp only [ends] at h
    cases h1 : endA c rs x with
    | none => simp [h1] at h
    | some p => cases h2 : ends c rs l with
      | none => simp [h1, h2] at h
      | some q =>
        simp only [h1, h2] at h
        injection h with h; subst h
        rcases List.mem_cons.1 ho with rfl | ho
        · exact ⟨p, by simp, h1⟩
        · obtain ⟨p', h3, h4⟩ := ends_mem h2 o ho
          exact ⟨p', by simp [h3], h4⟩
theorem leaves_noop {c : Cx} {fn : Func} {tmps : Array Value} {R : Ending → World → Prop} (sp : SpOk G c) : ∀ (D : List AV) (w : World), D.all c.noop = true → (∀ w', Ext w w' → Leaves c.P fn tmps R [] .returning w') → Leaves c.P fn tmps R (D.map (defC G.F ρ)) .returning w
  | [], w, _, h => h w (Ext.refl w)
  | d :: D, w, hd, h => by
    simp only [List.all_cons, Bool.and_eq_true] at hd
    exact sp.noop d hd.1 ρ fn tmps R _ w fun w' h' => leaves_noop sp D w' hd.2 fun w'' h'' => h w'' (h'.trans h'')
/-- a body, as it is called -/
theorem body_s {c : Cx} {rec : Callee} {f : FuncId} {fn : Func} {b : Code} {vs : List AV} {l : List (AV × St)} {args : Array Value} (ok : CxOk G c) (sp : SpOk G c) (rok : CalleeOk G c rec) (hf : c.P.funcs[f]? = some fn) (hb : fn.body = some b) (h : xbody c rec vs s fn (some b) = some l)
    (hA : ∀ i, A i → i < s.nx) (hB : G.B ≤ w.heap.size) (hargs : ∀ ρ', Agree A ρ ρ' → (concs G.F ρ' vs).toArray = args ∧ MemOk G ρ' w s.mem) : Calls c.P f args w (CallPost G A ρ s.nx w l) := by
  simp only [xbody] at h
  cases hb1 : codeOk fn.ntmps b && Nat.ble vs.length fn.ntmps with
  | false => simp [hb1] at h
  | true =>
    simp only [hb1, cond_true] at h
    simp only [Bool.and_eq_true] at hb1
    have hlen := Nat.le_of_ble_eq_true hb1.2
    have hsz : args.size = vs.length := by rw [← (hargs ρ (Agree.refl _ _)).1]; simp
    unfold endR at h
    split at h
    · rename_i outs hx
      obtain ⟨l0, h1, rfl⟩ := Option.map_eq_some_iff.1 h
      refine calls_of_wp_defers hf hb ?_
      have hS : SR G fn.ntmps A ρ { tmps := args ++ Array.replicate (fn.ntmps - args.size) undef, defers := [] } w (env0A 0 vs .leaf) [] s.mem := by
        refine ⟨fun ρ' k => ⟨fun t v ht => ?_, rfl, (hargs ρ' k).2⟩, hB, by simp [hsz]; omega⟩
        rcases env0_get vs 0 .leaf t v ht with ⟨_, h2⟩ | h2
        · rw [Nat.sub_zero] at h2
          have hlt := (List.getElem?_eq_some_iff.1 h2).1
          have h3 : args[t]? = some (conc G.F ρ' v) := by
            rw [← (hargs ρ' k).1]
            simp [concs_get, h2]
          rw [Array.getD_eq_getD_getElem?, Array.getElem?_append_left (by rw [hsz]; exact hlt), h3]
          rfl
        · rw [Tr.get_leaf] at h2; cases h2
      let Q : Exit → Act → World → Prop := fun e a w' => match e with
        | .panic _ => False
        | e => bodyPostD c.P fn (CallPost G A ρ s.nx w (dedV l0)) e a w'
      have hwp : b.wp c.P Q { tmps := args ++ Array.replicate (fn.ntmps - args.size) undef, defers := [] } w := by
        refine (code_s ok rok 100000).1 b Q A ρ _ w (env0A 0 vs .leaf) [] s outs hx hb1.1 (fun _ _ _ _ _ h => h) hS hA fun x hxm => ?_
        intro A1 ρ1 a1 w1 hS1 hR1
        obtain ⟨p, hp1, hp2⟩ := ends_mem h1 x hxm
        have hend : ∀ k : Bool, (x.e = .normal ∨ x.e = .ret) → Leaves c.P fn a1.tmps (CallPost G A ρ s.nx w (dedV l0)) a1.defers .returning w1 := by
          intro _ he
          have hp3 : (bif x.D.all c.noop then (resA c.P x.E x.s fn.results.toList).map fun l => (packA l, x.s) else none) = some p := by
            unfold endA at hp2
            rcases he with he | he <;> (rw [he] at hp2; exact hp2)
          cases hn : x.D.all c.noop with
          | false => simp [hn] at hp3
          | true =>
            simp only [hn, cond_true] at hp3
            obtain ⟨rl, hr1, rfl⟩ := Option.map_eq_some_iff.1 hp3
            obtain ⟨hs1, hd1, hm1⟩ := hS1.rel ρ1 (Agree.refl _ _)
            rw [hd1]
            refine leaves_noop sp x.D _ hn fun w2 he2 => ?_
            have hrun := results_run (P := c.P) (fn := fn) (nx := x.s.nx) hs1 (hm1.extW he2 hS1.B) hr1
            refine ⟨_, hrun, ?_⟩
            obtain ⟨y, hy1, hy2, hy3, hy4⟩ := dedV_cov l0 _ hp1
            refine ⟨y.1, y.2, A1, ρ1, hy1, by rw [hy3]; exact hR1.trans ⟨Agree.refl _ _, fun _ h => .inl h, fun _ h => h, Nat.le_refl _, he2.mono hS1.B, he2.size⟩, fun ρ' k => ?_⟩
            obtain ⟨hs2, _, hm2⟩ := hS1.rel ρ' k
            have hm2 := hm2.extW he2 hS1.B
            have hrun2 := results_run (P := c.P) (fn := fn) (nx := x.s.nx) hs2 hm2 hr1
            have h5 := hrun.symm.trans hrun2
            injection h5 with h5 _
            rw [hy2, h5]
            exact ⟨rfl, hm2.sub hy4⟩
        cases he : x.e with
        | normal => exact hend true (.inl he)
        | ret => exact hend true (.inr he)
        | exit i => unfold endA at hp2; rw [he] at hp2; cases hp2
      refine wp_mono hwp fun e a w' hq => ?_
      cases e <;> first | exact hq | exact hq.elim
    · cases h
theorem callee_s {c : Cx} (ok : CxOk G c) (sp : SpOk G c) : ∀ n, CalleeOk G c (xcall c n) := by
  intro n
  induction n with
  | zero => exact ⟨fun f vs s l h => (by cases h), fun f vs s l h => (by cases h)⟩
  | succ n ih =>
    have key : ∀ f vs s l, xcall c (n + 1) f vs s = some l → c.X f vs s = some (some l) ∨ ∃ fn b, c.P.funcs[f]? = some fn ∧ fn.body = some b ∧ (fn.name == "runtime.NumGoroutine") = false ∧ xbody c (xcall c n) vs s fn (some b) = some l := by
      intro f vs s l h
      simp only [xcall] at h
      split at h
      · rename_i r hr
        exact .inl (by rw [hr, h])
      · right
        unfold xenter at h
        split at h
        · rename_i fn hf
          cases hn : fn.name == "runtime.NumGoroutine" with
          | true => simp [hn] at h
          | false =>
            simp only [hn, cond_false] at h
            cases hb : fn.body with
            | none => rw [hb] at h; cases h
            | some b => rw [hb] at h; exact ⟨fn, b, hf, hb, hn, h⟩
        · cases h
    refine ⟨fun f vs s l h => ?_, fun f vs s l h A ρ w args hA hB hargs => ?_⟩
    · rcases key f vs s l h with h | ⟨fn, b, hf, hb, hn, _⟩
      · exact (sp.sp f vs s l h).1
      · exact ⟨fn, hf, hn, by rw [hb]; rfl⟩
    · rcases key f vs s l h with h | ⟨fn, b, hf, hb, hn, hx⟩
      · exact (sp.sp f vs s l h).2 A ρ w args hA hB hargs
      · exact body_s ok sp ih hf hb hx hA hB hargs
end
end Go.Proofs.AL.Rx
/- RV: what is run once; code in pieces. -/
set_option linter.unusedVariables false
set_option linter.unusedSimpArgs false
namespace Go.Proofs.AL.Rx
open Go Go.RowKit
mutual
def clo : AV → Bool
  | .bool _ => true
  | .int _ _ => true
  | .str _ => true
  | .nilp => true
  | .nils => true
  | .nilm => true
  | .nilf => true
  | .nili => true
  | .agg l => clos l
  | .tup l => clos l
  | .fn _ x y => clos x && clos y
  | .ifc _ v => clo v
  | _ => false
def clos : List AV → Bool
  | [] => true
  | v :: r => clo v && clos r
end
mutual
theorem clo_conc (F F' : Fx) (ρ ρ' : Val) : ∀ (v : AV), clo v = true → conc F ρ v = conc F' ρ' v
  | .bool _, _ => rfl
  | .int _ _, _ => rfl
  | .str _, _ => rfl
  | .nilp, _ => rfl
  | .nils, _ => rfl
  | .nilm, _ => rfl
  | .nilf, _ => rfl
  | .nili, _ => rfl
  | .agg l, h => by simp only [clo] at h; simp only [conc]; rw [clos_conc F F' ρ ρ' l h]
  | .tup l, h => by simp only [clo] at h; simp only [conc]; rw [clos_conc F F' ρ ρ' l h]
  | .fn _ x y, h => by simp only [clo, Bool.and_eq_true] at h; simp only [conc]; rw [clos_conc F F' ρ ρ' x h.1, clos_conc F F' ρ ρ' y h.2]
  | .ifc _ v, h => by simp only [clo] at h; simp only [conc]; rw [clo_conc F F' ρ ρ' v h]
  | .sym _ _, h => by cases h
  | .crc _ _, h => by cases h
  | .ys _, h => by cases h
  | .ptr _ _, h => by cases h
  | .sl _ _ _ _, h => by cases h
  | .rw _ _ _ _, h => by cases h
  | .em _ _ _ _, h => by cases h
  | .map _, h => by cases h
  | .opq _, h => by cases h
theorem clos_conc (F F' : Fx) (ρ ρ' : Val) : ∀ (l : List AV), clos l = true → concs F ρ l = concs F' ρ' l
  | [], _ => rfl
  | v :: r, h => by
    simp only [clos, Bool.and_eq_true] at h
    simp only [concs]
    rw [clo_conc F F' ρ ρ' v h.1, clos_conc F F' ρ ρ' r h.2]
end
def ρ00 : Val := ⟨fun _ => 0, fun _ => 0⟩
def XOk (G : Fb) (P : Program) (X : FuncId → List AV → St → Option Res) : Prop :=
  ∀ f vs s l, X f vs s = some (some l) → IsFn P f ∧ ∀ (A : Nat → Prop) ρ w args, (∀ i, A i → i < s.nx) → G.B ≤ w.heap.size → (∀ ρ', Agree A ρ ρ' → (concs G.F ρ' vs).toArray = args ∧ MemOk G ρ' w s.mem) → Calls P f args w (CallPost G A ρ s.nx w l)
/-- more calls that are told otherwise -/
def Cx.plus (c : Cx) (X : FuncId → List AV → St → Option Res) : Cx := ⟨c.P, fun f vs s => match X f vs s with | some r => some r | none => c.X f vs s, c.e, c.noop⟩
theorem CxOk.plus {G : Fb} {c : Cx} {X : FuncId → List AV → St → Option Res} (h : CxOk G c) : CxOk G (c.plus X) := ⟨h.mixed, h.ext⟩
theorem SpOk.plus {G : Fb} {c : Cx} {X : FuncId → List AV → St → Option Res} (h : SpOk G c) (hX : XOk G c.P X) : SpOk G (c.plus X) := ⟨fun f vs s l hl => by
  simp only [Cx.plus] at hl
  split at hl
  · rename_i r hr
    injection hl with hl; subst hl
    exact hX f vs s l hr
  · exact h.sp f vs s l hl, h.noop⟩
theorem XOk.or {G : Fb} {P : Program} {X Y : FuncId → List AV → St → Option Res} (h : XOk G P X) (k : XOk G P Y) : XOk G P (fun f vs s => match X f vs s with | some r => some r | none => Y f vs s) := fun f vs s l hl => by
  simp only at hl
  split at hl
  · rename_i r hr
    injection hl with hl; subst hl
    exact h f vs s l hr
  · exact k f vs s l hl
/-- memory that was there is as it was -/
theorem MemOk.ext {G : Fb} {ρ : Val} {w w' : World} {m : Tr Ao} (h : MemOk G ρ w m) (he : Ext w w') (hB : G.B ≤ w.heap.size) : MemOk G ρ w' m :=
  ⟨fun i o ho => objOk_kp (h.ok i o ho) (he.block _ (h.lt ho)) (he.mono hB), h.lo, h.inj⟩
/-- a call that touches nothing, and what it gives is closed -/
theorem post_pure {G : Fb} {A : Nat → Prop} {ρ : Val} {w w' : World} {s : St} {v : AV} {l : List (AV × St)} {F' : Fx} {ρ'' : Val} (hB : G.B ≤ w.heap.size) (hm : ∀ ρ', Agree A ρ ρ' → MemOk G ρ' w s.mem) (hc : clo v = true) (hl : (v, s) ∈ l) (he : Ext w w') : CallPost G A ρ s.nx w l (.returned (conc F' ρ'' v)) w' :=
  ⟨v, s, A, ρ, hl, ⟨Agree.refl _ _, fun _ h => .inl h, fun _ h => h, Nat.le_refl _, he.mono hB, he.size⟩, fun ρ' k => ⟨by rw [clo_conc F' G.F ρ'' ρ' v hc], (hm ρ' k).ext he hB⟩⟩
/-! what was run once -/
abbrev Memo := List (FuncId × List AV × AV)
def memoGet (f : FuncId) (vs : List AV) : Memo → Option AV
  | [] => none
  | (g, us, v) :: r => bif Nat.beq f g && sames us vs then some v else memoGet f vs r
def memoX (t : Memo) : FuncId → List AV → St → Option Res := fun f vs s => (memoGet f vs t).map fun v => some [(v, s)]
def Told (F : Fx) (P : Program) (f : FuncId) (vs : List AV) (v : AV) : Prop :=
  IsFn P f ∧ clos vs = true ∧ clo v = true ∧ ∀ w, Calls P f (concs F ρ00 vs).toArray w fun e w' => e = .returned (conc F ρ00 v) ∧ Ext w w'
def ToldAll (F : Fx) (P : Program) : Memo → Prop
  | [] => True
  | (f, vs, v) :: r => Told F P f vs v ∧ ToldAll F P r
theorem memoGet_told {F : Fx} {P : Program} {f : FuncId} {vs : List AV} {v : AV} : ∀ {t : Memo}, ToldAll F P t → memoGet f vs t = some v → Told F P f vs v
  | [], _, h => by cases h
  | (g, us, u) :: r, ht, h => by
    simp only [memoGet] at h
    cases hb : Nat.beq f g && sames us vs with
    | true =>
      simp only [hb, cond_true] at h
      injection h with h; subst h
      simp only [Bool.and_eq_true] at hb
      obtain rfl := Nat.eq_of_beq_eq_true hb.1
      obtain rfl := sames_eq us vs hb.2
      exact ht.1
    | false =>
      simp only [hb, cond_false] at h
      exact memoGet_told ht.2 h
theorem memo_ok {G : Fb} {F : Fx} {P : Program} {t : Memo} (h : ToldAll F P t) : XOk G P (memoX t) := by
  intro f vs s l hl
  unfold memoX at hl
  obtain ⟨v, hv, e⟩ := Option.map_eq_some_iff.1 hl
  injection e with e; subst e
  obtain ⟨h1, h2, h3, h4⟩ := memoGet_told h hv
  refine ⟨h1, fun A ρ w args hA hB hargs => ?_⟩
  have ha := (hargs ρ (Agree.refl _ _)).1
  rw [clos_conc G.F F ρ ρ00 vs h2] at ha
  subst ha
  refine Calls.mono (h4 w) fun e w' he => ?_
  obtain ⟨rfl, he⟩ := he
  exact post_pure hB (fun ρ' k => (hargs ρ' k).2) h3 (by simp) he
/-- things of which a law alone is known: 5: what the arguments hold; 7: choices that lie in the row h, of which some were told; 8: a row of n choices -/
def bitInv (F : Fx) (B n : Nat) (k : Nat) (w : World) (g h : Nat) : Prop := match k with
  | 5 => g < w.heap.size ∧ ∃ B0, B0 ≤ B ∧ F.arg B0 w
  | 7 => ∃ at_ t, 0 ≤ at_ ∧ at_ ≤ (n : Int) ∧ w.heap[g]? = some (.cells #[.slice (some ⟨h, 0, none⟩) n n, .int .i64 at_] t (0, 0)) ∧ t = 210
  | 8 => ∃ (l : List Bool) (t : TypeId), l.length = n ∧ w.heap[g]? = some (.cells (l.map Value.bool).toArray t (0, 0))
  | _ => False
theorem bitInv_lt {F : Fx} {B n k : Nat} {w : World} {g h : Nat} (hi : bitInv F B n k w g h) : g < w.heap.size := by
  unfold bitInv at hi
  split at hi
  · exact hi.1
  · obtain ⟨_, _, _, _, hi, _⟩ := hi; exact (Array.getElem?_eq_some_iff.1 hi).1
  · obtain ⟨_, _, _, hi⟩ := hi; exact (Array.getElem?_eq_some_iff.1 hi).1
  · exact hi.elim
theorem bitInv_kp {F : Fx} {B n k : Nat} {w w' : World} {g h : Nat} (hi : bitInv F B n k w g h) (e : w'.heap[g]? = w.heap[g]?) (hb : Below B w w') : bitInv F B n k w' g h := by
  have hlt := bitInv_lt hi
  unfold bitInv at hi ⊢
  split at hi
  · obtain ⟨h1, B0, h2, h3⟩ := hi
    refine ⟨?_, B0, h2, F.argKp B0 w w' h3 (hb.mono h2)⟩
    rw [Array.getElem?_eq_getElem h1] at e
    exact (Array.getElem?_eq_some_iff.1 e).1
  · obtain ⟨a, b, c, d, hi, ht⟩ := hi; exact ⟨a, b, c, d, e.trans hi, ht⟩
  · obtain ⟨a, b, c, hi⟩ := hi; exact ⟨a, b, c, e.trans hi⟩
  · exact hi.elim
def bitsF (F : Fx) (B : Nat) : Fx := ⟨F.sym, F.opq, F.crc, bitInv F B (F.sym 99).toNat, F.one, F.arg, F.argKp, F.cut⟩
def gB (F : Fx) (B : Nat) : Fb := ⟨bitsF F B, B, fun _ _ _ _ h => bitInv_lt h, fun _ _ _ _ _ h e hb => bitInv_kp h e hb⟩
def is1 (r : Res) (v : AV) : Bool :=
  match r with
  | some [(u, _)] => same u v
  | _ => false
theorem memOk_leaf (G : Fb) (ρ : Val) (w : World) : MemOk G ρ w .leaf := ⟨fun i o h => (by rw [Tr.get_leaf] at h; cases h), fun i o h => (by rw [Tr.get_leaf] at h; cases h), fun i j o p h => (by rw [Tr.get_leaf] at h; cases h)⟩
/-- a run from nothing -/
theorem told_of {F : Fx} {c : Cx} {f : FuncId} {vs : List AV} {v : AV} {n : Nat} (hok : ∀ B, CxOk (gB F B) c ∧ SpOk (gB F B) c) (h : is1 (xcall c n f vs ⟨.leaf, 0⟩) v = true) (h1 : clos vs = true) (h2 : clo v = true) : Told F c.P f vs v := by
  unfold is1 at h
  split at h
  · rename_i u s' hr
    obtain rfl := same_eq _ _ h
    refine ⟨(callee_s (hok 0).1 (hok 0).2 n).fn _ _ _ _ hr, h1, h2, fun w => ?_⟩
    have := (callee_s (hok w.heap.size).1 (hok w.heap.size).2 n).calls f vs ⟨.leaf, 0⟩ _ hr (fun _ => False) ρ00 w (concs F ρ00 vs).toArray (fun _ h => h.elim) (Nat.le_refl _) (fun ρ' _ => ⟨by rw [clos_conc (gB F w.heap.size).F F ρ' ρ00 vs h1], memOk_leaf _ _ _⟩)
    refine Calls.mono this fun e w' he => ?_
    obtain ⟨v', s1, A1, ρ1, hmem, hR, hall⟩ := he
    simp only [List.mem_singleton] at hmem
    injection hmem with e1 e2; subst e1 e2
    exact ⟨by rw [(hall ρ1 (Agree.refl _ _)).1, clo_conc (gB F w.heap.size).F F ρ1 ρ00 v' h2], hR.below⟩
  · cases h
/-! code in pieces -/
def Known (G : Fb) (N : Nat) (w0 : World) (E : VEnv) (D : List AV) (s : St) (a : Act) (w : World) : Prop :=
  ∃ A ρ, SR G N A ρ a w E D s.mem ∧ (∀ i, A i → i < s.nx) ∧ Below G.B w0 w ∧ w0.heap.size ≤ w.heap.size
/-- a piece of code from a state -/
def CK (c : Cx) (G : Fb) (N : Nat) (w0 : World) (Q : Exit → Act → World → Prop) (q : Code) (E : VEnv) (D : List AV) (s : St) : Prop := ∀ a w, Known G N w0 E D s a w → q.wp c.P Q a w
def CR (c : Cx) (G : Fb) (N : Nat) (w0 : World) (Q : Exit → Act → World → Prop) (n : Nat) (q : Code) (E : VEnv) (D : List AV) (s : St) : Prop := ∀ a w, Known G N w0 E D s a w → Code.rounds c.P q Q n a w
def XK (G : Fb) (N : Nat) (w0 : World) (Q : Exit → Act → World → Prop) (e : Exit) (E : VEnv) (D : List AV) (s : St) : Prop := ∀ a w, Known G N w0 E D s a w → Q e a w
/-- what the first tells, the second tells -/
def subT {α : Type} (f : α → α → Bool) : Tr α → Tr α → Bool
  | .leaf, _ => true
  | .node a b c, .node d e g => subT f a d && (match b, e with | none, _ => true | some x, some y => f x y | _, _ => false) && subT f c g
  | .node a b c, .leaf => subT f a .leaf && (match b with | none => true | _ => false) && subT f c .leaf
theorem subT_get {α : Type} {f : α → α → Bool} (hf : ∀ x y, f x y = true → x = y) : ∀ (a b : Tr α), subT f a b = true → ∀ (k : Nat) (x : α), a.get k = some x → b.get k = some x
  | .leaf, b, _, k, x, h => by rw [Tr.get_leaf] at h; cases h
  | .node l u r, .leaf, hs, k, x, h => by
    unfold subT at hs
    simp only [Bool.and_eq_true] at hs
    unfold Tr.get at h
    cases k with
    | zero => simp only at h; subst h; simp at hs
    | succ k =>
      simp only at h
      cases hb : Nat.beq (k % 2) 0 with
      | true => simp only [hb, cond_true] at h; have := subT_get hf l .leaf hs.1.1 _ x h; rw [Tr.get_leaf] at this; cases this
      | false => simp only [hb, cond_false] at h; have := subT_get hf r .leaf hs.2 _ x h; rw [Tr.get_leaf] at this; cases this
  | .node l u r, .node l' u' r', hs, k, x, h => by
    unfold subT at hs
    simp only [Bool.and_eq_true] at hs
    unfold Tr.get at h ⊢
    cases k with
    | zero =>
      simp only at h ⊢
      subst h
      cases u' with
      | none => simp at hs
      | some y => have := hf x y (by simpa using hs.1.2); rw [this]
    | succ k =>
      simp only at h ⊢
      cases hb : Nat.beq (k % 2) 0 with
      | true => simp only [hb, cond_true] at h ⊢; exact subT_get hf l l' hs.1.1 _ x h
      | false => simp only [hb, cond_false] at h ⊢; exact subT_get hf r r' hs.2 _ x h
def sameEx : Ex → Ex → Bool
  | .normal, .normal => true
  | .ret, .ret => true
  | .exit i, .exit j => Nat.beq i j
  | _, _ => false
theorem sameEx_eq : ∀ {a b : Ex}, sameEx a b = true → a = b
  | .normal, .normal, _ => rfl
  | .ret, .ret, _ => rfl
  | .exit i, .exit j, h => by simp only [sameEx] at h; rw [Nat.eq_of_beq_eq_true h]
  | .normal, .ret, h => by cases h
  | .normal, .exit _, h => by cases h
  | .ret, .normal, h => by cases h
  | .ret, .exit _, h => by cases h
  | .exit _, .normal, h => by cases h
  | .exit _, .ret, h => by cases h
def covB (x o : Out) : Bool := sameEx x.e o.e && sames x.D o.D && Nat.ble o.s.nx x.s.nx && subT same x.E o.E && subT sameO x.s.mem o.s.mem
/-- are all outcomes among those? -/
def chk (r : Rs) (L : List Out) : Bool :=
  match r with
  | .out l => l.all fun o => L.any fun x => covB x o
  | .bad _ => false
section
variable {G : Fb} {N : Nat} {c : Cx} {rec : Callee} {w0 : World} {Q : Exit → Act → World → Prop} {E : VEnv} {D : List AV} {s : St} {n m : Nat} {q b x y : Code} {L : List Out}
theorem known_cov {X O : Out} {a : Act} {w : World} (h : covB X O = true) (k : Known G N w0 O.E O.D O.s a w) : X.e = O.e ∧ Known G N w0 X.E X.D X.s a w := by
  unfold covB at h
  simp only [Bool.and_eq_true] at h
  obtain ⟨⟨⟨⟨h1, h2⟩, h3⟩, h4⟩, h5⟩ := h
  have hD := sames_eq _ _ h2
  have hn := Nat.le_of_ble_eq_true h3
  obtain ⟨A, ρ, hS, hA, hB⟩ := k
  refine ⟨sameEx_eq h1, A, ρ, ?_, fun i hi => Nat.lt_of_lt_of_le (hA i hi) hn, hB⟩
  rw [hD]
  exact hS.sub (fun t v ht => subT_get (fun x y => same_eq x y) _ _ h4 t v ht) (fun i o ho => subT_get (fun x y => sameO_eq) _ _ h5 i o ho)
theorem known_reach {A0 A1 : Nat → Prop} {ρ0 ρ1 : Val} {n0 : Nat} {w w1 : World} {a1 : Act} {o : Out} (hA : ∀ i, A0 i → i < n0) (hB : Below G.B w0 w) (hz : w0.heap.size ≤ w.heap.size) (hS : SR G N A1 ρ1 a1 w1 o.E o.D o.s.mem) (hR : Reach G A0 ρ0 n0 w A1 ρ1 o.s.nx w1) : Known G N w0 o.E o.D o.s a1 w1 :=
  ⟨A1, ρ1, hS, hR.bd hA, hB.trans hR.below, Nat.le_trans hz hR.size⟩
/-- a piece that is run at once -/
theorem CK_run (ok : CxOk G c) (rok : CalleeOk G c rec) (hq : codeOk N q = true) (hQ : PanicOk Q) (h : chk (xcode c rec n q E D s) L = true) (hL : ∀ X ∈ L, XK G N w0 Q (toE X.e) X.E X.D X.s) : CK c G N w0 Q q E D s := by
  intro a w hk
  obtain ⟨A, ρ, hS, hA, hB, hz⟩ := hk
  unfold chk at h
  split at h
  · rename_i l hx
    refine (code_s ok rok n).1 q Q A ρ a w E D s l hx hq hQ hS hA fun o ho => ?_
    intro A1 ρ1 a1 w1 hS1 hR1
    obtain ⟨X, hX, hc⟩ := List.any_eq_true.1 (List.all_eq_true.1 h o ho)
    have hk1 := known_reach hA hB hz hS1 hR1
    obtain ⟨e1, hk2⟩ := known_cov hc hk1
    have := hL X hX a1 w1 hk2
    rw [e1] at this; exact this
  · cases h
theorem CK_seq (hx : CK c G N w0 (Exit.then (fun a w => y.wp c.P Q a w) Q) x E D s) : CK c G N w0 Q (.seq x y) E D s := fun a w hk => wp_seq (hx a w hk)
theorem CK_block {i : Nat} (h : CK c G N w0 (Exit.inBlock i Q) b E D s) : CK c G N w0 Q (.block i b) E D s := fun a w hk => wp_block (h a w hk)
theorem CK_loop (h : CR c G N w0 Q n b E D s) : CK c G N w0 Q (.loop b) E D s := fun a w hk => wp_loop_rounds n (h a w hk)
theorem CK_ret (h : XK G N w0 Q .ret E D s) : CK c G N w0 Q .ret E D s := fun a w hk => wp_ret (h a w hk)
theorem CR_round (h : CK c G N w0 (Exit.then (Code.rounds c.P b Q n) Q) b E D s) : CR c G N w0 Q (n + 1) b E D s := fun a w hk => by rw [rounds_succ]; exact h a w hk
theorem XK_then (h : CK c G N w0 Q y E D s) {Q' : Exit → Act → World → Prop} : XK G N w0 (Exit.then (fun a w => y.wp c.P Q a w) Q') .normal E D s := h
theorem XK_rounds (h : CR c G N w0 Q n b E D s) {Q' : Exit → Act → World → Prop} : XK G N w0 (Exit.then (Code.rounds c.P b Q n) Q') .normal E D s := h
theorem XK_thenE {K : Act → World → Prop} {i : Nat} (h : XK G N w0 Q (.exit i) E D s) : XK G N w0 (Exit.then K Q) (.exit i) E D s := h
theorem XK_thenR {K : Act → World → Prop} (h : XK G N w0 Q .ret E D s) : XK G N w0 (Exit.then K Q) .ret E D s := h
theorem XK_block {i : Nat} (h : XK G N w0 Q .normal E D s) : XK G N w0 (Exit.inBlock i Q) (.exit i) E D s := fun a w hk => by
  simp only [Exit.inBlock, if_true]; exact h a w hk
theorem XK_blockN {i : Nat} (h : XK G N w0 Q .normal E D s) : XK G N w0 (Exit.inBlock i Q) .normal E D s := h
theorem XK_blockR {i : Nat} (h : XK G N w0 Q .ret E D s) : XK G N w0 (Exit.inBlock i Q) .ret E D s := h
/-- the end of a function without deferred calls -/
theorem XK_end {fn : Func} {R : Ending → World → Prop} {l : List AV} (hr : resA c.P E s fn.results.toList = some l) (hR : ∀ A ρ w, (∀ i, A i → i < s.nx) → (∀ ρ', Agree A ρ ρ' → conc G.F ρ' (packA l) = conc G.F ρ (packA l) ∧ MemOk G ρ' w s.mem) → Below G.B w0 w → w0.heap.size ≤ w.heap.size → R (.returned (conc G.F ρ (packA l))) w) : XK G N w0 (bodyPost c.P fn R) .ret E [] s := by
  intro a w hk
  obtain ⟨A, ρ, hS, hA, hB, hz⟩ := hk
  obtain ⟨h1, h2, h3⟩ := hS.rel ρ (Agree.refl _ _)
  have hrun := results_run (P := c.P) (fn := fn) (nx := s.nx) h1 h3 hr
  refine ⟨by rw [h2]; rfl, _, hrun, hR A ρ w hA (fun ρ' k => ?_) hB hz⟩
  obtain ⟨k1, _, k3⟩ := hS.rel ρ' k
  have h5 := hrun.symm.trans (results_run (P := c.P) (fn := fn) (nx := s.nx) k1 k3 hr)
  injection h5 with h5 _
  exact ⟨h5.symm, k3⟩
end
end Go.Proofs.AL.Rx
/- RV: calls that were run once from a state. -/
set_option linter.unusedVariables false
set_option linter.unusedSimpArgs false
namespace Go.Proofs.AL.Rx
open Go Go.RowKit
structure ME where
  f : FuncId
  vs : List AV
  s : St
  l : List (AV × St)
/-- the state tells all that the other one tells -/
def covS (s t : St) : Bool := Nat.ble s.nx t.nx && subT sameO t.mem s.mem
def covL (r : Res) (L : List (AV × St)) : Bool :=
  match r with
  | some l => l.all fun o => L.any fun x => same o.1 x.1 && covS o.2 x.2
  | none => false
def meX : List ME → FuncId → List AV → St → Option Res
  | [], _, _, _ => none
  | m :: r, f, vs, s => bif Nat.beq f m.f && (sames vs m.vs && covS s m.s) then some (some m.l) else meX r f vs s
theorem Reach.from {G : Fb} {A0 A1 : Nat → Prop} {ρ0 ρ1 : Val} {n0 n0' n1 n1' : Nat} {w w1 : World} (h : Reach G A0 ρ0 n0 w A1 ρ1 n1 w1) (h0 : n0' ≤ n0) (h1 : n1 ≤ n1') : Reach G A0 ρ0 n0' w A1 ρ1 n1' w1 :=
  ⟨h.agree, fun i hi => (h.sub i hi).imp id fun k => ⟨by omega, by omega⟩, h.sup, by have := h.n; omega, h.below, h.size⟩
theorem covS_get {s t : St} (h : covS s t = true) : s.nx ≤ t.nx ∧ ∀ i o, t.mem.get i = some o → s.mem.get i = some o := by
  unfold covS at h
  simp only [Bool.and_eq_true] at h
  exact ⟨Nat.le_of_ble_eq_true h.1, fun i o ho => subT_get (fun x y => sameO_eq) _ _ h.2 i o ho⟩
/-- what one run shows -/
theorem me_ok {G : Fb} {c : Cx} {rec : Callee} {m : ME} (rok : CalleeOk G c rec) (h : covL (rec m.f m.vs m.s) m.l = true) : XOk G c.P (meX [m]) := by
  intro f vs s l hl
  unfold covL at h
  split at h
  · rename_i lr hr
    simp only [meX] at hl
    cases hb : Nat.beq f m.f && (sames vs m.vs && covS s m.s) with
    | false => simp only [hb, cond_false] at hl; cases hl
    | true =>
      simp only [hb, cond_true] at hl
      injection hl with hl; injection hl with hl; subst hl
      simp only [Bool.and_eq_true] at hb
      obtain ⟨h1, h2, h3⟩ := hb
      obtain rfl := Nat.eq_of_beq_eq_true h1
      obtain rfl := sames_eq _ _ h2
      obtain ⟨k1, k2⟩ := covS_get h3
      refine ⟨rok.fn _ _ _ _ hr, fun A ρ w args hA hB hargs => ?_⟩
      refine Calls.mono (rok.calls _ _ _ _ hr A ρ w args (fun i hi => Nat.lt_of_lt_of_le (hA i hi) k1) hB (fun ρ' ha => ⟨(hargs ρ' ha).1, (hargs ρ' ha).2.sub k2⟩)) fun e w' he => ?_
      obtain ⟨v, s', A1, ρ1, hmem, hR, hall⟩ := he
      obtain ⟨X, hX, hc⟩ := List.any_eq_true.1 (List.all_eq_true.1 h _ hmem)
      simp only [Bool.and_eq_true] at hc
      obtain ⟨k3, k4⟩ := covS_get hc.2
      refine ⟨X.1, X.2, A1, ρ1, hX, hR.from k1 k3, fun ρ' ha => ?_⟩
      obtain ⟨k5, k6⟩ := hall ρ' ha
      refine ⟨by rw [k5, same_eq _ _ hc.1], k6.sub k4⟩
  · cases h
theorem me_nil {G : Fb} {P : Program} : XOk G P (meX []) := fun f vs s l hl => by cases hl
theorem me_cons {G : Fb} {P : Program} {m : ME} {r : List ME} (h : XOk G P (meX [m])) (k : XOk G P (meX r)) : XOk G P (meX (m :: r)) := fun f vs s l hl => by
  simp only [meX] at hl
  cases hb : Nat.beq f m.f && (sames vs m.vs && covS s m.s) with
  | false => simp only [hb, cond_false] at hl; exact k f vs s l hl
  | true =>
    simp only [hb, cond_true] at hl
    exact h f vs s l (by simp only [meX, hb, cond_true]; exact hl)
/-- the table, and what was told before -/
def MeOk (F : Fx) (P : Program) (t : List ME) : Prop := ∀ B, XOk (gB F B) P (meX t)
theorem MeOk.nil {F : Fx} {P : Program} : MeOk F P [] := fun _ => me_nil
def OkB (F : Fx) (c : Cx) : Prop := ∀ B, CxOk (gB F B) c ∧ SpOk (gB F B) c
theorem OkB.me {F : Fx} {c : Cx} {t : List ME} (h : OkB F c) (ht : MeOk F c.P t) : OkB F (c.plus (meX t)) := fun B => ⟨(h B).1.plus, (h B).2.plus (ht B)⟩
theorem OkB.memo {F : Fx} {c : Cx} {t : Memo} (h : OkB F c) (ht : ToldAll F c.P t) : OkB F (c.plus (memoX t)) := fun B => ⟨(h B).1.plus, (h B).2.plus (memo_ok ht)⟩
theorem MeOk.one {F : Fx} {c : Cx} {m : ME} {n : Nat} (h : OkB F c) (k : covL (xcall c n m.f m.vs m.s) m.l = true) : MeOk F c.P [m] := fun B => me_ok (callee_s (h B).1 (h B).2 n) k
theorem MeOk.cons {F : Fx} {P : Program} {m : ME} {t : List ME} (h : MeOk F P [m]) (k : MeOk F P t) : MeOk F P (m :: t) := fun B => me_cons (h B) (k B)
/-- calls that are handed all they need, one by one; the table so far, the next ones -/
theorem MeOk.more {F : Fx} {c : Cx} {m : ME} {t : List ME} {n : Nat} (h : OkB F c) (ht : MeOk F c.P t) (k : covL (xcall (c.plus (meX t)) n m.f m.vs m.s) m.l = true) : MeOk F c.P (m :: t) :=
  MeOk.cons (MeOk.one (c := c.plus (meX t)) (h.me ht) k) ht
end Go.Proofs.AL.Rx
