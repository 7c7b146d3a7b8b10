/- The base of all walks: a small program logic over the loaded code, with temporaries that are known kept as a list. -/
import Derived.WalkKit
import Derived.WalkLawsBesides
import Derived.Lib.Hide
import Derived.Maps.AppendAt
import Derived.Deep.AppendLies
import Derived.Deep.Draws
import Derived.OrdersHeld
import Derived.RegionTactic
import Derived.Deep.LoopGhost
import Derived.KernelRfl
namespace Go.Proofs.AL
open Go.RowKit

/-! ### 1. Temporaries that are known -/
abbrev Env := List (Nat × Value)
def lk : Env → Nat → Option Value
  | [], _ => none
  | (k, v) :: r, i => bif Nat.beq k i then some v else lk r i
def ev (E : Env) : Operand → Option Value
  | .tmp t => lk E t
  | .const v => some v
  | .global g => some (.pointer (some ⟨g, 0, none⟩))
  | .func f => some (.func (.func f) #[] #[])
structure Sim (N : Nat) (a : Act) (E : Env) : Prop where
  size : a.tmps.size = N
  defers : a.defers = []
  tmps : ∀ t v, lk E t = some v → a.tmps.getD t undef = v
theorem Sim.ev {N : Nat} {a : Act} {E : Env} (h : Sim N a E) {x : Operand} {v : Value} (hx : ev E x = some v) : a.eval x = v := by
  cases x with
  | tmp t => exact h.tmps t v hx
  | const u => exact (Option.some.inj hx)
  | global g => exact (Option.some.inj hx)
  | func f => exact (Option.some.inj hx)
theorem Sim.put {N : Nat} {a : Act} {E : Env} (h : Sim N a E) (d : Nat) (hd : Nat.blt d N = true) (v : Value) : Sim N (a.put (some d) v) ((d, v) :: E) := by
  have hd' : d < N := by simpa [Nat.blt_eq] using hd
  refine ⟨by simp [Act.put, h.size], h.defers, fun t u hu => ?_⟩
  simp only [lk] at hu
  by_cases e : d = t
  · subst e
    have : Nat.beq d d = true := by simp
    rw [this] at hu
    simp only [cond_true, Option.some.injEq] at hu
    subst hu
    simp [Act.put, h.size, hd']
  · have : Nat.beq d t = false := by
      cases hb : Nat.beq d t with
      | false => rfl
      | true => exact absurd (Nat.eq_of_beq_eq_true hb) e
    rw [this] at hu
    simp only [cond_false] at hu
    have := h.tmps t u hu
    simpa [Act.put, Array.getD_eq_getD_getElem?, Array.getElem?_setIfInBounds, e] using this
/-- what is known of E1 is known of E2, too -/
def SubE : Env → Env → Prop
  | [], _ => True
  | (t, v) :: r, E => lk E t = some v ∧ SubE r E
theorem SubE.lk {E1 E2 : Env} (h : SubE E1 E2) : ∀ t v, lk E1 t = some v → lk E2 t = some v := by
  induction E1 with
  | nil => intro t v hv; cases hv
  | cons p r ih =>
    obtain ⟨k, u⟩ := p
    intro t v hv
    simp only [AL.lk] at hv
    cases hb : Nat.beq k t with
    | true =>
      rw [hb] at hv
      simp only [cond_true, Option.some.injEq] at hv
      subst hv
      rw [← Nat.eq_of_beq_eq_true hb]
      exact h.1
    | false =>
      rw [hb] at hv
      exact ih h.2 t v hv
theorem Sim.sub {N : Nat} {a : Act} {E E' : Env} (h : Sim N a E) (hs : SubE E' E) : Sim N a E' :=
  ⟨h.size, h.defers, fun t v hv => h.tmps t v (hs.lk t v hv)⟩
theorem lk_of {E : Env} {t : Nat} {u v : Value} (h : lk E t = some u) (e : u = v) : lk E t = some v := by rw [h, e]
theorem lk_int {E : Env} {t : Nat} {k : IntKind} {m n : Int} (h : lk E t = some (.int k m)) (e : m = n) : lk E t = some (.int k n) := by rw [h, e]

/-! ### 2. What holds of worlds that only grew -/
/-- everything that was there is as it was -/
abbrev Ext (w w' : World) : Prop := Below w.heap.size w w'
theorem Ext.refl (w : World) : Ext w w := Below.refl _ _
theorem Ext.trans {a b c : World} (h : Ext a b) (k : Ext b c) : Ext a c := Below.trans h (k.mono h.size)
theorem Ext.alloc (w : World) (o : Obj) : Ext w (w.alloc o) := (Below.refl _ _).alloc (Nat.le_refl _) o

/-- nothing that was there is touched but the blocks of which G holds -/
structure Kp (G : Nat → Prop) (w w' : World) : Prop where
  os : w'.os = w.os
  tape : w'.tape = w.tape
  output : w'.output = w.output
  size : w.heap.size ≤ w'.heap.size
  block : ∀ k, k < w.heap.size → ¬ G k → w'.heap[k]? = w.heap[k]?
theorem Kp.refl (G : Nat → Prop) (w : World) : Kp G w w := ⟨rfl, rfl, rfl, Nat.le_refl _, fun _ _ _ => rfl⟩
theorem Kp.trans {G : Nat → Prop} {a b c : World} (h : Kp G a b) (k : Kp G b c) : Kp G a c :=
  ⟨k.os.trans h.os, k.tape.trans h.tape, k.output.trans h.output, Nat.le_trans h.size k.size, fun i hi hg => (k.block i (Nat.lt_of_lt_of_le hi h.size) hg).trans (h.block i hi hg)⟩
theorem Kp.of_ext {G : Nat → Prop} {w w' : World} (h : Ext w w') : Kp G w w' := ⟨h.os, h.tape, h.output, h.size, fun k hk _ => h.block k hk⟩
def NoB : Nat → Prop := fun _ => False
theorem Kp.ext {w w' : World} (h : Kp NoB w w') : Ext w w' := ⟨h.os, h.tape, h.output, h.size, fun k hk => h.block k hk (fun h => h)⟩
theorem Kp.of_but {G : Nat → Prop} {g : Nat} {w w' : World} (h : w.grownBy w' (some g)) (hg : G g) : Kp G w w' :=
  ⟨h.os, h.tape, h.output, h.size, fun k hk hn => h.block k hk (fun e => by injection e with e; subst e; exact hn hg)⟩
theorem Kp.cell {G : Nat → Prop} {w w' : World} (h : Kp G w w') {a : Addr} {v : Value} (hc : w.cell? a = some v) (hg : ¬ G a.block) : w'.cell? a = some v :=
  (World.cell?_of_block (h.block _ (World.block_lt_of_cell? w a hc) hg)).trans hc

/-! ### 3. Judgements -/
section
variable {P : Program} {N : Nat} {ops : Array Oper} {Q : Exit → Act → World → Prop} {E E' : Env} {w : World}

/-- The operation yields v, and leaves the world alone, in whatever world meets S. -/
def Yd (P : Program) (S : World → Prop) (E : Env) (op : Op) (ty : TypeId) (v : Value) : Prop :=
  ∀ N a, Sim N a E → ∀ o : Oper, o.op = op → o.type = ty → ∀ W, S W → (execOp a.eval o).run P W = .ok (.value v) W
/-- The operation comes to an end in this world, and K holds of its value and the world behind it. -/
def Ld (P : Program) (E : Env) (op : Op) (ty : TypeId) (w : World) (Q : Exit → Act → World → Prop) (K : Value → World → Prop) : Prop :=
  ∀ N a, Sim N a E → ∀ o : Oper, o.op = op → o.type = ty → o.wp P a w (fun a' w' => ∃ v, a' = a.put o.dst v ∧ K v w') Q
/-- a list of operations, one behind the other -/
def RL (P : Program) (N : Nat) (ops : Array Oper) (Q : Exit → Act → World → Prop) (l : List Oper) (E : Env) (w : World) : Prop :=
  ∀ a, Sim N a E → wpList P ops Q l a w
/-- code -/
def C (P : Program) (N : Nat) (Q : Exit → Act → World → Prop) (c : Code) (E : Env) (w : World) : Prop :=
  ∀ a, Sim N a E → c.wp P Q a w
/-- a way out -/
def X (N : Nat) (Q : Exit → Act → World → Prop) (e : Exit) (E : Env) (w : World) : Prop := ∀ a, Sim N a E → Q e a w

theorem Yd.mono {S S' : World → Prop} {op : Op} {ty : TypeId} {v : Value} (h : Yd P S E op ty v) (hs : ∀ W, S' W → S W) : Yd P S' E op ty v :=
  fun N a ha o ho ht W hW => h N a ha o ho ht W (hs W hW)

theorem RL_nil (h : X N Q .normal E w) : RL P N ops Q [] E w := fun a ha => h a ha
theorem RL_q {d : Nat} {op : Op} {ty : TypeId} {pos : String} {aft : Array Edge} {rest : List Oper} {v : Value} (hd : Nat.blt d N = true)
    (hy : Yd P (Ext w) E op ty v) (h : RL P N ops Q rest ((d, v) :: E) w) : RL P N ops Q (⟨some d, op, ty, pos, aft, none⟩ :: rest) E w := fun a ha => by
  refine wpList_plain rfl fun K hK => ?_
  unfold Oper.wp
  rw [hy N a ha _ rfl rfl w (Ext.refl w)]
  exact hK _ _ (h _ (ha.put d hd v))
theorem RL_l {d : Nat} {op : Op} {ty : TypeId} {pos : String} {aft : Array Edge} {rest : List Oper} (hd : Nat.blt d N = true)
    (h : Ld P E op ty w Q (fun v w' => RL P N ops Q rest ((d, v) :: E) w')) : RL P N ops Q (⟨some d, op, ty, pos, aft, none⟩ :: rest) E w := fun a ha => by
  refine wpList_plain rfl fun K hK => ?_
  refine Oper.wp_mono (fun a' w' => ?_) (h N a ha ⟨some d, op, ty, pos, aft, none⟩ rfl rfl)
  rintro ⟨v, rfl, hv⟩
  exact hK _ _ (hv _ (ha.put d hd v))
theorem RL_l0 {op : Op} {ty : TypeId} {pos : String} {aft : Array Edge} {rest : List Oper}
    (h : Ld P E op ty w Q (fun _ w' => RL P N ops Q rest E w')) : RL P N ops Q (⟨none, op, ty, pos, aft, none⟩ :: rest) E w := fun a ha => by
  refine wpList_plain rfl fun K hK => ?_
  refine Oper.wp_mono (fun a' w' => ?_) (h N a ha ⟨none, op, ty, pos, aft, none⟩ rfl rfl)
  rintro ⟨v, rfl, hv⟩
  exact hK _ _ (hv _ ha)
end

/-! ### 4. Guards -/
theorem yielded_of {N : Nat} {ops : Array Oper} {E : Env} {a : Act} (ha : Sim N a E) {j dj : Nat} (hj : (ops[j]?).bind (·.dst) = some dj) {v : Value} (hv : lk E dj = some v) :
    yielded ops a.tmps j = match v with | .bool b => some b | _ => none := by
  have h := ha.tmps dj v hv
  unfold yielded
  rw [hj]
  simp only [Option.bind_some]
  rw [Array.getD_eq_getD_getElem?] at h
  cases hc : a.tmps[dj]? with
  | none => rw [hc] at h; simp at h; subst h; rfl
  | some u => rw [hc] at h; simp at h; subst h; cases u <;> rfl
section
variable {P : Program} {N : Nat} {ops : Array Oper} {Q : Exit → Act → World → Prop} {E E' : Env} {w : World}
theorem RL_gq {d j dj : Nat} {b : Bool} {op : Op} {ty : TypeId} {pos : String} {aft : Array Edge} {rest : List Oper} {v : Value} (hj : (ops[j]?).bind (·.dst) = some dj) (hv : lk E dj = some (.bool b)) (hd : Nat.blt d N = true)
    (hy : Yd P (Ext w) E op ty v) (h : RL P N ops Q rest ((d, v) :: E) w) : RL P N ops Q (⟨some d, op, ty, pos, aft, some (j, b)⟩ :: rest) E w := fun a ha => by
  refine wpList_step fun K hK => ?_
  rw [if_pos (by simp [Region.wanted, yielded_of ha hj hv])]
  unfold Oper.wp
  rw [hy N a ha _ rfl rfl w (Ext.refl w)]
  exact hK _ _ (h _ (ha.put d hd v))
theorem RL_gl {d j dj : Nat} {b : Bool} {op : Op} {ty : TypeId} {pos : String} {aft : Array Edge} {rest : List Oper} (hj : (ops[j]?).bind (·.dst) = some dj) (hv : lk E dj = some (.bool b)) (hd : Nat.blt d N = true)
    (h : Ld P E op ty w Q (fun v w' => RL P N ops Q rest ((d, v) :: E) w')) : RL P N ops Q (⟨some d, op, ty, pos, aft, some (j, b)⟩ :: rest) E w := fun a ha => by
  refine wpList_step fun K hK => ?_
  rw [if_pos (by simp [Region.wanted, yielded_of ha hj hv])]
  refine Oper.wp_mono (fun a' w' => ?_) (h N a ha ⟨some d, op, ty, pos, aft, some (j, b)⟩ rfl rfl)
  rintro ⟨v, rfl, hv⟩
  exact hK _ _ (hv _ (ha.put d hd v))
/-- the guard says no -/
theorem RL_gn {d j dj : Nat} {b b' : Bool} {op : Op} {ty : TypeId} {pos : String} {aft : Array Edge} {rest : List Oper} (hj : (ops[j]?).bind (·.dst) = some dj) (hv : lk E dj = some (.bool b')) (hb : (b' == b) = false) (hd : Nat.blt d N = true)
    (h : RL P N ops Q rest ((d, undef) :: E) w) : RL P N ops Q (⟨some d, op, ty, pos, aft, some (j, b)⟩ :: rest) E w := fun a ha => by
  refine wpList_step fun K hK => ?_
  rw [if_neg (by simpa [Region.wanted, yielded_of ha hj hv] using hb)]
  exact hK _ _ (h _ (ha.put d hd undef))
/-- the operation that the guard names was not carried out -/
theorem RL_gu {d j dj : Nat} {b : Bool} {op : Op} {ty : TypeId} {pos : String} {aft : Array Edge} {rest : List Oper} (hj : (ops[j]?).bind (·.dst) = some dj) (hv : lk E dj = some undef) (hd : Nat.blt d N = true)
    (h : RL P N ops Q rest ((d, undef) :: E) w) : RL P N ops Q (⟨some d, op, ty, pos, aft, some (j, b)⟩ :: rest) E w := fun a ha => by
  refine wpList_step fun K hK => ?_
  rw [if_neg (by simp [Region.wanted, yielded_of ha hj hv, undef])]
  exact hK _ _ (h _ (ha.put d hd undef))

/-! ### 5. Code -/
theorem C_region {id : Nat} {l : List Oper} (h : RL P N l.toArray Q l E w) : C P N Q (.region id l.toArray false) E w := fun a ha => wp_region_lit (h a ha)
theorem C_seq {x y : Code} (h : C P N (Exit.then (y.wp P Q) Q) x E w) : C P N Q (.seq x y) E w := fun a ha => wp_seq (h a ha)
theorem C_skip (h : X N Q .normal E w) : C P N Q .skip E w := fun a ha => wp_skip (h a ha)
theorem C_exit {id : Nat} (h : X N Q (.exit id) E w) : C P N Q (.exit id) E w := fun a ha => wp_exit (h a ha)
theorem C_ret (h : X N Q .ret E w) : C P N Q .ret E w := fun a ha => wp_ret (h a ha)
theorem C_label {l : Nat} (h : X N Q .normal E w) : C P N Q (.label l) E w := fun a ha => wp_label (h a ha)
theorem C_block {id : Nat} {c : Code} (h : C P N (Exit.inBlock id Q) c E w) : C P N Q (.block id c) E w := fun a ha => wp_block (h a ha)
theorem C_cond {c : Operand} {x y : Code} {b : Bool} (hc : ev E c = some (.bool b)) (ht : b = true → C P N Q x E w) (hf : b = false → C P N Q y E w) : C P N Q (.cond c x y) E w :=
  fun a ha => wp_cond_split (ha.ev hc) (fun hb => ht hb a ha) (fun hb => hf hb a ha)
theorem C_yes {c : Operand} {x y : Code} {b : Bool} (hc : ev E c = some (.bool b)) (hb : b = true) (ht : C P N Q x E w) : C P N Q (.cond c x y) E w :=
  fun a ha => wp_cond_true (by rw [ha.ev hc, hb]) (ht a ha)
theorem C_no {c : Operand} {x y : Code} {b : Bool} (hc : ev E c = some (.bool b)) (hb : b = false) (hf : C P N Q y E w) : C P N Q (.cond c x y) E w :=
  fun a ha => wp_cond_false (by rw [ha.ev hc, hb]) (hf a ha)
theorem C_sub {c : Code} (hs : SubE E' E) (h : C P N Q c E' w) : C P N Q c E w := fun a ha => h a (ha.sub hs)
theorem X_sub {e : Exit} (hs : SubE E' E) (h : X N Q e E' w) : X N Q e E w := fun a ha => h a (ha.sub hs)
theorem X_then {y : Code} {Q' : Exit → Act → World → Prop} (h : C P N Q y E w) : X N (Exit.then (y.wp P Q) Q') .normal E w := h
theorem X_thenE {K : Act → World → Prop} {i : Nat} (h : X N Q (.exit i) E w) : X N (Exit.then K Q) (.exit i) E w := h
theorem X_thenR {K : Act → World → Prop} (h : X N Q .ret E w) : X N (Exit.then K Q) .ret E w := h
theorem X_block {i : Nat} (h : X N Q .normal E w) : X N (Exit.inBlock i Q) .normal E w := h
theorem X_blockR {i : Nat} (h : X N Q .ret E w) : X N (Exit.inBlock i Q) .ret E w := h
theorem X_blockE {i : Nat} (h : X N Q .normal E w) : X N (Exit.inBlock i Q) (.exit i) E w := fun a ha => by
  simp only [Exit.inBlock, if_true]; exact h a ha
theorem X_blockO {i j : Nat} (hij : ¬ j = i) (h : X N Q (.exit j) E w) : X N (Exit.inBlock i Q) (.exit j) E w := fun a ha => by
  simp only [Exit.inBlock, if_neg hij]; exact h a ha

/-- what holds at the end of a round -/
def Again {T : Type} (N : Nat) (E : T → Env) (F : T → World → Prop) (m : T → Nat) (n : Nat) : Act → World → Prop := fun a w => ∃ x, Sim N a (E x) ∧ F x w ∧ m x < n
theorem C_loop {T : Type} {c : Code} (E' : T → Env) (F : T → World → Prop) (m : T → Nat) (x0 : T) (hs : SubE (E' x0) E) (h0 : F x0 w)
    (hr : ∀ x w, F x w → C P N (Exit.then (Again N E' F m (m x)) Q) c (E' x) w) : C P N Q (.loop c) E w := fun a ha => by
  refine wp_loop_ghost (fun n a w => ∃ x, Sim N a (E' x) ∧ F x w ∧ m x = n) (m x0) ⟨x0, ha.sub hs, h0, rfl⟩ ?_
  rintro n a w ⟨x, hx, hF, rfl⟩
  refine Code.wp_mono (fun e a' w' hq => ?_) (hr x w hF a hx)
  cases e with
  | normal =>
    obtain ⟨y, h1, h2, h3⟩ := hq
    exact ⟨m y, h3, y, h1, h2, rfl⟩
  | exit id => exact hq
  | goto l => exact hq
  | ret => exact hq
  | panic ch => exact hq
  | outgrown => exact hq
theorem X_again {T : Type} {E' : T → Env} {F : T → World → Prop} {m : T → Nat} {n : Nat} (x : T) (hs : SubE (E' x) E) (hF : F x w) (hm : m x < n) : X N (Exit.then (Again N E' F m n) Q) .normal E w :=
  fun _ ha => ⟨x, ha.sub hs, hF, hm⟩

/-! ### 6. The body -/
theorem X_ret1 {fn : Func} {R : Ending → World → Prop} {t : Tmp} {v : Value} (hr : fn.results = #[.tmp t]) (hv : lk E t = some v) (h : R (.returned v) w) : X N (bodyPost P fn R) .ret E w :=
  fun a ha => ⟨ha.defers, v, by rw [results_tmp hr]; rw [ha.tmps t v hv], h⟩
theorem X_ret2 {fn : Func} {R : Ending → World → Prop} {t u : Tmp} {x y : Value} (hr : fn.results = #[.tmp t, .tmp u]) (hx : lk E t = some x) (hy : lk E u = some y) (h : R (.returned (.tuple #[x, y])) w) : X N (bodyPost P fn R) .ret E w :=
  fun a ha => ⟨ha.defers, _, by rw [results_tmp2 hr]; rw [ha.tmps t x hx, ha.tmps u y hy], h⟩
theorem X_ret0 {fn : Func} {R : Ending → World → Prop} (hr : fn.results = #[]) (h : R (.returned (.tuple #[])) w) : X N (bodyPost P fn R) .ret E w :=
  fun a ha => ⟨ha.defers, _, by rw [results_none hr], h⟩
theorem X_end0 {fn : Func} {R : Ending → World → Prop} (hr : fn.results = #[]) (h : R (.returned (.tuple #[])) w) : X N (bodyPost P fn R) .normal E w :=
  fun a ha => ⟨ha.defers, _, by rw [results_none hr], h⟩
/-- the environment of a call's beginning -/
def env0 : Nat → List Value → Env
  | _, [] => []
  | i, v :: r => (i, v) :: env0 (i + 1) r
theorem lk_env0 : ∀ (l : List Value) (i t : Nat) (v : Value), lk (env0 i l) t = some v → ∃ j, t = i + j ∧ l[j]? = some v := by
  intro l
  induction l with
  | nil => intro i t v h; cases h
  | cons u r ih =>
    intro i t v h
    simp only [env0, lk] at h
    cases hb : Nat.beq i t with
    | true =>
      rw [hb] at h
      simp only [cond_true, Option.some.injEq] at h
      exact ⟨0, (Nat.eq_of_beq_eq_true hb).symm, by simp [h]⟩
    | false =>
      rw [hb] at h
      obtain ⟨j, rfl, hj⟩ := ih (i + 1) t v h
      exact ⟨j + 1, by omega, by simpa using hj⟩
theorem calls_of {f : FuncId} {fn : Func} {c : Code} {l : List Value} {R : Ending → World → Prop} (hf : P.funcs[f]? = some fn) (hb : fn.body = some c) (hN : fn.ntmps = N) (hl : Nat.ble l.length N = true)
    (h : C P N (bodyPost P fn R) c (env0 0 l) w) : Calls P f l.toArray w R := by
  have hl' : l.length ≤ N := by simpa using hl
  refine calls_of_wp hf hb (h _ ⟨by simp [hN]; omega, rfl, fun t v hv => ?_⟩)
  obtain ⟨j, rfl, hj⟩ := lk_env0 l 0 t v hv
  have hlt : j < l.length := (List.getElem?_eq_some_iff.1 hj).1
  rw [Array.getD_eq_getD_getElem?, Nat.zero_add, Array.getElem?_append_left (by simpa using hlt)]
  simp [hj]

/-! ### 7. A region that draws its order, taken in an order of our own -/
/-- (i, true): taken first, as it yields in whatever later world; (i, false): it comes up alone. -/
def okOrder (ops : Array Oper) : Array Bool → List (Nat × Bool) → Bool
  | listed, [] => (Region.ready .any ops listed).isEmpty
  | listed, (i, true) :: r => Region.free .any ops listed i && ((Region.ready .any ops listed).contains i && okOrder ops (listed.setIfInBounds i true) r)
  | listed, (i, false) :: r => decide (Region.ready .any ops listed = [i]) && okOrder ops (listed.setIfInBounds i true) r
def RO (P : Program) (N : Nat) (G : Nat → Prop) (ops : Array Oper) (Q : Exit → Act → World → Prop) (l : List (Nat × Bool)) (E : Env) (w : World) : Prop :=
  Region.noSelect ops = true → (∀ c a d v w, Q (.panic c) (a.put d v) w → Q (.panic c) a w) →
  ∀ listed, okOrder ops listed l = true → ∀ a, Sim N a E → wpAnyH P .any ops Q (Kp G w) l.length listed a w
theorem wpAnyH_mono {S S' : World → Prop} {md : Region.Mode} (hs : ∀ W, S W → S' W) : ∀ (fuel : Nat) (listed : Array Bool) (a : Act) (w : World), wpAnyH P md ops Q S fuel listed a w → wpAnyH P md ops Q S' fuel listed a w
  | 0, _, _, _, h => h
  | fuel + 1, _, _, _, h => ⟨h.1, fun i hi => wpOp_mono (fun a' w' h' => ⟨hs _ h'.1, wpAnyH_mono hs fuel _ a' w' h'.2⟩) (h.2 i hi)⟩
theorem C_regionD {id : Nat} {l : List (Nat × Bool)} (G : Nat → Prop) (hm : P.follows .mixedOrders = true) (hn : Region.noSelect ops = true) (hl : l.length = ops.size) (ho : okOrder ops (Array.replicate ops.size false) l = true)
    (hQ : ∀ c a d v w, Q (.panic c) (a.put d v) w → Q (.panic c) a w) (h : ∀ w1, Ext w w1 → w1.heap = w.heap → RO P N G ops Q l E w1) : C P N Q (.region id ops true) E w := fun a ha => by
  refine wp_region_held hm (S := Kp G w.drew) ?_
  have := h w.drew ((Below.refl _ _).drew) rfl hn hQ _ ho a ha
  rw [hl] at this
  exact this
theorem RO_nil {G : Nat → Prop} (h : X N Q .normal E w) : RO P N G ops Q [] E w := fun _ _ listed ho a ha => by
  refine wpAnyH_done ?_ (h a ha) 0
  simpa [okOrder] using ho
theorem RO_q {G : Nat → Prop} {i d : Nat} {op : Op} {ty : TypeId} {pos : String} {aft : Array Edge} {rest : List (Nat × Bool)} {v : Value} (hi : ops[i]? = some ⟨some d, op, ty, pos, aft, none⟩) (hd : Nat.blt d N = true)
    (hy : Yd P (Kp G w) E op ty v) (h : RO P N G ops Q rest ((d, v) :: E) w) : RO P N G ops Q ((i, true) :: rest) E w := fun hn hQ listed ho a ha => by
  simp only [okOrder, Bool.and_eq_true] at ho
  exact wpAnyH_take hi hn ho.1 ho.2.1 (fun c a w => hQ c a _ _ w) (.inl ⟨by simp [Region.wanted], fun W hW => hy N a ha _ rfl rfl W hW⟩) (Kp.refl G w) (h hn hQ _ ho.2.2 _ (ha.put d hd v))
theorem RO_gq {G : Nat → Prop} {i d j dj : Nat} {b : Bool} {op : Op} {ty : TypeId} {pos : String} {aft : Array Edge} {rest : List (Nat × Bool)} {v : Value} (hi : ops[i]? = some ⟨some d, op, ty, pos, aft, some (j, b)⟩)
    (hj : (ops[j]?).bind (·.dst) = some dj) (hv : lk E dj = some (.bool b)) (hd : Nat.blt d N = true)
    (hy : Yd P (Kp G w) E op ty v) (h : RO P N G ops Q rest ((d, v) :: E) w) : RO P N G ops Q ((i, true) :: rest) E w := fun hn hQ listed ho a ha => by
  simp only [okOrder, Bool.and_eq_true] at ho
  exact wpAnyH_take hi hn ho.1 ho.2.1 (fun c a w => hQ c a _ _ w) (.inl ⟨by simp [Region.wanted, yielded_of ha hj hv], fun W hW => hy N a ha _ rfl rfl W hW⟩) (Kp.refl G w) (h hn hQ _ ho.2.2 _ (ha.put d hd v))
theorem RO_gn {G : Nat → Prop} {i d j dj : Nat} {b b' : Bool} {op : Op} {ty : TypeId} {pos : String} {aft : Array Edge} {rest : List (Nat × Bool)} (hi : ops[i]? = some ⟨some d, op, ty, pos, aft, some (j, b)⟩)
    (hj : (ops[j]?).bind (·.dst) = some dj) (hv : lk E dj = some (.bool b')) (hb : (b' == b) = false) (hd : Nat.blt d N = true)
    (h : RO P N G ops Q rest ((d, undef) :: E) w) : RO P N G ops Q ((i, true) :: rest) E w := fun hn hQ listed ho a ha => by
  simp only [okOrder, Bool.and_eq_true] at ho
  exact wpAnyH_take hi hn ho.1 ho.2.1 (fun c a w => hQ c a _ _ w) (.inr ⟨by simpa [Region.wanted, yielded_of ha hj hv] using hb, rfl⟩) (Kp.refl G w) (h hn hQ _ ho.2.2 _ (ha.put d hd undef))
theorem RO_gu {G : Nat → Prop} {i d j dj : Nat} {b : Bool} {op : Op} {ty : TypeId} {pos : String} {aft : Array Edge} {rest : List (Nat × Bool)} (hi : ops[i]? = some ⟨some d, op, ty, pos, aft, some (j, b)⟩)
    (hj : (ops[j]?).bind (·.dst) = some dj) (hv : lk E dj = some undef) (hd : Nat.blt d N = true)
    (h : RO P N G ops Q rest ((d, undef) :: E) w) : RO P N G ops Q ((i, true) :: rest) E w := fun hn hQ listed ho a ha => by
  simp only [okOrder, Bool.and_eq_true] at ho
  exact wpAnyH_take hi hn ho.1 ho.2.1 (fun c a w => hQ c a _ _ w) (.inr ⟨by simp [Region.wanted, yielded_of ha hj hv, undef], rfl⟩) (Kp.refl G w) (h hn hQ _ ho.2.2 _ (ha.put d hd undef))
theorem RO_loud {G : Nat → Prop} {i : Nat} {o : Oper} {rest : List (Nat × Bool)} (hi : ops[i]? = some o)
    (h : ∀ a, Sim N a E → ∀ K : Act → World → Prop, (∀ a' w', Kp G w w' → ∀ E', Sim N a' E' → RO P N G ops Q rest E' w' → K a' w') → if Region.wanted o (yielded ops a.tmps) = true then o.wp P a w K Q else K (a.put o.dst undef) w) :
    RO P N G ops Q ((i, false) :: rest) E w := fun hn hQ listed ho a ha => by
  simp only [okOrder, Bool.and_eq_true, decide_eq_true_eq] at ho
  refine wpAnyH_all ho.1 (by simp) ?_
  intro i' hi'
  obtain rfl : i' = i := by simpa using hi'
  refine wpOp_step hi (fun K hK => ?_)
  refine h a ha K (fun a' w' he E' hE' hR => hK a' w' ⟨he, ?_⟩)
  exact wpAnyH_mono (fun W hW => he.trans hW) _ _ _ _ (hR hn hQ _ ho.2 a' hE')
theorem RO_l {G : Nat → Prop} {i d : Nat} {op : Op} {ty : TypeId} {pos : String} {aft : Array Edge} {rest : List (Nat × Bool)} (hi : ops[i]? = some ⟨some d, op, ty, pos, aft, none⟩) (hd : Nat.blt d N = true)
    (h : Ld P E op ty w Q (fun v w' => Kp G w w' ∧ RO P N G ops Q rest ((d, v) :: E) w')) : RO P N G ops Q ((i, false) :: rest) E w := by
  refine RO_loud hi fun a ha K hK => ?_
  rw [if_pos (by simp [Region.wanted])]
  refine Oper.wp_mono (fun a' w' => ?_) (h N a ha ⟨some d, op, ty, pos, aft, none⟩ rfl rfl)
  rintro ⟨v, rfl, he, hv⟩
  exact hK _ _ he _ (ha.put d hd v) hv
theorem RO_gl {G : Nat → Prop} {i d j dj : Nat} {b : Bool} {op : Op} {ty : TypeId} {pos : String} {aft : Array Edge} {rest : List (Nat × Bool)} (hi : ops[i]? = some ⟨some d, op, ty, pos, aft, some (j, b)⟩)
    (hj : (ops[j]?).bind (·.dst) = some dj) (hv : lk E dj = some (.bool b)) (hd : Nat.blt d N = true)
    (h : Ld P E op ty w Q (fun v w' => Kp G w w' ∧ RO P N G ops Q rest ((d, v) :: E) w')) : RO P N G ops Q ((i, false) :: rest) E w := by
  refine RO_loud hi fun a ha K hK => ?_
  rw [if_pos (by simp [Region.wanted, yielded_of ha hj hv])]
  refine Oper.wp_mono (fun a' w' => ?_) (h N a ha ⟨some d, op, ty, pos, aft, some (j, b)⟩ rfl rfl)
  rintro ⟨v, rfl, he, hv⟩
  exact hK _ _ he _ (ha.put d hd v) hv
end

/-! ### 8. Operations that yield a value and leave the world alone -/
section
variable {P : Program} {S : World → Prop} {E : Env} {ty t t2 : TypeId} {x y z : Operand} {k : IntKind} {a b r : Int} {v u : Value}
theorem Yd_move (h : ev E x = some v) : Yd P S E (.move x) ty v := fun N a ha o ho ht W hW => by simp [execOp, ho, ha.ev h]
theorem Yd_assign (h : ev E x = some v) : Yd P S E (.assign x) ty v := fun N a ha o ho ht W hW => by simp [execOp, ho, ha.ev h]
theorem Yd_pick {c : Bool} (hc : ev E z = some (.bool c)) (hx : ev E x = some v) (hy : ev E y = some u) : Yd P S E (.pick z x y) ty (if c then v else u) :=
  fun N a ha o ho ht W hW => by simp [execOp, ho, ha.ev hc, ha.ev hx, ha.ev hy, asBool]
theorem Yd_pickT (hc : ev E z = some (.bool true)) (hx : ev E x = some v) : Yd P S E (.pick z x y) ty v :=
  fun N a ha o ho ht W hW => by simp [execOp, ho, ha.ev hc, ha.ev hx, asBool]
theorem Yd_pickF (hc : ev E z = some (.bool false)) (hy : ev E y = some v) : Yd P S E (.pick z x y) ty v :=
  fun N a ha o ho ht W hW => by simp [execOp, ho, ha.ev hc, ha.ev hy, asBool]
theorem Yd_nil {p : Addr} (h : ev E x = some (.pointer (some p))) : Yd P S E (.nilCheck x) ty (.pointer (some p)) := fun N a ha o ho ht W hW => by simp [execOp, ho, ha.ev h]
theorem Yd_add (hx : ev E x = some (.int k a)) (hy : ev E y = some (.int k b)) (hr : k.wrap (a + b) = r) : Yd P S E (.binOp .add t x y t2) ty (.int k r) :=
  fun N a ha o ho ht W hW => by simp [execOp, ho, ha.ev hx, ha.ev hy, eqGuard, binOp, Op.intArith, hr]
theorem Yd_sub (hx : ev E x = some (.int k a)) (hy : ev E y = some (.int k b)) (hr : k.wrap (a - b) = r) : Yd P S E (.binOp .sub t x y t2) ty (.int k r) :=
  fun N a ha o ho ht W hW => by simp [execOp, ho, ha.ev hx, ha.ev hy, eqGuard, binOp, Op.intArith, hr]
theorem Yd_mul (hx : ev E x = some (.int k a)) (hy : ev E y = some (.int k b)) (hr : k.wrap (a * b) = r) : Yd P S E (.binOp .mul t x y t2) ty (.int k r) :=
  fun N a ha o ho ht W hW => by simp [execOp, ho, ha.ev hx, ha.ev hy, eqGuard, binOp, Op.intArith, hr]
theorem Yd_quo (hx : ev E x = some (.int k a)) (hy : ev E y = some (.int k b)) (hb : b ≠ 0) (hr : k.wrap (a.tdiv b) = r) : Yd P S E (.binOp .quo t x y t2) ty (.int k r) :=
  fun N a ha o ho ht W hW => by simp [execOp, ho, ha.ev hx, ha.ev hy, eqGuard, binOp, Op.intDiv, hb, hr]
theorem Yd_rem (hx : ev E x = some (.int k a)) (hy : ev E y = some (.int k b)) (hb : b ≠ 0) (hr : a.tmod b = r) : Yd P S E (.binOp .rem t x y t2) ty (.int k r) :=
  fun N a ha o ho ht W hW => by simp [execOp, ho, ha.ev hx, ha.ev hy, eqGuard, binOp, Op.intDiv, hb, hr]
def bitsOp (op : BinOp) (k : IntKind) (a b : Int) : Int :=
  let x := BitVec.ofInt k.bits a
  let y := BitVec.ofInt k.bits b
  match op with
  | .and => k.wrap (x &&& y).toNat
  | .or => k.wrap (x ||| y).toNat
  | .xor => k.wrap (x ^^^ y).toNat
  | _ => k.wrap (x &&& ~~~y).toNat
theorem Yd_and (hx : ev E x = some (.int k a)) (hy : ev E y = some (.int k b)) (hr : bitsOp .and k a b = r) : Yd P S E (.binOp .and t x y t2) ty (.int k r) :=
  fun N a ha o ho ht W hW => by subst hr; simp [execOp, ho, ha.ev hx, ha.ev hy, eqGuard, binOp, Op.intBits, bitsOp]
theorem Yd_or (hx : ev E x = some (.int k a)) (hy : ev E y = some (.int k b)) (hr : bitsOp .or k a b = r) : Yd P S E (.binOp .or t x y t2) ty (.int k r) :=
  fun N a ha o ho ht W hW => by subst hr; simp [execOp, ho, ha.ev hx, ha.ev hy, eqGuard, binOp, Op.intBits, bitsOp]
theorem Yd_xor (hx : ev E x = some (.int k a)) (hy : ev E y = some (.int k b)) (hr : bitsOp .xor k a b = r) : Yd P S E (.binOp .xor t x y t2) ty (.int k r) :=
  fun N a ha o ho ht W hW => by subst hr; simp [execOp, ho, ha.ev hx, ha.ev hy, eqGuard, binOp, Op.intBits, bitsOp]
theorem Yd_shl {k' : IntKind} (hx : ev E x = some (.int k a)) (hy : ev E y = some (.int k' b)) (hb : 0 ≤ b) (hr : k.wrap (a * 2 ^ (min b.toNat k.bits)) = r) : Yd P S E (.binOp .shl t x y t2) ty (.int k r) :=
  fun N a ha o ho ht W hW => by subst hr; simp [execOp, ho, ha.ev hx, ha.ev hy, eqGuard, binOp, Op.shift, Int.not_lt.2 hb]
theorem Yd_shr {k' : IntKind} (hx : ev E x = some (.int k a)) (hy : ev E y = some (.int k' b)) (hb : 0 ≤ b) (hr : a.fdiv (2 ^ (min b.toNat k.bits)) = r) : Yd P S E (.binOp .shr t x y t2) ty (.int k r) :=
  fun N a ha o ho ht W hW => by subst hr; simp [execOp, ho, ha.ev hx, ha.ev hy, eqGuard, binOp, Op.shift, Int.not_lt.2 hb]
theorem Yd_lss (hx : ev E x = some (.int k a)) (hy : ev E y = some (.int k b)) : Yd P S E (.binOp .lss t x y t2) ty (.bool (decide (a < b))) :=
  fun N a ha o ho ht W hW => by simp [execOp, ho, ha.ev hx, ha.ev hy, eqGuard, binOp, Op.intCmp]
theorem Yd_leq (hx : ev E x = some (.int k a)) (hy : ev E y = some (.int k b)) : Yd P S E (.binOp .leq t x y t2) ty (.bool (decide (a ≤ b))) :=
  fun N a ha o ho ht W hW => by simp [execOp, ho, ha.ev hx, ha.ev hy, eqGuard, binOp, Op.intCmp]
theorem Yd_gtr (hx : ev E x = some (.int k a)) (hy : ev E y = some (.int k b)) : Yd P S E (.binOp .gtr t x y t2) ty (.bool (decide (b < a))) :=
  fun N a ha o ho ht W hW => by simp [execOp, ho, ha.ev hx, ha.ev hy, eqGuard, binOp, Op.intCmp]
theorem Yd_geq (hx : ev E x = some (.int k a)) (hy : ev E y = some (.int k b)) : Yd P S E (.binOp .geq t x y t2) ty (.bool (decide (b ≤ a))) :=
  fun N a ha o ho ht W hW => by simp [execOp, ho, ha.ev hx, ha.ev hy, eqGuard, binOp, Op.intCmp]
theorem Yd_eql (hx : ev E x = some (.int k a)) (hy : ev E y = some (.int k b)) : Yd P S E (.binOp .eql t x y t2) ty (.bool (decide (a = b))) :=
  fun N a ha o ho ht W hW => by simp [execOp, ho, ha.ev hx, ha.ev hy, eqGuard, binOp, Op.intCmp]; rfl
theorem Yd_neq (hx : ev E x = some (.int k a)) (hy : ev E y = some (.int k b)) : Yd P S E (.binOp .neq t x y t2) ty (.bool (!decide (a = b))) :=
  fun N a ha o ho ht W hW => by simp [execOp, ho, ha.ev hx, ha.ev hy, eqGuard, binOp, Op.intCmp, bne]; rfl
theorem Yd_eqlS {p q : ByteArray} (hx : ev E x = some (.string p)) (hy : ev E y = some (.string q)) : Yd P S E (.binOp .eql t x y t2) ty (.bool (p.toList == q.toList)) :=
  fun N a ha o ho ht W hW => by simp [execOp, ho, ha.ev hx, ha.ev hy, eqGuard, binOp, Op.stringOp]
theorem Yd_neqS {p q : ByteArray} (hx : ev E x = some (.string p)) (hy : ev E y = some (.string q)) : Yd P S E (.binOp .neq t x y t2) ty (.bool (!(p.toList == q.toList))) :=
  fun N a ha o ho ht W hW => by simp [execOp, ho, ha.ev hx, ha.ev hy, eqGuard, binOp, Op.stringOp]
theorem Yd_cat {p q : ByteArray} (hx : ev E x = some (.string p)) (hy : ev E y = some (.string q)) (hl : p.size + q.size ≤ 9223372036854775807) : Yd P S E (.binOp .add t x y t2) ty (.string (p ++ q)) :=
  fun N a ha o ho ht W hW => by
    have h : ¬ (((p.size + q.size : Nat) : Int) > IntKind.i64.max) := by simp [IntKind.max, IntKind.bits, IntKind.signed]; omega
    have hb : binOp .add t (.string p) (.string q) = pure (.string (p ++ q)) := by
      simp only [binOp, Op.stringOp, if_neg h]
    simp [execOp, ho, ha.ev hx, ha.ev hy, eqGuard, hb]
theorem run_equalIn_bool {d : Nat} {p q : Bool} (hT : P.underlying t = some .bool) (W : World) : (Op.equalIn (d + 1) t (.bool p) (.bool q)).run P W = .ok (p == q) W := by
  simp [Op.equalIn, run_underlying hT]
theorem run_eql_bool {p q : Bool} (hT : P.underlying t = some .bool) (W : World) : (binOp .eql t (.bool p) (.bool q)).run P W = .ok (.bool (p == q)) W := by
  simp only [binOp]
  simp [Op.equal, Op.maxDepth, run_equalIn_bool (d := 9999) hT W]
theorem run_neq_bool {p q : Bool} (hT : P.underlying t = some .bool) (W : World) : (binOp .neq t (.bool p) (.bool q)).run P W = .ok (.bool (!(p == q))) W := by
  simp only [binOp]
  simp [Op.equal, Op.maxDepth, run_equalIn_bool (d := 9999) hT W]
theorem Yd_eqlB {p q : Bool} (hT : P.underlying t = some .bool) (hx : ev E x = some (.bool p)) (hy : ev E y = some (.bool q)) : Yd P S E (.binOp .eql t x y t2) ty (.bool (p == q)) :=
  fun N a ha o ho ht W hW => by simp [execOp, ho, ha.ev hx, ha.ev hy, eqGuard, run_eql_bool hT]
theorem Yd_neqB {p q : Bool} (hT : P.underlying t = some .bool) (hx : ev E x = some (.bool p)) (hy : ev E y = some (.bool q)) : Yd P S E (.binOp .neq t x y t2) ty (.bool (!(p == q))) :=
  fun N a ha o ho ht W hW => by simp [execOp, ho, ha.ev hx, ha.ev hy, eqGuard, run_neq_bool hT]
theorem Yd_not {p : Bool} (hx : ev E x = some (.bool p)) : Yd P S E (.unOp .not t x) ty (.bool (!p)) := fun N a ha o ho ht W hW => by simp [execOp, ho, ha.ev hx, Op.unary]
theorem Yd_neg (hx : ev E x = some (.int k a)) (hr : k.wrap (-a) = r) : Yd P S E (.unOp .neg t x) ty (.int k r) := fun N a ha o ho ht W hW => by subst hr; simp [execOp, ho, ha.ev hx, Op.unary, Op.intArith]
theorem Yd_com (hx : ev E x = some (.int k a)) (hr : bitsOp .xor k (if k.signed then -1 else k.max) a = r) : Yd P S E (.unOp .xor t x) ty (.int k r) := fun N a ha o ho ht W hW => by subst hr; simp [execOp, ho, ha.ev hx, Op.unary, Op.intBits, bitsOp]
theorem Yd_conv {k' : IntKind} (hS : ∃ d, P.underlying t = some d) (hT : P.underlying t2 = some (.int k')) (hx : ev E x = some (.int k a)) (hr : k'.wrap a = r) : Yd P S E (.convert t t2 x) ty (.int k' r) :=
  fun N a ha o ho ht W hW => by obtain ⟨d, hd⟩ := hS; subst hr; simp [execOp, ho, ha.ev hx, convert, run_underlying hT, run_underlying hd, Conv.intToInt]
theorem Yd_extract {vs : Array Value} {i : Nat} (hx : ev E x = some (.tuple vs)) (hv : vs[i]? = some v) : Yd P S E (.extract x i) ty v :=
  fun N a ha o ho ht W hW => by simp [execOp, ho, ha.ev hx, Instr.extract, hv]
theorem Yd_len {A : Option Addr} {n c : Nat} {e : TypeId} (hT : P.underlying t = some (.slice e)) (hx : ev E x = some (.slice A n c)) :
    Yd P S E (.call { callee := .builtin .len, args := #[x], argTypes := #[t] }) ty (.int .i64 n) :=
  fun N a ha o ho ht W hW => by simp [execOp, ho, ha.ev hx, resolve, invoke, builtin, Builtin.len_, run_underlying hT, goInt]
theorem Yd_lenS {s : ByteArray} (hT : P.underlying t = some .string) (hx : ev E x = some (.string s)) :
    Yd P S E (.call { callee := .builtin .len, args := #[x], argTypes := #[t] }) ty (.int .i64 s.size) :=
  fun N a ha o ho ht W hW => by simp [execOp, ho, ha.ev hx, resolve, invoke, builtin, Builtin.len_, run_underlying hT, goInt]
theorem Yd_lenA {n : Nat} {e : TypeId} (hT : P.underlying t = some (.array n e)) (hx : ev E x = some v) :
    Yd P S E (.call { callee := .builtin .len, args := #[x], argTypes := #[t] }) ty (.int .i64 n) :=
  fun N a ha o ho ht W hW => by simp [execOp, ho, ha.ev hx, resolve, invoke, builtin, Builtin.len_, run_underlying hT, goInt]
theorem Yd_min (hx : ev E x = some (.int k a)) (hy : ev E y = some (.int k b)) :
    Yd P S E (.call { callee := .builtin .min, args := #[x, y], argTypes := #[t, t2] }) ty (.int k (if b < a then b else a)) :=
  fun N a ha o ho ht W hW => by simp [execOp, ho, ha.ev hx, ha.ev hy, resolve, invoke, builtin, Builtin.min_, Builtin.min2]
theorem Yd_minw (hx : ev E x = some (.int k a)) (hy : ev E y = some (.int k b)) (hr : (if b < a then b else a) = r) :
    Yd P S E (.call { callee := .builtin .min, args := #[x, y], argTypes := #[t, t2] }) ty (.int k r) := hr ▸ Yd_min hx hy
theorem Yd_max (hx : ev E x = some (.int k a)) (hy : ev E y = some (.int k b)) :
    Yd P S E (.call { callee := .builtin .max, args := #[x, y], argTypes := #[t, t2] }) ty (.int k (if a < b then b else a)) :=
  fun N a ha o ho ht W hW => by simp [execOp, ho, ha.ev hx, ha.ev hy, resolve, invoke, builtin, Builtin.max_, Builtin.max2]
theorem Yd_maxw (hx : ev E x = some (.int k a)) (hy : ev E y = some (.int k b)) (hr : (if a < b then b else a) = r) :
    Yd P S E (.call { callee := .builtin .max, args := #[x, y], argTypes := #[t, t2] }) ty (.int k r) := hr ▸ Yd_max hx hy
end
/-! ### 9. Slices that read as a list -/
theorem add_block (a : Addr) (n : Nat) : (a.add n).block = a.block := by unfold Addr.add; split <;> rfl
theorem add_add (a : Addr) (i j : Nat) : (a.add i).add j = a.add (i + j) := by
  unfold Addr.add
  by_cases hi : i = 0 <;> by_cases hj : j = 0 <;> simp [hi, hj, Nat.add_assoc]
theorem add_zero' (a : Addr) : a.add 0 = a := by simp [Addr.add]
theorem add_lit (g o j : Nat) : (⟨g, o, none⟩ : Addr).add j = ⟨g, o + j, none⟩ := by unfold Addr.add; split <;> simp_all
def ints (k : IntKind) (xs : List Int) : List Value := xs.map (.int k)
@[simp] theorem ints_length (k : IntKind) (xs : List Int) : (ints k xs).length = xs.length := by simp [ints]
theorem ints_append (k : IntKind) (xs ys : List Int) : ints k (xs ++ ys) = ints k xs ++ ints k ys := by simp [ints]
theorem ints_take (k : IntKind) (xs : List Int) (n : Nat) : (ints k xs).take n = ints k (xs.take n) := by simp [ints, List.map_take]
theorem ints_drop (k : IntKind) (xs : List Int) (n : Nat) : (ints k xs).drop n = ints k (xs.drop n) := by simp [ints, List.map_drop]
theorem ints_get (k : IntKind) (xs : List Int) (i : Nat) (h : i < xs.length) : (ints k xs)[i]? = some (.int k xs[i]) := by simp [ints, List.getElem?_eq_getElem h]
theorem ints_one (k : IntKind) (xs : List Int) : ∀ u ∈ ints k xs, u.oneCell' = true := by
  intro u hu
  simp only [ints, List.mem_map] at hu
  obtain ⟨x, _, rfl⟩ := hu
  rfl
/-- The slice '.slice A n c' holds, in w, the cells xs ('sz' cells an element), all below block B. -/
structure Rd (w : World) (B sz : Nat) (A : Option Addr) (n : Nat) (xs : List Value) : Prop where
  len : xs.length = n * sz
  cells : 0 < n → ∃ ad, A = some ad ∧ ad.block < B ∧ ∀ j u, xs[j]? = some u → w.cell? (ad.add j) = some u
section
variable {w w' : World} {B B' sz n : Nat} {A : Option Addr} {xs : List Value}
theorem Rd.none (w : World) (B sz : Nat) : Rd w B sz Option.none 0 [] := ⟨by simp, fun h => absurd h (by omega)⟩
theorem Rd.nil (w : World) (B sz : Nat) (A : Option Addr) : Rd w B sz A 0 [] := ⟨by simp, fun h => absurd h (by omega)⟩
theorem Rd.keep (h : Rd w B sz A n xs) (hk : ∀ p : Addr, p.block < B → w'.cell? p = w.cell? p) : Rd w' B sz A n xs :=
  ⟨h.len, fun hn => by
    obtain ⟨ad, e, hb, hc⟩ := h.cells hn
    exact ⟨ad, e, hb, fun j u hu => (hk _ (by rw [add_block]; exact hb)).trans (hc j u hu)⟩⟩
theorem Rd.more (h : Rd w B sz A n xs) (hB : B ≤ B') : Rd w B' sz A n xs :=
  ⟨h.len, fun hn => by
    obtain ⟨ad, e, hb, hc⟩ := h.cells hn
    exact ⟨ad, e, by omega, hc⟩⟩
theorem Rd.below (h : Rd w B sz A n xs) (hb : Below B w w') : Rd w' B sz A n xs := h.keep fun _ hp => hb.cell hp
theorem Rd.ext (h : Rd w B sz A n xs) (hb : Ext w w') : Rd w' B sz A n xs :=
  ⟨h.len, fun hn => by
    obtain ⟨ad, e, hb', hc⟩ := h.cells hn
    exact ⟨ad, e, hb', fun j u hu => (hb.cell (World.block_lt_of_cell? w _ (hc j u hu))).trans (hc j u hu)⟩⟩
/-- s[k:m] -/
theorem Rd.cut (h : Rd w B sz A n xs) {k m cap : Nat} (hk : k ≤ m) (hm : m ≤ n) (hc : m ≤ cap) :
    Rd w B sz (if cap = k then A else A.map (·.add (k * sz))) (m - k) ((xs.drop (k * sz)).take ((m - k) * sz)) := by
  refine ⟨?_, fun hn => ?_⟩
  · rw [List.length_take, List.length_drop, h.len, ← Nat.sub_mul]
    exact Nat.min_eq_left (Nat.mul_le_mul_right _ (by omega))
  · obtain ⟨ad, rfl, hb, hcell⟩ := h.cells (by omega)
    rw [if_neg (by omega)]
    refine ⟨ad.add (k * sz), rfl, by rw [add_block]; exact hb, fun j u hu => ?_⟩
    rw [add_add]
    refine hcell _ u ?_
    rw [List.getElem?_take] at hu
    split at hu
    · rw [← hu, List.getElem?_drop]
    · cases hu
theorem Rd.at_ (h : Rd w B 1 A n xs) {k : Nat} (hk : k < n) : ∃ ad, A = some ad ∧ ad.block < B ∧ ∃ u, xs[k]? = some u ∧ w.cell? (ad.add k) = some u := by
  obtain ⟨ad, e, hb, hc⟩ := h.cells (by omega)
  have hl : k < xs.length := by have := h.len; omega
  exact ⟨ad, e, hb, xs[k], List.getElem?_eq_getElem hl, hc k _ (List.getElem?_eq_getElem hl)⟩
theorem Rd.of_own {base c : Nat} {e : TypeId} (h : w.ownsRow base e sz (.slice A n c) n xs) : Rd w w.heap.size sz A n xs := by
  refine ⟨h.1, fun hn => ?_⟩
  obtain ⟨g, cap, hv, _, hlt⟩ := h.form hn
  have hA : A = some ⟨g, 0, Option.none⟩ := by injection hv
  subst hA
  exact ⟨_, rfl, hlt, h.cells (g := g) rfl⟩
theorem own_slice {v : Value} {base : Nat} {e : TypeId} (h : w.ownsRow base e sz v n xs) : ∃ A c, v = .slice A n c ∧ n ≤ c ∧ c ≤ maxLen := by
  rcases h.2 with ⟨rfl, rfl⟩ | ⟨g, cap, cur, rfl, _, _, h1, h2, _⟩
  · exact ⟨Option.none, 0, rfl, Nat.le_refl _, Nat.zero_le _⟩
  · exact ⟨_, cap, rfl, h1, h2⟩
theorem own_ext {v : Value} {base : Nat} {e : TypeId} (h : w.ownsRow base e sz v n xs) (hb : Ext w w') : w'.ownsRow base e sz v n xs :=
  h.kept (row := Option.none) ⟨hb.os, hb.tape, hb.output, hb.size, fun k hk _ => hb.block k hk⟩ (by cases v.ownBlock <;> simp)
theorem own_lt {v : Value} {base : Nat} {e : TypeId} (h : w.ownsRow base e sz v n xs) : ∀ k, v.ownBlock = some k → base ≤ k ∧ k < w.heap.size := h.lt
theorem own_base {v : Value} {base base' : Nat} {e : TypeId} (h : w.ownsRow base e sz v n xs) (hb : base' ≤ base) : w.ownsRow base' e sz v n xs := by
  refine ⟨h.1, ?_⟩
  rcases h.2 with h2 | ⟨g, cap, cur, e, hg, r⟩
  · exact .inl h2
  · exact .inr ⟨g, cap, cur, e, by omega, r⟩
end
/-- a block that is known whole -/
def Blk (w : World) (g : Nat) (t : TypeId) (cs : List Value) : Prop := w.heap[g]? = some (.cells cs.toArray t (0, 0))
section
variable {w w' : World} {g : Nat} {t : TypeId} {cs : List Value}
theorem Blk.lt (h : Blk w g t cs) : g < w.heap.size := (Array.getElem?_eq_some_iff.1 h).1
theorem Blk.cell (h : Blk w g t cs) (i : Nat) : w.cell? ⟨g, i, none⟩ = cs[i]? := by rw [cell_of_row w g i _ t (0, 0) h]; simp
theorem Blk.frozen (h : Blk w g t cs) (i : Nat) : w.frozen? ⟨g, i, none⟩ = false := by
  unfold Blk at h
  simp [World.frozen?, h]
theorem Blk.new (w : World) (t : TypeId) (cs : List Value) : Blk (w.alloc (.cells cs.toArray t)) w.heap.size t cs := heap_alloc_new w _
theorem Blk.ext (h : Blk w g t cs) (hb : Ext w w') : Blk w' g t cs := (hb.block g h.lt).trans h
theorem Blk.below {B : Nat} (h : Blk w g t cs) (hb : Below B w w') (hg : g < B) : Blk w' g t cs := (hb.block g hg).trans h
theorem Blk.grown {row : Option Nat} (h : Blk w g t cs) (hb : w.grownBy w' row) (hg : some g ≠ row) : Blk w' g t cs := (hb.block g h.lt hg).trans h
theorem Blk.set (h : Blk w g t cs) (i : Nat) (u : Value) : Blk (w.setCell ⟨g, i, none⟩ u) g t (cs.set i u) := by
  unfold Blk at h ⊢
  simp [World.setCell, Array.getElem?_modify, h]
theorem Blk.rd (h : Blk w g t cs) {sz n : Nat} (hn : cs.length = n * sz) : Rd w w.heap.size sz (some ⟨g, 0, none⟩) n cs :=
  ⟨hn, fun _ => ⟨_, rfl, h.lt, fun j u hu => by rw [add_lit, Nat.zero_add, h.cell]; exact hu⟩⟩
end
/-- all but block g is as it was -/
abbrev But (g : Nat) (w w' : World) : Prop := w.grownBy w' (some g)
theorem But.of_set (w : World) (g i : Nat) (u : Value) : But g w (w.setCell ⟨g, i, none⟩ u) :=
  ⟨rfl, rfl, rfl, by simp [World.setCell], fun k _ hne => Below.heap_setCell _ _ _ _ (fun e => hne (by rw [e]))⟩
theorem But.of_ext {g : Nat} {w w' : World} (h : Ext w w') : But g w w' := ⟨h.os, h.tape, h.output, h.size, fun k hk _ => h.block k hk⟩
theorem But.trans {g : Nat} {a b c : World} (h : But g a b) (k : But g b c) : But g a c := World.grownBy.trans h k
theorem But.below {g B : Nat} {w w' : World} (h : But g w w') (hB : B ≤ w.heap.size) (hg : B ≤ g) : Below B w w' :=
  (Below.refl B w).grown h hB (fun k hk => by cases hk; exact hg)
theorem Rd.but {w w' : World} {B sz n g : Nat} {A : Option Addr} {xs : List Value} (h : Rd w B sz A n xs) (hb : But g w w') (hg : ∀ ad, A = some ad → ad.block ≠ g) : Rd w' B sz A n xs :=
  ⟨h.len, fun hn => by
    obtain ⟨ad, e, hb', hc⟩ := h.cells hn
    refine ⟨ad, e, hb', fun j u hu => hb.cell (hc j u hu) ?_⟩
    rw [add_block]
    exact fun h => hg ad e (by injection h)⟩

/-! ### 10. Operations that read memory -/
section
variable {P : Program} {w : World} {E : Env} {ty t t2 : TypeId} {x y z : Operand} {v u : Value} {N : Nat} {Q : Exit → Act → World → Prop}
def isFlat : TypeDesc → Bool
  | .struct _ | .array _ _ => false
  | _ => true
theorem run_isAgg {d : TypeDesc} (hT : P.underlying t = some d) (W : World) : (isAgg t).run P W = .ok (!isFlat d) W := by
  cases d <;> simp [isAgg, run_underlying hT, isFlat]
theorem Yd_load {S : World → Prop} {d : TypeDesc} {p : Addr} (hT : P.underlying t = some d) (hd : isFlat d = true) (hx : ev E x = some (.pointer (some p))) (hc : ∀ W, S W → W.cell? p = some v) : Yd P S E (.load t x) ty v :=
  fun N a ha o ho ht W hW => by
    have h1 := hc W hW
    simp [execOp, ho, ha.ev hx, Instr.loadAt, Instr.sureAddr, loadVar, run_isAgg hT, hd, h1]
theorem Yd_loadA {S : World → Prop} {d : TypeDesc} {p : Addr} {cs : List Value} (hT : P.underlying t = some d) (hd : isFlat d = false) (hn : (P.info? t).map (·.size) = some cs.length) (hx : ev E x = some (.pointer (some p)))
    (hc : ∀ W, S W → ∀ j u, cs[j]? = some u → W.cell? (p.add j) = some u) : Yd P S E (.load t x) ty (.agg cs.toArray) :=
  fun N a ha o ho ht W hW => by
    obtain ⟨i, hi, he⟩ := Option.map_eq_some_iff.1 hn
    have h1 : (sizeOf t).run P W = .ok cs.length W := by simp [sizeOf, typeInfo, hi, he]
    simp [execOp, ho, ha.ev hx, Instr.loadAt, Instr.sureAddr, loadVar, run_isAgg hT, hd, h1, run_loadCells_list W p cs (hc W hW)]
theorem Yd_fld {S : World → Prop} {fs : Array Field} {i g o' off : Nat} (hT : P.underlying t = some (.struct fs)) (hf : fs[i]?.map (fun f => (f.offset, (P.info? f.type).map (fun i => decide (i.size = 0)))) = some (off, some false)) (hx : ev E x = some (.pointer (some ⟨g, o', none⟩))) :
    Yd P S E (.fieldAddr t x i) ty (.pointer (some ⟨g, o' + off, none⟩)) :=
  fun N a ha o ho ht W hW => by
    obtain ⟨f, hf1, hf2⟩ := Option.map_eq_some_iff.1 hf
    simp only [Prod.mk.injEq] at hf2
    obtain ⟨he, hs⟩ := hf2
    obtain ⟨fi, hfi, hz⟩ := Option.map_eq_some_iff.1 hs
    have hz' : ¬ fi.size = 0 := by simpa using hz
    simp [execOp, ho, ha.ev hx, Instr.fieldAt, run_underlying hT, hf1, Instr.sureAddr, fieldPlace, sizeOf, typeInfo, hfi, hz', add_lit, he]
theorem Yd_idx {S : World → Prop} {e : TypeId} {sz n c : Nat} {k : IntKind} {i : Int} {ad : Addr} (hT : P.underlying t = some (.slice e)) (hs : (P.info? e).map (·.size) = some sz) (hx : ev E x = some (.slice (some ad) n c)) (hy : ev E y = some (.int k i))
    (h0 : 0 ≤ i) (h1 : i < n) : Yd P S E (.indexAddr t x y) ty (.pointer (some (ad.add (i.toNat * sz)))) :=
  fun N a ha o ho ht W hW => by
    obtain ⟨ei, hei, he⟩ := Option.map_eq_some_iff.1 hs
    simp [execOp, ho, ha.ev hx, ha.ev hy, Instr.indexAt, run_underlying hT, asIntOf, h0, h1, sizeOf, typeInfo, hei, he]
theorem Yd_idxA {S : World → Prop} {e : TypeId} {sz n : Nat} {k : IntKind} {i : Int} {ad : Addr} (hT : P.underlying t = some (.array n e)) (hs : (P.info? e).map (·.size) = some sz) (hx : ev E x = some (.pointer (some ad))) (hy : ev E y = some (.int k i))
    (h0 : 0 ≤ i) (h1 : i < n) : Yd P S E (.indexAddr t x y) ty (.pointer (some (ad.add (i.toNat * sz)))) :=
  fun N a ha o ho ht W hW => by
    obtain ⟨ei, hei, he⟩ := Option.map_eq_some_iff.1 hs
    simp [execOp, ho, ha.ev hx, ha.ev hy, Instr.indexAt, run_underlying hT, asIntOf, Instr.sureAddr, h0, h1, sizeOf, typeInfo, hei, he]
theorem run_sliceB (k : IntKind) (i : Int) (yb : Nat) (code : BoundsCode) (h0 : 0 ≤ i) (h1 : i ≤ yb) (W : World) : (Instr.sliceBound (.int k i) yb code).run P W = .ok i.toNat W := by
  simp [Instr.sliceBound, asIntOf, h0, h1]
theorem run_sliceAt_S {e : TypeId} (hT : P.underlying t = some (.slice e)) (v : Value) (lo hi mx : Option Value) (W : World) : (Instr.sliceAt t v lo hi mx).run P W = (Instr.slice t v lo hi mx).run P W := by
  simp [Instr.sliceAt, run_underlying hT]
/-- x[:hi] -/
theorem Yd_sliceH {S : World → Prop} {e : TypeId} {sz n c : Nat} {k : IntKind} {h : Int} {A : Option Addr} (hT : P.underlying t = some (.slice e)) (hs : (P.info? e).map (·.size) = some sz) (hx : ev E x = some (.slice A n c)) (hy : ev E y = some (.int k h))
    (h0 : 0 ≤ h) (h1 : h ≤ c) : Yd P S E (.slice t x none (some y) none) ty (.slice A h.toNat c) :=
  fun N a ha o ho ht W hW => by
    obtain ⟨ei, hei, he⟩ := Option.map_eq_some_iff.1 hs
    simp only [execOp, ho, ha.ev hx, ha.ev hy, Option.map_some, Option.map_none]
    simp [run_sliceAt_S hT, Instr.slice, run_underlying hT, Instr.sliceBounds, run_sliceB k h c _ h0 h1, sizeOf, typeInfo, hei, add_zero']
/-- x[lo:] -/
theorem Yd_sliceL {S : World → Prop} {e : TypeId} {sz n c : Nat} {k : IntKind} {l : Int} {A : Option Addr} (hT : P.underlying t = some (.slice e)) (hs : (P.info? e).map (·.size) = some sz) (hx : ev E x = some (.slice A n c)) (hy : ev E y = some (.int k l))
    (h0 : 0 ≤ l) (h1 : l ≤ n) : Yd P S E (.slice t x (some y) none none) ty (.slice (if c = l.toNat then A else A.map (·.add (l.toNat * sz))) (n - l.toNat) (c - l.toNat)) :=
  fun N a ha o ho ht W hW => by
    obtain ⟨ei, hei, he⟩ := Option.map_eq_some_iff.1 hs
    simp only [execOp, ho, ha.ev hx, ha.ev hy, Option.map_some, Option.map_none]
    simp [run_sliceAt_S hT, Instr.slice, run_underlying hT, Instr.sliceBounds, run_sliceB k l n _ h0 h1, sizeOf, typeInfo, hei, he]
/-- x[lo:hi] -/
theorem Yd_sliceLH {S : World → Prop} {e : TypeId} {sz n c : Nat} {k k' : IntKind} {l h : Int} {A : Option Addr} (hT : P.underlying t = some (.slice e)) (hs : (P.info? e).map (·.size) = some sz) (hx : ev E x = some (.slice A n c)) (hy : ev E y = some (.int k l)) (hz : ev E z = some (.int k' h))
    (h0 : 0 ≤ l) (h1 : l ≤ h) (h2 : h ≤ c) : Yd P S E (.slice t x (some y) (some z) none) ty (.slice (if c = l.toNat then A else A.map (·.add (l.toNat * sz))) (h.toNat - l.toNat) (c - l.toNat)) :=
  fun N a ha o ho ht W hW => by
    obtain ⟨ei, hei, he⟩ := Option.map_eq_some_iff.1 hs
    simp only [execOp, ho, ha.ev hx, ha.ev hy, ha.ev hz, Option.map_some, Option.map_none]
    simp [run_sliceAt_S hT, Instr.slice, run_underlying hT, Instr.sliceBounds, run_sliceB k' h c _ (by omega) h2, run_sliceB k l h.toNat _ h0 (by omega), sizeOf, typeInfo, hei, he]
/-- x[:hi:max] -/
theorem Yd_slice3 {S : World → Prop} {e : TypeId} {sz n c : Nat} {k k' : IntKind} {m h : Int} {A : Option Addr} (hT : P.underlying t = some (.slice e)) (hs : (P.info? e).map (·.size) = some sz) (hx : ev E x = some (.slice A n c)) (hy : ev E y = some (.int k h)) (hz : ev E z = some (.int k' m))
    (h0 : 0 ≤ h) (h1 : h ≤ m) (h2 : m ≤ c) : Yd P S E (.slice t x none (some y) (some z)) ty (.slice A h.toNat m.toNat) :=
  fun N a ha o ho ht W hW => by
    obtain ⟨ei, hei, he⟩ := Option.map_eq_some_iff.1 hs
    simp only [execOp, ho, ha.ev hx, ha.ev hy, ha.ev hz, Option.map_some, Option.map_none]
    simp [run_sliceAt_S hT, Instr.slice, run_underlying hT, Instr.sliceBounds, run_sliceB k' m c _ (by omega) h2, run_sliceB k h m.toNat _ h0 (by omega), sizeOf, typeInfo, hei, add_zero']
theorem run_str {e : TypeId} {B n c : Nat} {A : Option Addr} {bs : List Int} (hs : P.underlying t = some (.slice e)) (he : P.underlying e = some (.int .u8)) (hd : P.underlying t2 = some .string) {W : World} (hr : Rd W B 1 A n (ints .u8 bs)) :
    (convert t t2 (.slice A n c)).run P W = .ok (.string (strOfNums bs)) W := by
  have hl : bs.length = n := by simpa using hr.len
  rcases Nat.eq_zero_or_pos n with h0 | h0
  · subst h0
    obtain rfl : bs = [] := List.eq_nil_of_length_eq_zero hl
    cases A with
    | none => exact run_convert_bytes_nil W t e hs he 0 c t2 hd
    | some ad =>
      rw [run_convert_bytes_string W t t2 e _ 0 c hs he hd, run_bytesToString W ad 0 c [] (by simpa using run_loadCells_list (P := P) W ad [] (by simp))]
      rfl
  · obtain ⟨ad, rfl, _, hc⟩ := hr.cells h0
    have := run_loadCells_list (P := P) W ad (ints .u8 bs) (fun j v hj => hc j v hj)
    rw [ints_length, hl] at this
    rw [run_convert_bytes_string W t t2 e _ n c hs he hd, run_bytesToString W ad n c bs (by simpa [ints] using this), foldl_push_bytes]
    simp [strOfNums, ByteArray.empty, ByteArray.emptyWithCapacity]
    rfl
theorem Yd_str {e : TypeId} {B n c : Nat} {A : Option Addr} {bs : List Int} (hs : P.underlying t = some (.slice e)) (he : P.underlying e = some (.int .u8)) (hd : P.underlying t2 = some .string) (hx : ev E x = some (.slice A n c))
    {S : World → Prop} (hr : ∀ W, S W → Rd W B 1 A n (ints .u8 bs)) : Yd P S E (.convert t t2 x) ty (.string (strOfNums bs)) :=
  fun N a ha o ho ht W hW => by simp [execOp, ho, ha.ev hx, run_str hs he hd (hr W hW)]
end
/-! ### 11. Operations that make or write memory; calls -/
section
variable {P : Program} {w : World} {E : Env} {ty t t2 : TypeId} {x y z : Operand} {v u : Value} {Q : Exit → Act → World → Prop} {K : Value → World → Prop}
theorem Ld.of_run {op : Op} (v : Value) (w' : World) (h : ∀ N a, Sim N a E → ∀ o : Oper, o.op = op → o.type = ty → (execOp a.eval o).run P w = .ok (.value v) w') (hK : K v w') : Ld P E op ty w Q K :=
  fun N a ha o ho ht => by
    unfold Oper.wp
    rw [h N a ha o ho ht]
    exact ⟨v, rfl, hK⟩
theorem Ld.of_skip {op : Op} (w' : World) (h : ∀ N a, Sim N a E → ∀ o : Oper, o.op = op → o.type = ty → (execOp a.eval o).run P w = .ok .skip w') (hK : K undef w') : Ld P E op ty w Q K :=
  fun N a ha o ho ht => by
    unfold Oper.wp
    rw [h N a ha o ho ht]
    exact ⟨undef, rfl, hK⟩
theorem Ld.mono {op : Op} {K' : Value → World → Prop} (h : Ld P E op ty w Q K) (hk : ∀ v w', K v w' → K' v w') : Ld P E op ty w Q K' :=
  fun N a ha o ho ht => Oper.wp_mono (fun _ w' ⟨v, e, hv⟩ => ⟨v, e, hk v w' hv⟩) (h N a ha o ho ht)
theorem run_newRow (e : TypeId) (cells : Array Value) (W : World) : (newRow e cells).run P W = .ok ⟨W.heap.size, 0, none⟩ (W.alloc (.cells cells e)) := by
  rfl
/-- the cells of a value -/
def cellsL (v : Value) : List Value := v.cells.toList
theorem Ld_box (hx : ev E x = some v) (hK : ∀ w', Ext w w' → w'.heap.size = w.heap.size + 1 → Blk w' w.heap.size t (cellsL v) → K (.pointer (some ⟨w.heap.size, 0, none⟩)) w') : Ld P E (.box t x) ty w Q K :=
  Ld.of_run (.pointer (some ⟨w.heap.size, 0, none⟩)) (w.alloc (.cells v.cells t)) (fun N a ha o ho ht => by simp [execOp, ho, ha.ev hx, Instr.box, newVar, run_newRow])
    (hK _ (Ext.alloc w _) (by simp) (by have := Blk.new w t (cellsL v); simpa [cellsL] using this))
theorem Ld_alloc (hz : (P.info? t).bind (·.zero) = some v) (hK : ∀ w', Ext w w' → w'.heap.size = w.heap.size + 1 → Blk w' w.heap.size t (cellsL v) → K (.pointer (some ⟨w.heap.size, 0, none⟩)) w') : Ld P E (.alloc t) ty w Q K :=
  Ld.of_run (.pointer (some ⟨w.heap.size, 0, none⟩)) (w.alloc (.cells v.cells t)) (fun N a ha o ho ht => by
      obtain ⟨i, hi, hv⟩ := Option.bind_eq_some_iff.1 hz
      simp [execOp, ho, Instr.alloc, zeroValue, typeInfo, hi, hv, newVar, run_newRow])
    (hK _ (Ext.alloc w _) (by simp) (by have := Blk.new w t (cellsL v); simpa [cellsL] using this))
/-- the cells of '[]T{..}' -/
def litCells (P : Program) (t : TypeId) (len : Nat) (parts : List (Nat × Value)) : Option (List Value) :=
  match P.underlying t with
  | some (.slice e) => match P.info? e with
    | some i => if len * i.size > 2 ^ 24 then none else
      match i.zero with
      | some z => (Instr.fill (fun j => some (j * i.size, i.size)) ((Array.range (len * i.size)).map (z.cells[· % z.cells.size]!)) parts).map (·.toList)
      | none => none
    | none => none
  | _ => none
theorem run_buildSlice {e : TypeId} {len : Nat} {parts : List (Nat × Value)} {cs : List Value} (hT : P.underlying t = some (.slice e)) (hc : litCells P t len parts = some cs) (W : World) :
    (Instr.buildSlice t len parts.toArray).run P W = .ok (.slice (some ⟨W.heap.size, 0, none⟩) len len) (W.alloc (.cells cs.toArray e)) := by
  unfold litCells at hc
  simp only [hT] at hc
  cases hi : P.info? e with
  | none => simp [hi] at hc
  | some i =>
    simp only [hi] at hc
    split at hc
    · cases hc
    · rename_i hlim
      cases hz : i.zero with
      | none => simp [hz] at hc
      | some z =>
        simp only [hz] at hc
        obtain ⟨cells, hf, rfl⟩ := Option.map_eq_some_iff.1 hc
        by_cases h0 : len * i.size = 0
        · rw [h0] at hf
          have e0 : ∀ f : Nat → Value, (Array.range 0).map f = #[] := fun f => by simp
          rw [e0] at hf
          simp only [Instr.buildSlice, Sem.run_bind, run_underlying hT, Result.andThen_ok]
          simp [sizeOf, typeInfo, hi, h0]
          have e1 : Array.map (fun _ : Nat => (default : Value)) (Array.range 0) = #[] := by simp
          rw [e1, hf]
          simp [run_newRow]
        · simp only [Instr.buildSlice, Sem.run_bind, run_underlying hT, Result.andThen_ok]
          simp [sizeOf, typeInfo, hi, h0, hlim, zeroValue, hz, hf, run_newRow]
def evs (E : Env) : List (Nat × Operand) → Option (List (Nat × Value))
  | [] => some []
  | (i, x) :: r => match ev E x, evs E r with
    | some v, some l => some ((i, v) :: l)
    | _, _ => none
theorem evs_map {N : Nat} {a : Act} (ha : Sim N a E) : ∀ {l : List (Nat × Operand)} {vs : List (Nat × Value)}, evs E l = some vs → l.map (fun p => (p.1, a.eval p.2)) = vs
  | [], vs, h => by simp [evs] at h; subst h; rfl
  | (i, x) :: r, vs, h => by
    simp only [evs] at h
    cases hx : ev E x with
    | none => simp [hx] at h
    | some v =>
      cases hr : evs E r with
      | none => simp [hx, hr] at h
      | some l =>
        simp [hx, hr] at h
        subst h
        simp [ha.ev hx, evs_map ha hr]
theorem Ld_lit {e : TypeId} {len : Nat} {parts : List (Nat × Operand)} {vs : List (Nat × Value)} {cs : List Value} (hT : P.underlying t = some (.slice e)) (hx : evs E parts = some vs) (hc : litCells P t len vs = some cs)
    (hK : ∀ w', Ext w w' → w'.heap.size = w.heap.size + 1 → Blk w' w.heap.size e cs → K (.slice (some ⟨w.heap.size, 0, none⟩) len len) w') : Ld P E (.buildSlice t len parts.toArray) ty w Q K :=
  Ld.of_run _ _ (fun N a ha o ho ht => by
      have h1 : parts.toArray.map (fun p : Nat × Operand => (p.1, a.eval p.2)) = vs.toArray := by rw [← evs_map ha hx]; simp
      have h2 := run_buildSlice hT hc w
      rw [← h1] at h2
      simp only [execOp, ho, Sem.run_bind, h2, Result.andThen_ok]
      rfl)
    (hK _ (Ext.alloc w _) (by simp) (Blk.new w e cs))
theorem run_storeCells_blk {g : Nat} {ti : TypeId} : ∀ (vs : List Value) (i o : Nat) (cs : List Value) (W : World), Blk W g ti cs → o + i + vs.length ≤ cs.length → (∀ v ∈ vs, v.oneCell' = true) →
    ∃ W', (storeCells ⟨g, o, none⟩ vs i).run P W = .ok () W' ∧ But g W W' ∧ W'.heap.size = W.heap.size ∧ Blk W' g ti (cs.take (o + i) ++ vs ++ cs.drop (o + i + vs.length))
  | [], i, o, cs, W, h, _, _ => ⟨W, by simp [storeCells], But.of_ext (Ext.refl W), rfl, by simpa using h⟩
  | v :: vs, i, o, cs, W, h, hl, h1 => by
    simp only [List.length_cons] at hl
    have hv : v.oneCell' = true := h1 v (by simp)
    obtain ⟨W', h2, h3, h4, h5⟩ := run_storeCells_blk vs (i + 1) o (cs.set (o + i) v) (W.setCell ⟨g, o + i, none⟩ v) (h.set (o + i) v) (by simp; omega) (fun u hu => h1 u (by simp [hu]))
    have hc : W.cell? ⟨g, o + i, none⟩ = some cs[o + i] := by rw [h.cell, List.getElem?_eq_getElem (by omega)]
    refine ⟨W', ?_, (But.of_set W g (o + i) v).trans h3, by rw [h4]; simp [World.setCell], ?_⟩
    · have hs : (store ((⟨g, o, none⟩ : Addr).add i) v).run P W = .ok () (W.setCell ⟨g, o + i, none⟩ v) := by
        rw [add_lit]
        have := h.frozen (o + i)
        cases v <;> simp_all [store, Sem.run, Value.oneCell']
      rw [storeCells]
      simp only [Sem.run_bind, hs, Result.andThen_ok]
      exact h2
    · have e1 : (cs.set (o + i) v).take (o + (i + 1)) = cs.take (o + i) ++ [v] := by
        rw [← Nat.add_assoc, List.take_succ_eq_append_getElem (by simp; omega)]
        simp [List.take_set_of_le]
      have e2 : (cs.set (o + i) v).drop (o + (i + 1) + vs.length) = cs.drop (o + i + (v :: vs).length) := by
        rw [List.drop_set_of_lt (by omega)]
        congr 1
        simp; omega
      rw [e1, e2] at h5
      simpa using h5
theorem Ld_store {g o' : Nat} {ti : TypeId} {cs : List Value} (hn : (P.info? t).map (·.size) = some (cellsL v).length) (hx : ev E x = some (.pointer (some ⟨g, o', none⟩))) (hy : ev E y = some v)
    (hb : Blk w g ti cs) (hl : o' + (cellsL v).length ≤ cs.length) (h1 : ∀ u ∈ cellsL v, u.oneCell' = true)
    (hK : ∀ w', But g w w' → w'.heap.size = w.heap.size → Blk w' g ti (cs.take o' ++ cellsL v ++ cs.drop (o' + (cellsL v).length)) → K undef w') : Ld P E (.store t x y) ty w Q K := by
  obtain ⟨W', h2, h3, h4, h5⟩ := run_storeCells_blk (P := P) (g := g) (ti := ti) (cellsL v) 0 o' cs w hb (by simpa using hl) h1
  refine Ld.of_skip W' (fun N a ha o ho ht => ?_) (hK W' h3 h4 (by simpa using h5))
  obtain ⟨i, hi, he⟩ := Option.map_eq_some_iff.1 hn
  have h6 : (sizeOf t).run P w = .ok (cellsL v).length w := by simp [sizeOf, typeInfo, hi, he]
  have h7 : v.cells.size = (cellsL v).length := by simp [cellsL]
  have h8 : v.cells.toList = cellsL v := rfl
  simp [execOp, ho, ha.ev hx, ha.ev hy, Instr.storeAt, Instr.sureAddr, storeVar, h6, h7, h8, h2]

/-! A call -/
theorem Ld_call {f : FuncId} {args : List Operand} {vs : List Value} {ats : Array TypeId} {R : Ending → World → Prop} {fn : Func} (hf : P.funcs[f]? = some fn) (hb : fn.body.isSome = true) (hn : (fn.name == "runtime.NumGoroutine") = false)
    (hx : evs E (args.map (fun x => (0, x))) = some (vs.map fun v => (0, v))) (hc : Calls P f vs.toArray w R) (hR : ∀ e w', R e w' → ∃ v, e = .returned v ∧ K v w') :
    Ld P E (.call { callee := .value (.func f), args := args.toArray, argTypes := ats }) ty w Q K := fun N a ha o ho ht => by
  have h1 : args.toArray.map a.eval = vs.toArray := by
    have := evs_map ha hx
    simp only [List.map_map] at this
    have h2 : (args.map fun x => a.eval x) = vs := by
      have h3 := congrArg (List.map Prod.snd) this
      simpa [List.map_map, Function.comp_def] using h3
    rw [← h2]
    simp
  have h2 : (execOp a.eval o).run P w = .ok (.enter f vs.toArray) w := by
    have h3 : fn.name ≠ "runtime.NumGoroutine" := by simpa using hn
    simp only [execOp, ho]
    simp [resolve, Act.eval, Deferred.ofValue, h1, invoke, callFunc, hf, h3]
    intro hn0
    rw [hn0] at hb
    cases hb
  unfold Oper.wp
  rw [h2]
  show Calls P f vs.toArray w _
  refine Calls.mono hc fun e w' he => ?_
  obtain ⟨v, rfl, hv⟩ := hR e w' he
  exact ⟨v, rfl, hv⟩
end
/-! ### 12. append, make, copy -/
section
variable {P : Program} {w : World} {E : Env} {ty t t2 : TypeId} {x y z : Operand} {v u : Value} {Q : Exit → Act → World → Prop} {K : Value → World → Prop}
/-- the element type's row of the table -/
def Elt (P : Program) (e : TypeId) (zv : Value) (sz by_ : Nat) : Prop := (P.info? e).map (fun i => (i.zero, i.size, i.bytes)) = some (some zv, sz, by_)
theorem run_app {base B sz by_ n m c : Nat} {e : TypeId} {zv : Value} {xs news : List Value} {A : Option Addr} (hT : P.underlying t = some (.slice e)) (he : Elt P e zv sz by_) (hzs : zv.cells.size = sz) (hsz : 0 < sz)
    (hown : w.ownsRow base e sz v n xs) (hr : Rd w B sz A m news) (h1 : ∀ u ∈ news, u.oneCell' = true) (h63 : n + m ≤ maxLen) (hby : (n + m) * by_ ≤ 140737488355328) (hbase : base ≤ w.heap.size) (hc : A = none → c = 0) :
    ∃ A' c' w', (Builtin.append_ #[t, t] ty #[v, .slice A m c]).run P w = .ok (.slice A' (n + m) c') w' ∧ w'.ownsRow base e sz (.slice A' (n + m) c') (n + m) (xs ++ news) ∧ w.grownBy w' v.ownBlock ∧
      ((Value.slice A' (n + m) c').ownBlock = v.ownBlock ∨ (Value.slice A' (n + m) c').ownBlock = some w.heap.size) := by
  obtain ⟨i, hi, hz, hs, hb⟩ := info_parts he
  cases A with
  | none =>
    have hm : m = 0 := by
      rcases Nat.eq_zero_or_pos m with h | h
      · exact h
      · obtain ⟨_, e, _⟩ := hr.cells h; cases e
    subst hm
    have hn : news = [] := List.eq_nil_of_length_eq_zero (by simpa using hr.len)
    subst hn
    obtain ⟨A', c', rfl, _, _⟩ := own_slice hown
    have hrun := run_append_owned_none (P := P) w base t ty e i sz hT hi _ n xs hown
    rw [hc rfl]
    exact ⟨A', c', w, hrun, by simpa using hown, World.grownBy.refl _ _, .inl rfl⟩
  | some ad =>
    have hnews : ∀ j u, news[j]? = some u → w.cell? (ad.add j) = some u := by
      intro j u hu
      rcases Nat.eq_zero_or_pos m with h | h
      · subst h
        have hn : news = [] := List.eq_nil_of_length_eq_zero (by simpa using hr.len)
        subst hn
        simp at hu
      · obtain ⟨ad', e, _, hcell⟩ := hr.cells h
        injection e with e
        subst e
        exact hcell j u hu
    obtain ⟨v', w', hrun, h2, h3, _, h5⟩ := run_append_own_at (P := P) w base t ty e i zv sz by_ hT hi hz hs hb hzs hsz v n xs hown ad m c news hr.len hnews h1 h63 hby hbase
    obtain ⟨A', c', rfl, _, _⟩ := own_slice h2
    exact ⟨A', c', w', hrun, h2, h3, h5⟩
theorem Ld_app {base B sz by_ n m c r : Nat} {e : TypeId} {zv : Value} {xs news : List Value} {A : Option Addr} (hT : P.underlying t = some (.slice e)) (he : Elt P e zv sz by_) (hzs : zv.cells.size = sz) (hsz : 0 < sz)
    (hx : ev E x = some v) (hy : ev E y = some (.slice A m c))
    (hown : w.ownsRow base e sz v n xs) (hr : Rd w B sz A m news) (h1 : ∀ u ∈ news, u.oneCell' = true) (h63 : n + m ≤ maxLen) (hby : (n + m) * by_ ≤ 140737488355328) (hbase : base ≤ w.heap.size) (hc : A = none → c = 0)
    (hr' : n + m = r)
    (hK : ∀ A' c' w', w'.ownsRow base e sz (.slice A' r c') r (xs ++ news) → w.grownBy w' v.ownBlock → ((Value.slice A' r c').ownBlock = v.ownBlock ∨ (Value.slice A' r c').ownBlock = some w.heap.size) → K (.slice A' r c') w') :
    Ld P E (.call { callee := .builtin .append, args := #[x, y], argTypes := #[t, t] }) ty w Q K := by
  subst hr'
  obtain ⟨A', c', w', hrun, h2, h3, h4⟩ := run_app (ty := ty) hT he hzs hsz hown hr h1 h63 hby hbase hc
  exact Ld.of_run _ w' (fun N a ha o ho ht => by simp [execOp, ho, ha.ev hx, ha.ev hy, ht, resolve, invoke, builtin, hrun]) (hK A' c' w' h2 h3 h4)
/-- append onto a slice without room: a new row -/
theorem run_appF {B B2 sz by_ n m c : Nat} {e : TypeId} {zv : Value} {olds news : List Value} {A A2 : Option Addr} (hT : P.underlying t = some (.slice e)) (he : Elt P e zv sz by_) (hzs : zv.cells.size = sz) (hsz : 0 < sz)
    (ho : Rd w B sz A n olds) (hr : Rd w B2 sz A2 m news) (h1 : ∀ u ∈ news, u.oneCell' = true) (h63 : n + m ≤ maxLen) (hby : (n + m) * by_ ≤ 140737488355328) (hm : 0 < m) (hA : A = none → n = 0) :
    ∃ A' c' w', (Builtin.append_ #[t, t] ty #[.slice A n n, .slice A2 m c]).run P w = .ok (.slice A' (n + m) c') w' ∧ w'.ownsRow w.heap.size e sz (.slice A' (n + m) c') (n + m) (olds ++ news) ∧ Ext w w' := by
  obtain ⟨i, hi, hz, hs, hb⟩ := info_parts he
  obtain ⟨ad2, rfl, _, hnews⟩ := hr.cells hm
  cases A with
  | none =>
    have hn : n = 0 := hA rfl
    subst hn
    have holds : olds = [] := List.eq_nil_of_length_eq_zero (by simpa using ho.len)
    subst holds
    obtain ⟨v', w', hrun, h2, h3, _, h5⟩ := run_append_own_at (P := P) w w.heap.size t ty e i zv sz by_ hT hi hz hs hb hzs hsz (.slice none 0 0) 0 [] (World.ownsRow_nil w _ e sz) ad2 m c news hr.len hnews h1 (by omega) hby (Nat.le_refl _)
    obtain ⟨A', c', rfl, _, _⟩ := own_slice h2
    exact ⟨A', c', w', hrun, h2, ⟨h3.os, h3.tape, h3.output, h3.size, fun k hk => h3.block k hk (by simp [Value.ownBlock])⟩⟩
  | some ad =>
    have hcell : ∀ j u, olds[j]? = some u → w.cell? (ad.add j) = some u := by
      intro j u hu
      rcases Nat.eq_zero_or_pos n with h | h
      · subst h
        have hn : olds = [] := List.eq_nil_of_length_eq_zero (by simpa using ho.len)
        subst hn
        simp at hu
      · obtain ⟨ad', e, _, hcell⟩ := ho.cells h
        injection e with e
        subst e
        exact hcell j u hu
    obtain ⟨v', w', hrun, h2, h3⟩ := run_append_arg_grows (P := P) w t ty e i zv sz by_ hT hi hz hs hb hzs hsz ad n n olds ho.len hcell ad2 m c news hr.len hnews (by omega) h63 hby
    obtain ⟨A', c', rfl, _, _⟩ := own_slice h2
    exact ⟨A', c', w', hrun, h2, ⟨h3.os, h3.tape, h3.output, h3.size, fun k hk => h3.block k hk (by simp)⟩⟩
theorem Ld_appF {B B2 sz by_ n m c r : Nat} {e : TypeId} {zv : Value} {olds news : List Value} {A A2 : Option Addr} (hT : P.underlying t = some (.slice e)) (he : Elt P e zv sz by_) (hzs : zv.cells.size = sz) (hsz : 0 < sz)
    (hx : ev E x = some (.slice A n n)) (hy : ev E y = some (.slice A2 m c))
    (ho : Rd w B sz A n olds) (hr : Rd w B2 sz A2 m news) (h1 : ∀ u ∈ news, u.oneCell' = true) (h63 : n + m ≤ maxLen) (hby : (n + m) * by_ ≤ 140737488355328) (hm : 0 < m) (hA : A = none → n = 0)
    (hr' : n + m = r)
    (hK : ∀ A' c' w', w'.ownsRow w.heap.size e sz (.slice A' r c') r (olds ++ news) → Ext w w' → K (.slice A' r c') w') :
    Ld P E (.call { callee := .builtin .append, args := #[x, y], argTypes := #[t, t] }) ty w Q K := by
  subst hr'
  obtain ⟨A', c', w', hrun, h2, h3⟩ := run_appF (ty := ty) (c := c) hT he hzs hsz ho hr h1 h63 hby hm hA
  exact Ld.of_run _ w' (fun N a ha o ho ht => by simp [execOp, ho, ha.ev hx, ha.ev hy, ht, resolve, invoke, builtin, hrun]) (hK A' c' w' h2 h3)
/-- make([]T, n) -/
theorem Ld_make {sz by_ n : Nat} {e : TypeId} {zv : Value} {kl kc : IntKind} {l c : Int} (hT : P.underlying t = some (.slice e)) (he : Elt P e zv sz by_) (hx : ev E x = some (.int kl l)) (hy : ev E y = some (.int kc c)) (hl : l = n) (hc : c = n)
    (hby : by_ * n ≤ 281474976710656) (h63 : n ≤ maxLen)
    (hK : ∀ w', Ext w w' → w'.heap.size = w.heap.size + 1 → Blk w' w.heap.size e (madeCells zv.cells (n * sz)).toList → K (.slice (some ⟨w.heap.size, 0, none⟩) n n) w') : Ld P E (.makeSlice t x y) ty w Q K := by
  obtain ⟨i, hi, hz, hs, hb⟩ := info_parts he
  subst hs hb hl hc
  have h63' : (n : Int) ≤ 9223372036854775807 := by
    have h := h63
    simp [maxLen] at h
    omega
  have hb' : (i.bytes : Int) * (n : Int) ≤ 281474976710656 := by
    have h : ((i.bytes * n : Nat) : Int) ≤ 281474976710656 := by omega
    rwa [Int.natCast_mul] at h
  have hr := run_make (P := P) w t e i zv hT hi hz kl kc n n (by omega) (Int.le_refl _) hb' h63'
  simp only [Int.toNat_natCast] at hr
  refine Ld.of_run (.slice (some ⟨w.heap.size, 0, none⟩) n n) (w.alloc (.cells (madeCells zv.cells (n * i.size)) e)) (fun N a ha o ho ht => by simp [execOp, ho, ha.ev hx, ha.ev hy, hr]) (hK _ (Ext.alloc w _) (by simp) ?_)
  have := Blk.new w e (madeCells zv.cells (n * i.size)).toList
  simpa using this
/-- copy(dst, src): dst lies in a block that is known -/
theorem Ld_copy {e : TypeId} {B g off dLen dCap sLen sCap : Nat} {A D : Option Addr} {ti : TypeId} {cur cs : List Value} (hT : P.underlying t = some (.slice e)) (hs : (P.info? e).map (·.size) = some 1)
    (hx : ev E x = some (.slice D dLen dCap)) (hy : ev E y = some (.slice A sLen sCap)) (hb : Blk w g ti cur) (hD : 0 < sLen → 0 < dLen → D = some ⟨g, off, none⟩) (hr : Rd w B 1 A sLen cs) (hl : sLen ≤ dLen) (hfit : off + sLen ≤ cur.length) (h1 : ∀ u ∈ cs, u.oneCell' = true)
    (hK : ∀ w', But g w w' → w'.heap.size = w.heap.size → Blk w' g ti (cur.take off ++ cs ++ cur.drop (off + sLen)) → K (.int .i64 sLen) w') :
    Ld P E (.call { callee := .builtin .copy, args := #[x, y], argTypes := #[t, t2] }) ty w Q K := by
  have hlen : cs.length = sLen := by simpa using hr.len
  have hmin : cs.length = Nat.min sLen dLen := by rw [hlen]; exact (Nat.min_eq_left hl).symm
  rcases Nat.eq_zero_or_pos sLen with h0 | h0
  · subst h0
    obtain rfl : cs = [] := List.eq_nil_of_length_eq_zero hlen
    have hrun := run_copy_none (P := P) w t t2 ty e D A dLen dCap 0 sCap hT hs (by simp)
    refine Ld.of_run (.int .i64 0) w (fun N a ha o ho ht => by simp [execOp, ho, ha.ev hx, ha.ev hy, ht, resolve, invoke, builtin, hrun, goInt]) ?_
    exact hK w (But.of_ext (Ext.refl w)) rfl (by simpa using hb)
  · obtain ⟨ad, rfl, _, hsrc⟩ := hr.cells h0
    obtain rfl := hD h0 (by omega)
    have hrun := run_copy_row (P := P) w t t2 ty e g off dLen dCap ad sLen sCap cur.toArray ti cs hT hs hb hmin hsrc (by simp; omega) h1
    rw [hlen] at hrun
    refine Ld.of_run (.int .i64 sLen) (w.setRow g (cur.take off ++ cs ++ cur.drop (off + sLen)).toArray) (fun N a ha o ho ht => by simp only [execOp, ho, ht]; simp [ha.ev hx, ha.ev hy, resolve, invoke, builtin, hrun, goInt]) ?_
    refine hK _ ⟨rfl, rfl, rfl, by simp [World.setRow], fun k _ hne => setRow_other w g k _ (fun e => hne (by rw [e]))⟩ (by simp [World.setRow]) ?_
    have := setRow_heap w g cur.toArray (cur.take off ++ cs ++ cur.drop (off + sLen)).toArray ti _ hb
    simpa [Blk] using this
end
/-! ### 13. Small words -/
theorem i64w {n : Int} (h1 : -9223372036854775808 ≤ n) (h2 : n ≤ 9223372036854775807) : IntKind.i64.wrap n = n := IntWalk.i64_in n ⟨h1, h2⟩
theorem u64w {n : Int} (h1 : 0 ≤ n) (h2 : n ≤ 18446744073709551615) : IntKind.u64.wrap n = n := IntWalk.u64_in n ⟨h1, h2⟩
theorem u32w {n : Int} (h1 : 0 ≤ n) (h2 : n ≤ 4294967295) : IntKind.u32.wrap n = n := IntWalk.u32_in n ⟨h1, h2⟩
theorem u8w {n : Int} (h1 : 0 ≤ n) (h2 : n ≤ 255) : IntKind.u8.wrap n = n := IntWalk.u8_in n ⟨h1, h2⟩
theorem tdiv64 {a b : Int} (h0 : 0 ≤ a) (h1 : a ≤ 9223372036854775807) (hb : 1 ≤ b) : IntKind.i64.wrap (a.tdiv b) = a / b := IntWalk.i64_quo a b ⟨h0, h1, hb⟩
theorem tdivU {a b : Int} (h0 : 0 ≤ a) (h1 : a ≤ 18446744073709551615) (hb : 1 ≤ b) : IntKind.u64.wrap (a.tdiv b) = a / b := IntWalk.u64_quo a b ⟨h0, h1, hb⟩
theorem tdiv32 {a b : Int} (h0 : 0 ≤ a) (h1 : a ≤ 4294967295) (hb : 1 ≤ b) : IntKind.u32.wrap (a.tdiv b) = a / b := IntWalk.u32_quo a b ⟨h0, h1, hb⟩
theorem tmodw {a b : Int} (h : 0 ≤ a) : a.tmod b = a % b := Int.tmod_eq_emod_of_nonneg h
section
variable {P : Program} {N : Nat} {ops : Array Oper} {Q : Exit → Act → World → Prop} {E E' : Env} {w : World}
theorem Sim.is {a : Act} {d : Nat} {u v : Value} (h : Sim N a E) (hd : lk E d = some u) (e : u = v) : Sim N a ((d, v) :: E) := by
  subst e
  refine ⟨h.size, h.defers, fun t x hx => ?_⟩
  simp only [lk] at hx
  cases hb : Nat.beq d t with
  | true =>
    rw [hb] at hx
    simp only [cond_true, Option.some.injEq] at hx
    subst hx
    rw [← Nat.eq_of_beq_eq_true hb]
    exact h.tmps d u hd
  | false =>
    rw [hb] at hx
    exact h.tmps t x hx
theorem RL_is {l : List Oper} {d : Nat} {b b' : Bool} (hd : lk E d = some (.bool b)) (e : b = b') (h : RL P N ops Q l ((d, .bool b') :: E) w) : RL P N ops Q l E w := fun a ha => h a (ha.is hd (by rw [e]))
theorem RO_is {G : Nat → Prop} {l : List (Nat × Bool)} {d : Nat} {b b' : Bool} (hd : lk E d = some (.bool b)) (e : b = b') (h : RO P N G ops Q l ((d, .bool b') :: E) w) : RO P N G ops Q l E w := fun hn hQ listed ho a ha => h hn hQ listed ho a (ha.is hd (by rw [e]))
theorem C_is {c : Code} {d : Nat} {u v : Value} (hd : lk E d = some u) (e : u = v) (h : C P N Q c ((d, v) :: E) w) : C P N Q c E w := fun a ha => h a (ha.is hd e)
theorem X_is {c : Exit} {d : Nat} {u v : Value} (hd : lk E d = some u) (e : u = v) (h : X N Q c ((d, v) :: E) w) : X N Q c E w := fun a ha => h a (ha.is hd e)
theorem X_ret3 {fn : Func} {R : Ending → World → Prop} {t u s : Tmp} {x y z : Value} (hr : fn.results = #[.tmp t, .tmp u, .tmp s]) (hx : lk E t = some x) (hy : lk E u = some y) (hz : lk E s = some z) (h : R (.returned (.tuple #[x, y, z])) w) : X N (bodyPost P fn R) .ret E w :=
  fun a ha => ⟨ha.defers, .tuple #[x, y, z], by have h1 := ha.tmps t x hx; have h2 := ha.tmps u y hy; have h3 := ha.tmps s z hz; simp at h1 h2 h3; simp [results, hr, h1, h2, h3], h⟩
end
/-- a slice that the call owns -/
def Own (w : World) (base : Nat) (e : TypeId) (sz : Nat) (A : Option Addr) (n c : Nat) (xs : List Value) : Prop := w.ownsRow base e sz (.slice A n c) n xs
section
variable {w w' : World} {base base' sz n c : Nat} {e : TypeId} {A : Option Addr} {xs : List Value}
theorem Own.nil (w : World) (base : Nat) (e : TypeId) (sz : Nat) : Own w base e sz none 0 0 [] := World.ownsRow_nil w base e sz
theorem Own.ext (h : Own w base e sz A n c xs) (hb : Ext w w') : Own w' base e sz A n c xs := own_ext h hb
theorem Own.rd (h : Own w base e sz A n c xs) : Rd w w.heap.size sz A n xs := Rd.of_own h
theorem Own.cap (h : Own w base e sz A n c xs) : n ≤ c ∧ c ≤ maxLen := by
  obtain ⟨A', c', e, h1, h2⟩ := own_slice h
  injection e with _ _ e
  subst e
  exact ⟨h1, h2⟩
theorem Own.none_ (h : Own w base e sz A n c xs) : A = none → c = 0 ∧ n = 0 := by
  rintro rfl
  rcases h.2 with ⟨h1, h2⟩ | ⟨g, cap, cur, h1, _⟩
  · injection h1 with _ h3 h4
    exact ⟨h4, h2⟩
  · cases h1
theorem Own.base_ (h : Own w base e sz A n c xs) (hb : base' ≤ base) : Own w base' e sz A n c xs := own_base h hb
end
/-- one element that was laid for an append -/
theorem Blk.one {w : World} {g : Nat} {t : TypeId} {v : Value} (h : Blk w g t [v]) : Rd w w.heap.size 1 (some ⟨g, 0, none⟩) 1 [v] := h.rd (sz := 1) (n := 1) (by simp)
/-- append onto what is owned alone: nothing that was there before the call is touched -/
theorem ext_app {w0 w w' : World} {v : Value} {base n sz : Nat} {e : TypeId} {xs : List Value} (hown : w.ownsRow base e sz v n xs) (hb : Below base w0 w) (hle : base ≤ w.heap.size) (hg : w.grownBy w' v.ownBlock) : Below base w0 w' :=
  hb.grown hg hle (fun k hk => (hown.lt k hk).1)
/-- loads of what is known -/
theorem ldB {w : World} {g i : Nat} {t : TypeId} {cs : List Value} {v : Value} (h : Blk w g t cs) (hv : cs[i]? = some v) : ∀ W, Ext w W → W.cell? ⟨g, i, none⟩ = some v := fun W hW => by rw [(h.ext hW).cell]; exact hv
theorem ldR {w : World} {B n j : Nat} {ad : Addr} {xs : List Value} {v : Value} (h : Rd w B 1 (some ad) n xs) (hn : 0 < n) (hv : xs[j]? = some v) : ∀ W, Ext w W → W.cell? (ad.add j) = some v := fun W hW => by
  obtain ⟨ad', e, _, hc⟩ := (h.ext hW).cells hn
  injection e with e
  subst e
  exact hc j v hv
/-- the cells of a literal list all of whose elements are given, in their order -/
theorem fill_flat (sz : Nat) : ∀ (vs : List Value) (k : Nat) (cells : Array Value), (vs.all fun v => v.cells.size == sz) = true → (k + vs.length) * sz ≤ cells.size →
    Instr.fill (fun j => some (j * sz, sz)) cells ((vs.zipIdx k).map fun p => (p.2, p.1)) = some (cells.toList.take (k * sz) ++ vs.flatMap cellsL ++ cells.toList.drop ((k + vs.length) * sz)).toArray := by
  intro vs
  induction vs with
  | nil => intro k cells _ _; simp [Instr.fill]
  | cons v vs ih =>
    intro k cells ha hl
    simp only [List.all_cons, Bool.and_eq_true, beq_iff_eq] at ha
    simp only [List.length_cons] at hl
    have hk : k * sz + sz ≤ cells.size := by
      have : (k + 1) * sz ≤ (k + (vs.length + 1)) * sz := Nat.mul_le_mul_right _ (by omega)
      rw [Nat.add_mul, Nat.one_mul] at this
      omega
    simp only [List.zipIdx_cons, List.map_cons, Instr.fill]
    rw [if_neg (by rw [ha.1]; simp; omega)]
    have hz : ∀ (l : List Value) (o : Nat) (cs : Array Value), o + l.length ≤ cs.size → (l.zipIdx.foldl (fun cs (p : Value × Nat) => cs.setIfInBounds (o + p.2) p.1) cs).toList = cs.toList.take o ++ l ++ cs.toList.drop (o + l.length) := by
      intro l o cs
      have gen : ∀ (l : List Value) (i : Nat) (cs : Array Value), o + i + l.length ≤ cs.size → ((l.zipIdx i).foldl (fun cs (p : Value × Nat) => cs.setIfInBounds (o + p.2) p.1) cs).toList = cs.toList.take (o + i) ++ l ++ cs.toList.drop (o + i + l.length) := by
        intro l
        induction l with
        | nil => intro i cs _; simp
        | cons u l ihl =>
          intro i cs hcs
          simp only [List.length_cons] at hcs
          simp only [List.zipIdx_cons, List.foldl_cons]
          rw [ihl (i + 1) _ (by simp; omega)]
          have e1 : (cs.toList.set (o + i) u).take (o + (i + 1)) = cs.toList.take (o + i) ++ [u] := by
            rw [← Nat.add_assoc, List.take_succ_eq_append_getElem (by simp; omega)]
            simp [List.take_set_of_le]
          have e2 : (cs.toList.set (o + i) u).drop (o + (i + 1) + l.length) = cs.toList.drop (o + i + (u :: l).length) := by
            rw [List.drop_set_of_lt (by omega)]
            congr 1
            simp; omega
          simp only [Array.toList_setIfInBounds]
          rw [e1, e2]
          simp
      intro hcs
      have := gen l 0 cs (by omega)
      simpa using this
    have hv := hz v.cells.toList (k * sz) cells (by simp [ha.1]; omega)
    have hzi : (Array.foldl (fun cs (p : Value × Nat) => cs.setIfInBounds (k * sz + p.2) p.1) cells v.cells.zipIdx) = (cells.toList.take (k * sz) ++ v.cells.toList ++ cells.toList.drop (k * sz + sz)).toArray := by
      rw [← Array.foldl_toList]
      have : v.cells.zipIdx.toList = v.cells.toList.zipIdx := by simp [Array.toList_zipIdx]
      rw [this]
      have h2 := hv
      simp only [Array.length_toList, ha.1] at h2
      rw [← h2]
    rw [hzi, ih (k + 1) _ ha.2 (by
        have h1 : (cells.toList.take (k * sz) ++ v.cells.toList ++ cells.toList.drop (k * sz + sz)).toArray.size = cells.size := by simp [ha.1]; omega
        rw [h1, show k + 1 + vs.length = k + (vs.length + 1) from by omega]; exact hl)]
    congr 2
    have hlen : (cells.toList.take (k * sz) ++ v.cells.toList).length = (k + 1) * sz := by
      simp [ha.1, Nat.add_mul]; omega
    have e3 : ((cells.toList.take (k * sz) ++ v.cells.toList ++ cells.toList.drop (k * sz + sz))).take ((k + 1) * sz) = cells.toList.take (k * sz) ++ v.cells.toList := by
      rw [← hlen]; exact List.take_left
    have e4 : ((cells.toList.take (k * sz) ++ v.cells.toList ++ cells.toList.drop (k * sz + sz))).drop ((k + 1 + vs.length) * sz) = cells.toList.drop ((k + (v :: vs).length) * sz) := by
      rw [List.drop_append, List.drop_eq_nil_of_le (by rw [hlen]; exact Nat.mul_le_mul_right _ (by omega)), hlen, List.nil_append, List.drop_drop]
      congr 1
      rw [show (k + 1 + vs.length) * sz = (k + 1) * sz + vs.length * sz from by rw [Nat.add_mul], Nat.add_sub_cancel_left]
      simp only [List.length_cons, Nat.add_mul]
      omega
    rw [e3, e4]
    simp [cellsL]
theorem lit_flat {P : Program} {t e : TypeId} {zv : Value} {sz by_ len : Nat} {parts : List (Nat × Value)} (hT : P.underlying t = some (.slice e)) (he : Elt P e zv sz by_)
    (hp : (parts.map (·.2)).zipIdx.map (fun p => (p.2, p.1)) = parts) (ha : ((parts.map (·.2)).all fun v => v.cells.size == sz) = true) (hl : parts.length = len ∧ len * sz ≤ 2 ^ 24) : litCells P t len parts = some ((parts.map (·.2)).flatMap cellsL) := by
  obtain ⟨i, hi, hz, hs, _⟩ := info_parts he
  subst hs
  have h := fill_flat i.size (parts.map (·.2)) 0 ((Array.range (len * i.size)).map (zv.cells[· % zv.cells.size]!)) ha (by simp [hl.1])
  rw [hp] at h
  simp only [litCells, hT, hi, hz]
  rw [if_neg (by omega), h]
  simp [hl.1]

/-- a slice that may be appended to: the call's own, or one without room -/
def Tip (w : World) (base : Nat) (e : TypeId) (sz : Nat) (A : Option Addr) (n c : Nat) (xs : List Value) : Prop :=
  Own w base e sz A n c xs ∨ (c = n ∧ (A = none → n = 0) ∧ ∃ B, Rd w B sz A n xs)
theorem Tip.ext {w w' : World} {base sz n c : Nat} {e : TypeId} {A : Option Addr} {xs : List Value} (h : Tip w base e sz A n c xs) (hb : Ext w w') : Tip w' base e sz A n c xs := by
  rcases h with h | ⟨h1, h2, B, h3⟩
  · exact .inl (h.ext hb)
  · exact .inr ⟨h1, h2, B, h3.ext hb⟩
theorem Own.tip {w : World} {base sz n c : Nat} {e : TypeId} {A : Option Addr} {xs : List Value} (h : Own w base e sz A n c xs) : Tip w base e sz A n c xs := .inl h
section
variable {P : Program} {w : World} {E : Env} {ty t : TypeId} {x y : Operand} {Q : Exit → Act → World → Prop} {K : Value → World → Prop}
theorem Ld_appT {base B sz by_ n n' m c r : Nat} {e : TypeId} {zv : Value} {xs news : List Value} {A A2 : Option Addr} (hT : P.underlying t = some (.slice e)) (he : Elt P e zv sz by_) (hzs : zv.cells.size = sz) (hsz : 0 < sz)
    (hx : ev E x = some (.slice A2 n n')) (hy : ev E y = some (.slice A m c))
    (htip : Tip w base e sz A2 n n' xs) (hr : Rd w B sz A m news) (h1 : ∀ u ∈ news, u.oneCell' = true) (h63 : n + m ≤ maxLen) (hby : (n + m) * by_ ≤ 140737488355328) (hbase : base ≤ w.heap.size) (hc : A = none → c = 0) (hm : 0 < m)
    (hr' : n + m = r)
    (hK : ∀ A' c' w', Own w' base e sz A' r c' (xs ++ news) → (∀ w0, Below base w0 w → Below base w0 w') → K (.slice A' r c') w') :
    Ld P E (.call { callee := .builtin .append, args := #[x, y], argTypes := #[t, t] }) ty w Q K := by
  subst hr'
  rcases htip with hown | ⟨rfl, hA, B', hrd⟩
  · exact Ld_app hT he hzs hsz hx hy hown hr h1 h63 hby hbase hc rfl fun A' c' w' h2 h3 _ => hK A' c' w' h2 fun w0 hb => ext_app hown hb hbase h3
  · exact Ld_appF hT he hzs hsz hx hy hrd hr h1 h63 hby hm hA rfl fun A' c' w' h2 h3 => hK A' c' w' (own_base h2 hbase) fun w0 hb => hb.trans (h3.mono hbase)
end
theorem ldK {w : World} {B n j k : Nat} {ad : Addr} {xs : List Value} {v : Value} (h : Rd w B 1 (some ad) n xs) (hn : 0 < n) (hv : xs[k]? = some v) (hj : j = k) : ∀ W, Ext w W → W.cell? (ad.add j) = some v := by
  subst hj; exact ldR h hn hv
theorem Rd.take1 {w : World} {B n m : Nat} {A : Option Addr} {xs : List Value} (h : Rd w B 1 A n xs) (hm : m ≤ n) : Rd w B 1 A m (xs.take m) := by
  have := h.cut (k := 0) (m := m) (cap := m + 1) (by omega) hm (by omega)
  rw [if_neg (by omega)] at this
  simpa [add_zero'] using this
theorem Rd.drop1 {w : World} {B n k c : Nat} {A : Option Addr} {xs : List Value} (h : Rd w B 1 A n xs) (hk : k ≤ n) (hc : n ≤ c) : Rd w B 1 (if c = k then A else A.map (·.add (k * 1))) (n - k) (xs.drop k) := by
  have := h.cut (k := k) (m := n) (cap := c) hk (Nat.le_refl _) hc
  rw [List.take_of_length_le (by rw [List.length_drop, h.len]; omega), Nat.mul_one] at this
  rw [Nat.mul_one]
  exact this
theorem Rd.kp {G : Nat → Prop} {w w' : World} {B sz n : Nat} {A : Option Addr} {xs : List Value} (h : Rd w B sz A n xs) (hb : Kp G w w') (hg : ∀ ad, A = some ad → ¬ G ad.block) : Rd w' B sz A n xs :=
  ⟨h.len, fun hn => by
    obtain ⟨ad, e, hb', hc⟩ := h.cells hn
    exact ⟨ad, e, hb', fun j u hu => hb.cell (hc j u hu) (by rw [add_block]; exact hg ad e)⟩⟩
theorem Rd.kpl {G : Nat → Prop} {w w' : World} {B sz n : Nat} {A : Option Addr} {xs : List Value} (h : Rd w B sz A n xs) (hb : Kp G w w') (hG : ∀ k, G k → B ≤ k) : Rd w' B sz A n xs :=
  ⟨h.len, fun hn => by
    obtain ⟨ad, e, hb', hc⟩ := h.cells hn
    exact ⟨ad, e, hb', fun j u hu => hb.cell (hc j u hu) (fun hg => by have := hG _ hg; rw [add_block] at this; omega)⟩⟩
theorem Blk.kp {G : Nat → Prop} {w w' : World} {g : Nat} {t : TypeId} {cs : List Value} (h : Blk w g t cs) (hb : Kp G w w') (hg : ¬ G g) : Blk w' g t cs := (hb.block g h.lt hg).trans h
theorem Kp.but {g : Nat} {w w' : World} (h : Kp (fun k => k = g) w w') : But g w w' := ⟨h.os, h.tape, h.output, h.size, fun k hk hn => h.block k hk (fun e => hn (by rw [e]))⟩
theorem nil_cut {A : Option Addr} {c k : Nat} (h : A = none → c = 0) : (if c = k then A else A.map (·.add (k * 1))) = none → c - k = 0 := by
  intro e
  split at e
  · omega
  · have := h (by simpa using e); omega
theorem str_eq {a b : List Int} (h : a = b) : ((strOfNums a).toList == (strOfNums b).toList) = true := by rw [h]; simp
theorem ints_nil (k : IntKind) : ints k [] = [] := rfl
theorem strOfNums_append (a b : List Int) : strOfNums a ++ strOfNums b = strOfNums (a ++ b) := by
  apply ByteArray.ext
  simp [strOfNums]
theorem Yd_catB {P : Program} {S : World → Prop} {E : Env} {ty t t2 : TypeId} {x y : Operand} {a b : List Int} (hx : ev E x = some (.string (strOfNums a))) (hy : ev E y = some (.string (strOfNums b))) (hl : a.length + b.length ≤ 9223372036854775807) : Yd P S E (.binOp .add t x y t2) ty (.string (strOfNums (a ++ b))) := by
  rw [← strOfNums_append]
  exact Yd_cat hx hy (by rw [strOfNums_size, strOfNums_size]; exact hl)
/-- bytes lists are equal if their texts are -/
theorem str_inj {a b : List Int} (ha : ∀ x ∈ a, 0 ≤ x ∧ x ≤ 255) (hb : ∀ x ∈ b, 0 ≤ x ∧ x ≤ 255) (h : ((strOfNums a).toList == (strOfNums b).toList) = true) : a = b := by
  have h1 : strOfNums a = strOfNums b := by
    have := eq_of_beq h
    rw [ByteArray.toList_eq, ByteArray.toList_eq] at this
    exact ByteArray.ext (Array.toList_inj.1 this)
  have h2 := congrArg (fun s => s.data.toList) h1
  simp only [strOfNums_data] at h2
  have key : ∀ (a b : List Int), (∀ x ∈ a, 0 ≤ x ∧ x ≤ 255) → (∀ x ∈ b, 0 ≤ x ∧ x ≤ 255) → a.map (fun n => UInt8.ofNat n.toNat) = b.map (fun n => UInt8.ofNat n.toNat) → a = b := by
    intro a
    induction a with
    | nil => intro b _ _ h; cases b with
      | nil => rfl
      | cons y b => simp at h
    | cons x a ih => intro b ha hb h; cases b with
      | nil => simp at h
      | cons y b =>
        simp only [List.map_cons, List.cons.injEq] at h
        have hx := ha x (by simp)
        have hy := hb y (by simp)
        have h3 := congrArg UInt8.toNat h.1
        simp at h3
        rw [ih b (fun z hz => ha z (by simp [hz])) (fun z hz => hb z (by simp [hz])) h.2]
        congr 1
        omega
  exact key a b ha hb h2
theorem str_ne {a b : List Int} (ha : ∀ x ∈ a, 0 ≤ x ∧ x ≤ 255) (hb : ∀ x ∈ b, 0 ≤ x ∧ x ≤ 255) (h : a ≠ b) : ((strOfNums a).toList == (strOfNums b).toList) = false := by
  cases e : ((strOfNums a).toList == (strOfNums b).toList) with
  | false => rfl
  | true => exact absurd (str_inj ha hb e) h
/-! ### 14. Structs and arrays that are put together -/
theorem foldl_set (l : List Value) (o : Nat) (cs : Array Value) (h : o + l.length ≤ cs.size) :
    Array.foldl (fun cs (p : Value × Nat) => cs.setIfInBounds (o + p.2) p.1) cs l.toArray.zipIdx = (cs.toList.take o ++ l ++ cs.toList.drop (o + l.length)).toArray := by
  have gen : ∀ (l : List Value) (i : Nat) (cs : Array Value), o + i + l.length ≤ cs.size → ((l.zipIdx i).foldl (fun cs (p : Value × Nat) => cs.setIfInBounds (o + p.2) p.1) cs).toList = cs.toList.take (o + i) ++ l ++ cs.toList.drop (o + i + l.length) := by
    intro l
    induction l with
    | nil => intro i cs _; simp
    | cons u l ihl =>
      intro i cs hcs
      simp only [List.length_cons] at hcs
      simp only [List.zipIdx_cons, List.foldl_cons]
      rw [ihl (i + 1) _ (by simp; omega)]
      have e1 : (cs.toList.set (o + i) u).take (o + (i + 1)) = cs.toList.take (o + i) ++ [u] := by
        rw [← Nat.add_assoc, List.take_succ_eq_append_getElem (by simp; omega)]
        simp [List.take_set_of_le]
      have e2 : (cs.toList.set (o + i) u).drop (o + (i + 1) + l.length) = cs.toList.drop (o + i + (u :: l).length) := by
        rw [List.drop_set_of_lt (by omega)]
        congr 1
        simp; omega
      simp only [Array.toList_setIfInBounds]
      rw [e1, e2]
      simp
  have h2 := gen l 0 cs (by omega)
  rw [← Array.foldl_toList]
  have : l.toArray.zipIdx.toList = l.zipIdx := by simp
  rw [this]
  simp only [Nat.add_zero] at h2
  rw [← h2]
/-- the cells of a whole, some of whose parts are given -/
def putL (pl : List (Nat × Nat)) : List (Nat × Value) → List Value → Option (List Value)
  | [], cs => some cs
  | (i, v) :: r, cs => match pl[i]? with
    | none => none
    | some (off, size) => if (cellsL v).length = size ∧ off + size ≤ cs.length then putL pl r (cs.take off ++ cellsL v ++ cs.drop (off + size)) else none
theorem fill_putL (place : Nat → Option (Nat × Nat)) (pl : List (Nat × Nat)) (hpl : ∀ i p, pl[i]? = some p → place i = some p) : ∀ (parts : List (Nat × Value)) (cs : Array Value) (out : List Value), putL pl parts cs.toList = some out → Instr.fill place cs parts = some out.toArray
  | [], cs, out, h => by simp [putL] at h; subst h; simp [Instr.fill]
  | (i, v) :: r, cs, out, h => by
    simp only [putL] at h
    cases hp : pl[i]? with
    | none => simp [hp] at h
    | some p =>
      obtain ⟨off, size⟩ := p
      simp only [hp] at h
      split at h
      · rename_i hc
        obtain ⟨h1, h2⟩ := hc
        have h1' : v.cells.size = size := by simpa [cellsL] using h1
        simp only [Instr.fill, hpl i _ hp]
        rw [if_neg (by rw [h1']; simp; simpa using h2)]
        have hf := foldl_set (cellsL v) off cs (by simp only [h1]; simpa using h2)
        have e : (cellsL v).toArray = v.cells := by simp [cellsL]
        rw [e, h1] at hf
        rw [hf]
        exact fill_putL place pl hpl r _ out (by simpa using h)
      · cases h
def bldOf (P : Program) (t : TypeId) : Option (List Value × List (Nat × Nat)) :=
  match P.info? t, P.underlying t with
  | some it, some (.struct fields) =>
    match it.zero, fields.toList.mapM (fun f => (P.info? f.type).map fun i => (f.offset, i.size)) with
    | some z, some places => some (z.cells.toList, places)
    | _, _ => none
  | some it, some (.array n e) =>
    match it.zero, P.info? e with
    | some z, some ie => some (z.cells.toList, (List.range n).map fun i => (i * ie.size, ie.size))
    | _, _ => none
  | _, _ => none
def Bld (P : Program) (t : TypeId) (zs : List Value) (pl : List (Nat × Nat)) : Prop := bldOf P t = some (zs, pl)
theorem run_bld {P : Program} {t : TypeId} {zs : List Value} {pl : List (Nat × Nat)} {vs : List (Nat × Value)} {cs : List Value} (hb : Bld P t zs pl) (hc : putL pl vs zs = some cs) (W : World) : (Instr.build t vs.toArray).run P W = .ok (.agg cs.toArray) W := by
  refine run_build W t vs.toArray cs.toArray ?_
  unfold Bld bldOf at hb
  unfold Program.built
  cases hi : P.info? t with
  | none => simp [hi] at hb
  | some it =>
    cases hu : P.underlying t with
    | none => simp [hi, hu] at hb
    | some d =>
      cases d <;> try (simp [hi, hu] at hb; done)
      case array n e =>
        cases hz : it.zero with
        | none => simp [hi, hu, hz] at hb
        | some z =>
          cases hie : P.info? e with
          | none => simp [hi, hu, hz, hie] at hb
          | some ie =>
            simp only [hi, hu, hz, hie, Option.some.injEq, Prod.mk.injEq] at hb
            obtain ⟨rfl, rfl⟩ := hb
            simp only [hz, hie]
            refine fill_putL _ _ ?_ vs z.cells cs hc
            intro i p hp
            rw [List.getElem?_map] at hp
            obtain ⟨j, hj, rfl⟩ := Option.map_eq_some_iff.1 hp
            rw [List.getElem?_eq_some_iff] at hj
            obtain ⟨_, hj⟩ := hj
            simp at hj
            subst hj
            rfl
      case struct fields =>
        cases hz : it.zero with
        | none => simp [hi, hu, hz] at hb
        | some z =>
          cases hm : fields.toList.mapM (fun f => (P.info? f.type).map fun i => (f.offset, i.size)) with
          | none => simp [hi, hu, hz, hm] at hb
          | some places =>
            simp only [hi, hu, hz, hm, Option.some.injEq, Prod.mk.injEq] at hb
            obtain ⟨rfl, rfl⟩ := hb
            simp only [hz, hm]
            refine fill_putL _ _ ?_ vs z.cells cs hc
            intro i p hp
            simpa using hp
theorem Yd_build {P : Program} {S : World → Prop} {E : Env} {ty t : TypeId} {zs : List Value} {pl : List (Nat × Nat)} {parts : List (Nat × Operand)} {vs : List (Nat × Value)} {cs : List Value} (hb : Bld P t zs pl) (hx : evs E parts = some vs) (hc : putL pl vs zs = some cs) :
    Yd P S E (.build t parts.toArray) ty (.agg cs.toArray) := fun N a ha o ho ht W hW => by
  have h1 : parts.toArray.map (fun p : Nat × Operand => (p.1, a.eval p.2)) = vs.toArray := by rw [← evs_map ha hx]; simp
  have h2 := run_bld hb hc W
  rw [← h1] at h2
  simp only [execOp, ho, Sem.run_bind, h2, Result.andThen_ok]
  rfl
/-! ### 15. Pointers that are there, and stores into a row of the call's own -/
theorem run_equalIn_PN {P : Program} {t te : TypeId} {d : Nat} {p : Addr} (hT : P.underlying t = some (.pointer te)) (W : World) : (Op.equalIn (d + 1) t (.pointer (some p)) (.pointer none)).run P W = .ok false W := by
  simp [Op.equalIn, run_underlying hT]
theorem Yd_eqlPN {P : Program} {S : World → Prop} {E : Env} {ty t t2 te : TypeId} {x y : Operand} {p : Addr} (hT : P.underlying t = some (.pointer te)) (hx : ev E x = some (.pointer (some p))) (hy : ev E y = some (.pointer none)) : Yd P S E (.binOp .eql t x y t2) ty (.bool false) :=
  fun N a ha o ho ht W hW => by
    have h : (binOp .eql t (.pointer (some p)) (.pointer none)).run P W = .ok (.bool false) W := by
      simp only [binOp]
      simp [Op.equal, Op.maxDepth, run_equalIn_PN (d := 9999) hT]
    simp [execOp, ho, ha.ev hx, ha.ev hy, eqGuard, h]
theorem Yd_neqPN {P : Program} {S : World → Prop} {E : Env} {ty t t2 te : TypeId} {x y : Operand} {p : Addr} (hT : P.underlying t = some (.pointer te)) (hx : ev E x = some (.pointer (some p))) (hy : ev E y = some (.pointer none)) : Yd P S E (.binOp .neq t x y t2) ty (.bool true) :=
  fun N a ha o ho ht W hW => by
    have h : (binOp .neq t (.pointer (some p)) (.pointer none)).run P W = .ok (.bool true) W := by
      simp only [binOp]
      simp [Op.equal, Op.maxDepth, run_equalIn_PN (d := 9999) hT]
    simp [execOp, ho, ha.ev hx, ha.ev hy, eqGuard, h]
theorem Own.blk {w : World} {base n c sz : Nat} {e : TypeId} {A : Option Addr} {xs : List Value} (h : Own w base e sz A n c xs) (hn : 0 < n) : ∃ g ys, A = some ⟨g, 0, none⟩ ∧ base ≤ g ∧ Blk w g e (xs ++ ys) ∧ (xs ++ ys).length = c * sz := by
  rcases h.2 with ⟨_, h2⟩ | ⟨g, cap, cur, h1, h2, h3, h4, h5, h6, h7⟩
  · omega
  · injection h1 with h8 _ h9
    subst h8 h9
    refine ⟨g, cur.toList.drop (n * sz), rfl, h2, ?_, ?_⟩
    · rw [← h7, List.take_append_drop]; exact h3
    · rw [← h7, List.take_append_drop]; simpa using h6
theorem Own.lt' {w : World} {base n c sz : Nat} {e : TypeId} {A : Option Addr} {xs : List Value} (h : Own w base e sz A n c xs) : ∀ ad, A = some ad → base ≤ ad.block ∧ ad.block < w.heap.size := by
  rintro ad rfl; exact h.lt ad.block rfl
/-- the block as an own row again -/
theorem own_of_blk {w : World} {g base n c sz : Nat} {e : TypeId} {cs xs : List Value} (h : Blk w g e cs) (hb : base ≤ g) (hl : cs.length = c * sz) (hn : n ≤ c) (hc : c ≤ maxLen) (hx : cs.take (n * sz) = xs) : Own w base e sz (some ⟨g, 0, none⟩) n c xs :=
  ⟨by rw [← hx, List.length_take, hl, Nat.min_eq_left (Nat.mul_le_mul_right _ hn)], .inr ⟨g, c, cs.toArray, rfl, hb, h, hn, hc, by simpa using hl, by simpa using hx⟩⟩
theorem ext_but {w W W' : World} {g : Nat} (h : Ext w W) (hb : But g W W') (hg : w.heap.size ≤ g) : Ext w W' := h.grown hb h.size (fun k hk => by cases hk; exact hg)
theorem Rd.rest {w : World} {B sz n m : Nat} {A : Option Addr} {xs ys : List Value} (h : Rd w B sz A n (xs ++ ys)) (hm : xs.length = m * sz) (hn : 0 < m → 0 < n) : Rd w B sz A m xs :=
  ⟨hm, fun h0 => by
    obtain ⟨ad, e, hb, hc⟩ := h.cells (hn h0)
    refine ⟨ad, e, hb, fun j u hu => hc j u ?_⟩
    rw [List.getElem?_append_left (by
      rcases Nat.lt_or_ge j xs.length with h | h
      · exact h
      · rw [List.getElem?_eq_none h] at hu; cases hu)]
    exact hu⟩
theorem Yd_idxL {P : Program} {S : World → Prop} {E : Env} {ty t e : TypeId} {x y : Operand} {sz n c g o : Nat} {k : IntKind} {i : Int} (hT : P.underlying t = some (.slice e)) (hs : (P.info? e).map (·.size) = some sz) (hx : ev E x = some (.slice (some ⟨g, o, none⟩) n c)) (hy : ev E y = some (.int k i))
    (h0 : 0 ≤ i) (h1 : i < n) : Yd P S E (.indexAddr t x y) ty (.pointer (some ⟨g, o + i.toNat * sz, none⟩)) := by
  rw [← add_lit]; exact Yd_idx hT hs hx hy h0 h1
theorem Rd.cell1 {w : World} {B n j k : Nat} {ad : Addr} {xs : List Value} {v : Value} (h : Rd w B 1 (some ad) n xs) (hv : xs[k]? = some v) (hj : j = k) : w.cell? (ad.add j) = some v := by
  subst hj
  have : j < xs.length := by
    rcases Nat.lt_or_ge j xs.length with h | h
    · exact h
    · rw [List.getElem?_eq_none h] at hv; cases hv
  obtain ⟨ad', e, _, hc⟩ := h.cells (by have := h.len; omega)
  injection e with e
  subst e
  exact hc _ _ hv
/-! ### 16. Results in memory; arrays as values; function values; both ways at a guard -/
section
variable {P : Program} {N : Nat} {Q : Exit → Act → World → Prop} {E : Env} {w : World} {ops : Array Oper}
theorem run_loadVarA {t : TypeId} {d : TypeDesc} {p : Addr} {cs : List Value} (hT : P.underlying t = some d) (hd : isFlat d = false) (hn : (P.info? t).map (·.size) = some cs.length) (W : World) (hc : ∀ j u, cs[j]? = some u → W.cell? (p.add j) = some u) : (loadVar t p).run P W = .ok (.agg cs.toArray) W := by
  obtain ⟨i, hi, he⟩ := Option.map_eq_some_iff.1 hn
  have h1 : (sizeOf t).run P W = .ok cs.length W := by simp [sizeOf, typeInfo, hi, he]
  simp [loadVar, run_isAgg hT, hd, h1, run_loadCells_list W p cs hc]
/-- one result, a struct or an array in a block of its own -/
theorem X_retC {fn : Func} {R : Ending → World → Prop} {t : Tmp} {ty : TypeId} {d : TypeDesc} {g : Nat} {ti : TypeId} {cs : List Value} (hr : fn.results = #[.cell t ty]) (hv : lk E t = some (.pointer (some ⟨g, 0, none⟩))) (hT : P.underlying ty = some d) (hd : isFlat d = false) (hn : (P.info? ty).map (·.size) = some cs.length) (hb : Blk w g ti cs) (h : R (.returned (.agg cs.toArray)) w) : X N (bodyPost P fn R) .ret E w :=
  fun a ha => ⟨ha.defers, _, by
    have h1 := run_loadVarA (P := P) hT hd hn w (p := ⟨g, 0, none⟩) (fun j u hu => by rw [add_lit, Nat.zero_add, hb.cell]; exact hu)
    have h2 : a.tmps.getD t undef = .pointer (some ⟨g, 0, none⟩) := ha.tmps t _ hv
    simp only [Array.getD_eq_getD_getElem?] at h2
    simp [results, hr, h2, asAddr, h1], h⟩
theorem ldBA {w : World} {g : Nat} {t : TypeId} {cs : List Value} (h : Blk w g t cs) : ∀ W, Ext w W → ∀ j u, cs[j]? = some u → W.cell? ((⟨g, 0, none⟩ : Addr).add j) = some u := fun W hW j u hu => by
  rw [add_lit, Nat.zero_add, (h.ext hW).cell]; exact hu
theorem Yd_index {S : World → Prop} {ty t e : TypeId} {d : TypeDesc} {x y : Operand} {n : Nat} {k : IntKind} {i : Int} {cs : Array Value} {v : Value} (hT : P.underlying t = some (.array n e)) (hs : (P.info? e).map (·.size) = some 1) (he : P.underlying e = some d) (hd : isFlat d = true) (hx : ev E x = some (.agg cs)) (hy : ev E y = some (.int k i))
    (h0 : 0 ≤ i) (h1 : i < n) (hv : cs[i.toNat]? = some v) : Yd P S E (.index t x y) ty v :=
  fun N a ha o ho ht W hW => by
    obtain ⟨ei, hei, hz⟩ := Option.map_eq_some_iff.1 hs
    simp [execOp, ho, ha.ev hx, ha.ev hy, Instr.index, run_underlying hT, asIntOf, h0, h1, sizeOf, typeInfo, hei, hz, part, run_isAgg he, hd, hv]
/-- a call of a function value that captures nothing -/
theorem Ld_callV {ty : TypeId} {K : Value → World → Prop} {x : Operand} {f : FuncId} {args : List Operand} {vs : List Value} {ats : Array TypeId} {R : Ending → World → Prop} {fn : Func} (hx0 : ev E x = some (.func (.func f) #[] #[])) (hf : P.funcs[f]? = some fn) (hb : fn.body.isSome = true) (hn : (fn.name == "runtime.NumGoroutine") = false)
    (hx : evs E (args.map (fun x => (0, x))) = some (vs.map fun v => (0, v))) (hc : Calls P f vs.toArray w R) (hR : ∀ e w', R e w' → ∃ v, e = .returned v ∧ K v w') :
    Ld P E (.call { callee := .value x, args := args.toArray, argTypes := ats }) ty w Q K := fun N a ha o ho ht => by
  have h1 : args.toArray.map a.eval = vs.toArray := by
    have := evs_map ha hx
    simp only [List.map_map] at this
    have h2 : (args.map fun x => a.eval x) = vs := by
      have h3 := congrArg (List.map Prod.snd) this
      simpa [List.map_map, Function.comp_def] using h3
    rw [← h2]
    simp
  have h2 : (execOp a.eval o).run P w = .ok (.enter f vs.toArray) w := by
    have h3 : fn.name ≠ "runtime.NumGoroutine" := by simpa using hn
    simp only [execOp, ho]
    simp [resolve, ha.ev hx0, Deferred.ofValue, h1, invoke, callFunc, hf, h3]
    intro hn0
    rw [hn0] at hb
    cases hb
  unfold Oper.wp
  rw [h2]
  show Calls P f vs.toArray w _
  refine Calls.mono hc fun e w' he => ?_
  obtain ⟨v, rfl, hv⟩ := hR e w' he
  exact ⟨v, rfl, hv⟩
theorem RL_case {l : List Oper} {d : Nat} {b : Bool} (hd : lk E d = some (.bool b)) (ht : b = true → RL P N ops Q l ((d, .bool true) :: E) w) (hf : b = false → RL P N ops Q l ((d, .bool false) :: E) w) : RL P N ops Q l E w := by
  cases b with
  | true => exact RL_is hd rfl (ht rfl)
  | false => exact RL_is hd rfl (hf rfl)
theorem RO_case {G : Nat → Prop} {l : List (Nat × Bool)} {d : Nat} {b : Bool} (hd : lk E d = some (.bool b)) (ht : b = true → RO P N G ops Q l ((d, .bool true) :: E) w) (hf : b = false → RO P N G ops Q l ((d, .bool false) :: E) w) : RO P N G ops Q l E w := by
  cases b with
  | true => exact RO_is hd rfl (ht rfl)
  | false => exact RO_is hd rfl (hf rfl)
end
section
variable {P : Program} {N : Nat} {Q : Exit → Act → World → Prop} {E : Env} {w : World} {ops : Array Oper}
theorem RO_gnL {G : Nat → Prop} {i d j dj : Nat} {b b' : Bool} {op : Op} {ty : TypeId} {pos : String} {aft : Array Edge} {rest : List (Nat × Bool)} (hi : ops[i]? = some ⟨some d, op, ty, pos, aft, some (j, b)⟩)
    (hj : (ops[j]?).bind (·.dst) = some dj) (hv : lk E dj = some (.bool b')) (hb : (b' == b) = false) (hd : Nat.blt d N = true)
    (h : RO P N G ops Q rest ((d, undef) :: E) w) : RO P N G ops Q ((i, false) :: rest) E w := by
  refine RO_loud hi fun a ha K hK => ?_
  rw [if_neg (by simpa [Region.wanted, yielded_of ha hj hv] using hb)]
  exact hK _ _ (Kp.refl G w) _ (ha.put d hd undef) h
theorem RO_guL {G : Nat → Prop} {i d j dj : Nat} {b : Bool} {op : Op} {ty : TypeId} {pos : String} {aft : Array Edge} {rest : List (Nat × Bool)} (hi : ops[i]? = some ⟨some d, op, ty, pos, aft, some (j, b)⟩)
    (hj : (ops[j]?).bind (·.dst) = some dj) (hv : lk E dj = some undef) (hd : Nat.blt d N = true)
    (h : RO P N G ops Q rest ((d, undef) :: E) w) : RO P N G ops Q ((i, false) :: rest) E w := by
  refine RO_loud hi fun a ha K hK => ?_
  rw [if_neg (by simp [Region.wanted, yielded_of ha hj hv, undef])]
  exact hK _ _ (Kp.refl G w) _ (ha.put d hd undef) h
end
theorem Blk.bt {w w' : World} {g g' : Nat} {t : TypeId} {cs : List Value} (h : Blk w g' t cs) (hb : But g w w') (hne : g' ≠ g) : Blk w' g' t cs := h.grown hb (fun e => hne (by injection e))
/-- a slice and what it holds, its rows between two blocks -/
structure Rw (w : World) (lo B sz : Nat) (A : Option Addr) (n c : Nat) (xs : List Value) : Prop where
  rd : Rd w B sz A n xs
  cap : n ≤ c
  nil : A = none → c = 0
  low : ∀ ad, A = some ad → lo ≤ ad.block
theorem Rw.ext {w w' : World} {lo B sz n c : Nat} {A : Option Addr} {xs : List Value} (h : Rw w lo B sz A n c xs) (hb : Ext w w') : Rw w' lo B sz A n c xs := ⟨h.rd.ext hb, h.cap, h.nil, h.low⟩
theorem Rw.kp {G : Nat → Prop} {w w' : World} {lo B sz n c : Nat} {A : Option Addr} {xs : List Value} (h : Rw w lo B sz A n c xs) (hb : Kp G w w') (hG : ∀ k, G k → k < lo ∨ B ≤ k) : Rw w' lo B sz A n c xs :=
  ⟨⟨h.rd.len, fun hn => by
    obtain ⟨ad, e, hb', hc⟩ := h.rd.cells hn
    exact ⟨ad, e, hb', fun j u hu => hb.cell (hc j u hu) (fun hg => by have := hG _ hg; have := h.low ad e; rw [add_block] at *; omega)⟩⟩, h.cap, h.nil, h.low⟩
theorem Rw.bt {w w' : World} {g lo B sz n c : Nat} {A : Option Addr} {xs : List Value} (h : Rw w lo B sz A n c xs) (hb : But g w w') (hg : g < lo ∨ B ≤ g) : Rw w' lo B sz A n c xs := h.kp (Kp.of_but (G := fun k => k = g) hb rfl) (fun k hk => by obtain rfl := hk; exact hg)
theorem Rw.none {w : World} {lo B sz : Nat} : Rw w lo B sz Option.none 0 0 [] := ⟨Rd.none _ _ _, Nat.le_refl _, fun _ => rfl, fun _ h => by cases h⟩
theorem Own.rw_ {w : World} {base sz n c : Nat} {e : TypeId} {A : Option Addr} {xs : List Value} (h : Own w base e sz A n c xs) : Rw w base w.heap.size sz A n c xs := ⟨h.rd, h.cap.1, fun e => (h.none_ e).1, fun ad e => (h.lt' ad e).1⟩
theorem Rw.more {w : World} {lo lo' B B' sz n c : Nat} {A : Option Addr} {xs : List Value} (h : Rw w lo B sz A n c xs) (hl : lo' ≤ lo) (hB : B ≤ B') : Rw w lo' B' sz A n c xs := ⟨h.rd.more hB, h.cap, h.nil, fun ad e => Nat.le_trans hl (h.low ad e)⟩
/-! ### 17. 'a && b', 'a || b': both ways meet again -/
/-- quiet operations, behind which E2 is known -/
def QL (P : Program) (N : Nat) (ops : Array Oper) (l : List Oper) (E : Env) (w : World) (E2 : Env) : Prop := ∀ Q l2, RL P N ops Q l2 E2 w → RL P N ops Q (l ++ l2) E w
/-- none of the first is named in the second -/
def dis (p E : Env) : Bool := E.all fun x => p.all fun y => !Nat.beq y.1 x.1
theorem lk_dis {p E : Env} (h : dis p E = true) {t : Nat} {v : Value} (hv : lk E t = some v) : lk (p ++ E) t = some v := by
  have hm : ∃ u, (t, u) ∈ E := by
    clear h
    induction E with
    | nil => cases hv
    | cons x E ih =>
      obtain ⟨k, u⟩ := x
      simp only [lk] at hv
      cases hb : Nat.beq k t with
      | true => exact ⟨u, by rw [← Nat.eq_of_beq_eq_true hb]; simp⟩
      | false =>
        rw [hb] at hv
        obtain ⟨u', h'⟩ := ih hv
        exact ⟨u', by simp [h']⟩
  obtain ⟨u, hu⟩ := hm
  have h1 := List.all_eq_true.1 h _ hu
  clear h hu
  induction p with
  | nil => exact hv
  | cons y p ih =>
    obtain ⟨k, z⟩ := y
    simp only [List.all_cons, Bool.and_eq_true, Bool.not_eq_true'] at h1
    simp only [List.cons_append, lk, h1.1, cond_false]
    exact ih h1.2
section
variable {P : Program} {N : Nat} {Q : Exit → Act → World → Prop} {E E2 : Env} {w : World} {ops : Array Oper}
theorem QL_nil {dp : Nat} {v : Value} (m : Nat) (hd : E2.drop m = E) (hdis : dis (E2.take m) E = true) (hv : lk E2 dp = some v) : QL P N ops [] E2 w ((dp, v) :: E) := fun Q l2 k a ha => by
  refine k a ⟨ha.size, ha.defers, fun t u hu => ha.tmps t u ?_⟩
  simp only [lk] at hu
  cases hb : Nat.beq dp t with
  | true =>
    rw [hb] at hu
    simp only [cond_true, Option.some.injEq] at hu
    rw [← Nat.eq_of_beq_eq_true hb, hv, hu]
  | false =>
    rw [hb] at hu
    have := lk_dis hdis hu
    rwa [← hd, List.take_append_drop] at this
theorem QL_q {d : Nat} {op : Op} {ty : TypeId} {pos : String} {aft : Array Edge} {rest : List Oper} {v : Value} (hd : Nat.blt d N = true)
    (hy : Yd P (Ext w) E op ty v) (h : QL P N ops rest ((d, v) :: E) w E2) : QL P N ops (⟨some d, op, ty, pos, aft, none⟩ :: rest) E w E2 := fun Q l2 k => RL_q hd hy (h Q l2 k)
theorem QL_gq {d j dj : Nat} {b : Bool} {op : Op} {ty : TypeId} {pos : String} {aft : Array Edge} {rest : List Oper} {v : Value} (hj : (ops[j]?).bind (·.dst) = some dj) (hv : lk E dj = some (.bool b)) (hd : Nat.blt d N = true)
    (hy : Yd P (Ext w) E op ty v) (h : QL P N ops rest ((d, v) :: E) w E2) : QL P N ops (⟨some d, op, ty, pos, aft, some (j, b)⟩ :: rest) E w E2 := fun Q l2 k => RL_gq hj hv hd hy (h Q l2 k)
theorem QL_gn {d j dj : Nat} {b b' : Bool} {op : Op} {ty : TypeId} {pos : String} {aft : Array Edge} {rest : List Oper} (hj : (ops[j]?).bind (·.dst) = some dj) (hv : lk E dj = some (.bool b')) (hb : (b' == b) = false) (hd : Nat.blt d N = true)
    (h : QL P N ops rest ((d, undef) :: E) w E2) : QL P N ops (⟨some d, op, ty, pos, aft, some (j, b)⟩ :: rest) E w E2 := fun Q l2 k => RL_gn hj hv hb hd (h Q l2 k)
theorem QL_gu {d j dj : Nat} {b : Bool} {op : Op} {ty : TypeId} {pos : String} {aft : Array Edge} {rest : List Oper} (hj : (ops[j]?).bind (·.dst) = some dj) (hv : lk E dj = some undef) (hd : Nat.blt d N = true)
    (h : QL P N ops rest ((d, undef) :: E) w E2) : QL P N ops (⟨some d, op, ty, pos, aft, some (j, b)⟩ :: rest) E w E2 := fun Q l2 k => RL_gu hj hv hd (h Q l2 k)
theorem Sim.keep {a : Act} {dp dj : Nat} {u v : Value} (h : Sim N a ((dp, v) :: (dj, u) :: E)) (hd : lk E dj = some u) : Sim N a ((dp, v) :: E) := by
  refine ⟨h.size, h.defers, fun t x hx => h.tmps t x ?_⟩
  simp only [lk] at hx ⊢
  cases hb : Nat.beq dp t with
  | true => rw [hb] at hx; exact hx
  | false =>
    rw [hb] at hx
    simp only [cond_false] at hx ⊢
    cases hc : Nat.beq dj t with
    | true => rw [← Nat.eq_of_beq_eq_true hc, hd] at hx; exact hx
    | false => exact hx
theorem RL_or {l : List Oper} {dj : Nat} {b y : Bool} (dp k : Nat) (hd : lk E dj = some (.bool b)) (h1 : b = false → QL P N ops (l.take k) ((dj, .bool false) :: E) w ((dp, .bool y) :: (dj, .bool false) :: E))
    (h0 : b = true → QL P N ops (l.take k) ((dj, .bool true) :: E) w ((dp, .bool true) :: (dj, .bool true) :: E)) (h2 : RL P N ops Q (l.drop k) ((dp, .bool (b || y)) :: E) w) : RL P N ops Q l E w := by
  rw [← List.take_append_drop k l]
  cases b with
  | true => exact RL_is hd rfl (h0 rfl Q _ (fun a ha => h2 a (ha.keep hd)))
  | false => exact RL_is hd rfl (h1 rfl Q _ (fun a ha => h2 a (ha.keep hd)))
theorem RL_and {l : List Oper} {dj : Nat} {b y : Bool} (dp k : Nat) (hd : lk E dj = some (.bool b)) (h1 : b = true → QL P N ops (l.take k) ((dj, .bool true) :: E) w ((dp, .bool y) :: (dj, .bool true) :: E))
    (h0 : b = false → QL P N ops (l.take k) ((dj, .bool false) :: E) w ((dp, .bool false) :: (dj, .bool false) :: E)) (h2 : RL P N ops Q (l.drop k) ((dp, .bool (b && y)) :: E) w) : RL P N ops Q l E w := by
  rw [← List.take_append_drop k l]
  cases b with
  | true => exact RL_is hd rfl (h1 rfl Q _ (fun a ha => h2 a (ha.keep hd)))
  | false => exact RL_is hd rfl (h0 rfl Q _ (fun a ha => h2 a (ha.keep hd)))
theorem QL_or {l : List Oper} {dj : Nat} {b y : Bool} (dp k : Nat) (hd : lk E dj = some (.bool b)) (h1 : b = false → QL P N ops (l.take k) ((dj, .bool false) :: E) w ((dp, .bool y) :: (dj, .bool false) :: E))
    (h0 : b = true → QL P N ops (l.take k) ((dj, .bool true) :: E) w ((dp, .bool true) :: (dj, .bool true) :: E)) (h2 : QL P N ops (l.drop k) ((dp, .bool (b || y)) :: E) w E2) : QL P N ops l E w E2 := fun Q l2 K => by
  have := h2 Q l2 K
  rw [← List.take_append_drop k l, List.append_assoc]
  cases b with
  | true => exact RL_is hd rfl (h0 rfl Q _ (fun a ha => this a (ha.keep hd)))
  | false => exact RL_is hd rfl (h1 rfl Q _ (fun a ha => this a (ha.keep hd)))
theorem QL_and {l : List Oper} {dj : Nat} {b y : Bool} (dp k : Nat) (hd : lk E dj = some (.bool b)) (h1 : b = true → QL P N ops (l.take k) ((dj, .bool true) :: E) w ((dp, .bool y) :: (dj, .bool true) :: E))
    (h0 : b = false → QL P N ops (l.take k) ((dj, .bool false) :: E) w ((dp, .bool false) :: (dj, .bool false) :: E)) (h2 : QL P N ops (l.drop k) ((dp, .bool (b && y)) :: E) w E2) : QL P N ops l E w E2 := fun Q l2 K => by
  have := h2 Q l2 K
  rw [← List.take_append_drop k l, List.append_assoc]
  cases b with
  | true => exact RL_is hd rfl (h1 rfl Q _ (fun a ha => this a (ha.keep hd)))
  | false => exact RL_is hd rfl (h0 rfl Q _ (fun a ha => this a (ha.keep hd)))
end
theorem Rw.fit {w : World} {lo B n c : Nat} {A : Option Addr} {xs : List Value} (h : Rw w lo B 1 A n c xs) : Rw w lo w.heap.size 1 A n c xs :=
  ⟨⟨h.rd.len, fun hn => by
    obtain ⟨ad, e, _, hc⟩ := h.rd.cells hn
    refine ⟨ad, e, ?_, hc⟩
    have hl : 0 < xs.length := by rw [h.rd.len]; omega
    have := World.block_lt_of_cell? w _ (hc 0 xs[0] (List.getElem?_eq_getElem hl))
    rwa [add_block] at this⟩, h.cap, h.nil, h.low⟩
/-! ### 18. A region that draws its order, where more is held besides: I -/
section
variable {P : Program} {N : Nat} {Q : Exit → Act → World → Prop} {E : Env} {w : World} {ops : Array Oper} {G : Nat → Prop} {I : World → Prop}
def RH (P : Program) (N : Nat) (G : Nat → Prop) (I : World → Prop) (ops : Array Oper) (Q : Exit → Act → World → Prop) (l : List (Nat × Bool)) (E : Env) (w : World) : Prop :=
  I w → Region.noSelect ops = true → (∀ c a d v w, Q (.panic c) (a.put d v) w → Q (.panic c) a w) →
  ∀ listed, okOrder ops listed l = true → ∀ a, Sim N a E → wpAnyH P .any ops Q (fun W => Kp G w W ∧ I W) l.length listed a w
theorem C_regionH {id : Nat} {l : List (Nat × Bool)} (G : Nat → Prop) (I : World → Prop) (hm : P.follows .mixedOrders = true) (hn : Region.noSelect ops = true) (hl : l.length = ops.size) (ho : okOrder ops (Array.replicate ops.size false) l = true)
    (hQ : ∀ c a d v w, Q (.panic c) (a.put d v) w → Q (.panic c) a w) (h : ∀ w1, Ext w w1 → w1.heap = w.heap → I w1 ∧ RH P N G I ops Q l E w1) : C P N Q (.region id ops true) E w := fun a ha => by
  refine wp_region_held hm (S := fun W => Kp G w.drew W ∧ I W) ?_
  have h0 := h w.drew ((Below.refl _ _).drew) rfl
  have := h0.2 h0.1 hn hQ _ ho a ha
  rw [hl] at this
  exact this
theorem RH_nil (h : X N Q .normal E w) : RH P N G I ops Q [] E w := fun _ _ _ listed ho a ha => by
  refine wpAnyH_done ?_ (h a ha) 0
  simpa [okOrder] using ho
theorem RH_q {i d : Nat} {op : Op} {ty : TypeId} {pos : String} {aft : Array Edge} {rest : List (Nat × Bool)} {v : Value} (hi : ops[i]? = some ⟨some d, op, ty, pos, aft, none⟩) (hd : Nat.blt d N = true)
    (hy : Yd P (fun W => Kp G w W ∧ I W) E op ty v) (h : RH P N G I ops Q rest ((d, v) :: E) w) : RH P N G I ops Q ((i, true) :: rest) E w := fun hI hn hQ listed ho a ha => by
  simp only [okOrder, Bool.and_eq_true] at ho
  exact wpAnyH_take hi hn ho.1 ho.2.1 (fun c a w => hQ c a _ _ w) (.inl ⟨by simp [Region.wanted], fun W hW => hy N a ha _ rfl rfl W hW⟩) ⟨Kp.refl G w, hI⟩ (h hI hn hQ _ ho.2.2 _ (ha.put d hd v))
theorem RH_gq {i d j dj : Nat} {b : Bool} {op : Op} {ty : TypeId} {pos : String} {aft : Array Edge} {rest : List (Nat × Bool)} {v : Value} (hi : ops[i]? = some ⟨some d, op, ty, pos, aft, some (j, b)⟩)
    (hj : (ops[j]?).bind (·.dst) = some dj) (hv : lk E dj = some (.bool b)) (hd : Nat.blt d N = true)
    (hy : Yd P (fun W => Kp G w W ∧ I W) E op ty v) (h : RH P N G I ops Q rest ((d, v) :: E) w) : RH P N G I ops Q ((i, true) :: rest) E w := fun hI hn hQ listed ho a ha => by
  simp only [okOrder, Bool.and_eq_true] at ho
  exact wpAnyH_take hi hn ho.1 ho.2.1 (fun c a w => hQ c a _ _ w) (.inl ⟨by simp [Region.wanted, yielded_of ha hj hv], fun W hW => hy N a ha _ rfl rfl W hW⟩) ⟨Kp.refl G w, hI⟩ (h hI hn hQ _ ho.2.2 _ (ha.put d hd v))
theorem RH_gn {i d j dj : Nat} {b b' : Bool} {op : Op} {ty : TypeId} {pos : String} {aft : Array Edge} {rest : List (Nat × Bool)} (hi : ops[i]? = some ⟨some d, op, ty, pos, aft, some (j, b)⟩)
    (hj : (ops[j]?).bind (·.dst) = some dj) (hv : lk E dj = some (.bool b')) (hb : (b' == b) = false) (hd : Nat.blt d N = true)
    (h : RH P N G I ops Q rest ((d, undef) :: E) w) : RH P N G I ops Q ((i, true) :: rest) E w := fun hI hn hQ listed ho a ha => by
  simp only [okOrder, Bool.and_eq_true] at ho
  exact wpAnyH_take hi hn ho.1 ho.2.1 (fun c a w => hQ c a _ _ w) (.inr ⟨by simpa [Region.wanted, yielded_of ha hj hv] using hb, rfl⟩) ⟨Kp.refl G w, hI⟩ (h hI hn hQ _ ho.2.2 _ (ha.put d hd undef))
theorem RH_gu {i d j dj : Nat} {b : Bool} {op : Op} {ty : TypeId} {pos : String} {aft : Array Edge} {rest : List (Nat × Bool)} (hi : ops[i]? = some ⟨some d, op, ty, pos, aft, some (j, b)⟩)
    (hj : (ops[j]?).bind (·.dst) = some dj) (hv : lk E dj = some undef) (hd : Nat.blt d N = true)
    (h : RH P N G I ops Q rest ((d, undef) :: E) w) : RH P N G I ops Q ((i, true) :: rest) E w := fun hI hn hQ listed ho a ha => by
  simp only [okOrder, Bool.and_eq_true] at ho
  exact wpAnyH_take hi hn ho.1 ho.2.1 (fun c a w => hQ c a _ _ w) (.inr ⟨by simp [Region.wanted, yielded_of ha hj hv, undef], rfl⟩) ⟨Kp.refl G w, hI⟩ (h hI hn hQ _ ho.2.2 _ (ha.put d hd undef))
theorem RH_loud {i : Nat} {o : Oper} {rest : List (Nat × Bool)} (hi : ops[i]? = some o)
    (h : ∀ a, Sim N a E → ∀ K : Act → World → Prop, (∀ a' w', Kp G w w' → I w' → ∀ E', Sim N a' E' → RH P N G I ops Q rest E' w' → K a' w') → I w → if Region.wanted o (yielded ops a.tmps) = true then o.wp P a w K Q else K (a.put o.dst undef) w) :
    RH P N G I ops Q ((i, false) :: rest) E w := fun hI hn hQ listed ho a ha => by
  simp only [okOrder, Bool.and_eq_true, decide_eq_true_eq] at ho
  refine wpAnyH_all ho.1 (by simp) ?_
  intro i' hi'
  obtain rfl : i' = i := by simpa using hi'
  refine wpOp_step hi (fun K hK => ?_)
  refine h a ha K (fun a' w' he hi E' hE' hR => hK a' w' ⟨⟨he, hi⟩, ?_⟩) hI
  exact wpAnyH_mono (fun W hW => ⟨he.trans hW.1, hW.2⟩) _ _ _ _ (hR hi hn hQ _ ho.2 a' hE')
theorem RH_l {i d : Nat} {op : Op} {ty : TypeId} {pos : String} {aft : Array Edge} {rest : List (Nat × Bool)} (hi : ops[i]? = some ⟨some d, op, ty, pos, aft, none⟩) (hd : Nat.blt d N = true)
    (h : Ld P E op ty w Q (fun v w' => Kp G w w' ∧ I w' ∧ RH P N G I ops Q rest ((d, v) :: E) w')) : RH P N G I ops Q ((i, false) :: rest) E w := by
  refine RH_loud hi fun a ha K hK _ => ?_
  rw [if_pos (by simp [Region.wanted])]
  refine Oper.wp_mono (fun a' w' => ?_) (h N a ha ⟨some d, op, ty, pos, aft, none⟩ rfl rfl)
  rintro ⟨v, rfl, he, hi, hv⟩
  exact hK _ _ he hi _ (ha.put d hd v) hv
theorem RH_l0 {i : Nat} {op : Op} {ty : TypeId} {pos : String} {aft : Array Edge} {rest : List (Nat × Bool)} (hi : ops[i]? = some ⟨none, op, ty, pos, aft, none⟩)
    (h : Ld P E op ty w Q (fun _ w' => Kp G w w' ∧ I w' ∧ RH P N G I ops Q rest E w')) : RH P N G I ops Q ((i, false) :: rest) E w := by
  refine RH_loud hi fun a ha K hK _ => ?_
  rw [if_pos (by simp [Region.wanted])]
  refine Oper.wp_mono (fun a' w' => ?_) (h N a ha ⟨none, op, ty, pos, aft, none⟩ rfl rfl)
  rintro ⟨v, rfl, he, hi, hv⟩
  exact hK _ _ he hi _ ha hv
theorem RO_l0 {i : Nat} {op : Op} {ty : TypeId} {pos : String} {aft : Array Edge} {rest : List (Nat × Bool)} (hi : ops[i]? = some ⟨none, op, ty, pos, aft, none⟩)
    (h : Ld P E op ty w Q (fun _ w' => Kp G w w' ∧ RO P N G ops Q rest E w')) : RO P N G ops Q ((i, false) :: rest) E w := by
  refine RO_loud hi fun a ha K hK => ?_
  rw [if_pos (by simp [Region.wanted])]
  refine Oper.wp_mono (fun a' w' => ?_) (h N a ha ⟨none, op, ty, pos, aft, none⟩ rfl rfl)
  rintro ⟨v, rfl, he, hv⟩
  exact hK _ _ he _ ha hv
theorem RH_gl {i d j dj : Nat} {b : Bool} {op : Op} {ty : TypeId} {pos : String} {aft : Array Edge} {rest : List (Nat × Bool)} (hi : ops[i]? = some ⟨some d, op, ty, pos, aft, some (j, b)⟩)
    (hj : (ops[j]?).bind (·.dst) = some dj) (hv : lk E dj = some (.bool b)) (hd : Nat.blt d N = true)
    (h : Ld P E op ty w Q (fun v w' => Kp G w w' ∧ I w' ∧ RH P N G I ops Q rest ((d, v) :: E) w')) : RH P N G I ops Q ((i, false) :: rest) E w := by
  refine RH_loud hi fun a ha K hK _ => ?_
  rw [if_pos (by simp [Region.wanted, yielded_of ha hj hv])]
  refine Oper.wp_mono (fun a' w' => ?_) (h N a ha ⟨some d, op, ty, pos, aft, some (j, b)⟩ rfl rfl)
  rintro ⟨v, rfl, he, hi, hv⟩
  exact hK _ _ he hi _ (ha.put d hd v) hv
theorem RH_is {l : List (Nat × Bool)} {d : Nat} {b b' : Bool} (hd : lk E d = some (.bool b)) (e : b = b') (h : RH P N G I ops Q l ((d, .bool b') :: E) w) : RH P N G I ops Q l E w := fun hI hn hQ listed ho a ha => h hI hn hQ listed ho a (ha.is hd (by rw [e]))
theorem RH_case {l : List (Nat × Bool)} {d : Nat} {b : Bool} (hd : lk E d = some (.bool b)) (ht : b = true → RH P N G I ops Q l ((d, .bool true) :: E) w) (hf : b = false → RH P N G I ops Q l ((d, .bool false) :: E) w) : RH P N G I ops Q l E w := by
  cases b with
  | true => exact RH_is hd rfl (ht rfl)
  | false => exact RH_is hd rfl (hf rfl)
end
theorem ldBK {G : Nat → Prop} {w W : World} {g i : Nat} {t : TypeId} {cs : List Value} {v : Value} (h : Blk w g t cs) (hv : cs[i]? = some v) (hb : Kp G w W) (hg : ¬ G g) : W.cell? ⟨g, i, none⟩ = some v := by rw [(h.kp hb hg).cell]; exact hv
theorem run_equalIn_SN {P : Program} {t te : TypeId} {d n c : Nat} {A : Option Addr} (hT : P.underlying t = some (.slice te)) (W : World) : (Op.equalIn (d + 1) t (.slice A n c) (.slice none 0 0)).run P W = .ok A.isNone W := by
  cases A <;> simp [Op.equalIn, run_underlying hT]
theorem Yd_eqlSN {P : Program} {S : World → Prop} {E : Env} {ty t t2 te : TypeId} {x y : Operand} {A : Option Addr} {n c : Nat} (hT : P.underlying t = some (.slice te)) (hx : ev E x = some (.slice A n c)) (hy : ev E y = some (.slice none 0 0)) : Yd P S E (.binOp .eql t x y t2) ty (.bool A.isNone) :=
  fun N a ha o ho ht W hW => by
    have h : (binOp .eql t (.slice A n c) (.slice none 0 0)).run P W = .ok (.bool A.isNone) W := by
      simp only [binOp]
      simp [Op.equal, Op.maxDepth, run_equalIn_SN (d := 9999) hT]
    simp [execOp, ho, ha.ev hx, ha.ev hy, eqGuard, h]
theorem Yd_neqSN {P : Program} {S : World → Prop} {E : Env} {ty t t2 te : TypeId} {x y : Operand} {A : Option Addr} {n c : Nat} (hT : P.underlying t = some (.slice te)) (hx : ev E x = some (.slice A n c)) (hy : ev E y = some (.slice none 0 0)) : Yd P S E (.binOp .neq t x y t2) ty (.bool (!A.isNone)) :=
  fun N a ha o ho ht W hW => by
    have h : (binOp .neq t (.slice A n c) (.slice none 0 0)).run P W = .ok (.bool (!A.isNone)) W := by
      simp only [binOp]
      simp [Op.equal, Op.maxDepth, run_equalIn_SN (d := 9999) hT]
    simp [execOp, ho, ha.ev hx, ha.ev hy, eqGuard, h]
/-- a quiet operation where it comes up alone: in this world only -/
theorem Ld_yd {P : Program} {E : Env} {op : Op} {ty : TypeId} {w : World} {Q : Exit → Act → World → Prop} {K : Value → World → Prop} {v : Value} (hy : Yd P (fun W => W = w) E op ty v) (hK : K v w) : Ld P E op ty w Q K :=
  Ld.of_run v w (fun N a ha o ho ht => hy N a ha o ho ht w rfl) hK
theorem Own.bt {w w' : World} {base sz n c g : Nat} {e : TypeId} {A : Option Addr} {xs : List Value} (h : Own w base e sz A n c xs) (hb : But g w w') (hg : g < base) : Own w' base e sz A n c xs :=
  World.ownsRow.kept h hb (by
    cases A with
    | none => exact .inl rfl
    | some ad => exact .inr (fun e => by have h1 := (h.lt' ad rfl).1; have e : ad.block = g := by injection e
                                         omega))
/-! ### 19. '[]byte("..")' of a constant: the literal's row is marked -/
theorem mark_freeze {w : World} {g : Nat} {ti : TypeId} {cs : List Value} (h : Blk w g ti cs) (o : Nat) : But g w (w.freeze ⟨g, o, none⟩ 1) ∧ (w.freeze ⟨g, o, none⟩ 1).heap.size = w.heap.size ∧ ∀ i, (w.freeze ⟨g, o, none⟩ 1).cell? ⟨g, i, none⟩ = cs[i]? := by
  have hlt := h.lt
  unfold World.freeze
  rw [if_neg (by decide)]
  refine ⟨⟨rfl, rfl, rfl, ?_, fun k hk hne => ?_⟩, ?_, fun i => ?_⟩
  · simp
  · have : g ≠ k := fun e => hne (by rw [e])
    simp [Array.getElem?_modify, this]
  · simp
  · have h0 : w.heap[g]? = some (.cells cs.toArray ti (0, 0)) := h
    simp [World.cell?, Array.getElem?_modify, h0]
theorem Ld_mark {P : Program} {E : Env} {w : World} {Q : Exit → Act → World → Prop} {K : Value → World → Prop} {ty t e : TypeId} {x : Operand} {g n c : Nat} {ti : TypeId} {cs : List Value} (ht : P.underlying t = some (.slice e)) (he : P.underlying e = some (.int .u8)) (hx : ev E x = some (.slice (some ⟨g, 0, none⟩) n c)) (hb : Blk w g ti cs) (hn : cs.length = n)
    (hK : ∀ w', But g w w' → w'.heap.size = w.heap.size → Rd w' w'.heap.size 1 (some ⟨g, 0, none⟩) n cs → K (.slice (some ⟨g, 0, none⟩) n c) w') : Ld P E (.convert t t x) ty w Q K := by
  obtain ⟨h1, h2, h3⟩ := mark_freeze hb cs.length
  have h0 : w.heap[g]? = some (.cells cs.toArray ti (0, 0)) := hb
  have hsh : w.shape? g = some (ti, cs.length) := by unfold World.shape?; rw [h0]; simp
  refine Ld.of_run _ (w.freeze ⟨g, cs.length, none⟩ 1) (fun N a ha o ho hty => ?_) (hK _ h1 h2 ⟨by simp [hn], fun _ => ⟨_, rfl, by rw [h2]; exact hb.lt, fun j u hu => by rw [add_lit, Nat.zero_add, h3]; exact hu⟩⟩)
  simp [execOp, ho, ha.ev hx, convert, run_underlying ht, run_underlying he, markStringish, hsh]
end Go.Proofs.AL
