/- RV at this program: calls that are told of otherwise. -/
import Derived.Test.YtjfckaoppfnicaaGreatDoorShz
import Derived.Test.YtjfckaoppfnicaaGreatDoorKa
import Derived.Lib.Bytealg
import Derived.Recover
import Derived.Test.YtjfckaoppfnicaaGreatDoorRvb
set_option linter.unusedVariables false
set_option linter.unusedSimpArgs false
/- RV: the library's builder. -/
set_option linter.unusedVariables false
set_option linter.unusedSimpArgs false
namespace Go.Proofs.AL.Rx
open Go Go.RowKit Go.Shelf
/-- copyCheck of a fresh one -/
def yChk (s : St) : List AV → Option Res
  | [.ptr b 0] => (match s.mem.get b with
    | some (.cells t [.nilp, v] none) => bif Nat.beq t 113 then some (some [(.tup [], s.put b (.cells t [.ptr b 0, v] none))]) else none
    | _ => none)
  | _ => none
/-- grow of a fresh one -/
def yGrow (s : St) : List AV → Option Res
  | [.ptr b 0, .int .i64 (.ofNat k)] => (match s.mem.get b with
    | some (.cells t [.ptr b' 0, .nils] none) => bif Nat.beq t 113 && (Nat.beq b' b && Nat.ble k 140737488355328) then some (some [(.tup [], (s.put b (.cells t [.ptr b 0, .rw s.nx 0 0 0] none)).new (.cells 5 [] (some 1)))]) else none
    | _ => none)
  | _ => none
def isB : Int → Bool
  | .ofNat n => Nat.blt n 256
  | _ => false
/-- the text of one that holds bytes -/
def yStr (s : St) : List AV → Option Res
  | [.ptr b 0] => (match s.mem.get b with
    | some (.cells t [_, .rw id 0 n _] none) => (match s.mem.get id with
      | some (.cells u cs (some 1)) => (match bytesA (cs.take n) with
        | some x => bif Nat.beq t 113 && (Nat.beq u 5 && (Nat.ble n cs.length && (Nat.blt 0 n && x.all isB))) then some (some [(.str x, s.del id)]) else none
        | none => none)
      | _ => none)
    | _ => none)
  | _ => none
def yB (f : FuncId) (vs : List AV) (s : St) : Option Res :=
  match f with
  | 93 => yChk s vs
  | 258 => yGrow s vs
  | 48 => yStr s vs
  | _ => none
theorem MemOk.add {G : Fb} {ρ : Val} {w : World} {m : Tr Ao} {i n : Nat} {ob : Ao} (h : MemOk G ρ w m) (hlt : ∀ id o, m.get id = some o → ρ.blk id < n) (hn : n ≤ ρ.blk i) (hB : G.B ≤ ρ.blk i) (ho : objOk G.F ρ w i ob) : MemOk G ρ w (Tr.set (some ob) 40 i m) := by
  refine ⟨fun id q hq => ?_, fun id q hq hw => ?_, fun j k q p hq hp hw e => ?_⟩
  · rcases Tr.get_set _ _ _ _ hq with ⟨rfl, e⟩ | ⟨_, hq⟩
    · injection e with e; subst e; exact ho
    · exact h.ok id q hq
  · rcases Tr.get_set _ _ _ _ hq with ⟨rfl, e⟩ | ⟨_, hq⟩
    · exact hB
    · exact h.lo id q hq hw
  · rcases Tr.get_set _ _ _ _ hq with ⟨rfl, e1⟩ | ⟨n1, hq1⟩ <;> rcases Tr.get_set _ _ _ _ hp with ⟨rfl, e2⟩ | ⟨n2, hp1⟩
    · rfl
    · have := hlt _ _ hp1; omega
    · have := hlt _ _ hq1; omega
    · exact h.inj j k q p hq1 hp1 hw e
theorem MemOk.gone {G : Fb} {ρ : Val} {w w' : World} {m : Tr Ao} {i : Nat} {ob : Ao} (h : MemOk G ρ w m) (hg : m.get i = some ob) (hwi : wr ob = true) (he : But (ρ.blk i) w w') : MemOk G ρ w' (Tr.set none 40 i m) := by
  have hbl : Below G.B w w' := he.below (Nat.le_trans (h.lo i ob hg hwi) (Nat.le_of_lt (h.lt hg))) (h.lo i ob hg hwi)
  have old : ∀ id q, (Tr.set (none : Option Ao) 40 i m).get id = some q → id ≠ i ∧ m.get id = some q := fun id q hq => by
    rcases Tr.get_set _ _ _ _ hq with ⟨_, e⟩ | hq
    · cases e
    · exact hq
  refine ⟨fun id q hq => ?_, fun id q hq hw => h.lo id q (old id q hq).2 hw, fun j k q p hq hp hw e => h.inj j k q p (old _ _ hq).2 (old _ _ hp).2 hw e⟩
  obtain ⟨h1, h2⟩ := old id q hq
  exact objOk_kp (h.ok id q h2) (he.block _ (h.lt h2) (fun e => h1 (h.inj i id ob q hg h2 hwi (by injection e with e; exact e.symm)).symm)) hbl
def isFnB (P : Program) (f : FuncId) : Bool :=
  match P.funcs[f]? with
  | some fn => !(fn.name == "runtime.NumGoroutine") && fn.body.isSome
  | none => false
theorem isFn_of {P : Program} {f : FuncId} (h : isFnB P f = true) : IsFn P f := by
  unfold isFnB at h
  split at h
  · rename_i fn hf
    simp only [Bool.and_eq_true, Bool.not_eq_true'] at h
    exact ⟨fn, hf, h.1, h.2⟩
  · cases h
section
variable {G : Fb}
theorem isFn48 : IsFn Tryz.prog 48 := isFn_of (by kernel_rfl)
theorem isFn93 : IsFn Tryz.prog 93 := isFn_of (by kernel_rfl)
theorem isFn258 : IsFn Tryz.prog 258 := isFn_of (by kernel_rfl)
theorem chk_ok {vs : List AV} {s : St} {l : List (AV × St)} (hl : yChk s vs = some (some l)) (A : Nat → Prop) (ρ : Val) (w : World) (args : Array Value) (hB : G.B ≤ w.heap.size) (hargs : ∀ ρ', Agree A ρ ρ' → (concs G.F ρ' vs).toArray = args ∧ MemOk G ρ' w s.mem) : Calls Tryz.prog 93 args w (CallPost G A ρ s.nx w l) := by
  unfold yChk at hl
  split at hl
  · rename_i b
    split at hl
    · rename_i t v hg
      cases ht : Nat.beq t 113 with
      | false => simp only [ht, cond_false] at hl; cases hl
      | true =>
        simp only [ht, cond_true] at hl
        injection hl with hl; injection hl with hl; subst hl
        obtain rfl := Nat.eq_of_beq_eq_true ht
        obtain ⟨ha, hm⟩ := hargs ρ (Agree.refl _ _)
        have ho := hm.ok _ _ hg
        simp only [objOk] at ho
        simp only [concs, conc] at ha
        subst ha
        refine Calls.mono (Any.Builder_copyCheck_fresh lays240 builderX.toX72 (ρ.blk b) w (by rw [Lib.cell_of_heap ho]; rfl) (by simp [World.shape?, ho, concs]; rfl) (Lib.frozen_of_heap ho 0)) fun e w' he => ?_
        obtain ⟨rfl, rfl⟩ := he
        have hbut := But.of_set w (ρ.blk b) 0 (.pointer (some ⟨ρ.blk b, 0, none⟩))
        have key : ∀ ρ', Agree A ρ ρ' → MemOk G ρ' (w.setCell ⟨ρ.blk b, 0, none⟩ (.pointer (some ⟨ρ.blk b, 0, none⟩))) (s.put b (.cells 113 [.ptr b 0, v] none)).mem ∧ Below G.B w (w.setCell ⟨ρ.blk b, 0, none⟩ (.pointer (some ⟨ρ.blk b, 0, none⟩))) := fun ρ' k => by
          obtain ⟨ha', hm'⟩ := hargs ρ' k
          simp only [concs, conc] at ha'
          have hb : ρ'.blk b = ρ.blk b := by simpa using ha'
          refine hm'.put hg rfl (by rw [hb]; exact hbut) ?_
          have ho' := hm'.ok _ _ hg
          simp only [objOk] at ho'
          rw [hb] at ho'
          simp only [objOk, hb, concs, conc] at ho' ⊢
          simp [World.setCell, Array.getElem?_modify, ho', hb]
        exact ⟨.tup [], _, A, ρ, List.mem_singleton.2 rfl, ⟨Agree.refl _ _, fun _ h => .inl h, fun _ h => h, Nat.le_refl _, (key ρ (Agree.refl _ _)).2, hbut.size⟩, fun ρ' k => ⟨rfl, (key ρ' k).1⟩⟩
    · cases hl
  · cases hl
theorem grow_ok {vs : List AV} {s : St} {l : List (AV × St)} (hl : yGrow s vs = some (some l)) (A : Nat → Prop) (ρ : Val) (w : World) (args : Array Value) (hA : ∀ i, A i → i < s.nx) (hB : G.B ≤ w.heap.size) (hargs : ∀ ρ', Agree A ρ ρ' → (concs G.F ρ' vs).toArray = args ∧ MemOk G ρ' w s.mem) : Calls Tryz.prog 258 args w (CallPost G A ρ s.nx w l) := by
  unfold yGrow at hl
  split at hl
  · rename_i b k
    split at hl
    · rename_i t b' hg
      cases ht : Nat.beq t 113 && (Nat.beq b' b && Nat.ble k 140737488355328) with
      | false => simp only [ht, cond_false] at hl; cases hl
      | true =>
        simp only [ht, cond_true] at hl
        injection hl with hl; injection hl with hl; subst hl
        simp only [Bool.and_eq_true] at ht
        obtain ⟨ht, hbb, hk⟩ := ht
        obtain rfl := Nat.eq_of_beq_eq_true ht
        obtain rfl := Nat.eq_of_beq_eq_true hbb
        have hk := Nat.le_of_ble_eq_true hk
        obtain ⟨ha, hm⟩ := hargs ρ (Agree.refl _ _)
        have ho := hm.ok _ _ hg
        simp only [objOk, concs, conc] at ho
        simp only [concs, conc] at ha
        subst ha
        refine Calls.mono (grow_calls lays241 builderX (ρ.blk b') k w ho hk) fun e w' he => ?_
        obtain ⟨rfl, cs, hcs, hnew, hold, hbut⟩ := he
        have hni : ¬ A s.nx := fun h => Nat.lt_irrefl _ (hA _ h)
        have hag : Agree A ρ (withNew ρ s.nx (.slice (some ⟨w.heap.size, 0, none⟩) 0 cs.size)) := agree_with hni
        have key : ∀ ρ', Agree (fun i => A i ∨ i = s.nx) (withNew ρ s.nx (.slice (some ⟨w.heap.size, 0, none⟩) 0 cs.size)) ρ' → MemOk G ρ' w' ((s.put b' (.cells 113 [.ptr b' 0, .rw s.nx 0 0 0] none)).new (.cells 5 [] (some 1))).mem ∧ Below G.B w w' := fun ρ' k => by
          have k1 : Agree A ρ ρ' := hag.trans (fun _ h => .inl h) k
          obtain ⟨ha', hm'⟩ := hargs ρ' k1
          simp only [concs, conc] at ha'
          have hb : ρ'.blk b' = ρ.blk b' := by simpa using ha'
          obtain ⟨n1, n2⟩ := k s.nx (.inr rfl)
          have hbn : ρ'.blk s.nx = w.heap.size := by rw [n1]; simp [withNew]
          have hcn : ρ'.cap s.nx = cs.size := by rw [n2]; simp [withNew]
          have hput := hm'.put (w' := w') (ob' := .cells 113 [.ptr b' 0, .rw s.nx 0 0 0] none) hg rfl (by rw [hb]; exact hbut) (by
            simp only [objOk, concs, conc, hb, hbn, hcn, Nat.zero_add]
            exact hold)
          refine ⟨hput.1.add (n := w.heap.size) (fun id o ho => ?_) (Nat.le_of_eq hbn.symm) (by show G.B ≤ ρ'.blk s.nx; rw [hbn]; exact hB) ⟨cs.toList, 0, ?_, rfl, ?_, ?_⟩, hput.2⟩
          · rcases Tr.get_set _ _ _ _ ho with ⟨rfl, _⟩ | ⟨_, ho⟩
            · exact hm'.lt hg
            · exact hm'.lt ho
          · show w'.heap[ρ'.blk s.nx]? = _
            rw [hbn]; exact (by simpa [concs] using hnew : w'.heap[w.heap.size]? = some (.cells ([] ++ cs.toList).toArray (ρB.t 5) (0, 0)))
          · show _ = ρ'.cap s.nx * 1
            rw [hcn]; simp
          · show 0 + ρ'.cap s.nx ≤ _
            rw [hcn]; omega
        exact ⟨.tup [], _, fun i => A i ∨ i = s.nx, withNew ρ s.nx (.slice (some ⟨w.heap.size, 0, none⟩) 0 cs.size), List.mem_singleton.2 rfl, ⟨hag, fun i h => h.imp id fun e => ⟨Nat.le_of_eq e.symm, by rw [e]; exact Nat.lt_succ_self _⟩, fun _ h => .inl h, Nat.le_succ _, (key _ (Agree.refl _ _)).2, hbut.size⟩, fun ρ' k => ⟨rfl, (key ρ' k).1⟩⟩
    · cases hl
  · cases hl
theorem ints_u8 : ∀ (x : List Int), x.all isB = true → ints .u8 x = Lib.byteCells (x.map fun n => UInt8.ofNat n.toNat)
  | [], _ => rfl
  | v :: r, h => by
    simp only [List.all_cons, Bool.and_eq_true] at h
    have ih := ints_u8 r h.2
    simp only [ints, Lib.byteCells, List.map_cons] at ih ⊢
    rw [ih]
    congr 2
    have h1 := h.1
    cases v with
    | negSucc n => cases h1
    | ofNat n =>
      have hn : n < 256 := Nat.lt_of_succ_le (Nat.le_of_ble_eq_true h1)
      show ((n : Nat) : Int) = _
      simp [Nat.mod_eq_of_lt hn]
theorem str_ok {vs : List AV} {s : St} {l : List (AV × St)} (hl : yStr s vs = some (some l)) (A : Nat → Prop) (ρ : Val) (w : World) (args : Array Value) (hA : ∀ i, A i → i < s.nx) (hB : G.B ≤ w.heap.size) (hargs : ∀ ρ', Agree A ρ ρ' → (concs G.F ρ' vs).toArray = args ∧ MemOk G ρ' w s.mem) : Calls Tryz.prog 48 args w (CallPost G A ρ s.nx w l) := by
  unfold yStr at hl
  split at hl
  · rename_i b
    split at hl
    · rename_i t v id n more hg
      split at hl
      · rename_i u cs hi
        split at hl
        · rename_i x hx
          cases ht : Nat.beq t 113 && (Nat.beq u 5 && (Nat.ble n cs.length && (Nat.blt 0 n && x.all isB))) with
          | false => simp only [ht, cond_false] at hl; cases hl
          | true =>
            simp only [ht, cond_true] at hl
            injection hl with hl; injection hl with hl; subst hl
            simp only [Bool.and_eq_true] at ht
            obtain ⟨ht, hu, hn, hn0, hxb⟩ := ht
            obtain rfl := Nat.eq_of_beq_eq_true ht
            obtain rfl := Nat.eq_of_beq_eq_true hu
            have hn := Nat.le_of_ble_eq_true hn
            have hn0 : 0 < n := Nat.le_of_ble_eq_true hn0
            obtain ⟨ha, hm⟩ := hargs ρ (Agree.refl _ _)
            have ho := hm.ok _ _ hg
            have hr := hm.ok _ _ hi
            simp only [objOk, concs, conc] at ho
            simp only [concs, conc] at ha
            subst ha
            obtain ⟨rest, k, hr, hk1, hk2, hk3⟩ := hr
            have hux := bytesA_conc G.F ρ _ _ hx
            rw [ints_u8 x hxb, concs_take] at hux
            have hlen : x.length = n := by
              have := congrArg List.length hux
              simp [Lib.byteCells] at this; omega
            have hsplit : concs G.F ρ cs ++ rest = Lib.byteCells (x.map fun n => UInt8.ofNat n.toNat) ++ ((concs G.F ρ cs).drop n ++ rest) := by
              rw [← List.append_assoc, ← hux, List.take_append_drop]
            rw [hsplit] at hr
            have hul : (x.map fun n => UInt8.ofNat n.toNat).length = n := by simpa using hlen
            have hmx : n + more + ρ.cap id ≤ 9223372036854775807 ∨ True := .inr trivial
            have hle : n ≤ 9223372036854775807 := by
              have : maxLen ≤ 9223372036854775807 := by unfold maxLen; decide
              omega
            have hcall := str_calls lays169 builderX (ρ.blk b) (ρ.blk id) (n + more + ρ.cap id) (conc G.F ρ v) (x.map fun n => UInt8.ofNat n.toNat) _ w (by rw [hul]; exact ho) hr (by intro e; rw [e] at hul; simp at hul; omega) (by rw [hul]; omega) (by rw [hul]; exact hle)
            refine Calls.mono hcall fun e w' he => ?_
            obtain ⟨rfl, hbut⟩ := he
            have hgB := hm.lo _ _ hi rfl
            have hbl := hbut.below (Nat.le_trans hgB (Nat.le_of_lt (hm.lt hi))) hgB
            refine ⟨.str x, _, A, ρ, List.mem_singleton.2 rfl, ⟨Agree.refl _ _, fun _ h => .inl h, fun _ h => h, Nat.le_refl _, hbl, hbut.size⟩, fun ρ' k => ⟨rfl, ?_⟩⟩
            obtain ⟨ha', hm'⟩ := hargs ρ' k
            simp only [concs, conc] at ha'
            have hb : ρ'.blk b = ρ.blk b := by simpa using ha'
            have ho' := hm'.ok _ _ hg
            simp only [objOk, concs, conc, hb] at ho'
            rw [ho] at ho'
            have hid : ρ'.blk id = ρ.blk id := by
              simp at ho'
              exact ho'.2.1.symm
            exact hm'.gone hi rfl (by rw [hid]; exact hbut)
        · cases hl
      · cases hl
    · cases hl
  · cases hl
end
end Go.Proofs.AL.Rx
/- RV: the checksum's function. -/
set_option linter.unusedVariables false
set_option linter.unusedSimpArgs false
namespace Go.Proofs.AL.Rx
open Go Go.RowKit Go.Proofs.AL
/-- a byte, whatever it is -/
def byB : AV → Bool
  | .int .u8 n => isB n
  | .sym .u8 _ => true
  | .crc _ j => Nat.blt j 4
  | _ => false
def putR (s : St) (l : List AV) : Option Res := bif Nat.ble l.length 65000 && l.all byB then some (some [(.rw s.nx 0 (l.length + 4) 0, s.new (.cells 5 (l ++ [.crc l 0, .crc l 1, .crc l 2, .crc l 3]) (some 1)))]) else none
def yPut (s : St) : List AV → Option Res
  | [.sl id off n c] => (match cellsAt s.mem id off n with
    | some l => bif Nat.ble n c && Nat.ble c 65000 then putR s l else none
    | none => none)
  | [.rw id off n more] => (match cellsAt s.mem id off n with
    | some l => (match s.mem.get id with
      | some (.cells _ cs (some 1)) => bif Nat.ble (off + (n + more)) cs.length then putR s l else none
      | _ => none)
    | none => none)
  | _ => none
/-- what is known of the bytes -/
structure FxOk (F : Fx) : Prop where
  sym : ∀ k, 0 ≤ F.sym k ∧ F.sym k ≤ 255
  crc : ∀ l j, j < 4 → (le 4 (cmore 0 l))[j]? = some (F.crc l j)
section
variable {G : Fb}
theorem byB_conc {F : Fx} (hF : FxOk F) (ρ : Val) : ∀ (l : List AV), l.all byB = true → ints .u8 ((concs F ρ l).map numV) = concs F ρ l ∧ Byt ((concs F ρ l).map numV)
  | [], _ => ⟨rfl, fun b h => by cases h⟩
  | v :: r, h => by
    simp only [List.all_cons, Bool.and_eq_true] at h
    obtain ⟨i1, i2⟩ := byB_conc hF ρ r h.2
    have key : Value.int .u8 (numV (conc F ρ v)) = conc F ρ v ∧ 0 ≤ numV (conc F ρ v) ∧ numV (conc F ρ v) ≤ 255 := by
      have h1 := h.1
      cases v with
      | int k n =>
        cases k <;> simp only [byB] at h1 <;> first | (cases h1; done) | skip
        cases n with
        | negSucc n => cases h1
        | ofNat n =>
          have hn : n < 256 := Nat.lt_of_succ_le (Nat.le_of_ble_eq_true h1)
          exact ⟨rfl, Int.natCast_nonneg n, by show ((n : Nat) : Int) ≤ 255; omega⟩
      | sym k n =>
        cases k <;> simp only [byB] at h1 <;> first | (cases h1; done) | skip
        exact ⟨rfl, hF.sym n⟩
      | crc l j =>
        have hj : j < 4 := Nat.lt_of_succ_le (Nat.le_of_ble_eq_true h1)
        have := List.mem_of_getElem? (hF.crc ((concs F ρ l).map numV) j hj)
        exact ⟨rfl, le_byt 4 _ _ this⟩
      | _ => cases h1
    refine ⟨?_, fun b hb => ?_⟩
    · simp only [concs, List.map_cons, ints] at i1 ⊢
      rw [i1, key.1]
    · simp only [concs, List.map_cons, List.mem_cons] at hb
      rcases hb with rfl | hb
      · exact key.2
      · exact i2 b hb
theorem isFn51 : IsFn Tryz.prog 51 := isFn_of (by kernel_rfl)
/-- what the call hands back, told -/
theorem putR_ok (hF : FxOk G.F) {s : St} {la : List AV} {l : List (AV × St)} (hl : putR s la = some (some l)) (A : Nat → Prop) (ρ : Val) (w : World) (B : Nat) (ad : Addr) (n c : Nat) (hA : ∀ i, A i → i < s.nx) (hB : G.B ≤ w.heap.size)
    (hr : Rd w B 1 (some ad) n (concs G.F ρ la)) (hn : n ≤ c) (hc : c ≤ maxLen) (hsame : ∀ ρ', Agree A ρ ρ' → concs G.F ρ' la = concs G.F ρ la ∧ MemOk G ρ' w s.mem) :
    Calls Tryz.prog 51 #[.slice (some ad) n c] w (CallPost G A ρ s.nx w l) := by
  unfold putR at hl
  cases hb : Nat.ble la.length 65000 && la.all byB with
  | false => rw [hb] at hl; cases hl
  | true =>
    rw [hb] at hl
    simp only [cond_true] at hl
    injection hl with hl; injection hl with hl; subst hl
    simp only [Bool.and_eq_true] at hb
    obtain ⟨h1, h2⟩ := byB_conc hF ρ la hb.2
    have hlen : la.length = n := by have := hr.len; simpa using this
    have hle := Nat.le_of_ble_eq_true hb.1
    rw [← h1] at hr
    have hv := vw_u8 (lo := 0) (c := c) hr hn hc (fun e => by cases e) h2 rfl
    refine Calls.mono (PutV hv (by omega)) fun e w' he => ?_
    obtain ⟨A0, n0, c0, rfl, how, hext⟩ := he
    have hown := how.own
    rw [cells_ints] at hown
    obtain ⟨hl1, hown⟩ := hown
    rcases hown with ⟨e, h0⟩ | ⟨g, cap, cur, e, hg, hcur, hcap, hmx, hsz, htk⟩
    · subst h0
      exfalso
      simp [ints] at hl1
    · injection e with e1 _ e2
      subst e1 e2
      simp only [show tU8.sz = 1 from rfl, Nat.mul_one] at hl1 htk hsz
      have hsz0 : w.heap.size ≤ g := hg
      have hni : ¬ A s.nx := fun h => Nat.lt_irrefl _ (hA _ h)
      have hag : Agree A ρ (withNew ρ s.nx (.slice (some ⟨g, 0, none⟩) n0 c0)) := agree_with hni
      have hn0 : n0 = la.length + 4 := by
        have := hl1
        simp [ints] at this
        omega
      have key : ∀ ρ', Agree (fun i => A i ∨ i = s.nx) (withNew ρ s.nx (.slice (some ⟨g, 0, none⟩) n0 c0)) ρ' → Ending.returned (.slice (some ⟨g, 0, none⟩) n0 c0) = .returned (conc G.F ρ' (.rw s.nx 0 (la.length + 4) 0)) ∧ MemOk G ρ' w' (s.new (.cells 5 (la ++ [.crc la 0, .crc la 1, .crc la 2, .crc la 3]) (some 1))).mem := fun ρ' k => by
        obtain ⟨k1, k2⟩ := hsame ρ' (hag.trans (fun _ h => .inl h) k)
        obtain ⟨n1, n2⟩ := k s.nx (.inr rfl)
        have hbn : ρ'.blk s.nx = g := by rw [n1]; simp [withNew]
        have hcn : ρ'.cap s.nx = c0 - n0 := by rw [n2]; simp [withNew]
        refine ⟨?_, k2.new hext hB (by show _ ≤ ρ'.blk s.nx; rw [hbn]; exact hg) ⟨cur.toList.drop n0, la.length + 4, ?_, by simp, ?_, ?_⟩⟩
        · simp only [conc, hbn, hcn, hn0]
          have : la.length + 4 + 0 + (c0 - (la.length + 4)) = c0 := by omega
          rw [this]
        · show w'.heap[ρ'.blk s.nx]? = _
          rw [hbn, hcur]
          have e1 : concs G.F ρ' (la ++ [.crc la 0, .crc la 1, .crc la 2, .crc la 3]) = cur.toList.take n0 := by
            rw [htk, concs_append, k1]
            have c0' := hF.crc ((concs G.F ρ la).map numV) 0 (by decide)
            have c1' := hF.crc ((concs G.F ρ la).map numV) 1 (by decide)
            have c2' := hF.crc ((concs G.F ρ la).map numV) 2 (by decide)
            have c3' := hF.crc ((concs G.F ρ la).map numV) 3 (by decide)
            have hle4 : le 4 (cmore 0 ((concs G.F ρ la).map numV)) = [G.F.crc ((concs G.F ρ la).map numV) 0, G.F.crc ((concs G.F ρ la).map numV) 1, G.F.crc ((concs G.F ρ la).map numV) 2, G.F.crc ((concs G.F ρ la).map numV) 3] := by
              have := le_len 4 (cmore 0 ((concs G.F ρ la).map numV))
              apply List.ext_getElem?
              intro i
              match i with
              | 0 => exact c0'
              | 1 => exact c1'
              | 2 => exact c2'
              | 3 => exact c3'
              | i + 4 => rw [List.getElem?_eq_none (by rw [this]; omega), List.getElem?_eq_none (by simp)]
            rw [hle4]
            simp only [ints, List.map_append] at h1 ⊢
            rw [h1]
            simp only [concs, conc, List.map_cons, List.map_nil, k1]
          rw [e1, List.take_append_drop, Array.toArray_toList]
        · show _ = ρ'.cap s.nx * 1
          rw [hcn]; simp [hsz]
        · show la.length + 4 + ρ'.cap s.nx ≤ _
          rw [hcn]; omega
      refine ⟨.rw s.nx 0 (la.length + 4) 0, _, fun i => A i ∨ i = s.nx, withNew ρ s.nx (.slice (some ⟨g, 0, none⟩) n0 c0), List.mem_singleton.2 rfl, ⟨hag, fun i h => h.imp id fun e => ⟨Nat.le_of_eq e.symm, by rw [e]; exact Nat.lt_succ_self _⟩, fun _ h => .inl h, Nat.le_succ _, hext.mono hB, hext.size⟩, key⟩
theorem cellsAt_some {m : Tr Ao} {id off n : Nat} {la : List AV} (h : cellsAt m id off n = some la) : ∃ o, m.get id = some o := by
  unfold cellsAt at h
  obtain ⟨cs, hc, _⟩ := Option.bind_eq_some_iff.1 h
  cases hg : m.get id with
  | none => rw [hg] at hc; cases hc
  | some o => exact ⟨o, rfl⟩
theorem cellsAt_rd {F : Fx} {ρ : Val} {w : World} {m : Tr Ao} {id off n : Nat} {la : List AV} (hm : MemOk G ρ w m) (h : cellsAt m id off n = some la) : Rd w w.heap.size 1 (some ⟨ρ.blk id, off, none⟩) n (concs G.F ρ la) := by
  obtain ⟨h1, h2⟩ := (hm.holds [id]).cells (by simp) h
  obtain ⟨o, ho⟩ := cellsAt_some h
  exact ⟨by simpa using h1, fun _ => ⟨_, rfl, hm.lt ho, h2⟩⟩
theorem cellsAt_same {ρ ρ' : Val} {w : World} {m : Tr Ao} {id off n : Nat} {la : List AV} (hm : MemOk G ρ w m) (hm' : MemOk G ρ' w m) (hb : ρ'.blk id = ρ.blk id) (h : cellsAt m id off n = some la) : concs G.F ρ' la = concs G.F ρ la := by
  obtain ⟨h1, h2⟩ := (hm.holds [id]).cells (by simp) h
  obtain ⟨_, h3⟩ := (hm'.holds [id]).cells (by simp) h
  rw [hb] at h3
  apply List.ext_getElem?
  intro j
  rcases Nat.lt_or_ge j la.length with hj | hj
  · have e1 : (concs G.F ρ la)[j]? = some ((concs G.F ρ la)[j]'(by simpa using hj)) := List.getElem?_eq_getElem _
    have e2 : (concs G.F ρ' la)[j]? = some ((concs G.F ρ' la)[j]'(by simpa using hj)) := List.getElem?_eq_getElem _
    have k1 := h2 j _ e1
    have k2 := h3 j _ e2
    rw [e1, e2, ← k1, ← k2]
  · rw [List.getElem?_eq_none (by simpa using hj), List.getElem?_eq_none (by simpa using hj)]
theorem put_ok (hF : FxOk G.F) {vs : List AV} {s : St} {l : List (AV × St)} (hl : yPut s vs = some (some l)) (A : Nat → Prop) (ρ : Val) (w : World) (args : Array Value) (hA : ∀ i, A i → i < s.nx) (hB : G.B ≤ w.heap.size) (hargs : ∀ ρ', Agree A ρ ρ' → (concs G.F ρ' vs).toArray = args ∧ MemOk G ρ' w s.mem) : Calls Tryz.prog 51 args w (CallPost G A ρ s.nx w l) := by
  obtain ⟨ha, hm⟩ := hargs ρ (Agree.refl _ _)
  have hmax : 65000 ≤ maxLen := by unfold maxLen; decide
  unfold yPut at hl
  split at hl
  · rename_i id off n c
    split at hl
    · rename_i la hla
      cases hb : Nat.ble n c && Nat.ble c 65000 with
      | false => rw [hb] at hl; cases hl
      | true =>
        rw [hb] at hl
        simp only [cond_true] at hl
        simp only [Bool.and_eq_true] at hb
        have h1 := Nat.le_of_ble_eq_true hb.1
        have h2 := Nat.le_of_ble_eq_true hb.2
        simp only [concs, conc] at ha
        subst ha
        refine putR_ok hF hl A ρ w _ _ n c hA hB (cellsAt_rd (F := G.F) hm hla) h1 (by omega) fun ρ' k => ?_
        obtain ⟨ha', hm'⟩ := hargs ρ' k
        simp only [concs, conc] at ha'
        exact ⟨cellsAt_same hm hm' (by simpa using ha') hla, hm'⟩
    · cases hl
  · rename_i id off n more
    split at hl
    · rename_i la hla
      split at hl
      · rename_i t cs hi
        cases hb : Nat.ble (off + (n + more)) cs.length with
        | false => rw [hb] at hl; cases hl
        | true =>
          rw [hb] at hl
          simp only [cond_true] at hl
          have h1 := Nat.le_of_ble_eq_true hb
          have hob := hm.ok _ _ hi
          obtain ⟨rest, k, h2, h3, h4, h5⟩ := hob
          simp only [concs, conc] at ha
          subst ha
          refine putR_ok hF hl A ρ w _ _ n (n + more + ρ.cap id) hA hB (cellsAt_rd (F := G.F) hm hla) (by omega) (by omega) fun ρ' k => ?_
          obtain ⟨ha', hm'⟩ := hargs ρ' k
          simp only [concs, conc] at ha'
          exact ⟨cellsAt_same hm hm' (by simp at ha'; exact ha'.1) hla, hm'⟩
      · cases hl
    · cases hl
  · cases hl
end
end Go.Proofs.AL.Rx
/- RV: what the library takes from outside. -/
set_option linter.unusedVariables false
set_option linter.unusedSimpArgs false
namespace Go.Proofs.AL.Rx
open Go Go.RowKit Go.Proofs.AL
def cntI (c : Int) : List Int → Nat → Nat
  | [], n => n
  | x :: r, n => bif decide (x = c) then cntI c r (n + 1) else cntI c r n
def idxI (c : Int) : List Int → Nat → Int
  | [], _ => -1
  | x :: r, n => bif decide (x = c) then (n : Int) else idxI c r (n + 1)
def b1 : Int → Bool
  | .ofNat n => Nat.ble n 1
  | _ => false
def n0 : Int → Bool
  | .ofNat _ => true
  | _ => false
def yE (f : FuncId) (vs : List AV) : Option AV :=
  match f with
  | 192 => (match vs with | [.str s, .int .u8 c] => bif isB c && s.all isB then some (.int .i64 (cntI c s 0)) else none | _ => none)
  | 296 => (match vs with | [.str s, .int .u8 c] => bif isB c && s.all isB then some (.int .i64 (idxI c s 0)) else none | _ => none)
  | 322 => (match vs with | [.int .u64 a, .int .u64 b, .int .u64 c] => bif n0 a && (n0 b && b1 c) then some (.tup [.int .u64 ((a + b + c) % 18446744073709551616), .int .u64 ((a + b + c) / 18446744073709551616)]) else none | _ => none)
  | _ => none
theorem isB_iff {x : Int} (h : isB x = true) : 0 ≤ x ∧ x < 256 := by
  cases x with
  | ofNat n =>
    have hn : n < 256 := Nat.lt_of_succ_le (Nat.le_of_ble_eq_true h)
    exact ⟨Int.natCast_nonneg n, by show ((n : Nat) : Int) < 256; omega⟩
  | negSucc n => cases h
theorem u8_eq {x c : Int} (hx : isB x = true) (hc : isB c = true) : (UInt8.ofNat x.toNat == c.toNat.toUInt8) = decide (x = c) := by
  have h1 := isB_iff hx
  have h2 := isB_iff hc
  rw [Bool.eq_iff_iff]
  simp only [beq_iff_eq, decide_eq_true_eq]
  constructor
  · intro h
    have := congrArg UInt8.toNat h
    simp at this
    rw [Nat.mod_eq_of_lt (by omega), Nat.mod_eq_of_lt (by omega)] at this
    omega
  · rintro rfl; rfl
theorem cntI_count {c : Int} (hc : isB c = true) : ∀ (l : List Int) (n : Nat), l.all isB = true → cntI c l n = n + Lib.countByte (l.map fun n => UInt8.ofNat n.toNat) c.toNat.toUInt8
  | [], n, _ => rfl
  | x :: r, n, h => by
    simp only [List.all_cons, Bool.and_eq_true] at h
    unfold Lib.countByte
    simp only [cntI, List.map_cons, List.count_cons, u8_eq h.1 hc]
    have i1 := cntI_count hc r (n + 1) h.2
    have i2 := cntI_count hc r n h.2
    unfold Lib.countByte at i1 i2
    by_cases e : x = c
    · simp only [e, decide_true, cond_true, if_true]; omega
    · simp only [e, decide_false, cond_false]; simp; omega
theorem idxI_index {c : Int} (hc : isB c = true) : ∀ (l : List Int) (n : Nat), l.all isB = true → idxI c l n = (if Lib.indexByte (l.map fun n => UInt8.ofNat n.toNat) c.toNat.toUInt8 = -1 then -1 else (n : Int) + Lib.indexByte (l.map fun n => UInt8.ofNat n.toNat) c.toNat.toUInt8) ∧ -1 ≤ Lib.indexByte (l.map fun n => UInt8.ofNat n.toNat) c.toNat.toUInt8
  | [], n, _ => ⟨rfl, by simp [Lib.indexByte]⟩
  | x :: r, n, h => by
    simp only [List.all_cons, Bool.and_eq_true] at h
    obtain ⟨i1, i2⟩ := idxI_index hc r (n + 1) h.2
    simp only [idxI, List.map_cons, Lib.indexByte, u8_eq h.1 hc]
    by_cases e : x = c
    · simp [e]
    · simp only [e, decide_false, cond_false, i1]
      generalize Lib.indexByte (r.map fun n => UInt8.ofNat n.toNat) c.toNat.toUInt8 = q at *
      by_cases hq : q = -1
      · simp [hq]
      · simp [hq]
        constructor
        · split <;> omega
        · omega
theorem idxI_eq {c : Int} (hc : isB c = true) (l : List Int) (h : l.all isB = true) : idxI c l 0 = Lib.indexByte (l.map fun n => UInt8.ofNat n.toNat) c.toNat.toUInt8 := by
  obtain ⟨h1, h2⟩ := idxI_index hc l 0 h
  rw [h1]
  split
  · rename_i h3; rw [h3]
  · simp
theorem ext_ok {F : Fx} : ∀ f vs v, yE f vs = some v → ∀ ρ w, (callFunc f (concs F ρ vs).toArray).run Tryz.prog w = .ok (.value (conc F ρ v)) w := by
  intro f vs v h ρ w
  unfold yE at h
  split at h
  · split at h
    · rename_i s c
      cases hb : isB c && s.all isB with
      | false => rw [hb] at h; cases h
      | true =>
        rw [hb] at h; simp only [cond_true, Option.some.injEq] at h; subst h
        simp only [Bool.and_eq_true] at hb
        simp only [concs, conc]
        rw [run_callFunc_extern Tryz.func192 (by kernel_rfl) (by kernel_rfl) (by kernel_rfl) (e := Extern.BytealgCount.count) (by kernel_rfl), Lib.run_countString]
        rw [strOfNums_data, cntI_count hb.1 s 0 hb.2, Nat.zero_add]; rfl
    · cases h
  · split at h
    · rename_i s c
      cases hb : isB c && s.all isB with
      | false => rw [hb] at h; cases h
      | true =>
        rw [hb] at h; simp only [cond_true, Option.some.injEq] at h; subst h
        simp only [Bool.and_eq_true] at hb
        simp only [concs, conc]
        rw [run_callFunc_extern Tryz.func296 (by kernel_rfl) (by kernel_rfl) (by kernel_rfl) (e := Extern.BytealgIndexByte.indexByte) (by kernel_rfl), run_indexByte_string]
        rw [Lib.firstIdx_eq, strOfNums_data, idxI_eq hb.1 s hb.2]; rfl
    · cases h
  · split at h
    · rename_i a b c
      cases hb : n0 a && (n0 b && b1 c) with
      | false => rw [hb] at h; cases h
      | true =>
        rw [hb] at h; simp only [cond_true, Option.some.injEq] at h; subst h
        simp only [Bool.and_eq_true] at hb
        obtain ⟨h1, h2, h3⟩ := hb
        simp only [concs, conc]
        cases a with
        | negSucc n => cases h1
        | ofNat a =>
          cases b with
          | negSucc n => cases h2
          | ofNat b =>
            cases c with
            | negSucc n => cases h3
            | ofNat c =>
              have h3 : c ≤ 1 := Nat.le_of_ble_eq_true h3
              rw [run_callFunc_extern Tryz.func322 (by kernel_rfl) (by kernel_rfl) (by kernel_rfl) (e := add64Entry) (by kernel_rfl), run_add64 (Int.ofNat a) (Int.ofNat b) (Int.ofNat c) (Int.natCast_nonneg a) (Int.natCast_nonneg b) (Int.natCast_nonneg c) (by show ((c : Nat) : Int) ≤ 1; omega)]
              rfl
    · cases h
  · cases h
end Go.Proofs.AL.Rx
/- RV: a deferred call that takes a panic up, where there is none. -/
set_option linter.unusedVariables false
set_option linter.unusedSimpArgs false
namespace Go.Proofs.AL.Rx
open Go Go.RowKit Go.Proofs.AL
section
variable {P : Program} {ops : Array Oper} {Q : Exit → Act → List Frame → World → Prop} {cs : List Frame}
theorem opsS_of_ops (hno : ¬ LetsOut (fun e a w => Q e a cs w)) : ∀ (l : List Nat) (a : Act) (w : World), wpOps P ops (fun e a w => Q e a cs w) l a w → wpOpsS P ops Q l a cs w
  | [], a, w, h => h
  | i :: r, a, w, h => by
    simp only [wpOps] at h
    simp only [wpOpsS]
    cases ho : ops[i]? with
    | none => rw [ho] at h; exact opsS_of_ops hno r a w h
    | some o =>
      rw [ho] at h
      simp only at h ⊢
      split
      · rename_i hw
        rw [if_pos hw] at h
        rcases h with h | ⟨_, h⟩
        · have h := Oper.wp_mono (fun a w => opsS_of_ops hno r a w) h
          unfold Oper.wp at h
          split
          · rename_i w' hr
            rw [hr] at h
            exact h.elim
          · exact h
        · exact (hno h).elim
      · rename_i hw
        rw [if_neg hw] at h
        exact opsS_of_ops hno r _ w h
theorem opsS_of_list (hno : ¬ LetsOut (fun e a w => Q e a cs w)) (l : List Oper) (k : Nat) (hl : ∀ j, l[j]? = ops[k + j]?) {a : Act} {w : World} (h : wpList P ops (fun e a w => Q e a cs w) l a w) : wpOpsS P ops Q (List.range' k l.length) a cs w :=
  opsS_of_ops hno _ a w (by rw [wpOps_eq_wpList l k hl]; exact h)
end
def isN : Ex → Bool
  | .normal => true
  | _ => false
def isRec : Op → Bool
  | .call ⟨.builtin .recover, _, _⟩ => true
  | _ => false
/-- the function takes up a panic first, and then comes to its end -/
def defB (c : Cx) (vs : List AV) (fn : Func) : Bool :=
  match fn.body with
  | some (.seq (.region _ ops false) y) => (match ops.toList with
    | o0 :: r => isRec o0.op && (o0.guard.isNone && (opsOk fn.ntmps ops && (codeOk fn.ntmps y && (Nat.ble vs.length fn.ntmps && (fn.results.isEmpty && (match xops c (xcall c 0) ops r (dstA (env0A 0 vs .leaf) o0.dst .nili) [] ⟨.leaf, 0⟩ with
      | .out l => l.all fun o => isN o.e && (match xcode c (xcall c 0) 1000 y o.E o.D o.s with
        | .out l1 => l1.all fun o1 => isN o1.e && o1.D.isEmpty
        | .bad _ => false)
      | .bad _ => false))))))
    | [] => false)
  | _ => false
section
variable {F : Fx} {c : Cx} {f : FuncId} {fn : Func} {vs : List AV}
theorem deferred_ok (hok : ∀ B, CxOk (gB F B) c ∧ SpOk (gB F B) c) (hf : c.P.funcs[f]? = some fn) (h : defB c [.opq 0] fn = true) (w : World) :
    CallsD c.P f (concs F ρ00 [.opq 0]).toArray .returning w fun e u w' => (∃ v, e = .returned v) ∧ u = .returning ∧ Ext w w' := by
  unfold defB at h
  split at h
  · rename_i id ops y hb
    split at h
    · rename_i o0 r hops
      simp only [Bool.and_eq_true] at h
      obtain ⟨h1, h2, h3, h4, h5, h6, h7⟩ := h
      have ok := (hok w.heap.size).1
      have rok := callee_s ok (hok w.heap.size).2 0
      split at h7
      · rename_i l hx
        refine callsD_of_wpS hf hb fun c₀ cs hc => ?_
        refine wpS_seq (wpS_region ?_)
        have hsz : ops.size = r.length + 1 := by rw [← Array.length_toList, hops]; rfl
        have h0 : ops[0]? = some o0 := by rw [← Array.getElem?_toList, hops]; rfl
        rw [hsz, List.range_eq_range', List.range'_succ]
        simp only [wpOpsS, h0]
        have hw : Region.wanted o0 (yielded ops ({ tmps := (concs F ρ00 [.opq 0]).toArray ++ Array.replicate (fn.ntmps - (concs F ρ00 [.opq 0]).toArray.size) undef, defers := [] } : Act).tmps) = true := by
          unfold Region.wanted
          cases hg : o0.guard with
          | none => rfl
          | some g => rw [hg] at h2; cases h2
        rw [if_pos hw]
        have hrun : (execOp ({ tmps := (concs F ρ00 [.opq 0]).toArray ++ Array.replicate (fn.ntmps - (concs F ρ00 [.opq 0]).toArray.size) undef, defers := [] } : Act).eval o0).run c.P w = .ok .recover w := by
          unfold isRec at h1
          split at h1
          · rename_i hop
            simp only [execOp, hop, resolve, Sem.run_bind, Sem.run_pure, Result.andThen_ok]
            rfl
          · cases h1
        rw [hrun]
        have hrc : recoverD (c₀ :: cs) = none := by simp [recoverD, hc]
        simp only [hrc]
        let R : Ending → FrameMode → World → Prop := fun e u w' => (∃ v, e = .returned v) ∧ u = .returning ∧ Ext w w'
        have hlen := Nat.le_of_ble_eq_true h5
        have hS : SR (gB F w.heap.size) fn.ntmps (fun _ => False) ρ00 { tmps := (concs F ρ00 [.opq 0]).toArray ++ Array.replicate (fn.ntmps - (concs F ρ00 [.opq 0]).toArray.size) undef, defers := [] } w (env0A 0 [.opq 0] .leaf) [] .leaf := by
          refine ⟨fun ρ' k => ⟨fun t v ht => ?_, rfl, memOk_leaf _ _ _⟩, Nat.le_refl _, by have h := hlen; simp [concs] at h ⊢; omega⟩
          rcases env0_get [.opq 0] 0 .leaf t v ht with ⟨_, h2⟩ | h2
          · rw [Nat.sub_zero] at h2
            have hlt := (List.getElem?_eq_some_iff.1 h2).1
            have h3 : (concs F ρ00 [.opq 0]).toArray[t]? = some (conc (gB F w.heap.size).F ρ' v) := by
              match t, h2 with
              | 0, h2 => injection h2 with h2; subst h2; rfl
              | t + 1, h2 => cases h2
            show ((concs F ρ00 [.opq 0]).toArray ++ _).getD t undef = _
            rw [Array.getD_eq_getD_getElem?, Array.getElem?_append_left (by simpa using hlt), h3]
            rfl
          · rw [Tr.get_leaf] at h2; cases h2
        have hdst := opsOk_dst (N := fn.ntmps) h3
        rw [hops] at hdst
        have hS1 := hS.put (v := .nili) (u := .nilIface) (hdst o0 (by simp)) (fun _ _ => rfl)
        refine opsS_of_list (Q := Exit.thenS (y.wpS c.P (bodyPostS c.P fn c₀ cs R)) (bodyPostS c.P fn c₀ cs R)) (fun hh => by
          obtain ⟨a, w1, u', ⟨v, hv⟩, _⟩ := hh
          cases hv) r 1 (fun j => ?_) ?_
        · rw [← Array.getElem?_toList, hops, Nat.add_comm]; rfl
        · refine ops_s ok rok r (fun _ => False) ρ00 _ w _ [] ⟨.leaf, 0⟩ l (fun o ho => hdst o (by simp [ho])) hx hS1 (fun _ h => h.elim) fun x hx2 => ?_
          intro A1 ρ1 a1 w1 hS2 hR2
          have h8 := List.all_eq_true.1 h7 x hx2
          simp only [Bool.and_eq_true] at h8
          obtain ⟨h9, h10⟩ := h8
          have he : x.e = .normal := by cases hxe : x.e <;> rw [hxe] at h9 <;> first | rfl | cases h9
          rw [he]
          show y.wpS c.P (bodyPostS c.P fn c₀ cs R) a1 (c₀ :: cs) w1
          refine wpS_of_wp ?_
          split at h10
          · rename_i l1 hx1
            refine (code_s ok rok 1000).1 y (fun e a w => bodyPostS c.P fn c₀ cs R e a (c₀ :: cs) w) A1 ρ1 a1 w1 x.E x.D x.s l1 hx1 h4 (fun _ _ _ _ _ h => by
              obtain ⟨_, u', _, ⟨v, hv⟩, _⟩ := h
              cases hv) hS2 (hR2.bd (fun _ h => h.elim)) fun o ho => ?_
            intro A2 ρ2 a2 w2 hS3 hR3
            have h11 := List.all_eq_true.1 h10 o ho
            simp only [Bool.and_eq_true] at h11
            have he2 : o.e = .normal := by
              have := h11.1
              cases hxe : o.e <;> rw [hxe] at this <;> first | rfl | cases this
            rw [he2]
            refine ⟨?_, .returning, ?_, .tuple #[], ?_, ⟨_, rfl⟩, rfl, ?_⟩
            · have := (hS3.rel ρ2 (Agree.refl _ _)).2.1
              rw [this, List.isEmpty_iff.1 h11.2]; rfl
            · rw [← hc]
            · have hre : fn.results = #[] := by simpa using h6
              have hS4 := hS3.rel ρ2 (Agree.refl _ _)
              have := results_run (P := c.P) (fn := fn) (nx := 0) (l := []) hS4.1 hS4.2.2 (by rw [hre]; rfl)
              simpa [packA, conc, concs] using this
            · exact (hR2.trans hR3).below
          · cases h10
      · cases h7
    · cases h
  · cases h
end
end Go.Proofs.AL.Rx
/- RV at this seat: the table. -/
set_option linter.unusedVariables false
set_option linter.unusedSimpArgs false
namespace Go.Proofs.AL.Rx
open Go Go.RowKit Go.Proofs.AL
def cB (P : Program) : Cx := ⟨P, fun _ _ _ => none, fun _ _ => none, fun _ => false⟩
theorem mixedB : Tryz.prog.follows .mixedOrders = true := by kernel_rfl
theorem cB_ok (F : Fx) (B : Nat) : CxOk (gB F B) (cB Tryz.prog) ∧ SpOk (gB F B) (cB Tryz.prog) := ⟨⟨mixedB, fun f vs v h => by cases h⟩, ⟨fun f vs s l h => (by cases h), fun d h => by cases h⟩⟩
def yN : AV → Bool
  | .fn (.func f) [] [.ptr _ _] => Nat.beq f 88
  | _ => false
def isDef (P : Program) (f : FuncId) : Bool := match P.funcs[f]? with | some fn => defB (cB P) [.opq 0] fn | none => false
theorem isDef88 : isDef Tryz.prog 88 = true := by kernel_rfl
theorem isFn88 : IsFn Tryz.prog 88 := isFn_of (by kernel_rfl)
theorem noop_ok (F : Fx) (d : AV) (h : yN d = true) (ρ : Val) (fn : Func) (tmps : Array Value) (R : Ending → World → Prop) (ds : List Deferred) (w : World) (hl : ∀ w', Ext w w' → Leaves Tryz.prog fn tmps R ds .returning w') : Leaves Tryz.prog fn tmps R (defC F ρ d :: ds) .returning w := by
  unfold yN at h
  split at h
  · rename_i f i o
    obtain rfl := Nat.eq_of_beq_eq_true h
    refine ⟨by simp, .func 88, #[.pointer (some ⟨ρ.blk i, o, none⟩)], 88, #[.pointer (some ⟨ρ.blk i, o, none⟩)], rfl, ?_, ?_⟩
    · have := isFn88.run (w := w) #[.pointer (some ⟨ρ.blk i, o, none⟩)]
      exact this
    · have h1 := isDef88
      unfold isDef at h1
      split at h1
      · rename_i fd hf
        let F' : Fx := ⟨F.sym, fun k => match k with | 0 => .pointer (some ⟨ρ.blk i, o, none⟩) | k + 1 => F.opq (k + 1), F.crc, fun _ _ _ _ => False, fun k => (match k with | 0 => rfl | k + 1 => F.one (k + 1)), F.arg, F.argKp, F.cut⟩
        have := deferred_ok (F := F') (fun B => cB_ok F' B) hf h1 w
        refine fun c₀ cs hc => ?_
        obtain ⟨e, u', w', fr, ⟨⟨v, rfl⟩, rfl, he⟩, h2, h3, h4⟩ := this c₀ cs hc
        exact ⟨_, _, w', fr, hl w' he, h2, h3, h4⟩
      · cases h1
  · cases h
/-- calls that are told of otherwise, but for the shell's table of commands -/
def yX (f : FuncId) (vs : List AV) (s : St) : Option Res :=
  match f with
  | 51 => yPut s vs
  | 93 => yChk s vs
  | 258 => yGrow s vs
  | 48 => yStr s vs
  | _ => none
def c0 (P : Program) : Cx := ⟨P, yX, yE, yN⟩
theorem c0_okG {G : Fb} (hF : FxOk G.F) : CxOk G (c0 Tryz.prog) ∧ SpOk G (c0 Tryz.prog) := ⟨⟨mixedB, fun f vs v h ρ w => ext_ok f vs v h ρ w⟩, ⟨fun f vs s l h => (by
  simp only [c0, yX] at h
  split at h
  · exact ⟨isFn51, fun A ρ w args hA hB hargs => put_ok hF h A ρ w args hA hB hargs⟩
  · exact ⟨isFn93, fun A ρ w args hA hB hargs => chk_ok h A ρ w args hB hargs⟩
  · exact ⟨isFn258, fun A ρ w args hA hB hargs => grow_ok h A ρ w args hA hB hargs⟩
  · exact ⟨isFn48, fun A ρ w args hA hB hargs => str_ok h A ρ w args hA hB hargs⟩
  · cases h), fun d h ρ fn tmps R ds w hl => noop_ok _ d h ρ fn tmps R ds w hl⟩⟩
theorem c0_ok {F : Fx} (hF : FxOk F) : OkB F (c0 Tryz.prog) := fun B => c0_okG (G := gB F B) ⟨hF.sym, hF.crc⟩
end Go.Proofs.AL.Rx
/- a region that draws its order, by what holds of each set of operations that have come up. -/
set_option linter.unusedVariables false
set_option linter.unusedSimpArgs false
namespace Go.Proofs.AL.Rx
open Go Go.RowKit Go.Proofs.AL
section
variable {P : Program} {ops : Array Oper} {Q : Exit → Act → World → Prop} {md : Region.Mode}
theorem count_set {l : List Bool} {i : Nat} (h : l[i]? = some false) : (l.set i true).count false + 1 = l.count false := by
  induction l generalizing i with
  | nil => cases h
  | cons b l ih =>
    cases i with
    | zero =>
      injection h with h; subst h
      simp
    | succ i =>
      simp only [List.set_cons_succ, List.count_cons]
      have := ih (i := i) (by simpa using h)
      omega
theorem ready_at {listed : Array Bool} {i : Nat} (hs : listed.size = ops.size) (h : i ∈ Region.ready md ops listed) : listed.toList[i]? = some false := by
  obtain ⟨h1, o, ho, _⟩ := mem_ready.1 h
  have hlt := (Array.getElem?_eq_some_iff.1 ho).1
  have : i < listed.size := by omega
  rw [Array.getD_eq_getD_getElem?, Array.getElem?_eq_getElem this] at h1
  rw [Array.getElem?_toList, Array.getElem?_eq_getElem this]
  simpa using h1
theorem wpAny_inv {I : Array Bool → Act → World → Prop} (step : ∀ listed a w, listed.size = ops.size → I listed a w → ∀ i ∈ Region.ready md ops listed, wpOp P ops Q i (I (listed.setIfInBounds i true)) a w)
    (fin : ∀ listed a w, listed.size = ops.size → I listed a w → Region.ready md ops listed = [] → Q .normal a w) : ∀ (fuel : Nat) (listed : Array Bool) (a : Act) (w : World), listed.size = ops.size → listed.toList.count false ≤ fuel → I listed a w → wpAny P md ops Q fuel listed a w
  | 0, listed, a, w, hs, hc, h => by
    have hr : Region.ready md ops listed = [] := by
      apply List.eq_nil_iff_forall_not_mem.2
      intro i hi
      have := count_set (ready_at hs hi)
      omega
    exact ⟨hr, fin listed a w hs h hr⟩
  | fuel + 1, listed, a, w, hs, hc, h => ⟨fin listed a w hs h, fun i hi => wpOp_mono (fun a' w' h' => wpAny_inv step fin fuel _ a' w' (by simpa using hs) (by
      have := count_set (ready_at hs hi)
      rw [Array.toList_setIfInBounds]
      omega) h') (step listed a w hs h i hi)⟩
/-- nothing is left: all have come up -/
theorem all_listed {listed : Array Bool} (hs : listed.size = ops.size) (hlt : ∀ j o, ops[j]? = some o → ∀ e ∈ o.after, Region.binds md e = true → e.on < j) (hr : Region.ready md ops listed = []) : ∀ j, j < ops.size → listed.getD j false = true := by
  intro j
  induction j using Nat.strongRecOn with
  | _ j ih =>
    intro hj
    cases hb : listed.getD j false with
    | true => rfl
    | false =>
      exfalso
      have hj2 : j < listed.size := by omega
      have : j ∈ Region.ready md ops listed := mem_ready.2 ⟨by
          rw [Array.getD_eq_getD_getElem?, Array.getElem?_eq_getElem hj2] at hb ⊢
          simpa using hb, ops[j], Array.getElem?_eq_getElem hj, fun e he hbd => by
          have hl := hlt j _ (Array.getElem?_eq_getElem hj) e he hbd
          exact ih e.on hl (by omega)⟩
      rw [hr] at this
      cases this
end
end Go.Proofs.AL.Rx
/- a region that lays a map out, in any order. -/
set_option linter.unusedVariables false
set_option linter.unusedSimpArgs false
namespace Go.Proofs.AL.Rx
open Go Go.RowKit Go.Proofs.AL
/-- what an operation of it is -/
inductive Bk where
  | q (v : AV)
  | mk
  | ins (s : List Int) (v : Option AV)
  | call (f : FuncId) (vs : List AV)
  | mv
def envOf (mask : Nat) : List (Nat × Nat × AV) → VEnv → VEnv
  | [], E => E
  | (i, d, v) :: r, E => bif mask.testBit i then envOf mask r (Tr.set (some v) 40 d E) else envOf mask r E
theorem envOf_get {mask : Nat} : ∀ {l : List (Nat × Nat × AV)} {E : VEnv} {t : Nat} {v : AV}, (envOf mask l E).get t = some v → (∃ i, (i, t, v) ∈ l ∧ mask.testBit i = true) ∨ E.get t = some v
  | [], _, _, _, h => .inr h
  | (i, d, u) :: r, E, t, v, h => by
    simp only [envOf] at h
    cases hb : mask.testBit i with
    | false =>
      simp only [hb, cond_false] at h
      rcases envOf_get h with ⟨j, h1, h2⟩ | h1
      · exact .inl ⟨j, by simp [h1], h2⟩
      · exact .inr h1
    | true =>
      simp only [hb, cond_true] at h
      rcases envOf_get h with ⟨j, h1, h2⟩ | h1
      · exact .inl ⟨j, by simp [h1], h2⟩
      · rcases Tr.get_set _ _ _ _ h1 with ⟨rfl, e⟩ | ⟨_, h3⟩
        · injection e with e; subst e
          exact .inl ⟨i, by simp, hb⟩
        · exact .inr h3
/-- the values that are told -/
def qsGo : List Oper → List Bk → Nat → List (Nat × Nat × AV)
  | o :: r, k :: s, i => (match k, o.dst with
    | .q v, some d => (i, d, v) :: qsGo r s (i + 1)
    | _, _ => qsGo r s (i + 1))
  | _, _, _ => []
theorem qsGo_mem : ∀ {os : List Oper} {ks : List Bk} {n : Nat} {i d : Nat} {v : AV}, (i, d, v) ∈ qsGo os ks n → ∃ j o, i = n + j ∧ os[j]? = some o ∧ ks[j]? = some (.q v) ∧ o.dst = some d
  | [], _, _, _, _, _, h => by simp [qsGo] at h
  | _ :: _, [], _, _, _, _, h => by simp [qsGo] at h
  | o :: r, k :: s, n, i, d, v, h => by
    have rest : (i, d, v) ∈ qsGo r s (n + 1) → ∃ j o', i = n + j ∧ (o :: r)[j]? = some o' ∧ (k :: s)[j]? = some (.q v) ∧ o'.dst = some d := fun h => by
      obtain ⟨j, o', h1, h2, h3, h4⟩ := qsGo_mem h
      exact ⟨j + 1, o', by omega, by simpa using h2, by simpa using h3, h4⟩
    simp only [qsGo] at h
    split at h
    · rename_i u e hd
      rcases List.mem_cons.1 h with e | h
      · injection e with e1 e2; injection e2 with e2 e3
        subst e1 e2 e3
        exact ⟨0, o, rfl, rfl, rfl, hd⟩
      · exact rest h
    · exact rest h
section
variable {P : Program} {ops : Array Oper} {Q : Exit → Act → World → Prop} {K : Act → World → Prop} {i : Nat} {o : Oper} {a : Act} {w w1 : World} {u : Value}
theorem wanted_none (hg : o.guard.isNone = true) (ts : Array Value) : Region.wanted o (yielded ops ts) = true := by
  unfold Region.wanted
  cases h : o.guard with
  | none => rfl
  | some g => rw [h] at hg; cases hg
theorem wpOp_value (ho : ops[i]? = some o) (hg : o.guard.isNone = true) (hr : (execOp a.eval o).run P w = .ok (.value u) w1) (hk : K (a.put o.dst u) w1) : wpOp P ops Q i K a w := by
  unfold wpOp
  rw [ho]
  simp only [wanted_none hg, if_true]
  left
  unfold Oper.wp
  rw [hr]
  exact hk
theorem wpOp_skip (ho : ops[i]? = some o) (hg : o.guard.isNone = true) (hr : (execOp a.eval o).run P w = .ok .skip w1) (hk : K (a.put o.dst undef) w1) : wpOp P ops Q i K a w := by
  unfold wpOp
  rw [ho]
  simp only [wanted_none hg, if_true]
  left
  unfold Oper.wp
  rw [hr]
  exact hk
theorem wpOp_enter {f : FuncId} {args : Array Value} (ho : ops[i]? = some o) (hg : o.guard.isNone = true) (hr : (execOp a.eval o).run P w = .ok (.enter f args) w) (hk : Calls P f args w fun e w' => ∃ v, e = .returned v ∧ K (a.put o.dst v) w') : wpOp P ops Q i K a w := by
  unfold wpOp
  rw [ho]
  simp only [wanted_none hg, if_true]
  left
  unfold Oper.wp
  rw [hr]
  refine Calls.mono hk fun e w' he => ?_
  obtain ⟨v, rfl, h⟩ := he
  exact h
theorem put_other {t : Nat} {d : Option Nat} (h : d ≠ some t) : (a.put d u).tmps.getD t undef = a.tmps.getD t undef := by
  cases d with
  | none => rfl
  | some d =>
    have : d ≠ t := fun e => h (by rw [e])
    simp [Act.put, Array.getD_eq_getD_getElem?, Array.getElem?_setIfInBounds, this]
theorem put_this {t : Nat} {d : Option Nat} (h : d = some t) (hlt : t < a.tmps.size) : (a.put d u).tmps.getD t undef = u := by
  subst h
  simp [Act.put, hlt]
end
end Go.Proofs.AL.Rx
/- a region that lays a map out, in any order: what it leaves. -/
set_option linter.unusedVariables false
set_option linter.unusedSimpArgs false
namespace Go.Proofs.AL.Rx
open Go Go.RowKit Go.Proofs.AL
def rec0 : Callee := fun _ _ _ => none
def bagEnv (ops : Array Oper) (tab : List Bk) (E0 : VEnv) (i : Nat) : VEnv := envOf ((masks ops).getD i 0) (qsGo ops.toList tab 0) E0
def KdOk (c : Cx) (ops : Array Oper) (tab : List Bk) (E0 : VEnv) (m : Tr Ao) (tm i0 : Nat) (i : Nat) (o : Oper) : Bk → Prop
  | .q v => quietOp c o.op = true ∧ xop c rec0 ⟨m, 0⟩ (bagEnv ops tab E0 i) o.op = .v v
  | .mk => i = i0 ∧ o.dst = some tm ∧ ∃ t, o.op = .makeMap t none
  | .ins s v => aheadB (masks ops) i i0 = true ∧ o.dst = none ∧ ∃ t y z kt et, o.op = .insert t (.tmp tm) y z ∧ evA (bagEnv ops tab E0 i) y = some (.str s) ∧ (∀ u, v = some u → evA (bagEnv ops tab E0 i) z = some u) ∧ c.P.underlying t = some (.map kt et) ∧ c.P.underlying kt = some .string
  | .call f vs => IsFn c.P f ∧ ∃ q, o.op = .call q ∧ q.callee = .value (.func f) ∧ evAs (bagEnv ops tab E0 i) q.args.toList = some vs
  | .mv => aheadB (masks ops) i i0 = true ∧ ∃ x, (o.op = .move (.tmp x) ∨ o.op = .assign (.tmp x)) ∧ (x = tm ∨ ∃ j o', aheadB (masks ops) i j = true ∧ ops[j]? = some o' ∧ tab[j]? = some .mv ∧ o'.dst = some x)
structure BagOk (c : Cx) (ops : Array Oper) (tab : List Bk) (E0 : VEnv) (m : Tr Ao) (tm i0 N : Nat) : Prop where
  dst : ∀ (i : Nat) (o : Oper) (d : Nat), ops[i]? = some o → o.dst = some d → d < N ∧ E0.get d = none ∧ ∀ (j : Nat) (o' : Oper), ops[j]? = some o' → o'.dst = some d → j = i
  gd : ∀ (i : Nat) (o : Oper), ops[i]? = some o → o.guard.isNone = true ∧ ∀ e ∈ o.after, Region.binds .any e = true → e.on < i
  kd : ∀ (i : Nat) (o : Oper), ops[i]? = some o → ∃ k, tab[i]? = some k ∧ KdOk c ops tab E0 m tm i0 i o k
  key : ∀ (i j : Nat) (s : List Int) (v : Option AV) (s' : List Int) (v' : Option AV), i ≠ j → tab[i]? = some (Bk.ins s v) → tab[j]? = some (Bk.ins s' v') → strOfNums s ≠ strOfNums s'
  at0 : i0 < ops.size ∧ tab[i0]? = some Bk.mk
structure BI (F : Fx) (ρ : Val) (ops : Array Oper) (tab : List Bk) (E0 : VEnv) (tm i0 N : Nat) (D0 : List Deferred) (w0 : World) (listed : Array Bool) (a : Act) (w : World) : Prop where
  closed : Closed .any ops listed
  sz : a.tmps.size = N
  df : a.defers = D0
  ext : Ext w0 w
  base : Sy F ρ a E0
  val : ∀ (i : Nat) (o : Oper) (d : Nat) (v : AV), ops[i]? = some o → tab[i]? = some (Bk.q v) → o.dst = some d → listed.getD i false = true → a.tmps.getD d undef = conc F ρ v
  map : listed.getD i0 false = true → ∃ (g : Nat) (K : List (ByteArray × Value)), a.tmps.getD tm undef = .map (some g) ∧ w0.heap.size ≤ g ∧ (∀ (j : Nat) (o : Oper) (d : Nat), ops[j]? = some o → tab[j]? = some Bk.mv → o.dst = some d → listed.getD j false = true → a.tmps.getD d undef = .map (some g)) ∧
    StrM w g K ∧ ∀ (j : Nat) (s : List Int) (v : AV), tab[j]? = some (Bk.ins s (some v)) → listed.getD j false = true → (strOfNums s, conc F ρ v) ∈ K
section
variable {G : Fb} {c : Cx} {ρ : Val} {ops : Array Oper} {tab : List Bk} {E0 : VEnv} {m : Tr Ao} {tm i0 N : Nat} {D0 : List Deferred} {w0 w w1 : World} {a : Act} {listed : Array Bool} {Q : Exit → Act → World → Prop}
theorem bag_env (h : BI G.F ρ ops tab E0 tm i0 N D0 w0 listed a w) {i : Nat} {o : Oper} (ho : ops[i]? = some o) (hall : ∀ e ∈ o.after, Region.binds .any e = true → listed.getD e.on false = true) : Sy G.F ρ a (bagEnv ops tab E0 i) := by
  intro t v ht
  rcases envOf_get ht with ⟨j, h1, h2⟩ | h1
  · obtain ⟨j', o', e, h3, h4, h5⟩ := qsGo_mem h1
    simp only [Nat.zero_add] at e; subst e
    exact h.val j o' t v (by rw [← Array.getElem?_toList]; exact h3) h4 h5 (masks_ahead.listed h.closed i o ho hall j h2)
  · exact h.base t v h1
theorem set_get {i j : Nat} (h : (listed.setIfInBounds i true).getD j false = true) (hne : j ≠ i) : listed.getD j false = true := by
  rwa [getD_set_ne false (Ne.symm hne)] at h
/-- an operation that lays a value down, and leaves the map alone -/
theorem bag_put (hb : BagOk c ops tab E0 m tm i0 N) (h : BI G.F ρ ops tab E0 tm i0 N D0 w0 listed a w) (hs : listed.size = ops.size) {i : Nat} {o : Oper} (ho : ops[i]? = some o) (hr : i ∈ Region.ready .any ops listed) {u : Value} (he : Ext w w1)
    (hq : ∀ v d, tab[i]? = some (.q v) → o.dst = some d → u = conc G.F ρ v) (hmk : i ≠ i0) (hins : ∀ s v, tab[i]? ≠ some (.ins s v)) (hmv : ∀ g, tab[i]? = some .mv → a.tmps.getD tm undef = .map (some g) → (∀ j o d, ops[j]? = some o → tab[j]? = some .mv → o.dst = some d → listed.getD j false = true → a.tmps.getD d undef = .map (some g)) → u = .map (some g)) :
    BI G.F ρ ops tab E0 tm i0 N D0 w0 (listed.setIfInBounds i true) (a.put o.dst u) w1 := by
  have hdo : ∀ j oj d, j ≠ i → ops[j]? = some oj → oj.dst = some d → o.dst ≠ some d := fun j oj d hj hoj hdj e => hj ((hb.dst i o d ho e).2.2 j oj hoj hdj)
  refine ⟨h.closed.set hs hr, by rw [put_size, h.sz], by rw [put_defers, h.df], h.ext.trans he, fun t v ht => ?_, fun j oj d v hoj hk hd hl => ?_, fun hl => ?_⟩
  · rw [put_other (fun e => by have := (hb.dst i o t ho e).2.1; rw [ht] at this; cases this)]
    exact h.base t v ht
  · by_cases hji : j = i
    · subst hji
      rw [ho] at hoj; injection hoj with hoj; subst hoj
      rw [put_this hd (by rw [h.sz]; exact (hb.dst j o d ho hd).1)]
      exact hq v d hk hd
    · rw [put_other (hdo j oj d hji hoj hd)]
      exact h.val j oj d v hoj hk hd (set_get hl hji)
  · obtain ⟨g, K, h1, h2, h3, h4, h5⟩ := h.map (set_get hl (Ne.symm hmk))
    obtain ⟨o0, ho0⟩ : ∃ o0, ops[i0]? = some o0 := ⟨_, Array.getElem?_eq_getElem hb.at0.1⟩
    have ht0 : o0.dst = some tm := by
      obtain ⟨k, hk1, hk2⟩ := hb.kd i0 o0 ho0
      rw [hb.at0.2] at hk1; injection hk1 with hk1; subst hk1
      exact hk2.2.1
    refine ⟨g, K, by rw [put_other (hdo i0 o0 tm (Ne.symm hmk) ho0 ht0)]; exact h1, h2, fun j oj d hoj hk hd hl => ?_, h4.ext he, fun j s v hk hl => ?_⟩
    · by_cases hji : j = i
      · subst hji
        rw [ho] at hoj; injection hoj with hoj; subst hoj
        rw [put_this hd (by rw [h.sz]; exact (hb.dst j o d ho hd).1)]
        exact hmv g hk h1 h3
      · rw [put_other (hdo j oj d hji hoj hd)]
        exact h3 j oj d hoj hk hd (set_get hl hji)
    · have hji : j ≠ i := fun e => hins s (some v) (by rw [← e]; exact hk)
      exact h5 j s v hk (set_get hl hji)
theorem bag_step (ok : CxOk G c) (hb : BagOk c ops tab E0 m tm i0 N) (hm : MemOk G ρ w0 m) (hB : G.B ≤ w0.heap.size) (hcall : ∀ (i : Nat) (f : FuncId) (vs : List AV), tab[i]? = some (Bk.call f vs) → ∀ w, Ext w0 w → Calls c.P f (concs G.F ρ vs).toArray w fun e w' => (∃ v, e = .returned v) ∧ Ext w w')
    (h : BI G.F ρ ops tab E0 tm i0 N D0 w0 listed a w) (hs : listed.size = ops.size) {i : Nat} (hr : i ∈ Region.ready .any ops listed) : wpOp c.P ops Q i (BI G.F ρ ops tab E0 tm i0 N D0 w0 (listed.setIfInBounds i true)) a w := by
  obtain ⟨hun, o, ho, hall⟩ := mem_ready.1 hr
  have hg := (hb.gd i o ho).1
  have hsy := bag_env h ho hall
  have hah : ∀ j, aheadB (masks ops) i j = true → listed.getD j false = true := fun j hj => masks_ahead.listed h.closed i o ho hall j hj
  obtain ⟨k, hk, hkd⟩ := hb.kd i o ho
  cases k with
  | q v =>
    obtain ⟨h1, h2⟩ := hkd
    have hne : i ≠ i0 := fun e => by rw [e, hb.at0.2] at hk; cases hk
    have hd := xop_v (rec := rec0) (s := ⟨m, 0⟩) ok hsy (.inl ⟨h1, (hm.extW h.ext hB).holds _⟩) rfl h2
    exact wpOp_value ho hg hd (bag_put hb h hs ho hr (Ext.refl w) (fun v' d hk' _ => by rw [hk] at hk'; injection hk' with hk'; injection hk' with hk'; rw [hk']) hne (fun s v' hk' => by rw [hk] at hk'; cases hk') (fun g hk' => by rw [hk] at hk'; cases hk'))
  | mk =>
    obtain ⟨rfl, h2, t, h3⟩ := hkd
    have hrun : (execOp a.eval o).run c.P w = .ok (.value (.map (some w.heap.size))) (w.alloc (.map #[] 0)) := by
      simp [execOp, h3, Instr.makeMap, newObj, Sem.run]
    refine wpOp_value ho hg hrun ?_
    have hlt : tm < a.tmps.size := by rw [h.sz]; exact (hb.dst i o tm ho h2).1
    have hdo : ∀ j oj d, j ≠ i → ops[j]? = some oj → oj.dst = some d → o.dst ≠ some d := fun j oj d hj hoj hdj e => hj ((hb.dst i o d ho e).2.2 j oj hoj hdj)
    have hno : ∀ j oj k, ops[j]? = some oj → tab[j]? = some k → KdOk c ops tab E0 m tm i j oj k → aheadB (masks ops) j i = true → (listed.setIfInBounds i true).getD j false = true → j = i := fun j oj k hoj hkj _ haj hl => by
      by_cases hji : j = i
      · exact hji
      · exfalso
        have h5 := masks_ahead.listed (h.closed.set hs hr) j oj hoj (fun e he hbd => h.closed.set hs hr j oj hoj hl e he hbd) i haj
        have h6 := set_get hl hji
        have h7 := masks_ahead.listed h.closed j oj hoj (fun e he hbd => h.closed j oj hoj h6 e he hbd) i haj
        have h8 : listed.getD i true = true := by
          have hlt : i < listed.size := by rw [hs]; exact hb.at0.1
          rw [Array.getD_eq_getD_getElem?, Array.getElem?_eq_getElem hlt] at h7 ⊢
          exact h7
        rw [hun] at h8; cases h8
    refine ⟨h.closed.set hs hr, by rw [put_size, h.sz], by rw [put_defers, h.df], h.ext.trans (Ext.alloc w _), fun t' v ht => ?_, fun j oj d v hoj hk' hd hl => ?_, fun _ => ?_⟩
    · rw [put_other (fun e => by have := (hb.dst i o t' ho e).2.1; rw [ht] at this; cases this)]
      exact h.base t' v ht
    · have hji : j ≠ i := fun e => by rw [e, hk] at hk'; cases hk'
      rw [put_other (hdo j oj d hji hoj hd)]
      exact h.val j oj d v hoj hk' hd (set_get hl hji)
    · refine ⟨w.heap.size, [], put_this h2 hlt, h.ext.size, fun j oj d hoj hk' hd hl => ?_, StrM.new (heap_alloc_new w _), fun j s v hk' hl => ?_⟩
      · obtain ⟨k', hk2, hkd'⟩ := hb.kd j oj hoj
        rw [hk'] at hk2; injection hk2 with hk2; subst hk2
        have := hno j oj _ hoj hk' hkd' hkd'.1 hl
        rw [this, hk] at hk'; cases hk'
      · have hlj : j < ops.size := by
          rcases Nat.lt_or_ge j (listed.setIfInBounds i true).size with h' | h'
          · simpa [hs] using h'
          · rw [Array.getD_eq_getD_getElem?, Array.getElem?_eq_none h'] at hl; cases hl
        obtain ⟨k', hk2, hkd'⟩ := hb.kd j ops[j] (Array.getElem?_eq_getElem hlj)
        rw [hk'] at hk2; injection hk2 with hk2; subst hk2
        have := hno j _ _ (Array.getElem?_eq_getElem hlj) hk' hkd' hkd'.1 hl
        rw [this, hk] at hk'; cases hk'
  | ins s v =>
    obtain ⟨h1, h2, t, y, z, kt, et, h3, h4, h5, h6, h7⟩ := hkd
    have hne : i ≠ i0 := fun e => by rw [e, hb.at0.2] at hk; cases hk
    obtain ⟨g, K, k1, k2, k3, k4, k5⟩ := h.map (hah i0 h1)
    obtain ⟨w', e1, e2, e3, e4⟩ := k4.put h6 h7 (strOfNums s) (a.eval z)
    have hrun : (execOp a.eval o).run c.P w = .ok .skip w' := by
      have ey : a.eval y = .string (strOfNums s) := hsy.ev h4
      have ex : a.eval (.tmp tm) = .map (some g) := k1
      simp [execOp, h3, ey, ex, e1]
    refine wpOp_skip ho hg hrun ?_
    rw [h2]
    have hext : Ext w0 w' := Below.trans h.ext (e2.below h.ext.size k2)
    refine ⟨h.closed.set hs hr, h.sz, h.df, hext, h.base, fun j oj d v hoj hk' hd hl => ?_, fun _ => ⟨g, _, k1, k2, fun j oj d hoj hk' hd hl => ?_, e4, fun j s' v' hk' hl => ?_⟩⟩
    · exact h.val j oj d v hoj hk' hd (set_get hl (fun e => by rw [e, hk] at hk'; cases hk'))
    · exact k3 j oj d hoj hk' hd (set_get hl (fun e => by rw [e, hk] at hk'; cases hk'))
    · by_cases hji : j = i
      · subst hji
        rw [hk] at hk'; injection hk' with hk'; injection hk' with e5 e6; subst e5 e6
        rw [hsy.ev (h5 v' rfl)]
        exact List.mem_cons_self
      · refine List.mem_cons_of_mem _ (List.mem_filter.2 ⟨k5 j s' v' hk' (set_get hl hji), ?_⟩)
        simpa using hb.key j i s' _ s v hji hk' hk
  | call f vs =>
    obtain ⟨h1, q, h2, h3, h4⟩ := hkd
    have hne : i ≠ i0 := fun e => by rw [e, hb.at0.2] at hk; cases hk
    have h5 := hsy.evsA h4
    have h6 := h1.run (w := w) (concs G.F ρ vs).toArray
    have hrun : (execOp a.eval o).run c.P w = .ok (.enter f (concs G.F ρ vs).toArray) w := by
      simp only [execOp, h2, Sem.run_bind]
      simp [resolve, h3, h5, Deferred.ofValue, invoke, Act.eval]
      exact h6
    refine wpOp_enter ho hg hrun (Calls.mono (hcall i f vs hk w h.ext) fun e w' he => ?_)
    obtain ⟨⟨v, rfl⟩, he⟩ := he
    exact ⟨v, rfl, bag_put hb h hs ho hr he (fun v' d hk' _ => by rw [hk] at hk'; cases hk') hne (fun s v' hk' => by rw [hk] at hk'; cases hk') (fun g hk' => by rw [hk] at hk'; cases hk')⟩
  | mv =>
    obtain ⟨h1, x, h2, h3⟩ := hkd
    have hne : i ≠ i0 := fun e => by rw [e, hb.at0.2] at hk; cases hk
    have hrun : (execOp a.eval o).run c.P w = .ok (.value (a.tmps.getD x undef)) w := by
      rcases h2 with h2 | h2 <;> (simp only [execOp, h2]; rfl)
    refine wpOp_value ho hg hrun (bag_put hb h hs ho hr (Ext.refl w) (fun v' d hk' _ => by rw [hk] at hk'; cases hk') hne (fun s v' hk' => by rw [hk] at hk'; cases hk') (fun g _ k1 k3 => ?_))
    rcases h3 with rfl | ⟨j, o', h4, h5, h6, h7⟩
    · exact k1
    · exact k3 j o' x h5 h6 h7 (hah j h4)
end
end Go.Proofs.AL.Rx
/- a region that lays a map out, in any order: the check, and the whole. -/
set_option linter.unusedVariables false
set_option linter.unusedSimpArgs false
namespace Go.Proofs.AL.Rx
open Go Go.RowKit Go.Proofs.AL
def isV : R1 → AV → Bool
  | .v u, v => same u v
  | _, _ => false
def optIs (d : Option Nat) (t : Nat) : Bool := match d with | some x => Nat.beq x t | none => false
def isMkM : Op → Bool
  | .makeMap _ none => true
  | _ => false
def strKeys (P : Program) (t : TypeId) : Bool := match P.underlying t with
  | some (.map kt _) => (match P.underlying kt with | some .string => true | _ => false)
  | _ => false
def isStr : Option AV → List Int → Bool
  | some (.str x), s => sameI x s
  | _, _ => false
def isAV : Option AV → AV → Bool
  | some u, v => same u v
  | _, _ => false
def insB (P : Program) (E : VEnv) (tm : Nat) (s : List Int) (v : Option AV) : Op → Bool
  | .insert t (.tmp x) y z => Nat.beq x tm && (isStr (evA E y) s && ((match v with | some u => isAV (evA E z) u | none => true) && strKeys P t))
  | _ => false
def isAVs : Option (List AV) → List AV → Bool
  | some u, v => sames u v
  | _, _ => false
def callB (E : VEnv) (f : FuncId) (vs : List AV) : Op → Bool
  | .call q => (match q.callee with | .value (.func g) => Nat.beq g f | _ => false) && isAVs (evAs E q.args.toList) vs
  | _ => false
def tmpOf : Op → Option Nat
  | .move (.tmp x) => some x
  | .assign (.tmp x) => some x
  | _ => none
def isMv : Option Bk → Bool
  | some .mv => true
  | _ => false
def mvB (ops : Array Oper) (tab : List Bk) (tm i : Nat) (op : Op) : Bool := match tmpOf op with
  | some x => Nat.beq x tm || (List.range ops.size).any fun j => aheadB (masks ops) i j && (isMv tab[j]? && (match ops[j]? with | some o => optIs o.dst x | none => false))
  | none => false
def bagKd (c : Cx) (ops : Array Oper) (tab : List Bk) (E0 : VEnv) (m : Tr Ao) (tm i0 i : Nat) (o : Oper) : Bk → Bool
  | .q v => quietOp c o.op && isV (xop c rec0 ⟨m, 0⟩ (bagEnv ops tab E0 i) o.op) v
  | .mk => Nat.beq i i0 && (optIs o.dst tm && isMkM o.op)
  | .ins s v => aheadB (masks ops) i i0 && (o.dst.isNone && insB c.P (bagEnv ops tab E0 i) tm s v o.op)
  | .call f vs => isFnB c.P f && callB (bagEnv ops tab E0 i) f vs o.op
  | .mv => aheadB (masks ops) i i0 && mvB ops tab tm i o.op
def insOf (tab : List Bk) (i : Nat) : Option (List Int) := match tab[i]? with | some (.ins s _) => some s | _ => none
def isMk : Option Bk → Bool
  | some .mk => true
  | _ => false
def isFls : Option Bool → Bool
  | some false => true
  | _ => false
def bagOp (c : Cx) (ops : Array Oper) (tab : List Bk) (E0 : VEnv) (m : Tr Ao) (tm i0 N i : Nat) : Bool :=
  match ops[i]?, tab[i]? with
  | some o, some k => o.guard.isNone && (o.after.toList.all (fun e => !Region.binds .any e || Nat.blt e.on i) && ((match o.dst with
      | some d => Nat.blt d N && ((E0.get d).isNone && (List.range ops.size).all fun j => Nat.beq j i || (match ops[j]? with | some o' => !optIs o'.dst d | none => true))
      | none => true) && ((match insOf tab i with
      | some s => (List.range tab.length).all fun j => Nat.beq i j || (match insOf tab j with | some s' => isFls (eqLI s s') | none => true)
      | none => true) && bagKd c ops tab E0 m tm i0 i o k)))
  | _, _ => false
def bagB (c : Cx) (ops : Array Oper) (tab : List Bk) (E0 : VEnv) (m : Tr Ao) (tm i0 N : Nat) : Bool := Nat.blt i0 ops.size && (isMk tab[i0]? && (Nat.beq tab.length ops.size && (List.range ops.size).all (bagOp c ops tab E0 m tm i0 N)))
section
variable {G : Fb} {c : Cx} {ρ : Val} {ops : Array Oper} {tab : List Bk} {E0 : VEnv} {m : Tr Ao} {tm i0 N : Nat} {D0 : List Deferred} {w0 w w1 : World} {a : Act} {listed : Array Bool} {Q : Exit → Act → World → Prop}
theorem optIs_eq {d : Option Nat} {t : Nat} : optIs d t = true ↔ d = some t := by
  cases d with
  | none => simp [optIs]
  | some x => simp [optIs]
theorem strKeys_of {P : Program} {t : TypeId} (h : strKeys P t = true) : ∃ kt et, P.underlying t = some (.map kt et) ∧ P.underlying kt = some .string := by
  unfold strKeys at h
  split at h
  · rename_i kt et h1
    split at h
    · rename_i h2; exact ⟨kt, et, h1, h2⟩
    · cases h
  · cases h
theorem bagKd_ok {i : Nat} {o : Oper} {k : Bk} (h : bagKd c ops tab E0 m tm i0 i o k = true) : KdOk c ops tab E0 m tm i0 i o k := by
  cases k with
  | q v =>
    simp only [bagKd, Bool.and_eq_true] at h
    refine ⟨h.1, ?_⟩
    have h2 := h.2
    unfold isV at h2
    split at h2
    · rename_i h3; rw [h3, same_eq _ _ h2]
    · cases h2
  | mk =>
    simp only [bagKd, Bool.and_eq_true] at h
    obtain ⟨h1, h2, h3⟩ := h
    refine ⟨Nat.eq_of_beq_eq_true h1, optIs_eq.1 h2, ?_⟩
    unfold isMkM at h3
    split at h3
    · exact ⟨_, by assumption⟩
    · cases h3
  | ins s v =>
    simp only [bagKd, Bool.and_eq_true] at h
    obtain ⟨h1, h2, h3⟩ := h
    refine ⟨h1, by simpa using h2, ?_⟩
    unfold insB at h3
    split at h3
    · rename_i t x y z h4
      simp only [Bool.and_eq_true] at h3
      obtain ⟨h5, h6, h7, h8⟩ := h3
      obtain rfl := Nat.eq_of_beq_eq_true h5
      obtain ⟨kt, et, h9, h10⟩ := strKeys_of h8
      refine ⟨t, y, z, kt, et, h4, ?_, fun u hu => ?_, h9, h10⟩
      · unfold isStr at h6
        split at h6
        · rename_i h11; rw [h11, sameI_eq h6]
        · cases h6
      · subst hu
        simp only at h7
        unfold isAV at h7
        split at h7
        · rename_i h11; rw [h11, same_eq _ _ h7]
        · cases h7
    · cases h3
  | call f vs =>
    simp only [bagKd, Bool.and_eq_true] at h
    refine ⟨isFn_of h.1, ?_⟩
    have h3 := h.2
    unfold callB at h3
    split at h3
    · rename_i q hq
      simp only [Bool.and_eq_true] at h3
      obtain ⟨h4, h5⟩ := h3
      refine ⟨q, hq, ?_, ?_⟩
      · split at h4
        · rename_i g hg
          rw [Nat.eq_of_beq_eq_true h4] at hg; exact hg
        · cases h4
      · unfold isAVs at h5
        split at h5
        · rename_i h6; rw [h6, sames_eq _ _ h5]
        · cases h5
    · cases h3
  | mv =>
    simp only [bagKd, Bool.and_eq_true] at h
    refine ⟨h.1, ?_⟩
    have h3 := h.2
    unfold mvB at h3
    split at h3
    · rename_i x hx
      refine ⟨x, ?_, ?_⟩
      · unfold tmpOf at hx
        split at hx
        · injection hx with hx; subst hx; left; assumption
        · injection hx with hx; subst hx; right; assumption
        · cases hx
      · rw [Bool.or_eq_true] at h3
        rcases h3 with h3 | h3
        · exact .inl (Nat.eq_of_beq_eq_true h3)
        · obtain ⟨j, _, hj⟩ := List.any_eq_true.1 h3
          simp only [Bool.and_eq_true] at hj
          obtain ⟨h4, h5, h6⟩ := hj
          right
          split at h6
          · rename_i o' ho'
            refine ⟨j, o', h4, ho', ?_, optIs_eq.1 h6⟩
            unfold isMv at h5
            split at h5
            · assumption
            · cases h5
          · cases h6
    · cases h3
theorem bagB_ok (h : bagB c ops tab E0 m tm i0 N = true) : BagOk c ops tab E0 m tm i0 N := by
  unfold bagB at h
  simp only [Bool.and_eq_true] at h
  obtain ⟨h1, h2, h3, h4⟩ := h
  have hlen := Nat.eq_of_beq_eq_true h3
  have key : ∀ (i : Nat) (o : Oper), ops[i]? = some o → ∃ k, tab[i]? = some k ∧ o.guard.isNone = true ∧ (o.after.toList.all (fun e => !Region.binds .any e || Nat.blt e.on i)) = true ∧ (match o.dst with
      | some d => Nat.blt d N && ((E0.get d).isNone && (List.range ops.size).all fun j => Nat.beq j i || (match ops[j]? with | some o' => !optIs o'.dst d | none => true))
      | none => true) = true ∧ (match insOf tab i with
      | some s => (List.range tab.length).all fun j => Nat.beq i j || (match insOf tab j with | some s' => isFls (eqLI s s') | none => true)
      | none => true) = true ∧ bagKd c ops tab E0 m tm i0 i o k = true := fun i o ho => by
    have hi := (Array.getElem?_eq_some_iff.1 ho).1
    have h5 := List.all_eq_true.1 h4 i (List.mem_range.2 hi)
    unfold bagOp at h5
    rw [ho] at h5
    split at h5
    · rename_i o' k ho' hk
      injection ho' with ho'; subst ho'
      simp only [Bool.and_eq_true] at h5
      exact ⟨k, hk, h5.1, h5.2.1, h5.2.2.1, h5.2.2.2.1, h5.2.2.2.2⟩
    · cases h5
  refine ⟨fun i o d ho hd => ?_, fun i o ho => ?_, fun i o ho => ?_, fun i j s v s' v' hij hi hj => ?_, ⟨Nat.lt_of_succ_le (Nat.le_of_ble_eq_true h1), ?_⟩⟩
  · obtain ⟨k, hk, k1, k2, k3, k4, k5⟩ := key i o ho
    rw [hd] at k3
    simp only [Bool.and_eq_true] at k3
    obtain ⟨k6, k7, k8⟩ := k3
    refine ⟨Nat.lt_of_succ_le (Nat.le_of_ble_eq_true k6), by simpa using k7, fun j o' ho' hd' => ?_⟩
    have hj := (Array.getElem?_eq_some_iff.1 ho').1
    have k9 := List.all_eq_true.1 k8 j (List.mem_range.2 hj)
    rw [Bool.or_eq_true] at k9
    rcases k9 with k9 | k9
    · exact Nat.eq_of_beq_eq_true k9
    · rw [ho'] at k9
      simp only at k9
      rw [optIs_eq.2 hd'] at k9
      cases k9
  · obtain ⟨k, hk, k1, k2, _⟩ := key i o ho
    refine ⟨k1, fun e he hb => ?_⟩
    have := List.all_eq_true.1 k2 e (by simpa using he)
    rw [hb] at this
    simpa using this
  · obtain ⟨k, hk, k1, k2, k3, k4, k5⟩ := key i o ho
    exact ⟨k, hk, bagKd_ok k5⟩
  · have hi' : i < ops.size := by rw [← hlen]; exact (List.getElem?_eq_some_iff.1 hi).1
    have hj' : j < tab.length := (List.getElem?_eq_some_iff.1 hj).1
    obtain ⟨k, hk, k1, k2, k3, k4, k5⟩ := key i ops[i] (Array.getElem?_eq_getElem hi')
    have e1 : insOf tab i = some s := by unfold insOf; rw [hi]
    have e2 : insOf tab j = some s' := by unfold insOf; rw [hj]
    rw [e1] at k4
    have k6 := List.all_eq_true.1 k4 j (List.mem_range.2 hj')
    rw [Bool.or_eq_true] at k6
    rcases k6 with k6 | k6
    · exact absurd (Nat.eq_of_beq_eq_true k6) hij
    · rw [e2] at k6
      simp only at k6
      unfold isFls at k6
      split at k6
      · rename_i h7
        intro e
        exact strOfNums_ne h7 (by
          have := congrArg (fun b : ByteArray => b.data.toList) e
          simpa [strOfNums_data] using this)
      · cases k6
  · unfold isMk at h2
    split at h2
    · assumption
    · cases h2
/-- what such a region leaves -/
structure BagEnd (F : Fx) (ρ : Val) (ops : Array Oper) (tab : List Bk) (E0 : VEnv) (tm N : Nat) (D0 : List Deferred) (w0 : World) (a : Act) (w : World) (g : Nat) (K : List (ByteArray × Value)) : Prop where
  sz : a.tmps.size = N
  df : a.defers = D0
  ext : Ext w0 w
  base : Sy F ρ a E0
  new : w0.heap.size ≤ g
  mv : ∀ (j : Nat) (o : Oper) (d : Nat), ops[j]? = some o → tab[j]? = some Bk.mv → o.dst = some d → a.tmps.getD d undef = .map (some g)
  map : StrM w g K
  ent : ∀ (j : Nat) (s : List Int) (v : AV), tab[j]? = some (Bk.ins s (some v)) → (strOfNums s, conc F ρ v) ∈ K
theorem bag_s {id : Nat} (ok : CxOk G c) (hbB : bagB c ops tab E0 m tm i0 N = true) (hm : MemOk G ρ w m) (hB : G.B ≤ w.heap.size) (hcall : ∀ (i : Nat) (f : FuncId) (vs : List AV), tab[i]? = some (Bk.call f vs) → ∀ w', Ext w w' → Calls c.P f (concs G.F ρ vs).toArray w' fun e w'' => (∃ v, e = .returned v) ∧ Ext w' w'')
    (hsz : a.tmps.size = N) (hD : a.defers = D0) (hE : Sy G.F ρ a E0) (hQ : ∀ a1 w1 g K, BagEnd G.F ρ ops tab E0 tm N D0 w a1 w1 g K → Q .normal a1 w1) : (Code.region id ops true).wp c.P Q a w := by
  have hb := bagB_ok hbB
  refine wp_region_any ok.mixed (wpAny_inv (I := BI G.F ρ ops tab E0 tm i0 N D0 w) (fun listed a1 w1 hs h i hi => bag_step ok hb hm hB hcall h hs hi) (fun listed a1 w1 hs h hr => ?_) ops.size _ a _ (by simp) (Nat.le_trans List.count_le_length (by simp)) ?_)
  · have hall := all_listed hs (fun j o ho => (hb.gd j o ho).2) hr
    obtain ⟨g, K, h1, h2, h3, h4, h5⟩ := h.map (hall i0 hb.at0.1)
    refine hQ a1 w1 g K ⟨h.sz, h.df, h.ext, h.base, h2, fun j o d ho hk hd => ?_, h4, fun j s v hk => ?_⟩
    · exact h3 j o d ho hk hd (hall j (Array.getElem?_eq_some_iff.1 ho).1)
    · refine h5 j s v hk (hall j ?_)
      have := (List.getElem?_eq_some_iff.1 hk).1
      unfold bagB at hbB
      simp only [Bool.and_eq_true] at hbB
      rw [← Nat.eq_of_beq_eq_true hbB.2.2.1]; exact this
  · have hno : ∀ j, ¬ (Array.replicate ops.size false).getD j false = true := fun j hj => by
      rw [Array.getD_eq_getD_getElem?, Array.getElem?_replicate] at hj
      split at hj <;> simp at hj
    exact ⟨fun j o ho hj => absurd hj (hno j), hsz, hD, (Below.refl _ _).drew, hE, fun j o d v ho hk hd hl => absurd hl (hno j), fun hl => absurd hl (hno _)⟩
end
end Go.Proofs.AL.Rx
