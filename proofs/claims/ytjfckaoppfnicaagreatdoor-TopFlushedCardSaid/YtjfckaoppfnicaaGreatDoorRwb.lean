/- RV at this program: the shell's table of commands. -/
import Derived.Test.YtjfckaoppfnicaaGreatDoorRwa
import Derived.Test.YtjfckaoppfnicaaGreatDoorRvb
set_option linter.unusedVariables false
set_option linter.unusedSimpArgs false
/- RV at this seat: the shell's commands. -/
set_option linter.unusedVariables false
set_option linter.unusedSimpArgs false
set_option maxRecDepth 100000
namespace Go.Proofs.AL.Rx
open Go Go.RowKit Go.Proofs.AL
def tab89 : List Bk := [.mk, .q (.ptr 1 0), .q (.ptr 1 0), .q (.ptr 1 1), .q (.opq 2), .call 128 [.opq 2], .ins [(.ofNat 102), (.ofNat 97), (.ofNat 105), (.ofNat 108), (.ofNat 115)] .none, .q (.ptr 1 0), .q (.ptr 1 0), .q (.ptr 1 2), .q (.opq 3), .call 128 [.opq 3], .ins [(.ofNat 107), (.ofNat 101), (.ofNat 101), (.ofNat 112), (.ofNat 115)] .none, .q (.ptr 1 0), .q (.fn (.func 129) [.ptr 1 0] []), .q (.agg [.int .i64 (.negSucc 0), .fn (.func 129) [.ptr 1 0] []]), .ins [(.ofNat 112), (.ofNat 111), (.ofNat 111), (.ofNat 108)] (.some (.agg [.int .i64 (.negSucc 0), .fn (.func 129) [.ptr 1 0] []])), .q (.ptr 1 0), .q (.fn (.func 130) [.ptr 1 0] []), .q (.agg [.int .i64 (.negSucc 0), .fn (.func 130) [.ptr 1 0] []]), .ins [(.ofNat 109), (.ofNat 105), (.ofNat 110), (.ofNat 116)] (.some (.agg [.int .i64 (.negSucc 0), .fn (.func 130) [.ptr 1 0] []])), .q (.ptr 1 0), .q (.fn (.func 131) [.ptr 1 0] []), .q (.agg [.int .i64 (.ofNat 0), .fn (.func 131) [.ptr 1 0] []]), .ins [(.ofNat 97), (.ofNat 116)] (.some (.agg [.int .i64 (.ofNat 0), .fn (.func 131) [.ptr 1 0] []])), .q (.fn (.func 132) [] [.ptr 0 0]), .q (.agg [.int .i64 (.ofNat 1), .fn (.func 132) [] [.ptr 0 0]]), .ins [(.ofNat 114), (.ofNat 111), (.ofNat 111), (.ofNat 116)] (.some (.agg [.int .i64 (.ofNat 1), .fn (.func 132) [] [.ptr 0 0]])), .q (.fn (.func 135) [] [.ptr 0 0]), .q (.agg [.int .i64 (.ofNat 5), .fn (.func 135) [] [.ptr 0 0]]), .ins [(.ofNat 114), (.ofNat 101), (.ofNat 118), (.ofNat 111), (.ofNat 107), (.ofNat 101)] (.some (.agg [.int .i64 (.ofNat 5), .fn (.func 135) [] [.ptr 0 0]])), .q (.fn (.func 139) [] [.ptr 0 0]), .q (.agg [.int .i64 (.ofNat 2), .fn (.func 139) [] [.ptr 0 0]]), .ins [(.ofNat 114), (.ofNat 97), (.ofNat 119)] (.some (.agg [.int .i64 (.ofNat 2), .fn (.func 139) [] [.ptr 0 0]])), .q (.fn (.func 142) [] [.ptr 0 0]), .q (.agg [.int .i64 (.ofNat 1), .fn (.func 142) [] [.ptr 0 0]]), .ins [(.ofNat 116), (.ofNat 105), (.ofNat 99), (.ofNat 107)] (.some (.agg [.int .i64 (.ofNat 1), .fn (.func 142) [] [.ptr 0 0]])), .q (.fn (.func 146) [] [.ptr 0 0]), .q (.agg [.int .i64 (.ofNat 0), .fn (.func 146) [] [.ptr 0 0]]), .ins [(.ofNat 99), (.ofNat 114), (.ofNat 97), (.ofNat 115), (.ofNat 104)] (.some (.agg [.int .i64 (.ofNat 0), .fn (.func 146) [] [.ptr 0 0]])), .q (.fn (.func 147) [] [.ptr 0 0]), .q (.agg [.int .i64 (.ofNat 5), .fn (.func 147) [] [.ptr 0 0]]), .ins [(.ofNat 116), (.ofNat 117), (.ofNat 114), (.ofNat 110)] (.some (.agg [.int .i64 (.ofNat 5), .fn (.func 147) [] [.ptr 0 0]])), .q (.fn (.func 149) [] [.ptr 0 0]), .q (.agg [.int .i64 (.ofNat 3), .fn (.func 149) [] [.ptr 0 0]]), .ins [(.ofNat 108), (.ofNat 97), (.ofNat 115), (.ofNat 116), (.ofNat 105), (.ofNat 110), (.ofNat 103)] (.some (.agg [.int .i64 (.ofNat 3), .fn (.func 149) [] [.ptr 0 0]])), .q (.fn (.func 152) [] [.ptr 0 0]), .q (.agg [.int .i64 (.ofNat 1), .fn (.func 152) [] [.ptr 0 0]]), .ins [(.ofNat 111), (.ofNat 117), (.ofNat 116)] (.some (.agg [.int .i64 (.ofNat 1), .fn (.func 152) [] [.ptr 0 0]])), .q (.fn (.func 155) [] [.ptr 0 0]), .q (.agg [.int .i64 (.ofNat 1), .fn (.func 155) [] [.ptr 0 0]]), .ins [(.ofNat 99), (.ofNat 111), (.ofNat 117), (.ofNat 110), (.ofNat 116)] (.some (.agg [.int .i64 (.ofNat 1), .fn (.func 155) [] [.ptr 0 0]])), .q (.fn (.func 158) [] [.ptr 0 0]), .q (.agg [.int .i64 (.ofNat 1), .fn (.func 158) [] [.ptr 0 0]]), .ins [(.ofNat 116), (.ofNat 101), (.ofNat 110), (.ofNat 97), (.ofNat 110), (.ofNat 116)] (.some (.agg [.int .i64 (.ofNat 1), .fn (.func 158) [] [.ptr 0 0]])), .mv, .mv]
def E89 : VEnv := Tr.set (some (.ptr 0 0)) 40 1 .leaf
def m89 : Tr Ao := Tr.set (some (.cells 109 [.ptr 1 0] none)) 40 0 (Tr.set (some (.ro [.opq 1, .opq 2, .opq 3])) 40 1 .leaf)
/-- the parts of that body -/
structure P89 where
  r0 : Code
  i1 : Nat
  ops : Array Oper
  r2 : Code
  ib : Nat
  body : Code
  r6 : Code
def parts89 : Code → Option P89
  | .seq r0 (.seq (.region i1 ops true) (.seq (.seq r2 (.block ib (.loop b))) (.seq r6 .ret))) => some ⟨r0, i1, ops, r2, ib, b, r6⟩
  | _ => none
def get89 (P : Program) : Option (Func × P89) := (P.funcs[89]?).bind fun fn => (fn.body.bind parts89).map fun p => (fn, p)
def chkBag (P : Program) : Bool := match get89 P with
  | some (fn, p) => Nat.beq fn.ntmps 63 && bagB (c0 P) p.ops tab89 E89 m89 6 0 63
  | none => false
theorem chkBag_k : chkBag Tryz.prog = true := by kernel_rfl
end Go.Proofs.AL.Rx
/- RV: places under other names. -/
set_option linter.unusedVariables false
set_option linter.unusedSimpArgs false
namespace Go.Proofs.AL.Rx
open Go Go.RowKit Go.Proofs.AL
mutual
def mapId (f : Nat → Nat) : AV → AV
  | .ptr i o => .ptr (f i) o
  | .sl i a b c => .sl (f i) a b c
  | .rw i a b c => .rw (f i) a b c
  | .em i a b c => .em (f i) a b c
  | .map i => .map (f i)
  | .fn g x y => .fn g (mapIds f x) (mapIds f y)
  | .ifc t v => .ifc t (mapId f v)
  | .agg l => .agg (mapIds f l)
  | .tup l => .tup (mapIds f l)
  | .ys l => .ys (mapIds f l)
  | .crc l j => .crc (mapIds f l) j
  | .bool b => .bool b
  | .int k n => .int k n
  | .sym k n => .sym k n
  | .str s => .str s
  | .nilp => .nilp
  | .nils => .nils
  | .nilm => .nilm
  | .nilf => .nilf
  | .nili => .nili
  | .opq k => .opq k
def mapIds (f : Nat → Nat) : List AV → List AV
  | [] => []
  | v :: r => mapId f v :: mapIds f r
end
/-- the names, seen through others -/
def Val.by (ρ : Val) (f : Nat → Nat) : Val := ⟨fun i => ρ.blk (f i), fun i => ρ.cap (f i)⟩
mutual
theorem conc_mapId (F : Fx) (ρ : Val) (f : Nat → Nat) : ∀ v : AV, conc F ρ (mapId f v) = conc F (ρ.by f) v
  | .ptr i o => rfl
  | .sl i a b c => rfl
  | .rw i a b c => rfl
  | .em i a b c => rfl
  | .map i => rfl
  | .fn g x y => by simp only [mapId, conc, concs_mapId F ρ f x, concs_mapId F ρ f y]
  | .ifc t v => by simp only [mapId, conc, conc_mapId F ρ f v]
  | .agg l => by simp only [mapId, conc, concs_mapId F ρ f l]
  | .tup l => by simp only [mapId, conc, concs_mapId F ρ f l]
  | .ys l => by simp only [mapId, conc, concs_mapId F ρ f l]
  | .crc l j => by simp only [mapId, conc, concs_mapId F ρ f l]
  | .bool b => rfl
  | .int k n => rfl
  | .sym k n => rfl
  | .str s => rfl
  | .nilp => rfl
  | .nils => rfl
  | .nilm => rfl
  | .nilf => rfl
  | .nili => rfl
  | .opq k => rfl
theorem concs_mapId (F : Fx) (ρ : Val) (f : Nat → Nat) : ∀ l : List AV, concs F ρ (mapIds f l) = concs F (ρ.by f) l
  | [] => rfl
  | v :: r => by simp only [mapIds, concs, conc_mapId F ρ f v, concs_mapId F ρ f r]
end
def mapO (f : Nat → Nat) : Ao → Ao
  | .cells t cs m => .cells t (mapIds f cs) m
  | .map es c => .map (es.map fun e => (mapId f e.1, mapId f e.2.1, e.2.2)) c
  | .look es => .look (es.map fun e => (mapId f e.1, mapId f e.2))
  | .iter m a b c => .iter (f m) a b c
  | .inv k j => .inv k (f j)
  | .ro cs => .ro (mapIds f cs)
theorem mapIds_len (f : Nat → Nat) : ∀ l : List AV, (mapIds f l).length = l.length
  | [] => rfl
  | v :: r => by simp only [mapIds, List.length_cons, mapIds_len f r]
theorem objOk_map {F : Fx} {ρ : Val} {w : World} {f : Nat → Nat} {i : Nat} : ∀ {o : Ao}, objOk F (ρ.by f) w i o → objOk F ρ w (f i) (mapO f o)
  | .cells t cs none, h => by simp only [mapO, objOk, concs_mapId]; exact h
  | .cells t cs (some sz), h => by
    obtain ⟨rest, n, h1, h2, h3, h4⟩ := h
    refine ⟨rest, n, ?_, by rw [mapIds_len]; exact h2, h3, h4⟩
    rw [concs_mapId]; exact h1
  | .map es c, h => by
    simp only [mapO, objOk, List.map_map] at h ⊢
    have : (fun e => entC F ρ e) ∘ (fun e : AV × AV × Nat => (mapId f e.1, mapId f e.2.1, e.2.2)) = entC F (ρ.by f) := by
      funext e
      simp only [Function.comp, entC, conc_mapId]
    rw [show entC F ρ ∘ _ = _ from this]
    exact h
  | .look es, h => by
    obtain ⟨ents, cl, h1, h2, h3⟩ := h
    refine ⟨ents, cl, h1, fun k v hkv => ?_, h3⟩
    obtain ⟨e, he, e1⟩ := List.mem_map.1 hkv
    injection e1 with e1 e2; subst e1 e2
    obtain ⟨s, j, e3, h4⟩ := h2 e.1 e.2 he
    refine ⟨s, j, by rw [e3]; rfl, ?_⟩
    rw [conc_mapId, conc_mapId]; exact h4
  | .iter m a b c, h => h
  | .inv k j, h => h
  | .ro cs, h => by
    obtain ⟨rest, t, mk, h1⟩ := h
    refine ⟨rest, t, mk, ?_⟩
    rw [concs_mapId]; exact h1
theorem wr_map {f : Nat → Nat} {o : Ao} : wr (mapO f o) = wr o := by cases o <;> rfl
theorem MemOk.ren {G : Fb} {ρ : Val} {w : World} {f : Nat → Nat} {m m' : Tr Ao} (hf : ∀ i, f (f i) = i) (h : MemOk G (ρ.by f) w m) (hm : ∀ i o, m'.get i = some o → ∃ o', m.get (f i) = some o' ∧ mapO f o' = o) : MemOk G ρ w m' := by
  refine ⟨fun i o ho => ?_, fun i o ho hw => ?_, fun i j o p ho hp hw e => ?_⟩
  · obtain ⟨o', h1, rfl⟩ := hm i o ho
    have := objOk_map (h.ok _ _ h1)
    rwa [hf] at this
  · obtain ⟨o', h1, rfl⟩ := hm i o ho
    have := h.lo _ _ h1 (by rw [← wr_map (f := f)]; exact hw)
    simpa [Val.by, hf] using this
  · obtain ⟨o', h1, rfl⟩ := hm i o ho
    obtain ⟨p', h2, rfl⟩ := hm j p hp
    have := h.inj _ _ _ _ h1 h2 (by rw [← wr_map (f := f)]; exact hw) (by simpa [Val.by, hf] using e)
    rw [← hf i, this, hf]
end Go.Proofs.AL.Rx
/- RV: what is told hangs on the names that occur alone. -/
set_option linter.unusedVariables false
set_option linter.unusedSimpArgs false
namespace Go.Proofs.AL.Rx
open Go Go.RowKit Go.Proofs.AL
mutual
def bndV (n : Nat) : AV → Bool
  | .ptr i _ => Nat.blt i n
  | .sl i _ _ _ => Nat.blt i n
  | .rw i _ _ _ => Nat.blt i n
  | .em i _ _ _ => Nat.blt i n
  | .map i => Nat.blt i n
  | .fn _ x y => bndVs n x && bndVs n y
  | .ifc _ v => bndV n v
  | .agg l => bndVs n l
  | .tup l => bndVs n l
  | .ys l => bndVs n l
  | .crc l _ => bndVs n l
  | _ => true
def bndVs (n : Nat) : List AV → Bool
  | [] => true
  | v :: r => bndV n v && bndVs n r
end
def Upto (n : Nat) : Nat → Prop := fun i => i < n
theorem bnd_blk {ρ ρ' : Val} {n : Nat} (k : Agree (Upto n) ρ ρ') {i : Nat} (h : Nat.blt i n = true) : ρ'.blk i = ρ.blk i ∧ ρ'.cap i = ρ.cap i := k i (Nat.lt_of_succ_le (Nat.le_of_ble_eq_true h))
mutual
theorem conc_bnd {F : Fx} {ρ ρ' : Val} {n : Nat} (k : Agree (Upto n) ρ ρ') : ∀ v : AV, bndV n v = true → conc F ρ' v = conc F ρ v
  | .ptr i o, h => by simp only [conc, (bnd_blk k h).1]
  | .sl i a b c, h => by simp only [conc, (bnd_blk k h).1]
  | .rw i a b c, h => by simp only [conc, (bnd_blk k h).1, (bnd_blk k h).2]
  | .em i a b c, h => by simp only [conc, (bnd_blk k h).1, (bnd_blk k h).2]
  | .map i, h => by simp only [conc, (bnd_blk k h).1]
  | .fn g x y, h => by
    simp only [bndV, Bool.and_eq_true] at h
    simp only [conc, concs_bnd k x h.1, concs_bnd k y h.2]
  | .ifc t v, h => by simp only [bndV] at h; simp only [conc, conc_bnd k v h]
  | .agg l, h => by simp only [bndV] at h; simp only [conc, concs_bnd k l h]
  | .tup l, h => by simp only [bndV] at h; simp only [conc, concs_bnd k l h]
  | .ys l, h => by simp only [bndV] at h; simp only [conc, concs_bnd k l h]
  | .crc l j, h => by simp only [bndV] at h; simp only [conc, concs_bnd k l h]
  | .bool b, _ => rfl
  | .int k n, _ => rfl
  | .sym k n, _ => rfl
  | .str s, _ => rfl
  | .nilp, _ => rfl
  | .nils, _ => rfl
  | .nilm, _ => rfl
  | .nilf, _ => rfl
  | .nili, _ => rfl
  | .opq k, _ => rfl
theorem concs_bnd {F : Fx} {ρ ρ' : Val} {n : Nat} (k : Agree (Upto n) ρ ρ') : ∀ l : List AV, bndVs n l = true → concs F ρ' l = concs F ρ l
  | [], _ => rfl
  | v :: r, h => by
    simp only [bndVs, Bool.and_eq_true] at h
    simp only [concs, conc_bnd k v h.1, concs_bnd k r h.2]
end
def bndO (n : Nat) : Ao → Bool
  | .cells _ cs _ => bndVs n cs
  | .map es _ => es.all fun e => bndV n e.1 && bndV n e.2.1
  | .look es => es.all fun e => bndV n e.1 && bndV n e.2
  | .iter m _ _ _ => Nat.blt m n
  | .inv _ j => Nat.blt j n
  | .ro cs => bndVs n cs
theorem objOk_bnd {F : Fx} {ρ ρ' : Val} {n : Nat} {w : World} {i : Nat} (k : Agree (Upto n) ρ ρ') (hi : i < n) : ∀ {o : Ao}, bndO n o = true → objOk F ρ w i o → objOk F ρ' w i o
  | .cells t cs none, hb, h => by
    simp only [objOk, (k i hi).1, concs_bnd k cs hb] at h ⊢; exact h
  | .cells t cs (some sz), hb, h => by
    obtain ⟨rest, m, h1, h2, h3, h4⟩ := h
    refine ⟨rest, m, ?_, h2, by rw [(k i hi).2]; exact h3, by rw [(k i hi).2]; exact h4⟩
    rw [(k i hi).1, concs_bnd k cs hb]; exact h1
  | .map es c, hb, h => by
    have : es.map (entC F ρ') = es.map (entC F ρ) := List.map_congr_left fun e he => by
      have := List.all_eq_true.1 hb e he
      simp only [Bool.and_eq_true] at this
      simp only [entC, conc_bnd k _ this.1, conc_bnd k _ this.2]
    simp only [objOk, (k i hi).1, this] at h ⊢; exact h
  | .look es, hb, h => by
    obtain ⟨ents, cl, h1, h2, h3⟩ := h
    refine ⟨ents, cl, by rw [(k i hi).1]; exact h1, fun q v hq => ?_, h3⟩
    obtain ⟨s, j, e, h4⟩ := h2 q v hq
    have := List.all_eq_true.1 hb _ hq
    simp only [Bool.and_eq_true] at this
    exact ⟨s, j, e, by rw [conc_bnd k _ this.1, conc_bnd k _ this.2]; exact h4⟩
  | .iter m a b c, hb, h => by
    simp only [objOk, (k i hi).1, (bnd_blk k hb).1] at h ⊢; exact h
  | .inv q j, hb, h => by
    simp only [objOk, (k i hi).1, (bnd_blk k hb).1] at h ⊢; exact h
  | .ro cs, hb, h => by
    obtain ⟨rest, t, mk, h1⟩ := h
    refine ⟨rest, t, mk, ?_⟩
    rw [(k i hi).1, concs_bnd k cs hb]; exact h1
def BndM (n : Nat) (m : Tr Ao) : Prop := ∀ i o, m.get i = some o → i < n ∧ bndO n o = true
def BndE (n : Nat) (E : VEnv) : Prop := ∀ t v, E.get t = some v → bndV n v = true
theorem MemOk.bnd {G : Fb} {ρ ρ' : Val} {n : Nat} {w : World} {m : Tr Ao} (h : MemOk G ρ w m) (k : Agree (Upto n) ρ ρ') (hb : BndM n m) : MemOk G ρ' w m :=
  ⟨fun i o ho => objOk_bnd k (hb i o ho).1 (hb i o ho).2 (h.ok i o ho), fun i o ho hw => by rw [(k i (hb i o ho).1).1]; exact h.lo i o ho hw,
    fun i j o p ho hp hw e => h.inj i j o p ho hp hw (by rw [← (k i (hb i o ho).1).1, ← (k j (hb j p hp).1).1]; exact e)⟩
/-- from one naming -/
theorem SR.one {G : Fb} {N n : Nat} {ρ : Val} {a : Act} {w : World} {E : VEnv} {m : Tr Ao} (hs : Sy G.F ρ a E) (hd : a.defers = []) (hm : MemOk G ρ w m) (hB : G.B ≤ w.heap.size) (hz : a.tmps.size = N) (hE : BndE n E) (hM : BndM n m) : SR G N (Upto n) ρ a w E [] m :=
  ⟨fun ρ' k => ⟨fun t v ht => by rw [conc_bnd k v (hE t v ht)]; exact hs t v ht, hd, hm.bnd k hM⟩, hB, hz⟩
/-- all of a tree -/
def allT {α : Type} (p : α → Bool) : Tr α → Bool
  | .leaf => true
  | .node l v r => allT p l && ((match v with | some x => p x | none => true) && allT p r)
theorem allT_get {α : Type} {p : α → Bool} : ∀ {t : Tr α}, allT p t = true → ∀ k x, t.get k = some x → p x = true
  | .leaf, _, k, x, h => by rw [Tr.get_leaf] at h; cases h
  | .node l u r, ht, k, x, h => by
    simp only [allT, Bool.and_eq_true] at ht
    unfold Tr.get at h
    cases k with
    | zero => simp only at h; subst h; exact ht.2.1
    | succ k =>
      simp only at h
      cases hb : Nat.beq (k % 2) 0 with
      | true => simp only [hb, cond_true] at h; exact allT_get ht.1 _ x h
      | false => simp only [hb, cond_false] at h; exact allT_get ht.2.2 _ x h
end Go.Proofs.AL.Rx
/- RV at this seat: the round of the shell's commands. -/
set_option linter.unusedVariables false
set_option linter.unusedSimpArgs false
namespace Go.Proofs.AL.Rx
open Go Go.RowKit Go.Proofs.AL
/-- two rows of three names changed for each other -/
def swp (n c i : Nat) : Nat := bif Nat.ble n i && Nat.blt i (n + 3) then i - n + c else bif Nat.ble c i && Nat.blt i (c + 3) then i - c + n else i
theorem swp_swp {n c : Nat} (h : c = n ∨ c + 3 ≤ n) (i : Nat) : swp n c (swp n c i) = i := by
  have key : ∀ j, swp n c j = if n ≤ j ∧ j < n + 3 then j - n + c else if c ≤ j ∧ j < c + 3 then j - c + n else j := fun j => by
    unfold swp
    by_cases h1 : n ≤ j ∧ j < n + 3
    · have : (Nat.ble n j && Nat.blt j (n + 3)) = true := by simp [Nat.blt]; omega
      rw [this, if_pos h1]; rfl
    · have : (Nat.ble n j && Nat.blt j (n + 3)) = false := by
        rw [Bool.eq_false_iff]; simp [Nat.blt]; omega
      rw [this, if_neg h1]
      by_cases h2 : c ≤ j ∧ j < c + 3
      · have : (Nat.ble c j && Nat.blt j (c + 3)) = true := by simp [Nat.blt]; omega
        rw [this, if_pos h2]; rfl
      · have : (Nat.ble c j && Nat.blt j (c + 3)) = false := by
          rw [Bool.eq_false_iff]; simp [Nat.blt]; omega
        rw [this, if_neg h2]; rfl
  rw [key, key i]
  repeat' (first | omega | split)
def covO (f : Nat → Nat) (o' o : Ao) : Bool :=
  match mapO f o', o with
  | .look es', .look es => es.all fun e => es'.any fun e' => same e'.1 e.1 && same e'.2 e.2
  | .cells _ cs none, .ro cs' => sames cs cs'
  | x, y => sameO x y
def coverM (f : Nat → Nat) (target : List (Nat × Ao)) (m : Tr Ao) : Bool := target.all fun x => match m.get (f x.1) with | some o' => covO f o' x.2 | none => false
def coverE (f : Nat → Nat) (target : List (Nat × AV)) (E : VEnv) : Bool := target.all fun x => match E.get x.1 with | some v => same (mapId f v) x.2 | none => false
def mkT {α : Type} : List (Nat × α) → Tr α
  | [] => .leaf
  | (i, x) :: r => Tr.set (some x) 40 i (mkT r)
/-- the entries that are followed: number, words, name -/
def fol : List (Nat × Int × List Int) := [(1, 1, [102, 101, 116, 99, 104]), (2, 3, [114, 101, 97, 100]), (3, 3, [119, 114, 105, 116, 101])]
def isIn (V : List Nat) (k : Nat) : Bool := V.any fun x => Nat.beq x k
def folV (V : List Nat) : List (Nat × Int × List Int) := fol.filter fun x => isIn V x.1
def look89 (V : List Nat) : Ao := .look ([(.str [116, 105, 99, 107], .agg [.int .i64 1, .fn (.func 142) [] [.ptr 0 0]]), (.str [111, 117, 116], .agg [.int .i64 1, .fn (.func 152) [] [.ptr 0 0]])] ++ (folV V).map fun x => (.str x.2.2, .agg [.int .i64 (3 + x.2.1), .fn (.func 215) [] [.ptr (10 * x.1 + 1) 0, .ptr (10 * x.1 + 2) 0, .ptr (10 * x.1) 0]]))
def box89 (V : List Nat) : List (Nat × Ao) := (folV V).flatMap fun x => [(10 * x.1, .cells 109 [.ptr 1 0] none), (10 * x.1 + 1, .cells 3 [.int .i64 x.1] none), (10 * x.1 + 2, .cells 3 [.int .i64 x.2.1] none)]
/-- memory at the loop's head; 'it': the iterator -/
def ints89 : List (AV × AV × Nat) := [(.int .i64 1, .int .i64 1, 0), (.int .i64 2, .int .i64 3, 1), (.int .i64 3, .int .i64 3, 2), (.int .i64 4, .int .i64 1, 3), (.int .i64 5, .int .i64 1, 4), (.int .i64 6, .int .i64 0, 5), (.int .i64 7, .int .i64 1, 6), (.int .i64 8, .int .i64 0, 7)]
def mem89 (it : Ao) (V : List Nat) : List (Nat × Ao) := [(0, .cells 109 [.ptr 1 0] none), (1, .ro [.opq 1, .opq 2, .opq 3]), (2, it), (3, .map ints89 8), (4, look89 V)] ++ box89 V
def base89 : List (Nat × AV) := [(1, .ptr 0 0), (3, .map 4), (49, .ptr 2 0)]
def keys89 : List (Nat × Int) := [(1, 1), (2, 3), (3, 3), (4, 1), (5, 1), (6, 0), (7, 1), (8, 0)]
def round89 (P : Program) (ops : Array Oper) (n0 : Nat) (V : List Nat) (k : Nat × Int) : Bool :=
  match xreg (c0 P) (xcall (c0 P) 10) ops true (mkT ((4, .int .i64 k.1) :: (5, .int .i64 k.2) :: base89)) [] ⟨mkT (mem89 (.inv 0 0) V), 40⟩ with
  | .out l => l.all fun o => isN o.e && (o.D.isEmpty && (let f := swp n0 (bif Nat.ble k.1 3 then 10 * k.1 else n0); coverE f base89 o.E && coverM f (mem89 (.inv 0 0) (bif Nat.ble k.1 3 then k.1 :: V else V)) o.s.mem))
  | .bad _ => false
structure L89 where
  r3 : Array Oper
  t : Operand
  ie : Nat
  ib : Nat
  r4 : Array Oper
  r5 : Array Oper
def parts89L : Code → Option L89
  | .seq (.region _ r3 false) (.seq (.cond t .skip (.exit ie)) (.block ib (.seq (.region _ r4 false) (.region _ r5 true)))) => some ⟨r3, t, ie, ib, r4, r5⟩
  | _ => none
def subs89 : List (List Nat) := [[], [1], [2], [3], [1, 2], [1, 3], [2, 3], [1, 2, 3]]
/-- the same ones, told in their order -/
def sort89 (V : List Nat) : List Nat := [1, 2, 3].filter (isIn V)
def chkRound (P : Program) : Bool := match P.funcs[89]? with
  | some fn => (match fn.body with
    | some b => (match b with
      | .seq _ (.seq _ (.seq (.seq _ (.block _ (.loop b))) _)) => (match parts89L b with
        | some q => subs89.all fun V => keys89.all fun k => isIn V k.1 || round89 P q.r5 41 V k
        | none => false)
      | _ => false)
    | none => false)
  | none => false
theorem chkRound_k : chkRound Tryz.prog = true := by kernel_rfl
end Go.Proofs.AL.Rx
/- RV: what hangs on no law and no unknown. -/
set_option linter.unusedVariables false
set_option linter.unusedSimpArgs false
namespace Go.Proofs.AL.Rx
open Go Go.RowKit Go.Proofs.AL
mutual
def plV : AV → Bool
  | .opq _ => false
  | .sym _ _ => false
  | .crc _ _ => false
  | .fn _ x y => plVs x && plVs y
  | .ifc _ v => plV v
  | .agg l => plVs l
  | .tup l => plVs l
  | .ys l => plVs l
  | _ => true
def plVs : List AV → Bool
  | [] => true
  | v :: r => plV v && plVs r
end
section
variable (F F' : Fx) (ρ : Val)
mutual
theorem conc_pl : ∀ v : AV, plV v = true → conc F ρ v = conc F' ρ v
  | .opq _, h => by cases h
  | .sym _ _, h => by cases h
  | .crc _ _, h => by cases h
  | .fn g x y, h => by
    simp only [plV, Bool.and_eq_true] at h
    simp only [conc, concs_pl x h.1, concs_pl y h.2]
  | .ifc t v, h => by simp only [plV] at h; simp only [conc, conc_pl v h]
  | .agg l, h => by simp only [plV] at h; simp only [conc, concs_pl l h]
  | .tup l, h => by simp only [plV] at h; simp only [conc, concs_pl l h]
  | .ys l, h => by simp only [plV] at h; simp only [conc, concs_pl l h]
  | .ptr i o, _ => rfl
  | .sl i a b c, _ => rfl
  | .rw i a b c, _ => rfl
  | .em i a b c, _ => rfl
  | .map i, _ => rfl
  | .bool b, _ => rfl
  | .int k n, _ => rfl
  | .str s, _ => rfl
  | .nilp, _ => rfl
  | .nils, _ => rfl
  | .nilm, _ => rfl
  | .nilf, _ => rfl
  | .nili, _ => rfl
theorem concs_pl : ∀ l : List AV, plVs l = true → concs F ρ l = concs F' ρ l
  | [], _ => rfl
  | v :: r, h => by
    simp only [plVs, Bool.and_eq_true] at h
    simp only [concs, conc_pl v h.1, concs_pl r h.2]
end
end
def plO : Ao → Bool
  | .cells _ cs _ => plVs cs
  | .map es _ => es.all fun e => plV e.1 && plV e.2.1
  | .look es => es.all fun e => plV e.1 && plV e.2
  | .iter _ _ _ _ => true
  | .inv _ _ => false
  | .ro cs => plVs cs
theorem objOk_pl {F F' : Fx} {ρ : Val} {w : World} {i : Nat} : ∀ {o : Ao}, plO o = true → objOk F ρ w i o → objOk F' ρ w i o
  | .cells t cs none, hb, h => by
    simp only [objOk, concs_pl F' F ρ cs hb] at h ⊢; exact h
  | .cells t cs (some sz), hb, h => by
    obtain ⟨rest, m, h1, h2⟩ := h
    exact ⟨rest, m, by rw [concs_pl F' F ρ cs hb]; exact h1, h2⟩
  | .map es c, hb, h => by
    have : es.map (entC F' ρ) = es.map (entC F ρ) := List.map_congr_left fun e he => by
      have := List.all_eq_true.1 hb e he
      simp only [Bool.and_eq_true] at this
      simp only [entC, conc_pl F' F ρ _ this.1, conc_pl F' F ρ _ this.2]
    simp only [objOk, this] at h ⊢; exact h
  | .look es, hb, h => by
    obtain ⟨ents, cl, h1, h2, h3⟩ := h
    refine ⟨ents, cl, h1, fun q v hq => ?_, h3⟩
    obtain ⟨s, j, e, h4⟩ := h2 q v hq
    have := List.all_eq_true.1 hb _ hq
    simp only [Bool.and_eq_true] at this
    exact ⟨s, j, e, by rw [conc_pl F' F ρ _ this.1, conc_pl F' F ρ _ this.2]; exact h4⟩
  | .iter m a b c, hb, h => h
  | .inv q j, hb, h => by cases hb
  | .ro cs, hb, h => by
    obtain ⟨rest, t, mk, h1⟩ := h
    exact ⟨rest, t, mk, by rw [concs_pl F' F ρ cs hb]; exact h1⟩
/-- one object is told otherwise -/
theorem MemOk.turn {G G' : Fb} {ρ : Val} {w : World} {m m' : Tr Ao} (h : MemOk G ρ w m) (hB : G'.B = G.B) (hm : ∀ i o, m'.get i = some o → ∃ o', m.get i = some o' ∧ (wr o = true → wr o' = true) ∧ (objOk G.F ρ w i o' → objOk G'.F ρ w i o)) : MemOk G' ρ w m' := by
  refine ⟨fun i o ho => ?_, fun i o ho hw => ?_, fun i j o p ho hp hw e => ?_⟩
  · obtain ⟨o', h1, h2, h3⟩ := hm i o ho
    exact h3 (h.ok _ _ h1)
  · obtain ⟨o', h1, h2, h3⟩ := hm i o ho
    rw [hB]; exact h.lo _ _ h1 (h2 hw)
  · obtain ⟨o', h1, h2, h3⟩ := hm i o ho
    obtain ⟨p', k1, _, _⟩ := hm j p hp
    exact h.inj _ _ _ _ h1 k1 (h2 hw) e
end Go.Proofs.AL.Rx
/- RV at this seat: a round of the shell's commands. -/
set_option linter.unusedVariables false
set_option linter.unusedSimpArgs false
namespace Go.Proofs.AL.Rx
open Go Go.RowKit Go.Proofs.AL
theorem mkT_mem {α : Type} : ∀ {l : List (Nat × α)} {i : Nat} {x : α}, (mkT l).get i = some x → (i, x) ∈ l
  | [], i, x, h => by rw [mkT, Tr.get_leaf] at h; cases h
  | (j, y) :: r, i, x, h => by
    rcases Tr.get_set _ _ _ _ h with ⟨rfl, e⟩ | ⟨_, h⟩
    · injection e with e; subst e; exact List.mem_cons_self
    · exact List.mem_cons_of_mem _ (mkT_mem h)
theorem by_by {ρ : Val} {f : Nat → Nat} (hf : ∀ i, f (f i) = i) : (ρ.by f).by f = ρ := by
  unfold Val.by
  simp only [hf]
theorem covO_ok {G : Fb} {ρ : Val} {w : World} {f : Nat → Nat} {i : Nat} {o' o : Ao} (h : covO f o' o = true) (ho : objOk G.F (ρ.by f) w i o') : objOk G.F ρ w (f i) o ∧ (wr o = true → wr o' = true) := by
  have h1 := objOk_map ho
  have hw' : wr (mapO f o') = wr o' := wr_map
  rw [← hw']
  clear hw'
  unfold covO at h
  split at h
  · rename_i es' es e1
    rw [e1] at h1
    rw [e1]
    obtain ⟨ents, cl, g1, g2, g3⟩ := h1
    refine ⟨⟨ents, cl, g1, fun k v hkv => ?_, g3⟩, fun _ => rfl⟩
    obtain ⟨e', he', hs⟩ := List.any_eq_true.1 (List.all_eq_true.1 h _ hkv)
    simp only [Bool.and_eq_true] at hs
    have a1 := same_eq _ _ hs.1
    have a2 := same_eq _ _ hs.2
    obtain ⟨s, j, b1, b2⟩ := g2 e'.1 e'.2 he'
    exact ⟨s, j, by rw [← a1]; exact b1, by rw [← a1, ← a2]; exact b2⟩
  · rename_i t cs cs' e1
    rw [e1] at h1
    rw [e1]
    refine ⟨⟨[], t, (0, 0), ?_⟩, fun hw => by cases hw⟩
    rw [List.append_nil, ← sames_eq _ _ h]
    exact h1
  · have e1 := sameO_eq h
    rw [e1] at h1
    rw [e1]
    exact ⟨h1, id⟩
theorem coverM_ok {G : Fb} {ρ : Val} {w : World} {f : Nat → Nat} {l : List (Nat × Ao)} {m : Tr Ao} (hf : ∀ i, f (f i) = i) (h : coverM f l m = true) (hm : MemOk G (ρ.by f) w m) : MemOk G ρ w (mkT l) := by
  have key : ∀ i o, (mkT l).get i = some o → ∃ o', m.get (f i) = some o' ∧ objOk G.F ρ w i o ∧ (wr o = true → wr o' = true) := fun i o ho => by
    have h1 := List.all_eq_true.1 h _ (mkT_mem ho)
    simp only at h1
    split at h1
    · rename_i o' ho'
      obtain ⟨h2, h3⟩ := covO_ok h1 (hm.ok _ _ ho')
      rw [hf] at h2
      exact ⟨o', ho', h2, h3⟩
    · cases h1
  refine ⟨fun i o ho => ?_, fun i o ho hw => ?_, fun i j o p ho hp hw e => ?_⟩
  · obtain ⟨o', _, h2, _⟩ := key i o ho; exact h2
  · obtain ⟨o', h1, h2, h3⟩ := key i o ho
    simpa [Val.by, hf] using hm.lo _ _ h1 (h3 hw)
  · obtain ⟨o', h1, h2, h3⟩ := key i o ho
    obtain ⟨p', k1, k2, k3⟩ := key j p hp
    have := hm.inj _ _ _ _ h1 k1 (h3 hw) (by simpa [Val.by, hf] using e)
    rw [← hf i, this, hf]
theorem coverE_ok {F : Fx} {ρ : Val} {a : Act} {f : Nat → Nat} {l : List (Nat × AV)} {E : VEnv} (hf : ∀ i, f (f i) = i) (h : coverE f l E = true) (hs : Sy F ρ a E) : Sy F (ρ.by f) a (mkT l) := fun t v ht => by
  have h1 := List.all_eq_true.1 h _ (mkT_mem ht)
  simp only at h1
  split at h1
  · rename_i v' hv
    rw [← same_eq _ _ h1, conc_mapId, by_by hf]
    exact hs t v' hv
  · cases h1
theorem swp_low {n c i : Nat} (h1 : i < n) (h2 : i < c) : swp n c i = i := by
  unfold swp
  have e1 : Nat.ble n i = false := by rw [Bool.eq_false_iff]; simp; omega
  have e2 : Nat.ble c i = false := by rw [Bool.eq_false_iff]; simp; omega
  rw [e1, e2]; rfl
theorem isN_eq {e : Ex} (h : isN e = true) : e = .normal := by cases e <;> first | rfl | cases h
def next89 (V : List Nat) (k : Nat) : List Nat := bif Nat.ble k 3 then k :: V else V
theorem round5 {G : Fb} (hF : FxOk G.F) {ops : Array Oper} {V : List Nat} {k : Nat × Int} {i : Nat} {ρ : Val} {a : Act} {w : World} {Q : Exit → Act → World → Prop} (hk : 1 ≤ k.1) (hV : round89 Tryz.prog ops 41 V k = true) (hN : opsOk 63 ops = true) (hns : Region.noSelect ops = true)
    (hs : Sy G.F ρ a (mkT ((4, .int .i64 k.1) :: (5, .int .i64 k.2) :: base89))) (hd : a.defers = []) (hm : MemOk G ρ w (mkT (mem89 (.inv 0 0) V))) (hB : G.B ≤ w.heap.size) (hz : a.tmps.size = 63)
    (hbE : BndE 40 (mkT ((4, .int .i64 k.1) :: (5, .int .i64 k.2) :: base89))) (hbM : BndM 40 (mkT (mem89 (.inv 0 0) V))) (hQ : PanicOk Q)
    (hK : ∀ ρ1 a1 w1, (∀ i, i < 10 → ρ1.blk i = ρ.blk i) → Sy G.F ρ1 a1 (mkT base89) → a1.defers = [] → MemOk G ρ1 w1 (mkT (mem89 (.inv 0 0) (next89 V k.1))) → Below G.B w w1 → w.heap.size ≤ w1.heap.size → a1.tmps.size = 63 → Q .normal a1 w1) : (Code.region i ops true).wp Tryz.prog Q a w := by
  obtain ⟨ok, sp⟩ := c0_okG hF
  have rok := callee_s ok sp 10
  unfold round89 at hV
  split at hV
  · rename_i l hx
    refine reg_s (c := c0 Tryz.prog) ok rok hQ hN hns hx (SR.one hs hd hm hB hz hbE hbM) (fun i hi => hi) fun o ho => ?_
    intro A1 ρ1 a1 w1 hS1 hR1
    have h := List.all_eq_true.1 hV o ho
    simp only [Bool.and_eq_true] at h
    obtain ⟨h1, h2, h3, h4⟩ := h
    rw [isN_eq h1]
    obtain ⟨s1, d1, m1⟩ := hS1.rel ρ1 (Agree.refl _ _)
    have hff := swp_swp (n := 41) (c := bif Nat.ble k.1 3 then 10 * k.1 else 41) (by
      cases hb : Nat.ble k.1 3 with
      | false => left; rfl
      | true => right; have := Nat.le_of_ble_eq_true hb; simp only [cond_true]; omega)
    refine hK (ρ1.by (swp 41 (bif Nat.ble k.1 3 then 10 * k.1 else 41))) a1 w1 (fun i hi => ?_) (coverE_ok hff h3 s1) (by rw [d1, List.isEmpty_iff.1 h2]; rfl) (coverM_ok hff h4 (by rw [by_by hff]; exact m1)) hR1.below hR1.size hS1.size
    have h5 := (hR1.agree i (by show i < 40; omega)).1
    show ρ1.blk (swp 41 _ i) = _
    rw [swp_low (by omega) (by cases hb : Nat.ble k.1 3 <;> simp only [cond_true, cond_false] <;> omega), h5]
  · cases hV
end Go.Proofs.AL.Rx
/- RV: the head of a loop over a map. -/
set_option linter.unusedVariables false
set_option linter.unusedSimpArgs false
namespace Go.Proofs.AL.Rx
open Go Go.RowKit Go.Proofs.AL
section
variable {P : Program} {ops : Array Oper} {Q : Exit → Act → World → Prop} {o : Oper} {r : List Oper} {a : Act} {w w1 : World} {u : Value}
theorem wpList_value (hg : o.guard.isNone = true) (hr : (execOp a.eval o).run P w = .ok (.value u) w1) (h : wpList P ops Q r (a.put o.dst u) w1) : wpList P ops Q (o :: r) a w := by
  unfold wpList
  rw [if_pos (wanted_none hg _)]
  left
  unfold Oper.wp
  rw [hr]
  exact h
theorem wpList_skip (hg : o.guard.isNone = true) (hr : (execOp a.eval o).run P w = .ok .skip w1) (h : wpList P ops Q r (a.put o.dst undef) w1) : wpList P ops Q (o :: r) a w := by
  unfold wpList
  rw [if_pos (wanted_none hg _)]
  left
  unfold Oper.wp
  rw [hr]
  exact h
end
structure Nx (ops : Array Oper) (o0 o1 : Oper) : Prop where
  l : ops.toList = [o0, o1]
  g0 : o0.guard.isNone = true
  g1 : o1.guard.isNone = true
  p0 : o0.op = .next (.tmp 49) false
  p1 : o1.op = .extract (.tmp 50) 0
  d0 : o0.dst = some 50
  d1 : o1.dst = some 51
theorem reg3 {G : Fb} {ops : Array Oper} {o0 o1 : Oper} {i : Nat} {ρ : Val} {a : Act} {w : World} {m : Tr Ao} {seen : List Nat} {Q : Exit → Act → World → Prop} (ok : CxOk G (c0 Tryz.prog)) (hx : Nx ops o0 o1) (hs : Sy G.F ρ a (mkT base89)) (hm : MemOk G ρ w m) (hi : m.get 2 = some (.iter 3 8 seen 8)) (hj : m.get 3 = some (.map ints89 8)) (hz : a.tmps.size = 63) (hd : a.defers = [])
    (hdone : leftA seen ints89 = [] → ∀ a' w', Sy G.F ρ a' (mkT base89) → a'.tmps.getD 51 undef = .bool false → MemOk G ρ w' (Tr.set none 40 2 m) → Below G.B w w' → w.heap.size ≤ w'.heap.size → a'.tmps.size = 63 → a'.defers = [] → Q .normal a' w')
    (hnext : ∀ k v b, (k, v, b) ∈ leftA seen ints89 → ∀ a' w', Sy G.F ρ a' (mkT base89) → a'.tmps.getD 51 undef = .bool true → MemOk G ρ w' (Tr.set (some (.iter 3 8 (seen ++ [b]) 8)) 40 2 m) → Below G.B w w' → w.heap.size ≤ w'.heap.size → a'.tmps.size = 63 → a'.defers = [] → Q .normal a' w') :
    (Code.region i ops false).wp Tryz.prog Q a w := by
  refine wp_region_list ?_
  rw [hx.l]
  have hev : evA (mkT base89) (.tmp 49) = some (.ptr 2 0) := rfl
  have fin : ∀ (v : AV) (m' : Tr Ao) (b : Bool), (∃ u w', MS0 G ρ Tryz.prog a o0 w v m' u w') → (∃ vs, v = .tup (.bool b :: vs)) → (∀ a' w', Sy G.F ρ a' (mkT base89) → a'.tmps.getD 51 undef = .bool b → MemOk G ρ w' m' → Below G.B w w' → w.heap.size ≤ w'.heap.size → a'.tmps.size = 63 → a'.defers = [] → Q .normal a' w') → wpList Tryz.prog ops Q [o0, o1] a w := fun v m' b hMS hv hk => by
    obtain ⟨u, w', hMS⟩ := hMS
    obtain ⟨vs, rfl⟩ := hv
    obtain ⟨h1, h2, h3, h4⟩ := hMS
    obtain ⟨rfl, h6⟩ := h4 trivial
    have hrun : (execOp a.eval o0).run Tryz.prog w = .ok (.value (conc G.F ρ (.tup (.bool b :: vs)))) w' := by
      rcases h1 with h1 | ⟨_, h1⟩
      · exact h1
      · simp only [conc, concs, undef] at h1
        simp at h1
    have hs1 := hs.put (v := .tup (.bool b :: vs)) (o := o0) (by intro d hd'; rw [hx.d0] at hd'; injection hd' with hd'; subst hd'; rw [hz]; decide) rfl
    rw [hx.d0] at hs1
    have hd1 : Does Tryz.prog (a.put (some 50) (conc G.F ρ (.tup (.bool b :: vs)))) o1 w' (conc G.F ρ (.bool b)) := by
      refine xop_v (c := c0 Tryz.prog) (rec := rec0) (s := ⟨m', 0⟩) ok hs1 (.inr h6) hx.p1 ?_
      rfl
    refine wpList_value hx.g0 hrun ?_
    rw [hx.d0]
    refine wpList_value hx.g1 hd1 (wpList_nil ?_)
    rw [hx.d1]
    refine hk _ w' (fun t v ht => ?_) (put_this rfl (by rw [put_size, hz]; decide)) h6 h2 h3 (by rw [put_size, put_size, hz]) (by rw [put_defers, put_defers, hd])
    have hmem := mkT_mem ht
    have hne : t ≠ 50 ∧ t ≠ 51 := by
      simp only [base89, List.mem_cons, Prod.mk.injEq, List.not_mem_nil, or_false] at hmem
      omega
    rw [put_other (fun e => hne.2 (by injection e with e; exact e.symm)), put_other (fun e => hne.1 (by injection e with e; exact e.symm))]
    exact hs t v ht
  cases hL : leftA seen ints89 with
  | nil =>
    have hxn : xnext ⟨m, 0⟩ (evA (mkT base89) (.tmp 49)) = some [(.tup [.bool false], St.del ⟨m, 0⟩ 2)] := by
      rw [hev]
      simp only [xnext, hi, hj, hL]
      rfl
    obtain ⟨v, s', u, w', hl, hMS, _⟩ := x_next hs hm hx.p0 hxn
    have : (v, s') = (.tup [.bool false], St.del ⟨m, 0⟩ 2) := by
      have := List.mem_of_getElem? hl
      simpa using this
    injection this with e1 e2; subst e1 e2
    exact fin _ _ false ⟨u, w', hMS⟩ ⟨[], rfl⟩ (fun a' w' h1 h2 h3 h4 h5 h6 h7 => hdone hL a' w' h1 h2 h3 h4 h5 h6 h7)
  | cons e0 er =>
    have hxn : xnext ⟨m, 0⟩ (evA (mkT base89) (.tmp 49)) = some (steps ⟨m, 0⟩ 2 3 8 seen 8 (e0 :: er)) := by
      rw [hev]
      simp only [xnext, hi, hj, hL]
      rfl
    obtain ⟨v, s', u, w', hl, hMS, _⟩ := x_next hs hm hx.p0 hxn
    rw [steps_get] at hl
    obtain ⟨e, he, e1⟩ := Option.map_eq_some_iff.1 hl
    injection e1 with e1 e2; subst e1 e2
    exact fin _ _ true ⟨u, w', hMS⟩ ⟨[e.1, e.2.1], rfl⟩ (fun a' w' h1 h2 h3 h4 h5 h6 h7 => hnext e.1 e.2.1 e.2.2 (by rw [hL]; exact List.mem_of_getElem? he) a' w' h1 h2 h3 h4 h5 h6 h7)
structure Nt (ops : Array Oper) (o0 o1 o2 o3 o4 : Oper) : Prop where
  l : ops.toList = [o0, o1, o2, o3, o4]
  g : o0.guard.isNone = true ∧ o1.guard.isNone = true ∧ o2.guard.isNone = true ∧ o3.guard.isNone = true ∧ o4.guard.isNone = true
  p : o0.op = .entry (.tmp 49) ∧ o1.op = .extract (.tmp 52) 0 ∧ o2.op = .extract (.tmp 52) 1 ∧ o3.op = .assign (.tmp 53) ∧ o4.op = .assign (.tmp 54)
  d : o0.dst = some 52 ∧ o1.dst = some 53 ∧ o2.dst = some 54 ∧ o3.dst = some 4 ∧ o4.dst = some 5
/-- a value is laid down -/
theorem step_v {G : Fb} {ops : Array Oper} {o : Oper} {r : List Oper} {E : VEnv} {ρ : Val} {a : Act} {w : World} {m : Tr Ao} {v : AV} {d : Nat} {Q : Exit → Act → World → Prop} (ok : CxOk G (c0 Tryz.prog)) (hs : Sy G.F ρ a E) (hm : MemOk G ρ w m) (hz : a.tmps.size = 63) (hg : o.guard.isNone = true) (hdst : o.dst = some d) (hd : d < 63)
    (hop : xop (c0 Tryz.prog) rec0 ⟨m, 0⟩ E o.op = .v v) (hk : ∀ a', Sy G.F ρ a' (dstA E (some d) v) → a'.tmps.size = 63 → a'.defers = a.defers → wpList Tryz.prog ops Q r a' w) : wpList Tryz.prog ops Q (o :: r) a w := by
  have h1 := xop_v (c := c0 Tryz.prog) (rec := rec0) (s := ⟨m, 0⟩) ok hs (.inr hm) rfl hop
  refine wpList_value hg h1 ?_
  have h2 := hs.put (v := v) (o := o) (by intro d' hd'; rw [hdst] at hd'; injection hd' with hd'; subst hd'; rw [hz]; exact hd) rfl
  rw [hdst] at h2 ⊢
  exact hk _ h2 (by rw [put_size, hz]) (by rw [put_defers])
theorem entry_ints {k v : AV} {b : Nat} (h : (k, v, b) ∈ ints89) : entryA b ints89 = some (.tup [k, v]) := by
  simp only [ints89, List.mem_cons, Prod.mk.injEq, List.not_mem_nil, or_false] at h
  rcases h with ⟨rfl, rfl, rfl⟩ | ⟨rfl, rfl, rfl⟩ | ⟨rfl, rfl, rfl⟩ | ⟨rfl, rfl, rfl⟩ | ⟨rfl, rfl, rfl⟩ | ⟨rfl, rfl, rfl⟩ | ⟨rfl, rfl, rfl⟩ | ⟨rfl, rfl, rfl⟩ <;> rfl
theorem reg4 {G : Fb} {ops : Array Oper} {o0 o1 o2 o3 o4 : Oper} {i : Nat} {ρ : Val} {a : Act} {w : World} {m : Tr Ao} {seen : List Nat} {k v : AV} {b : Nat} {Q : Exit → Act → World → Prop} (ok : CxOk G (c0 Tryz.prog)) (hx : Nt ops o0 o1 o2 o3 o4) (hs : Sy G.F ρ a (mkT base89)) (hm : MemOk G ρ w m) (hi : m.get 2 = some (.iter 3 8 (seen ++ [b]) 8)) (hj : m.get 3 = some (.map ints89 8)) (hb : (k, v, b) ∈ ints89) (hz : a.tmps.size = 63) (hd : a.defers = [])
    (hk : ∀ a', Sy G.F ρ a' (mkT ((4, k) :: (5, v) :: base89)) → a'.tmps.size = 63 → a'.defers = [] → Q .normal a' w) : (Code.region i ops false).wp Tryz.prog Q a w := by
  refine wp_region_list ?_
  rw [hx.l]
  obtain ⟨g0, g1, g2, g3, g4⟩ := hx.g
  obtain ⟨p0, p1, p2, p3, p4⟩ := hx.p
  obtain ⟨d0, d1, d2, d3, d4⟩ := hx.d
  refine step_v (v := .tup [k, v]) ok hs hm hz g0 d0 (by decide) (by
    rw [p0]
    have : rEntry m (some (.ptr 2 0)) = some (.tup [k, v]) := by
      simp only [rEntry, hi, hj, List.getLast?_concat]
      exact entry_ints hb
    show rv (rEntry m (some (.ptr 2 0))) = _
    rw [this]; rfl) fun a0 h0 z0 e0 => ?_
  refine step_v (v := k) ok h0 hm z0 g1 d1 (by decide) (by rw [p1]; rfl) fun a1 h1 z1 e1 => ?_
  refine step_v (v := v) ok h1 hm z1 g2 d2 (by decide) (by rw [p2]; rfl) fun a2 h2 z2 e2 => ?_
  refine step_v (v := k) ok h2 hm z2 g3 d3 (by decide) (by rw [p3]; rfl) fun a3 h3 z3 e3 => ?_
  refine step_v (v := v) ok h3 hm z3 g4 d4 (by decide) (by rw [p4]; rfl) fun a4 h4 z4 e4 => ?_
  refine wpList_nil (hk a4 (fun t x ht => ?_) z4 (by rw [e4, e3, e2, e1, e0, hd]))
  have hmem := mkT_mem ht
  simp only [base89, List.mem_cons, Prod.mk.injEq, List.not_mem_nil, or_false] at hmem
  rcases hmem with ⟨rfl, rfl⟩ | ⟨rfl, rfl⟩ | ⟨rfl, rfl⟩ | ⟨rfl, rfl⟩ | ⟨rfl, rfl⟩ <;> exact h4 _ _ rfl
end Go.Proofs.AL.Rx
/- RV at this seat: the loop of the shell's commands. -/
set_option linter.unusedVariables false
set_option linter.unusedSimpArgs false
namespace Go.Proofs.AL.Rx
open Go Go.RowKit Go.Proofs.AL
def isAoX (o : Option Ao) (x : Ao) : Bool := match o with | some y => sameO y x | none => false
/-- what the two memories have in common, and the two places that the loop reads -/
def memB (V : List Nat) (x y : Ao) : Bool := (mem89 x V).all fun e => Nat.beq e.1 2 || (isAoX ((mkT (mem89 y V)).get e.1) e.2 && (Nat.beq e.1 1 || plO e.2))
theorem mem_it (V : List Nat) (hV : V ∈ subs89) (x : Ao) : (mkT (mem89 x V)).get 2 = some x ∧ (mkT (mem89 x V)).get 3 = some (.map ints89 8) ∧ (mkT (mem89 x V)).get 1 = some (.ro [.opq 1, .opq 2, .opq 3]) := by
  simp only [subs89, List.mem_cons, List.not_mem_nil, or_false] at hV
  rcases hV with rfl | rfl | rfl | rfl | rfl | rfl | rfl | rfl <;> exact ⟨rfl, rfl, rfl⟩
theorem set_it (V : List Nat) (hV : V ∈ subs89) (x y : Ao) : Tr.set (some y) 40 2 (mkT (mem89 x V)) = mkT (mem89 y V) := by
  simp only [subs89, List.mem_cons, List.not_mem_nil, or_false] at hV
  rcases hV with rfl | rfl | rfl | rfl | rfl | rfl | rfl | rfl <;> rfl
theorem mem_both (V : List Nat) (hV : V ∈ subs89) (x y : Ao) : memB V x y = true := by
  simp only [subs89, List.mem_cons, List.not_mem_nil, or_false] at hV
  rcases hV with rfl | rfl | rfl | rfl | rfl | rfl | rfl | rfl <;> rfl
theorem mem_one {G : Fb} {ρ : Val} {w : World} {V : List Nat} (hV : V ∈ subs89) {x : Ao} {i : Nat} {o : Ao} (y : Ao) (h : (mkT (mem89 x V)).get i = some o) : (i = 2 ∧ o = x) ∨ (i ≠ 2 ∧ (mkT (mem89 y V)).get i = some o ∧ (plO o = true ∨ o = .ro [.opq 1, .opq 2, .opq 3])) := by
  by_cases hi : i = 2
  · subst hi
    rw [(mem_it V hV x).1] at h
    injection h with h
    exact .inl ⟨rfl, h.symm⟩
  · right
    have h1 := List.all_eq_true.1 (mem_both V hV x y) _ (mkT_mem h)
    rw [Bool.or_eq_true] at h1
    rcases h1 with h1 | h1
    · exact absurd (Nat.eq_of_beq_eq_true h1) hi
    · simp only [Bool.and_eq_true, Bool.or_eq_true] at h1
      obtain ⟨h2, h3⟩ := h1
      refine ⟨hi, ?_, ?_⟩
      · unfold isAoX at h2
        split at h2
        · rename_i z hz
          rw [hz, sameO_eq h2]
        · cases h2
      · rcases h3 with h3 | h3
        · have := Nat.eq_of_beq_eq_true h3
          subst this
          rw [(mem_it V hV x).2.2] at h
          injection h with h
          exact .inr h.symm
        · exact .inl h3
/-- from one telling of the iterator to another -/
theorem mem_turn {G G' : Fb} {ρ : Val} {w : World} {V : List Nat} (hV : V ∈ subs89) {x y : Ao} (hB : G'.B = G.B) (hopq : G'.F.opq = G.F.opq) (hwr : wr x = true) (hxy : objOk G.F ρ w 2 x → objOk G'.F ρ w 2 y) (h : MemOk G ρ w (mkT (mem89 x V))) : MemOk G' ρ w (mkT (mem89 y V)) :=
  h.turn hB fun i o ho => by
    rcases mem_one (G := G) (ρ := ρ) (w := w) hV x ho with ⟨rfl, rfl⟩ | ⟨h1, h2, h3⟩
    · exact ⟨x, (mem_it V hV x).1, fun _ => hwr, hxy⟩
    · refine ⟨o, h2, id, fun h => ?_⟩
      rcases h3 with h3 | rfl
      · exact objOk_pl h3 h
      · simp only [objOk, concs, conc, hopq] at h ⊢; exact h
/-- the ones that were met -/
def metOk (V seen : List Nat) : Prop := ∀ k, k ∈ [1, 2, 3] → (isIn V k = true ↔ (k - 1) ∈ seen)
theorem next_sub : ∀ V ∈ subs89, ∀ k ∈ keys89, isIn V k.1 = false → ∃ V' ∈ subs89, folV V' = folV (next89 V k.1) ∧ (∀ j ∈ [1, 2, 3], isIn V' j = (isIn V j || Nat.beq j k.1)) := by decide
theorem ints_keys {k v : AV} {b : Nat} (h : (k, v, b) ∈ ints89) : ∃ q ∈ keys89, k = .int .i64 q.1 ∧ v = .int .i64 q.2 ∧ b = q.1 - 1 ∧ 1 ≤ q.1 := by
  simp only [ints89, List.mem_cons, Prod.mk.injEq, List.not_mem_nil, or_false] at h
  rcases h with ⟨rfl, rfl, rfl⟩ | ⟨rfl, rfl, rfl⟩ | ⟨rfl, rfl, rfl⟩ | ⟨rfl, rfl, rfl⟩ | ⟨rfl, rfl, rfl⟩ | ⟨rfl, rfl, rfl⟩ | ⟨rfl, rfl, rfl⟩ | ⟨rfl, rfl, rfl⟩
  · exact ⟨(1, 1), by decide, rfl, rfl, rfl, by decide⟩
  · exact ⟨(2, 3), by decide, rfl, rfl, rfl, by decide⟩
  · exact ⟨(3, 3), by decide, rfl, rfl, rfl, by decide⟩
  · exact ⟨(4, 1), by decide, rfl, rfl, rfl, by decide⟩
  · exact ⟨(5, 1), by decide, rfl, rfl, rfl, by decide⟩
  · exact ⟨(6, 0), by decide, rfl, rfl, rfl, by decide⟩
  · exact ⟨(7, 1), by decide, rfl, rfl, rfl, by decide⟩
  · exact ⟨(8, 0), by decide, rfl, rfl, rfl, by decide⟩
theorem far_key : ∀ V ∈ subs89, ∀ k ∈ keys89, 3 < k.1 → isIn V k.1 = false := by decide
theorem sub_all : ∀ V ∈ subs89, (∀ j ∈ [1, 2, 3], isIn V j = true) → V = [1, 2, 3] := by decide
theorem mem_fol {it : Ao} {V V' : List Nat} (h : folV V' = folV V) : mem89 it V' = mem89 it V := by
  unfold mem89 look89 box89
  rw [h]
def bndL (V : List Nat) : Bool := (mem89 (.inv 0 0) V).all fun e => Nat.blt e.1 40 && bndO 40 e.2
theorem bnd_sub : ∀ V ∈ subs89, bndL V = true := fun V hV => by
  simp only [subs89, List.mem_cons, List.not_mem_nil, or_false] at hV
  rcases hV with rfl | rfl | rfl | rfl | rfl | rfl | rfl | rfl <;> rfl
theorem left_less {seen : List Nat} {e : AV × AV × Nat} (h : e ∈ leftA seen ints89) : (leftA (seen ++ [e.2.2]) ints89).length < (leftA seen ints89).length := by
  have h1 : leftA (seen ++ [e.2.2]) ints89 = (leftA seen ints89).filter fun x => !(x.2.2 == e.2.2) := by
    rw [leftA_eq, leftA_eq, List.filter_filter]
    apply List.filter_congr
    intro x _
    rw [Bool.eq_iff_iff]
    simp
    exact And.comm
  rw [h1, List.length_filter_lt_length_iff_exists]
  exact ⟨e, h, by simp⟩
def body89 (j3 j4 j5 ie ib : Nat) (r3 r4 r5 : Array Oper) : Code := .seq (.region j3 r3 false) (.seq (.cond (.tmp 51) .skip (.exit ie)) (.block ib (.seq (.region j4 r4 false) (.region j5 r5 true))))
theorem loop89 {G : Fb} (hF : FxOk G.F) {j3 j4 j5 ie ib : Nat} {r3 r4 r5 : Array Oper} {o0 o1 p0 p1 p2 p3 p4 : Oper} {Q : Exit → Act → World → Prop} (hx : Nx r3 o0 o1) (hy : Nt r4 p0 p1 p2 p3 p4) (h5 : ∀ V ∈ subs89, ∀ k ∈ keys89, isIn V k.1 = false → round89 Tryz.prog r5 41 V k = true) (hN : opsOk 63 r5 = true) (hns : Region.noSelect r5 = true) (hQ : PanicOk Q) :
    ∀ (n : Nat) (V seen : List Nat) (ρ : Val) (a : Act) (w : World), V ∈ subs89 → metOk V seen → (leftA seen ints89).length ≤ n → Sy G.F ρ a (mkT base89) → a.defers = [] → a.tmps.size = 63 → MemOk G ρ w (mkT (mem89 (.iter 3 8 seen 8) V)) → G.B ≤ w.heap.size →
    (∀ ρ1 a1 w1 seen', (∀ i, i < 10 → ρ1.blk i = ρ.blk i) → Sy G.F ρ1 a1 (mkT base89) → a1.defers = [] → a1.tmps.size = 63 → MemOk G ρ1 w1 (Tr.set none 40 2 (mkT (mem89 (.iter 3 8 seen' 8) [1, 2, 3]))) → Below G.B w w1 → w.heap.size ≤ w1.heap.size → Q (.exit ie) a1 w1) →
    Code.rounds Tryz.prog (body89 j3 j4 j5 ie ib r3 r4 r5) Q (n + 1) a w := by
  obtain ⟨ok, sp⟩ := c0_okG hF
  have done : ∀ (V seen : List Nat), V ∈ subs89 → metOk V seen → leftA seen ints89 = [] → V = [1, 2, 3] := fun V seen hV hmet hnil => by
    refine sub_all V hV fun j hj => (hmet j hj).2 ?_
    rw [leftA_eq] at hnil
    have h1 := List.filter_eq_nil_iff.1 hnil
    have h2 : ∀ b, (∃ k v, (k, v, b) ∈ ints89) → b ∈ seen := fun b ⟨k, v, hb⟩ => by
      have := h1 _ hb
      simpa using this
    simp only [List.mem_cons, List.not_mem_nil, or_false] at hj
    rcases hj with rfl | rfl | rfl
    · exact h2 0 ⟨.int .i64 1, .int .i64 1, by simp [ints89]⟩
    · exact h2 1 ⟨.int .i64 2, .int .i64 3, by simp [ints89]⟩
    · exact h2 2 ⟨.int .i64 3, .int .i64 3, by simp [ints89]⟩
  intro n
  induction n with
  | zero =>
    intro V seen ρ a w hV hmet hlen hs hd hz hm hB hK
    have hnil : leftA seen ints89 = [] := List.length_eq_zero_iff.1 (by omega)
    rw [rounds_succ]
    refine wp_seq (reg3 ok hx hs hm (mem_it V hV _).1 (mem_it V hV _).2.1 hz hd (fun _ a' w' h1 h2 h3 h4 h6 h7 h8 => ?_) (fun k v b hb => by rw [hnil] at hb; cases hb))
    obtain rfl := done V seen hV hmet hnil
    exact wp_seq (wp_cond_false h2 (wp_exit (hK ρ a' w' seen (fun _ _ => rfl) h1 h8 h7 h3 h4 h6)))
  | succ n ih =>
    intro V seen ρ a w hV hmet hlen hs hd hz hm hB hK
    rw [rounds_succ]
    refine wp_seq (reg3 ok hx hs hm (mem_it V hV _).1 (mem_it V hV _).2.1 hz hd (fun hnil a' w' h1 h2 h3 h4 h6 h7 h8 => ?_) (fun k v b hb a' w' h1 h2 h3 h4 h6 h7 h8 => ?_))
    · obtain rfl := done V seen hV hmet hnil
      exact wp_seq (wp_cond_false h2 (wp_exit (hK ρ a' w' seen (fun _ _ => rfl) h1 h8 h7 h3 h4 h6)))
    · refine wp_seq (wp_cond_true h2 (wp_skip (wp_block (wp_seq ?_))))
      have hbi : (k, v, b) ∈ ints89 := by rw [leftA_eq] at hb; exact (List.mem_filter.1 hb).1
      have hbn : b ∉ seen := by rw [leftA_eq] at hb; simpa using (List.mem_filter.1 hb).2
      obtain ⟨q, hq, rfl, rfl, rfl, hq1⟩ := ints_keys hbi
      have hnew : isIn V q.1 = false := by
        rcases Nat.lt_or_ge 3 q.1 with h | h
        · exact far_key V hV q hq h
        · rw [Bool.eq_false_iff]
          intro hin
          have hj : q.1 ∈ [1, 2, 3] := by simp; omega
          exact hbn ((hmet q.1 hj).1 hin)
      obtain ⟨V', hV', hfol, hin'⟩ := next_sub V hV q hq hnew
      have hB' : G.B ≤ w'.heap.size := Nat.le_trans hB h6
      have hm2 : MemOk G ρ w' (mkT (mem89 (.iter 3 8 (seen ++ [q.1 - 1]) 8) V)) := by
        rw [← set_it V hV (.iter 3 8 seen 8)]; exact h3
      refine reg4 ok hy h1 hm2 (mem_it V hV _).1 (mem_it V hV _).2.1 hbi h7 h8 fun a2 g1 g2 g3 => ?_
      let arr := seen ++ [q.1 - 1]
      let G' : Fb := ⟨⟨G.F.sym, G.F.opq, G.F.crc, fun _ W g _ => W.heap[g]? = some (.mapIter (some (ρ.blk 3)) 8 arr.toArray 8), G.F.one, G.F.arg, G.F.argKp, G.F.cut⟩, G.B, fun _ W g _ h => (Array.getElem?_eq_some_iff.1 h).1, fun _ W W' g _ h e _ => e.trans h⟩
      have hm3 : MemOk G' ρ w' (mkT (mem89 (.inv 0 0) V)) := mem_turn (G := G) (G' := G') (x := .iter 3 8 arr 8) (y := .inv 0 0) hV rfl rfl rfl (fun h => h) hm2
      have hs3 : Sy G'.F ρ a2 (mkT ((4, .int .i64 q.1) :: (5, .int .i64 q.2) :: base89)) := fun t x ht => by
        rw [conc_pl G'.F G.F ρ x (allT_get (p := plV) (t := mkT ((4, .int .i64 q.1) :: (5, .int .i64 q.2) :: base89)) rfl t x ht)]
        exact g1 t x ht
      refine round5 (G := G') ⟨hF.sym, hF.crc⟩ hq1 (h5 V hV q hq hnew) hN hns hs3 g3 hm3 hB' g2 (fun t x ht => allT_get (p := bndV 40) rfl t x ht) (fun i o ho => ?_) ?_ fun ρ1 a3 w3 k1 k2 k3 k4 k5 k6 k7 => ?_
      · have := List.all_eq_true.1 (bnd_sub V hV) _ (mkT_mem ho)
        simp only [Bool.and_eq_true] at this
        exact ⟨Nat.lt_of_succ_le (Nat.le_of_ble_eq_true this.1), this.2⟩
      · exact fun c a d v w h => hQ c a d v w h
      · have hm4 : MemOk G ρ1 w3 (mkT (mem89 (.iter 3 8 arr 8) V')) := by
          rw [← mem_fol hfol] at k4
          refine mem_turn (G := G') (G' := G) (x := .inv 0 0) (y := .iter 3 8 arr 8) hV' rfl rfl rfl (fun h => ?_) k4
          have h' : w3.heap[ρ1.blk 2]? = some (.mapIter (some (ρ.blk 3)) 8 arr.toArray 8) := h
          show w3.heap[ρ1.blk 2]? = some (.mapIter (some (ρ1.blk 3)) 8 arr.toArray 8)
          rw [k1 3 (by decide)]; exact h'
        refine ih V' arr ρ1 a3 w3 hV' (fun j hj => ?_) (Nat.le_of_lt_succ (Nat.lt_of_lt_of_le (left_less hb) hlen)) (fun t x ht => ?_) k3 k7 hm4 (Nat.le_trans hB' k6) fun ρ2 a4 w4 seen' m1 m2 m3 m4 m5 m6 m7 => ?_
        · rw [hin' j hj, Bool.or_eq_true, hmet j hj]
          show _ ↔ j - 1 ∈ seen ++ [q.1 - 1]
          simp only [List.mem_append, List.mem_singleton]
          simp only [List.mem_cons, List.not_mem_nil, or_false] at hj
          refine or_congr Iff.rfl ⟨fun h => by rw [Nat.eq_of_beq_eq_true h], fun h => ?_⟩
          have : j = q.1 := by omega
          rw [this]; simp
        · rw [conc_pl G.F G'.F ρ1 x (allT_get (p := plV) (t := mkT base89) rfl t x ht)]
          exact k2 t x ht
        · exact hK ρ2 a4 w4 seen' (fun i hi => (m1 i hi).trans (k1 i hi)) m2 m3 m4 m5 ((h4.trans k5).trans m6) (Nat.le_trans h6 (Nat.le_trans k6 m7))
end Go.Proofs.AL.Rx
/- RV at this seat: the shell's commands, whole. -/
set_option linter.unusedVariables false
set_option linter.unusedSimpArgs false
namespace Go.Proofs.AL.Rx
open Go Go.RowKit Go.Proofs.AL
def isNextOp : Op → Bool
  | .next (.tmp t) false => Nat.beq t 49
  | _ => false
def isEntryOp : Op → Bool
  | .entry (.tmp t) => Nat.beq t 49
  | _ => false
def isExtr (t i : Nat) : Op → Bool
  | .extract (.tmp x) j => Nat.beq x t && Nat.beq j i
  | _ => false
def isAsg (t : Nat) : Op → Bool
  | .assign (.tmp x) => Nat.beq x t
  | _ => false
def nxB (ops : Array Oper) : Bool := match ops.toList with
  | [o0, o1] => o0.guard.isNone && (o1.guard.isNone && (isNextOp o0.op && (isExtr 50 0 o1.op && (optIs o0.dst 50 && optIs o1.dst 51))))
  | _ => false
def ntB (ops : Array Oper) : Bool := match ops.toList with
  | [o0, o1, o2, o3, o4] => (o0.guard.isNone && (o1.guard.isNone && (o2.guard.isNone && (o3.guard.isNone && o4.guard.isNone)))) && ((isEntryOp o0.op && (isExtr 52 0 o1.op && (isExtr 52 1 o2.op && (isAsg 53 o3.op && isAsg 54 o4.op)))) && (optIs o0.dst 52 && (optIs o1.dst 53 && (optIs o2.dst 54 && (optIs o3.dst 4 && optIs o4.dst 5)))))
  | _ => false
theorem isNextOp_eq {op : Op} (h : isNextOp op = true) : op = .next (.tmp 49) false := by
  unfold isNextOp at h
  split at h
  · rw [Nat.eq_of_beq_eq_true h]
  · cases h
theorem isEntryOp_eq {op : Op} (h : isEntryOp op = true) : op = .entry (.tmp 49) := by
  unfold isEntryOp at h
  split at h
  · rw [Nat.eq_of_beq_eq_true h]
  · cases h
theorem isExtr_eq {t i : Nat} {op : Op} (h : isExtr t i op = true) : op = .extract (.tmp t) i := by
  unfold isExtr at h
  split at h
  · simp only [Bool.and_eq_true] at h
    rw [Nat.eq_of_beq_eq_true h.1, Nat.eq_of_beq_eq_true h.2]
  · cases h
theorem isAsg_eq {t : Nat} {op : Op} (h : isAsg t op = true) : op = .assign (.tmp t) := by
  unfold isAsg at h
  split at h
  · rw [Nat.eq_of_beq_eq_true h]
  · cases h
theorem nx_of {ops : Array Oper} (h : nxB ops = true) : ∃ o0 o1, Nx ops o0 o1 := by
  unfold nxB at h
  split at h
  · rename_i o0 o1 hl
    simp only [Bool.and_eq_true] at h
    obtain ⟨h1, h2, h3, h4, h5, h6⟩ := h
    exact ⟨o0, o1, hl, h1, h2, isNextOp_eq h3, isExtr_eq h4, optIs_eq.1 h5, optIs_eq.1 h6⟩
  · cases h
theorem nt_of {ops : Array Oper} (h : ntB ops = true) : ∃ o0 o1 o2 o3 o4, Nt ops o0 o1 o2 o3 o4 := by
  unfold ntB at h
  split at h
  · rename_i o0 o1 o2 o3 o4 hl
    simp only [Bool.and_eq_true] at h
    obtain ⟨⟨g0, g1, g2, g3, g4⟩, ⟨p0, p1, p2, p3, p4⟩, d0, d1, d2, d3, d4⟩ := h
    exact ⟨o0, o1, o2, o3, o4, hl, ⟨g0, g1, g2, g3, g4⟩, ⟨isEntryOp_eq p0, isExtr_eq p1, isExtr_eq p2, isAsg_eq p3, isAsg_eq p4⟩, optIs_eq.1 d0, optIs_eq.1 d1, optIs_eq.1 d2, optIs_eq.1 d3, optIs_eq.1 d4⟩
  · cases h
def isT51 : Operand → Bool
  | .tmp t => Nat.beq t 51
  | _ => false
theorem isT51_eq {x : Operand} (h : isT51 x = true) : x = .tmp 51 := by
  unfold isT51 at h
  split at h
  · rw [Nat.eq_of_beq_eq_true h]
  · cases h
/-- the loop's body is as it is wanted -/
def loopB (P : Program) (ib : Nat) (b : Code) : Bool := match b with
  | .seq (.region _ r3 false) (.seq (.cond t .skip (.exit ie)) (.block _ (.seq (.region _ r4 false) (.region _ r5 true)))) => Nat.beq ie ib && (isT51 t && (nxB r3 && (ntB r4 && (opsOk 63 r5 && (Region.noSelect r5 && subs89.all fun V => keys89.all fun k => isIn V k.1 || round89 P r5 41 V k)))))
  | _ => false
theorem loopB_ok {G : Fb} (hF : FxOk G.F) {ie : Nat} {b : Code} (h : loopB Tryz.prog ie b = true) : ∀ (Q : Exit → Act → World → Prop), PanicOk Q → ∀ (ρ : Val) (a : Act) (w : World), Sy G.F ρ a (mkT base89) → a.defers = [] → a.tmps.size = 63 → MemOk G ρ w (mkT (mem89 (.iter 3 8 [] 8) [])) → G.B ≤ w.heap.size →
    (∀ ρ1 a1 w1 seen', (∀ i, i < 10 → ρ1.blk i = ρ.blk i) → Sy G.F ρ1 a1 (mkT base89) → a1.defers = [] → a1.tmps.size = 63 → MemOk G ρ1 w1 (Tr.set none 40 2 (mkT (mem89 (.iter 3 8 seen' 8) [1, 2, 3]))) → Below G.B w w1 → w.heap.size ≤ w1.heap.size → Q (.exit ie) a1 w1) →
    (Code.loop b).wp Tryz.prog Q a w := by
  unfold loopB at h
  split at h
  · rename_i j3 r3 t ie' ib j4 r4 j5 r5
    simp only [Bool.and_eq_true] at h
    obtain ⟨hi, h1, h2, h3, h4, h5, h6⟩ := h
    obtain rfl := Nat.eq_of_beq_eq_true hi
    obtain rfl := isT51_eq h1
    obtain ⟨o0, o1, hx⟩ := nx_of h2
    obtain ⟨p0, p1, p2, p3, p4, hy⟩ := nt_of h3
    intro Q hQ ρ a w hs hd hz hm hB hK
    refine wp_loop_rounds 9 (loop89 (j3 := j3) (j4 := j4) (j5 := j5) (ib := ib) hF hx hy (fun V hV k hk hn => ?_) h4 h5 hQ 8 [] [] ρ a w (by decide) (fun k hk => by simp [isIn]) (by decide) hs hd hz hm hB hK)
    have := List.all_eq_true.1 (List.all_eq_true.1 h6 V hV) k hk
    rw [hn, Bool.false_or] at this
    exact this
  · cases h
end Go.Proofs.AL.Rx
/- RV at this seat: the shell's commands, its straight parts. -/
set_option linter.unusedVariables false
set_option linter.unusedSimpArgs false
namespace Go.Proofs.AL.Rx
open Go Go.RowKit Go.Proofs.AL
/-- a piece that is run, its outcome told under other names -/
def pieceB (P : Program) (f : Nat → Nat) (q : Code) (E : VEnv) (s : St) (tE : List (Nat × AV)) (tM : List (Nat × Ao)) : Bool :=
  match xcode (c0 P) (xcall (c0 P) 10) 1000 q E [] s with
  | .out l => l.all fun o => isN o.e && (o.D.isEmpty && (coverE f tE o.E && coverM f tM o.s.mem))
  | .bad _ => false
theorem piece_s {G : Fb} (hF : FxOk G.F) {f : Nat → Nat} {q : Code} {E : VEnv} {s : St} {tE : List (Nat × AV)} {tM : List (Nat × Ao)} {ρ : Val} {a : Act} {w : World} {Q : Exit → Act → World → Prop} (hf : ∀ i, f (f i) = i) (hV : pieceB Tryz.prog f q E s tE tM = true) (hq : codeOk 63 q = true) (hQ : PanicOk Q)
    (hs : Sy G.F ρ a E) (hd : a.defers = []) (hz : a.tmps.size = 63) (hm : MemOk G ρ w s.mem) (hB : G.B ≤ w.heap.size) (hbE : BndE s.nx E) (hbM : BndM s.nx s.mem)
    (hK : ∀ ρ1 a1 w1, (∀ i, i < s.nx → ρ1.blk (f i) = ρ.blk i) → Sy G.F ρ1 a1 (mkT tE) → a1.defers = [] → MemOk G ρ1 w1 (mkT tM) → Below G.B w w1 → w.heap.size ≤ w1.heap.size → a1.tmps.size = 63 → Q .normal a1 w1) : q.wp Tryz.prog Q a w := by
  obtain ⟨ok, sp⟩ := c0_okG hF
  have rok := callee_s ok sp 10
  unfold pieceB at hV
  split at hV
  · rename_i l hx
    refine (code_s (c := c0 Tryz.prog) ok rok 1000).1 q Q (Upto s.nx) ρ a w E [] s l hx hq hQ (SR.one hs hd hm hB hz hbE hbM) (fun i hi => hi) fun o ho => ?_
    intro A1 ρ1 a1 w1 hS1 hR1
    have h := List.all_eq_true.1 hV o ho
    simp only [Bool.and_eq_true] at h
    obtain ⟨h1, h2, h3, h4⟩ := h
    rw [isN_eq h1]
    obtain ⟨s1, d1, m1⟩ := hS1.rel ρ1 (Agree.refl _ _)
    refine hK (ρ1.by f) a1 w1 (fun i hi => ?_) (coverE_ok hf h3 s1) (by rw [d1, List.isEmpty_iff.1 h2]; rfl) (coverM_ok hf h4 (by rw [by_by hf]; exact m1)) hR1.below hR1.size hS1.size
    show ρ1.blk (f (f i)) = _
    rw [hf]
    exact (hR1.agree i hi).1
  · cases hV
/-- two names changed for each other -/
def sw1 (a b i : Nat) : Nat := bif Nat.beq i a then b else bif Nat.beq i b then a else i
theorem sw1_sw1 (a b i : Nat) : sw1 a b (sw1 a b i) = i := by
  have key : ∀ j, sw1 a b j = if j = a then b else if j = b then a else j := fun j => by
    unfold sw1
    cases h1 : Nat.beq j a with
    | true => rw [if_pos (Nat.eq_of_beq_eq_true h1)]; rfl
    | false =>
      rw [if_neg (Nat.ne_of_beq_eq_false h1)]
      cases h2 : Nat.beq j b with
      | true => rw [if_pos (Nat.eq_of_beq_eq_true h2)]; rfl
      | false => rw [if_neg (Nat.ne_of_beq_eq_false h2)]; rfl
  rw [key, key i]
  repeat' (first | omega | split)
def f0 : Nat → Nat := sw1 0 2
def f2 (i : Nat) : Nat := sw1 5 3 (sw1 6 2 i)
theorem f2_f2 (i : Nat) : f2 (f2 i) = i := by
  have key : ∀ j, f2 j = if j = 5 then 3 else if j = 3 then 5 else if j = 6 then 2 else if j = 2 then 6 else j := fun j => by
    unfold f2 sw1
    match j with
    | 0 => rfl
    | 1 => rfl
    | 2 => rfl
    | 3 => rfl
    | 4 => rfl
    | 5 => rfl
    | 6 => rfl
    | j + 7 =>
      have e1 : Nat.beq (j + 7) 6 = false := by rw [Bool.eq_false_iff]; simp
      have e2 : Nat.beq (j + 7) 2 = false := by rw [Bool.eq_false_iff]; simp
      have e3 : Nat.beq (j + 7) 5 = false := by rw [Bool.eq_false_iff]; simp
      have e4 : Nat.beq (j + 7) 3 = false := by rw [Bool.eq_false_iff]; simp
      simp only [e1, e2, e3, e4, cond_false]
      repeat' (first | omega | split)
  rw [key, key i]
  repeat' (first | omega | split)
def tM0 : List (Nat × Ao) := [(0, .cells 109 [.ptr 1 0] none), (1, .ro [.opq 1, .opq 2, .opq 3])]
def tM1 : List (Nat × Ao) := tM0 ++ [(4, look89 [])]
def tE1 : List (Nat × AV) := [(1, .ptr 0 0), (3, .map 4)]
def fin89 : List (Nat × Ao) := [(0, .cells 109 [.ptr 1 0] none), (1, .ro [.opq 1, .opq 2, .opq 3]), (4, look89 [1, 2, 3])] ++ box89 [1, 2, 3]
def dst56 (ops : Array Oper) : Bool := match ops[56]? with | some o => optIs o.dst 3 | none => false
def resB (P : Program) (fn : Func) : Bool := match resA P (mkT [(2, .map 4)]) ⟨.leaf, 0⟩ fn.results.toList with
  | some [v] => same v (.map 4)
  | _ => false
def all89 (P : Program) : Bool := match P.funcs[89]? with
  | some fn => (match fn.body with
    | some b => (match b with
      | .seq r0 (.seq (.region _ ops true) (.seq (.seq r2 (.block ib (.loop b))) (.seq r6 .ret))) =>
        codeOk 63 r0 && (codeOk 63 r2 && (codeOk 63 r6 && (Nat.beq fn.ntmps 63 && (resB P fn &&
        (pieceB P f0 r0 (env0A 0 [.ptr 1 0] .leaf) ⟨mkT [(1, .ro [.opq 1, .opq 2, .opq 3])], 2⟩ [(1, .ptr 0 0)] tM0 &&
        (bagB (c0 P) ops tab89 (mkT [(1, .ptr 0 0)]) (mkT tM0) 6 0 63 && (dst56 ops &&
        (pieceB P f2 r2 (mkT tE1) ⟨mkT tM1, 5⟩ base89 (mem89 (.iter 3 8 [] 8) []) &&
        (loopB P ib b && pieceB P id r6 (mkT base89) ⟨mkT fin89, 40⟩ [(2, .map 4)] fin89)))))))))
      | _ => false)
    | none => false)
  | none => false
theorem all89_k : all89 Tryz.prog = true := by kernel_rfl
end Go.Proofs.AL.Rx
/- RV at this seat: the shell's commands, the calls in the map's literal. -/
set_option linter.unusedVariables false
set_option linter.unusedSimpArgs false
namespace Go.Proofs.AL.Rx
open Go Go.RowKit Go.Proofs.AL
def runs1 (P : Program) (f : FuncId) (k : Nat) : Bool := (xcall (c0 P) 10 f [.opq k] ⟨.leaf, 0⟩).isSome
theorem runs128 : (runs1 Tryz.prog 128 2 && runs1 Tryz.prog 128 3) = true := by kernel_rfl
theorem streams_c {F : Fx} (hF : FxOk F) {ρ : Val} {f : FuncId} {k : Nat} (h : runs1 Tryz.prog f k = true) (w : World) : Calls Tryz.prog f (concs F ρ [.opq k]).toArray w fun e w' => (∃ v, e = .returned v) ∧ Ext w w' := by
  unfold runs1 at h
  obtain ⟨l, hl⟩ := Option.isSome_iff_exists.1 h
  have hok := c0_ok hF w.heap.size
  refine Calls.mono ((callee_s hok.1 hok.2 10).calls f [.opq k] ⟨.leaf, 0⟩ l hl (fun _ => False) ρ w _ (fun _ h => h.elim) (Nat.le_refl _) (fun ρ' _ => ⟨rfl, memOk_leaf _ _ _⟩)) fun e w' he => ?_
  obtain ⟨v, s', A1, ρ1, _, hR, hall⟩ := he
  exact ⟨⟨_, (hall ρ1 (Agree.refl _ _)).1⟩, hR.below⟩
theorem tab_calls {i : Nat} {f : FuncId} {vs : List AV} (h : tab89[i]? = some (Bk.call f vs)) : f = 128 ∧ (vs = [.opq 2] ∨ vs = [.opq 3]) := by
  have h1 : Bk.call f vs ∈ tab89 := List.mem_of_getElem? h
  simp only [tab89, List.mem_cons, List.not_mem_nil, or_false, reduceCtorEq, false_or, Bk.call.injEq] at h1
  rcases h1 with ⟨rfl, rfl⟩ | ⟨rfl, rfl⟩
  · exact ⟨rfl, .inl rfl⟩
  · exact ⟨rfl, .inr rfl⟩
theorem bag_calls {F : Fx} (hF : FxOk F) {ρ : Val} (i : Nat) (f : FuncId) (vs : List AV) (h : tab89[i]? = some (Bk.call f vs)) (w : World) : Calls Tryz.prog f (concs F ρ vs).toArray w fun e w' => (∃ v, e = .returned v) ∧ Ext w w' := by
  have hr := runs128
  simp only [Bool.and_eq_true] at hr
  obtain ⟨rfl, rfl | rfl⟩ := tab_calls h
  · exact streams_c hF hr.1 w
  · exact streams_c hF hr.2 w
end Go.Proofs.AL.Rx
/- RV at this seat: the shell's commands, whole. -/
set_option linter.unusedVariables false
set_option linter.unusedSimpArgs false
set_option maxRecDepth 100000
namespace Go.Proofs.AL.Rx
open Go Go.RowKit Go.Proofs.AL
def CmdPost (G : Fb) (ρ : Val) (w : World) (e : Ending) (w' : World) : Prop := ∃ ρ1 : Val, ρ1.blk 1 = ρ.blk 1 ∧ e = .returned (.map (some (ρ1.blk 4))) ∧ MemOk G ρ1 w' (mkT fin89) ∧ Below G.B w w' ∧ w.heap.size ≤ w'.heap.size
theorem fin_all (x : Ao) : (fin89.all fun e => isAoX ((Tr.set none 40 2 (mkT (mem89 x [1, 2, 3]))).get e.1) e.2) = true := rfl
theorem fin_bnd : (fin89.all fun e => Nat.blt e.1 40 && bndO 40 e.2) = true := rfl
theorem fin_sub (x : Ao) : ∀ i o, (mkT fin89).get i = some o → (Tr.set none 40 2 (mkT (mem89 x [1, 2, 3]))).get i = some o := fun i o h => by
  have h2 := List.all_eq_true.1 (fin_all x) _ (mkT_mem h)
  unfold isAoX at h2
  split at h2
  · rename_i y hy
    rw [hy, sameO_eq h2]
  · cases h2
theorem cmd_s {G : Fb} (hF : FxOk G.F) {ρ : Val} {w : World} (hm : MemOk G ρ w (mkT [(1, .ro [.opq 1, .opq 2, .opq 3])])) (hB : G.B ≤ w.heap.size) : Calls Tryz.prog 89 #[.pointer (some ⟨ρ.blk 1, 0, none⟩)] w (CmdPost G ρ w) := by
  obtain ⟨ok, sp⟩ := c0_okG hF
  have hk := all89_k
  unfold all89 at hk
  split at hk
  · rename_i fn hf
    split at hk
    · rename_i bd hb
      split at hk
      · rename_i r0 j1 ops r2 ib lb r6
        simp only [Bool.and_eq_true] at hk
        obtain ⟨c0k, c2k, c6k, hn, kr, k0, k1, k56, k2, k3, k6⟩ := hk
        have hn := Nat.eq_of_beq_eq_true hn
        have hloop := loopB_ok hF k3
        refine calls_of_wp hf hb ?_
        have hQ : PanicOk (bodyPost Tryz.prog fn (CmdPost G ρ w)) := fun c a d v w' h => by
          obtain ⟨_, ρ1, _, h, _⟩ := h
          cases h
        refine wp_seq (piece_s (f := f0) hF (fun i => sw1_sw1 0 2 i) k0 c0k (panic_then hQ) (ρ := ρ) ?_ rfl ?_ hm hB ?_ ?_ fun ρ1 a1 w1 n1 hs1 hd1 hm1 b1 s1 z1 => ?_)
        · intro t v ht
          rcases env0_get [.ptr 1 0] 0 .leaf t v ht with ⟨_, h2⟩ | h2
          · match t, h2 with
            | 0, h2 =>
              injection h2 with h2; subst h2
              show (#[Value.pointer (some ⟨ρ.blk 1, 0, none⟩)] ++ Array.replicate _ undef).getD 0 undef = _
              rw [Array.getD_eq_getD_getElem?, Array.getElem?_append_left (by simp)]
              rfl
            | t + 1, h2 => cases h2
          · rw [Tr.get_leaf] at h2; cases h2
        · simp [hn]
        · exact fun t v ht => allT_get (p := bndV 2) (t := env0A 0 [.ptr 1 0] .leaf) rfl t v ht
        · intro i o ho
          have := mkT_mem ho
          simp only [List.mem_singleton, Prod.mk.injEq] at this
          obtain ⟨rfl, rfl⟩ := this
          exact ⟨by decide, rfl⟩
        · have hB1 := Nat.le_trans hB s1
          refine wp_seq (bag_s ok k1 hm1 hB1 (fun i f vs h w' _ => bag_calls hF i f vs h w') z1 hd1 hs1 fun a2 w2 g K he => ?_)
          let ρ2 : Val := ⟨fun i => if i = 4 then g else ρ1.blk i, ρ1.cap⟩
          have hag : Agree (Upto 2) ρ1 ρ2 := fun i hi => ⟨by
            show (if i = 4 then g else ρ1.blk i) = _
            rw [if_neg (by have : i < 2 := hi; omega)], rfl⟩
          have hmA : MemOk G ρ2 w2 (mkT tM0) := (hm1.extW he.ext hB1).bnd hag (fun i o ho => by
            have := mkT_mem ho
            simp only [tM0, List.mem_cons, Prod.mk.injEq, List.not_mem_nil, or_false] at this
            rcases this with ⟨rfl, rfl⟩ | ⟨rfl, rfl⟩ <;> exact ⟨by decide, rfl⟩)
          have hlook : objOk G.F ρ2 w2 4 (look89 []) := by
            obtain ⟨ents, cl, e1, e2, e3⟩ := he.map.map
            have one : ∀ (j : Nat) (s : List Int) (v : AV), tab89[j]? = some (Bk.ins s (some v)) → bndV 2 v = true → ∃ i, Instr.findNow .string (conc G.F ρ2 (.str s)) ents.toList 0 = some (some (i, conc G.F ρ2 v)) := fun j s v hj hv => by
              obtain ⟨i, hi⟩ := e3 _ (he.ent j s v hj)
              refine ⟨i, ?_⟩
              simp only [conc]
              rw [find_s _ _ 0 e2, hi, conc_bnd hag v hv]
            refine ⟨ents, cl, e1, fun k v hkv => ?_, e2⟩
            have hkv : (k, v) ∈ [(AV.str [116, 105, 99, 107], AV.agg [.int .i64 1, .fn (.func 142) [] [.ptr 0 0]]), (AV.str [111, 117, 116], AV.agg [.int .i64 1, .fn (.func 152) [] [.ptr 0 0]])] := hkv
            simp only [List.mem_cons, Prod.mk.injEq, List.not_mem_nil, or_false] at hkv
            rcases hkv with ⟨rfl, rfl⟩ | ⟨rfl, rfl⟩
            · obtain ⟨i, hi⟩ := one 36 _ _ rfl rfl
              exact ⟨_, i, rfl, hi⟩
            · obtain ⟨i, hi⟩ := one 48 _ _ rfl rfl
              exact ⟨_, i, rfl, hi⟩
          have hmB : MemOk G ρ2 w2 (mkT tM1) := hmA.add (i := 4) (n := w1.heap.size) (ob := look89 []) (fun id o ho => by
            have h1 := mkT_mem ho
            have h2 : id < 2 := by
              simp only [tM0, List.mem_cons, Prod.mk.injEq, List.not_mem_nil, or_false] at h1
              omega
            rw [(hag id h2).1]
            exact hm1.lt ho) he.new (Nat.le_trans hB1 he.new) hlook
          have hsB : Sy G.F ρ2 a2 (mkT tE1) := fun t v ht => by
            have h1 := mkT_mem ht
            simp only [tE1, List.mem_cons, Prod.mk.injEq, List.not_mem_nil, or_false] at h1
            rcases h1 with ⟨rfl, rfl⟩ | ⟨rfl, rfl⟩
            · rw [conc_bnd hag _ rfl]
              exact he.base 1 (.ptr 0 0) rfl
            · unfold dst56 at k56
              split at k56
              · rename_i o ho
                exact he.mv 56 o 3 ho rfl (optIs_eq.1 k56)
              · cases k56
          have hB2 := Nat.le_trans hB1 he.ext.size
          refine wp_seq (wp_seq (piece_s (f := f2) hF f2_f2 k2 c2k (panic_then (panic_then hQ)) (ρ := ρ2) hsB he.df he.sz hmB hB2 ?_ ?_ fun ρ3 a3 w3 n3 hs3 hd3 hm3 b3 s3 z3 => ?_))
          · exact fun t v ht => allT_get (p := bndV 5) (t := mkT tE1) rfl t v ht
          · intro i o ho
            have h1 := mkT_mem ho
            simp only [tM1, tM0, List.cons_append, List.nil_append, List.mem_cons, Prod.mk.injEq, List.not_mem_nil, or_false] at h1
            rcases h1 with ⟨rfl, rfl⟩ | ⟨rfl, rfl⟩ | ⟨rfl, rfl⟩ <;> exact ⟨by decide, rfl⟩
          · refine wp_block (hloop _ (panic_block (panic_then hQ)) ρ3 a3 w3 hs3 hd3 z3 hm3 (Nat.le_trans hB2 s3) fun ρ4 a4 w4 seen n4 hs4 hd4 z4 hm4 b4 s4 => ?_)
            simp only [Exit.inBlock, if_true]
            have hm5 : MemOk G ρ4 w4 (mkT fin89) := hm4.sub (fin_sub _)
            refine wp_seq (piece_s (f := id) hF (fun _ => rfl) k6 c6k (panic_then hQ) (ρ := ρ4) hs4 hd4 z4 hm5 (Nat.le_trans (Nat.le_trans hB2 s3) s4) ?_ ?_ fun ρ5 a5 w5 n5 hs5 hd5 hm6 b5 s5 z5 => ?_)
            · exact fun t v ht => allT_get (p := bndV 40) (t := mkT base89) rfl t v ht
            · intro i o ho
              have := List.all_eq_true.1 fin_bnd _ (mkT_mem ho)
              simp only [Bool.and_eq_true] at this
              exact ⟨Nat.lt_of_succ_le (Nat.le_of_ble_eq_true this.1), this.2⟩
            · refine wp_ret ⟨hd5, ?_⟩
              unfold resB at kr
              split at kr
              · rename_i v hv
                have hv2 := same_eq _ _ kr
                subst hv2
                have hrun := results_run (G := G) (P := Tryz.prog) (fn := fn) (nx := 0) (m := .leaf) hs5 (memOk_leaf G ρ5 w5) hv
                refine ⟨_, hrun, ρ5, ?_, rfl, hm6, ?_, ?_⟩
                · have e1 : ρ5.blk 1 = ρ4.blk 1 := n5 1 (by decide)
                  have e2 : ρ4.blk 1 = ρ3.blk 1 := n4 1 (by decide)
                  have e3 : ρ3.blk 1 = ρ2.blk 1 := n3 1 (by decide)
                  have e4 : ρ2.blk 1 = ρ1.blk 1 := (hag 1 (by show 1 < 2; decide)).1
                  have e5 : ρ1.blk 1 = ρ.blk 1 := n1 1 (by decide)
                  rw [e1, e2, e3, e4, e5]
                · exact (((b1.trans (he.ext.mono hB1)).trans b3).trans b4).trans b5
                · exact Nat.le_trans s1 (Nat.le_trans he.ext.size (Nat.le_trans s3 (Nat.le_trans s4 s5)))
              · cases kr
      · cases hk
    · cases hk
  · cases hk
end Go.Proofs.AL.Rx
/- RV at this seat: the shell's commands as a call that is told. -/
set_option linter.unusedVariables false
set_option linter.unusedSimpArgs false
namespace Go.Proofs.AL.Rx
open Go Go.RowKit Go.Proofs.AL
/-- two memories side by side: the names of the second one are new, and its written places lie in new blocks -/
theorem MemOk.side {G : Fb} {ρ : Val} {w : World} {m m' : Tr Ao} {n : Nat} {New : Nat → Ao → Prop} (h : MemOk G ρ w m) (hlt : ∀ id o, m.get id = some o → ρ.blk id < n) (hB : G.B ≤ n)
    (hnew : ∀ i o, New i o → objOk G.F ρ w i o ∧ (wr o = true → n ≤ ρ.blk i)) (hinj : ∀ i j o p, New i o → New j p → wr o = true → ρ.blk i = ρ.blk j → i = j) (hlow : ∀ i o j p, m.get i = some o → New j p → wr o = true → ρ.blk i ≠ ρ.blk j)
    (hm : ∀ i o, m'.get i = some o → m.get i = some o ∨ New i o) : MemOk G ρ w m' := by
  refine ⟨fun i o ho => ?_, fun i o ho hw => ?_, fun i j o p ho hp hw e => ?_⟩
  · rcases hm i o ho with h1 | h1
    · exact h.ok i o h1
    · exact (hnew i o h1).1
  · rcases hm i o ho with h1 | h1
    · exact h.lo i o h1 hw
    · exact Nat.le_trans hB ((hnew i o h1).2 hw)
  · rcases hm i o ho with h1 | h1 <;> rcases hm j p hp with h2 | h2
    · exact h.inj i j o p h1 h2 hw e
    · exact absurd e (hlow i o j p h1 h2 hw)
    · have a1 := (hnew i o h1).2 hw
      have a2 := hlt j p h2
      omega
    · exact hinj i j o p h1 h2 hw e
/-- the names outside -/
def g89 (n sh i : Nat) : Nat := match i with
  | 0 => n
  | 1 => sh
  | 4 => n + 1
  | i => bif Nat.blt i 20 then n + 2 + (i - 10) else bif Nat.blt i 30 then n + 5 + (i - 20) else n + 8 + (i - 30)
def new89 : List (Nat × Ao) := [(0, .cells 109 [.ptr 1 0] none), (4, look89 [1, 2, 3])] ++ box89 [1, 2, 3]
def putAll (f : Nat → Nat) : List (Nat × Ao) → Tr Ao → Tr Ao
  | [], m => m
  | (i, o) :: r, m => Tr.set (some (mapO f o)) 40 (f i) (putAll f r m)
def yCmd (s : St) : List AV → Option Res
  | [.ptr sh 0] => (match s.mem.get sh with
    | some (.cells _ [a, b, c] none) => bif a.flat && (b.flat && c.flat) then some (some [(.map (s.nx + 1), ⟨putAll (g89 s.nx sh) new89 s.mem, s.nx + 11⟩)]) else none
    | _ => none)
  | _ => none
theorem putAll_get {f : Nat → Nat} : ∀ {l : List (Nat × Ao)} {m : Tr Ao} {i : Nat} {o : Ao}, (putAll f l m).get i = some o → m.get i = some o ∨ ∃ e ∈ l, i = f e.1 ∧ o = mapO f e.2
  | [], _, _, _, h => .inl h
  | (j, p) :: r, m, i, o, h => by
    rcases Tr.get_set _ _ _ _ h with ⟨rfl, e⟩ | ⟨_, h⟩
    · injection e with e
      exact .inr ⟨(j, p), List.mem_cons_self, rfl, e.symm⟩
    · rcases putAll_get h with h | ⟨e, h1, h2⟩
      · exact .inl h
      · exact .inr ⟨e, List.mem_cons_of_mem _ h1, h2⟩
end Go.Proofs.AL.Rx
/- RV at this seat: the shell's commands as a call that is told, whole; the table with it. -/
set_option linter.unusedVariables false
set_option linter.unusedSimpArgs false
namespace Go.Proofs.AL.Rx
open Go Go.RowKit Go.Proofs.AL
mutual
def nmV (p : Nat → Bool) : AV → Bool
  | .ptr i _ => p i
  | .sl i _ _ _ => p i
  | .rw _ _ _ _ => false
  | .em _ _ _ _ => false
  | .map i => p i
  | .fn _ x y => nmVs p x && nmVs p y
  | .ifc _ v => nmV p v
  | .agg l => nmVs p l
  | .tup l => nmVs p l
  | .ys l => nmVs p l
  | .crc l _ => nmVs p l
  | .bool _ => true
  | .int _ _ => true
  | .sym _ _ => true
  | .str _ => true
  | .nilp => true
  | .nils => true
  | .nilm => true
  | .nilf => true
  | .nili => true
  | .opq _ => true
def nmVs (p : Nat → Bool) : List AV → Bool
  | [] => true
  | v :: r => nmV p v && nmVs p r
end
mutual
theorem conc_nm {F : Fx} {ρ ρ' : Val} {p : Nat → Bool} {g : Nat → Nat} (k : ∀ i, p i = true → ρ'.blk (g i) = ρ.blk i) : ∀ v : AV, nmV p v = true → conc F ρ' (mapId g v) = conc F ρ v
  | .ptr i o, h => by simp only [mapId, conc, k i h]
  | .sl i a b c, h => by simp only [mapId, conc, k i h]
  | .rw i a b c, h => by cases h
  | .em i a b c, h => by cases h
  | .map i, h => by simp only [mapId, conc, k i h]
  | .fn q x y, h => by
    simp only [nmV, Bool.and_eq_true] at h
    simp only [mapId, conc, concs_nm k x h.1, concs_nm k y h.2]
  | .ifc t v, h => by simp only [nmV] at h; simp only [mapId, conc, conc_nm k v h]
  | .agg l, h => by simp only [nmV] at h; simp only [mapId, conc, concs_nm k l h]
  | .tup l, h => by simp only [nmV] at h; simp only [mapId, conc, concs_nm k l h]
  | .ys l, h => by simp only [nmV] at h; simp only [mapId, conc, concs_nm k l h]
  | .crc l j, h => by simp only [nmV] at h; simp only [mapId, conc, concs_nm k l h]
  | .bool b, _ => rfl
  | .int k n, _ => rfl
  | .sym k n, _ => rfl
  | .str s, _ => rfl
  | .nilp, _ => rfl
  | .nils, _ => rfl
  | .nilm, _ => rfl
  | .nilf, _ => rfl
  | .nili, _ => rfl
  | .opq k, _ => rfl
theorem concs_nm {F : Fx} {ρ ρ' : Val} {p : Nat → Bool} {g : Nat → Nat} (k : ∀ i, p i = true → ρ'.blk (g i) = ρ.blk i) : ∀ l : List AV, nmVs p l = true → concs F ρ' (mapIds g l) = concs F ρ l
  | [], _ => rfl
  | v :: r, h => by
    simp only [nmVs, Bool.and_eq_true] at h
    simp only [mapIds, concs, conc_nm k v h.1, concs_nm k r h.2]
end
def nmO (p : Nat → Bool) : Ao → Bool
  | .cells _ cs none => nmVs p cs
  | .look es => es.all fun e => nmV p e.1 && nmV p e.2
  | .ro cs => nmVs p cs
  | _ => false
theorem objOk_nm {F : Fx} {ρ ρ' : Val} {p : Nat → Bool} {g : Nat → Nat} {w : World} {i : Nat} (k : ∀ i, p i = true → ρ'.blk (g i) = ρ.blk i) (hi : p i = true) : ∀ {o : Ao}, nmO p o = true → objOk F ρ w i o → objOk F ρ' w (g i) (mapO g o)
  | .cells t cs none, hb, h => by
    simp only [mapO, objOk, k i hi, concs_nm k cs hb] at h ⊢; exact h
  | .look es, hb, h => by
    obtain ⟨ents, cl, h1, h2, h3⟩ := h
    refine ⟨ents, cl, by rw [k i hi]; exact h1, fun q v hq => ?_, h3⟩
    obtain ⟨e, he, e1⟩ := List.mem_map.1 hq
    injection e1 with e1 e2; subst e1 e2
    obtain ⟨s, j, e, h4⟩ := h2 e.1 e.2 he
    have := List.all_eq_true.1 hb _ he
    simp only [Bool.and_eq_true] at this
    refine ⟨s, j, by rw [e]; rfl, ?_⟩
    rw [conc_nm k _ this.1, conc_nm k _ this.2]; exact h4
  | .ro cs, hb, h => by
    obtain ⟨rest, t, mk, h1⟩ := h
    refine ⟨rest, t, mk, ?_⟩
    rw [k i hi, concs_nm k cs hb]; exact h1
  | .map _ _, hb, _ => by cases hb
  | .iter _ _ _ _, hb, _ => by cases hb
  | .inv _ _, hb, _ => by cases hb
  | .cells _ _ (some _), hb, _ => by cases hb
def is89 (i : Nat) : Bool := [0, 1, 4, 10, 11, 12, 20, 21, 22, 30, 31, 32].any fun j => Nat.beq j i
def k89 : Nat → Nat
  | 0 => 0
  | 1 => 4
  | 2 => 10
  | 3 => 11
  | 4 => 12
  | 5 => 20
  | 6 => 21
  | 7 => 22
  | 8 => 30
  | 9 => 31
  | 10 => 32
  | _ => 0
theorem is89_cases {i : Nat} (h : is89 i = true) : i = 1 ∨ ∃ j, j < 11 ∧ k89 j = i ∧ ∀ n sh, g89 n sh i = n + j := by
  unfold is89 at h
  obtain ⟨j, hj, e⟩ := List.any_eq_true.1 h
  obtain rfl := Nat.eq_of_beq_eq_true e
  simp only [List.mem_cons, List.not_mem_nil, or_false] at hj
  rcases hj with rfl | rfl | rfl | rfl | rfl | rfl | rfl | rfl | rfl | rfl | rfl | rfl
  · exact .inr ⟨0, by decide, rfl, fun _ _ => rfl⟩
  · exact .inl rfl
  · exact .inr ⟨1, by decide, rfl, fun _ _ => rfl⟩
  · exact .inr ⟨2, by decide, rfl, fun _ _ => rfl⟩
  · exact .inr ⟨3, by decide, rfl, fun _ _ => rfl⟩
  · exact .inr ⟨4, by decide, rfl, fun _ _ => rfl⟩
  · exact .inr ⟨5, by decide, rfl, fun _ _ => rfl⟩
  · exact .inr ⟨6, by decide, rfl, fun _ _ => rfl⟩
  · exact .inr ⟨7, by decide, rfl, fun _ _ => rfl⟩
  · exact .inr ⟨8, by decide, rfl, fun _ _ => rfl⟩
  · exact .inr ⟨9, by decide, rfl, fun _ _ => rfl⟩
  · exact .inr ⟨10, by decide, rfl, fun _ _ => rfl⟩
theorem new89_all : (new89.all fun e => wr e.2 && (plO e.2 && (nmO is89 e.2 && (is89 e.1 && isAoX ((mkT fin89).get e.1) e.2)))) = true := rfl
theorem new89_ne1 : (new89.all fun e => !(Nat.beq e.1 1)) = true := rfl
theorem cmds_ok {G : Fb} (hF : FxOk G.F) {vs : List AV} {s : St} {l : List (AV × St)} (h : yCmd s vs = some (some l)) (A : Nat → Prop) (ρ : Val) (w : World) (args : Array Value) (hA : ∀ i, A i → i < s.nx) (hB : G.B ≤ w.heap.size) (hargs : ∀ ρ', Agree A ρ ρ' → (concs G.F ρ' vs).toArray = args ∧ MemOk G ρ' w s.mem) : Calls Tryz.prog 89 args w (CallPost G A ρ s.nx w l) := by
  unfold yCmd at h
  split at h
  · rename_i sh
    split at h
    · rename_i t a b c hget
      cases hfl : a.flat && (b.flat && c.flat) with
      | false => rw [hfl] at h; cases h
      | true =>
        rw [hfl] at h
        injection h with h; injection h with h; subst h
        simp only [Bool.and_eq_true] at hfl
        obtain ⟨ha, hb, hc⟩ := hfl
        obtain ⟨harg, hm⟩ := hargs ρ (Agree.refl _ _)
        have hsh : ∀ ρ', Agree A ρ ρ' → ρ'.blk sh = ρ.blk sh := fun ρ' k => by
          have h1 := (hargs ρ' k).1.trans harg.symm
          simp only [concs, conc] at h1
          have h2 := List.toArray_inj h1
          injection h2 with h2 _
          injection h2 with h2; injection h2 with h2; injection h2
        have hobj := hm.ok _ _ hget
        let opq' : Nat → Value := fun k => match k with
          | 1 => conc G.F ρ a
          | 2 => conc G.F ρ b
          | 3 => conc G.F ρ c
          | k => G.F.opq k
        have hone : ∀ k, (opq' k).oneCell' = true := fun k => by
          match k with
          | 0 => exact G.F.one 0
          | 1 => exact conc_one ha
          | 2 => exact conc_one hb
          | 3 => exact conc_one hc
          | k + 4 => exact G.F.one (k + 4)
        let G2 : Fb := ⟨⟨G.F.sym, opq', G.F.crc, fun _ _ _ _ => False, hone, G.F.arg, G.F.argKp, G.F.cut⟩, w.heap.size, fun _ _ _ _ h => h.elim, fun _ _ _ _ _ h => h.elim⟩
        let ρi : Val := ⟨fun _ => ρ.blk sh, fun _ => 0⟩
        have hmi : MemOk G2 ρi w (mkT [(1, .ro [.opq 1, .opq 2, .opq 3])]) := by
          have one : ∀ i o, (mkT [(1, Ao.ro [.opq 1, .opq 2, .opq 3])]).get i = some o → i = 1 ∧ o = .ro [.opq 1, .opq 2, .opq 3] := fun i o ho => by
            have := mkT_mem ho
            simp only [List.mem_singleton, Prod.mk.injEq] at this
            exact this
          refine ⟨fun i o ho => ?_, fun i o ho hw => ?_, fun i j o p ho hp hw e => ?_⟩
          · obtain ⟨rfl, rfl⟩ := one i o ho
            exact ⟨[], t, (0, 0), by rw [List.append_nil]; exact hobj⟩
          · obtain ⟨rfl, rfl⟩ := one i o ho
            cases hw
          · obtain ⟨rfl, rfl⟩ := one i o ho
            cases hw
        have hrun := cmd_s (G := G2) ⟨hF.sym, hF.crc⟩ hmi (Nat.le_refl _)
        have harg2 : args = #[.pointer (some ⟨ρi.blk 1, 0, none⟩)] := harg.symm
        rw [harg2]
        refine Calls.mono hrun fun e w' he => ?_
        obtain ⟨ρ1, e1, e2, hm1, hbl, hsz⟩ := he
        have hext : Ext w w' := hbl
        let n := s.nx
        let ρo : Val := ⟨fun i => if i < n then ρ.blk i else ρ1.blk (k89 (i - n)), fun i => if i < n then ρ.cap i else 0⟩
        have hagO : Agree A ρ ρo := fun i hi => ⟨by
          show (if i < n then ρ.blk i else _) = _
          rw [if_pos (hA i hi)], by
          show (if i < n then ρ.cap i else _) = _
          rw [if_pos (hA i hi)]⟩
        let A1 : Nat → Prop := fun i => A i ∨ (n ≤ i ∧ i < n + 11)
        refine ⟨.map (n + 1), ⟨putAll (g89 n sh) new89 s.mem, n + 11⟩, A1, ρo, List.mem_singleton.2 rfl, ⟨hagO, fun i h => h, fun i h => .inl h, Nat.le_add_right _ _, hext.mono hB, hsz⟩, fun ρ' k => ?_⟩
        have hag : Agree A ρ ρ' := hagO.trans (fun i h => .inl h) k
        have hnew : ∀ j, j < 11 → ρ'.blk (n + j) = ρ1.blk (k89 j) := fun j hj => by
          rw [(k (n + j) (.inr ⟨by omega, by omega⟩)).1]
          show (if n + j < n then _ else ρ1.blk (k89 (n + j - n))) = _
          rw [if_neg (by omega), Nat.add_sub_cancel_left]
        have hnm : ∀ i, is89 i = true → ρ'.blk (g89 n sh i) = ρ1.blk i := fun i hi => by
          rcases is89_cases hi with rfl | ⟨j, hj, ej, eg⟩
          · show ρ'.blk sh = ρ1.blk 1
            rw [hsh ρ' hag, e1]
          · rw [eg n sh, hnew j hj, ej]
        refine ⟨?_, ?_⟩
        · rw [e2]
          simp only [conc]
          rw [hnew 1 (by decide)]
          rfl
        · have hold := (hargs ρ' hag).2
          have facts : ∀ e ∈ new89, wr e.2 = true ∧ plO e.2 = true ∧ nmO is89 e.2 = true ∧ is89 e.1 = true ∧ (mkT fin89).get e.1 = some e.2 := fun e he => by
            have h1 := List.all_eq_true.1 new89_all e he
            simp only [Bool.and_eq_true] at h1
            obtain ⟨h1, h2, h3, h4, h5⟩ := h1
            refine ⟨h1, h2, h3, h4, ?_⟩
            unfold isAoX at h5
            split at h5
            · rename_i y hy
              rw [hy, sameO_eq h5]
            · cases h5
          refine MemOk.side (n := w.heap.size) (New := fun i o => ∃ e ∈ new89, i = g89 n sh e.1 ∧ o = mapO (g89 n sh) e.2) (hold.extW hext hB) (fun id o ho => hold.lt ho) hB ?_ ?_ ?_ ?_
          · rintro i o ⟨e, he, rfl, rfl⟩
            obtain ⟨h1, h2, h3, h4, h5⟩ := facts e he
            refine ⟨objOk_nm hnm h4 h3 (objOk_pl h2 (hm1.ok _ _ h5)), fun _ => ?_⟩
            rw [hnm _ h4]
            exact hm1.lo _ _ h5 h1
          · rintro i j o q ⟨e, he, rfl, rfl⟩ ⟨e', he', rfl, rfl⟩ hw hbk
            obtain ⟨h1, h2, h3, h4, h5⟩ := facts e he
            obtain ⟨k1, k2, k3, k4, k5⟩ := facts e' he'
            rw [hnm _ h4, hnm _ k4] at hbk
            rw [hm1.inj _ _ _ _ h5 k5 h1 hbk]
          · rintro i o j q ho ⟨e, he, rfl, rfl⟩ hw hbk
            obtain ⟨h1, h2, h3, h4, h5⟩ := facts e he
            have a1 := hold.lt ho
            have a2 := hm1.lo _ _ h5 h1
            rw [hbk, hnm _ h4] at a1
            exact absurd a2 (Nat.not_le_of_lt a1)
          · intro i o ho
            exact putAll_get ho
    · cases h
  · cases h
theorem isFn89 : IsFn Tryz.prog 89 := isFn_of (by kernel_rfl)
def x89 (f : FuncId) (vs : List AV) (s : St) : Option Res := bif Nat.beq f 89 then yCmd s vs else none
theorem x89_ok {G : Fb} (hF : FxOk G.F) : XOk G Tryz.prog x89 := fun f vs s l hl => by
  unfold x89 at hl
  cases hb : Nat.beq f 89 with
  | false => rw [hb] at hl; cases hl
  | true =>
    rw [hb] at hl
    obtain rfl := Nat.eq_of_beq_eq_true hb
    exact ⟨isFn89, fun A ρ w args hA hB hargs => cmds_ok hF hl A ρ w args hA hB hargs⟩
def cC (P : Program) : Cx := (c0 P).plus x89
theorem cC_okG {G : Fb} (hF : FxOk G.F) : CxOk G (cC Tryz.prog) ∧ SpOk G (cC Tryz.prog) := ⟨(c0_okG hF).1.plus, (c0_okG hF).2.plus (x89_ok hF)⟩
theorem cC_ok {F : Fx} (hF : FxOk F) : OkB F (cC Tryz.prog) := fun B => cC_okG (G := gB F B) ⟨hF.sym, hF.crc⟩
end Go.Proofs.AL.Rx
