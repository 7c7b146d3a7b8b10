/- RV at this program: what the law's arguments tell. -/
import Derived.Test.YtjfckaoppfnicaaGreatDoorRwb
import Derived.Test.YtjfckaoppfnicaaGreatDoorKa
set_option linter.unusedVariables false
set_option linter.unusedSimpArgs false
/- RV at this seat: what the law's arguments tell: bytes, choices, a number. -/
set_option linter.unusedVariables false
set_option linter.unusedSimpArgs false
namespace Go.Proofs.AL.Rx
open Go Go.RowKit Go.Proofs.AL
/-- what the rows of the arguments hold -/
structure ArgB (F : Fx) (B : Nat) (w : World) : Prop where
  fst : ∃ A n c l, F.opq 11 = .slice A n c ∧ Rd w B 1 A n (ints .u8 l) ∧ l.length = n ∧ n ≤ 9223372036854775807 ∧ fill l 32 = (List.range 32).map fun i => F.sym i
  snd : ∃ A n c l, F.opq 12 = .slice A n c ∧ Rd w B 1 A n (ints .u8 l) ∧ l.length = n ∧ n ≤ 9223372036854775807 ∧ fill l 32 = (List.range 32).map fun i => F.sym (32 + i)
  bits : ∃ A n c lo l, F.opq 14 = .slice A n c ∧ Vw tBool w lo B A n c l ∧ n = (F.sym 99).toNat ∧ n ≤ 60000
structure FxT (F : Fx) : Prop where
  ok : FxOk F
  arg : ∀ B w, F.arg B w → ArgB F B w
  num : ∃ k : Int, F.opq 15 = .int .i64 k ∧ -9223372036854775808 ≤ k ∧ k ≤ 9223372036854775807
def has5 (s : St) : Bool := match s.mem.get 5 with
  | some (.inv 5 _) => true
  | _ => false
theorem has5_ok {F : Fx} {B : Nat} {ρ : Val} {w : World} {s : St} (hF : FxT F) (hm : MemOk (gB F B) ρ w s.mem) (h : has5 s = true) : ∃ B0, B0 ≤ B ∧ ArgB F B0 w := by
  unfold has5 at h
  split at h
  · rename_i j hj
    obtain ⟨_, B0, h1, h2⟩ := hm.ok _ _ hj
    exact ⟨B0, h1, hF.arg B0 w h2⟩
  · cases h
def symL (k : Nat) : List AV := (List.range 32).map fun i => .sym .u8 (k + i)
def yNew (s : St) : List AV → Option Res
  | [.opq 14] => bif has5 s then some (some [(.ptr s.nx 0, ⟨Tr.set (some (.inv 8 (s.nx + 1))) 40 (s.nx + 1) (Tr.set (some (.inv 7 (s.nx + 1))) 40 s.nx s.mem), s.nx + 2⟩)]) else none
  | _ => none
def yNext (s : St) : List AV → Option Res
  | [.ptr i 0] => (match s.mem.get i with
    | some (.inv 7 j) => (match s.mem.get j with
      | some (.inv 8 _) => some (some [(.bool false, ⟨s.mem, s.nx + s.nx⟩), (.bool true, ⟨s.mem, s.nx + s.nx + 1⟩)])
      | _ => none)
    | _ => none)
  | _ => none
def fillR (s : St) (k : Nat) : Option Res := bif has5 s then some (some [(.rw s.nx 0 32 0, s.new (.cells 5 (symL k) (some 1)))]) else none
def yFill (s : St) : List AV → Option Res
  | [.opq 11, .int .i64 32] => fillR s 0
  | [.opq 12, .int .i64 32] => fillR s 32
  | _ => none
def yAround (s : St) : List AV → Option Res
  | [.opq 15, .int .i64 3] => some (some [(.int .i64 0, s), (.int .i64 1, s), (.int .i64 2, s)])
  | _ => none
theorem isFn59 : IsFn Tryz.prog 59 := isFn_of (by kernel_rfl)
theorem isFn73 : IsFn Tryz.prog 73 := isFn_of (by kernel_rfl)
theorem isFn6 : IsFn Tryz.prog 6 := isFn_of (by kernel_rfl)
theorem isFn8 : IsFn Tryz.prog 8 := isFn_of (by kernel_rfl)
theorem cells_bool (l : List Bool) : tBool.cells l = l.map Value.bool := by
  induction l with
  | nil => rfl
  | cons a r ih => rw [Ty.cells_cons, ih]; rfl
section
variable {F : Fx} {B : Nat}
theorem new_ok (hF : FxT F) {vs : List AV} {s : St} {l : List (AV × St)} (h : yNew s vs = some (some l)) (A : Nat → Prop) (ρ : Val) (w : World) (args : Array Value) (hA : ∀ i, A i → i < s.nx) (hB : (gB F B).B ≤ w.heap.size) (hargs : ∀ ρ', Agree A ρ ρ' → (concs (gB F B).F ρ' vs).toArray = args ∧ MemOk (gB F B) ρ' w s.mem) : Calls Tryz.prog 59 args w (CallPost (gB F B) A ρ s.nx w l) := by
  unfold yNew at h
  split at h
  · cases h5 : has5 s with
    | false => rw [h5] at h; cases h
    | true =>
      rw [h5] at h
      injection h with h; injection h with h; subst h
      obtain ⟨harg, hm⟩ := hargs ρ (Agree.refl _ _)
      obtain ⟨B0, hB0, ha⟩ := has5_ok hF hm h5
      obtain ⟨A0, n, c, lo, l0, e1, hv, hn, hn2⟩ := ha.bits
      have e2 : args = #[.slice A0 n c] := by
        rw [← harg]
        show (concs (gB F B).F ρ [.opq 14]).toArray = _
        simp only [concs, conc]
        show #[F.opq 14] = _
        rw [e1]
      rw [e2]
      refine Calls.mono (StrNewO hv hn2) fun e w' he => ?_
      obtain ⟨g, q, n', rfl, hg, how, hblk, hext⟩ := he
      obtain ⟨hl1, hown⟩ := how.own
      rcases hown with ⟨e, _⟩ | ⟨g2, cap, cur, e, hg2, hcur, hcap, hmx, hsz, htk⟩
      · cases e
      · injection e with e _ e3
        injection e with e; injection e with e; subst e e3
        have hnl : l0.length = n := hv.ln
        have hn' : n' = n := by
          have : (tBool.cells l0).length = n' * 1 := hl1
          rw [tBool.cells_len] at this
          have h1 : tBool.sz = 1 := rfl
          rw [h1] at this
          omega
        subst hn'
        have hsz1 : cur.size = n' := by rw [hsz]; exact Nat.mul_one _
        have hcur2 : cur = (l0.map Value.bool).toArray := by
          have : cur.toList.take (n' * tBool.sz) = tBool.cells l0 := htk
          rw [show n' * tBool.sz = cur.toList.length by rw [Array.length_toList, hsz1]; exact Nat.mul_one _, List.take_length] at this
          rw [cells_bool] at this
          rw [← this]
        have hq : g + 1 ≤ q := hg2
        let ρ1 : Val := ⟨fun i => if i = s.nx then g else if i = s.nx + 1 then q else ρ.blk i, ρ.cap⟩
        have hag : Agree A ρ ρ1 := fun i hi => ⟨by
          show (if i = s.nx then g else if i = s.nx + 1 then q else ρ.blk i) = _
          have := hA i hi
          rw [if_neg (by omega), if_neg (by omega)], rfl⟩
        let A1 : Nat → Prop := fun i => A i ∨ i = s.nx ∨ i = s.nx + 1
        refine ⟨.ptr s.nx 0, _, A1, ρ1, List.mem_singleton.2 rfl, ⟨hag, fun i h => h.imp id fun h => by
          show s.nx ≤ i ∧ i < s.nx + 2
          omega, fun i h => .inl h, by show s.nx ≤ s.nx + 2; omega, hext.mono hB, hext.size⟩, fun ρ' k => ?_⟩
        have k0 : ρ'.blk s.nx = g := by rw [(k s.nx (.inr (.inl rfl))).1]; show (if s.nx = s.nx then g else _) = _; rw [if_pos rfl]
        have k1 : ρ'.blk (s.nx + 1) = q := by
          rw [(k (s.nx + 1) (.inr (.inr rfl))).1]
          show (if s.nx + 1 = s.nx then g else if s.nx + 1 = s.nx + 1 then q else _) = _
          rw [if_neg (by omega), if_pos rfl]
        refine ⟨by simp only [conc, k0], ?_⟩
        have hold := (hargs ρ' (hag.trans (fun _ h => .inl h) k)).2
        have h1 : MemOk (gB F B) ρ' w' (Tr.set (some (.inv 7 (s.nx + 1))) 40 s.nx s.mem) := (hold.extW hext hB).add (n := w.heap.size) (fun id o ho => hold.lt ho) (by rw [k0]; exact hg) (by rw [k0]; exact Nat.le_trans hB hg) (by
          refine ⟨0, 210, Int.le_refl _, Int.natCast_nonneg _, ?_, rfl⟩
          show w'.heap[ρ'.blk s.nx]? = _
          have hh : (((gB F B).F.sym 99).toNat : Nat) = n' := hn.symm
          rw [k0, k1]
          show _ = some (Obj.cells #[.slice (some ⟨q, 0, none⟩) (F.sym 99).toNat (F.sym 99).toNat, .int .i64 0] 210 (0, 0))
          rw [← hn]
          exact hblk)
        refine h1.add (n := g + 1) (fun id o ho => ?_) (by rw [k1]; exact hq) (by rw [k1]; have : (gB F B).B ≤ w.heap.size := hB; omega) ?_
        · rcases Tr.get_set _ _ _ _ ho with ⟨rfl, _⟩ | ⟨_, ho⟩
          · rw [k0]; omega
          · have := hold.lt ho; omega
        · refine ⟨l0, 4, ?_, ?_⟩
          · show l0.length = (F.sym 99).toNat
            rw [hnl, hn]
          · rw [k1, hcur, hcur2]
  · cases h
theorem next_ok (hF : FxT F) {vs : List AV} {s : St} {l : List (AV × St)} (h : yNext s vs = some (some l)) (A : Nat → Prop) (ρ : Val) (w : World) (args : Array Value) (hA : ∀ i, A i → i < s.nx) (hB : (gB F B).B ≤ w.heap.size) (hargs : ∀ ρ', Agree A ρ ρ' → (concs (gB F B).F ρ' vs).toArray = args ∧ MemOk (gB F B) ρ' w s.mem) : Calls Tryz.prog 73 args w (CallPost (gB F B) A ρ s.nx w l) := by
  unfold yNext at h
  split at h
  · rename_i i
    split at h
    · rename_i j hi
      split at h
      · rename_i j' hj
        injection h with h; injection h with h; subst h
        have key : ∀ ρ', Agree A ρ ρ' → ρ'.blk i = ρ.blk i := fun ρ' k => by
          have h1 := (hargs ρ' k).1.trans (hargs ρ (Agree.refl _ _)).1.symm
          simp only [concs, conc] at h1
          have h2 := List.toArray_inj h1
          injection h2 with h2 _
          injection h2 with h2; injection h2 with h2; injection h2
        obtain ⟨harg, hm⟩ := hargs ρ (Agree.refl _ _)
        obtain ⟨at_, t, h1, h2, h3, rfl⟩ := hm.ok _ _ hi
        obtain ⟨lb, t', h4, h5⟩ := hm.ok _ _ hj
        have hne : ρ.blk i ≠ ρ.blk j := fun e => by
          have := hm.inj i j _ _ hi hj rfl e
          subst this
          rw [hi] at hj
          cases hj
        obtain ⟨a0, rfl⟩ := Int.eq_ofNat_of_zero_le h1
        have hsym := (hF.ok.sym 99)
        have hrow : Vw tBool w (ρ.blk j) (ρ.blk j + 1) (some ⟨ρ.blk j, 0, none⟩) (F.sym 99).toNat (F.sym 99).toNat lb := by
          refine (Ow.of_blk (T := tBool) (t := t') (cs := lb.map Value.bool) h5 (cells_bool lb).symm h4 (by simp only [maxLen]; omega) fun _ _ => trivial).vw
        have e2 : args = #[.pointer (some ⟨ρ.blk i, 0, none⟩)] := by
          rw [← harg]; rfl
        rw [e2]
        have hcall := StrNext (g := ρ.blk i) (at_ := a0) (w := w) (l := lb) h3 hrow (by omega) (by
          have : ((a0 : Int)) ≤ ((F.sym 99).toNat : Int) := h2
          omega)
        refine Calls.mono hcall fun e w' he => ?_
        obtain ⟨x, a2, rfl, hx, ha2, hb, hk⟩ := he
        have hbut := Kp.but hk
        have hlo : B ≤ ρ.blk i := hm.lo _ _ hi rfl
        have hnx : ∃ n, s.nx ≤ n ∧ (AV.bool x, (⟨s.mem, n⟩ : St)) ∈ [(AV.bool false, (⟨s.mem, s.nx + s.nx⟩ : St)), (AV.bool true, ⟨s.mem, s.nx + s.nx + 1⟩)] := by
          cases x
          · exact ⟨s.nx + s.nx, by omega, by simp⟩
          · exact ⟨s.nx + s.nx + 1, by omega, by simp⟩
        obtain ⟨nx, hnx, hmem⟩ := hnx
        refine ⟨.bool x, ⟨s.mem, nx⟩, A, ρ, hmem, ⟨Agree.refl _ _, fun i h => .inl h, fun i h => h, hnx, hbut.below hB hlo, hbut.size⟩, fun ρ' k => ?_⟩
        · refine ⟨rfl, ?_⟩
          have hold := (hargs ρ' k).2
          have kb := key ρ' k
          obtain ⟨at2, t2, _, _, h3', rfl⟩ := hold.ok _ _ hi
          have hjj : ρ'.blk j = ρ.blk j := by
            rw [kb] at h3'
            have h7 := h3.symm.trans h3'
            simp at h7
            exact h7.1.symm
          refine ⟨fun id o ho => ?_, hold.lo, hold.inj⟩
          by_cases e : id = i
          · subst e
            rw [hi] at ho
            injection ho with ho; subst ho
            refine ⟨(a2 : Int), 210, Int.natCast_nonneg _, ?_, ?_, rfl⟩
            · show (a2 : Int) ≤ ((F.sym 99).toNat : Int)
              have : ((a0 : Int)) ≤ ((F.sym 99).toNat : Int) := h2
              rw [ha2]
              split <;> omega
            · rw [kb, hjj]; exact hb
          · exact objOk_kp (hold.ok id o ho) (hbut.block _ (hold.lt ho) (fun e2 => e (hold.inj i id _ _ hi ho rfl (by rw [kb]; injection e2 with e2; exact e2.symm)).symm)) (hbut.below hB hlo)
      · cases h
    · cases h
  · cases h
theorem around3 (n : Int) : around n 3 = 0 ∨ around n 3 = 1 ∨ around n 3 = 2 := by
  have := around_range n (m := 3) (by omega)
  omega
theorem around_ok (hF : FxT F) {vs : List AV} {s : St} {l : List (AV × St)} (h : yAround s vs = some (some l)) (A : Nat → Prop) (ρ : Val) (w : World) (args : Array Value) (hA : ∀ i, A i → i < s.nx) (hB : (gB F B).B ≤ w.heap.size) (hargs : ∀ ρ', Agree A ρ ρ' → (concs (gB F B).F ρ' vs).toArray = args ∧ MemOk (gB F B) ρ' w s.mem) : Calls Tryz.prog 8 args w (CallPost (gB F B) A ρ s.nx w l) := by
  unfold yAround at h
  split at h
  · injection h with h; injection h with h; subst h
    obtain ⟨harg, hm⟩ := hargs ρ (Agree.refl _ _)
    obtain ⟨k, e1, k1, k2⟩ := hF.num
    have e2 : args = #[.int .i64 k, .int .i64 3] := by
      rw [← harg]
      simp only [concs, conc]
      show #[F.opq 15, _] = _
      rw [e1]
    rw [e2]
    refine Calls.mono (Around_c k 3 w k1 k2 (by omega) (by omega)) fun e w' he => ?_
    obtain ⟨rfl, rfl⟩ := he
    rcases around3 k with e | e | e
    · exact ⟨.int .i64 0, s, A, ρ, by simp, Reach.refl _ _ _ _, fun ρ' k => ⟨by rw [e]; rfl, (hargs ρ' k).2⟩⟩
    · exact ⟨.int .i64 1, s, A, ρ, by simp, Reach.refl _ _ _ _, fun ρ' k => ⟨by rw [e]; rfl, (hargs ρ' k).2⟩⟩
    · exact ⟨.int .i64 2, s, A, ρ, by simp, Reach.refl _ _ _ _, fun ρ' k => ⟨by rw [e]; rfl, (hargs ρ' k).2⟩⟩
  · cases h
theorem fillR_ok (hF : FxT F) {k0 : Nat} {s : St} {l : List (AV × St)} (h : fillR s k0 = some (some l)) (A : Nat → Prop) (ρ : Val) (w : World) (A0 : Option Addr) (n c : Nat) (xs : List Int) (hrd : Rd w w.heap.size 1 A0 n (ints .u8 xs)) (hxl : xs.length = n) (hn : n ≤ 9223372036854775807) (hfl : fill xs 32 = (List.range 32).map fun i => F.sym (k0 + i)) (hA : ∀ i, A i → i < s.nx) (hB : (gB F B).B ≤ w.heap.size) (hargs : ∀ ρ', Agree A ρ ρ' → MemOk (gB F B) ρ' w s.mem) : Calls Tryz.prog 6 #[.slice A0 n c, .int .i64 32] w (CallPost (gB F B) A ρ s.nx w l) := by
  unfold fillR at h
  cases h5 : has5 s with
  | false => rw [h5] at h; cases h
  | true =>
    rw [h5] at h
    injection h with h; injection h with h; subst h
    refine Calls.mono (Fill_c A0 n c 32 xs w hrd hxl hn (by omega)) fun e w' he => ?_
    obtain ⟨A', c', rfl, hown, hext⟩ := he
    obtain ⟨hl1, hown⟩ := hown
    rcases hown with ⟨_, h0⟩ | ⟨g, cap, cur, e, hg, hcur, hcap, hmx, hsz, htk⟩
    · cases h0
    · injection e with e1 _ e2
      subst e1 e2
      simp only [Nat.mul_one] at hl1 htk hsz
      have hni : ¬ A s.nx := fun h => Nat.lt_irrefl _ (hA _ h)
      have hag : Agree A ρ (withNew ρ s.nx (.slice (some ⟨g, 0, none⟩) 32 c')) := agree_with hni
      refine ⟨.rw s.nx 0 32 0, _, fun i => A i ∨ i = s.nx, withNew ρ s.nx (.slice (some ⟨g, 0, none⟩) 32 c'), List.mem_singleton.2 rfl, ⟨hag, fun i h => h.imp id fun e => ⟨Nat.le_of_eq e.symm, by rw [e]; exact Nat.lt_succ_self _⟩, fun _ h => .inl h, Nat.le_succ _, hext.mono hB, hext.size⟩, fun ρ' k => ?_⟩
      have k2 := hargs ρ' (hag.trans (fun _ h => .inl h) k)
      obtain ⟨n1, n2⟩ := k s.nx (.inr rfl)
      have hbn : ρ'.blk s.nx = g := by rw [n1]; simp [withNew]
      have hcn : ρ'.cap s.nx = c' - 32 := by rw [n2]; simp [withNew]
      refine ⟨?_, k2.new hext hB (by show _ ≤ ρ'.blk s.nx; rw [hbn]; exact hg) ⟨cur.toList.drop 32, 32, ?_, ?_, ?_, ?_⟩⟩
      · simp only [conc, hbn, hcn]
        have : 32 + 0 + (c' - 32) = c' := by omega
        rw [this]
      · show w'.heap[ρ'.blk s.nx]? = _
        rw [hbn, hcur]
        have e1 : concs (gB F B).F ρ' (symL k0) = cur.toList.take 32 := by
          rw [htk, hfl]
          unfold symL
          rw [concs_map, List.map_map]
          unfold ints
          rw [List.map_map]
          rfl
        rw [e1, List.take_append_drop, Array.toArray_toList]
      · simp [symL]
      · show _ = ρ'.cap s.nx * 1
        rw [hcn]; simp [hsz]
      · rw [hcn]; omega
theorem fill_ok (hF : FxT F) {vs : List AV} {s : St} {l : List (AV × St)} (h : yFill s vs = some (some l)) (A : Nat → Prop) (ρ : Val) (w : World) (args : Array Value) (hA : ∀ i, A i → i < s.nx) (hB : (gB F B).B ≤ w.heap.size) (hargs : ∀ ρ', Agree A ρ ρ' → (concs (gB F B).F ρ' vs).toArray = args ∧ MemOk (gB F B) ρ' w s.mem) : Calls Tryz.prog 6 args w (CallPost (gB F B) A ρ s.nx w l) := by
  have h5 : ∀ k, fillR s k = some (some l) → has5 s = true := fun k h => by
    unfold fillR at h
    cases h5 : has5 s with
    | false => rw [h5] at h; cases h
    | true => rfl
  unfold yFill at h
  obtain ⟨harg, hm⟩ := hargs ρ (Agree.refl _ _)
  split at h
  · obtain ⟨B0, hB0, ha⟩ := has5_ok hF hm (h5 _ h)
    obtain ⟨A0, n, c, xs, e1, hrd, hxl, hn, hfl⟩ := ha.fst
    have e2 : args = #[.slice A0 n c, .int .i64 32] := by
      rw [← harg]
      simp only [concs, conc]
      show #[F.opq 11, _] = _
      rw [e1]
    rw [e2]
    have hfl' : fill xs 32 = (List.range 32).map fun i => F.sym (0 + i) := by simp only [Nat.zero_add]; exact hfl
    exact fillR_ok hF h A ρ w A0 n c xs (hrd.more (Nat.le_trans hB0 hB)) hxl hn hfl' hA hB fun ρ' k => (hargs ρ' k).2
  · obtain ⟨B0, hB0, ha⟩ := has5_ok hF hm (h5 _ h)
    obtain ⟨A0, n, c, xs, e1, hrd, hxl, hn, hfl⟩ := ha.snd
    have e2 : args = #[.slice A0 n c, .int .i64 32] := by
      rw [← harg]
      simp only [concs, conc]
      show #[F.opq 12, _] = _
      rw [e1]
    rw [e2]
    exact fillR_ok hF h A ρ w A0 n c xs (hrd.more (Nat.le_trans hB0 hB)) hxl hn hfl hA hB fun ρ' k => (hargs ρ' k).2
  · cases h
end
def xT (f : FuncId) (vs : List AV) (s : St) : Option Res :=
  match f with
  | 59 => yNew s vs
  | 73 => yNext s vs
  | 6 => yFill s vs
  | 8 => yAround s vs
  | _ => none
theorem xT_ok {F : Fx} {B : Nat} (hF : FxT F) : XOk (gB F B) Tryz.prog xT := fun f vs s l h => by
  unfold xT at h
  split at h
  · exact ⟨isFn59, fun A ρ w args hA hB hargs => new_ok hF h A ρ w args hA hB hargs⟩
  · exact ⟨isFn73, fun A ρ w args hA hB hargs => next_ok hF h A ρ w args hA hB hargs⟩
  · exact ⟨isFn6, fun A ρ w args hA hB hargs => fill_ok hF h A ρ w args hA hB hargs⟩
  · exact ⟨isFn8, fun A ρ w args hA hB hargs => around_ok hF h A ρ w args hA hB hargs⟩
  · cases h
def cT (P : Program) : Cx := (cC P).plus xT
theorem cT_ok {F : Fx} (hF : FxT F) : OkB F (cT Tryz.prog) := fun B => ⟨(cC_ok hF.ok B).1.plus, (cC_ok hF.ok B).2.plus (xT_ok hF)⟩
end Go.Proofs.AL.Rx
/- RV at this seat: a counter's place; numbers of words, told once. -/
set_option linter.unusedVariables false
set_option linter.unusedSimpArgs false
set_option maxRecDepth 100000
namespace Go.Proofs.AL.Rx
open Go Go.RowKit Go.Proofs.AL
def yOf (s : St) : List AV → Option Res
  | [.ptr i 0, .int .i64 k] => bif decide (0 ≤ k) && decide (k < 6) then some (some [(.ptr i k.toNat, s)]) else none
  | _ => none
def ofB (P : Program) : Bool := (List.range 6).all fun k => match xcall (c0 P) 10 259 [.ptr 0 0, .int .i64 (k : Nat)] ⟨.leaf, 1⟩ with
  | some [(v, _)] => same v (.ptr 0 k)
  | _ => false
theorem ofB_k : ofB Tryz.prog = true := by kernel_rfl
theorem isFn259 : IsFn Tryz.prog 259 := isFn_of (by kernel_rfl)
theorem of_ok {F : Fx} {B : Nat} (hF : FxOk F) {vs : List AV} {s : St} {l : List (AV × St)} (h : yOf s vs = some (some l)) (A : Nat → Prop) (ρ : Val) (w : World) (args : Array Value) (hA : ∀ i, A i → i < s.nx) (hB : (gB F B).B ≤ w.heap.size) (hargs : ∀ ρ', Agree A ρ ρ' → (concs (gB F B).F ρ' vs).toArray = args ∧ MemOk (gB F B) ρ' w s.mem) : Calls Tryz.prog 259 args w (CallPost (gB F B) A ρ s.nx w l) := by
  unfold yOf at h
  split at h
  · rename_i i k
    cases hb : decide (0 ≤ k) && decide (k < 6) with
    | false => rw [hb] at h; cases h
    | true =>
      rw [hb] at h
      injection h with h; injection h with h; subst h
      simp only [Bool.and_eq_true, decide_eq_true_eq] at hb
      obtain ⟨n, rfl⟩ := Int.eq_ofNat_of_zero_le hb.1
      have hn : n < 6 := by omega
      have key : ∀ ρ', Agree A ρ ρ' → ρ'.blk i = ρ.blk i := fun ρ' k => by
        have h1 := (hargs ρ' k).1.trans (hargs ρ (Agree.refl _ _)).1.symm
        simp only [concs, conc] at h1
        have h2 := List.toArray_inj h1
        injection h2 with h2 _
        injection h2 with h2; injection h2 with h2; injection h2
      obtain ⟨harg, hm⟩ := hargs ρ (Agree.refl _ _)
      have hk := List.all_eq_true.1 ofB_k n (List.mem_range.2 hn)
      split at hk
      · rename_i v s1 hr
        obtain rfl := same_eq _ _ hk
        have hok := c0_ok hF w.heap.size
        have hargs2 : ∀ ρ', Agree (fun j => j = 0) ⟨fun _ => ρ.blk i, fun _ => 0⟩ ρ' → (concs (gB F w.heap.size).F ρ' [.ptr 0 0, .int .i64 (n : Nat)]).toArray = args ∧ MemOk (gB F w.heap.size) ρ' w .leaf := fun ρ' k => ⟨by
          rw [← harg]
          simp only [concs, conc, (k 0 rfl).1], memOk_leaf _ _ _⟩
        refine Calls.mono ((callee_s hok.1 hok.2 10).calls 259 _ ⟨.leaf, 1⟩ _ hr (fun j => j = 0) ⟨fun _ => ρ.blk i, fun _ => 0⟩ w args (fun j hj => by show j < 1; omega) (Nat.le_refl _) hargs2) fun e w' he => ?_
        obtain ⟨v, s', A1, ρ1, hmem, hR, hall⟩ := he
        have hv := List.mem_singleton.1 hmem
        injection hv with hv _
        subst hv
        have hext : Ext w w' := hR.below
        refine ⟨.ptr i (n : Int).toNat, s, A, ρ, List.mem_singleton.2 rfl, ⟨Agree.refl _ _, fun i h => .inl h, fun i h => h, Nat.le_refl _, hext.mono hB, hext.size⟩, fun ρ' k => ⟨?_, (hargs ρ' k).2.extW hext hB⟩⟩
        rw [(hall ρ1 (Agree.refl _ _)).1]
        simp only [conc, Int.toNat_natCast]
        rw [(hR.agree 0 rfl).1, key ρ' k]
      · cases hk
  · cases h
def xO (f : FuncId) (vs : List AV) (s : St) : Option Res := bif Nat.beq f 259 then yOf s vs else none
theorem xO_ok {F : Fx} {B : Nat} (hF : FxOk F) : XOk (gB F B) Tryz.prog xO := fun f vs s l h => by
  unfold xO at h
  cases hb : Nat.beq f 259 with
  | false => rw [hb] at h; cases h
  | true =>
    rw [hb] at h
    obtain rfl := Nat.eq_of_beq_eq_true hb
    exact ⟨isFn259, fun A ρ w args hA hB hargs => of_ok hF h A ρ w args hA hB hargs⟩
def nums : Memo := [(134, [.str [48]], .int .i64 0), (134, [.str [49]], .int .i64 1), (134, [.str [50]], .int .i64 2), (134, [.str [51]], .int .i64 3), (134, [.str [49, 48, 52, 56, 53, 55, 54]], .int .i64 1048576)]
def numsB (P : Program) : Memo → Bool
  | [] => true
  | (f, vs, v) :: r => is1 (xcall (c0 P) 60 f vs ⟨.leaf, 0⟩) v && (clos vs && (clo v && numsB P r))
theorem nums_k : numsB Tryz.prog nums = true := by kernel_rfl
theorem numsB_ok {F : Fx} (hF : FxOk F) : ∀ (t : Memo), numsB Tryz.prog t = true → ToldAll F Tryz.prog t
  | [], _ => trivial
  | (f, vs, v) :: r, h => by
    simp only [numsB, Bool.and_eq_true] at h
    obtain ⟨h1, h2, h3, h4⟩ := h
    exact ⟨told_of (c0_ok hF) h1 h2 h3, numsB_ok hF r h4⟩
def cO (P : Program) : Cx := (cT P).plus xO
theorem cO_ok {F : Fx} (hF : FxT F) : OkB F (cO Tryz.prog) := fun B => ⟨(cT_ok hF B).1.plus, (cT_ok hF B).2.plus (xO_ok hF.ok)⟩
def cN (P : Program) : Cx := (cO P).plus (memoX nums)
theorem cN_ok {F : Fx} (hF : FxT F) : OkB F (cN Tryz.prog) := (cO_ok hF).memo (numsB_ok hF.ok nums nums_k)
end Go.Proofs.AL.Rx
/- RV: the table of calls that were run once, looked up by the next name too. -/
set_option linter.unusedVariables false
namespace Go.Proofs.AL.Rx
open Go Go.RowKit
def meXn : List ME → FuncId → List AV → St → Option Res
  | [], _, _, _ => none
  | m :: r, f, vs, s => bif Nat.beq f m.f && (Nat.beq s.nx m.s.nx && (sames vs m.vs && covS s m.s)) then some (some m.l) else meXn r f vs s
theorem meXn_in : ∀ {t : List ME} {f : FuncId} {vs : List AV} {s : St} {l : List (AV × St)}, meXn t f vs s = some (some l) → ∃ m ∈ t, meX [m] f vs s = some (some l)
  | [], _, _, _, _, h => by cases h
  | m :: r, f, vs, s, l, h => by
    simp only [meXn] at h
    cases hb : Nat.beq f m.f && (Nat.beq s.nx m.s.nx && (sames vs m.vs && covS s m.s)) with
    | true =>
      simp only [hb, cond_true] at h
      simp only [Bool.and_eq_true] at hb
      obtain ⟨h1, _, h2, h3⟩ := hb
      exact ⟨m, List.mem_cons_self, by simp only [meX, h1, h2, h3, Bool.and_self, cond_true]; exact h⟩
    | false =>
      simp only [hb, cond_false] at h
      obtain ⟨m', h1, h2⟩ := meXn_in h
      exact ⟨m', List.mem_cons_of_mem _ h1, h2⟩
def MeAll (F : Fx) (P : Program) (t : List ME) : Prop := ∀ m ∈ t, MeOk F P [m]
theorem MeAll.nil {F : Fx} {P : Program} : MeAll F P [] := fun _ h => by cases h
theorem MeAll.cons {F : Fx} {P : Program} {m : ME} {t : List ME} (h : MeOk F P [m]) (k : MeAll F P t) : MeAll F P (m :: t) := fun x hx => by
  rcases List.mem_cons.1 hx with rfl | hx
  · exact h
  · exact k x hx
theorem MeAll.append {F : Fx} {P : Program} {t u : List ME} (h : MeAll F P t) (k : MeAll F P u) : MeAll F P (t ++ u) := fun x hx => by
  rcases List.mem_append.1 hx with hx | hx
  · exact h x hx
  · exact k x hx
theorem meXn_ok {F : Fx} {P : Program} {t : List ME} {B : Nat} (h : MeAll F P t) : XOk (gB F B) P (meXn t) := fun f vs s l hl => by
  obtain ⟨m, hm, h1⟩ := meXn_in hl
  exact h m hm B f vs s l h1
theorem OkB.men {F : Fx} {c : Cx} {t : List ME} (h : OkB F c) (ht : MeAll F c.P t) : OkB F (c.plus (meXn t)) := fun B => ⟨(h B).1.plus, (h B).2.plus (meXn_ok ht)⟩
def allTrue (r : Res) : Bool := match r with
  | some l => l.all fun o => same o.1 (.bool true)
  | none => false
/-- a call from a state in which the arguments' rows alone are told -/
theorem law_calls {F : Fx} {c : Cx} {f : FuncId} {vs : List AV} {n : Nat} (hok : OkB F c) (h : allTrue (xcall c n f vs ⟨Tr.set (some (.inv 5 5)) 40 5 .leaf, 8⟩) = true) (hvs : ∀ (B : Nat) (ρ : Val), concs (gB F B).F ρ vs = concs F ρ00 vs) (w : World) (h0 : 0 < w.heap.size) (harg : F.arg w.heap.size w) : Calls c.P f (concs F ρ00 vs).toArray w fun e w' => e = .returned (.bool true) ∧ Below w.heap.size w w' := by
  unfold allTrue at h
  split at h
  · rename_i l hl
    refine Calls.mono ((callee_s (hok w.heap.size).1 (hok w.heap.size).2 n).calls f vs _ l hl (fun i => i = 5) ⟨fun _ => 0, fun _ => 0⟩ w _ (fun i hi => by show i < 8; omega) (Nat.le_refl _) fun ρ' k => ⟨by rw [hvs], ?_⟩) fun e w' he => ?_
    · have k5 : ρ'.blk 5 = 0 := (k 5 rfl).1
      have one : ∀ i o, (Tr.set (some (Ao.inv 5 5)) 40 5 .leaf).get i = some o → i = 5 ∧ o = .inv 5 5 := fun i o ho => by
        rcases Tr.get_set _ _ _ _ ho with ⟨rfl, e⟩ | ⟨_, ho⟩
        · injection e with e; exact ⟨rfl, e.symm⟩
        · rw [Tr.get_leaf] at ho; cases ho
      refine ⟨fun i o ho => ?_, fun i o ho hw => ?_, fun i j o p ho hp hw e => ?_⟩
      · obtain ⟨rfl, rfl⟩ := one i o ho
        refine ⟨?_, w.heap.size, Nat.le_refl _, harg⟩
        rw [k5]; exact h0
      · obtain ⟨rfl, rfl⟩ := one i o ho; cases hw
      · obtain ⟨rfl, rfl⟩ := one i o ho; cases hw
    · obtain ⟨v, s', A1, ρ1, hmem, hR, hall⟩ := he
      have h1 := same_eq _ _ (List.all_eq_true.1 h _ hmem)
      simp only at h1
      subst h1
      exact ⟨(hall ρ1 (Agree.refl _ _)).1, hR.below⟩
  · cases h
end Go.Proofs.AL.Rx
