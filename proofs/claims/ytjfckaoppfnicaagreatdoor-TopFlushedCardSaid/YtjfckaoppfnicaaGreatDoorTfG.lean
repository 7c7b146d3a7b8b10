import Derived.Test.YtjfckaoppfnicaaGreatDoorTfF
/- the law at its arguments. -/
set_option linter.unusedVariables false
namespace Go.Proofs.AL.Rx
open Go Go.RowKit Go.Proofs.AL
/-- what the law is handed -/
structure TfA where
  A0 : Option Addr
  n0 : Nat
  c0 : Nat
  l0 : List Int
  A1 : Option Addr
  n1 : Nat
  c1 : Nat
  l1 : List Int
  A3 : Option Addr
  n3 : Nat
  c3 : Nat
  l3 : List Bool
  k : Int
structure TfOk (x : TfA) (B : Nat) (w : World) : Prop where
  r0 : Rd w B 1 x.A0 x.n0 (ints .u8 x.l0)
  r1 : Rd w B 1 x.A1 x.n1 (ints .u8 x.l1)
  r3 : Vw tBool w 0 B x.A3 x.n3 x.c3 x.l3
theorem TfOk.kp {x : TfA} {B : Nat} {w w' : World} (h : TfOk x B w) (hb : Below B w w') : TfOk x B w' :=
  ⟨h.r0.below hb, h.r1.below hb, ⟨⟨h.r3.rw_.rd.below hb, h.r3.rw_.cap, h.r3.rw_.nil, h.r3.rw_.low⟩, h.r3.max, h.r3.ok⟩⟩
def TfA.sym (x : TfA) (k : Nat) : Int := if k < 32 then (fill x.l0 32).getD k 0 else if k < 64 then (fill x.l1 32).getD (k - 32) 0 else if k = 99 then ((min x.n3 9 : Nat) : Int) else 0
def TfA.opq (x : TfA) (k : Nat) : Value := match k with
  | 11 => .slice x.A0 x.n0 x.c0
  | 12 => .slice x.A1 x.n1 x.c1
  | 13 => .slice x.A3 x.n3 x.c3
  | 14 => .slice x.A3 (min x.n3 9) x.c3
  | 15 => .int .i64 x.k
  | 16 => .int .i64 x.n3
  | 17 => .int .i64 ((min x.n3 9 : Nat) : Int)
  | _ => .bool true
theorem TfA.one (x : TfA) (k : Nat) : (x.opq k).oneCell' = true := by unfold TfA.opq; split <;> rfl
def TfA.F (x : TfA) (hc : x.n3 ≤ x.c3) : Fx := ⟨x.sym, x.opq, fun l j => ((le 4 (cmore 0 l))[j]?).getD 0, fun _ _ _ _ => False, x.one, fun B w => TfOk x B w, fun _ _ _ h hb => h.kp hb, ⟨x.A3, x.n3, x.c3, rfl, hc, rfl, rfl, rfl⟩⟩
theorem getD_map {f : Nat → Int} {l : List Int} (hl : l.length = 32) (h : ∀ i, i < 32 → f i = l.getD i 0) : l = (List.range 32).map f := by
  apply List.ext_getElem
  · simp [hl]
  · intro i h1 h2
    have hi : i < 32 := by omega
    rw [List.getElem_map, List.getElem_range, h i hi, List.getD_eq_getElem?_getD, List.getElem?_eq_getElem h1]
    rfl
theorem TfA.ok (x : TfA) (hc : x.n3 ≤ x.c3) (h0 : x.l0.length = x.n0) (h1 : x.l1.length = x.n1) (m0 : x.n0 ≤ 9223372036854775807) (m1 : x.n1 ≤ 9223372036854775807) (b0 : Byt x.l0) (b1 : Byt x.l1) (hk : -9223372036854775808 ≤ x.k ∧ x.k ≤ 9223372036854775807) : FxT (x.F hc) := by
  have key : ∀ (l : List Int) (k : Nat), Byt l → 0 ≤ (fill l 32).getD k 0 ∧ (fill l 32).getD k 0 ≤ 255 := fun l k h => getD_byt (fill_byt h 32) k
  refine ⟨⟨fun k => ?_, fun l j hj => ?_⟩, fun B w h => ⟨?_, ?_, ?_⟩, ⟨x.k, rfl, hk⟩⟩
  · show 0 ≤ x.sym k ∧ x.sym k ≤ 255
    unfold TfA.sym
    split
    · exact key _ _ b0
    · split
      · exact key _ _ b1
      · split <;> omega
  · show _ = some (((le 4 (cmore 0 l))[j]?).getD 0)
    have : j < (le 4 (cmore 0 l)).length := by rw [le_len]; exact hj
    rw [List.getElem?_eq_getElem this]
    rfl
  · refine ⟨x.A0, x.n0, x.c0, x.l0, rfl, h.r0, h0, m0, getD_map (fill_len _ _) fun i hi => ?_⟩
    show x.sym i = _
    unfold TfA.sym
    rw [if_pos hi]
  · refine ⟨x.A1, x.n1, x.c1, x.l1, rfl, h.r1, h1, m1, getD_map (f := fun i => x.sym (32 + i)) (fill_len _ _) fun i hi => ?_⟩
    show x.sym (32 + i) = _
    unfold TfA.sym
    rw [if_neg (by omega), if_pos (by omega), Nat.add_sub_cancel_left]
  · have ht := h.r3.take (k := min x.n3 9) (Nat.min_le_left _ _)
    refine ⟨x.A3, min x.n3 9, x.c3, 0, x.l3.take (min x.n3 9), rfl, ht, ?_, by omega⟩
    show _ = (x.sym 99).toNat
    unfold TfA.sym
    rw [if_neg (by omega), if_neg (by omega), if_pos rfl, Int.toNat_natCast]
theorem tf_law (x : TfA) (b : Bool) (w : World) (hc : x.n3 ≤ x.c3) (h0 : x.l0.length = x.n0) (h1 : x.l1.length = x.n1) (m0 : x.n0 ≤ 9223372036854775807) (m1 : x.n1 ≤ 9223372036854775807) (b0 : Byt x.l0) (b1 : Byt x.l1) (hk : -9223372036854775808 ≤ x.k ∧ x.k ≤ 9223372036854775807) (hz : 0 < w.heap.size) (ha : TfOk x w.heap.size w) :
    Calls Tryz.prog 3 #[.slice x.A0 x.n0 x.c0, .slice x.A1 x.n1 x.c1, .bool b, .slice x.A3 x.n3 x.c3, .int .i64 x.k] w fun e w' => e = .returned (.bool true) ∧ Below w.heap.size w w' :=
  tf_calls (F := x.F hc) (x.ok hc h0 h1 m0 m1 b0 b1 hk) b w hz ha
end Go.Proofs.AL.Rx
