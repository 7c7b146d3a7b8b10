/- strings.Builder: what it keeps. -/
import Derived.Shelf.Strings.Builder2
import Derived.Test.YtjfckaoppfnicaaGreatDoorRvb
import Derived.Test.YtjfckaoppfnicaaGreatDoorProg
import Derived.KernelRfl
import Derived.Test.YtjfckaoppfnicaaGreatDoorBase
set_option linter.unusedVariables false
set_option linter.unusedSimpArgs false
set_option maxRecDepth 100000
namespace Go.Proofs.AL.Rx
open Go Go.Shelf Go.RowKit
def ρB : Go.Shelf.Ren := ⟨fun | 169 => 48 | 240 => 93 | 241 => 258 | 276 => 164 | 277 => 314 | _ => 0, fun | 0 => 0 | 3 => 3 | 4 => 4 | 5 => 5 | 9 => 9 | 20 => 20 | 37 => 22 | 70 => 111 | 72 => 113 | 127 => 191 | 164 => 258 | _ => 0, fun x => x⟩
theorem lays169 : Lays.n169 Tryz.prog ρB where
  mixed := by kernel_rfl
  f169 := by kernel_rfl
  t0 := Tryz.underlying0
  a0 := Tryz.isAgg0
  z0 := Tryz.sizeOf0
  v0 := Tryz.zeroValue0
  t3 := Tryz.underlying3
  a3 := Tryz.isAgg3
  z3 := Tryz.sizeOf3
  v3 := Tryz.zeroValue3
  t9 := Tryz.underlying9
  a9 := Tryz.isAgg9
  z9 := Tryz.sizeOf9
  v9 := Tryz.zeroValue9
  t37 := Tryz.underlying22
  a37 := Tryz.isAgg22
  z37 := Tryz.sizeOf22
  v37 := Tryz.zeroValue22
  t70 := Tryz.underlying111
  a70 := Tryz.isAgg111
  z70 := Tryz.sizeOf111
  v70 := Tryz.zeroValue111
  t72 := Tryz.underlying113
  a72 := Tryz.isAgg113
  z72 := Tryz.sizeOf113
  v72 := Tryz.zeroValue113
  t127 := Tryz.underlying191
  a127 := Tryz.isAgg191
  z127 := Tryz.sizeOf191
  v127 := Tryz.zeroValue191
theorem lays240 : Lays.n240 Tryz.prog ρB where
  mixed := by kernel_rfl
  f240 := by kernel_rfl
  f276 := by kernel_rfl
  t0 := Tryz.underlying0
  a0 := Tryz.isAgg0
  z0 := Tryz.sizeOf0
  v0 := Tryz.zeroValue0
  t4 := Tryz.underlying4
  a4 := Tryz.isAgg4
  z4 := Tryz.sizeOf4
  v4 := Tryz.zeroValue4
  t9 := Tryz.underlying9
  a9 := Tryz.isAgg9
  z9 := Tryz.sizeOf9
  v9 := Tryz.zeroValue9
  t20 := Tryz.underlying20
  a20 := Tryz.isAgg20
  z20 := Tryz.sizeOf20
  v20 := Tryz.zeroValue20
  t70 := Tryz.underlying111
  a70 := Tryz.isAgg111
  z70 := Tryz.sizeOf111
  v70 := Tryz.zeroValue111
  t72 := Tryz.underlying113
  a72 := Tryz.isAgg113
  z72 := Tryz.sizeOf113
  v72 := Tryz.zeroValue113
  t164 := Tryz.underlying258
  a164 := Tryz.isAgg258
  z164 := Tryz.sizeOf258
  v164 := Tryz.zeroValue258
theorem lays241 : Lays.n241 Tryz.prog ρB where
  mixed := by kernel_rfl
  f241 := by kernel_rfl
  f277 := by kernel_rfl
  t0 := Tryz.underlying0
  a0 := Tryz.isAgg0
  z0 := Tryz.sizeOf0
  v0 := Tryz.zeroValue0
  t3 := Tryz.underlying3
  a3 := Tryz.isAgg3
  z3 := Tryz.sizeOf3
  v3 := Tryz.zeroValue3
  t37 := Tryz.underlying22
  a37 := Tryz.isAgg22
  z37 := Tryz.sizeOf22
  v37 := Tryz.zeroValue22
  t70 := Tryz.underlying111
  a70 := Tryz.isAgg111
  z70 := Tryz.sizeOf111
  v70 := Tryz.zeroValue111
  t72 := Tryz.underlying113
  a72 := Tryz.isAgg113
  z72 := Tryz.sizeOf113
  v72 := Tryz.zeroValue113
theorem builderX : Builder.Extra Tryz.prog ρB where
  sizeBuilder := by kernel_rfl
  liesBuilder := by kernel_rfl
  t5 := Tryz.underlying5
  a5 := Tryz.isAgg5
  z5 := Tryz.sizeOf5
  v5 := Tryz.zeroValue5
  infoByte := by kernel_rfl
  cellsByte := by kernel_rfl
  sizeByte := by kernel_rfl
  neB5 := by decide
end Go.Proofs.AL.Rx
/- the library's builder, with all that is kept. -/
set_option linter.unusedVariables false
set_option linter.unusedSimpArgs false
namespace Go.Proofs.AL.Rx
open Go Go.RowKit Go.Shelf
/-- what a fresh one's grow leaves -/
def Grown (b : Nat) (T e : TypeId) (p : Value) (w w' : World) : Prop := ∃ cs : Array Value, cs.size ≤ maxLen ∧ w'.heap[w.heap.size]? = some (.cells cs e (0, 0)) ∧ w'.heap[b]? = some (.cells #[p, .slice (some ⟨w.heap.size, 0, none⟩) 0 cs.size] T (0, 0)) ∧ But b w w'
theorem grown_of {T e : TypeId} {b : Nat} {p : Value} {w : World} {cs : Array Value} (hbk : w.heap[b]? = some (.cells #[p, .slice none 0 0] T (0, 0))) (hm : cs.size ≤ maxLen) :
    Grown b T e p w ((w.alloc (.cells cs e)).setCell ⟨b, 1, none⟩ (.slice (some ⟨w.heap.size, 0, none⟩) 0 cs.size)).drew.drew.drew := by
  have hlt : b < w.heap.size := (Array.getElem?_eq_some_iff.1 hbk).1
  have hb2 : (w.alloc (.cells cs e)).heap[b]? = some (.cells #[p, .slice none 0 0] T (0, 0)) := (Lib.alloc_old w _ b hlt).trans hbk
  have h3 := (But.of_ext (g := b) (Ext.alloc w (.cells cs e))).trans (But.of_set (w.alloc (.cells cs e)) b 1 (.slice (some ⟨w.heap.size, 0, none⟩) 0 cs.size))
  refine ⟨cs, hm, ?_, ?_, ⟨h3.os, h3.tape, h3.output, h3.size, h3.block⟩⟩
  · exact (Below.heap_setCell (w.alloc (.cells cs e)) ⟨b, 1, none⟩ _ w.heap.size (by show w.heap.size ≠ b; omega)).trans (heap_alloc_new w _)
  · show ((w.alloc (.cells cs e)).setCell _ _).heap[b]? = _
    simp [World.setCell, Array.getElem?_modify, hb2]
section
variable {P : Program} {ρ : Go.Shelf.Ren}
set_option maxHeartbeats 2000000 in
set_option maxRecDepth 1000000 in
theorem grow_calls (L : Lays.n241 P ρ) (X : Builder.Extra P ρ) (b n : Nat) (w : World) (hbk : w.heap[b]? = some (.cells #[.pointer (some ⟨b, 0, none⟩), .slice none 0 0] (ρ.t 72) (0, 0))) (hn : n ≤ 140737488355328) :
    Calls P (ρ.f 241) #[.pointer (some ⟨b, 0, none⟩), .int .i64 n] w fun e w' => e = .returned (.tuple #[]) ∧ Grown b (ρ.t 72) (ρ.t 5) (.pointer (some ⟨b, 0, none⟩)) w w' := by
  obtain ⟨cs, hrun, hle, hmax⟩ := Lib.run_makeNoZero (P := P) w.drew #[(ρ.t 3)] (ρ.t 37) (ρ.t 5) L.t37 n (by omega)
  have hw : IntKind.i64.wrap (IntKind.i64.wrap 0 + (n : Int)) = n := by
    rw [IntKind.wrap_i64, IntKind.wrap_i64]
    omega
  have hcall : (callFunc (ρ.f 277) #[.int .i64 (IntKind.i64.wrap (IntKind.i64.wrap 0 + (n : Int)))]).run P w.drew = .ok (.value (.slice (some ⟨w.drew.heap.size, 0, none⟩) n cs.size)) (w.drew.drew.drew.alloc (.cells cs (ρ.t 5))) := by
    rw [hw, run_callFunc_extern L.f277 (by kernel_rfl) (by kernel_rfl) (by kernel_rfl) (e := Extern.BytealgMakeNoZero.makeNoZero #[(ρ.t 3)] #[(ρ.t 37)]) (by kernel_rfl), hrun]
    rfl
  have hlt : b < w.heap.size := (Array.getElem?_eq_some_iff.1 hbk).1
  have c1 : w.drew.cell? ⟨b, 1, none⟩ = some (.slice none 0 0) := by
    have : w.drew.heap[b]? = _ := hbk
    rw [Lib.cell_of_heap this]; rfl
  have c2 : (w.alloc (.cells cs (ρ.t 5))).cell? ⟨b, 1, none⟩ = some (.slice none 0 0) := by
    have : (w.alloc (.cells cs (ρ.t 5))).heap[b]? = _ := (Lib.alloc_old w _ b hlt).trans hbk
    rw [Lib.cell_of_heap this]; rfl
  have f2 : (w.alloc (.cells cs (ρ.t 5))).frozen? ⟨b, 1, none⟩ = false := Lib.frozen_of_heap ((Lib.alloc_old w _ b hlt).trans hbk) 1
  have hcopy : ∀ W : World, (Builtin.copy_ #[(ρ.t 37), (ρ.t 37)] (ρ.t 3) #[.slice (some ⟨w.heap.size, 0, none⟩) 0 cs.size, .slice none 0 0]).run P W = .ok (goInt 0) W :=
    fun W => run_copy_none W (ρ.t 37) (ρ.t 37) (ρ.t 3) (ρ.t 5) _ _ 0 cs.size 0 0 L.t37 X.sizeByte rfl
  clear hw
  have hfin := grown_of (T := (ρ.t 72)) (e := (ρ.t 5)) (cs := cs) hbk (hmax (by unfold maxLen; omega))
  clear hlt
  have mixed := L.mixed
  have t72 := L.t72; have a72 := L.a72; have z72 := L.z72; have v72 := L.v72; have u72 := run_underlying L.t72
  have t70 := L.t70; have a70 := L.a70; have z70 := L.z70; have v70 := L.v70; have u70 := run_underlying L.t70
  have t37 := L.t37; have a37 := L.a37; have z37 := L.z37; have v37 := L.v37; have u37 := run_underlying L.t37
  have t3 := L.t3; have a3 := L.a3; have z3 := L.z3; have v3 := L.v3; have u3 := run_underlying L.t3
  have t5 := X.t5; have a5 := X.a5; have z5 := X.z5; have v5 := X.v5; have u5 := run_underlying X.t5
  go_enter L.f241, Body.n241_ntmps ρ
  go_wp2
  go_region_o
  all_goals (go_wp2; go_end0; exact ⟨rfl, hfin⟩)
end

/-- what String leaves: the row's first bytes are not to be written any more -/
theorem but_freeze (w : World) (g n : Nat) : But g w (w.drew.freeze ⟨g, 0, none⟩ n) := by
  unfold World.freeze
  split
  · exact ⟨rfl, rfl, rfl, Nat.le_refl _, fun k _ _ => rfl⟩
  · exact ⟨rfl, rfl, rfl, by simp, fun k _ hk => by
      simp only [Array.getElem?_modify]
      rw [if_neg (fun e => hk (by rw [e]))]
      rfl⟩
section
variable {P : Program} {ρ : Go.Shelf.Ren}
set_option maxHeartbeats 2000000 in
set_option maxRecDepth 1000000 in
theorem str_calls (L : Lays.n169 P ρ) (X : Builder.Extra P ρ) (b g cap : Nat) (p : Value) (l : List UInt8) (rest : List Value) (w : World) (hbk : w.heap[b]? = some (.cells #[p, .slice (some ⟨g, 0, none⟩) l.length cap] (ρ.t 72) (0, 0))) (hg : w.heap[g]? = some (.cells (Lib.byteCells l ++ rest).toArray (ρ.t 5) (0, 0))) (h0 : l ≠ []) (hcap : l.length ≤ cap) (hmx : l.length ≤ 9223372036854775807) :
    Calls P (ρ.f 169) #[.pointer (some ⟨b, 0, none⟩)] w fun e w' => e = .returned (.string ⟨l.toArray⟩) ∧ But g w w' := by
  have hl0 : l.length ≠ 0 := by simpa using h0
  have c1 : w.drew.cell? ⟨b, 1, none⟩ = some (.slice (some ⟨g, 0, none⟩) l.length cap) := by
    have : w.drew.heap[b]? = some (.cells #[p, .slice (some ⟨g, 0, none⟩) l.length cap] (ρ.t 72) (0, 0)) := hbk
    rw [Lib.cell_of_heap this]; rfl
  have hSD : (Builtin.unsafeSliceData_ #[(ρ.t 37)] (ρ.t 127) #[.slice (some ⟨g, 0, none⟩) l.length cap]).run P w.drew = .ok (.pointer (some ⟨g, 0, none⟩)) w.drew :=
    Lib.run_unsafeSliceData_row _ _ _ _ _ _ (by omega)
  have hUS : (Builtin.unsafeString_ #[(ρ.t 127), (ρ.t 3)] (ρ.t 9) #[.pointer (some ⟨g, 0, none⟩), .int .i64 l.length]).run P w.drew = .ok (.string ⟨l.toArray⟩) (w.drew.freeze ⟨g, 0, none⟩ l.length) := by
    refine Lib.run_unsafeString_row w.drew (ρ.t 127) (ρ.t 3) (ρ.t 9) (ρ.t 5) L.t127 X.cellsByte g (Lib.byteCells l ++ rest).toArray.size (by have hg' : w.drew.heap[g]? = _ := hg; simp [World.shape?, hg']) l h0 (by simp [Lib.byteCells]) hmx ?_
    intro j x hx
    have hg' : w.drew.heap[g]? = some (.cells (Lib.byteCells l ++ rest).toArray (ρ.t 5) (0, 0)) := hg
    rw [add_lit, Nat.zero_add, Lib.cell_of_heap hg']
    simp only [List.getElem?_toArray]
    rw [List.getElem?_append_left (by simp [Lib.byteCells]; exact (List.getElem?_eq_some_iff.1 hx).1)]
    simp [Lib.byteCells, hx]
  have hfin := but_freeze w g l.length
  clear hcap hmx
  have mixed := L.mixed
  have t72 := L.t72; have a72 := L.a72; have z72 := L.z72; have v72 := L.v72; have u72 := run_underlying L.t72
  have t70 := L.t70; have a70 := L.a70; have z70 := L.z70; have v70 := L.v70; have u70 := run_underlying L.t70
  have t37 := L.t37; have a37 := L.a37; have z37 := L.z37; have v37 := L.v37; have u37 := run_underlying L.t37
  have t127 := L.t127; have a127 := L.a127; have z127 := L.z127; have v127 := L.v127; have u127 := run_underlying L.t127
  have t3 := L.t3; have a3 := L.a3; have z3 := L.z3; have v3 := L.v3; have u3 := run_underlying L.t3
  have t9 := L.t9; have a9 := L.a9; have z9 := L.z9; have v9 := L.v9; have u9 := run_underlying L.t9
  have t5 := X.t5; have a5 := X.a5; have z5 := X.z5; have v5 := X.v5; have u5 := run_underlying X.t5
  go_enter L.f169, Body.n169_ntmps ρ
  go_wp2
  go_region_o
  all_goals (go_wp2; go_ret; exact ⟨rfl, hfin⟩)
end
end Go.Proofs.AL.Rx
