/-
  No cell of these rows narrows 'for every input' (looked for: loops, veiled, ifaces, maps, wideKeys, modest, calm, conditions, laid).
  DERIVED. THE GIVEN ROWS OF THIS SEAT. 12 by the template 'for every input the law returns true; each argument reads behind the call as it read before'; 0 by the template 'total and deterministic' (their statements: YtkognjdmoibpeaaTotals.lean).
  GIVEN WITH THE SEED: the statements are not yours to turn. If you find one false, say at which input.
  Laid BY PROGRAM, IN A SANDBOX (cutbox-rows.mjs): the forced cells as the released guide's own fill.sh prints them over the translation e2125d4e7709a58a… (all of the seat's roots in one cut). By AI agents, Wed Nov 11 2026. No macro, syntax, notation, axiom, sorry.
-/
import Derived.Test.YtkognjdmoibpeaaChecked
import GoSem.Claim
import GoSem.ClaimJoined
import GoSem.ClaimMapViews
import Derived.JoinedTies
import Derived.KernelRfl
namespace Go.Proofs.Ytkognjdmoibpeaa
/- THE CELL 'sum', in the pinned program and in every row, IS THE sha256 OF THE DUMP (.gsa) THAT YtkognjdmoibpeaaProg.lean LOADS. Nothing in Lean hashes anything: it is a label: what it is worth is what the hold of that sum in a sandbox is worth. -/
noncomputable def Try.pinned : Pinned := { name := "ytkognjdmoibpeaa", sum := "e2125d4e7709a58a44096b53820aea5869c9fbab4d720346c923a2fd3d54fd94", checked := Try.checked }
namespace Rows
def none {H : Type} : Left H := { results := [], args := [] }

/-- 'allotmentlaw02.CrcSums': WHATEVER THE INPUT: true; the input reads as it did. -/
def crcSumsSpec : ChangeSpec := { name := "crcSums", fn := fun _ => fun
  | [d1, d2] => { results := [.lit (.bool true)], args := [d1, d2] }
  | _ => none }
def crcSumsRow : OpenClaim := { program := "ytkognjdmoibpeaa", sum := "e2125d4e7709a58a44096b53820aea5869c9fbab4d720346c923a2fd3d54fd94", func := "allotment/allotmentlaw02.CrcSums", spec := "crcSums", apart := false }
def CrcSumsSaid : Prop := crcSumsRow.holds Try.pinned (OpenSpec.ofChange crcSumsSpec)

/-- ITS FALSE NEIGHBOUR: 'it returns false'. Refute it at one input. -/
def crcSumsWrong : ChangeSpec := { name := "crcSums", fn := fun _ => fun
  | [d1, d2] => { results := [.lit (.bool false)], args := [d1, d2] }
  | _ => none }
def CrcSumsWrongFalsely : Prop := crcSumsRow.holds Try.pinned (OpenSpec.ofChange crcSumsWrong)

/-- 'allotmentlaw02.CrcParts': WHATEVER THE INPUT: true; the input reads as it did. -/
def crcPartsSpec : ChangeSpec := { name := "crcParts", fn := fun _ => fun
  | [d1, d2] => { results := [.lit (.bool true)], args := [d1, d2] }
  | _ => none }
def crcPartsRow : OpenClaim := { program := "ytkognjdmoibpeaa", sum := "e2125d4e7709a58a44096b53820aea5869c9fbab4d720346c923a2fd3d54fd94", func := "allotment/allotmentlaw02.CrcParts", spec := "crcParts", apart := false }
def CrcPartsSaid : Prop := crcPartsRow.holds Try.pinned (OpenSpec.ofChange crcPartsSpec)

/-- ITS FALSE NEIGHBOUR: 'it returns false'. Refute it at one input. -/
def crcPartsWrong : ChangeSpec := { name := "crcParts", fn := fun _ => fun
  | [d1, d2] => { results := [.lit (.bool false)], args := [d1, d2] }
  | _ => none }
def CrcPartsWrongFalsely : Prop := crcPartsRow.holds Try.pinned (OpenSpec.ofChange crcPartsWrong)

/-- 'allotmentlaw02.CrcDiffers': WHATEVER THE INPUT: true; the input reads as it did. -/
def crcDiffersSpec : ChangeSpec := { name := "crcDiffers", fn := fun _ => fun
  | [d1, d2, d3] => { results := [.lit (.bool true)], args := [d1, d2, d3] }
  | _ => none }
def crcDiffersRow : OpenClaim := { program := "ytkognjdmoibpeaa", sum := "e2125d4e7709a58a44096b53820aea5869c9fbab4d720346c923a2fd3d54fd94", func := "allotment/allotmentlaw02.CrcDiffers", spec := "crcDiffers", apart := false }
def CrcDiffersSaid : Prop := crcDiffersRow.holds Try.pinned (OpenSpec.ofChange crcDiffersSpec)

/-- ITS FALSE NEIGHBOUR: 'it returns false'. Refute it at one input. -/
def crcDiffersWrong : ChangeSpec := { name := "crcDiffers", fn := fun _ => fun
  | [d1, d2, d3] => { results := [.lit (.bool false)], args := [d1, d2, d3] }
  | _ => none }
def CrcDiffersWrongFalsely : Prop := crcDiffersRow.holds Try.pinned (OpenSpec.ofChange crcDiffersWrong)

/-- 'allotmentlaw02.CrcPuts': WHATEVER THE INPUT: true; the input reads as it did. -/
def crcPutsSpec : ChangeSpec := { name := "crcPuts", fn := fun _ => fun
  | [d] => { results := [.lit (.bool true)], args := [d] }
  | _ => none }
def crcPutsRow : OpenClaim := { program := "ytkognjdmoibpeaa", sum := "e2125d4e7709a58a44096b53820aea5869c9fbab4d720346c923a2fd3d54fd94", func := "allotment/allotmentlaw02.CrcPuts", spec := "crcPuts", apart := false }
def CrcPutsSaid : Prop := crcPutsRow.holds Try.pinned (OpenSpec.ofChange crcPutsSpec)

/-- ITS FALSE NEIGHBOUR: 'it returns false'. Refute it at one input. -/
def crcPutsWrong : ChangeSpec := { name := "crcPuts", fn := fun _ => fun
  | [d] => { results := [.lit (.bool false)], args := [d] }
  | _ => none }
def CrcPutsWrongFalsely : Prop := crcPutsRow.holds Try.pinned (OpenSpec.ofChange crcPutsWrong)

/-- 'allotmentlaw02.CrcTakes': WHATEVER THE INPUT: true; the input reads as it did. -/
def crcTakesSpec : ChangeSpec := { name := "crcTakes", fn := fun _ => fun
  | [d1, d2, d3] => { results := [.lit (.bool true)], args := [d1, d2, d3] }
  | _ => none }
def crcTakesRow : OpenClaim := { program := "ytkognjdmoibpeaa", sum := "e2125d4e7709a58a44096b53820aea5869c9fbab4d720346c923a2fd3d54fd94", func := "allotment/allotmentlaw02.CrcTakes", spec := "crcTakes", apart := false }
def CrcTakesSaid : Prop := crcTakesRow.holds Try.pinned (OpenSpec.ofChange crcTakesSpec)

/-- ITS FALSE NEIGHBOUR: 'it returns false'. Refute it at one input. -/
def crcTakesWrong : ChangeSpec := { name := "crcTakes", fn := fun _ => fun
  | [d1, d2, d3] => { results := [.lit (.bool false)], args := [d1, d2, d3] }
  | _ => none }
def CrcTakesWrongFalsely : Prop := crcTakesRow.holds Try.pinned (OpenSpec.ofChange crcTakesWrong)

/-- 'allotmentlaw02.CrcTurns': WHATEVER THE INPUT: true; the input reads as it did. -/
def crcTurnsSpec : ChangeSpec := { name := "crcTurns", fn := fun _ => fun
  | [d1, d2, d3] => { results := [.lit (.bool true)], args := [d1, d2, d3] }
  | _ => none }
def crcTurnsRow : OpenClaim := { program := "ytkognjdmoibpeaa", sum := "e2125d4e7709a58a44096b53820aea5869c9fbab4d720346c923a2fd3d54fd94", func := "allotment/allotmentlaw02.CrcTurns", spec := "crcTurns", apart := false }
def CrcTurnsSaid : Prop := crcTurnsRow.holds Try.pinned (OpenSpec.ofChange crcTurnsSpec)

/-- ITS FALSE NEIGHBOUR: 'it returns false'. Refute it at one input. -/
def crcTurnsWrong : ChangeSpec := { name := "crcTurns", fn := fun _ => fun
  | [d1, d2, d3] => { results := [.lit (.bool false)], args := [d1, d2, d3] }
  | _ => none }
def CrcTurnsWrongFalsely : Prop := crcTurnsRow.holds Try.pinned (OpenSpec.ofChange crcTurnsWrong)

/-- 'allotmentlaw08.CellBytes': WHATEVER THE INPUT: true; the input reads as it did. -/
def cellBytesSpec : ChangeSpec := { name := "cellBytes", fn := fun _ => fun
  | [d1, d2, d3, d4] => { results := [.lit (.bool true)], args := [d1, d2, d3, d4] }
  | _ => none }
def cellBytesRow : OpenClaim := { program := "ytkognjdmoibpeaa", sum := "e2125d4e7709a58a44096b53820aea5869c9fbab4d720346c923a2fd3d54fd94", func := "allotment/allotmentlaw08.CellBytes", spec := "cellBytes", apart := false }
def CellBytesSaid : Prop := cellBytesRow.holds Try.pinned (OpenSpec.ofChange cellBytesSpec)

/-- ITS FALSE NEIGHBOUR: 'it returns false'. Refute it at one input. -/
def cellBytesWrong : ChangeSpec := { name := "cellBytes", fn := fun _ => fun
  | [d1, d2, d3, d4] => { results := [.lit (.bool false)], args := [d1, d2, d3, d4] }
  | _ => none }
def CellBytesWrongFalsely : Prop := cellBytesRow.holds Try.pinned (OpenSpec.ofChange cellBytesWrong)

/-- 'allotmentlaw08.CellPuts': WHATEVER THE INPUT: true; the input reads as it did. -/
def cellPutsSpec : ChangeSpec := { name := "cellPuts", fn := fun _ => fun
  | [d1, d2, d3] => { results := [.lit (.bool true)], args := [d1, d2, d3] }
  | _ => none }
def cellPutsRow : OpenClaim := { program := "ytkognjdmoibpeaa", sum := "e2125d4e7709a58a44096b53820aea5869c9fbab4d720346c923a2fd3d54fd94", func := "allotment/allotmentlaw08.CellPuts", spec := "cellPuts", apart := false }
def CellPutsSaid : Prop := cellPutsRow.holds Try.pinned (OpenSpec.ofChange cellPutsSpec)

/-- ITS FALSE NEIGHBOUR: 'it returns false'. Refute it at one input. -/
def cellPutsWrong : ChangeSpec := { name := "cellPuts", fn := fun _ => fun
  | [d1, d2, d3] => { results := [.lit (.bool false)], args := [d1, d2, d3] }
  | _ => none }
def CellPutsWrongFalsely : Prop := cellPutsRow.holds Try.pinned (OpenSpec.ofChange cellPutsWrong)

/-- 'allotmentlaw08.CellPages': WHATEVER THE INPUT: true; the input reads as it did. -/
def cellPagesSpec : ChangeSpec := { name := "cellPages", fn := fun _ => fun
  | [d1, d2] => { results := [.lit (.bool true)], args := [d1, d2] }
  | _ => none }
def cellPagesRow : OpenClaim := { program := "ytkognjdmoibpeaa", sum := "e2125d4e7709a58a44096b53820aea5869c9fbab4d720346c923a2fd3d54fd94", func := "allotment/allotmentlaw08.CellPages", spec := "cellPages", apart := false }
def CellPagesSaid : Prop := cellPagesRow.holds Try.pinned (OpenSpec.ofChange cellPagesSpec)

/-- ITS FALSE NEIGHBOUR: 'it returns false'. Refute it at one input. -/
def cellPagesWrong : ChangeSpec := { name := "cellPages", fn := fun _ => fun
  | [d1, d2] => { results := [.lit (.bool false)], args := [d1, d2] }
  | _ => none }
def CellPagesWrongFalsely : Prop := cellPagesRow.holds Try.pinned (OpenSpec.ofChange cellPagesWrong)

/-- 'allotmentlaw08.CellOpens': WHATEVER THE INPUT: true; the input reads as it did. -/
def cellOpensSpec : ChangeSpec := { name := "cellOpens", fn := fun _ => fun
  | [d1, d2, d3] => { results := [.lit (.bool true)], args := [d1, d2, d3] }
  | _ => none }
def cellOpensRow : OpenClaim := { program := "ytkognjdmoibpeaa", sum := "e2125d4e7709a58a44096b53820aea5869c9fbab4d720346c923a2fd3d54fd94", func := "allotment/allotmentlaw08.CellOpens", spec := "cellOpens", apart := false }
def CellOpensSaid : Prop := cellOpensRow.holds Try.pinned (OpenSpec.ofChange cellOpensSpec)

/-- ITS FALSE NEIGHBOUR: 'it returns false'. Refute it at one input. -/
def cellOpensWrong : ChangeSpec := { name := "cellOpens", fn := fun _ => fun
  | [d1, d2, d3] => { results := [.lit (.bool false)], args := [d1, d2, d3] }
  | _ => none }
def CellOpensWrongFalsely : Prop := cellOpensRow.holds Try.pinned (OpenSpec.ofChange cellOpensWrong)

/-- 'allotmentlaw08.CellSeals': WHATEVER THE INPUT: true; the input reads as it did. -/
def cellSealsSpec : ChangeSpec := { name := "cellSeals", fn := fun _ => fun
  | [d] => { results := [.lit (.bool true)], args := [d] }
  | _ => none }
def cellSealsRow : OpenClaim := { program := "ytkognjdmoibpeaa", sum := "e2125d4e7709a58a44096b53820aea5869c9fbab4d720346c923a2fd3d54fd94", func := "allotment/allotmentlaw08.CellSeals", spec := "cellSeals", apart := false }
def CellSealsSaid : Prop := cellSealsRow.holds Try.pinned (OpenSpec.ofChange cellSealsSpec)

/-- ITS FALSE NEIGHBOUR: 'it returns false'. Refute it at one input. -/
def cellSealsWrong : ChangeSpec := { name := "cellSeals", fn := fun _ => fun
  | [d] => { results := [.lit (.bool false)], args := [d] }
  | _ => none }
def CellSealsWrongFalsely : Prop := cellSealsRow.holds Try.pinned (OpenSpec.ofChange cellSealsWrong)

/-- 'allotmentlaw08.CellOwns': WHATEVER THE INPUT: true; the input reads as it did. -/
def cellOwnsSpec : ChangeSpec := { name := "cellOwns", fn := fun _ => fun
  | [d1, d2] => { results := [.lit (.bool true)], args := [d1, d2] }
  | _ => none }
def cellOwnsRow : OpenClaim := { program := "ytkognjdmoibpeaa", sum := "e2125d4e7709a58a44096b53820aea5869c9fbab4d720346c923a2fd3d54fd94", func := "allotment/allotmentlaw08.CellOwns", spec := "cellOwns", apart := false }
def CellOwnsSaid : Prop := cellOwnsRow.holds Try.pinned (OpenSpec.ofChange cellOwnsSpec)

/-- ITS FALSE NEIGHBOUR: 'it returns false'. Refute it at one input. -/
def cellOwnsWrong : ChangeSpec := { name := "cellOwns", fn := fun _ => fun
  | [d1, d2] => { results := [.lit (.bool false)], args := [d1, d2] }
  | _ => none }
def CellOwnsWrongFalsely : Prop := cellOwnsRow.holds Try.pinned (OpenSpec.ofChange cellOwnsWrong)

/- THE SECOND FORM. 'bulk': how many values and letters a reading holds, each counted each time it is reached (what is shared counts as often as it is met; a slice's spare places count too). A statement '..UptoSaid' is the law's where the arguments, and the package variables that the reading takes, are together of bulk at most 1048576: NARROWER than '..Said'. Prove '..Said' where nothing that the law and all that it calls make is longer than what came in: it says more and counts as full. Else prove '..UptoSaid'. A law counts once. -/
mutual
def uptoBulk {H : Type} : DataW H → Nat
  | .lit (.string bytes) => bytes.length + 1
  | .lit _ => 1
  | .nil => 1
  | .ptr d => uptoBulk d + 1
  | .slice elems spare => uptoBulkAll elems + uptoBulkAll spare + 1
  | .agg parts => uptoBulkAll parts + 1
  | .iface _ d => uptoBulk d + 1
  | .map entries => uptoBulkEntries entries + 1
  | .held _ => 1
def uptoBulkAll {H : Type} : List (DataW H) → Nat
  | [] => 0
  | d :: r => uptoBulk d + uptoBulkAll r
def uptoBulkEntries {H : Type} : List (Lit × DataW H) → Nat
  | [] => 0
  | x :: r => uptoBulkEntry x + uptoBulkEntries r
def uptoBulkEntry {H : Type} : Lit × DataW H → Nat
  | (.string bytes, d) => bytes.length + uptoBulk d + 1
  | (_, d) => uptoBulk d + 1
 end
def uptoSmall : (H : Type) → List (DataW H) → Bool := fun _ ds => decide (uptoBulkAll ds ≤ 1048576)
def OpenSpec.upto (s : _root_.Go.ChangeSpec) : _root_.Go.OpenSpec := { _root_.Go.OpenSpec.ofChange s with cond := some uptoSmall }

/-- 'allotmentlaw02.CrcSums', WHERE WHAT IT READS IS OF BULK AT MOST 1048576: true; the input reads as it did. -/
def crcSumsUptoRow : OpenClaim := { program := "ytkognjdmoibpeaa", sum := "e2125d4e7709a58a44096b53820aea5869c9fbab4d720346c923a2fd3d54fd94", func := "allotment/allotmentlaw02.CrcSums", spec := "crcSums", apart := false, narrowed := true }
def CrcSumsUptoSaid : Prop := crcSumsUptoRow.holds Try.pinned (OpenSpec.upto crcSumsSpec)

/-- 'allotmentlaw02.CrcParts', WHERE WHAT IT READS IS OF BULK AT MOST 1048576: true; the input reads as it did. -/
def crcPartsUptoRow : OpenClaim := { program := "ytkognjdmoibpeaa", sum := "e2125d4e7709a58a44096b53820aea5869c9fbab4d720346c923a2fd3d54fd94", func := "allotment/allotmentlaw02.CrcParts", spec := "crcParts", apart := false, narrowed := true }
def CrcPartsUptoSaid : Prop := crcPartsUptoRow.holds Try.pinned (OpenSpec.upto crcPartsSpec)

/-- 'allotmentlaw02.CrcDiffers', WHERE WHAT IT READS IS OF BULK AT MOST 1048576: true; the input reads as it did. -/
def crcDiffersUptoRow : OpenClaim := { program := "ytkognjdmoibpeaa", sum := "e2125d4e7709a58a44096b53820aea5869c9fbab4d720346c923a2fd3d54fd94", func := "allotment/allotmentlaw02.CrcDiffers", spec := "crcDiffers", apart := false, narrowed := true }
def CrcDiffersUptoSaid : Prop := crcDiffersUptoRow.holds Try.pinned (OpenSpec.upto crcDiffersSpec)

/-- 'allotmentlaw02.CrcPuts', WHERE WHAT IT READS IS OF BULK AT MOST 1048576: true; the input reads as it did. -/
def crcPutsUptoRow : OpenClaim := { program := "ytkognjdmoibpeaa", sum := "e2125d4e7709a58a44096b53820aea5869c9fbab4d720346c923a2fd3d54fd94", func := "allotment/allotmentlaw02.CrcPuts", spec := "crcPuts", apart := false, narrowed := true }
def CrcPutsUptoSaid : Prop := crcPutsUptoRow.holds Try.pinned (OpenSpec.upto crcPutsSpec)

/-- 'allotmentlaw02.CrcTakes', WHERE WHAT IT READS IS OF BULK AT MOST 1048576: true; the input reads as it did. -/
def crcTakesUptoRow : OpenClaim := { program := "ytkognjdmoibpeaa", sum := "e2125d4e7709a58a44096b53820aea5869c9fbab4d720346c923a2fd3d54fd94", func := "allotment/allotmentlaw02.CrcTakes", spec := "crcTakes", apart := false, narrowed := true }
def CrcTakesUptoSaid : Prop := crcTakesUptoRow.holds Try.pinned (OpenSpec.upto crcTakesSpec)

/-- 'allotmentlaw02.CrcTurns', WHERE WHAT IT READS IS OF BULK AT MOST 1048576: true; the input reads as it did. -/
def crcTurnsUptoRow : OpenClaim := { program := "ytkognjdmoibpeaa", sum := "e2125d4e7709a58a44096b53820aea5869c9fbab4d720346c923a2fd3d54fd94", func := "allotment/allotmentlaw02.CrcTurns", spec := "crcTurns", apart := false, narrowed := true }
def CrcTurnsUptoSaid : Prop := crcTurnsUptoRow.holds Try.pinned (OpenSpec.upto crcTurnsSpec)

/-- 'allotmentlaw08.CellBytes', WHERE WHAT IT READS IS OF BULK AT MOST 1048576: true; the input reads as it did. -/
def cellBytesUptoRow : OpenClaim := { program := "ytkognjdmoibpeaa", sum := "e2125d4e7709a58a44096b53820aea5869c9fbab4d720346c923a2fd3d54fd94", func := "allotment/allotmentlaw08.CellBytes", spec := "cellBytes", apart := false, narrowed := true }
def CellBytesUptoSaid : Prop := cellBytesUptoRow.holds Try.pinned (OpenSpec.upto cellBytesSpec)

/-- 'allotmentlaw08.CellPuts', WHERE WHAT IT READS IS OF BULK AT MOST 1048576: true; the input reads as it did. -/
def cellPutsUptoRow : OpenClaim := { program := "ytkognjdmoibpeaa", sum := "e2125d4e7709a58a44096b53820aea5869c9fbab4d720346c923a2fd3d54fd94", func := "allotment/allotmentlaw08.CellPuts", spec := "cellPuts", apart := false, narrowed := true }
def CellPutsUptoSaid : Prop := cellPutsUptoRow.holds Try.pinned (OpenSpec.upto cellPutsSpec)

/-- 'allotmentlaw08.CellPages', WHERE WHAT IT READS IS OF BULK AT MOST 1048576: true; the input reads as it did. -/
def cellPagesUptoRow : OpenClaim := { program := "ytkognjdmoibpeaa", sum := "e2125d4e7709a58a44096b53820aea5869c9fbab4d720346c923a2fd3d54fd94", func := "allotment/allotmentlaw08.CellPages", spec := "cellPages", apart := false, narrowed := true }
def CellPagesUptoSaid : Prop := cellPagesUptoRow.holds Try.pinned (OpenSpec.upto cellPagesSpec)

/-- 'allotmentlaw08.CellOpens', WHERE WHAT IT READS IS OF BULK AT MOST 1048576: true; the input reads as it did. -/
def cellOpensUptoRow : OpenClaim := { program := "ytkognjdmoibpeaa", sum := "e2125d4e7709a58a44096b53820aea5869c9fbab4d720346c923a2fd3d54fd94", func := "allotment/allotmentlaw08.CellOpens", spec := "cellOpens", apart := false, narrowed := true }
def CellOpensUptoSaid : Prop := cellOpensUptoRow.holds Try.pinned (OpenSpec.upto cellOpensSpec)

/-- 'allotmentlaw08.CellSeals', WHERE WHAT IT READS IS OF BULK AT MOST 1048576: true; the input reads as it did. -/
def cellSealsUptoRow : OpenClaim := { program := "ytkognjdmoibpeaa", sum := "e2125d4e7709a58a44096b53820aea5869c9fbab4d720346c923a2fd3d54fd94", func := "allotment/allotmentlaw08.CellSeals", spec := "cellSeals", apart := false, narrowed := true }
def CellSealsUptoSaid : Prop := cellSealsUptoRow.holds Try.pinned (OpenSpec.upto cellSealsSpec)

/-- 'allotmentlaw08.CellOwns', WHERE WHAT IT READS IS OF BULK AT MOST 1048576: true; the input reads as it did. -/
def cellOwnsUptoRow : OpenClaim := { program := "ytkognjdmoibpeaa", sum := "e2125d4e7709a58a44096b53820aea5869c9fbab4d720346c923a2fd3d54fd94", func := "allotment/allotmentlaw08.CellOwns", spec := "cellOwns", apart := false, narrowed := true }
def CellOwnsUptoSaid : Prop := cellOwnsUptoRow.holds Try.pinned (OpenSpec.upto cellOwnsSpec)

end Rows
end Go.Proofs.Ytkognjdmoibpeaa
