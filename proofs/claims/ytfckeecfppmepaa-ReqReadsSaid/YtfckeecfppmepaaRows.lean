/-
  No cell of these rows narrows 'for every input' (looked for: loops, veiled, ifaces, maps, wideKeys, modest, calm, conditions, laid).
  DERIVED. THE GIVEN ROWS OF THIS SEAT. 11 by the template 'for every input the law returns true; each argument reads behind the call as it read before'; 0 by the template 'total and deterministic' (their statements: YtfckeecfppmepaaTotals.lean).
  GIVEN WITH THE SEED: the statements are not yours to turn. If you find one false, say at which input.
  Laid BY PROGRAM, IN A SANDBOX (cutbox-rows.mjs): the forced cells as the released guide's own fill.sh prints them over the translation f4005402ca5150bc… (all of the seat's roots in one cut). By AI agents, Wed Nov 11 2026. No macro, syntax, notation, axiom, sorry.
-/
import Derived.Test.YtfckeecfppmepaaChecked
import GoSem.Claim
import GoSem.ClaimJoined
import GoSem.ClaimMapViews
import Derived.JoinedTies
import Derived.KernelRfl
namespace Go.Proofs.Ytfckeecfppmepaa
/- THE CELL 'sum', in the pinned program and in every row, IS THE sha256 OF THE DUMP (.gsa) THAT YtfckeecfppmepaaProg.lean LOADS. Nothing in Lean hashes anything: it is a label: what it is worth is what the hold of that sum in a sandbox is worth. -/
noncomputable def Try.pinned : Pinned := { name := "ytfckeecfppmepaa", sum := "f4005402ca5150bc2e86903b8d2ac9d124742ebce8de885654fcf618f34ded87", checked := Try.checked }
namespace Rows
def none {H : Type} : Left H := { results := [], args := [] }

/-- 'allotmentlaw01.LayParts': WHATEVER THE INPUT: true; the input reads as it did. -/
def layPartsSpec : ChangeSpec := { name := "layParts", fn := fun _ => fun
  | [d1, d2] => { results := [.lit (.bool true)], args := [d1, d2] }
  | _ => none }
def layPartsRow : OpenClaim := { program := "ytfckeecfppmepaa", sum := "f4005402ca5150bc2e86903b8d2ac9d124742ebce8de885654fcf618f34ded87", func := "allotment/allotmentlaw01.LayParts", spec := "layParts", apart := false }
def LayPartsSaid : Prop := layPartsRow.holds Try.pinned (OpenSpec.ofChange layPartsSpec)

/-- ITS FALSE NEIGHBOUR: 'it returns false'. Refute it at one input. -/
def layPartsWrong : ChangeSpec := { name := "layParts", fn := fun _ => fun
  | [d1, d2] => { results := [.lit (.bool false)], args := [d1, d2] }
  | _ => none }
def LayPartsWrongFalsely : Prop := layPartsRow.holds Try.pinned (OpenSpec.ofChange layPartsWrong)

/-- 'allotmentlaw01.LayPuts': WHATEVER THE INPUT: true; the input reads as it did. -/
def layPutsSpec : ChangeSpec := { name := "layPuts", fn := fun _ => fun
  | [d1, d2, d3, d4] => { results := [.lit (.bool true)], args := [d1, d2, d3, d4] }
  | _ => none }
def layPutsRow : OpenClaim := { program := "ytfckeecfppmepaa", sum := "f4005402ca5150bc2e86903b8d2ac9d124742ebce8de885654fcf618f34ded87", func := "allotment/allotmentlaw01.LayPuts", spec := "layPuts", apart := false }
def LayPutsSaid : Prop := layPutsRow.holds Try.pinned (OpenSpec.ofChange layPutsSpec)

/-- ITS FALSE NEIGHBOUR: 'it returns false'. Refute it at one input. -/
def layPutsWrong : ChangeSpec := { name := "layPuts", fn := fun _ => fun
  | [d1, d2, d3, d4] => { results := [.lit (.bool false)], args := [d1, d2, d3, d4] }
  | _ => none }
def LayPutsWrongFalsely : Prop := layPutsRow.holds Try.pinned (OpenSpec.ofChange layPutsWrong)

/-- 'allotmentlaw01.LayOwns': WHATEVER THE INPUT: true; the input reads as it did. -/
def layOwnsSpec : ChangeSpec := { name := "layOwns", fn := fun _ => fun
  | [d1, d2, d3] => { results := [.lit (.bool true)], args := [d1, d2, d3] }
  | _ => none }
def layOwnsRow : OpenClaim := { program := "ytfckeecfppmepaa", sum := "f4005402ca5150bc2e86903b8d2ac9d124742ebce8de885654fcf618f34ded87", func := "allotment/allotmentlaw01.LayOwns", spec := "layOwns", apart := false }
def LayOwnsSaid : Prop := layOwnsRow.holds Try.pinned (OpenSpec.ofChange layOwnsSpec)

/-- ITS FALSE NEIGHBOUR: 'it returns false'. Refute it at one input. -/
def layOwnsWrong : ChangeSpec := { name := "layOwns", fn := fun _ => fun
  | [d1, d2, d3] => { results := [.lit (.bool false)], args := [d1, d2, d3] }
  | _ => none }
def LayOwnsWrongFalsely : Prop := layOwnsRow.holds Try.pinned (OpenSpec.ofChange layOwnsWrong)

/-- 'allotmentlaw01.LayReads': WHATEVER THE INPUT: true; the input reads as it did. -/
def layReadsSpec : ChangeSpec := { name := "layReads", fn := fun _ => fun
  | [d1, d2] => { results := [.lit (.bool true)], args := [d1, d2] }
  | _ => none }
def layReadsRow : OpenClaim := { program := "ytfckeecfppmepaa", sum := "f4005402ca5150bc2e86903b8d2ac9d124742ebce8de885654fcf618f34ded87", func := "allotment/allotmentlaw01.LayReads", spec := "layReads", apart := false }
def LayReadsSaid : Prop := layReadsRow.holds Try.pinned (OpenSpec.ofChange layReadsSpec)

/-- ITS FALSE NEIGHBOUR: 'it returns false'. Refute it at one input. -/
def layReadsWrong : ChangeSpec := { name := "layReads", fn := fun _ => fun
  | [d1, d2] => { results := [.lit (.bool false)], args := [d1, d2] }
  | _ => none }
def LayReadsWrongFalsely : Prop := layReadsRow.holds Try.pinned (OpenSpec.ofChange layReadsWrong)

/-- 'allotmentlaw01.LayRound': WHATEVER THE INPUT: true; the input reads as it did. -/
def layRoundSpec : ChangeSpec := { name := "layRound", fn := fun _ => fun
  | [d1, d2, d3] => { results := [.lit (.bool true)], args := [d1, d2, d3] }
  | _ => none }
def layRoundRow : OpenClaim := { program := "ytfckeecfppmepaa", sum := "f4005402ca5150bc2e86903b8d2ac9d124742ebce8de885654fcf618f34ded87", func := "allotment/allotmentlaw01.LayRound", spec := "layRound", apart := false }
def LayRoundSaid : Prop := layRoundRow.holds Try.pinned (OpenSpec.ofChange layRoundSpec)

/-- ITS FALSE NEIGHBOUR: 'it returns false'. Refute it at one input. -/
def layRoundWrong : ChangeSpec := { name := "layRound", fn := fun _ => fun
  | [d1, d2, d3] => { results := [.lit (.bool false)], args := [d1, d2, d3] }
  | _ => none }
def LayRoundWrongFalsely : Prop := layRoundRow.holds Try.pinned (OpenSpec.ofChange layRoundWrong)

/-- 'allotmentlaw01.LayCuts': WHATEVER THE INPUT: true; the input reads as it did. -/
def layCutsSpec : ChangeSpec := { name := "layCuts", fn := fun _ => fun
  | [d1, d2] => { results := [.lit (.bool true)], args := [d1, d2] }
  | _ => none }
def layCutsRow : OpenClaim := { program := "ytfckeecfppmepaa", sum := "f4005402ca5150bc2e86903b8d2ac9d124742ebce8de885654fcf618f34ded87", func := "allotment/allotmentlaw01.LayCuts", spec := "layCuts", apart := false }
def LayCutsSaid : Prop := layCutsRow.holds Try.pinned (OpenSpec.ofChange layCutsSpec)

/-- ITS FALSE NEIGHBOUR: 'it returns false'. Refute it at one input. -/
def layCutsWrong : ChangeSpec := { name := "layCuts", fn := fun _ => fun
  | [d1, d2] => { results := [.lit (.bool false)], args := [d1, d2] }
  | _ => none }
def LayCutsWrongFalsely : Prop := layCutsRow.holds Try.pinned (OpenSpec.ofChange layCutsWrong)

/-- 'allotmentlaw18.ReqChecks': WHATEVER THE INPUT: true; the input reads as it did. -/
def reqChecksSpec : ChangeSpec := { name := "reqChecks", fn := fun _ => fun
  | [d1, d2, d3] => { results := [.lit (.bool true)], args := [d1, d2, d3] }
  | _ => none }
def reqChecksRow : OpenClaim := { program := "ytfckeecfppmepaa", sum := "f4005402ca5150bc2e86903b8d2ac9d124742ebce8de885654fcf618f34ded87", func := "allotment/allotmentlaw18.ReqChecks", spec := "reqChecks", unfollowed := true, recurses := true, apart := false }
def ReqChecksSaid : Prop := reqChecksRow.holds Try.pinned (OpenSpec.ofChange reqChecksSpec)

/-- ITS FALSE NEIGHBOUR: 'it returns false'. Refute it at one input. -/
def reqChecksWrong : ChangeSpec := { name := "reqChecks", fn := fun _ => fun
  | [d1, d2, d3] => { results := [.lit (.bool false)], args := [d1, d2, d3] }
  | _ => none }
def ReqChecksWrongFalsely : Prop := reqChecksRow.holds Try.pinned (OpenSpec.ofChange reqChecksWrong)

/-- 'allotmentlaw18.ReqNames': WHATEVER THE INPUT: true; the input reads as it did. -/
def reqNamesSpec : ChangeSpec := { name := "reqNames", fn := fun _ => fun
  | [d] => { results := [.lit (.bool true)], args := [d] }
  | _ => none }
def reqNamesRow : OpenClaim := { program := "ytfckeecfppmepaa", sum := "f4005402ca5150bc2e86903b8d2ac9d124742ebce8de885654fcf618f34ded87", func := "allotment/allotmentlaw18.ReqNames", spec := "reqNames", unfollowed := true, recurses := true, apart := false }
def ReqNamesSaid : Prop := reqNamesRow.holds Try.pinned (OpenSpec.ofChange reqNamesSpec)

/-- ITS FALSE NEIGHBOUR: 'it returns false'. Refute it at one input. -/
def reqNamesWrong : ChangeSpec := { name := "reqNames", fn := fun _ => fun
  | [d] => { results := [.lit (.bool false)], args := [d] }
  | _ => none }
def ReqNamesWrongFalsely : Prop := reqNamesRow.holds Try.pinned (OpenSpec.ofChange reqNamesWrong)

/-- 'allotmentlaw18.ReqSame': WHATEVER THE INPUT: true; the input reads as it did. -/
def reqSameSpec : ChangeSpec := { name := "reqSame", fn := fun _ => fun
  | [d1, d2, d3] => { results := [.lit (.bool true)], args := [d1, d2, d3] }
  | _ => none }
def reqSameRow : OpenClaim := { program := "ytfckeecfppmepaa", sum := "f4005402ca5150bc2e86903b8d2ac9d124742ebce8de885654fcf618f34ded87", func := "allotment/allotmentlaw18.ReqSame", spec := "reqSame", unfollowed := true, recurses := true, apart := false }
def ReqSameSaid : Prop := reqSameRow.holds Try.pinned (OpenSpec.ofChange reqSameSpec)

/-- ITS FALSE NEIGHBOUR: 'it returns false'. Refute it at one input. -/
def reqSameWrong : ChangeSpec := { name := "reqSame", fn := fun _ => fun
  | [d1, d2, d3] => { results := [.lit (.bool false)], args := [d1, d2, d3] }
  | _ => none }
def ReqSameWrongFalsely : Prop := reqSameRow.holds Try.pinned (OpenSpec.ofChange reqSameWrong)

/-- 'allotmentlaw18.ReqReads': WHATEVER THE INPUT: true; the input reads as it did. -/
def reqReadsSpec : ChangeSpec := { name := "reqReads", fn := fun _ => fun
  | [d1, d2, d3, d4, d5] => { results := [.lit (.bool true)], args := [d1, d2, d3, d4, d5] }
  | _ => none }
def reqReadsRow : OpenClaim := { program := "ytfckeecfppmepaa", sum := "f4005402ca5150bc2e86903b8d2ac9d124742ebce8de885654fcf618f34ded87", func := "allotment/allotmentlaw18.ReqReads", spec := "reqReads", unfollowed := true, recurses := true, apart := false }
def ReqReadsSaid : Prop := reqReadsRow.holds Try.pinned (OpenSpec.ofChange reqReadsSpec)

/-- ITS FALSE NEIGHBOUR: 'it returns false'. Refute it at one input. -/
def reqReadsWrong : ChangeSpec := { name := "reqReads", fn := fun _ => fun
  | [d1, d2, d3, d4, d5] => { results := [.lit (.bool false)], args := [d1, d2, d3, d4, d5] }
  | _ => none }
def ReqReadsWrongFalsely : Prop := reqReadsRow.holds Try.pinned (OpenSpec.ofChange reqReadsWrong)

/-- 'allotmentlaw18.ReqRound': WHATEVER THE INPUT: true; the input reads as it did. -/
def reqRoundSpec : ChangeSpec := { name := "reqRound", fn := fun _ => fun
  | [d1, d2] => { results := [.lit (.bool true)], args := [d1, d2] }
  | _ => none }
def reqRoundRow : OpenClaim := { program := "ytfckeecfppmepaa", sum := "f4005402ca5150bc2e86903b8d2ac9d124742ebce8de885654fcf618f34ded87", func := "allotment/allotmentlaw18.ReqRound", spec := "reqRound", unfollowed := true, recurses := true, apart := false }
def ReqRoundSaid : Prop := reqRoundRow.holds Try.pinned (OpenSpec.ofChange reqRoundSpec)

/-- ITS FALSE NEIGHBOUR: 'it returns false'. Refute it at one input. -/
def reqRoundWrong : ChangeSpec := { name := "reqRound", fn := fun _ => fun
  | [d1, d2] => { results := [.lit (.bool false)], args := [d1, d2] }
  | _ => none }
def ReqRoundWrongFalsely : Prop := reqRoundRow.holds Try.pinned (OpenSpec.ofChange reqRoundWrong)

/- THE SECOND FORM. 'bulk': how many values and letters a reading holds, each counted each time it is reached (what is shared counts as often as it is met; a slice's spare places count too). A statement '..UptoSaid' is the law's where the arguments, and the package variables that the reading takes, are together of bulk at most 1048576: NARROWER than '..Said'. Prove '..Said' where nothing that the law and all that it calls make is longer than what came in: it says more and counts as full. Else prove '..UptoSaid'. A law counts once. -/
mutual
def uptoBulk {H : Type} : DataW H → Nat
  | .lit (.string bytes) => bytes.length + 1
  | .lit _ => 1
  | .nil => 1
  | .ptr d => uptoBulk d + 1
  | .slice elems spare => uptoBulkAll elems + uptoBulkAll spare + 1
  | .agg parts => uptoBulkAll parts + 1
  | .iface _ d => uptoBulk d + 1
  | .map entries => uptoBulkEntries entries + 1
  | .held _ => 1
def uptoBulkAll {H : Type} : List (DataW H) → Nat
  | [] => 0
  | d :: r => uptoBulk d + uptoBulkAll r
def uptoBulkEntries {H : Type} : List (Lit × DataW H) → Nat
  | [] => 0
  | x :: r => uptoBulkEntry x + uptoBulkEntries r
def uptoBulkEntry {H : Type} : Lit × DataW H → Nat
  | (.string bytes, d) => bytes.length + uptoBulk d + 1
  | (_, d) => uptoBulk d + 1
 end
def uptoSmall : (H : Type) → List (DataW H) → Bool := fun _ ds => decide (uptoBulkAll ds ≤ 1048576)
def OpenSpec.upto (s : _root_.Go.ChangeSpec) : _root_.Go.OpenSpec := { _root_.Go.OpenSpec.ofChange s with cond := some uptoSmall }

/-- 'allotmentlaw01.LayParts', WHERE WHAT IT READS IS OF BULK AT MOST 1048576: true; the input reads as it did. -/
def layPartsUptoRow : OpenClaim := { program := "ytfckeecfppmepaa", sum := "f4005402ca5150bc2e86903b8d2ac9d124742ebce8de885654fcf618f34ded87", func := "allotment/allotmentlaw01.LayParts", spec := "layParts", apart := false, narrowed := true }
def LayPartsUptoSaid : Prop := layPartsUptoRow.holds Try.pinned (OpenSpec.upto layPartsSpec)

/-- 'allotmentlaw01.LayPuts', WHERE WHAT IT READS IS OF BULK AT MOST 1048576: true; the input reads as it did. -/
def layPutsUptoRow : OpenClaim := { program := "ytfckeecfppmepaa", sum := "f4005402ca5150bc2e86903b8d2ac9d124742ebce8de885654fcf618f34ded87", func := "allotment/allotmentlaw01.LayPuts", spec := "layPuts", apart := false, narrowed := true }
def LayPutsUptoSaid : Prop := layPutsUptoRow.holds Try.pinned (OpenSpec.upto layPutsSpec)

/-- 'allotmentlaw01.LayOwns', WHERE WHAT IT READS IS OF BULK AT MOST 1048576: true; the input reads as it did. -/
def layOwnsUptoRow : OpenClaim := { program := "ytfckeecfppmepaa", sum := "f4005402ca5150bc2e86903b8d2ac9d124742ebce8de885654fcf618f34ded87", func := "allotment/allotmentlaw01.LayOwns", spec := "layOwns", apart := false, narrowed := true }
def LayOwnsUptoSaid : Prop := layOwnsUptoRow.holds Try.pinned (OpenSpec.upto layOwnsSpec)

/-- 'allotmentlaw01.LayReads', WHERE WHAT IT READS IS OF BULK AT MOST 1048576: true; the input reads as it did. -/
def layReadsUptoRow : OpenClaim := { program := "ytfckeecfppmepaa", sum := "f4005402ca5150bc2e86903b8d2ac9d124742ebce8de885654fcf618f34ded87", func := "allotment/allotmentlaw01.LayReads", spec := "layReads", apart := false, narrowed := true }
def LayReadsUptoSaid : Prop := layReadsUptoRow.holds Try.pinned (OpenSpec.upto layReadsSpec)

/-- 'allotmentlaw01.LayRound', WHERE WHAT IT READS IS OF BULK AT MOST 1048576: true; the input reads as it did. -/
def layRoundUptoRow : OpenClaim := { program := "ytfckeecfppmepaa", sum := "f4005402ca5150bc2e86903b8d2ac9d124742ebce8de885654fcf618f34ded87", func := "allotment/allotmentlaw01.LayRound", spec := "layRound", apart := false, narrowed := true }
def LayRoundUptoSaid : Prop := layRoundUptoRow.holds Try.pinned (OpenSpec.upto layRoundSpec)

/-- 'allotmentlaw01.LayCuts', WHERE WHAT IT READS IS OF BULK AT MOST 1048576: true; the input reads as it did. -/
def layCutsUptoRow : OpenClaim := { program := "ytfckeecfppmepaa", sum := "f4005402ca5150bc2e86903b8d2ac9d124742ebce8de885654fcf618f34ded87", func := "allotment/allotmentlaw01.LayCuts", spec := "layCuts", apart := false, narrowed := true }
def LayCutsUptoSaid : Prop := layCutsUptoRow.holds Try.pinned (OpenSpec.upto layCutsSpec)

/-- 'allotmentlaw18.ReqChecks', WHERE WHAT IT READS IS OF BULK AT MOST 1048576: true; the input reads as it did. -/
def reqChecksUptoRow : OpenClaim := { program := "ytfckeecfppmepaa", sum := "f4005402ca5150bc2e86903b8d2ac9d124742ebce8de885654fcf618f34ded87", func := "allotment/allotmentlaw18.ReqChecks", spec := "reqChecks", unfollowed := true, recurses := true, apart := false, narrowed := true }
def ReqChecksUptoSaid : Prop := reqChecksUptoRow.holds Try.pinned (OpenSpec.upto reqChecksSpec)

/-- 'allotmentlaw18.ReqNames', WHERE WHAT IT READS IS OF BULK AT MOST 1048576: true; the input reads as it did. -/
def reqNamesUptoRow : OpenClaim := { program := "ytfckeecfppmepaa", sum := "f4005402ca5150bc2e86903b8d2ac9d124742ebce8de885654fcf618f34ded87", func := "allotment/allotmentlaw18.ReqNames", spec := "reqNames", unfollowed := true, recurses := true, apart := false, narrowed := true }
def ReqNamesUptoSaid : Prop := reqNamesUptoRow.holds Try.pinned (OpenSpec.upto reqNamesSpec)

/-- 'allotmentlaw18.ReqSame', WHERE WHAT IT READS IS OF BULK AT MOST 1048576: true; the input reads as it did. -/
def reqSameUptoRow : OpenClaim := { program := "ytfckeecfppmepaa", sum := "f4005402ca5150bc2e86903b8d2ac9d124742ebce8de885654fcf618f34ded87", func := "allotment/allotmentlaw18.ReqSame", spec := "reqSame", unfollowed := true, recurses := true, apart := false, narrowed := true }
def ReqSameUptoSaid : Prop := reqSameUptoRow.holds Try.pinned (OpenSpec.upto reqSameSpec)

/-- 'allotmentlaw18.ReqReads', WHERE WHAT IT READS IS OF BULK AT MOST 1048576: true; the input reads as it did. -/
def reqReadsUptoRow : OpenClaim := { program := "ytfckeecfppmepaa", sum := "f4005402ca5150bc2e86903b8d2ac9d124742ebce8de885654fcf618f34ded87", func := "allotment/allotmentlaw18.ReqReads", spec := "reqReads", unfollowed := true, recurses := true, apart := false, narrowed := true }
def ReqReadsUptoSaid : Prop := reqReadsUptoRow.holds Try.pinned (OpenSpec.upto reqReadsSpec)

/-- 'allotmentlaw18.ReqRound', WHERE WHAT IT READS IS OF BULK AT MOST 1048576: true; the input reads as it did. -/
def reqRoundUptoRow : OpenClaim := { program := "ytfckeecfppmepaa", sum := "f4005402ca5150bc2e86903b8d2ac9d124742ebce8de885654fcf618f34ded87", func := "allotment/allotmentlaw18.ReqRound", spec := "reqRound", unfollowed := true, recurses := true, apart := false, narrowed := true }
def ReqRoundUptoSaid : Prop := reqRoundUptoRow.holds Try.pinned (OpenSpec.upto reqRoundSpec)

end Rows
end Go.Proofs.Ytfckeecfppmepaa
