/-
  No cell of these rows narrows 'for every input' (looked for: loops, veiled, ifaces, maps, wideKeys, modest, calm, conditions, laid).
  DERIVED. THE GIVEN ROWS OF THIS SEAT. 11 by the template 'for every input the law returns true; each argument reads behind the call as it read before'; 0 by the template 'total and deterministic' (their statements: YtefidipfedjpbaaTotals.lean).
  GIVEN WITH THE SEED: the statements are not yours to turn. If you find one false, say at which input.
  Laid BY PROGRAM, IN A SANDBOX (cutbox-rows.mjs): the forced cells as the released guide's own fill.sh prints them over the translation 35291f2c31d7b1f2… (all of the seat's roots in one cut). By AI agents, Wed Nov 11 2026. No macro, syntax, notation, axiom, sorry.
-/
import Derived.Test.YtefidipfedjpbaaChecked
import GoSem.Claim
import GoSem.ClaimJoined
import GoSem.ClaimMapViews
import Derived.JoinedTies
import Derived.KernelRfl
namespace Go.Proofs.Ytefidipfedjpbaa
/- THE CELL 'sum', in the pinned program and in every row, IS THE sha256 OF THE DUMP (.gsa) THAT YtefidipfedjpbaaProg.lean LOADS. Nothing in Lean hashes anything: it is a label: what it is worth is what the hold of that sum in a sandbox is worth. -/
noncomputable def Try.pinned : Pinned := { name := "ytefidipfedjpbaa", sum := "35291f2c31d7b1f2e0fddf3924819372e7fad6cb99827a428116421f01633ef8", checked := Try.checked }
namespace Rows
def none {H : Type} : Left H := { results := [], args := [] }

/-- 'allotmentlaw05.ConfigChecks': WHATEVER THE INPUT: true; the input reads as it did. -/
def configChecksSpec : ChangeSpec := { name := "configChecks", fn := fun _ => fun
  | [d1, d2, d3] => { results := [.lit (.bool true)], args := [d1, d2, d3] }
  | _ => none }
def configChecksRow : OpenClaim := { program := "ytefidipfedjpbaa", sum := "35291f2c31d7b1f2e0fddf3924819372e7fad6cb99827a428116421f01633ef8", func := "allotment/allotmentlaw05.ConfigChecks", spec := "configChecks", apart := false }
def ConfigChecksSaid : Prop := configChecksRow.holds Try.pinned (OpenSpec.ofChange configChecksSpec)

/-- ITS FALSE NEIGHBOUR: 'it returns false'. Refute it at one input. -/
def configChecksWrong : ChangeSpec := { name := "configChecks", fn := fun _ => fun
  | [d1, d2, d3] => { results := [.lit (.bool false)], args := [d1, d2, d3] }
  | _ => none }
def ConfigChecksWrongFalsely : Prop := configChecksRow.holds Try.pinned (OpenSpec.ofChange configChecksWrong)

/-- 'allotmentlaw05.ConfigParts': WHATEVER THE INPUT: true; the input reads as it did. -/
def configPartsSpec : ChangeSpec := { name := "configParts", fn := fun _ => fun
  | [d] => { results := [.lit (.bool true)], args := [d] }
  | _ => none }
def configPartsRow : OpenClaim := { program := "ytefidipfedjpbaa", sum := "35291f2c31d7b1f2e0fddf3924819372e7fad6cb99827a428116421f01633ef8", func := "allotment/allotmentlaw05.ConfigParts", spec := "configParts", apart := false }
def ConfigPartsSaid : Prop := configPartsRow.holds Try.pinned (OpenSpec.ofChange configPartsSpec)

/-- ITS FALSE NEIGHBOUR: 'it returns false'. Refute it at one input. -/
def configPartsWrong : ChangeSpec := { name := "configParts", fn := fun _ => fun
  | [d] => { results := [.lit (.bool false)], args := [d] }
  | _ => none }
def ConfigPartsWrongFalsely : Prop := configPartsRow.holds Try.pinned (OpenSpec.ofChange configPartsWrong)

/-- 'allotmentlaw05.ConfigApart': WHATEVER THE INPUT: true; the input reads as it did. -/
def configApartSpec : ChangeSpec := { name := "configApart", fn := fun _ => fun
  | [d] => { results := [.lit (.bool true)], args := [d] }
  | _ => none }
def configApartRow : OpenClaim := { program := "ytefidipfedjpbaa", sum := "35291f2c31d7b1f2e0fddf3924819372e7fad6cb99827a428116421f01633ef8", func := "allotment/allotmentlaw05.ConfigApart", spec := "configApart", apart := false }
def ConfigApartSaid : Prop := configApartRow.holds Try.pinned (OpenSpec.ofChange configApartSpec)

/-- ITS FALSE NEIGHBOUR: 'it returns false'. Refute it at one input. -/
def configApartWrong : ChangeSpec := { name := "configApart", fn := fun _ => fun
  | [d] => { results := [.lit (.bool false)], args := [d] }
  | _ => none }
def ConfigApartWrongFalsely : Prop := configApartRow.holds Try.pinned (OpenSpec.ofChange configApartWrong)

/-- 'allotmentlaw05.ConfigSum': WHATEVER THE INPUT: true; the input reads as it did. -/
def configSumSpec : ChangeSpec := { name := "configSum", fn := fun _ => fun
  | [d1, d2] => { results := [.lit (.bool true)], args := [d1, d2] }
  | _ => none }
def configSumRow : OpenClaim := { program := "ytefidipfedjpbaa", sum := "35291f2c31d7b1f2e0fddf3924819372e7fad6cb99827a428116421f01633ef8", func := "allotment/allotmentlaw05.ConfigSum", spec := "configSum", apart := false }
def ConfigSumSaid : Prop := configSumRow.holds Try.pinned (OpenSpec.ofChange configSumSpec)

/-- ITS FALSE NEIGHBOUR: 'it returns false'. Refute it at one input. -/
def configSumWrong : ChangeSpec := { name := "configSum", fn := fun _ => fun
  | [d1, d2] => { results := [.lit (.bool false)], args := [d1, d2] }
  | _ => none }
def ConfigSumWrongFalsely : Prop := configSumRow.holds Try.pinned (OpenSpec.ofChange configSumWrong)

/-- 'allotmentlaw05.ConfigFree': WHATEVER THE INPUT: true; the input reads as it did. -/
def configFreeSpec : ChangeSpec := { name := "configFree", fn := fun _ => fun
  | [d] => { results := [.lit (.bool true)], args := [d] }
  | _ => none }
def configFreeRow : OpenClaim := { program := "ytefidipfedjpbaa", sum := "35291f2c31d7b1f2e0fddf3924819372e7fad6cb99827a428116421f01633ef8", func := "allotment/allotmentlaw05.ConfigFree", spec := "configFree", apart := false }
def ConfigFreeSaid : Prop := configFreeRow.holds Try.pinned (OpenSpec.ofChange configFreeSpec)

/-- ITS FALSE NEIGHBOUR: 'it returns false'. Refute it at one input. -/
def configFreeWrong : ChangeSpec := { name := "configFree", fn := fun _ => fun
  | [d] => { results := [.lit (.bool false)], args := [d] }
  | _ => none }
def ConfigFreeWrongFalsely : Prop := configFreeRow.holds Try.pinned (OpenSpec.ofChange configFreeWrong)

/-- 'allotmentlaw05.ConfigSame': WHATEVER THE INPUT: true; the input reads as it did. -/
def configSameSpec : ChangeSpec := { name := "configSame", fn := fun _ => fun
  | [d1, d2, d3, d4] => { results := [.lit (.bool true)], args := [d1, d2, d3, d4] }
  | _ => none }
def configSameRow : OpenClaim := { program := "ytefidipfedjpbaa", sum := "35291f2c31d7b1f2e0fddf3924819372e7fad6cb99827a428116421f01633ef8", func := "allotment/allotmentlaw05.ConfigSame", spec := "configSame", apart := false }
def ConfigSameSaid : Prop := configSameRow.holds Try.pinned (OpenSpec.ofChange configSameSpec)

/-- ITS FALSE NEIGHBOUR: 'it returns false'. Refute it at one input. -/
def configSameWrong : ChangeSpec := { name := "configSame", fn := fun _ => fun
  | [d1, d2, d3, d4] => { results := [.lit (.bool false)], args := [d1, d2, d3, d4] }
  | _ => none }
def ConfigSameWrongFalsely : Prop := configSameRow.holds Try.pinned (OpenSpec.ofChange configSameWrong)

/-- 'allotmentlaw06.SuperMay': WHATEVER THE INPUT: true; the input reads as it did. -/
def superMaySpec : ChangeSpec := { name := "superMay", fn := fun _ => fun
  | [d1, d2] => { results := [.lit (.bool true)], args := [d1, d2] }
  | _ => none }
def superMayRow : OpenClaim := { program := "ytefidipfedjpbaa", sum := "35291f2c31d7b1f2e0fddf3924819372e7fad6cb99827a428116421f01633ef8", func := "allotment/allotmentlaw06.SuperMay", spec := "superMay", apart := false }
def SuperMaySaid : Prop := superMayRow.holds Try.pinned (OpenSpec.ofChange superMaySpec)

/-- ITS FALSE NEIGHBOUR: 'it returns false'. Refute it at one input. -/
def superMayWrong : ChangeSpec := { name := "superMay", fn := fun _ => fun
  | [d1, d2] => { results := [.lit (.bool false)], args := [d1, d2] }
  | _ => none }
def SuperMayWrongFalsely : Prop := superMayRow.holds Try.pinned (OpenSpec.ofChange superMayWrong)

/-- 'allotmentlaw06.SuperSizes': WHATEVER THE INPUT: true; the input reads as it did. -/
def superSizesSpec : ChangeSpec := { name := "superSizes", fn := fun _ => fun
  | [d1, d2] => { results := [.lit (.bool true)], args := [d1, d2] }
  | _ => none }
def superSizesRow : OpenClaim := { program := "ytefidipfedjpbaa", sum := "35291f2c31d7b1f2e0fddf3924819372e7fad6cb99827a428116421f01633ef8", func := "allotment/allotmentlaw06.SuperSizes", spec := "superSizes", apart := false }
def SuperSizesSaid : Prop := superSizesRow.holds Try.pinned (OpenSpec.ofChange superSizesSpec)

/-- ITS FALSE NEIGHBOUR: 'it returns false'. Refute it at one input. -/
def superSizesWrong : ChangeSpec := { name := "superSizes", fn := fun _ => fun
  | [d1, d2] => { results := [.lit (.bool false)], args := [d1, d2] }
  | _ => none }
def SuperSizesWrongFalsely : Prop := superSizesRow.holds Try.pinned (OpenSpec.ofChange superSizesWrong)

/-- 'allotmentlaw06.SuperSame': WHATEVER THE INPUT: true; the input reads as it did. -/
def superSameSpec : ChangeSpec := { name := "superSame", fn := fun _ => fun
  | [d1, d2, d3, d4] => { results := [.lit (.bool true)], args := [d1, d2, d3, d4] }
  | _ => none }
def superSameRow : OpenClaim := { program := "ytefidipfedjpbaa", sum := "35291f2c31d7b1f2e0fddf3924819372e7fad6cb99827a428116421f01633ef8", func := "allotment/allotmentlaw06.SuperSame", spec := "superSame", apart := false }
def SuperSameSaid : Prop := superSameRow.holds Try.pinned (OpenSpec.ofChange superSameSpec)

/-- ITS FALSE NEIGHBOUR: 'it returns false'. Refute it at one input. -/
def superSameWrong : ChangeSpec := { name := "superSame", fn := fun _ => fun
  | [d1, d2, d3, d4] => { results := [.lit (.bool false)], args := [d1, d2, d3, d4] }
  | _ => none }
def SuperSameWrongFalsely : Prop := superSameRow.holds Try.pinned (OpenSpec.ofChange superSameWrong)

/-- 'allotmentlaw06.SuperNext': WHATEVER THE INPUT: true; the input reads as it did. -/
def superNextSpec : ChangeSpec := { name := "superNext", fn := fun _ => fun
  | [d1, d2] => { results := [.lit (.bool true)], args := [d1, d2] }
  | _ => none }
def superNextRow : OpenClaim := { program := "ytefidipfedjpbaa", sum := "35291f2c31d7b1f2e0fddf3924819372e7fad6cb99827a428116421f01633ef8", func := "allotment/allotmentlaw06.SuperNext", spec := "superNext", apart := false }
def SuperNextSaid : Prop := superNextRow.holds Try.pinned (OpenSpec.ofChange superNextSpec)

/-- ITS FALSE NEIGHBOUR: 'it returns false'. Refute it at one input. -/
def superNextWrong : ChangeSpec := { name := "superNext", fn := fun _ => fun
  | [d1, d2] => { results := [.lit (.bool false)], args := [d1, d2] }
  | _ => none }
def SuperNextWrongFalsely : Prop := superNextRow.holds Try.pinned (OpenSpec.ofChange superNextWrong)

/-- 'allotmentlaw06.SuperRound': WHATEVER THE INPUT: true; the input reads as it did. -/
def superRoundSpec : ChangeSpec := { name := "superRound", fn := fun _ => fun
  | [d1, d2, d3, d4] => { results := [.lit (.bool true)], args := [d1, d2, d3, d4] }
  | _ => none }
def superRoundRow : OpenClaim := { program := "ytefidipfedjpbaa", sum := "35291f2c31d7b1f2e0fddf3924819372e7fad6cb99827a428116421f01633ef8", func := "allotment/allotmentlaw06.SuperRound", spec := "superRound", apart := false }
def SuperRoundSaid : Prop := superRoundRow.holds Try.pinned (OpenSpec.ofChange superRoundSpec)

/-- ITS FALSE NEIGHBOUR: 'it returns false'. Refute it at one input. -/
def superRoundWrong : ChangeSpec := { name := "superRound", fn := fun _ => fun
  | [d1, d2, d3, d4] => { results := [.lit (.bool false)], args := [d1, d2, d3, d4] }
  | _ => none }
def SuperRoundWrongFalsely : Prop := superRoundRow.holds Try.pinned (OpenSpec.ofChange superRoundWrong)

/- THE SECOND FORM. 'bulk': how many values and letters a reading holds, each counted each time it is reached (what is shared counts as often as it is met; a slice's spare places count too). A statement '..UptoSaid' is the law's where the arguments, and the package variables that the reading takes, are together of bulk at most 1048576: NARROWER than '..Said'. Prove '..Said' where nothing that the law and all that it calls make is longer than what came in: it says more and counts as full. Else prove '..UptoSaid'. A law counts once. -/
mutual
def uptoBulk {H : Type} : DataW H → Nat
  | .lit (.string bytes) => bytes.length + 1
  | .lit _ => 1
  | .nil => 1
  | .ptr d => uptoBulk d + 1
  | .slice elems spare => uptoBulkAll elems + uptoBulkAll spare + 1
  | .agg parts => uptoBulkAll parts + 1
  | .iface _ d => uptoBulk d + 1
  | .map entries => uptoBulkEntries entries + 1
  | .held _ => 1
def uptoBulkAll {H : Type} : List (DataW H) → Nat
  | [] => 0
  | d :: r => uptoBulk d + uptoBulkAll r
def uptoBulkEntries {H : Type} : List (Lit × DataW H) → Nat
  | [] => 0
  | x :: r => uptoBulkEntry x + uptoBulkEntries r
def uptoBulkEntry {H : Type} : Lit × DataW H → Nat
  | (.string bytes, d) => bytes.length + uptoBulk d + 1
  | (_, d) => uptoBulk d + 1
 end
def uptoSmall : (H : Type) → List (DataW H) → Bool := fun _ ds => decide (uptoBulkAll ds ≤ 1048576)
def OpenSpec.upto (s : _root_.Go.ChangeSpec) : _root_.Go.OpenSpec := { _root_.Go.OpenSpec.ofChange s with cond := some uptoSmall }

/-- 'allotmentlaw05.ConfigChecks', WHERE WHAT IT READS IS OF BULK AT MOST 1048576: true; the input reads as it did. -/
def configChecksUptoRow : OpenClaim := { program := "ytefidipfedjpbaa", sum := "35291f2c31d7b1f2e0fddf3924819372e7fad6cb99827a428116421f01633ef8", func := "allotment/allotmentlaw05.ConfigChecks", spec := "configChecks", apart := false, narrowed := true }
def ConfigChecksUptoSaid : Prop := configChecksUptoRow.holds Try.pinned (OpenSpec.upto configChecksSpec)

/-- 'allotmentlaw05.ConfigParts', WHERE WHAT IT READS IS OF BULK AT MOST 1048576: true; the input reads as it did. -/
def configPartsUptoRow : OpenClaim := { program := "ytefidipfedjpbaa", sum := "35291f2c31d7b1f2e0fddf3924819372e7fad6cb99827a428116421f01633ef8", func := "allotment/allotmentlaw05.ConfigParts", spec := "configParts", apart := false, narrowed := true }
def ConfigPartsUptoSaid : Prop := configPartsUptoRow.holds Try.pinned (OpenSpec.upto configPartsSpec)

/-- 'allotmentlaw05.ConfigApart', WHERE WHAT IT READS IS OF BULK AT MOST 1048576: true; the input reads as it did. -/
def configApartUptoRow : OpenClaim := { program := "ytefidipfedjpbaa", sum := "35291f2c31d7b1f2e0fddf3924819372e7fad6cb99827a428116421f01633ef8", func := "allotment/allotmentlaw05.ConfigApart", spec := "configApart", apart := false, narrowed := true }
def ConfigApartUptoSaid : Prop := configApartUptoRow.holds Try.pinned (OpenSpec.upto configApartSpec)

/-- 'allotmentlaw05.ConfigSum', WHERE WHAT IT READS IS OF BULK AT MOST 1048576: true; the input reads as it did. -/
def configSumUptoRow : OpenClaim := { program := "ytefidipfedjpbaa", sum := "35291f2c31d7b1f2e0fddf3924819372e7fad6cb99827a428116421f01633ef8", func := "allotment/allotmentlaw05.ConfigSum", spec := "configSum", apart := false, narrowed := true }
def ConfigSumUptoSaid : Prop := configSumUptoRow.holds Try.pinned (OpenSpec.upto configSumSpec)

/-- 'allotmentlaw05.ConfigFree', WHERE WHAT IT READS IS OF BULK AT MOST 1048576: true; the input reads as it did. -/
def configFreeUptoRow : OpenClaim := { program := "ytefidipfedjpbaa", sum := "35291f2c31d7b1f2e0fddf3924819372e7fad6cb99827a428116421f01633ef8", func := "allotment/allotmentlaw05.ConfigFree", spec := "configFree", apart := false, narrowed := true }
def ConfigFreeUptoSaid : Prop := configFreeUptoRow.holds Try.pinned (OpenSpec.upto configFreeSpec)

/-- 'allotmentlaw05.ConfigSame', WHERE WHAT IT READS IS OF BULK AT MOST 1048576: true; the input reads as it did. -/
def configSameUptoRow : OpenClaim := { program := "ytefidipfedjpbaa", sum := "35291f2c31d7b1f2e0fddf3924819372e7fad6cb99827a428116421f01633ef8", func := "allotment/allotmentlaw05.ConfigSame", spec := "configSame", apart := false, narrowed := true }
def ConfigSameUptoSaid : Prop := configSameUptoRow.holds Try.pinned (OpenSpec.upto configSameSpec)

/-- 'allotmentlaw06.SuperMay', WHERE WHAT IT READS IS OF BULK AT MOST 1048576: true; the input reads as it did. -/
def superMayUptoRow : OpenClaim := { program := "ytefidipfedjpbaa", sum := "35291f2c31d7b1f2e0fddf3924819372e7fad6cb99827a428116421f01633ef8", func := "allotment/allotmentlaw06.SuperMay", spec := "superMay", apart := false, narrowed := true }
def SuperMayUptoSaid : Prop := superMayUptoRow.holds Try.pinned (OpenSpec.upto superMaySpec)

/-- 'allotmentlaw06.SuperSizes', WHERE WHAT IT READS IS OF BULK AT MOST 1048576: true; the input reads as it did. -/
def superSizesUptoRow : OpenClaim := { program := "ytefidipfedjpbaa", sum := "35291f2c31d7b1f2e0fddf3924819372e7fad6cb99827a428116421f01633ef8", func := "allotment/allotmentlaw06.SuperSizes", spec := "superSizes", apart := false, narrowed := true }
def SuperSizesUptoSaid : Prop := superSizesUptoRow.holds Try.pinned (OpenSpec.upto superSizesSpec)

/-- 'allotmentlaw06.SuperSame', WHERE WHAT IT READS IS OF BULK AT MOST 1048576: true; the input reads as it did. -/
def superSameUptoRow : OpenClaim := { program := "ytefidipfedjpbaa", sum := "35291f2c31d7b1f2e0fddf3924819372e7fad6cb99827a428116421f01633ef8", func := "allotment/allotmentlaw06.SuperSame", spec := "superSame", apart := false, narrowed := true }
def SuperSameUptoSaid : Prop := superSameUptoRow.holds Try.pinned (OpenSpec.upto superSameSpec)

/-- 'allotmentlaw06.SuperNext', WHERE WHAT IT READS IS OF BULK AT MOST 1048576: true; the input reads as it did. -/
def superNextUptoRow : OpenClaim := { program := "ytefidipfedjpbaa", sum := "35291f2c31d7b1f2e0fddf3924819372e7fad6cb99827a428116421f01633ef8", func := "allotment/allotmentlaw06.SuperNext", spec := "superNext", apart := false, narrowed := true }
def SuperNextUptoSaid : Prop := superNextUptoRow.holds Try.pinned (OpenSpec.upto superNextSpec)

/-- 'allotmentlaw06.SuperRound', WHERE WHAT IT READS IS OF BULK AT MOST 1048576: true; the input reads as it did. -/
def superRoundUptoRow : OpenClaim := { program := "ytefidipfedjpbaa", sum := "35291f2c31d7b1f2e0fddf3924819372e7fad6cb99827a428116421f01633ef8", func := "allotment/allotmentlaw06.SuperRound", spec := "superRound", apart := false, narrowed := true }
def SuperRoundUptoSaid : Prop := superRoundUptoRow.holds Try.pinned (OpenSpec.upto superRoundSpec)

end Rows
end Go.Proofs.Ytefidipfedjpbaa
