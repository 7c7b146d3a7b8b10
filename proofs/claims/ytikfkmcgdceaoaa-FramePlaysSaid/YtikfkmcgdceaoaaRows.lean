/-
  No cell of these rows narrows 'for every input' (looked for: loops, veiled, ifaces, maps, wideKeys, modest, calm, conditions, laid).
  DERIVED. THE GIVEN ROWS OF THIS SEAT. 12 by the template 'for every input the law returns true; each argument reads behind the call as it read before'; 0 by the template 'total and deterministic' (their statements: YtikfkmcgdceaoaaTotals.lean).
  GIVEN WITH THE SEED: the statements are not yours to turn. If you find one false, say at which input.
  Laid BY PROGRAM, IN A SANDBOX (cutbox-rows.mjs): the forced cells as the released guide's own fill.sh prints them over the translation 3e0bd48a4f130e84… (all of the seat's roots in one cut). By AI agents, Wed Nov 11 2026. No macro, syntax, notation, axiom, sorry.
-/
import Derived.Test.YtikfkmcgdceaoaaChecked
import GoSem.Claim
import GoSem.ClaimJoined
import GoSem.ClaimMapViews
import Derived.JoinedTies
import Derived.KernelRfl
namespace Go.Proofs.Ytikfkmcgdceaoaa
/- THE CELL 'sum', in the pinned program and in every row, IS THE sha256 OF THE DUMP (.gsa) THAT YtikfkmcgdceaoaaProg.lean LOADS. Nothing in Lean hashes anything: it is a label: what it is worth is what the hold of that sum in a sandbox is worth. -/
noncomputable def Try.pinned : Pinned := { name := "ytikfkmcgdceaoaa", sum := "3e0bd48a4f130e8418d83b2a9c9a034f624ee14b1e5119e3aa04eb9703611677", checked := Try.checked }
namespace Rows
def none {H : Type} : Left H := { results := [], args := [] }

/-- 'allotmentlaw12.FramePins': WHATEVER THE INPUT: true; the input reads as it did. -/
def framePinsSpec : ChangeSpec := { name := "framePins", fn := fun _ => fun
  | [d1, d2] => { results := [.lit (.bool true)], args := [d1, d2] }
  | _ => none }
def framePinsRow : OpenClaim := { program := "ytikfkmcgdceaoaa", sum := "3e0bd48a4f130e8418d83b2a9c9a034f624ee14b1e5119e3aa04eb9703611677", func := "allotment/allotmentlaw12.FramePins", spec := "framePins", apart := false }
def FramePinsSaid : Prop := framePinsRow.holds Try.pinned (OpenSpec.ofChange framePinsSpec)

/-- ITS FALSE NEIGHBOUR: 'it returns false'. Refute it at one input. -/
def framePinsWrong : ChangeSpec := { name := "framePins", fn := fun _ => fun
  | [d1, d2] => { results := [.lit (.bool false)], args := [d1, d2] }
  | _ => none }
def FramePinsWrongFalsely : Prop := framePinsRow.holds Try.pinned (OpenSpec.ofChange framePinsWrong)

/-- 'allotmentlaw12.FrameOwns': WHATEVER THE INPUT: true; the input reads as it did. -/
def frameOwnsSpec : ChangeSpec := { name := "frameOwns", fn := fun _ => fun
  | [d1, d2] => { results := [.lit (.bool true)], args := [d1, d2] }
  | _ => none }
def frameOwnsRow : OpenClaim := { program := "ytikfkmcgdceaoaa", sum := "3e0bd48a4f130e8418d83b2a9c9a034f624ee14b1e5119e3aa04eb9703611677", func := "allotment/allotmentlaw12.FrameOwns", spec := "frameOwns", apart := false }
def FrameOwnsSaid : Prop := frameOwnsRow.holds Try.pinned (OpenSpec.ofChange frameOwnsSpec)

/-- ITS FALSE NEIGHBOUR: 'it returns false'. Refute it at one input. -/
def frameOwnsWrong : ChangeSpec := { name := "frameOwns", fn := fun _ => fun
  | [d1, d2] => { results := [.lit (.bool false)], args := [d1, d2] }
  | _ => none }
def FrameOwnsWrongFalsely : Prop := frameOwnsRow.holds Try.pinned (OpenSpec.ofChange frameOwnsWrong)

/-- 'allotmentlaw12.FrameKeeps': WHATEVER THE INPUT: true; the input reads as it did. -/
def frameKeepsSpec : ChangeSpec := { name := "frameKeeps", fn := fun _ => fun
  | [d1, d2, d3] => { results := [.lit (.bool true)], args := [d1, d2, d3] }
  | _ => none }
def frameKeepsRow : OpenClaim := { program := "ytikfkmcgdceaoaa", sum := "3e0bd48a4f130e8418d83b2a9c9a034f624ee14b1e5119e3aa04eb9703611677", func := "allotment/allotmentlaw12.FrameKeeps", spec := "frameKeeps", apart := false }
def FrameKeepsSaid : Prop := frameKeepsRow.holds Try.pinned (OpenSpec.ofChange frameKeepsSpec)

/-- ITS FALSE NEIGHBOUR: 'it returns false'. Refute it at one input. -/
def frameKeepsWrong : ChangeSpec := { name := "frameKeeps", fn := fun _ => fun
  | [d1, d2, d3] => { results := [.lit (.bool false)], args := [d1, d2, d3] }
  | _ => none }
def FrameKeepsWrongFalsely : Prop := frameKeepsRow.holds Try.pinned (OpenSpec.ofChange frameKeepsWrong)

/-- 'allotmentlaw12.FrameUnpinned': WHATEVER THE INPUT: true; the input reads as it did. -/
def frameUnpinnedSpec : ChangeSpec := { name := "frameUnpinned", fn := fun _ => fun
  | [d1, d2, d3, d4] => { results := [.lit (.bool true)], args := [d1, d2, d3, d4] }
  | _ => none }
def frameUnpinnedRow : OpenClaim := { program := "ytikfkmcgdceaoaa", sum := "3e0bd48a4f130e8418d83b2a9c9a034f624ee14b1e5119e3aa04eb9703611677", func := "allotment/allotmentlaw12.FrameUnpinned", spec := "frameUnpinned", apart := false }
def FrameUnpinnedSaid : Prop := frameUnpinnedRow.holds Try.pinned (OpenSpec.ofChange frameUnpinnedSpec)

/-- ITS FALSE NEIGHBOUR: 'it returns false'. Refute it at one input. -/
def frameUnpinnedWrong : ChangeSpec := { name := "frameUnpinned", fn := fun _ => fun
  | [d1, d2, d3, d4] => { results := [.lit (.bool false)], args := [d1, d2, d3, d4] }
  | _ => none }
def FrameUnpinnedWrongFalsely : Prop := frameUnpinnedRow.holds Try.pinned (OpenSpec.ofChange frameUnpinnedWrong)

/-- 'allotmentlaw12.FramePlays': WHATEVER THE INPUT: true; the input reads as it did. -/
def framePlaysSpec : ChangeSpec := { name := "framePlays", fn := fun _ => fun
  | [d] => { results := [.lit (.bool true)], args := [d] }
  | _ => none }
def framePlaysRow : OpenClaim := { program := "ytikfkmcgdceaoaa", sum := "3e0bd48a4f130e8418d83b2a9c9a034f624ee14b1e5119e3aa04eb9703611677", func := "allotment/allotmentlaw12.FramePlays", spec := "framePlays", apart := false }
def FramePlaysSaid : Prop := framePlaysRow.holds Try.pinned (OpenSpec.ofChange framePlaysSpec)

/-- ITS FALSE NEIGHBOUR: 'it returns false'. Refute it at one input. -/
def framePlaysWrong : ChangeSpec := { name := "framePlays", fn := fun _ => fun
  | [d] => { results := [.lit (.bool false)], args := [d] }
  | _ => none }
def FramePlaysWrongFalsely : Prop := framePlaysRow.holds Try.pinned (OpenSpec.ofChange framePlaysWrong)

/-- 'allotmentlaw12.FrameZero': WHATEVER THE INPUT: true; the input reads as it did. -/
def frameZeroSpec : ChangeSpec := { name := "frameZero", fn := fun _ => fun
  | [d1, d2, d3] => { results := [.lit (.bool true)], args := [d1, d2, d3] }
  | _ => none }
def frameZeroRow : OpenClaim := { program := "ytikfkmcgdceaoaa", sum := "3e0bd48a4f130e8418d83b2a9c9a034f624ee14b1e5119e3aa04eb9703611677", func := "allotment/allotmentlaw12.FrameZero", spec := "frameZero", apart := false }
def FrameZeroSaid : Prop := frameZeroRow.holds Try.pinned (OpenSpec.ofChange frameZeroSpec)

/-- ITS FALSE NEIGHBOUR: 'it returns false'. Refute it at one input. -/
def frameZeroWrong : ChangeSpec := { name := "frameZero", fn := fun _ => fun
  | [d1, d2, d3] => { results := [.lit (.bool false)], args := [d1, d2, d3] }
  | _ => none }
def FrameZeroWrongFalsely : Prop := frameZeroRow.holds Try.pinned (OpenSpec.ofChange frameZeroWrong)

/-- 'allotmentlaw13.ClockFinds': WHATEVER THE INPUT: true; the input reads as it did. -/
def clockFindsSpec : ChangeSpec := { name := "clockFinds", fn := fun _ => fun
  | [d1, d2] => { results := [.lit (.bool true)], args := [d1, d2] }
  | _ => none }
def clockFindsRow : OpenClaim := { program := "ytikfkmcgdceaoaa", sum := "3e0bd48a4f130e8418d83b2a9c9a034f624ee14b1e5119e3aa04eb9703611677", func := "allotment/allotmentlaw13.ClockFinds", spec := "clockFinds", unfollowed := true, recurses := true, apart := false }
def ClockFindsSaid : Prop := clockFindsRow.holds Try.pinned (OpenSpec.ofChange clockFindsSpec)

/-- ITS FALSE NEIGHBOUR: 'it returns false'. Refute it at one input. -/
def clockFindsWrong : ChangeSpec := { name := "clockFinds", fn := fun _ => fun
  | [d1, d2] => { results := [.lit (.bool false)], args := [d1, d2] }
  | _ => none }
def ClockFindsWrongFalsely : Prop := clockFindsRow.holds Try.pinned (OpenSpec.ofChange clockFindsWrong)

/-- 'allotmentlaw13.ClockSpares': WHATEVER THE INPUT: true; the input reads as it did. -/
def clockSparesSpec : ChangeSpec := { name := "clockSpares", fn := fun _ => fun
  | [d1, d2] => { results := [.lit (.bool true)], args := [d1, d2] }
  | _ => none }
def clockSparesRow : OpenClaim := { program := "ytikfkmcgdceaoaa", sum := "3e0bd48a4f130e8418d83b2a9c9a034f624ee14b1e5119e3aa04eb9703611677", func := "allotment/allotmentlaw13.ClockSpares", spec := "clockSpares", unfollowed := true, recurses := true, apart := false }
def ClockSparesSaid : Prop := clockSparesRow.holds Try.pinned (OpenSpec.ofChange clockSparesSpec)

/-- ITS FALSE NEIGHBOUR: 'it returns false'. Refute it at one input. -/
def clockSparesWrong : ChangeSpec := { name := "clockSpares", fn := fun _ => fun
  | [d1, d2] => { results := [.lit (.bool false)], args := [d1, d2] }
  | _ => none }
def ClockSparesWrongFalsely : Prop := clockSparesRow.holds Try.pinned (OpenSpec.ofChange clockSparesWrong)

/-- 'allotmentlaw13.ClockTouches': WHATEVER THE INPUT: true; the input reads as it did. -/
def clockTouchesSpec : ChangeSpec := { name := "clockTouches", fn := fun _ => fun
  | [d1, d2] => { results := [.lit (.bool true)], args := [d1, d2] }
  | _ => none }
def clockTouchesRow : OpenClaim := { program := "ytikfkmcgdceaoaa", sum := "3e0bd48a4f130e8418d83b2a9c9a034f624ee14b1e5119e3aa04eb9703611677", func := "allotment/allotmentlaw13.ClockTouches", spec := "clockTouches", unfollowed := true, recurses := true, apart := false }
def ClockTouchesSaid : Prop := clockTouchesRow.holds Try.pinned (OpenSpec.ofChange clockTouchesSpec)

/-- ITS FALSE NEIGHBOUR: 'it returns false'. Refute it at one input. -/
def clockTouchesWrong : ChangeSpec := { name := "clockTouches", fn := fun _ => fun
  | [d1, d2] => { results := [.lit (.bool false)], args := [d1, d2] }
  | _ => none }
def ClockTouchesWrongFalsely : Prop := clockTouchesRow.holds Try.pinned (OpenSpec.ofChange clockTouchesWrong)

/-- 'allotmentlaw13.ClockRounds': WHATEVER THE INPUT: true; the input reads as it did. -/
def clockRoundsSpec : ChangeSpec := { name := "clockRounds", fn := fun _ => fun
  | [d1, d2] => { results := [.lit (.bool true)], args := [d1, d2] }
  | _ => none }
def clockRoundsRow : OpenClaim := { program := "ytikfkmcgdceaoaa", sum := "3e0bd48a4f130e8418d83b2a9c9a034f624ee14b1e5119e3aa04eb9703611677", func := "allotment/allotmentlaw13.ClockRounds", spec := "clockRounds", unfollowed := true, recurses := true, apart := false }
def ClockRoundsSaid : Prop := clockRoundsRow.holds Try.pinned (OpenSpec.ofChange clockRoundsSpec)

/-- ITS FALSE NEIGHBOUR: 'it returns false'. Refute it at one input. -/
def clockRoundsWrong : ChangeSpec := { name := "clockRounds", fn := fun _ => fun
  | [d1, d2] => { results := [.lit (.bool false)], args := [d1, d2] }
  | _ => none }
def ClockRoundsWrongFalsely : Prop := clockRoundsRow.holds Try.pinned (OpenSpec.ofChange clockRoundsWrong)

/-- 'allotmentlaw13.ClockSecond': WHATEVER THE INPUT: true; the input reads as it did. -/
def clockSecondSpec : ChangeSpec := { name := "clockSecond", fn := fun _ => fun
  | [d1, d2] => { results := [.lit (.bool true)], args := [d1, d2] }
  | _ => none }
def clockSecondRow : OpenClaim := { program := "ytikfkmcgdceaoaa", sum := "3e0bd48a4f130e8418d83b2a9c9a034f624ee14b1e5119e3aa04eb9703611677", func := "allotment/allotmentlaw13.ClockSecond", spec := "clockSecond", unfollowed := true, recurses := true, apart := false }
def ClockSecondSaid : Prop := clockSecondRow.holds Try.pinned (OpenSpec.ofChange clockSecondSpec)

/-- ITS FALSE NEIGHBOUR: 'it returns false'. Refute it at one input. -/
def clockSecondWrong : ChangeSpec := { name := "clockSecond", fn := fun _ => fun
  | [d1, d2] => { results := [.lit (.bool false)], args := [d1, d2] }
  | _ => none }
def ClockSecondWrongFalsely : Prop := clockSecondRow.holds Try.pinned (OpenSpec.ofChange clockSecondWrong)

/-- 'allotmentlaw13.ClockTurns': WHATEVER THE INPUT: true; the input reads as it did. -/
def clockTurnsSpec : ChangeSpec := { name := "clockTurns", fn := fun _ => fun
  | [d1, d2] => { results := [.lit (.bool true)], args := [d1, d2] }
  | _ => none }
def clockTurnsRow : OpenClaim := { program := "ytikfkmcgdceaoaa", sum := "3e0bd48a4f130e8418d83b2a9c9a034f624ee14b1e5119e3aa04eb9703611677", func := "allotment/allotmentlaw13.ClockTurns", spec := "clockTurns", unfollowed := true, recurses := true, apart := false }
def ClockTurnsSaid : Prop := clockTurnsRow.holds Try.pinned (OpenSpec.ofChange clockTurnsSpec)

/-- ITS FALSE NEIGHBOUR: 'it returns false'. Refute it at one input. -/
def clockTurnsWrong : ChangeSpec := { name := "clockTurns", fn := fun _ => fun
  | [d1, d2] => { results := [.lit (.bool false)], args := [d1, d2] }
  | _ => none }
def ClockTurnsWrongFalsely : Prop := clockTurnsRow.holds Try.pinned (OpenSpec.ofChange clockTurnsWrong)

/- THE SECOND FORM. 'bulk': how many values and letters a reading holds, each counted each time it is reached (what is shared counts as often as it is met; a slice's spare places count too). A statement '..UptoSaid' is the law's where the arguments, and the package variables that the reading takes, are together of bulk at most 1048576: NARROWER than '..Said'. Prove '..Said' where nothing that the law and all that it calls make is longer than what came in: it says more and counts as full. Else prove '..UptoSaid'. A law counts once. -/
mutual
def uptoBulk {H : Type} : DataW H → Nat
  | .lit (.string bytes) => bytes.length + 1
  | .lit _ => 1
  | .nil => 1
  | .ptr d => uptoBulk d + 1
  | .slice elems spare => uptoBulkAll elems + uptoBulkAll spare + 1
  | .agg parts => uptoBulkAll parts + 1
  | .iface _ d => uptoBulk d + 1
  | .map entries => uptoBulkEntries entries + 1
  | .held _ => 1
def uptoBulkAll {H : Type} : List (DataW H) → Nat
  | [] => 0
  | d :: r => uptoBulk d + uptoBulkAll r
def uptoBulkEntries {H : Type} : List (Lit × DataW H) → Nat
  | [] => 0
  | x :: r => uptoBulkEntry x + uptoBulkEntries r
def uptoBulkEntry {H : Type} : Lit × DataW H → Nat
  | (.string bytes, d) => bytes.length + uptoBulk d + 1
  | (_, d) => uptoBulk d + 1
 end
def uptoSmall : (H : Type) → List (DataW H) → Bool := fun _ ds => decide (uptoBulkAll ds ≤ 1048576)
def OpenSpec.upto (s : _root_.Go.ChangeSpec) : _root_.Go.OpenSpec := { _root_.Go.OpenSpec.ofChange s with cond := some uptoSmall }

/-- 'allotmentlaw12.FramePins', WHERE WHAT IT READS IS OF BULK AT MOST 1048576: true; the input reads as it did. -/
def framePinsUptoRow : OpenClaim := { program := "ytikfkmcgdceaoaa", sum := "3e0bd48a4f130e8418d83b2a9c9a034f624ee14b1e5119e3aa04eb9703611677", func := "allotment/allotmentlaw12.FramePins", spec := "framePins", apart := false, narrowed := true }
def FramePinsUptoSaid : Prop := framePinsUptoRow.holds Try.pinned (OpenSpec.upto framePinsSpec)

/-- 'allotmentlaw12.FrameOwns', WHERE WHAT IT READS IS OF BULK AT MOST 1048576: true; the input reads as it did. -/
def frameOwnsUptoRow : OpenClaim := { program := "ytikfkmcgdceaoaa", sum := "3e0bd48a4f130e8418d83b2a9c9a034f624ee14b1e5119e3aa04eb9703611677", func := "allotment/allotmentlaw12.FrameOwns", spec := "frameOwns", apart := false, narrowed := true }
def FrameOwnsUptoSaid : Prop := frameOwnsUptoRow.holds Try.pinned (OpenSpec.upto frameOwnsSpec)

/-- 'allotmentlaw12.FrameKeeps', WHERE WHAT IT READS IS OF BULK AT MOST 1048576: true; the input reads as it did. -/
def frameKeepsUptoRow : OpenClaim := { program := "ytikfkmcgdceaoaa", sum := "3e0bd48a4f130e8418d83b2a9c9a034f624ee14b1e5119e3aa04eb9703611677", func := "allotment/allotmentlaw12.FrameKeeps", spec := "frameKeeps", apart := false, narrowed := true }
def FrameKeepsUptoSaid : Prop := frameKeepsUptoRow.holds Try.pinned (OpenSpec.upto frameKeepsSpec)

/-- 'allotmentlaw12.FrameUnpinned', WHERE WHAT IT READS IS OF BULK AT MOST 1048576: true; the input reads as it did. -/
def frameUnpinnedUptoRow : OpenClaim := { program := "ytikfkmcgdceaoaa", sum := "3e0bd48a4f130e8418d83b2a9c9a034f624ee14b1e5119e3aa04eb9703611677", func := "allotment/allotmentlaw12.FrameUnpinned", spec := "frameUnpinned", apart := false, narrowed := true }
def FrameUnpinnedUptoSaid : Prop := frameUnpinnedUptoRow.holds Try.pinned (OpenSpec.upto frameUnpinnedSpec)

/-- 'allotmentlaw12.FramePlays', WHERE WHAT IT READS IS OF BULK AT MOST 1048576: true; the input reads as it did. -/
def framePlaysUptoRow : OpenClaim := { program := "ytikfkmcgdceaoaa", sum := "3e0bd48a4f130e8418d83b2a9c9a034f624ee14b1e5119e3aa04eb9703611677", func := "allotment/allotmentlaw12.FramePlays", spec := "framePlays", apart := false, narrowed := true }
def FramePlaysUptoSaid : Prop := framePlaysUptoRow.holds Try.pinned (OpenSpec.upto framePlaysSpec)

/-- 'allotmentlaw12.FrameZero', WHERE WHAT IT READS IS OF BULK AT MOST 1048576: true; the input reads as it did. -/
def frameZeroUptoRow : OpenClaim := { program := "ytikfkmcgdceaoaa", sum := "3e0bd48a4f130e8418d83b2a9c9a034f624ee14b1e5119e3aa04eb9703611677", func := "allotment/allotmentlaw12.FrameZero", spec := "frameZero", apart := false, narrowed := true }
def FrameZeroUptoSaid : Prop := frameZeroUptoRow.holds Try.pinned (OpenSpec.upto frameZeroSpec)

/-- 'allotmentlaw13.ClockFinds', WHERE WHAT IT READS IS OF BULK AT MOST 1048576: true; the input reads as it did. -/
def clockFindsUptoRow : OpenClaim := { program := "ytikfkmcgdceaoaa", sum := "3e0bd48a4f130e8418d83b2a9c9a034f624ee14b1e5119e3aa04eb9703611677", func := "allotment/allotmentlaw13.ClockFinds", spec := "clockFinds", unfollowed := true, recurses := true, apart := false, narrowed := true }
def ClockFindsUptoSaid : Prop := clockFindsUptoRow.holds Try.pinned (OpenSpec.upto clockFindsSpec)

/-- 'allotmentlaw13.ClockSpares', WHERE WHAT IT READS IS OF BULK AT MOST 1048576: true; the input reads as it did. -/
def clockSparesUptoRow : OpenClaim := { program := "ytikfkmcgdceaoaa", sum := "3e0bd48a4f130e8418d83b2a9c9a034f624ee14b1e5119e3aa04eb9703611677", func := "allotment/allotmentlaw13.ClockSpares", spec := "clockSpares", unfollowed := true, recurses := true, apart := false, narrowed := true }
def ClockSparesUptoSaid : Prop := clockSparesUptoRow.holds Try.pinned (OpenSpec.upto clockSparesSpec)

/-- 'allotmentlaw13.ClockTouches', WHERE WHAT IT READS IS OF BULK AT MOST 1048576: true; the input reads as it did. -/
def clockTouchesUptoRow : OpenClaim := { program := "ytikfkmcgdceaoaa", sum := "3e0bd48a4f130e8418d83b2a9c9a034f624ee14b1e5119e3aa04eb9703611677", func := "allotment/allotmentlaw13.ClockTouches", spec := "clockTouches", unfollowed := true, recurses := true, apart := false, narrowed := true }
def ClockTouchesUptoSaid : Prop := clockTouchesUptoRow.holds Try.pinned (OpenSpec.upto clockTouchesSpec)

/-- 'allotmentlaw13.ClockRounds', WHERE WHAT IT READS IS OF BULK AT MOST 1048576: true; the input reads as it did. -/
def clockRoundsUptoRow : OpenClaim := { program := "ytikfkmcgdceaoaa", sum := "3e0bd48a4f130e8418d83b2a9c9a034f624ee14b1e5119e3aa04eb9703611677", func := "allotment/allotmentlaw13.ClockRounds", spec := "clockRounds", unfollowed := true, recurses := true, apart := false, narrowed := true }
def ClockRoundsUptoSaid : Prop := clockRoundsUptoRow.holds Try.pinned (OpenSpec.upto clockRoundsSpec)

/-- 'allotmentlaw13.ClockSecond', WHERE WHAT IT READS IS OF BULK AT MOST 1048576: true; the input reads as it did. -/
def clockSecondUptoRow : OpenClaim := { program := "ytikfkmcgdceaoaa", sum := "3e0bd48a4f130e8418d83b2a9c9a034f624ee14b1e5119e3aa04eb9703611677", func := "allotment/allotmentlaw13.ClockSecond", spec := "clockSecond", unfollowed := true, recurses := true, apart := false, narrowed := true }
def ClockSecondUptoSaid : Prop := clockSecondUptoRow.holds Try.pinned (OpenSpec.upto clockSecondSpec)

/-- 'allotmentlaw13.ClockTurns', WHERE WHAT IT READS IS OF BULK AT MOST 1048576: true; the input reads as it did. -/
def clockTurnsUptoRow : OpenClaim := { program := "ytikfkmcgdceaoaa", sum := "3e0bd48a4f130e8418d83b2a9c9a034f624ee14b1e5119e3aa04eb9703611677", func := "allotment/allotmentlaw13.ClockTurns", spec := "clockTurns", unfollowed := true, recurses := true, apart := false, narrowed := true }
def ClockTurnsUptoSaid : Prop := clockTurnsUptoRow.holds Try.pinned (OpenSpec.upto clockTurnsSpec)

end Rows
end Go.Proofs.Ytikfkmcgdceaoaa
