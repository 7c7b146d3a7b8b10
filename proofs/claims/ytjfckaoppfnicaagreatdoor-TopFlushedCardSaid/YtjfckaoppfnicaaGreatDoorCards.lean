/-
  DERIVED. GIVEN WITH THE SEED: THE CARDS: each row of YtjfckaoppfnicaaGreatDoorRows.lean that lists a variable, with what it lists TIED to the program's text (the seventh form; the later family's looks); each row that meets fmt, with fmt's text TOLD by the authors' own Lean function (tested against real Go, not proved from fmt's source: count such statements apart). THE CARD IS WHAT COUNTS. Prove the row's statement (the work); the ties are given (YtjfckaoppfnicaaGreatDoorTie.lean); close each card by the builder's one call (the guide's Derived/Test/ToyasCard.lean, 'card_holds'). Laid BY PROGRAM, IN A SANDBOX (cutbox-door.mjs). By AI agents, Wed Nov 11 2026. No macro, syntax, notation, axiom, sorry.
-/
import Derived.Test.YtjfckaoppfnicaaGreatDoorRows
import GoSem.ClaimSeven
namespace Go.Proofs.YtjfckaoppfnicaaGreatDoor
namespace Rows

/-- THE TIED CARD OF 'allotmenttop.TopFlushed'. -/
def topFlushedCard : Claim7 := { stood := { row := topFlushedRow, standIns := [], harness := (true, "ea6834e49ce15f947441bcd5518dbc322fcd56789505f785c7850bca67c355fa"), looks := true }, kinds := [], alts := [], laidByText := true, laidKinds := [.data, .data, .data, .data, .sentinel, .sentinel, .pinned], laidTests := true, laidLooks := .later }
def TopFlushedCardSaid : Prop := Claim7.holds Tryz.pinned (.plain (OpenSpec.ofChange topFlushedSpec)) topFlushedCard

/-- THE SECOND FORM's CARD OF 'allotmenttop.TopFlushed'. -/
def topFlushedUptoCard : Claim7 := { stood := { row := topFlushedUptoRow, standIns := [], harness := (true, "ea6834e49ce15f947441bcd5518dbc322fcd56789505f785c7850bca67c355fa"), looks := true }, kinds := [], alts := [], laidByText := true, laidKinds := [.data, .data, .data, .data, .sentinel, .sentinel, .pinned], laidTests := true, laidLooks := .later }
def TopFlushedUptoCardSaid : Prop := Claim7.holds Tryz.pinned (.plain (OpenSpec.upto topFlushedSpec)) topFlushedUptoCard
end Rows
end Go.Proofs.YtjfckaoppfnicaaGreatDoor
