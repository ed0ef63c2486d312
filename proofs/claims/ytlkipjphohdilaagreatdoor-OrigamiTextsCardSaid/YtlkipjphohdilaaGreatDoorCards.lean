/-
  DERIVED. GIVEN WITH THE SEED: THE CARDS: each row of YtlkipjphohdilaaGreatDoorRows.lean that lists a variable, with what it lists TIED to the program's text (the seventh form; the later family's looks); each row that meets fmt, with fmt's text TOLD by the authors' own Lean function (tested against real Go, not proved from fmt's source: count such statements apart). THE CARD IS WHAT COUNTS. Prove the row's statement (the work); the ties are given (YtlkipjphohdilaaGreatDoorTie.lean); close each card by the builder's one call (the guide's Derived/Test/ToyasCard.lean, 'card_holds'). Laid BY PROGRAM, IN A SANDBOX (cutbox-door.mjs). By AI agents, Wed Nov 11 2026. No macro, syntax, notation, axiom, sorry.
-/
import Derived.Test.YtlkipjphohdilaaGreatDoorRows
import GoSem.ClaimSeven
namespace Go.Proofs.YtlkipjphohdilaaGreatDoor
namespace Rows

/-- THE TIED CARD OF 'flatlandlaw06.OrigamiTexts'. -/
def origamiTextsCard : Claim7 := { stood := { row := origamiTextsRow, standIns := [], harness := (true, "7193078fd8a4b8ca5f6ae3cc708b4f6dbc732c005ff18acc7bbafc9b44fb632b"), looks := true }, kinds := [], alts := [], laidByText := true, laidKinds := [.data, .data, .data, .data, .sentinel, .sentinel, .pinned], laidTests := true, laidLooks := .later }
def OrigamiTextsCardSaid : Prop := Claim7.holds Tryz.pinned (.plain (OpenSpec.ofChange origamiTextsSpec)) origamiTextsCard

/-- THE SECOND FORM's CARD OF 'flatlandlaw06.OrigamiTexts'. -/
def origamiTextsUptoCard : Claim7 := { stood := { row := origamiTextsUptoRow, standIns := [], harness := (true, "7193078fd8a4b8ca5f6ae3cc708b4f6dbc732c005ff18acc7bbafc9b44fb632b"), looks := true }, kinds := [], alts := [], laidByText := true, laidKinds := [.data, .data, .data, .data, .sentinel, .sentinel, .pinned], laidTests := true, laidLooks := .later }
def OrigamiTextsUptoCardSaid : Prop := Claim7.holds Tryz.pinned (.plain (OpenSpec.upto origamiTextsSpec)) origamiTextsUptoCard
end Rows
end Go.Proofs.YtlkipjphohdilaaGreatDoor
