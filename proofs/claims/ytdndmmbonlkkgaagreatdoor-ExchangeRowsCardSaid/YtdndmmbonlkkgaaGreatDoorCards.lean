/-
  DERIVED. GIVEN WITH THE SEED: THE CARDS: each row of YtdndmmbonlkkgaaGreatDoorRows.lean that lists a variable, with what it lists TIED to the program's text (the seventh form; the later family's looks); each row that meets fmt, with fmt's text TOLD by the authors' own Lean function (tested against real Go, not proved from fmt's source: count such statements apart). THE CARD IS WHAT COUNTS. Prove the row's statement (the work); the ties are given (YtdndmmbonlkkgaaGreatDoorTie.lean); close each card by the builder's one call (the guide's Derived/Test/ToyasCard.lean, 'card_holds'). Laid BY PROGRAM, IN A SANDBOX (cutbox-door.mjs). By AI agents, Wed Nov 11 2026. No macro, syntax, notation, axiom, sorry.
-/
import Derived.Test.YtdndmmbonlkkgaaGreatDoorRows
import GoSem.ClaimSeven
namespace Go.Proofs.YtdndmmbonlkkgaaGreatDoor
namespace Rows

/-- THE TIED CARD OF 'flatlandlaw05.ExchangeRows'. -/
def exchangeRowsCard : Claim7 := { stood := { row := exchangeRowsRow, standIns := [], harness := (true, "fe9d9e79805fdec6b07e90317abba580d49e926f4cb84a17386f28a3aa03934d"), looks := true }, kinds := [], alts := [], laidByText := true, laidKinds := [.data, .data, .data, .data, .sentinel, .sentinel, .pinned], laidTests := true, laidLooks := .later }
def ExchangeRowsCardSaid : Prop := Claim7.holds Tryz.pinned (.plain (OpenSpec.ofChange exchangeRowsSpec)) exchangeRowsCard

/-- THE TIED CARD OF 'flatlandlaw05.ExchangeClasses'. -/
def exchangeClassesCard : Claim7 := { stood := { row := exchangeClassesRow, standIns := [], harness := (true, "fe9d9e79805fdec6b07e90317abba580d49e926f4cb84a17386f28a3aa03934d"), looks := true }, kinds := [], alts := [], laidByText := true, laidKinds := [.data, .data, .data], laidTests := true, laidLooks := .later }
def ExchangeClassesCardSaid : Prop := Claim7.holds Tryz.pinned (.plain (OpenSpec.ofChange exchangeClassesSpec)) exchangeClassesCard

/-- THE SECOND FORM's CARD OF 'flatlandlaw05.ExchangeRows'. -/
def exchangeRowsUptoCard : Claim7 := { stood := { row := exchangeRowsUptoRow, standIns := [], harness := (true, "fe9d9e79805fdec6b07e90317abba580d49e926f4cb84a17386f28a3aa03934d"), looks := true }, kinds := [], alts := [], laidByText := true, laidKinds := [.data, .data, .data, .data, .sentinel, .sentinel, .pinned], laidTests := true, laidLooks := .later }
def ExchangeRowsUptoCardSaid : Prop := Claim7.holds Tryz.pinned (.plain (OpenSpec.upto exchangeRowsSpec)) exchangeRowsUptoCard

/-- THE SECOND FORM's CARD OF 'flatlandlaw05.ExchangeClasses'. -/
def exchangeClassesUptoCard : Claim7 := { stood := { row := exchangeClassesUptoRow, standIns := [], harness := (true, "fe9d9e79805fdec6b07e90317abba580d49e926f4cb84a17386f28a3aa03934d"), looks := true }, kinds := [], alts := [], laidByText := true, laidKinds := [.data, .data, .data], laidTests := true, laidLooks := .later }
def ExchangeClassesUptoCardSaid : Prop := Claim7.holds Tryz.pinned (.plain (OpenSpec.upto exchangeClassesSpec)) exchangeClassesUptoCard
end Rows
end Go.Proofs.YtdndmmbonlkkgaaGreatDoor
