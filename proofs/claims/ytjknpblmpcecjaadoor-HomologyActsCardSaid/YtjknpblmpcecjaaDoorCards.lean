/-
  DERIVED. GIVEN WITH THE SEED: THE CARDS: each row of YtjknpblmpcecjaaDoorRows.lean that lists a variable, with what it lists TIED to the program's text (the seventh form; the later family's looks); each row that meets fmt, with fmt's text TOLD by the authors' own Lean function (tested against real Go, not proved from fmt's source: count such statements apart). THE CARD IS WHAT COUNTS. Prove the row's statement (the work); the ties are given (YtjknpblmpcecjaaDoorTie.lean); close each card by the builder's one call (the guide's Derived/Test/ToyasCard.lean, 'card_holds'). Laid BY PROGRAM, IN A SANDBOX (cutbox-door.mjs). By AI agents, Wed Nov 11 2026. No macro, syntax, notation, axiom, sorry.
-/
import Derived.Test.YtjknpblmpcecjaaDoorRows
import GoSem.ClaimSeven
namespace Go.Proofs.YtjknpblmpcecjaaDoor
namespace Rows

/-- THE TIED CARD OF 'flatlandlaw08.HomologyHolonomies'. -/
def homologyHolonomiesCard : Claim7 := { stood := { row := homologyHolonomiesRow, standIns := [], harness := (true, "252dad1770f534ae80f9b31edcf54ab8807fc43037e7828423b9627a9e6c4751"), looks := false }, kinds := [], alts := [], laidByText := true, laidKinds := [.data, .pinned], laidTests := true, laidLooks := .later }
def HomologyHolonomiesCardSaid : Prop := Claim7.holds Tryd.pinned (.plain (OpenSpec.ofChange homologyHolonomiesSpec)) homologyHolonomiesCard

/-- THE TIED CARD OF 'flatlandlaw08.HomologyForm'. -/
def homologyFormCard : Claim7 := { stood := { row := homologyFormRow, standIns := [], harness := (true, "252dad1770f534ae80f9b31edcf54ab8807fc43037e7828423b9627a9e6c4751"), looks := false }, kinds := [], alts := [], laidByText := true, laidKinds := [.data, .pinned], laidTests := true, laidLooks := .later }
def HomologyFormCardSaid : Prop := Claim7.holds Tryd.pinned (.plain (OpenSpec.ofChange homologyFormSpec)) homologyFormCard

/-- THE TIED CARD OF 'flatlandlaw08.HomologyBoundaries'. -/
def homologyBoundariesCard : Claim7 := { stood := { row := homologyBoundariesRow, standIns := [], harness := (true, "252dad1770f534ae80f9b31edcf54ab8807fc43037e7828423b9627a9e6c4751"), looks := false }, kinds := [], alts := [], laidByText := true, laidKinds := [.data, .pinned], laidTests := true, laidLooks := .later }
def HomologyBoundariesCardSaid : Prop := Claim7.holds Tryd.pinned (.plain (OpenSpec.ofChange homologyBoundariesSpec)) homologyBoundariesCard

/-- THE TIED CARD OF 'flatlandlaw08.HomologyIntersects'. -/
def homologyIntersectsCard : Claim7 := { stood := { row := homologyIntersectsRow, standIns := [], harness := (true, "252dad1770f534ae80f9b31edcf54ab8807fc43037e7828423b9627a9e6c4751"), looks := false }, kinds := [], alts := [], laidByText := true, laidKinds := [.data, .pinned], laidTests := true, laidLooks := .later }
def HomologyIntersectsCardSaid : Prop := Claim7.holds Tryd.pinned (.plain (OpenSpec.ofChange homologyIntersectsSpec)) homologyIntersectsCard

/-- THE TIED CARD OF 'flatlandlaw08.HomologyActs'. -/
def homologyActsCard : Claim7 := { stood := { row := homologyActsRow, standIns := [], harness := (true, "252dad1770f534ae80f9b31edcf54ab8807fc43037e7828423b9627a9e6c4751"), looks := false }, kinds := [], alts := [], laidByText := true, laidKinds := [.data, .pinned], laidTests := true, laidLooks := .later }
def HomologyActsCardSaid : Prop := Claim7.holds Tryd.pinned (.plain (OpenSpec.ofChange homologyActsSpec)) homologyActsCard

/-- THE TIED CARD OF 'flatlandlaw08.HomologySquares'. -/
def homologySquaresCard : Claim7 := { stood := { row := homologySquaresRow, standIns := [], harness := (true, "252dad1770f534ae80f9b31edcf54ab8807fc43037e7828423b9627a9e6c4751"), looks := false }, kinds := [], alts := [], laidByText := true, laidKinds := [.data, .pinned], laidTests := true, laidLooks := .later }
def HomologySquaresCardSaid : Prop := Claim7.holds Tryd.pinned (.plain (OpenSpec.ofChange homologySquaresSpec)) homologySquaresCard

/-- THE SECOND FORM's CARD OF 'flatlandlaw08.HomologyHolonomies'. -/
def homologyHolonomiesUptoCard : Claim7 := { stood := { row := homologyHolonomiesUptoRow, standIns := [], harness := (true, "252dad1770f534ae80f9b31edcf54ab8807fc43037e7828423b9627a9e6c4751"), looks := false }, kinds := [], alts := [], laidByText := true, laidKinds := [.data, .pinned], laidTests := true, laidLooks := .later }
def HomologyHolonomiesUptoCardSaid : Prop := Claim7.holds Tryd.pinned (.plain (OpenSpec.upto homologyHolonomiesSpec)) homologyHolonomiesUptoCard

/-- THE SECOND FORM's CARD OF 'flatlandlaw08.HomologyForm'. -/
def homologyFormUptoCard : Claim7 := { stood := { row := homologyFormUptoRow, standIns := [], harness := (true, "252dad1770f534ae80f9b31edcf54ab8807fc43037e7828423b9627a9e6c4751"), looks := false }, kinds := [], alts := [], laidByText := true, laidKinds := [.data, .pinned], laidTests := true, laidLooks := .later }
def HomologyFormUptoCardSaid : Prop := Claim7.holds Tryd.pinned (.plain (OpenSpec.upto homologyFormSpec)) homologyFormUptoCard

/-- THE SECOND FORM's CARD OF 'flatlandlaw08.HomologyBoundaries'. -/
def homologyBoundariesUptoCard : Claim7 := { stood := { row := homologyBoundariesUptoRow, standIns := [], harness := (true, "252dad1770f534ae80f9b31edcf54ab8807fc43037e7828423b9627a9e6c4751"), looks := false }, kinds := [], alts := [], laidByText := true, laidKinds := [.data, .pinned], laidTests := true, laidLooks := .later }
def HomologyBoundariesUptoCardSaid : Prop := Claim7.holds Tryd.pinned (.plain (OpenSpec.upto homologyBoundariesSpec)) homologyBoundariesUptoCard

/-- THE SECOND FORM's CARD OF 'flatlandlaw08.HomologyIntersects'. -/
def homologyIntersectsUptoCard : Claim7 := { stood := { row := homologyIntersectsUptoRow, standIns := [], harness := (true, "252dad1770f534ae80f9b31edcf54ab8807fc43037e7828423b9627a9e6c4751"), looks := false }, kinds := [], alts := [], laidByText := true, laidKinds := [.data, .pinned], laidTests := true, laidLooks := .later }
def HomologyIntersectsUptoCardSaid : Prop := Claim7.holds Tryd.pinned (.plain (OpenSpec.upto homologyIntersectsSpec)) homologyIntersectsUptoCard

/-- THE SECOND FORM's CARD OF 'flatlandlaw08.HomologyActs'. -/
def homologyActsUptoCard : Claim7 := { stood := { row := homologyActsUptoRow, standIns := [], harness := (true, "252dad1770f534ae80f9b31edcf54ab8807fc43037e7828423b9627a9e6c4751"), looks := false }, kinds := [], alts := [], laidByText := true, laidKinds := [.data, .pinned], laidTests := true, laidLooks := .later }
def HomologyActsUptoCardSaid : Prop := Claim7.holds Tryd.pinned (.plain (OpenSpec.upto homologyActsSpec)) homologyActsUptoCard

/-- THE SECOND FORM's CARD OF 'flatlandlaw08.HomologySquares'. -/
def homologySquaresUptoCard : Claim7 := { stood := { row := homologySquaresUptoRow, standIns := [], harness := (true, "252dad1770f534ae80f9b31edcf54ab8807fc43037e7828423b9627a9e6c4751"), looks := false }, kinds := [], alts := [], laidByText := true, laidKinds := [.data, .pinned], laidTests := true, laidLooks := .later }
def HomologySquaresUptoCardSaid : Prop := Claim7.holds Tryd.pinned (.plain (OpenSpec.upto homologySquaresSpec)) homologySquaresUptoCard
end Rows
end Go.Proofs.YtjknpblmpcecjaaDoor
