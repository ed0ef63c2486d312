/-
  NARROWER THAN 'FOR EVERY INPUT', by the rows' own cells (each row's printed sentence says how): HomologyHolonomies: laid · HomologyForm: laid · HomologyBoundaries: laid · HomologyIntersects: laid · HomologyActs: laid · HomologySquares: laid.
  DERIVED. THE GIVEN ROWS OF THIS SEAT. 6 by the template 'for every input the law returns true; each argument reads behind the call as it read before'; 0 by the template 'total and deterministic' (their statements: YtjknpblmpcecjaaDoorTotals.lean).
  GIVEN WITH THE SEED: the statements are not yours to turn. If you find one false, say at which input.
  Laid BY PROGRAM, IN A SANDBOX (cutbox-rows.mjs): the forced cells as the released guide's own fill.sh prints them over the translation f81a5f6cb0c225a8… (all of the seat's roots in one cut). By AI agents, Wed Nov 11 2026. No macro, syntax, notation, axiom, sorry.
-/
import Derived.Test.YtjknpblmpcecjaaDoorChecked
import GoSem.PinnedTables
import GoSem.Claim
import GoSem.ClaimJoined
import GoSem.ClaimMapViews
import Derived.JoinedTies
import Derived.KernelRfl
namespace Go.Proofs.YtjknpblmpcecjaaDoor
/- THE CELL 'sum', in the pinned program and in every row, IS THE sha256 OF THE DUMP (.gsa) THAT YtjknpblmpcecjaaDoorProg.lean LOADS. Nothing in Lean hashes anything: it is a label: what it is worth is what the hold of that sum in a sandbox is worth. -/
noncomputable def Tryd.pinned : Pinned := { name := "ytjknpblmpcecjaadoor", sum := "f81a5f6cb0c225a85df11683b9854b776a56784964177d540b6c7fbae88792b4", checked := Tryd.checked }
namespace Rows
def none {H : Type} : Left H := { results := [], args := [] }

/- WHAT THE LISTED PACKAGE-LEVEL VARIABLES READ AS WHEN THE CALL BEGINS. Each datum BY PROGRAM (the guide's laid-datum.mjs) off the statement by which the dump's own 'gosem.cut.vars' lays the variable. In a bare row this is a premise. The card (YtjknpblmpcecjaaDoorCards.lean) ties it to the program's text. -/
def laid_unicode_utf8_acceptRanges {H : Type} : DataW H := .agg [.agg [.lit (.int .u8 128), .lit (.int .u8 191)], .agg [.lit (.int .u8 160), .lit (.int .u8 191)], .agg [.lit (.int .u8 128), .lit (.int .u8 159)], .agg [.lit (.int .u8 144), .lit (.int .u8 191)], .agg [.lit (.int .u8 128), .lit (.int .u8 143)], .agg [.lit (.int .u8 0), .lit (.int .u8 0)], .agg [.lit (.int .u8 0), .lit (.int .u8 0)], .agg [.lit (.int .u8 0), .lit (.int .u8 0)], .agg [.lit (.int .u8 0), .lit (.int .u8 0)], .agg [.lit (.int .u8 0), .lit (.int .u8 0)], .agg [.lit (.int .u8 0), .lit (.int .u8 0)], .agg [.lit (.int .u8 0), .lit (.int .u8 0)], .agg [.lit (.int .u8 0), .lit (.int .u8 0)], .agg [.lit (.int .u8 0), .lit (.int .u8 0)], .agg [.lit (.int .u8 0), .lit (.int .u8 0)], .agg [.lit (.int .u8 0), .lit (.int .u8 0)]]
/-- One of Go's own tables, pinned by name: the form's constant. -/
def laid_unicode_utf8_first : DataW Unit := Go.Pinned.utf8First

/-- 'flatlandlaw08.HomologyHolonomies': WHATEVER THE INPUT: true; the input reads as it did. -/
def homologyHolonomiesSpec : ChangeSpec := { name := "homologyHolonomies", fn := fun _ => fun
  | [d1, d2, d3] => { results := [.lit (.bool true)], args := [d1, d2, d3] }
  | _ => none }
def homologyHolonomiesRow : OpenClaim := { program := "ytjknpblmpcecjaadoor", sum := "f81a5f6cb0c225a85df11683b9854b776a56784964177d540b6c7fbae88792b4", func := "flatland/flatlandlaw08.HomologyHolonomies", spec := "homologyHolonomies", inPlace := ["internal/bytealg.IndexByteString", "internal/bytealg.IndexString"], unfollowed := true, recurses := true, named := ["unicode/utf8.first", "unicode/utf8.acceptRanges", "internal/bytealg.MaxLen"], apart := false, laid := [("unicode/utf8.acceptRanges", laid_unicode_utf8_acceptRanges), ("unicode/utf8.first", laid_unicode_utf8_first)] }
def HomologyHolonomiesSaid : Prop := homologyHolonomiesRow.holds Tryd.pinned (OpenSpec.ofChange homologyHolonomiesSpec)

/-- ITS FALSE NEIGHBOUR: 'it returns false'. Refute it at one input. -/
def homologyHolonomiesWrong : ChangeSpec := { name := "homologyHolonomies", fn := fun _ => fun
  | [d1, d2, d3] => { results := [.lit (.bool false)], args := [d1, d2, d3] }
  | _ => none }
def HomologyHolonomiesWrongFalsely : Prop := homologyHolonomiesRow.holds Tryd.pinned (OpenSpec.ofChange homologyHolonomiesWrong)

/-- 'flatlandlaw08.HomologyForm': WHATEVER THE INPUT: true; the input reads as it did. -/
def homologyFormSpec : ChangeSpec := { name := "homologyForm", fn := fun _ => fun
  | [d1, d2, d3] => { results := [.lit (.bool true)], args := [d1, d2, d3] }
  | _ => none }
def homologyFormRow : OpenClaim := { program := "ytjknpblmpcecjaadoor", sum := "f81a5f6cb0c225a85df11683b9854b776a56784964177d540b6c7fbae88792b4", func := "flatland/flatlandlaw08.HomologyForm", spec := "homologyForm", inPlace := ["internal/bytealg.IndexByteString", "internal/bytealg.IndexString"], unfollowed := true, recurses := true, named := ["unicode/utf8.first", "unicode/utf8.acceptRanges", "internal/bytealg.MaxLen"], apart := false, laid := [("unicode/utf8.acceptRanges", laid_unicode_utf8_acceptRanges), ("unicode/utf8.first", laid_unicode_utf8_first)] }
def HomologyFormSaid : Prop := homologyFormRow.holds Tryd.pinned (OpenSpec.ofChange homologyFormSpec)

/-- ITS FALSE NEIGHBOUR: 'it returns false'. Refute it at one input. -/
def homologyFormWrong : ChangeSpec := { name := "homologyForm", fn := fun _ => fun
  | [d1, d2, d3] => { results := [.lit (.bool false)], args := [d1, d2, d3] }
  | _ => none }
def HomologyFormWrongFalsely : Prop := homologyFormRow.holds Tryd.pinned (OpenSpec.ofChange homologyFormWrong)

/-- 'flatlandlaw08.HomologyBoundaries': WHATEVER THE INPUT: true; the input reads as it did. -/
def homologyBoundariesSpec : ChangeSpec := { name := "homologyBoundaries", fn := fun _ => fun
  | [d1, d2] => { results := [.lit (.bool true)], args := [d1, d2] }
  | _ => none }
def homologyBoundariesRow : OpenClaim := { program := "ytjknpblmpcecjaadoor", sum := "f81a5f6cb0c225a85df11683b9854b776a56784964177d540b6c7fbae88792b4", func := "flatland/flatlandlaw08.HomologyBoundaries", spec := "homologyBoundaries", inPlace := ["internal/bytealg.IndexByteString", "internal/bytealg.IndexString"], unfollowed := true, recurses := true, named := ["unicode/utf8.first", "unicode/utf8.acceptRanges", "internal/bytealg.MaxLen"], apart := false, laid := [("unicode/utf8.acceptRanges", laid_unicode_utf8_acceptRanges), ("unicode/utf8.first", laid_unicode_utf8_first)] }
def HomologyBoundariesSaid : Prop := homologyBoundariesRow.holds Tryd.pinned (OpenSpec.ofChange homologyBoundariesSpec)

/-- ITS FALSE NEIGHBOUR: 'it returns false'. Refute it at one input. -/
def homologyBoundariesWrong : ChangeSpec := { name := "homologyBoundaries", fn := fun _ => fun
  | [d1, d2] => { results := [.lit (.bool false)], args := [d1, d2] }
  | _ => none }
def HomologyBoundariesWrongFalsely : Prop := homologyBoundariesRow.holds Tryd.pinned (OpenSpec.ofChange homologyBoundariesWrong)

/-- 'flatlandlaw08.HomologyIntersects': WHATEVER THE INPUT: true; the input reads as it did. -/
def homologyIntersectsSpec : ChangeSpec := { name := "homologyIntersects", fn := fun _ => fun
  | [d1, d2, d3] => { results := [.lit (.bool true)], args := [d1, d2, d3] }
  | _ => none }
def homologyIntersectsRow : OpenClaim := { program := "ytjknpblmpcecjaadoor", sum := "f81a5f6cb0c225a85df11683b9854b776a56784964177d540b6c7fbae88792b4", func := "flatland/flatlandlaw08.HomologyIntersects", spec := "homologyIntersects", inPlace := ["internal/bytealg.IndexByteString", "internal/bytealg.IndexString"], unfollowed := true, recurses := true, named := ["unicode/utf8.first", "unicode/utf8.acceptRanges", "internal/bytealg.MaxLen"], apart := false, laid := [("unicode/utf8.acceptRanges", laid_unicode_utf8_acceptRanges), ("unicode/utf8.first", laid_unicode_utf8_first)] }
def HomologyIntersectsSaid : Prop := homologyIntersectsRow.holds Tryd.pinned (OpenSpec.ofChange homologyIntersectsSpec)

/-- ITS FALSE NEIGHBOUR: 'it returns false'. Refute it at one input. -/
def homologyIntersectsWrong : ChangeSpec := { name := "homologyIntersects", fn := fun _ => fun
  | [d1, d2, d3] => { results := [.lit (.bool false)], args := [d1, d2, d3] }
  | _ => none }
def HomologyIntersectsWrongFalsely : Prop := homologyIntersectsRow.holds Tryd.pinned (OpenSpec.ofChange homologyIntersectsWrong)

/-- 'flatlandlaw08.HomologyActs': WHATEVER THE INPUT: true; the input reads as it did. -/
def homologyActsSpec : ChangeSpec := { name := "homologyActs", fn := fun _ => fun
  | [d1, d2, d3] => { results := [.lit (.bool true)], args := [d1, d2, d3] }
  | _ => none }
def homologyActsRow : OpenClaim := { program := "ytjknpblmpcecjaadoor", sum := "f81a5f6cb0c225a85df11683b9854b776a56784964177d540b6c7fbae88792b4", func := "flatland/flatlandlaw08.HomologyActs", spec := "homologyActs", inPlace := ["internal/bytealg.IndexByteString", "internal/bytealg.IndexString"], unfollowed := true, recurses := true, named := ["unicode/utf8.first", "unicode/utf8.acceptRanges", "internal/bytealg.MaxLen"], apart := false, laid := [("unicode/utf8.acceptRanges", laid_unicode_utf8_acceptRanges), ("unicode/utf8.first", laid_unicode_utf8_first)] }
def HomologyActsSaid : Prop := homologyActsRow.holds Tryd.pinned (OpenSpec.ofChange homologyActsSpec)

/-- ITS FALSE NEIGHBOUR: 'it returns false'. Refute it at one input. -/
def homologyActsWrong : ChangeSpec := { name := "homologyActs", fn := fun _ => fun
  | [d1, d2, d3] => { results := [.lit (.bool false)], args := [d1, d2, d3] }
  | _ => none }
def HomologyActsWrongFalsely : Prop := homologyActsRow.holds Tryd.pinned (OpenSpec.ofChange homologyActsWrong)

/-- 'flatlandlaw08.HomologySquares': WHATEVER THE INPUT: true; the input reads as it did. -/
def homologySquaresSpec : ChangeSpec := { name := "homologySquares", fn := fun _ => fun
  | [d1, d2, d3] => { results := [.lit (.bool true)], args := [d1, d2, d3] }
  | _ => none }
def homologySquaresRow : OpenClaim := { program := "ytjknpblmpcecjaadoor", sum := "f81a5f6cb0c225a85df11683b9854b776a56784964177d540b6c7fbae88792b4", func := "flatland/flatlandlaw08.HomologySquares", spec := "homologySquares", inPlace := ["internal/bytealg.IndexByteString", "internal/bytealg.IndexString"], unfollowed := true, recurses := true, named := ["unicode/utf8.first", "unicode/utf8.acceptRanges", "internal/bytealg.MaxLen"], apart := false, laid := [("unicode/utf8.acceptRanges", laid_unicode_utf8_acceptRanges), ("unicode/utf8.first", laid_unicode_utf8_first)] }
def HomologySquaresSaid : Prop := homologySquaresRow.holds Tryd.pinned (OpenSpec.ofChange homologySquaresSpec)

/-- ITS FALSE NEIGHBOUR: 'it returns false'. Refute it at one input. -/
def homologySquaresWrong : ChangeSpec := { name := "homologySquares", fn := fun _ => fun
  | [d1, d2, d3] => { results := [.lit (.bool false)], args := [d1, d2, d3] }
  | _ => none }
def HomologySquaresWrongFalsely : Prop := homologySquaresRow.holds Tryd.pinned (OpenSpec.ofChange homologySquaresWrong)

/- THE SECOND FORM. 'bulk': how many values and letters a reading holds, each counted each time it is reached (what is shared counts as often as it is met; a slice's spare places count too). A statement '..UptoSaid' is the law's where the arguments, and the package variables that the reading takes, are together of bulk at most 1048576: NARROWER than '..Said'. Prove '..Said' where nothing that the law and all that it calls make is longer than what came in: it says more and counts as full. Else prove '..UptoSaid'. A law counts once. -/
mutual
def uptoBulk {H : Type} : DataW H → Nat
  | .lit (.string bytes) => bytes.length + 1
  | .lit _ => 1
  | .nil => 1
  | .ptr d => uptoBulk d + 1
  | .slice elems spare => uptoBulkAll elems + uptoBulkAll spare + 1
  | .agg parts => uptoBulkAll parts + 1
  | .iface _ d => uptoBulk d + 1
  | .map entries => uptoBulkEntries entries + 1
  | .held _ => 1
def uptoBulkAll {H : Type} : List (DataW H) → Nat
  | [] => 0
  | d :: r => uptoBulk d + uptoBulkAll r
def uptoBulkEntries {H : Type} : List (Lit × DataW H) → Nat
  | [] => 0
  | x :: r => uptoBulkEntry x + uptoBulkEntries r
def uptoBulkEntry {H : Type} : Lit × DataW H → Nat
  | (.string bytes, d) => bytes.length + uptoBulk d + 1
  | (_, d) => uptoBulk d + 1
 end
def uptoSmall : (H : Type) → List (DataW H) → Bool := fun _ ds => decide (uptoBulkAll ds ≤ 1048576)
def OpenSpec.upto (s : _root_.Go.ChangeSpec) : _root_.Go.OpenSpec := { _root_.Go.OpenSpec.ofChange s with cond := some uptoSmall }

/-- 'flatlandlaw08.HomologyHolonomies', WHERE WHAT IT READS IS OF BULK AT MOST 1048576: true; the input reads as it did. -/
def homologyHolonomiesUptoRow : OpenClaim := { program := "ytjknpblmpcecjaadoor", sum := "f81a5f6cb0c225a85df11683b9854b776a56784964177d540b6c7fbae88792b4", func := "flatland/flatlandlaw08.HomologyHolonomies", spec := "homologyHolonomies", inPlace := ["internal/bytealg.IndexByteString", "internal/bytealg.IndexString"], unfollowed := true, recurses := true, named := ["unicode/utf8.first", "unicode/utf8.acceptRanges", "internal/bytealg.MaxLen"], apart := false, laid := [("unicode/utf8.acceptRanges", laid_unicode_utf8_acceptRanges), ("unicode/utf8.first", laid_unicode_utf8_first)], narrowed := true }
def HomologyHolonomiesUptoSaid : Prop := homologyHolonomiesUptoRow.holds Tryd.pinned (OpenSpec.upto homologyHolonomiesSpec)

/-- 'flatlandlaw08.HomologyForm', WHERE WHAT IT READS IS OF BULK AT MOST 1048576: true; the input reads as it did. -/
def homologyFormUptoRow : OpenClaim := { program := "ytjknpblmpcecjaadoor", sum := "f81a5f6cb0c225a85df11683b9854b776a56784964177d540b6c7fbae88792b4", func := "flatland/flatlandlaw08.HomologyForm", spec := "homologyForm", inPlace := ["internal/bytealg.IndexByteString", "internal/bytealg.IndexString"], unfollowed := true, recurses := true, named := ["unicode/utf8.first", "unicode/utf8.acceptRanges", "internal/bytealg.MaxLen"], apart := false, laid := [("unicode/utf8.acceptRanges", laid_unicode_utf8_acceptRanges), ("unicode/utf8.first", laid_unicode_utf8_first)], narrowed := true }
def HomologyFormUptoSaid : Prop := homologyFormUptoRow.holds Tryd.pinned (OpenSpec.upto homologyFormSpec)

/-- 'flatlandlaw08.HomologyBoundaries', WHERE WHAT IT READS IS OF BULK AT MOST 1048576: true; the input reads as it did. -/
def homologyBoundariesUptoRow : OpenClaim := { program := "ytjknpblmpcecjaadoor", sum := "f81a5f6cb0c225a85df11683b9854b776a56784964177d540b6c7fbae88792b4", func := "flatland/flatlandlaw08.HomologyBoundaries", spec := "homologyBoundaries", inPlace := ["internal/bytealg.IndexByteString", "internal/bytealg.IndexString"], unfollowed := true, recurses := true, named := ["unicode/utf8.first", "unicode/utf8.acceptRanges", "internal/bytealg.MaxLen"], apart := false, laid := [("unicode/utf8.acceptRanges", laid_unicode_utf8_acceptRanges), ("unicode/utf8.first", laid_unicode_utf8_first)], narrowed := true }
def HomologyBoundariesUptoSaid : Prop := homologyBoundariesUptoRow.holds Tryd.pinned (OpenSpec.upto homologyBoundariesSpec)

/-- 'flatlandlaw08.HomologyIntersects', WHERE WHAT IT READS IS OF BULK AT MOST 1048576: true; the input reads as it did. -/
def homologyIntersectsUptoRow : OpenClaim := { program := "ytjknpblmpcecjaadoor", sum := "f81a5f6cb0c225a85df11683b9854b776a56784964177d540b6c7fbae88792b4", func := "flatland/flatlandlaw08.HomologyIntersects", spec := "homologyIntersects", inPlace := ["internal/bytealg.IndexByteString", "internal/bytealg.IndexString"], unfollowed := true, recurses := true, named := ["unicode/utf8.first", "unicode/utf8.acceptRanges", "internal/bytealg.MaxLen"], apart := false, laid := [("unicode/utf8.acceptRanges", laid_unicode_utf8_acceptRanges), ("unicode/utf8.first", laid_unicode_utf8_first)], narrowed := true }
def HomologyIntersectsUptoSaid : Prop := homologyIntersectsUptoRow.holds Tryd.pinned (OpenSpec.upto homologyIntersectsSpec)

/-- 'flatlandlaw08.HomologyActs', WHERE WHAT IT READS IS OF BULK AT MOST 1048576: true; the input reads as it did. -/
def homologyActsUptoRow : OpenClaim := { program := "ytjknpblmpcecjaadoor", sum := "f81a5f6cb0c225a85df11683b9854b776a56784964177d540b6c7fbae88792b4", func := "flatland/flatlandlaw08.HomologyActs", spec := "homologyActs", inPlace := ["internal/bytealg.IndexByteString", "internal/bytealg.IndexString"], unfollowed := true, recurses := true, named := ["unicode/utf8.first", "unicode/utf8.acceptRanges", "internal/bytealg.MaxLen"], apart := false, laid := [("unicode/utf8.acceptRanges", laid_unicode_utf8_acceptRanges), ("unicode/utf8.first", laid_unicode_utf8_first)], narrowed := true }
def HomologyActsUptoSaid : Prop := homologyActsUptoRow.holds Tryd.pinned (OpenSpec.upto homologyActsSpec)

/-- 'flatlandlaw08.HomologySquares', WHERE WHAT IT READS IS OF BULK AT MOST 1048576: true; the input reads as it did. -/
def homologySquaresUptoRow : OpenClaim := { program := "ytjknpblmpcecjaadoor", sum := "f81a5f6cb0c225a85df11683b9854b776a56784964177d540b6c7fbae88792b4", func := "flatland/flatlandlaw08.HomologySquares", spec := "homologySquares", inPlace := ["internal/bytealg.IndexByteString", "internal/bytealg.IndexString"], unfollowed := true, recurses := true, named := ["unicode/utf8.first", "unicode/utf8.acceptRanges", "internal/bytealg.MaxLen"], apart := false, laid := [("unicode/utf8.acceptRanges", laid_unicode_utf8_acceptRanges), ("unicode/utf8.first", laid_unicode_utf8_first)], narrowed := true }
def HomologySquaresUptoSaid : Prop := homologySquaresUptoRow.holds Tryd.pinned (OpenSpec.upto homologySquaresSpec)

end Rows
end Go.Proofs.YtjknpblmpcecjaaDoor
