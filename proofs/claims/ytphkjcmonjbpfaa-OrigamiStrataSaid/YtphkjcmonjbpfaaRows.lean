/-
  No cell of these rows narrows 'for every input' (looked for: loops, veiled, ifaces, maps, wideKeys, modest, calm, conditions, laid).
  DERIVED. THE GIVEN ROWS OF THIS SEAT. 11 by the template 'for every input the law returns true; each argument reads behind the call as it read before'; 0 by the template 'total and deterministic' (their statements: YtphkjcmonjbpfaaTotals.lean).
  GIVEN WITH THE SEED: the statements are not yours to turn. If you find one false, say at which input.
  Laid BY PROGRAM, IN A SANDBOX (cutbox-rows.mjs): the forced cells as the released guide's own fill.sh prints them over the translation 68e4c81c8c32f0d7… (all of the seat's roots in one cut). By AI agents, Wed Nov 11 2026. No macro, syntax, notation, axiom, sorry.
-/
import Derived.Test.YtphkjcmonjbpfaaChecked
import GoSem.Claim
import GoSem.ClaimJoined
import GoSem.ClaimMapViews
import Derived.JoinedTies
import Derived.KernelRfl
namespace Go.Proofs.Ytphkjcmonjbpfaa
/- THE CELL 'sum', in the pinned program and in every row, IS THE sha256 OF THE DUMP (.gsa) THAT YtphkjcmonjbpfaaProg.lean LOADS. Nothing in Lean hashes anything: it is a label: what it is worth is what the hold of that sum in a sandbox is worth. -/
noncomputable def Try.pinned : Pinned := { name := "ytphkjcmonjbpfaa", sum := "68e4c81c8c32f0d776a7786b6268ac552be7d94bc4311db5e349b3007f7af4c6", checked := Try.checked }
namespace Rows
def none {H : Type} : Left H := { results := [], args := [] }

/-- 'flatlandlaw06.OrigamiLabels': WHATEVER THE INPUT: true; the input reads as it did. -/
def origamiLabelsSpec : ChangeSpec := { name := "origamiLabels", fn := fun _ => fun
  | [d] => { results := [.lit (.bool true)], args := [d] }
  | _ => none }
def origamiLabelsRow : OpenClaim := { program := "ytphkjcmonjbpfaa", sum := "68e4c81c8c32f0d776a7786b6268ac552be7d94bc4311db5e349b3007f7af4c6", func := "flatland/flatlandlaw06.OrigamiLabels", spec := "origamiLabels", unfollowed := true, recurses := true, apart := false }
def OrigamiLabelsSaid : Prop := origamiLabelsRow.holds Try.pinned (OpenSpec.ofChange origamiLabelsSpec)

/-- ITS FALSE NEIGHBOUR: 'it returns false'. Refute it at one input. -/
def origamiLabelsWrong : ChangeSpec := { name := "origamiLabels", fn := fun _ => fun
  | [d] => { results := [.lit (.bool false)], args := [d] }
  | _ => none }
def OrigamiLabelsWrongFalsely : Prop := origamiLabelsRow.holds Try.pinned (OpenSpec.ofChange origamiLabelsWrong)

/-- 'flatlandlaw06.OrigamiDirections': WHATEVER THE INPUT: true; the input reads as it did. -/
def origamiDirectionsSpec : ChangeSpec := { name := "origamiDirections", fn := fun _ => fun
  | [d1, d2, d3] => { results := [.lit (.bool true)], args := [d1, d2, d3] }
  | _ => none }
def origamiDirectionsRow : OpenClaim := { program := "ytphkjcmonjbpfaa", sum := "68e4c81c8c32f0d776a7786b6268ac552be7d94bc4311db5e349b3007f7af4c6", func := "flatland/flatlandlaw06.OrigamiDirections", spec := "origamiDirections", unfollowed := true, recurses := true, apart := false }
def OrigamiDirectionsSaid : Prop := origamiDirectionsRow.holds Try.pinned (OpenSpec.ofChange origamiDirectionsSpec)

/-- ITS FALSE NEIGHBOUR: 'it returns false'. Refute it at one input. -/
def origamiDirectionsWrong : ChangeSpec := { name := "origamiDirections", fn := fun _ => fun
  | [d1, d2, d3] => { results := [.lit (.bool false)], args := [d1, d2, d3] }
  | _ => none }
def OrigamiDirectionsWrongFalsely : Prop := origamiDirectionsRow.holds Try.pinned (OpenSpec.ofChange origamiDirectionsWrong)

/-- 'flatlandlaw06.OrigamiVertices': WHATEVER THE INPUT: true; the input reads as it did. -/
def origamiVerticesSpec : ChangeSpec := { name := "origamiVertices", fn := fun _ => fun
  | [d] => { results := [.lit (.bool true)], args := [d] }
  | _ => none }
def origamiVerticesRow : OpenClaim := { program := "ytphkjcmonjbpfaa", sum := "68e4c81c8c32f0d776a7786b6268ac552be7d94bc4311db5e349b3007f7af4c6", func := "flatland/flatlandlaw06.OrigamiVertices", spec := "origamiVertices", unfollowed := true, recurses := true, apart := false }
def OrigamiVerticesSaid : Prop := origamiVerticesRow.holds Try.pinned (OpenSpec.ofChange origamiVerticesSpec)

/-- ITS FALSE NEIGHBOUR: 'it returns false'. Refute it at one input. -/
def origamiVerticesWrong : ChangeSpec := { name := "origamiVertices", fn := fun _ => fun
  | [d] => { results := [.lit (.bool false)], args := [d] }
  | _ => none }
def OrigamiVerticesWrongFalsely : Prop := origamiVerticesRow.holds Try.pinned (OpenSpec.ofChange origamiVerticesWrong)

/-- 'flatlandlaw06.OrigamiChecks': WHATEVER THE INPUT: true; the input reads as it did. -/
def origamiChecksSpec : ChangeSpec := { name := "origamiChecks", fn := fun _ => fun
  | [d1, d2, d3] => { results := [.lit (.bool true)], args := [d1, d2, d3] }
  | _ => none }
def origamiChecksRow : OpenClaim := { program := "ytphkjcmonjbpfaa", sum := "68e4c81c8c32f0d776a7786b6268ac552be7d94bc4311db5e349b3007f7af4c6", func := "flatland/flatlandlaw06.OrigamiChecks", spec := "origamiChecks", unfollowed := true, recurses := true, apart := false }
def OrigamiChecksSaid : Prop := origamiChecksRow.holds Try.pinned (OpenSpec.ofChange origamiChecksSpec)

/-- ITS FALSE NEIGHBOUR: 'it returns false'. Refute it at one input. -/
def origamiChecksWrong : ChangeSpec := { name := "origamiChecks", fn := fun _ => fun
  | [d1, d2, d3] => { results := [.lit (.bool false)], args := [d1, d2, d3] }
  | _ => none }
def OrigamiChecksWrongFalsely : Prop := origamiChecksRow.holds Try.pinned (OpenSpec.ofChange origamiChecksWrong)

/-- 'flatlandlaw06.OrigamiSaddles': WHATEVER THE INPUT: true; the input reads as it did. -/
def origamiSaddlesSpec : ChangeSpec := { name := "origamiSaddles", fn := fun _ => fun
  | [d] => { results := [.lit (.bool true)], args := [d] }
  | _ => none }
def origamiSaddlesRow : OpenClaim := { program := "ytphkjcmonjbpfaa", sum := "68e4c81c8c32f0d776a7786b6268ac552be7d94bc4311db5e349b3007f7af4c6", func := "flatland/flatlandlaw06.OrigamiSaddles", spec := "origamiSaddles", unfollowed := true, recurses := true, apart := false }
def OrigamiSaddlesSaid : Prop := origamiSaddlesRow.holds Try.pinned (OpenSpec.ofChange origamiSaddlesSpec)

/-- ITS FALSE NEIGHBOUR: 'it returns false'. Refute it at one input. -/
def origamiSaddlesWrong : ChangeSpec := { name := "origamiSaddles", fn := fun _ => fun
  | [d] => { results := [.lit (.bool false)], args := [d] }
  | _ => none }
def OrigamiSaddlesWrongFalsely : Prop := origamiSaddlesRow.holds Try.pinned (OpenSpec.ofChange origamiSaddlesWrong)

/-- 'flatlandlaw06.OrigamiProofs': WHATEVER THE INPUT: true; the input reads as it did. -/
def origamiProofsSpec : ChangeSpec := { name := "origamiProofs", fn := fun _ => fun
  | [d1, d2, d3] => { results := [.lit (.bool true)], args := [d1, d2, d3] }
  | _ => none }
def origamiProofsRow : OpenClaim := { program := "ytphkjcmonjbpfaa", sum := "68e4c81c8c32f0d776a7786b6268ac552be7d94bc4311db5e349b3007f7af4c6", func := "flatland/flatlandlaw06.OrigamiProofs", spec := "origamiProofs", unfollowed := true, recurses := true, apart := false }
def OrigamiProofsSaid : Prop := origamiProofsRow.holds Try.pinned (OpenSpec.ofChange origamiProofsSpec)

/-- ITS FALSE NEIGHBOUR: 'it returns false'. Refute it at one input. -/
def origamiProofsWrong : ChangeSpec := { name := "origamiProofs", fn := fun _ => fun
  | [d1, d2, d3] => { results := [.lit (.bool false)], args := [d1, d2, d3] }
  | _ => none }
def OrigamiProofsWrongFalsely : Prop := origamiProofsRow.holds Try.pinned (OpenSpec.ofChange origamiProofsWrong)

/-- 'flatlandlaw06.OrigamiStrata': WHATEVER THE INPUT: true; the input reads as it did. -/
def origamiStrataSpec : ChangeSpec := { name := "origamiStrata", fn := fun _ => fun
  | [d] => { results := [.lit (.bool true)], args := [d] }
  | _ => none }
def origamiStrataRow : OpenClaim := { program := "ytphkjcmonjbpfaa", sum := "68e4c81c8c32f0d776a7786b6268ac552be7d94bc4311db5e349b3007f7af4c6", func := "flatland/flatlandlaw06.OrigamiStrata", spec := "origamiStrata", unfollowed := true, recurses := true, apart := false }
def OrigamiStrataSaid : Prop := origamiStrataRow.holds Try.pinned (OpenSpec.ofChange origamiStrataSpec)

/-- ITS FALSE NEIGHBOUR: 'it returns false'. Refute it at one input. -/
def origamiStrataWrong : ChangeSpec := { name := "origamiStrata", fn := fun _ => fun
  | [d] => { results := [.lit (.bool false)], args := [d] }
  | _ => none }
def OrigamiStrataWrongFalsely : Prop := origamiStrataRow.holds Try.pinned (OpenSpec.ofChange origamiStrataWrong)

/-- 'flatlandlaw06.OrigamiMaps': WHATEVER THE INPUT: true; the input reads as it did. -/
def origamiMapsSpec : ChangeSpec := { name := "origamiMaps", fn := fun _ => fun
  | [d1, d2] => { results := [.lit (.bool true)], args := [d1, d2] }
  | _ => none }
def origamiMapsRow : OpenClaim := { program := "ytphkjcmonjbpfaa", sum := "68e4c81c8c32f0d776a7786b6268ac552be7d94bc4311db5e349b3007f7af4c6", func := "flatland/flatlandlaw06.OrigamiMaps", spec := "origamiMaps", unfollowed := true, recurses := true, apart := false }
def OrigamiMapsSaid : Prop := origamiMapsRow.holds Try.pinned (OpenSpec.ofChange origamiMapsSpec)

/-- ITS FALSE NEIGHBOUR: 'it returns false'. Refute it at one input. -/
def origamiMapsWrong : ChangeSpec := { name := "origamiMaps", fn := fun _ => fun
  | [d1, d2] => { results := [.lit (.bool false)], args := [d1, d2] }
  | _ => none }
def OrigamiMapsWrongFalsely : Prop := origamiMapsRow.holds Try.pinned (OpenSpec.ofChange origamiMapsWrong)

/-- 'flatlandlaw06.OrigamiAutomorphisms': WHATEVER THE INPUT: true; the input reads as it did. -/
def origamiAutomorphismsSpec : ChangeSpec := { name := "origamiAutomorphisms", fn := fun _ => fun
  | [d] => { results := [.lit (.bool true)], args := [d] }
  | _ => none }
def origamiAutomorphismsRow : OpenClaim := { program := "ytphkjcmonjbpfaa", sum := "68e4c81c8c32f0d776a7786b6268ac552be7d94bc4311db5e349b3007f7af4c6", func := "flatland/flatlandlaw06.OrigamiAutomorphisms", spec := "origamiAutomorphisms", unfollowed := true, recurses := true, apart := false }
def OrigamiAutomorphismsSaid : Prop := origamiAutomorphismsRow.holds Try.pinned (OpenSpec.ofChange origamiAutomorphismsSpec)

/-- ITS FALSE NEIGHBOUR: 'it returns false'. Refute it at one input. -/
def origamiAutomorphismsWrong : ChangeSpec := { name := "origamiAutomorphisms", fn := fun _ => fun
  | [d] => { results := [.lit (.bool false)], args := [d] }
  | _ => none }
def OrigamiAutomorphismsWrongFalsely : Prop := origamiAutomorphismsRow.holds Try.pinned (OpenSpec.ofChange origamiAutomorphismsWrong)

/-- 'flatlandlaw06.OrigamiHalfTurns': WHATEVER THE INPUT: true; the input reads as it did. -/
def origamiHalfTurnsSpec : ChangeSpec := { name := "origamiHalfTurns", fn := fun _ => fun
  | [d1, d2] => { results := [.lit (.bool true)], args := [d1, d2] }
  | _ => none }
def origamiHalfTurnsRow : OpenClaim := { program := "ytphkjcmonjbpfaa", sum := "68e4c81c8c32f0d776a7786b6268ac552be7d94bc4311db5e349b3007f7af4c6", func := "flatland/flatlandlaw06.OrigamiHalfTurns", spec := "origamiHalfTurns", unfollowed := true, recurses := true, apart := false }
def OrigamiHalfTurnsSaid : Prop := origamiHalfTurnsRow.holds Try.pinned (OpenSpec.ofChange origamiHalfTurnsSpec)

/-- ITS FALSE NEIGHBOUR: 'it returns false'. Refute it at one input. -/
def origamiHalfTurnsWrong : ChangeSpec := { name := "origamiHalfTurns", fn := fun _ => fun
  | [d1, d2] => { results := [.lit (.bool false)], args := [d1, d2] }
  | _ => none }
def OrigamiHalfTurnsWrongFalsely : Prop := origamiHalfTurnsRow.holds Try.pinned (OpenSpec.ofChange origamiHalfTurnsWrong)

/-- 'flatlandlaw06.OrigamiEuler': WHATEVER THE INPUT: true; the input reads as it did. -/
def origamiEulerSpec : ChangeSpec := { name := "origamiEuler", fn := fun _ => fun
  | [d1, d2] => { results := [.lit (.bool true)], args := [d1, d2] }
  | _ => none }
def origamiEulerRow : OpenClaim := { program := "ytphkjcmonjbpfaa", sum := "68e4c81c8c32f0d776a7786b6268ac552be7d94bc4311db5e349b3007f7af4c6", func := "flatland/flatlandlaw06.OrigamiEuler", spec := "origamiEuler", unfollowed := true, recurses := true, apart := false }
def OrigamiEulerSaid : Prop := origamiEulerRow.holds Try.pinned (OpenSpec.ofChange origamiEulerSpec)

/-- ITS FALSE NEIGHBOUR: 'it returns false'. Refute it at one input. -/
def origamiEulerWrong : ChangeSpec := { name := "origamiEuler", fn := fun _ => fun
  | [d1, d2] => { results := [.lit (.bool false)], args := [d1, d2] }
  | _ => none }
def OrigamiEulerWrongFalsely : Prop := origamiEulerRow.holds Try.pinned (OpenSpec.ofChange origamiEulerWrong)

/- THE SECOND FORM. 'bulk': how many values and letters a reading holds, each counted each time it is reached (what is shared counts as often as it is met; a slice's spare places count too). A statement '..UptoSaid' is the law's where the arguments, and the package variables that the reading takes, are together of bulk at most 1048576: NARROWER than '..Said'. Prove '..Said' where nothing that the law and all that it calls make is longer than what came in: it says more and counts as full. Else prove '..UptoSaid'. A law counts once. -/
mutual
def uptoBulk {H : Type} : DataW H → Nat
  | .lit (.string bytes) => bytes.length + 1
  | .lit _ => 1
  | .nil => 1
  | .ptr d => uptoBulk d + 1
  | .slice elems spare => uptoBulkAll elems + uptoBulkAll spare + 1
  | .agg parts => uptoBulkAll parts + 1
  | .iface _ d => uptoBulk d + 1
  | .map entries => uptoBulkEntries entries + 1
  | .held _ => 1
def uptoBulkAll {H : Type} : List (DataW H) → Nat
  | [] => 0
  | d :: r => uptoBulk d + uptoBulkAll r
def uptoBulkEntries {H : Type} : List (Lit × DataW H) → Nat
  | [] => 0
  | x :: r => uptoBulkEntry x + uptoBulkEntries r
def uptoBulkEntry {H : Type} : Lit × DataW H → Nat
  | (.string bytes, d) => bytes.length + uptoBulk d + 1
  | (_, d) => uptoBulk d + 1
 end
def uptoSmall : (H : Type) → List (DataW H) → Bool := fun _ ds => decide (uptoBulkAll ds ≤ 1048576)
def OpenSpec.upto (s : _root_.Go.ChangeSpec) : _root_.Go.OpenSpec := { _root_.Go.OpenSpec.ofChange s with cond := some uptoSmall }

/-- 'flatlandlaw06.OrigamiLabels', WHERE WHAT IT READS IS OF BULK AT MOST 1048576: true; the input reads as it did. -/
def origamiLabelsUptoRow : OpenClaim := { program := "ytphkjcmonjbpfaa", sum := "68e4c81c8c32f0d776a7786b6268ac552be7d94bc4311db5e349b3007f7af4c6", func := "flatland/flatlandlaw06.OrigamiLabels", spec := "origamiLabels", unfollowed := true, recurses := true, apart := false, narrowed := true }
def OrigamiLabelsUptoSaid : Prop := origamiLabelsUptoRow.holds Try.pinned (OpenSpec.upto origamiLabelsSpec)

/-- 'flatlandlaw06.OrigamiDirections', WHERE WHAT IT READS IS OF BULK AT MOST 1048576: true; the input reads as it did. -/
def origamiDirectionsUptoRow : OpenClaim := { program := "ytphkjcmonjbpfaa", sum := "68e4c81c8c32f0d776a7786b6268ac552be7d94bc4311db5e349b3007f7af4c6", func := "flatland/flatlandlaw06.OrigamiDirections", spec := "origamiDirections", unfollowed := true, recurses := true, apart := false, narrowed := true }
def OrigamiDirectionsUptoSaid : Prop := origamiDirectionsUptoRow.holds Try.pinned (OpenSpec.upto origamiDirectionsSpec)

/-- 'flatlandlaw06.OrigamiVertices', WHERE WHAT IT READS IS OF BULK AT MOST 1048576: true; the input reads as it did. -/
def origamiVerticesUptoRow : OpenClaim := { program := "ytphkjcmonjbpfaa", sum := "68e4c81c8c32f0d776a7786b6268ac552be7d94bc4311db5e349b3007f7af4c6", func := "flatland/flatlandlaw06.OrigamiVertices", spec := "origamiVertices", unfollowed := true, recurses := true, apart := false, narrowed := true }
def OrigamiVerticesUptoSaid : Prop := origamiVerticesUptoRow.holds Try.pinned (OpenSpec.upto origamiVerticesSpec)

/-- 'flatlandlaw06.OrigamiChecks', WHERE WHAT IT READS IS OF BULK AT MOST 1048576: true; the input reads as it did. -/
def origamiChecksUptoRow : OpenClaim := { program := "ytphkjcmonjbpfaa", sum := "68e4c81c8c32f0d776a7786b6268ac552be7d94bc4311db5e349b3007f7af4c6", func := "flatland/flatlandlaw06.OrigamiChecks", spec := "origamiChecks", unfollowed := true, recurses := true, apart := false, narrowed := true }
def OrigamiChecksUptoSaid : Prop := origamiChecksUptoRow.holds Try.pinned (OpenSpec.upto origamiChecksSpec)

/-- 'flatlandlaw06.OrigamiSaddles', WHERE WHAT IT READS IS OF BULK AT MOST 1048576: true; the input reads as it did. -/
def origamiSaddlesUptoRow : OpenClaim := { program := "ytphkjcmonjbpfaa", sum := "68e4c81c8c32f0d776a7786b6268ac552be7d94bc4311db5e349b3007f7af4c6", func := "flatland/flatlandlaw06.OrigamiSaddles", spec := "origamiSaddles", unfollowed := true, recurses := true, apart := false, narrowed := true }
def OrigamiSaddlesUptoSaid : Prop := origamiSaddlesUptoRow.holds Try.pinned (OpenSpec.upto origamiSaddlesSpec)

/-- 'flatlandlaw06.OrigamiProofs', WHERE WHAT IT READS IS OF BULK AT MOST 1048576: true; the input reads as it did. -/
def origamiProofsUptoRow : OpenClaim := { program := "ytphkjcmonjbpfaa", sum := "68e4c81c8c32f0d776a7786b6268ac552be7d94bc4311db5e349b3007f7af4c6", func := "flatland/flatlandlaw06.OrigamiProofs", spec := "origamiProofs", unfollowed := true, recurses := true, apart := false, narrowed := true }
def OrigamiProofsUptoSaid : Prop := origamiProofsUptoRow.holds Try.pinned (OpenSpec.upto origamiProofsSpec)

/-- 'flatlandlaw06.OrigamiStrata', WHERE WHAT IT READS IS OF BULK AT MOST 1048576: true; the input reads as it did. -/
def origamiStrataUptoRow : OpenClaim := { program := "ytphkjcmonjbpfaa", sum := "68e4c81c8c32f0d776a7786b6268ac552be7d94bc4311db5e349b3007f7af4c6", func := "flatland/flatlandlaw06.OrigamiStrata", spec := "origamiStrata", unfollowed := true, recurses := true, apart := false, narrowed := true }
def OrigamiStrataUptoSaid : Prop := origamiStrataUptoRow.holds Try.pinned (OpenSpec.upto origamiStrataSpec)

/-- 'flatlandlaw06.OrigamiMaps', WHERE WHAT IT READS IS OF BULK AT MOST 1048576: true; the input reads as it did. -/
def origamiMapsUptoRow : OpenClaim := { program := "ytphkjcmonjbpfaa", sum := "68e4c81c8c32f0d776a7786b6268ac552be7d94bc4311db5e349b3007f7af4c6", func := "flatland/flatlandlaw06.OrigamiMaps", spec := "origamiMaps", unfollowed := true, recurses := true, apart := false, narrowed := true }
def OrigamiMapsUptoSaid : Prop := origamiMapsUptoRow.holds Try.pinned (OpenSpec.upto origamiMapsSpec)

/-- 'flatlandlaw06.OrigamiAutomorphisms', WHERE WHAT IT READS IS OF BULK AT MOST 1048576: true; the input reads as it did. -/
def origamiAutomorphismsUptoRow : OpenClaim := { program := "ytphkjcmonjbpfaa", sum := "68e4c81c8c32f0d776a7786b6268ac552be7d94bc4311db5e349b3007f7af4c6", func := "flatland/flatlandlaw06.OrigamiAutomorphisms", spec := "origamiAutomorphisms", unfollowed := true, recurses := true, apart := false, narrowed := true }
def OrigamiAutomorphismsUptoSaid : Prop := origamiAutomorphismsUptoRow.holds Try.pinned (OpenSpec.upto origamiAutomorphismsSpec)

/-- 'flatlandlaw06.OrigamiHalfTurns', WHERE WHAT IT READS IS OF BULK AT MOST 1048576: true; the input reads as it did. -/
def origamiHalfTurnsUptoRow : OpenClaim := { program := "ytphkjcmonjbpfaa", sum := "68e4c81c8c32f0d776a7786b6268ac552be7d94bc4311db5e349b3007f7af4c6", func := "flatland/flatlandlaw06.OrigamiHalfTurns", spec := "origamiHalfTurns", unfollowed := true, recurses := true, apart := false, narrowed := true }
def OrigamiHalfTurnsUptoSaid : Prop := origamiHalfTurnsUptoRow.holds Try.pinned (OpenSpec.upto origamiHalfTurnsSpec)

/-- 'flatlandlaw06.OrigamiEuler', WHERE WHAT IT READS IS OF BULK AT MOST 1048576: true; the input reads as it did. -/
def origamiEulerUptoRow : OpenClaim := { program := "ytphkjcmonjbpfaa", sum := "68e4c81c8c32f0d776a7786b6268ac552be7d94bc4311db5e349b3007f7af4c6", func := "flatland/flatlandlaw06.OrigamiEuler", spec := "origamiEuler", unfollowed := true, recurses := true, apart := false, narrowed := true }
def OrigamiEulerUptoSaid : Prop := origamiEulerUptoRow.holds Try.pinned (OpenSpec.upto origamiEulerSpec)

end Rows
end Go.Proofs.Ytphkjcmonjbpfaa
