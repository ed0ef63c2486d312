/-
  No cell of these rows narrows 'for every input' (looked for: loops, veiled, ifaces, maps, wideKeys, modest, calm, conditions, laid).
  DERIVED. THE GIVEN ROWS OF THIS SEAT. 3 by the template 'for every input the law returns true; each argument reads behind the call as it read before'; 0 by the template 'total and deterministic' (their statements: YtmfklhkjmhjllaaTotals.lean).
  GIVEN WITH THE SEED: the statements are not yours to turn. If you find one false, say at which input.
  Laid BY PROGRAM, IN A SANDBOX (cutbox-rows.mjs): the forced cells as the released guide's own fill.sh prints them over the translation da39c34749621152… (all of the seat's roots in one cut). By AI agents, Wed Nov 11 2026. No macro, syntax, notation, axiom, sorry.
-/
import Derived.Test.YtmfklhkjmhjllaaChecked
import GoSem.Claim
import GoSem.ClaimJoined
import GoSem.ClaimMapViews
import Derived.JoinedTies
import Derived.KernelRfl
namespace Go.Proofs.Ytmfklhkjmhjllaa
/- THE CELL 'sum', in the pinned program and in every row, IS THE sha256 OF THE DUMP (.gsa) THAT YtmfklhkjmhjllaaProg.lean LOADS. Nothing in Lean hashes anything: it is a label: what it is worth is what the hold of that sum in a sandbox is worth. -/
noncomputable def Try.pinned : Pinned := { name := "ytmfklhkjmhjllaa", sum := "da39c34749621152d1828b3d42ce88f06e3b62b24a0c26948f769011c95008e5", checked := Try.checked }
namespace Rows
def none {H : Type} : Left H := { results := [], args := [] }

/-- 'flatlandlaw06.OrigamiRenumbered': WHATEVER THE INPUT: true; the input reads as it did. -/
def origamiRenumberedSpec : ChangeSpec := { name := "origamiRenumbered", fn := fun _ => fun
  | [d1, d2, d3] => { results := [.lit (.bool true)], args := [d1, d2, d3] }
  | _ => none }
def origamiRenumberedRow : OpenClaim := { program := "ytmfklhkjmhjllaa", sum := "da39c34749621152d1828b3d42ce88f06e3b62b24a0c26948f769011c95008e5", func := "flatland/flatlandlaw06.OrigamiRenumbered", spec := "origamiRenumbered", unfollowed := true, recurses := true, apart := false }
def OrigamiRenumberedSaid : Prop := origamiRenumberedRow.holds Try.pinned (OpenSpec.ofChange origamiRenumberedSpec)

/-- ITS FALSE NEIGHBOUR: 'it returns false'. Refute it at one input. -/
def origamiRenumberedWrong : ChangeSpec := { name := "origamiRenumbered", fn := fun _ => fun
  | [d1, d2, d3] => { results := [.lit (.bool false)], args := [d1, d2, d3] }
  | _ => none }
def OrigamiRenumberedWrongFalsely : Prop := origamiRenumberedRow.holds Try.pinned (OpenSpec.ofChange origamiRenumberedWrong)

/-- 'flatlandlaw06.OrigamiEuler': WHATEVER THE INPUT: true; the input reads as it did. -/
def origamiEulerSpec : ChangeSpec := { name := "origamiEuler", fn := fun _ => fun
  | [d1, d2] => { results := [.lit (.bool true)], args := [d1, d2] }
  | _ => none }
def origamiEulerRow : OpenClaim := { program := "ytmfklhkjmhjllaa", sum := "da39c34749621152d1828b3d42ce88f06e3b62b24a0c26948f769011c95008e5", func := "flatland/flatlandlaw06.OrigamiEuler", spec := "origamiEuler", unfollowed := true, recurses := true, apart := false }
def OrigamiEulerSaid : Prop := origamiEulerRow.holds Try.pinned (OpenSpec.ofChange origamiEulerSpec)

/-- ITS FALSE NEIGHBOUR: 'it returns false'. Refute it at one input. -/
def origamiEulerWrong : ChangeSpec := { name := "origamiEuler", fn := fun _ => fun
  | [d1, d2] => { results := [.lit (.bool false)], args := [d1, d2] }
  | _ => none }
def OrigamiEulerWrongFalsely : Prop := origamiEulerRow.holds Try.pinned (OpenSpec.ofChange origamiEulerWrong)

/-- 'flatlandlaw08.HomologyInvariants': WHATEVER THE INPUT: true; the input reads as it did. -/
def homologyInvariantsSpec : ChangeSpec := { name := "homologyInvariants", fn := fun _ => fun
  | [d] => { results := [.lit (.bool true)], args := [d] }
  | _ => none }
def homologyInvariantsRow : OpenClaim := { program := "ytmfklhkjmhjllaa", sum := "da39c34749621152d1828b3d42ce88f06e3b62b24a0c26948f769011c95008e5", func := "flatland/flatlandlaw08.HomologyInvariants", spec := "homologyInvariants", unfollowed := true, recurses := true, apart := false }
def HomologyInvariantsSaid : Prop := homologyInvariantsRow.holds Try.pinned (OpenSpec.ofChange homologyInvariantsSpec)

/-- ITS FALSE NEIGHBOUR: 'it returns false'. Refute it at one input. -/
def homologyInvariantsWrong : ChangeSpec := { name := "homologyInvariants", fn := fun _ => fun
  | [d] => { results := [.lit (.bool false)], args := [d] }
  | _ => none }
def HomologyInvariantsWrongFalsely : Prop := homologyInvariantsRow.holds Try.pinned (OpenSpec.ofChange homologyInvariantsWrong)

/- THE SECOND FORM. 'bulk': how many values and letters a reading holds, each counted each time it is reached (what is shared counts as often as it is met; a slice's spare places count too). A statement '..UptoSaid' is the law's where the arguments, and the package variables that the reading takes, are together of bulk at most 1048576: NARROWER than '..Said'. Prove '..Said' where nothing that the law and all that it calls make is longer than what came in: it says more and counts as full. Else prove '..UptoSaid'. A law counts once. -/
mutual
def uptoBulk {H : Type} : DataW H → Nat
  | .lit (.string bytes) => bytes.length + 1
  | .lit _ => 1
  | .nil => 1
  | .ptr d => uptoBulk d + 1
  | .slice elems spare => uptoBulkAll elems + uptoBulkAll spare + 1
  | .agg parts => uptoBulkAll parts + 1
  | .iface _ d => uptoBulk d + 1
  | .map entries => uptoBulkEntries entries + 1
  | .held _ => 1
def uptoBulkAll {H : Type} : List (DataW H) → Nat
  | [] => 0
  | d :: r => uptoBulk d + uptoBulkAll r
def uptoBulkEntries {H : Type} : List (Lit × DataW H) → Nat
  | [] => 0
  | x :: r => uptoBulkEntry x + uptoBulkEntries r
def uptoBulkEntry {H : Type} : Lit × DataW H → Nat
  | (.string bytes, d) => bytes.length + uptoBulk d + 1
  | (_, d) => uptoBulk d + 1
 end
def uptoSmall : (H : Type) → List (DataW H) → Bool := fun _ ds => decide (uptoBulkAll ds ≤ 1048576)
def OpenSpec.upto (s : _root_.Go.ChangeSpec) : _root_.Go.OpenSpec := { _root_.Go.OpenSpec.ofChange s with cond := some uptoSmall }

/-- 'flatlandlaw06.OrigamiRenumbered', WHERE WHAT IT READS IS OF BULK AT MOST 1048576: true; the input reads as it did. -/
def origamiRenumberedUptoRow : OpenClaim := { program := "ytmfklhkjmhjllaa", sum := "da39c34749621152d1828b3d42ce88f06e3b62b24a0c26948f769011c95008e5", func := "flatland/flatlandlaw06.OrigamiRenumbered", spec := "origamiRenumbered", unfollowed := true, recurses := true, apart := false, narrowed := true }
def OrigamiRenumberedUptoSaid : Prop := origamiRenumberedUptoRow.holds Try.pinned (OpenSpec.upto origamiRenumberedSpec)

/-- 'flatlandlaw06.OrigamiEuler', WHERE WHAT IT READS IS OF BULK AT MOST 1048576: true; the input reads as it did. -/
def origamiEulerUptoRow : OpenClaim := { program := "ytmfklhkjmhjllaa", sum := "da39c34749621152d1828b3d42ce88f06e3b62b24a0c26948f769011c95008e5", func := "flatland/flatlandlaw06.OrigamiEuler", spec := "origamiEuler", unfollowed := true, recurses := true, apart := false, narrowed := true }
def OrigamiEulerUptoSaid : Prop := origamiEulerUptoRow.holds Try.pinned (OpenSpec.upto origamiEulerSpec)

/-- 'flatlandlaw08.HomologyInvariants', WHERE WHAT IT READS IS OF BULK AT MOST 1048576: true; the input reads as it did. -/
def homologyInvariantsUptoRow : OpenClaim := { program := "ytmfklhkjmhjllaa", sum := "da39c34749621152d1828b3d42ce88f06e3b62b24a0c26948f769011c95008e5", func := "flatland/flatlandlaw08.HomologyInvariants", spec := "homologyInvariants", unfollowed := true, recurses := true, apart := false, narrowed := true }
def HomologyInvariantsUptoSaid : Prop := homologyInvariantsUptoRow.holds Try.pinned (OpenSpec.upto homologyInvariantsSpec)

end Rows
end Go.Proofs.Ytmfklhkjmhjllaa
