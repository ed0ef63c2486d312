/-
  No cell of these rows narrows 'for every input' (looked for: loops, veiled, ifaces, maps, wideKeys, modest, calm, conditions, laid).
  DERIVED. THE GIVEN ROWS OF THIS SEAT. 2 by the template 'for every input the law returns true; each argument reads behind the call as it read before'; 0 by the template 'total and deterministic' (their statements: YtpbcelfhhpafeaaTotals.lean).
  GIVEN WITH THE SEED: the statements are not yours to turn. If you find one false, say at which input.
  Laid BY PROGRAM, IN A SANDBOX (cutbox-rows.mjs): the forced cells as the released guide's own fill.sh prints them over the translation 60c1bb0985fc5fe5… (all of the seat's roots in one cut). By AI agents, Wed Nov 11 2026. No macro, syntax, notation, axiom, sorry.
-/
import Derived.Test.YtpbcelfhhpafeaaChecked
import GoSem.Claim
import GoSem.ClaimJoined
import GoSem.ClaimMapViews
import Derived.JoinedTies
import Derived.KernelRfl
namespace Go.Proofs.Ytpbcelfhhpafeaa
/- THE CELL 'sum', in the pinned program and in every row, IS THE sha256 OF THE DUMP (.gsa) THAT YtpbcelfhhpafeaaProg.lean LOADS. Nothing in Lean hashes anything: it is a label: what it is worth is what the hold of that sum in a sandbox is worth. -/
noncomputable def Try.pinned : Pinned := { name := "ytpbcelfhhpafeaa", sum := "60c1bb0985fc5fe5ba3703b38f40c39e48ab24e03bd6cdd898274fd948a19507", checked := Try.checked }
namespace Rows
def none {H : Type} : Left H := { results := [], args := [] }

/-- 'flatlandlaw06.OrigamiHalfTurns': WHATEVER THE INPUT: true; the input reads as it did. -/
def origamiHalfTurnsSpec : ChangeSpec := { name := "origamiHalfTurns", fn := fun _ => fun
  | [d1, d2] => { results := [.lit (.bool true)], args := [d1, d2] }
  | _ => none }
def origamiHalfTurnsRow : OpenClaim := { program := "ytpbcelfhhpafeaa", sum := "60c1bb0985fc5fe5ba3703b38f40c39e48ab24e03bd6cdd898274fd948a19507", func := "flatland/flatlandlaw06.OrigamiHalfTurns", spec := "origamiHalfTurns", unfollowed := true, recurses := true, apart := false }
def OrigamiHalfTurnsSaid : Prop := origamiHalfTurnsRow.holds Try.pinned (OpenSpec.ofChange origamiHalfTurnsSpec)

/-- ITS FALSE NEIGHBOUR: 'it returns false'. Refute it at one input. -/
def origamiHalfTurnsWrong : ChangeSpec := { name := "origamiHalfTurns", fn := fun _ => fun
  | [d1, d2] => { results := [.lit (.bool false)], args := [d1, d2] }
  | _ => none }
def OrigamiHalfTurnsWrongFalsely : Prop := origamiHalfTurnsRow.holds Try.pinned (OpenSpec.ofChange origamiHalfTurnsWrong)

/-- 'flatlandlaw06.OrigamiEuler': WHATEVER THE INPUT: true; the input reads as it did. -/
def origamiEulerSpec : ChangeSpec := { name := "origamiEuler", fn := fun _ => fun
  | [d1, d2] => { results := [.lit (.bool true)], args := [d1, d2] }
  | _ => none }
def origamiEulerRow : OpenClaim := { program := "ytpbcelfhhpafeaa", sum := "60c1bb0985fc5fe5ba3703b38f40c39e48ab24e03bd6cdd898274fd948a19507", func := "flatland/flatlandlaw06.OrigamiEuler", spec := "origamiEuler", unfollowed := true, recurses := true, apart := false }
def OrigamiEulerSaid : Prop := origamiEulerRow.holds Try.pinned (OpenSpec.ofChange origamiEulerSpec)

/-- ITS FALSE NEIGHBOUR: 'it returns false'. Refute it at one input. -/
def origamiEulerWrong : ChangeSpec := { name := "origamiEuler", fn := fun _ => fun
  | [d1, d2] => { results := [.lit (.bool false)], args := [d1, d2] }
  | _ => none }
def OrigamiEulerWrongFalsely : Prop := origamiEulerRow.holds Try.pinned (OpenSpec.ofChange origamiEulerWrong)

/- THE SECOND FORM. 'bulk': how many values and letters a reading holds, each counted each time it is reached (what is shared counts as often as it is met; a slice's spare places count too). A statement '..UptoSaid' is the law's where the arguments, and the package variables that the reading takes, are together of bulk at most 1048576: NARROWER than '..Said'. Prove '..Said' where nothing that the law and all that it calls make is longer than what came in: it says more and counts as full. Else prove '..UptoSaid'. A law counts once. -/
mutual
def uptoBulk {H : Type} : DataW H → Nat
  | .lit (.string bytes) => bytes.length + 1
  | .lit _ => 1
  | .nil => 1
  | .ptr d => uptoBulk d + 1
  | .slice elems spare => uptoBulkAll elems + uptoBulkAll spare + 1
  | .agg parts => uptoBulkAll parts + 1
  | .iface _ d => uptoBulk d + 1
  | .map entries => uptoBulkEntries entries + 1
  | .held _ => 1
def uptoBulkAll {H : Type} : List (DataW H) → Nat
  | [] => 0
  | d :: r => uptoBulk d + uptoBulkAll r
def uptoBulkEntries {H : Type} : List (Lit × DataW H) → Nat
  | [] => 0
  | x :: r => uptoBulkEntry x + uptoBulkEntries r
def uptoBulkEntry {H : Type} : Lit × DataW H → Nat
  | (.string bytes, d) => bytes.length + uptoBulk d + 1
  | (_, d) => uptoBulk d + 1
 end
def uptoSmall : (H : Type) → List (DataW H) → Bool := fun _ ds => decide (uptoBulkAll ds ≤ 1048576)
def OpenSpec.upto (s : _root_.Go.ChangeSpec) : _root_.Go.OpenSpec := { _root_.Go.OpenSpec.ofChange s with cond := some uptoSmall }

/-- 'flatlandlaw06.OrigamiHalfTurns', WHERE WHAT IT READS IS OF BULK AT MOST 1048576: true; the input reads as it did. -/
def origamiHalfTurnsUptoRow : OpenClaim := { program := "ytpbcelfhhpafeaa", sum := "60c1bb0985fc5fe5ba3703b38f40c39e48ab24e03bd6cdd898274fd948a19507", func := "flatland/flatlandlaw06.OrigamiHalfTurns", spec := "origamiHalfTurns", unfollowed := true, recurses := true, apart := false, narrowed := true }
def OrigamiHalfTurnsUptoSaid : Prop := origamiHalfTurnsUptoRow.holds Try.pinned (OpenSpec.upto origamiHalfTurnsSpec)

/-- 'flatlandlaw06.OrigamiEuler', WHERE WHAT IT READS IS OF BULK AT MOST 1048576: true; the input reads as it did. -/
def origamiEulerUptoRow : OpenClaim := { program := "ytpbcelfhhpafeaa", sum := "60c1bb0985fc5fe5ba3703b38f40c39e48ab24e03bd6cdd898274fd948a19507", func := "flatland/flatlandlaw06.OrigamiEuler", spec := "origamiEuler", unfollowed := true, recurses := true, apart := false, narrowed := true }
def OrigamiEulerUptoSaid : Prop := origamiEulerUptoRow.holds Try.pinned (OpenSpec.upto origamiEulerSpec)

end Rows
end Go.Proofs.Ytpbcelfhhpafeaa
