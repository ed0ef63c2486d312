/-
  No cell of these rows narrows 'for every input' (looked for: loops, veiled, ifaces, maps, wideKeys, modest, calm, conditions, laid).
  DERIVED. THE GIVEN ROWS OF THIS SEAT. 9 by the template 'for every input the law returns true; each argument reads behind the call as it read before'; 0 by the template 'total and deterministic' (their statements: YthfaleobmefibaaGreatTotals.lean).
  GIVEN WITH THE SEED: the statements are not yours to turn. If you find one false, say at which input.
  Laid BY PROGRAM, IN A SANDBOX (cutbox-rows.mjs): the forced cells as the released guide's own fill.sh prints them over the translation e4d0b4607f227dc6… (all of the seat's roots in one cut). By AI agents, Wed Nov 11 2026. No macro, syntax, notation, axiom, sorry.
-/
import Derived.Test.YthfaleobmefibaaGreatChecked
import GoSem.Claim
import GoSem.ClaimJoined
import GoSem.ClaimMapViews
import Derived.JoinedTies
import Derived.KernelRfl
namespace Go.Proofs.YthfaleobmefibaaGreat
/- THE CELL 'sum', in the pinned program and in every row, IS THE sha256 OF THE DUMP (.gsa) THAT YthfaleobmefibaaGreatProg.lean LOADS. Nothing in Lean hashes anything: it is a label: what it is worth is what the hold of that sum in a sandbox is worth. -/
noncomputable def Tryz.pinned : Pinned := { name := "ythfaleobmefibaagreat", sum := "e4d0b4607f227dc654c1cba84281fdb6fdd96cc14f280b874018336cc71a3c66", checked := Tryz.checked }
namespace Rows
def none {H : Type} : Left H := { results := [], args := [] }

/-- 'flatlandlaw05.ExchangeOrbits': WHATEVER THE INPUT: true; the input reads as it did. -/
def exchangeOrbitsSpec : ChangeSpec := { name := "exchangeOrbits", fn := fun _ => fun
  | [d1, d2, d3] => { results := [.lit (.bool true)], args := [d1, d2, d3] }
  | _ => none }
def exchangeOrbitsRow : OpenClaim := { program := "ythfaleobmefibaagreat", sum := "e4d0b4607f227dc654c1cba84281fdb6fdd96cc14f280b874018336cc71a3c66", func := "flatland/flatlandlaw05.ExchangeOrbits", spec := "exchangeOrbits", unfollowed := true, recurses := true, apart := false }
def ExchangeOrbitsSaid : Prop := exchangeOrbitsRow.holds Tryz.pinned (OpenSpec.ofChange exchangeOrbitsSpec)

/-- ITS FALSE NEIGHBOUR: 'it returns false'. Refute it at one input. -/
def exchangeOrbitsWrong : ChangeSpec := { name := "exchangeOrbits", fn := fun _ => fun
  | [d1, d2, d3] => { results := [.lit (.bool false)], args := [d1, d2, d3] }
  | _ => none }
def ExchangeOrbitsWrongFalsely : Prop := exchangeOrbitsRow.holds Tryz.pinned (OpenSpec.ofChange exchangeOrbitsWrong)

/-- 'flatlandlaw05.ExchangeReturns': WHATEVER THE INPUT: true; the input reads as it did. -/
def exchangeReturnsSpec : ChangeSpec := { name := "exchangeReturns", fn := fun _ => fun
  | [d1, d2, d3] => { results := [.lit (.bool true)], args := [d1, d2, d3] }
  | _ => none }
def exchangeReturnsRow : OpenClaim := { program := "ythfaleobmefibaagreat", sum := "e4d0b4607f227dc654c1cba84281fdb6fdd96cc14f280b874018336cc71a3c66", func := "flatland/flatlandlaw05.ExchangeReturns", spec := "exchangeReturns", unfollowed := true, recurses := true, apart := false }
def ExchangeReturnsSaid : Prop := exchangeReturnsRow.holds Tryz.pinned (OpenSpec.ofChange exchangeReturnsSpec)

/-- ITS FALSE NEIGHBOUR: 'it returns false'. Refute it at one input. -/
def exchangeReturnsWrong : ChangeSpec := { name := "exchangeReturns", fn := fun _ => fun
  | [d1, d2, d3] => { results := [.lit (.bool false)], args := [d1, d2, d3] }
  | _ => none }
def ExchangeReturnsWrongFalsely : Prop := exchangeReturnsRow.holds Tryz.pinned (OpenSpec.ofChange exchangeReturnsWrong)

/-- 'flatlandlaw05.ExchangeBijective': WHATEVER THE INPUT: true; the input reads as it did. -/
def exchangeBijectiveSpec : ChangeSpec := { name := "exchangeBijective", fn := fun _ => fun
  | [d1, d2, d3] => { results := [.lit (.bool true)], args := [d1, d2, d3] }
  | _ => none }
def exchangeBijectiveRow : OpenClaim := { program := "ythfaleobmefibaagreat", sum := "e4d0b4607f227dc654c1cba84281fdb6fdd96cc14f280b874018336cc71a3c66", func := "flatland/flatlandlaw05.ExchangeBijective", spec := "exchangeBijective", unfollowed := true, recurses := true, apart := false }
def ExchangeBijectiveSaid : Prop := exchangeBijectiveRow.holds Tryz.pinned (OpenSpec.ofChange exchangeBijectiveSpec)

/-- ITS FALSE NEIGHBOUR: 'it returns false'. Refute it at one input. -/
def exchangeBijectiveWrong : ChangeSpec := { name := "exchangeBijective", fn := fun _ => fun
  | [d1, d2, d3] => { results := [.lit (.bool false)], args := [d1, d2, d3] }
  | _ => none }
def ExchangeBijectiveWrongFalsely : Prop := exchangeBijectiveRow.holds Tryz.pinned (OpenSpec.ofChange exchangeBijectiveWrong)

/-- 'flatlandlaw05.ExchangeConnections': WHATEVER THE INPUT: true; the input reads as it did. -/
def exchangeConnectionsSpec : ChangeSpec := { name := "exchangeConnections", fn := fun _ => fun
  | [d1, d2] => { results := [.lit (.bool true)], args := [d1, d2] }
  | _ => none }
def exchangeConnectionsRow : OpenClaim := { program := "ythfaleobmefibaagreat", sum := "e4d0b4607f227dc654c1cba84281fdb6fdd96cc14f280b874018336cc71a3c66", func := "flatland/flatlandlaw05.ExchangeConnections", spec := "exchangeConnections", unfollowed := true, recurses := true, apart := false }
def ExchangeConnectionsSaid : Prop := exchangeConnectionsRow.holds Tryz.pinned (OpenSpec.ofChange exchangeConnectionsSpec)

/-- ITS FALSE NEIGHBOUR: 'it returns false'. Refute it at one input. -/
def exchangeConnectionsWrong : ChangeSpec := { name := "exchangeConnections", fn := fun _ => fun
  | [d1, d2] => { results := [.lit (.bool false)], args := [d1, d2] }
  | _ => none }
def ExchangeConnectionsWrongFalsely : Prop := exchangeConnectionsRow.holds Tryz.pinned (OpenSpec.ofChange exchangeConnectionsWrong)

/-- 'flatlandlaw05.ExchangeChecks': WHATEVER THE INPUT: true; the input reads as it did. -/
def exchangeChecksSpec : ChangeSpec := { name := "exchangeChecks", fn := fun _ => fun
  | [d] => { results := [.lit (.bool true)], args := [d] }
  | _ => none }
def exchangeChecksRow : OpenClaim := { program := "ythfaleobmefibaagreat", sum := "e4d0b4607f227dc654c1cba84281fdb6fdd96cc14f280b874018336cc71a3c66", func := "flatland/flatlandlaw05.ExchangeChecks", spec := "exchangeChecks", unfollowed := true, recurses := true, apart := false }
def ExchangeChecksSaid : Prop := exchangeChecksRow.holds Tryz.pinned (OpenSpec.ofChange exchangeChecksSpec)

/-- ITS FALSE NEIGHBOUR: 'it returns false'. Refute it at one input. -/
def exchangeChecksWrong : ChangeSpec := { name := "exchangeChecks", fn := fun _ => fun
  | [d] => { results := [.lit (.bool false)], args := [d] }
  | _ => none }
def ExchangeChecksWrongFalsely : Prop := exchangeChecksRow.holds Tryz.pinned (OpenSpec.ofChange exchangeChecksWrong)

/-- 'flatlandlaw05.ExchangeSteps': WHATEVER THE INPUT: true; the input reads as it did. -/
def exchangeStepsSpec : ChangeSpec := { name := "exchangeSteps", fn := fun _ => fun
  | [d1, d2] => { results := [.lit (.bool true)], args := [d1, d2] }
  | _ => none }
def exchangeStepsRow : OpenClaim := { program := "ythfaleobmefibaagreat", sum := "e4d0b4607f227dc654c1cba84281fdb6fdd96cc14f280b874018336cc71a3c66", func := "flatland/flatlandlaw05.ExchangeSteps", spec := "exchangeSteps", inPlace := ["slices.overlaps[int]"], unfollowed := true, recurses := true, apart := false }
def ExchangeStepsSaid : Prop := exchangeStepsRow.holds Tryz.pinned (OpenSpec.ofChange exchangeStepsSpec)

/-- ITS FALSE NEIGHBOUR: 'it returns false'. Refute it at one input. -/
def exchangeStepsWrong : ChangeSpec := { name := "exchangeSteps", fn := fun _ => fun
  | [d1, d2] => { results := [.lit (.bool false)], args := [d1, d2] }
  | _ => none }
def ExchangeStepsWrongFalsely : Prop := exchangeStepsRow.holds Tryz.pinned (OpenSpec.ofChange exchangeStepsWrong)

/-- 'flatlandlaw05.ExchangePaths': WHATEVER THE INPUT: true; the input reads as it did. -/
def exchangePathsSpec : ChangeSpec := { name := "exchangePaths", fn := fun _ => fun
  | [d1, d2, d3] => { results := [.lit (.bool true)], args := [d1, d2, d3] }
  | _ => none }
def exchangePathsRow : OpenClaim := { program := "ythfaleobmefibaagreat", sum := "e4d0b4607f227dc654c1cba84281fdb6fdd96cc14f280b874018336cc71a3c66", func := "flatland/flatlandlaw05.ExchangePaths", spec := "exchangePaths", inPlace := ["slices.overlaps[int]"], unfollowed := true, recurses := true, apart := false }
def ExchangePathsSaid : Prop := exchangePathsRow.holds Tryz.pinned (OpenSpec.ofChange exchangePathsSpec)

/-- ITS FALSE NEIGHBOUR: 'it returns false'. Refute it at one input. -/
def exchangePathsWrong : ChangeSpec := { name := "exchangePaths", fn := fun _ => fun
  | [d1, d2, d3] => { results := [.lit (.bool false)], args := [d1, d2, d3] }
  | _ => none }
def ExchangePathsWrongFalsely : Prop := exchangePathsRow.holds Tryz.pinned (OpenSpec.ofChange exchangePathsWrong)

/-- 'flatlandlaw05.ExchangeCones': WHATEVER THE INPUT: true; the input reads as it did. -/
def exchangeConesSpec : ChangeSpec := { name := "exchangeCones", fn := fun _ => fun
  | [d1, d2] => { results := [.lit (.bool true)], args := [d1, d2] }
  | _ => none }
def exchangeConesRow : OpenClaim := { program := "ythfaleobmefibaagreat", sum := "e4d0b4607f227dc654c1cba84281fdb6fdd96cc14f280b874018336cc71a3c66", func := "flatland/flatlandlaw05.ExchangeCones", spec := "exchangeCones", inPlace := ["slices.overlaps[int]"], unfollowed := true, recurses := true, apart := false }
def ExchangeConesSaid : Prop := exchangeConesRow.holds Tryz.pinned (OpenSpec.ofChange exchangeConesSpec)

/-- ITS FALSE NEIGHBOUR: 'it returns false'. Refute it at one input. -/
def exchangeConesWrong : ChangeSpec := { name := "exchangeCones", fn := fun _ => fun
  | [d1, d2] => { results := [.lit (.bool false)], args := [d1, d2] }
  | _ => none }
def ExchangeConesWrongFalsely : Prop := exchangeConesRow.holds Tryz.pinned (OpenSpec.ofChange exchangeConesWrong)

/-- 'flatlandlaw05.ExchangeInduces': WHATEVER THE INPUT: true; the input reads as it did. -/
def exchangeInducesSpec : ChangeSpec := { name := "exchangeInduces", fn := fun _ => fun
  | [d1, d2] => { results := [.lit (.bool true)], args := [d1, d2] }
  | _ => none }
def exchangeInducesRow : OpenClaim := { program := "ythfaleobmefibaagreat", sum := "e4d0b4607f227dc654c1cba84281fdb6fdd96cc14f280b874018336cc71a3c66", func := "flatland/flatlandlaw05.ExchangeInduces", spec := "exchangeInduces", inPlace := ["slices.overlaps[int]"], unfollowed := true, recurses := true, apart := false }
def ExchangeInducesSaid : Prop := exchangeInducesRow.holds Tryz.pinned (OpenSpec.ofChange exchangeInducesSpec)

/-- ITS FALSE NEIGHBOUR: 'it returns false'. Refute it at one input. -/
def exchangeInducesWrong : ChangeSpec := { name := "exchangeInduces", fn := fun _ => fun
  | [d1, d2] => { results := [.lit (.bool false)], args := [d1, d2] }
  | _ => none }
def ExchangeInducesWrongFalsely : Prop := exchangeInducesRow.holds Tryz.pinned (OpenSpec.ofChange exchangeInducesWrong)

/- THE SECOND FORM. 'bulk': how many values and letters a reading holds, each counted each time it is reached (what is shared counts as often as it is met; a slice's spare places count too). A statement '..UptoSaid' is the law's where the arguments, and the package variables that the reading takes, are together of bulk at most 1048576: NARROWER than '..Said'. Prove '..Said' where nothing that the law and all that it calls make is longer than what came in: it says more and counts as full. Else prove '..UptoSaid'. A law counts once. -/
mutual
def uptoBulk {H : Type} : DataW H → Nat
  | .lit (.string bytes) => bytes.length + 1
  | .lit _ => 1
  | .nil => 1
  | .ptr d => uptoBulk d + 1
  | .slice elems spare => uptoBulkAll elems + uptoBulkAll spare + 1
  | .agg parts => uptoBulkAll parts + 1
  | .iface _ d => uptoBulk d + 1
  | .map entries => uptoBulkEntries entries + 1
  | .held _ => 1
def uptoBulkAll {H : Type} : List (DataW H) → Nat
  | [] => 0
  | d :: r => uptoBulk d + uptoBulkAll r
def uptoBulkEntries {H : Type} : List (Lit × DataW H) → Nat
  | [] => 0
  | x :: r => uptoBulkEntry x + uptoBulkEntries r
def uptoBulkEntry {H : Type} : Lit × DataW H → Nat
  | (.string bytes, d) => bytes.length + uptoBulk d + 1
  | (_, d) => uptoBulk d + 1
 end
def uptoSmall : (H : Type) → List (DataW H) → Bool := fun _ ds => decide (uptoBulkAll ds ≤ 1048576)
def OpenSpec.upto (s : _root_.Go.ChangeSpec) : _root_.Go.OpenSpec := { _root_.Go.OpenSpec.ofChange s with cond := some uptoSmall }

/-- 'flatlandlaw05.ExchangeOrbits', WHERE WHAT IT READS IS OF BULK AT MOST 1048576: true; the input reads as it did. -/
def exchangeOrbitsUptoRow : OpenClaim := { program := "ythfaleobmefibaagreat", sum := "e4d0b4607f227dc654c1cba84281fdb6fdd96cc14f280b874018336cc71a3c66", func := "flatland/flatlandlaw05.ExchangeOrbits", spec := "exchangeOrbits", unfollowed := true, recurses := true, apart := false, narrowed := true }
def ExchangeOrbitsUptoSaid : Prop := exchangeOrbitsUptoRow.holds Tryz.pinned (OpenSpec.upto exchangeOrbitsSpec)

/-- 'flatlandlaw05.ExchangeReturns', WHERE WHAT IT READS IS OF BULK AT MOST 1048576: true; the input reads as it did. -/
def exchangeReturnsUptoRow : OpenClaim := { program := "ythfaleobmefibaagreat", sum := "e4d0b4607f227dc654c1cba84281fdb6fdd96cc14f280b874018336cc71a3c66", func := "flatland/flatlandlaw05.ExchangeReturns", spec := "exchangeReturns", unfollowed := true, recurses := true, apart := false, narrowed := true }
def ExchangeReturnsUptoSaid : Prop := exchangeReturnsUptoRow.holds Tryz.pinned (OpenSpec.upto exchangeReturnsSpec)

/-- 'flatlandlaw05.ExchangeBijective', WHERE WHAT IT READS IS OF BULK AT MOST 1048576: true; the input reads as it did. -/
def exchangeBijectiveUptoRow : OpenClaim := { program := "ythfaleobmefibaagreat", sum := "e4d0b4607f227dc654c1cba84281fdb6fdd96cc14f280b874018336cc71a3c66", func := "flatland/flatlandlaw05.ExchangeBijective", spec := "exchangeBijective", unfollowed := true, recurses := true, apart := false, narrowed := true }
def ExchangeBijectiveUptoSaid : Prop := exchangeBijectiveUptoRow.holds Tryz.pinned (OpenSpec.upto exchangeBijectiveSpec)

/-- 'flatlandlaw05.ExchangeConnections', WHERE WHAT IT READS IS OF BULK AT MOST 1048576: true; the input reads as it did. -/
def exchangeConnectionsUptoRow : OpenClaim := { program := "ythfaleobmefibaagreat", sum := "e4d0b4607f227dc654c1cba84281fdb6fdd96cc14f280b874018336cc71a3c66", func := "flatland/flatlandlaw05.ExchangeConnections", spec := "exchangeConnections", unfollowed := true, recurses := true, apart := false, narrowed := true }
def ExchangeConnectionsUptoSaid : Prop := exchangeConnectionsUptoRow.holds Tryz.pinned (OpenSpec.upto exchangeConnectionsSpec)

/-- 'flatlandlaw05.ExchangeChecks', WHERE WHAT IT READS IS OF BULK AT MOST 1048576: true; the input reads as it did. -/
def exchangeChecksUptoRow : OpenClaim := { program := "ythfaleobmefibaagreat", sum := "e4d0b4607f227dc654c1cba84281fdb6fdd96cc14f280b874018336cc71a3c66", func := "flatland/flatlandlaw05.ExchangeChecks", spec := "exchangeChecks", unfollowed := true, recurses := true, apart := false, narrowed := true }
def ExchangeChecksUptoSaid : Prop := exchangeChecksUptoRow.holds Tryz.pinned (OpenSpec.upto exchangeChecksSpec)

/-- 'flatlandlaw05.ExchangeSteps', WHERE WHAT IT READS IS OF BULK AT MOST 1048576: true; the input reads as it did. -/
def exchangeStepsUptoRow : OpenClaim := { program := "ythfaleobmefibaagreat", sum := "e4d0b4607f227dc654c1cba84281fdb6fdd96cc14f280b874018336cc71a3c66", func := "flatland/flatlandlaw05.ExchangeSteps", spec := "exchangeSteps", inPlace := ["slices.overlaps[int]"], unfollowed := true, recurses := true, apart := false, narrowed := true }
def ExchangeStepsUptoSaid : Prop := exchangeStepsUptoRow.holds Tryz.pinned (OpenSpec.upto exchangeStepsSpec)

/-- 'flatlandlaw05.ExchangePaths', WHERE WHAT IT READS IS OF BULK AT MOST 1048576: true; the input reads as it did. -/
def exchangePathsUptoRow : OpenClaim := { program := "ythfaleobmefibaagreat", sum := "e4d0b4607f227dc654c1cba84281fdb6fdd96cc14f280b874018336cc71a3c66", func := "flatland/flatlandlaw05.ExchangePaths", spec := "exchangePaths", inPlace := ["slices.overlaps[int]"], unfollowed := true, recurses := true, apart := false, narrowed := true }
def ExchangePathsUptoSaid : Prop := exchangePathsUptoRow.holds Tryz.pinned (OpenSpec.upto exchangePathsSpec)

/-- 'flatlandlaw05.ExchangeCones', WHERE WHAT IT READS IS OF BULK AT MOST 1048576: true; the input reads as it did. -/
def exchangeConesUptoRow : OpenClaim := { program := "ythfaleobmefibaagreat", sum := "e4d0b4607f227dc654c1cba84281fdb6fdd96cc14f280b874018336cc71a3c66", func := "flatland/flatlandlaw05.ExchangeCones", spec := "exchangeCones", inPlace := ["slices.overlaps[int]"], unfollowed := true, recurses := true, apart := false, narrowed := true }
def ExchangeConesUptoSaid : Prop := exchangeConesUptoRow.holds Tryz.pinned (OpenSpec.upto exchangeConesSpec)

/-- 'flatlandlaw05.ExchangeInduces', WHERE WHAT IT READS IS OF BULK AT MOST 1048576: true; the input reads as it did. -/
def exchangeInducesUptoRow : OpenClaim := { program := "ythfaleobmefibaagreat", sum := "e4d0b4607f227dc654c1cba84281fdb6fdd96cc14f280b874018336cc71a3c66", func := "flatland/flatlandlaw05.ExchangeInduces", spec := "exchangeInduces", inPlace := ["slices.overlaps[int]"], unfollowed := true, recurses := true, apart := false, narrowed := true }
def ExchangeInducesUptoSaid : Prop := exchangeInducesUptoRow.holds Tryz.pinned (OpenSpec.upto exchangeInducesSpec)

end Rows
end Go.Proofs.YthfaleobmefibaaGreat
