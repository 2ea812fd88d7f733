/-
  No cell of these rows narrows 'for every input' (looked for: loops, veiled, ifaces, maps, wideKeys, modest, calm, conditions, laid).
  DERIVED. THE GIVEN ROWS OF THIS SEAT. 9 by the template 'for every input the law returns true; each argument reads behind the call as it read before'; 0 by the template 'total and deterministic' (their statements: YtckhlcifpeocdaaTotals.lean).
  GIVEN WITH THE SEED: the statements are not yours to turn. If you find one false, say at which input.
  Laid BY PROGRAM, IN A SANDBOX (cutbox-rows.mjs): the forced cells as the released guide's own fill.sh prints them over the translation 3eb8325fc3feb5a9… (all of the seat's roots in one cut). By AI agents, Wed Nov 11 2026. No macro, syntax, notation, axiom, sorry.
-/
import Derived.Test.YtckhlcifpeocdaaChecked
import GoSem.Claim
import GoSem.ClaimJoined
import GoSem.ClaimMapViews
import Derived.JoinedTies
import Derived.KernelRfl
namespace Go.Proofs.Ytckhlcifpeocdaa
/- THE CELL 'sum', in the pinned program and in every row, IS THE sha256 OF THE DUMP (.gsa) THAT YtckhlcifpeocdaaProg.lean LOADS. Nothing in Lean hashes anything: it is a label: what it is worth is what the hold of that sum in a sandbox is worth. -/
noncomputable def Try.pinned : Pinned := { name := "ytckhlcifpeocdaa", sum := "3eb8325fc3feb5a94d47f7d3a8a5ab9c1a4633e0a7982412dc1958d38844c9d5", checked := Try.checked }
namespace Rows
def none {H : Type} : Left H := { results := [], args := [] }

/-- 'commutatorlaw29.ShaftChecks': WHATEVER THE INPUT: true; the input reads as it did. -/
def shaftChecksSpec : ChangeSpec := { name := "shaftChecks", fn := fun _ => fun
  | [d] => { results := [.lit (.bool true)], args := [d] }
  | _ => none }
def shaftChecksRow : OpenClaim := { program := "ytckhlcifpeocdaa", sum := "3eb8325fc3feb5a94d47f7d3a8a5ab9c1a4633e0a7982412dc1958d38844c9d5", func := "commutator/commutatorlaw29.ShaftChecks", spec := "shaftChecks", apart := false }
def ShaftChecksSaid : Prop := shaftChecksRow.holds Try.pinned (OpenSpec.ofChange shaftChecksSpec)

/-- ITS FALSE NEIGHBOUR: 'it returns false'. Refute it at one input. -/
def shaftChecksWrong : ChangeSpec := { name := "shaftChecks", fn := fun _ => fun
  | [d] => { results := [.lit (.bool false)], args := [d] }
  | _ => none }
def ShaftChecksWrongFalsely : Prop := shaftChecksRow.holds Try.pinned (OpenSpec.ofChange shaftChecksWrong)

/-- 'commutatorlaw29.ShaftSteps': WHATEVER THE INPUT: true; the input reads as it did. -/
def shaftStepsSpec : ChangeSpec := { name := "shaftSteps", fn := fun _ => fun
  | [d1, d2, d3] => { results := [.lit (.bool true)], args := [d1, d2, d3] }
  | _ => none }
def shaftStepsRow : OpenClaim := { program := "ytckhlcifpeocdaa", sum := "3eb8325fc3feb5a94d47f7d3a8a5ab9c1a4633e0a7982412dc1958d38844c9d5", func := "commutator/commutatorlaw29.ShaftSteps", spec := "shaftSteps", apart := false }
def ShaftStepsSaid : Prop := shaftStepsRow.holds Try.pinned (OpenSpec.ofChange shaftStepsSpec)

/-- ITS FALSE NEIGHBOUR: 'it returns false'. Refute it at one input. -/
def shaftStepsWrong : ChangeSpec := { name := "shaftSteps", fn := fun _ => fun
  | [d1, d2, d3] => { results := [.lit (.bool false)], args := [d1, d2, d3] }
  | _ => none }
def ShaftStepsWrongFalsely : Prop := shaftStepsRow.holds Try.pinned (OpenSpec.ofChange shaftStepsWrong)

/-- 'commutatorlaw29.ShaftRests': WHATEVER THE INPUT: true; the input reads as it did. -/
def shaftRestsSpec : ChangeSpec := { name := "shaftRests", fn := fun _ => fun
  | [d1, d2, d3] => { results := [.lit (.bool true)], args := [d1, d2, d3] }
  | _ => none }
def shaftRestsRow : OpenClaim := { program := "ytckhlcifpeocdaa", sum := "3eb8325fc3feb5a94d47f7d3a8a5ab9c1a4633e0a7982412dc1958d38844c9d5", func := "commutator/commutatorlaw29.ShaftRests", spec := "shaftRests", apart := false }
def ShaftRestsSaid : Prop := shaftRestsRow.holds Try.pinned (OpenSpec.ofChange shaftRestsSpec)

/-- ITS FALSE NEIGHBOUR: 'it returns false'. Refute it at one input. -/
def shaftRestsWrong : ChangeSpec := { name := "shaftRests", fn := fun _ => fun
  | [d1, d2, d3] => { results := [.lit (.bool false)], args := [d1, d2, d3] }
  | _ => none }
def ShaftRestsWrongFalsely : Prop := shaftRestsRow.holds Try.pinned (OpenSpec.ofChange shaftRestsWrong)

/-- 'commutatorlaw29.ShaftMirrors': WHATEVER THE INPUT: true; the input reads as it did. -/
def shaftMirrorsSpec : ChangeSpec := { name := "shaftMirrors", fn := fun _ => fun
  | [d1, d2, d3] => { results := [.lit (.bool true)], args := [d1, d2, d3] }
  | _ => none }
def shaftMirrorsRow : OpenClaim := { program := "ytckhlcifpeocdaa", sum := "3eb8325fc3feb5a94d47f7d3a8a5ab9c1a4633e0a7982412dc1958d38844c9d5", func := "commutator/commutatorlaw29.ShaftMirrors", spec := "shaftMirrors", apart := false }
def ShaftMirrorsSaid : Prop := shaftMirrorsRow.holds Try.pinned (OpenSpec.ofChange shaftMirrorsSpec)

/-- ITS FALSE NEIGHBOUR: 'it returns false'. Refute it at one input. -/
def shaftMirrorsWrong : ChangeSpec := { name := "shaftMirrors", fn := fun _ => fun
  | [d1, d2, d3] => { results := [.lit (.bool false)], args := [d1, d2, d3] }
  | _ => none }
def ShaftMirrorsWrongFalsely : Prop := shaftMirrorsRow.holds Try.pinned (OpenSpec.ofChange shaftMirrorsWrong)

/-- 'commutatorlaw29.ShaftAngles': WHATEVER THE INPUT: true; the input reads as it did. -/
def shaftAnglesSpec : ChangeSpec := { name := "shaftAngles", fn := fun _ => fun
  | [d] => { results := [.lit (.bool true)], args := [d] }
  | _ => none }
def shaftAnglesRow : OpenClaim := { program := "ytckhlcifpeocdaa", sum := "3eb8325fc3feb5a94d47f7d3a8a5ab9c1a4633e0a7982412dc1958d38844c9d5", func := "commutator/commutatorlaw29.ShaftAngles", spec := "shaftAngles", apart := false }
def ShaftAnglesSaid : Prop := shaftAnglesRow.holds Try.pinned (OpenSpec.ofChange shaftAnglesSpec)

/-- ITS FALSE NEIGHBOUR: 'it returns false'. Refute it at one input. -/
def shaftAnglesWrong : ChangeSpec := { name := "shaftAngles", fn := fun _ => fun
  | [d] => { results := [.lit (.bool false)], args := [d] }
  | _ => none }
def ShaftAnglesWrongFalsely : Prop := shaftAnglesRow.holds Try.pinned (OpenSpec.ofChange shaftAnglesWrong)

/-- 'commutatorlaw29.ShaftMoves': WHATEVER THE INPUT: true; the input reads as it did. -/
def shaftMovesSpec : ChangeSpec := { name := "shaftMoves", fn := fun _ => fun
  | [d1, d2, d3] => { results := [.lit (.bool true)], args := [d1, d2, d3] }
  | _ => none }
def shaftMovesRow : OpenClaim := { program := "ytckhlcifpeocdaa", sum := "3eb8325fc3feb5a94d47f7d3a8a5ab9c1a4633e0a7982412dc1958d38844c9d5", func := "commutator/commutatorlaw29.ShaftMoves", spec := "shaftMoves", apart := false }
def ShaftMovesSaid : Prop := shaftMovesRow.holds Try.pinned (OpenSpec.ofChange shaftMovesSpec)

/-- ITS FALSE NEIGHBOUR: 'it returns false'. Refute it at one input. -/
def shaftMovesWrong : ChangeSpec := { name := "shaftMoves", fn := fun _ => fun
  | [d1, d2, d3] => { results := [.lit (.bool false)], args := [d1, d2, d3] }
  | _ => none }
def ShaftMovesWrongFalsely : Prop := shaftMovesRow.holds Try.pinned (OpenSpec.ofChange shaftMovesWrong)

/-- 'commutatorlaw29.ShaftFastest': WHATEVER THE INPUT: true; the input reads as it did. -/
def shaftFastestSpec : ChangeSpec := { name := "shaftFastest", fn := fun _ => fun
  | [d1, d2, d3] => { results := [.lit (.bool true)], args := [d1, d2, d3] }
  | _ => none }
def shaftFastestRow : OpenClaim := { program := "ytckhlcifpeocdaa", sum := "3eb8325fc3feb5a94d47f7d3a8a5ab9c1a4633e0a7982412dc1958d38844c9d5", func := "commutator/commutatorlaw29.ShaftFastest", spec := "shaftFastest", apart := false }
def ShaftFastestSaid : Prop := shaftFastestRow.holds Try.pinned (OpenSpec.ofChange shaftFastestSpec)

/-- ITS FALSE NEIGHBOUR: 'it returns false'. Refute it at one input. -/
def shaftFastestWrong : ChangeSpec := { name := "shaftFastest", fn := fun _ => fun
  | [d1, d2, d3] => { results := [.lit (.bool false)], args := [d1, d2, d3] }
  | _ => none }
def ShaftFastestWrongFalsely : Prop := shaftFastestRow.holds Try.pinned (OpenSpec.ofChange shaftFastestWrong)

/-- 'commutatorlaw29.ShaftStops': WHATEVER THE INPUT: true; the input reads as it did. -/
def shaftStopsSpec : ChangeSpec := { name := "shaftStops", fn := fun _ => fun
  | [d1, d2, d3] => { results := [.lit (.bool true)], args := [d1, d2, d3] }
  | _ => none }
def shaftStopsRow : OpenClaim := { program := "ytckhlcifpeocdaa", sum := "3eb8325fc3feb5a94d47f7d3a8a5ab9c1a4633e0a7982412dc1958d38844c9d5", func := "commutator/commutatorlaw29.ShaftStops", spec := "shaftStops", apart := false }
def ShaftStopsSaid : Prop := shaftStopsRow.holds Try.pinned (OpenSpec.ofChange shaftStopsSpec)

/-- ITS FALSE NEIGHBOUR: 'it returns false'. Refute it at one input. -/
def shaftStopsWrong : ChangeSpec := { name := "shaftStops", fn := fun _ => fun
  | [d1, d2, d3] => { results := [.lit (.bool false)], args := [d1, d2, d3] }
  | _ => none }
def ShaftStopsWrongFalsely : Prop := shaftStopsRow.holds Try.pinned (OpenSpec.ofChange shaftStopsWrong)

/-- 'commutatorlaw29.ShaftBounds': WHATEVER THE INPUT: true; the input reads as it did. -/
def shaftBoundsSpec : ChangeSpec := { name := "shaftBounds", fn := fun _ => fun
  | [d1, d2, d3] => { results := [.lit (.bool true)], args := [d1, d2, d3] }
  | _ => none }
def shaftBoundsRow : OpenClaim := { program := "ytckhlcifpeocdaa", sum := "3eb8325fc3feb5a94d47f7d3a8a5ab9c1a4633e0a7982412dc1958d38844c9d5", func := "commutator/commutatorlaw29.ShaftBounds", spec := "shaftBounds", apart := false }
def ShaftBoundsSaid : Prop := shaftBoundsRow.holds Try.pinned (OpenSpec.ofChange shaftBoundsSpec)

/-- ITS FALSE NEIGHBOUR: 'it returns false'. Refute it at one input. -/
def shaftBoundsWrong : ChangeSpec := { name := "shaftBounds", fn := fun _ => fun
  | [d1, d2, d3] => { results := [.lit (.bool false)], args := [d1, d2, d3] }
  | _ => none }
def ShaftBoundsWrongFalsely : Prop := shaftBoundsRow.holds Try.pinned (OpenSpec.ofChange shaftBoundsWrong)

/- THE SECOND FORM. 'bulk': how many values and letters a reading holds, each counted each time it is reached (what is shared counts as often as it is met; a slice's spare places count too). A statement '..UptoSaid' is the law's where the arguments, and the package variables that the reading takes, are together of bulk at most 1048576: NARROWER than '..Said'. Prove '..Said' where nothing that the law and all that it calls make is longer than what came in: it says more and counts as full. Else prove '..UptoSaid'. A law counts once. -/
mutual
def uptoBulk {H : Type} : DataW H → Nat
  | .lit (.string bytes) => bytes.length + 1
  | .lit _ => 1
  | .nil => 1
  | .ptr d => uptoBulk d + 1
  | .slice elems spare => uptoBulkAll elems + uptoBulkAll spare + 1
  | .agg parts => uptoBulkAll parts + 1
  | .iface _ d => uptoBulk d + 1
  | .map entries => uptoBulkEntries entries + 1
  | .held _ => 1
def uptoBulkAll {H : Type} : List (DataW H) → Nat
  | [] => 0
  | d :: r => uptoBulk d + uptoBulkAll r
def uptoBulkEntries {H : Type} : List (Lit × DataW H) → Nat
  | [] => 0
  | x :: r => uptoBulkEntry x + uptoBulkEntries r
def uptoBulkEntry {H : Type} : Lit × DataW H → Nat
  | (.string bytes, d) => bytes.length + uptoBulk d + 1
  | (_, d) => uptoBulk d + 1
 end
def uptoSmall : (H : Type) → List (DataW H) → Bool := fun _ ds => decide (uptoBulkAll ds ≤ 1048576)
def OpenSpec.upto (s : _root_.Go.ChangeSpec) : _root_.Go.OpenSpec := { _root_.Go.OpenSpec.ofChange s with cond := some uptoSmall }

/-- 'commutatorlaw29.ShaftChecks', WHERE WHAT IT READS IS OF BULK AT MOST 1048576: true; the input reads as it did. -/
def shaftChecksUptoRow : OpenClaim := { program := "ytckhlcifpeocdaa", sum := "3eb8325fc3feb5a94d47f7d3a8a5ab9c1a4633e0a7982412dc1958d38844c9d5", func := "commutator/commutatorlaw29.ShaftChecks", spec := "shaftChecks", apart := false, narrowed := true }
def ShaftChecksUptoSaid : Prop := shaftChecksUptoRow.holds Try.pinned (OpenSpec.upto shaftChecksSpec)

/-- 'commutatorlaw29.ShaftSteps', WHERE WHAT IT READS IS OF BULK AT MOST 1048576: true; the input reads as it did. -/
def shaftStepsUptoRow : OpenClaim := { program := "ytckhlcifpeocdaa", sum := "3eb8325fc3feb5a94d47f7d3a8a5ab9c1a4633e0a7982412dc1958d38844c9d5", func := "commutator/commutatorlaw29.ShaftSteps", spec := "shaftSteps", apart := false, narrowed := true }
def ShaftStepsUptoSaid : Prop := shaftStepsUptoRow.holds Try.pinned (OpenSpec.upto shaftStepsSpec)

/-- 'commutatorlaw29.ShaftRests', WHERE WHAT IT READS IS OF BULK AT MOST 1048576: true; the input reads as it did. -/
def shaftRestsUptoRow : OpenClaim := { program := "ytckhlcifpeocdaa", sum := "3eb8325fc3feb5a94d47f7d3a8a5ab9c1a4633e0a7982412dc1958d38844c9d5", func := "commutator/commutatorlaw29.ShaftRests", spec := "shaftRests", apart := false, narrowed := true }
def ShaftRestsUptoSaid : Prop := shaftRestsUptoRow.holds Try.pinned (OpenSpec.upto shaftRestsSpec)

/-- 'commutatorlaw29.ShaftMirrors', WHERE WHAT IT READS IS OF BULK AT MOST 1048576: true; the input reads as it did. -/
def shaftMirrorsUptoRow : OpenClaim := { program := "ytckhlcifpeocdaa", sum := "3eb8325fc3feb5a94d47f7d3a8a5ab9c1a4633e0a7982412dc1958d38844c9d5", func := "commutator/commutatorlaw29.ShaftMirrors", spec := "shaftMirrors", apart := false, narrowed := true }
def ShaftMirrorsUptoSaid : Prop := shaftMirrorsUptoRow.holds Try.pinned (OpenSpec.upto shaftMirrorsSpec)

/-- 'commutatorlaw29.ShaftAngles', WHERE WHAT IT READS IS OF BULK AT MOST 1048576: true; the input reads as it did. -/
def shaftAnglesUptoRow : OpenClaim := { program := "ytckhlcifpeocdaa", sum := "3eb8325fc3feb5a94d47f7d3a8a5ab9c1a4633e0a7982412dc1958d38844c9d5", func := "commutator/commutatorlaw29.ShaftAngles", spec := "shaftAngles", apart := false, narrowed := true }
def ShaftAnglesUptoSaid : Prop := shaftAnglesUptoRow.holds Try.pinned (OpenSpec.upto shaftAnglesSpec)

/-- 'commutatorlaw29.ShaftMoves', WHERE WHAT IT READS IS OF BULK AT MOST 1048576: true; the input reads as it did. -/
def shaftMovesUptoRow : OpenClaim := { program := "ytckhlcifpeocdaa", sum := "3eb8325fc3feb5a94d47f7d3a8a5ab9c1a4633e0a7982412dc1958d38844c9d5", func := "commutator/commutatorlaw29.ShaftMoves", spec := "shaftMoves", apart := false, narrowed := true }
def ShaftMovesUptoSaid : Prop := shaftMovesUptoRow.holds Try.pinned (OpenSpec.upto shaftMovesSpec)

/-- 'commutatorlaw29.ShaftFastest', WHERE WHAT IT READS IS OF BULK AT MOST 1048576: true; the input reads as it did. -/
def shaftFastestUptoRow : OpenClaim := { program := "ytckhlcifpeocdaa", sum := "3eb8325fc3feb5a94d47f7d3a8a5ab9c1a4633e0a7982412dc1958d38844c9d5", func := "commutator/commutatorlaw29.ShaftFastest", spec := "shaftFastest", apart := false, narrowed := true }
def ShaftFastestUptoSaid : Prop := shaftFastestUptoRow.holds Try.pinned (OpenSpec.upto shaftFastestSpec)

/-- 'commutatorlaw29.ShaftStops', WHERE WHAT IT READS IS OF BULK AT MOST 1048576: true; the input reads as it did. -/
def shaftStopsUptoRow : OpenClaim := { program := "ytckhlcifpeocdaa", sum := "3eb8325fc3feb5a94d47f7d3a8a5ab9c1a4633e0a7982412dc1958d38844c9d5", func := "commutator/commutatorlaw29.ShaftStops", spec := "shaftStops", apart := false, narrowed := true }
def ShaftStopsUptoSaid : Prop := shaftStopsUptoRow.holds Try.pinned (OpenSpec.upto shaftStopsSpec)

/-- 'commutatorlaw29.ShaftBounds', WHERE WHAT IT READS IS OF BULK AT MOST 1048576: true; the input reads as it did. -/
def shaftBoundsUptoRow : OpenClaim := { program := "ytckhlcifpeocdaa", sum := "3eb8325fc3feb5a94d47f7d3a8a5ab9c1a4633e0a7982412dc1958d38844c9d5", func := "commutator/commutatorlaw29.ShaftBounds", spec := "shaftBounds", apart := false, narrowed := true }
def ShaftBoundsUptoSaid : Prop := shaftBoundsUptoRow.holds Try.pinned (OpenSpec.upto shaftBoundsSpec)

end Rows
end Go.Proofs.Ytckhlcifpeocdaa
