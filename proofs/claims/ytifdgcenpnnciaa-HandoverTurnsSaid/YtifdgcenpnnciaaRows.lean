/-
  No cell of these rows narrows 'for every input' (looked for: loops, veiled, ifaces, maps, wideKeys, modest, calm, conditions, laid).
  DERIVED. THE GIVEN ROWS OF THIS SEAT. 4 by the template 'for every input the law returns true; each argument reads behind the call as it read before'; 0 by the template 'total and deterministic' (their statements: YtifdgcenpnnciaaTotals.lean).
  GIVEN WITH THE SEED: the statements are not yours to turn. If you find one false, say at which input.
  Laid BY PROGRAM, IN A SANDBOX (cutbox-rows.mjs): the forced cells as the released guide's own fill.sh prints them over the translation 918a1f0bf8a3a0f7… (all of the seat's roots in one cut). By AI agents, Wed Nov 11 2026. No macro, syntax, notation, axiom, sorry.
-/
import Derived.Test.YtifdgcenpnnciaaChecked
import GoSem.Claim
import GoSem.ClaimJoined
import GoSem.ClaimMapViews
import Derived.JoinedTies
import Derived.KernelRfl
namespace Go.Proofs.Ytifdgcenpnnciaa
/- THE CELL 'sum', in the pinned program and in every row, IS THE sha256 OF THE DUMP (.gsa) THAT YtifdgcenpnnciaaProg.lean LOADS. Nothing in Lean hashes anything: it is a label: what it is worth is what the hold of that sum in a sandbox is worth. -/
noncomputable def Try.pinned : Pinned := { name := "ytifdgcenpnnciaa", sum := "918a1f0bf8a3a0f7814301c06e4569ea8cea96e712826ffddf035afe9a87741e", checked := Try.checked }
namespace Rows
def none {H : Type} : Left H := { results := [], args := [] }

/-- 'commutatorlaw41.HandoverSteps': WHATEVER THE INPUT: true; the input reads as it did. -/
def handoverStepsSpec : ChangeSpec := { name := "handoverSteps", fn := fun _ => fun
  | [d1, d2, d3] => { results := [.lit (.bool true)], args := [d1, d2, d3] }
  | _ => none }
def handoverStepsRow : OpenClaim := { program := "ytifdgcenpnnciaa", sum := "918a1f0bf8a3a0f7814301c06e4569ea8cea96e712826ffddf035afe9a87741e", func := "commutator/commutatorlaw41.HandoverSteps", spec := "handoverSteps", apart := false }
def HandoverStepsSaid : Prop := handoverStepsRow.holds Try.pinned (OpenSpec.ofChange handoverStepsSpec)

/-- ITS FALSE NEIGHBOUR: 'it returns false'. Refute it at one input. -/
def handoverStepsWrong : ChangeSpec := { name := "handoverSteps", fn := fun _ => fun
  | [d1, d2, d3] => { results := [.lit (.bool false)], args := [d1, d2, d3] }
  | _ => none }
def HandoverStepsWrongFalsely : Prop := handoverStepsRow.holds Try.pinned (OpenSpec.ofChange handoverStepsWrong)

/-- 'commutatorlaw41.HandoverMoves': WHATEVER THE INPUT: true; the input reads as it did. -/
def handoverMovesSpec : ChangeSpec := { name := "handoverMoves", fn := fun _ => fun
  | [d1, d2, d3] => { results := [.lit (.bool true)], args := [d1, d2, d3] }
  | _ => none }
def handoverMovesRow : OpenClaim := { program := "ytifdgcenpnnciaa", sum := "918a1f0bf8a3a0f7814301c06e4569ea8cea96e712826ffddf035afe9a87741e", func := "commutator/commutatorlaw41.HandoverMoves", spec := "handoverMoves", apart := false }
def HandoverMovesSaid : Prop := handoverMovesRow.holds Try.pinned (OpenSpec.ofChange handoverMovesSpec)

/-- ITS FALSE NEIGHBOUR: 'it returns false'. Refute it at one input. -/
def handoverMovesWrong : ChangeSpec := { name := "handoverMoves", fn := fun _ => fun
  | [d1, d2, d3] => { results := [.lit (.bool false)], args := [d1, d2, d3] }
  | _ => none }
def HandoverMovesWrongFalsely : Prop := handoverMovesRow.holds Try.pinned (OpenSpec.ofChange handoverMovesWrong)

/-- 'commutatorlaw41.HandoverReaches': WHATEVER THE INPUT: true; the input reads as it did. -/
def handoverReachesSpec : ChangeSpec := { name := "handoverReaches", fn := fun _ => fun
  | [d1, d2, d3] => { results := [.lit (.bool true)], args := [d1, d2, d3] }
  | _ => none }
def handoverReachesRow : OpenClaim := { program := "ytifdgcenpnnciaa", sum := "918a1f0bf8a3a0f7814301c06e4569ea8cea96e712826ffddf035afe9a87741e", func := "commutator/commutatorlaw41.HandoverReaches", spec := "handoverReaches", apart := false }
def HandoverReachesSaid : Prop := handoverReachesRow.holds Try.pinned (OpenSpec.ofChange handoverReachesSpec)

/-- ITS FALSE NEIGHBOUR: 'it returns false'. Refute it at one input. -/
def handoverReachesWrong : ChangeSpec := { name := "handoverReaches", fn := fun _ => fun
  | [d1, d2, d3] => { results := [.lit (.bool false)], args := [d1, d2, d3] }
  | _ => none }
def HandoverReachesWrongFalsely : Prop := handoverReachesRow.holds Try.pinned (OpenSpec.ofChange handoverReachesWrong)

/-- 'commutatorlaw41.HandoverTurns': WHATEVER THE INPUT: true; the input reads as it did. -/
def handoverTurnsSpec : ChangeSpec := { name := "handoverTurns", fn := fun _ => fun
  | [d1, d2, d3] => { results := [.lit (.bool true)], args := [d1, d2, d3] }
  | _ => none }
def handoverTurnsRow : OpenClaim := { program := "ytifdgcenpnnciaa", sum := "918a1f0bf8a3a0f7814301c06e4569ea8cea96e712826ffddf035afe9a87741e", func := "commutator/commutatorlaw41.HandoverTurns", spec := "handoverTurns", apart := false }
def HandoverTurnsSaid : Prop := handoverTurnsRow.holds Try.pinned (OpenSpec.ofChange handoverTurnsSpec)

/-- ITS FALSE NEIGHBOUR: 'it returns false'. Refute it at one input. -/
def handoverTurnsWrong : ChangeSpec := { name := "handoverTurns", fn := fun _ => fun
  | [d1, d2, d3] => { results := [.lit (.bool false)], args := [d1, d2, d3] }
  | _ => none }
def HandoverTurnsWrongFalsely : Prop := handoverTurnsRow.holds Try.pinned (OpenSpec.ofChange handoverTurnsWrong)

/- THE SECOND FORM. 'bulk': how many values and letters a reading holds, each counted each time it is reached (what is shared counts as often as it is met; a slice's spare places count too). A statement '..UptoSaid' is the law's where the arguments, and the package variables that the reading takes, are together of bulk at most 1048576: NARROWER than '..Said'. Prove '..Said' where nothing that the law and all that it calls make is longer than what came in: it says more and counts as full. Else prove '..UptoSaid'. A law counts once. -/
mutual
def uptoBulk {H : Type} : DataW H → Nat
  | .lit (.string bytes) => bytes.length + 1
  | .lit _ => 1
  | .nil => 1
  | .ptr d => uptoBulk d + 1
  | .slice elems spare => uptoBulkAll elems + uptoBulkAll spare + 1
  | .agg parts => uptoBulkAll parts + 1
  | .iface _ d => uptoBulk d + 1
  | .map entries => uptoBulkEntries entries + 1
  | .held _ => 1
def uptoBulkAll {H : Type} : List (DataW H) → Nat
  | [] => 0
  | d :: r => uptoBulk d + uptoBulkAll r
def uptoBulkEntries {H : Type} : List (Lit × DataW H) → Nat
  | [] => 0
  | x :: r => uptoBulkEntry x + uptoBulkEntries r
def uptoBulkEntry {H : Type} : Lit × DataW H → Nat
  | (.string bytes, d) => bytes.length + uptoBulk d + 1
  | (_, d) => uptoBulk d + 1
 end
def uptoSmall : (H : Type) → List (DataW H) → Bool := fun _ ds => decide (uptoBulkAll ds ≤ 1048576)
def OpenSpec.upto (s : _root_.Go.ChangeSpec) : _root_.Go.OpenSpec := { _root_.Go.OpenSpec.ofChange s with cond := some uptoSmall }

/-- 'commutatorlaw41.HandoverSteps', WHERE WHAT IT READS IS OF BULK AT MOST 1048576: true; the input reads as it did. -/
def handoverStepsUptoRow : OpenClaim := { program := "ytifdgcenpnnciaa", sum := "918a1f0bf8a3a0f7814301c06e4569ea8cea96e712826ffddf035afe9a87741e", func := "commutator/commutatorlaw41.HandoverSteps", spec := "handoverSteps", apart := false, narrowed := true }
def HandoverStepsUptoSaid : Prop := handoverStepsUptoRow.holds Try.pinned (OpenSpec.upto handoverStepsSpec)

/-- 'commutatorlaw41.HandoverMoves', WHERE WHAT IT READS IS OF BULK AT MOST 1048576: true; the input reads as it did. -/
def handoverMovesUptoRow : OpenClaim := { program := "ytifdgcenpnnciaa", sum := "918a1f0bf8a3a0f7814301c06e4569ea8cea96e712826ffddf035afe9a87741e", func := "commutator/commutatorlaw41.HandoverMoves", spec := "handoverMoves", apart := false, narrowed := true }
def HandoverMovesUptoSaid : Prop := handoverMovesUptoRow.holds Try.pinned (OpenSpec.upto handoverMovesSpec)

/-- 'commutatorlaw41.HandoverReaches', WHERE WHAT IT READS IS OF BULK AT MOST 1048576: true; the input reads as it did. -/
def handoverReachesUptoRow : OpenClaim := { program := "ytifdgcenpnnciaa", sum := "918a1f0bf8a3a0f7814301c06e4569ea8cea96e712826ffddf035afe9a87741e", func := "commutator/commutatorlaw41.HandoverReaches", spec := "handoverReaches", apart := false, narrowed := true }
def HandoverReachesUptoSaid : Prop := handoverReachesUptoRow.holds Try.pinned (OpenSpec.upto handoverReachesSpec)

/-- 'commutatorlaw41.HandoverTurns', WHERE WHAT IT READS IS OF BULK AT MOST 1048576: true; the input reads as it did. -/
def handoverTurnsUptoRow : OpenClaim := { program := "ytifdgcenpnnciaa", sum := "918a1f0bf8a3a0f7814301c06e4569ea8cea96e712826ffddf035afe9a87741e", func := "commutator/commutatorlaw41.HandoverTurns", spec := "handoverTurns", apart := false, narrowed := true }
def HandoverTurnsUptoSaid : Prop := handoverTurnsUptoRow.holds Try.pinned (OpenSpec.upto handoverTurnsSpec)

end Rows
end Go.Proofs.Ytifdgcenpnnciaa
