/-
  No cell of these rows narrows 'for every input' (looked for: loops, veiled, ifaces, maps, wideKeys, modest, calm, conditions, laid).
  DERIVED. THE GIVEN ROWS OF THIS SEAT. 11 by the template 'for every input the law returns true; each argument reads behind the call as it read before'; 0 by the template 'total and deterministic' (their statements: YthldpmfobhemkaaTotals.lean).
  GIVEN WITH THE SEED: the statements are not yours to turn. If you find one false, say at which input.
  Laid BY PROGRAM, IN A SANDBOX (cutbox-rows.mjs): the forced cells as the released guide's own fill.sh prints them over the translation 18291cede54ff96d… (all of the seat's roots in one cut). By AI agents, Wed Nov 11 2026. No macro, syntax, notation, axiom, sorry.
-/
import Derived.Test.YthldpmfobhemkaaChecked
import GoSem.Claim
import GoSem.ClaimJoined
import GoSem.ClaimMapViews
import Derived.JoinedTies
import Derived.KernelRfl
namespace Go.Proofs.Ythldpmfobhemkaa
/- THE CELL 'sum', in the pinned program and in every row, IS THE sha256 OF THE DUMP (.gsa) THAT YthldpmfobhemkaaProg.lean LOADS. Nothing in Lean hashes anything: it is a label: what it is worth is what the hold of that sum in a sandbox is worth. -/
noncomputable def Try.pinned : Pinned := { name := "ythldpmfobhemkaa", sum := "18291cede54ff96d00ca1165a6fd491b8d5dc2f9fea062fb7bc5ec4e8edc2b24", checked := Try.checked }
namespace Rows
def none {H : Type} : Left H := { results := [], args := [] }

/-- 'commutatorlaw01.WordOrder': WHATEVER THE INPUT: true; the input reads as it did. -/
def wordOrderSpec : ChangeSpec := { name := "wordOrder", fn := fun _ => fun
  | [d1, d2, d3] => { results := [.lit (.bool true)], args := [d1, d2, d3] }
  | _ => none }
def wordOrderRow : OpenClaim := { program := "ythldpmfobhemkaa", sum := "18291cede54ff96d00ca1165a6fd491b8d5dc2f9fea062fb7bc5ec4e8edc2b24", func := "commutator/commutatorlaw01.WordOrder", spec := "wordOrder", apart := false }
def WordOrderSaid : Prop := wordOrderRow.holds Try.pinned (OpenSpec.ofChange wordOrderSpec)

/-- ITS FALSE NEIGHBOUR: 'it returns false'. Refute it at one input. -/
def wordOrderWrong : ChangeSpec := { name := "wordOrder", fn := fun _ => fun
  | [d1, d2, d3] => { results := [.lit (.bool false)], args := [d1, d2, d3] }
  | _ => none }
def WordOrderWrongFalsely : Prop := wordOrderRow.holds Try.pinned (OpenSpec.ofChange wordOrderWrong)

/-- 'commutatorlaw01.WordShifts': WHATEVER THE INPUT: true; the input reads as it did. -/
def wordShiftsSpec : ChangeSpec := { name := "wordShifts", fn := fun _ => fun
  | [d1, d2] => { results := [.lit (.bool true)], args := [d1, d2] }
  | _ => none }
def wordShiftsRow : OpenClaim := { program := "ythldpmfobhemkaa", sum := "18291cede54ff96d00ca1165a6fd491b8d5dc2f9fea062fb7bc5ec4e8edc2b24", func := "commutator/commutatorlaw01.WordShifts", spec := "wordShifts", apart := false }
def WordShiftsSaid : Prop := wordShiftsRow.holds Try.pinned (OpenSpec.ofChange wordShiftsSpec)

/-- ITS FALSE NEIGHBOUR: 'it returns false'. Refute it at one input. -/
def wordShiftsWrong : ChangeSpec := { name := "wordShifts", fn := fun _ => fun
  | [d1, d2] => { results := [.lit (.bool false)], args := [d1, d2] }
  | _ => none }
def WordShiftsWrongFalsely : Prop := wordShiftsRow.holds Try.pinned (OpenSpec.ofChange wordShiftsWrong)

/-- 'commutatorlaw01.WordMuls': WHATEVER THE INPUT: true; the input reads as it did. -/
def wordMulsSpec : ChangeSpec := { name := "wordMuls", fn := fun _ => fun
  | [d1, d2, d3] => { results := [.lit (.bool true)], args := [d1, d2, d3] }
  | _ => none }
def wordMulsRow : OpenClaim := { program := "ythldpmfobhemkaa", sum := "18291cede54ff96d00ca1165a6fd491b8d5dc2f9fea062fb7bc5ec4e8edc2b24", func := "commutator/commutatorlaw01.WordMuls", spec := "wordMuls", apart := false }
def WordMulsSaid : Prop := wordMulsRow.holds Try.pinned (OpenSpec.ofChange wordMulsSpec)

/-- ITS FALSE NEIGHBOUR: 'it returns false'. Refute it at one input. -/
def wordMulsWrong : ChangeSpec := { name := "wordMuls", fn := fun _ => fun
  | [d1, d2, d3] => { results := [.lit (.bool false)], args := [d1, d2, d3] }
  | _ => none }
def WordMulsWrongFalsely : Prop := wordMulsRow.holds Try.pinned (OpenSpec.ofChange wordMulsWrong)

/-- 'commutatorlaw01.WordNear': WHATEVER THE INPUT: true; the input reads as it did. -/
def wordNearSpec : ChangeSpec := { name := "wordNear", fn := fun _ => fun
  | [d1, d2] => { results := [.lit (.bool true)], args := [d1, d2] }
  | _ => none }
def wordNearRow : OpenClaim := { program := "ythldpmfobhemkaa", sum := "18291cede54ff96d00ca1165a6fd491b8d5dc2f9fea062fb7bc5ec4e8edc2b24", func := "commutator/commutatorlaw01.WordNear", spec := "wordNear", apart := false }
def WordNearSaid : Prop := wordNearRow.holds Try.pinned (OpenSpec.ofChange wordNearSpec)

/-- ITS FALSE NEIGHBOUR: 'it returns false'. Refute it at one input. -/
def wordNearWrong : ChangeSpec := { name := "wordNear", fn := fun _ => fun
  | [d1, d2] => { results := [.lit (.bool false)], args := [d1, d2] }
  | _ => none }
def WordNearWrongFalsely : Prop := wordNearRow.holds Try.pinned (OpenSpec.ofChange wordNearWrong)

/-- 'commutatorlaw01.WordSymmetric': WHATEVER THE INPUT: true; the input reads as it did. -/
def wordSymmetricSpec : ChangeSpec := { name := "wordSymmetric", fn := fun _ => fun
  | [d1, d2] => { results := [.lit (.bool true)], args := [d1, d2] }
  | _ => none }
def wordSymmetricRow : OpenClaim := { program := "ythldpmfobhemkaa", sum := "18291cede54ff96d00ca1165a6fd491b8d5dc2f9fea062fb7bc5ec4e8edc2b24", func := "commutator/commutatorlaw01.WordSymmetric", spec := "wordSymmetric", apart := false }
def WordSymmetricSaid : Prop := wordSymmetricRow.holds Try.pinned (OpenSpec.ofChange wordSymmetricSpec)

/-- ITS FALSE NEIGHBOUR: 'it returns false'. Refute it at one input. -/
def wordSymmetricWrong : ChangeSpec := { name := "wordSymmetric", fn := fun _ => fun
  | [d1, d2] => { results := [.lit (.bool false)], args := [d1, d2] }
  | _ => none }
def WordSymmetricWrongFalsely : Prop := wordSymmetricRow.holds Try.pinned (OpenSpec.ofChange wordSymmetricWrong)

/-- 'commutatorlaw01.WordAdds': WHATEVER THE INPUT: true; the input reads as it did. -/
def wordAddsSpec : ChangeSpec := { name := "wordAdds", fn := fun _ => fun
  | [d1, d2] => { results := [.lit (.bool true)], args := [d1, d2] }
  | _ => none }
def wordAddsRow : OpenClaim := { program := "ythldpmfobhemkaa", sum := "18291cede54ff96d00ca1165a6fd491b8d5dc2f9fea062fb7bc5ec4e8edc2b24", func := "commutator/commutatorlaw01.WordAdds", spec := "wordAdds", apart := false }
def WordAddsSaid : Prop := wordAddsRow.holds Try.pinned (OpenSpec.ofChange wordAddsSpec)

/-- ITS FALSE NEIGHBOUR: 'it returns false'. Refute it at one input. -/
def wordAddsWrong : ChangeSpec := { name := "wordAdds", fn := fun _ => fun
  | [d1, d2] => { results := [.lit (.bool false)], args := [d1, d2] }
  | _ => none }
def WordAddsWrongFalsely : Prop := wordAddsRow.holds Try.pinned (OpenSpec.ofChange wordAddsWrong)

/-- 'commutatorlaw01.WordMonotone': WHATEVER THE INPUT: true; the input reads as it did. -/
def wordMonotoneSpec : ChangeSpec := { name := "wordMonotone", fn := fun _ => fun
  | [d1, d2, d3] => { results := [.lit (.bool true)], args := [d1, d2, d3] }
  | _ => none }
def wordMonotoneRow : OpenClaim := { program := "ythldpmfobhemkaa", sum := "18291cede54ff96d00ca1165a6fd491b8d5dc2f9fea062fb7bc5ec4e8edc2b24", func := "commutator/commutatorlaw01.WordMonotone", spec := "wordMonotone", apart := false }
def WordMonotoneSaid : Prop := wordMonotoneRow.holds Try.pinned (OpenSpec.ofChange wordMonotoneSpec)

/-- ITS FALSE NEIGHBOUR: 'it returns false'. Refute it at one input. -/
def wordMonotoneWrong : ChangeSpec := { name := "wordMonotone", fn := fun _ => fun
  | [d1, d2, d3] => { results := [.lit (.bool false)], args := [d1, d2, d3] }
  | _ => none }
def WordMonotoneWrongFalsely : Prop := wordMonotoneRow.holds Try.pinned (OpenSpec.ofChange wordMonotoneWrong)

/-- 'commutatorlaw01.WordChecks': WHATEVER THE INPUT: true; the input reads as it did. -/
def wordChecksSpec : ChangeSpec := { name := "wordChecks", fn := fun _ => fun
  | [d1, d2] => { results := [.lit (.bool true)], args := [d1, d2] }
  | _ => none }
def wordChecksRow : OpenClaim := { program := "ythldpmfobhemkaa", sum := "18291cede54ff96d00ca1165a6fd491b8d5dc2f9fea062fb7bc5ec4e8edc2b24", func := "commutator/commutatorlaw01.WordChecks", spec := "wordChecks", apart := false }
def WordChecksSaid : Prop := wordChecksRow.holds Try.pinned (OpenSpec.ofChange wordChecksSpec)

/-- ITS FALSE NEIGHBOUR: 'it returns false'. Refute it at one input. -/
def wordChecksWrong : ChangeSpec := { name := "wordChecks", fn := fun _ => fun
  | [d1, d2] => { results := [.lit (.bool false)], args := [d1, d2] }
  | _ => none }
def WordChecksWrongFalsely : Prop := wordChecksRow.holds Try.pinned (OpenSpec.ofChange wordChecksWrong)

/-- 'commutatorlaw01.WordConverts': WHATEVER THE INPUT: true; the input reads as it did. -/
def wordConvertsSpec : ChangeSpec := { name := "wordConverts", fn := fun _ => fun
  | [d1, d2, d3] => { results := [.lit (.bool true)], args := [d1, d2, d3] }
  | _ => none }
def wordConvertsRow : OpenClaim := { program := "ythldpmfobhemkaa", sum := "18291cede54ff96d00ca1165a6fd491b8d5dc2f9fea062fb7bc5ec4e8edc2b24", func := "commutator/commutatorlaw01.WordConverts", spec := "wordConverts", apart := false }
def WordConvertsSaid : Prop := wordConvertsRow.holds Try.pinned (OpenSpec.ofChange wordConvertsSpec)

/-- ITS FALSE NEIGHBOUR: 'it returns false'. Refute it at one input. -/
def wordConvertsWrong : ChangeSpec := { name := "wordConverts", fn := fun _ => fun
  | [d1, d2, d3] => { results := [.lit (.bool false)], args := [d1, d2, d3] }
  | _ => none }
def WordConvertsWrongFalsely : Prop := wordConvertsRow.holds Try.pinned (OpenSpec.ofChange wordConvertsWrong)

/-- 'commutatorlaw01.WordBack': WHATEVER THE INPUT: true; the input reads as it did. -/
def wordBackSpec : ChangeSpec := { name := "wordBack", fn := fun _ => fun
  | [d1, d2, d3] => { results := [.lit (.bool true)], args := [d1, d2, d3] }
  | _ => none }
def wordBackRow : OpenClaim := { program := "ythldpmfobhemkaa", sum := "18291cede54ff96d00ca1165a6fd491b8d5dc2f9fea062fb7bc5ec4e8edc2b24", func := "commutator/commutatorlaw01.WordBack", spec := "wordBack", apart := false }
def WordBackSaid : Prop := wordBackRow.holds Try.pinned (OpenSpec.ofChange wordBackSpec)

/-- ITS FALSE NEIGHBOUR: 'it returns false'. Refute it at one input. -/
def wordBackWrong : ChangeSpec := { name := "wordBack", fn := fun _ => fun
  | [d1, d2, d3] => { results := [.lit (.bool false)], args := [d1, d2, d3] }
  | _ => none }
def WordBackWrongFalsely : Prop := wordBackRow.holds Try.pinned (OpenSpec.ofChange wordBackWrong)

/-- 'commutatorlaw01.WordDivs': WHATEVER THE INPUT: true; the input reads as it did. -/
def wordDivsSpec : ChangeSpec := { name := "wordDivs", fn := fun _ => fun
  | [d1, d2, d3] => { results := [.lit (.bool true)], args := [d1, d2, d3] }
  | _ => none }
def wordDivsRow : OpenClaim := { program := "ythldpmfobhemkaa", sum := "18291cede54ff96d00ca1165a6fd491b8d5dc2f9fea062fb7bc5ec4e8edc2b24", func := "commutator/commutatorlaw01.WordDivs", spec := "wordDivs", apart := false }
def WordDivsSaid : Prop := wordDivsRow.holds Try.pinned (OpenSpec.ofChange wordDivsSpec)

/-- ITS FALSE NEIGHBOUR: 'it returns false'. Refute it at one input. -/
def wordDivsWrong : ChangeSpec := { name := "wordDivs", fn := fun _ => fun
  | [d1, d2, d3] => { results := [.lit (.bool false)], args := [d1, d2, d3] }
  | _ => none }
def WordDivsWrongFalsely : Prop := wordDivsRow.holds Try.pinned (OpenSpec.ofChange wordDivsWrong)

/- THE SECOND FORM. 'bulk': how many values and letters a reading holds, each counted each time it is reached (what is shared counts as often as it is met; a slice's spare places count too). A statement '..UptoSaid' is the law's where the arguments, and the package variables that the reading takes, are together of bulk at most 1048576: NARROWER than '..Said'. Prove '..Said' where nothing that the law and all that it calls make is longer than what came in: it says more and counts as full. Else prove '..UptoSaid'. A law counts once. -/
mutual
def uptoBulk {H : Type} : DataW H → Nat
  | .lit (.string bytes) => bytes.length + 1
  | .lit _ => 1
  | .nil => 1
  | .ptr d => uptoBulk d + 1
  | .slice elems spare => uptoBulkAll elems + uptoBulkAll spare + 1
  | .agg parts => uptoBulkAll parts + 1
  | .iface _ d => uptoBulk d + 1
  | .map entries => uptoBulkEntries entries + 1
  | .held _ => 1
def uptoBulkAll {H : Type} : List (DataW H) → Nat
  | [] => 0
  | d :: r => uptoBulk d + uptoBulkAll r
def uptoBulkEntries {H : Type} : List (Lit × DataW H) → Nat
  | [] => 0
  | x :: r => uptoBulkEntry x + uptoBulkEntries r
def uptoBulkEntry {H : Type} : Lit × DataW H → Nat
  | (.string bytes, d) => bytes.length + uptoBulk d + 1
  | (_, d) => uptoBulk d + 1
 end
def uptoSmall : (H : Type) → List (DataW H) → Bool := fun _ ds => decide (uptoBulkAll ds ≤ 1048576)
def OpenSpec.upto (s : _root_.Go.ChangeSpec) : _root_.Go.OpenSpec := { _root_.Go.OpenSpec.ofChange s with cond := some uptoSmall }

/-- 'commutatorlaw01.WordOrder', WHERE WHAT IT READS IS OF BULK AT MOST 1048576: true; the input reads as it did. -/
def wordOrderUptoRow : OpenClaim := { program := "ythldpmfobhemkaa", sum := "18291cede54ff96d00ca1165a6fd491b8d5dc2f9fea062fb7bc5ec4e8edc2b24", func := "commutator/commutatorlaw01.WordOrder", spec := "wordOrder", apart := false, narrowed := true }
def WordOrderUptoSaid : Prop := wordOrderUptoRow.holds Try.pinned (OpenSpec.upto wordOrderSpec)

/-- 'commutatorlaw01.WordShifts', WHERE WHAT IT READS IS OF BULK AT MOST 1048576: true; the input reads as it did. -/
def wordShiftsUptoRow : OpenClaim := { program := "ythldpmfobhemkaa", sum := "18291cede54ff96d00ca1165a6fd491b8d5dc2f9fea062fb7bc5ec4e8edc2b24", func := "commutator/commutatorlaw01.WordShifts", spec := "wordShifts", apart := false, narrowed := true }
def WordShiftsUptoSaid : Prop := wordShiftsUptoRow.holds Try.pinned (OpenSpec.upto wordShiftsSpec)

/-- 'commutatorlaw01.WordMuls', WHERE WHAT IT READS IS OF BULK AT MOST 1048576: true; the input reads as it did. -/
def wordMulsUptoRow : OpenClaim := { program := "ythldpmfobhemkaa", sum := "18291cede54ff96d00ca1165a6fd491b8d5dc2f9fea062fb7bc5ec4e8edc2b24", func := "commutator/commutatorlaw01.WordMuls", spec := "wordMuls", apart := false, narrowed := true }
def WordMulsUptoSaid : Prop := wordMulsUptoRow.holds Try.pinned (OpenSpec.upto wordMulsSpec)

/-- 'commutatorlaw01.WordNear', WHERE WHAT IT READS IS OF BULK AT MOST 1048576: true; the input reads as it did. -/
def wordNearUptoRow : OpenClaim := { program := "ythldpmfobhemkaa", sum := "18291cede54ff96d00ca1165a6fd491b8d5dc2f9fea062fb7bc5ec4e8edc2b24", func := "commutator/commutatorlaw01.WordNear", spec := "wordNear", apart := false, narrowed := true }
def WordNearUptoSaid : Prop := wordNearUptoRow.holds Try.pinned (OpenSpec.upto wordNearSpec)

/-- 'commutatorlaw01.WordSymmetric', WHERE WHAT IT READS IS OF BULK AT MOST 1048576: true; the input reads as it did. -/
def wordSymmetricUptoRow : OpenClaim := { program := "ythldpmfobhemkaa", sum := "18291cede54ff96d00ca1165a6fd491b8d5dc2f9fea062fb7bc5ec4e8edc2b24", func := "commutator/commutatorlaw01.WordSymmetric", spec := "wordSymmetric", apart := false, narrowed := true }
def WordSymmetricUptoSaid : Prop := wordSymmetricUptoRow.holds Try.pinned (OpenSpec.upto wordSymmetricSpec)

/-- 'commutatorlaw01.WordAdds', WHERE WHAT IT READS IS OF BULK AT MOST 1048576: true; the input reads as it did. -/
def wordAddsUptoRow : OpenClaim := { program := "ythldpmfobhemkaa", sum := "18291cede54ff96d00ca1165a6fd491b8d5dc2f9fea062fb7bc5ec4e8edc2b24", func := "commutator/commutatorlaw01.WordAdds", spec := "wordAdds", apart := false, narrowed := true }
def WordAddsUptoSaid : Prop := wordAddsUptoRow.holds Try.pinned (OpenSpec.upto wordAddsSpec)

/-- 'commutatorlaw01.WordMonotone', WHERE WHAT IT READS IS OF BULK AT MOST 1048576: true; the input reads as it did. -/
def wordMonotoneUptoRow : OpenClaim := { program := "ythldpmfobhemkaa", sum := "18291cede54ff96d00ca1165a6fd491b8d5dc2f9fea062fb7bc5ec4e8edc2b24", func := "commutator/commutatorlaw01.WordMonotone", spec := "wordMonotone", apart := false, narrowed := true }
def WordMonotoneUptoSaid : Prop := wordMonotoneUptoRow.holds Try.pinned (OpenSpec.upto wordMonotoneSpec)

/-- 'commutatorlaw01.WordChecks', WHERE WHAT IT READS IS OF BULK AT MOST 1048576: true; the input reads as it did. -/
def wordChecksUptoRow : OpenClaim := { program := "ythldpmfobhemkaa", sum := "18291cede54ff96d00ca1165a6fd491b8d5dc2f9fea062fb7bc5ec4e8edc2b24", func := "commutator/commutatorlaw01.WordChecks", spec := "wordChecks", apart := false, narrowed := true }
def WordChecksUptoSaid : Prop := wordChecksUptoRow.holds Try.pinned (OpenSpec.upto wordChecksSpec)

/-- 'commutatorlaw01.WordConverts', WHERE WHAT IT READS IS OF BULK AT MOST 1048576: true; the input reads as it did. -/
def wordConvertsUptoRow : OpenClaim := { program := "ythldpmfobhemkaa", sum := "18291cede54ff96d00ca1165a6fd491b8d5dc2f9fea062fb7bc5ec4e8edc2b24", func := "commutator/commutatorlaw01.WordConverts", spec := "wordConverts", apart := false, narrowed := true }
def WordConvertsUptoSaid : Prop := wordConvertsUptoRow.holds Try.pinned (OpenSpec.upto wordConvertsSpec)

/-- 'commutatorlaw01.WordBack', WHERE WHAT IT READS IS OF BULK AT MOST 1048576: true; the input reads as it did. -/
def wordBackUptoRow : OpenClaim := { program := "ythldpmfobhemkaa", sum := "18291cede54ff96d00ca1165a6fd491b8d5dc2f9fea062fb7bc5ec4e8edc2b24", func := "commutator/commutatorlaw01.WordBack", spec := "wordBack", apart := false, narrowed := true }
def WordBackUptoSaid : Prop := wordBackUptoRow.holds Try.pinned (OpenSpec.upto wordBackSpec)

/-- 'commutatorlaw01.WordDivs', WHERE WHAT IT READS IS OF BULK AT MOST 1048576: true; the input reads as it did. -/
def wordDivsUptoRow : OpenClaim := { program := "ythldpmfobhemkaa", sum := "18291cede54ff96d00ca1165a6fd491b8d5dc2f9fea062fb7bc5ec4e8edc2b24", func := "commutator/commutatorlaw01.WordDivs", spec := "wordDivs", apart := false, narrowed := true }
def WordDivsUptoSaid : Prop := wordDivsUptoRow.holds Try.pinned (OpenSpec.upto wordDivsSpec)

end Rows
end Go.Proofs.Ythldpmfobhemkaa
