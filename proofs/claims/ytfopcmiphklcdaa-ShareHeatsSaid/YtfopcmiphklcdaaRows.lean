/-
  No cell of these rows narrows 'for every input' (looked for: loops, veiled, ifaces, maps, wideKeys, modest, calm, conditions, laid).
  DERIVED. THE GIVEN ROWS OF THIS SEAT. 8 by the template 'for every input the law returns true; each argument reads behind the call as it read before'; 0 by the template 'total and deterministic' (their statements: YtfopcmiphklcdaaTotals.lean).
  GIVEN WITH THE SEED: the statements are not yours to turn. If you find one false, say at which input.
  Laid BY PROGRAM, IN A SANDBOX (cutbox-rows.mjs): the forced cells as the released guide's own fill.sh prints them over the translation 4bb299ab0606eba4… (all of the seat's roots in one cut). By AI agents, Wed Nov 11 2026. No macro, syntax, notation, axiom, sorry.
-/
import Derived.Test.YtfopcmiphklcdaaChecked
import GoSem.Claim
import GoSem.ClaimJoined
import GoSem.ClaimMapViews
import Derived.JoinedTies
import Derived.KernelRfl
namespace Go.Proofs.Ytfopcmiphklcdaa
/- THE CELL 'sum', in the pinned program and in every row, IS THE sha256 OF THE DUMP (.gsa) THAT YtfopcmiphklcdaaProg.lean LOADS. Nothing in Lean hashes anything: it is a label: what it is worth is what the hold of that sum in a sandbox is worth. -/
noncomputable def Try.pinned : Pinned := { name := "ytfopcmiphklcdaa", sum := "4bb299ab0606eba4b0ddc9ffccc495fa976c90e33d489a38423b2e6cecb3dc3b", checked := Try.checked }
namespace Rows
def none {H : Type} : Left H := { results := [], args := [] }

/-- 'commutatorlaw56.ShareDivides': WHATEVER THE INPUT: true; the input reads as it did. -/
def shareDividesSpec : ChangeSpec := { name := "shareDivides", fn := fun _ => fun
  | [d1, d2] => { results := [.lit (.bool true)], args := [d1, d2] }
  | _ => none }
def shareDividesRow : OpenClaim := { program := "ytfopcmiphklcdaa", sum := "4bb299ab0606eba4b0ddc9ffccc495fa976c90e33d489a38423b2e6cecb3dc3b", func := "commutator/commutatorlaw56.ShareDivides", spec := "shareDivides", unfollowed := true, recurses := true, apart := false }
def ShareDividesSaid : Prop := shareDividesRow.holds Try.pinned (OpenSpec.ofChange shareDividesSpec)

/-- ITS FALSE NEIGHBOUR: 'it returns false'. Refute it at one input. -/
def shareDividesWrong : ChangeSpec := { name := "shareDivides", fn := fun _ => fun
  | [d1, d2] => { results := [.lit (.bool false)], args := [d1, d2] }
  | _ => none }
def ShareDividesWrongFalsely : Prop := shareDividesRow.holds Try.pinned (OpenSpec.ofChange shareDividesWrong)

/-- 'commutatorlaw56.ShareWhole': WHATEVER THE INPUT: true; the input reads as it did. -/
def shareWholeSpec : ChangeSpec := { name := "shareWhole", fn := fun _ => fun
  | [d1, d2] => { results := [.lit (.bool true)], args := [d1, d2] }
  | _ => none }
def shareWholeRow : OpenClaim := { program := "ytfopcmiphklcdaa", sum := "4bb299ab0606eba4b0ddc9ffccc495fa976c90e33d489a38423b2e6cecb3dc3b", func := "commutator/commutatorlaw56.ShareWhole", spec := "shareWhole", unfollowed := true, recurses := true, apart := false }
def ShareWholeSaid : Prop := shareWholeRow.holds Try.pinned (OpenSpec.ofChange shareWholeSpec)

/-- ITS FALSE NEIGHBOUR: 'it returns false'. Refute it at one input. -/
def shareWholeWrong : ChangeSpec := { name := "shareWhole", fn := fun _ => fun
  | [d1, d2] => { results := [.lit (.bool false)], args := [d1, d2] }
  | _ => none }
def ShareWholeWrongFalsely : Prop := shareWholeRow.holds Try.pinned (OpenSpec.ofChange shareWholeWrong)

/-- 'commutatorlaw56.ShareFair': WHATEVER THE INPUT: true; the input reads as it did. -/
def shareFairSpec : ChangeSpec := { name := "shareFair", fn := fun _ => fun
  | [d1, d2] => { results := [.lit (.bool true)], args := [d1, d2] }
  | _ => none }
def shareFairRow : OpenClaim := { program := "ytfopcmiphklcdaa", sum := "4bb299ab0606eba4b0ddc9ffccc495fa976c90e33d489a38423b2e6cecb3dc3b", func := "commutator/commutatorlaw56.ShareFair", spec := "shareFair", unfollowed := true, recurses := true, apart := false }
def ShareFairSaid : Prop := shareFairRow.holds Try.pinned (OpenSpec.ofChange shareFairSpec)

/-- ITS FALSE NEIGHBOUR: 'it returns false'. Refute it at one input. -/
def shareFairWrong : ChangeSpec := { name := "shareFair", fn := fun _ => fun
  | [d1, d2] => { results := [.lit (.bool false)], args := [d1, d2] }
  | _ => none }
def ShareFairWrongFalsely : Prop := shareFairRow.holds Try.pinned (OpenSpec.ofChange shareFairWrong)

/-- 'commutatorlaw56.ShareChops': WHATEVER THE INPUT: true; the input reads as it did. -/
def shareChopsSpec : ChangeSpec := { name := "shareChops", fn := fun _ => fun
  | [d1, d2, d3] => { results := [.lit (.bool true)], args := [d1, d2, d3] }
  | _ => none }
def shareChopsRow : OpenClaim := { program := "ytfopcmiphklcdaa", sum := "4bb299ab0606eba4b0ddc9ffccc495fa976c90e33d489a38423b2e6cecb3dc3b", func := "commutator/commutatorlaw56.ShareChops", spec := "shareChops", unfollowed := true, recurses := true, apart := false }
def ShareChopsSaid : Prop := shareChopsRow.holds Try.pinned (OpenSpec.ofChange shareChopsSpec)

/-- ITS FALSE NEIGHBOUR: 'it returns false'. Refute it at one input. -/
def shareChopsWrong : ChangeSpec := { name := "shareChops", fn := fun _ => fun
  | [d1, d2, d3] => { results := [.lit (.bool false)], args := [d1, d2, d3] }
  | _ => none }
def ShareChopsWrongFalsely : Prop := shareChopsRow.holds Try.pinned (OpenSpec.ofChange shareChopsWrong)

/-- 'commutatorlaw56.ShareHeats': WHATEVER THE INPUT: true; the input reads as it did. -/
def shareHeatsSpec : ChangeSpec := { name := "shareHeats", fn := fun _ => fun
  | [d1, d2, d3] => { results := [.lit (.bool true)], args := [d1, d2, d3] }
  | _ => none }
def shareHeatsRow : OpenClaim := { program := "ytfopcmiphklcdaa", sum := "4bb299ab0606eba4b0ddc9ffccc495fa976c90e33d489a38423b2e6cecb3dc3b", func := "commutator/commutatorlaw56.ShareHeats", spec := "shareHeats", unfollowed := true, recurses := true, apart := false }
def ShareHeatsSaid : Prop := shareHeatsRow.holds Try.pinned (OpenSpec.ofChange shareHeatsSpec)

/-- ITS FALSE NEIGHBOUR: 'it returns false'. Refute it at one input. -/
def shareHeatsWrong : ChangeSpec := { name := "shareHeats", fn := fun _ => fun
  | [d1, d2, d3] => { results := [.lit (.bool false)], args := [d1, d2, d3] }
  | _ => none }
def ShareHeatsWrongFalsely : Prop := shareHeatsRow.holds Try.pinned (OpenSpec.ofChange shareHeatsWrong)

/-- 'commutatorlaw56.ShareAllows': WHATEVER THE INPUT: true; the input reads as it did. -/
def shareAllowsSpec : ChangeSpec := { name := "shareAllows", fn := fun _ => fun
  | [d1, d2, d3] => { results := [.lit (.bool true)], args := [d1, d2, d3] }
  | _ => none }
def shareAllowsRow : OpenClaim := { program := "ytfopcmiphklcdaa", sum := "4bb299ab0606eba4b0ddc9ffccc495fa976c90e33d489a38423b2e6cecb3dc3b", func := "commutator/commutatorlaw56.ShareAllows", spec := "shareAllows", unfollowed := true, recurses := true, apart := false }
def ShareAllowsSaid : Prop := shareAllowsRow.holds Try.pinned (OpenSpec.ofChange shareAllowsSpec)

/-- ITS FALSE NEIGHBOUR: 'it returns false'. Refute it at one input. -/
def shareAllowsWrong : ChangeSpec := { name := "shareAllows", fn := fun _ => fun
  | [d1, d2, d3] => { results := [.lit (.bool false)], args := [d1, d2, d3] }
  | _ => none }
def ShareAllowsWrongFalsely : Prop := shareAllowsRow.holds Try.pinned (OpenSpec.ofChange shareAllowsWrong)

/-- 'commutatorlaw56.ShareSheds': WHATEVER THE INPUT: true; the input reads as it did. -/
def shareShedsSpec : ChangeSpec := { name := "shareSheds", fn := fun _ => fun
  | [d1, d2] => { results := [.lit (.bool true)], args := [d1, d2] }
  | _ => none }
def shareShedsRow : OpenClaim := { program := "ytfopcmiphklcdaa", sum := "4bb299ab0606eba4b0ddc9ffccc495fa976c90e33d489a38423b2e6cecb3dc3b", func := "commutator/commutatorlaw56.ShareSheds", spec := "shareSheds", unfollowed := true, recurses := true, apart := false }
def ShareShedsSaid : Prop := shareShedsRow.holds Try.pinned (OpenSpec.ofChange shareShedsSpec)

/-- ITS FALSE NEIGHBOUR: 'it returns false'. Refute it at one input. -/
def shareShedsWrong : ChangeSpec := { name := "shareSheds", fn := fun _ => fun
  | [d1, d2] => { results := [.lit (.bool false)], args := [d1, d2] }
  | _ => none }
def ShareShedsWrongFalsely : Prop := shareShedsRow.holds Try.pinned (OpenSpec.ofChange shareShedsWrong)

/-- 'commutatorlaw56.ShareKept': WHATEVER THE INPUT: true; the input reads as it did. -/
def shareKeptSpec : ChangeSpec := { name := "shareKept", fn := fun _ => fun
  | [d1, d2] => { results := [.lit (.bool true)], args := [d1, d2] }
  | _ => none }
def shareKeptRow : OpenClaim := { program := "ytfopcmiphklcdaa", sum := "4bb299ab0606eba4b0ddc9ffccc495fa976c90e33d489a38423b2e6cecb3dc3b", func := "commutator/commutatorlaw56.ShareKept", spec := "shareKept", unfollowed := true, recurses := true, apart := false }
def ShareKeptSaid : Prop := shareKeptRow.holds Try.pinned (OpenSpec.ofChange shareKeptSpec)

/-- ITS FALSE NEIGHBOUR: 'it returns false'. Refute it at one input. -/
def shareKeptWrong : ChangeSpec := { name := "shareKept", fn := fun _ => fun
  | [d1, d2] => { results := [.lit (.bool false)], args := [d1, d2] }
  | _ => none }
def ShareKeptWrongFalsely : Prop := shareKeptRow.holds Try.pinned (OpenSpec.ofChange shareKeptWrong)

/- THE SECOND FORM. 'bulk': how many values and letters a reading holds, each counted each time it is reached (what is shared counts as often as it is met; a slice's spare places count too). A statement '..UptoSaid' is the law's where the arguments, and the package variables that the reading takes, are together of bulk at most 1048576: NARROWER than '..Said'. Prove '..Said' where nothing that the law and all that it calls make is longer than what came in: it says more and counts as full. Else prove '..UptoSaid'. A law counts once. -/
mutual
def uptoBulk {H : Type} : DataW H → Nat
  | .lit (.string bytes) => bytes.length + 1
  | .lit _ => 1
  | .nil => 1
  | .ptr d => uptoBulk d + 1
  | .slice elems spare => uptoBulkAll elems + uptoBulkAll spare + 1
  | .agg parts => uptoBulkAll parts + 1
  | .iface _ d => uptoBulk d + 1
  | .map entries => uptoBulkEntries entries + 1
  | .held _ => 1
def uptoBulkAll {H : Type} : List (DataW H) → Nat
  | [] => 0
  | d :: r => uptoBulk d + uptoBulkAll r
def uptoBulkEntries {H : Type} : List (Lit × DataW H) → Nat
  | [] => 0
  | x :: r => uptoBulkEntry x + uptoBulkEntries r
def uptoBulkEntry {H : Type} : Lit × DataW H → Nat
  | (.string bytes, d) => bytes.length + uptoBulk d + 1
  | (_, d) => uptoBulk d + 1
 end
def uptoSmall : (H : Type) → List (DataW H) → Bool := fun _ ds => decide (uptoBulkAll ds ≤ 1048576)
def OpenSpec.upto (s : _root_.Go.ChangeSpec) : _root_.Go.OpenSpec := { _root_.Go.OpenSpec.ofChange s with cond := some uptoSmall }

/-- 'commutatorlaw56.ShareDivides', WHERE WHAT IT READS IS OF BULK AT MOST 1048576: true; the input reads as it did. -/
def shareDividesUptoRow : OpenClaim := { program := "ytfopcmiphklcdaa", sum := "4bb299ab0606eba4b0ddc9ffccc495fa976c90e33d489a38423b2e6cecb3dc3b", func := "commutator/commutatorlaw56.ShareDivides", spec := "shareDivides", unfollowed := true, recurses := true, apart := false, narrowed := true }
def ShareDividesUptoSaid : Prop := shareDividesUptoRow.holds Try.pinned (OpenSpec.upto shareDividesSpec)

/-- 'commutatorlaw56.ShareWhole', WHERE WHAT IT READS IS OF BULK AT MOST 1048576: true; the input reads as it did. -/
def shareWholeUptoRow : OpenClaim := { program := "ytfopcmiphklcdaa", sum := "4bb299ab0606eba4b0ddc9ffccc495fa976c90e33d489a38423b2e6cecb3dc3b", func := "commutator/commutatorlaw56.ShareWhole", spec := "shareWhole", unfollowed := true, recurses := true, apart := false, narrowed := true }
def ShareWholeUptoSaid : Prop := shareWholeUptoRow.holds Try.pinned (OpenSpec.upto shareWholeSpec)

/-- 'commutatorlaw56.ShareFair', WHERE WHAT IT READS IS OF BULK AT MOST 1048576: true; the input reads as it did. -/
def shareFairUptoRow : OpenClaim := { program := "ytfopcmiphklcdaa", sum := "4bb299ab0606eba4b0ddc9ffccc495fa976c90e33d489a38423b2e6cecb3dc3b", func := "commutator/commutatorlaw56.ShareFair", spec := "shareFair", unfollowed := true, recurses := true, apart := false, narrowed := true }
def ShareFairUptoSaid : Prop := shareFairUptoRow.holds Try.pinned (OpenSpec.upto shareFairSpec)

/-- 'commutatorlaw56.ShareChops', WHERE WHAT IT READS IS OF BULK AT MOST 1048576: true; the input reads as it did. -/
def shareChopsUptoRow : OpenClaim := { program := "ytfopcmiphklcdaa", sum := "4bb299ab0606eba4b0ddc9ffccc495fa976c90e33d489a38423b2e6cecb3dc3b", func := "commutator/commutatorlaw56.ShareChops", spec := "shareChops", unfollowed := true, recurses := true, apart := false, narrowed := true }
def ShareChopsUptoSaid : Prop := shareChopsUptoRow.holds Try.pinned (OpenSpec.upto shareChopsSpec)

/-- 'commutatorlaw56.ShareHeats', WHERE WHAT IT READS IS OF BULK AT MOST 1048576: true; the input reads as it did. -/
def shareHeatsUptoRow : OpenClaim := { program := "ytfopcmiphklcdaa", sum := "4bb299ab0606eba4b0ddc9ffccc495fa976c90e33d489a38423b2e6cecb3dc3b", func := "commutator/commutatorlaw56.ShareHeats", spec := "shareHeats", unfollowed := true, recurses := true, apart := false, narrowed := true }
def ShareHeatsUptoSaid : Prop := shareHeatsUptoRow.holds Try.pinned (OpenSpec.upto shareHeatsSpec)

/-- 'commutatorlaw56.ShareAllows', WHERE WHAT IT READS IS OF BULK AT MOST 1048576: true; the input reads as it did. -/
def shareAllowsUptoRow : OpenClaim := { program := "ytfopcmiphklcdaa", sum := "4bb299ab0606eba4b0ddc9ffccc495fa976c90e33d489a38423b2e6cecb3dc3b", func := "commutator/commutatorlaw56.ShareAllows", spec := "shareAllows", unfollowed := true, recurses := true, apart := false, narrowed := true }
def ShareAllowsUptoSaid : Prop := shareAllowsUptoRow.holds Try.pinned (OpenSpec.upto shareAllowsSpec)

/-- 'commutatorlaw56.ShareSheds', WHERE WHAT IT READS IS OF BULK AT MOST 1048576: true; the input reads as it did. -/
def shareShedsUptoRow : OpenClaim := { program := "ytfopcmiphklcdaa", sum := "4bb299ab0606eba4b0ddc9ffccc495fa976c90e33d489a38423b2e6cecb3dc3b", func := "commutator/commutatorlaw56.ShareSheds", spec := "shareSheds", unfollowed := true, recurses := true, apart := false, narrowed := true }
def ShareShedsUptoSaid : Prop := shareShedsUptoRow.holds Try.pinned (OpenSpec.upto shareShedsSpec)

/-- 'commutatorlaw56.ShareKept', WHERE WHAT IT READS IS OF BULK AT MOST 1048576: true; the input reads as it did. -/
def shareKeptUptoRow : OpenClaim := { program := "ytfopcmiphklcdaa", sum := "4bb299ab0606eba4b0ddc9ffccc495fa976c90e33d489a38423b2e6cecb3dc3b", func := "commutator/commutatorlaw56.ShareKept", spec := "shareKept", unfollowed := true, recurses := true, apart := false, narrowed := true }
def ShareKeptUptoSaid : Prop := shareKeptUptoRow.holds Try.pinned (OpenSpec.upto shareKeptSpec)

end Rows
end Go.Proofs.Ytfopcmiphklcdaa
