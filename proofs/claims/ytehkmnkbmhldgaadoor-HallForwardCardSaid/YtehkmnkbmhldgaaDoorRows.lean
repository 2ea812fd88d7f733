/-
  NARROWER THAN 'FOR EVERY INPUT', by the rows' own cells (each row's printed sentence says how): HallSteps: laid · HallCodes: laid · HallGray: laid · HallStuck: laid · HallForward: laid · HallAngles: laid · HallSpeed: laid.
  DERIVED. THE GIVEN ROWS OF THIS SEAT. 7 by the template 'for every input the law returns true; each argument reads behind the call as it read before'; 0 by the template 'total and deterministic' (their statements: YtehkmnkbmhldgaaDoorTotals.lean).
  GIVEN WITH THE SEED: the statements are not yours to turn. If you find one false, say at which input.
  Laid BY PROGRAM, IN A SANDBOX (cutbox-rows.mjs): the forced cells as the released guide's own fill.sh prints them over the translation b81cc716df4dba3d… (all of the seat's roots in one cut). By AI agents, Wed Nov 11 2026. No macro, syntax, notation, axiom, sorry.
-/
import Derived.Test.YtehkmnkbmhldgaaDoorChecked
import GoSem.Claim
import GoSem.ClaimJoined
import GoSem.ClaimMapViews
import Derived.JoinedTies
import Derived.KernelRfl
namespace Go.Proofs.YtehkmnkbmhldgaaDoor
/- THE CELL 'sum', in the pinned program and in every row, IS THE sha256 OF THE DUMP (.gsa) THAT YtehkmnkbmhldgaaDoorProg.lean LOADS. Nothing in Lean hashes anything: it is a label: what it is worth is what the hold of that sum in a sandbox is worth. -/
noncomputable def Tryd.pinned : Pinned := { name := "ytehkmnkbmhldgaadoor", sum := "b81cc716df4dba3d3e33bff220fe6d88d99c60269e7965f09dc0262b14ad4353", checked := Tryd.checked }
namespace Rows
def none {H : Type} : Left H := { results := [], args := [] }

/- WHAT THE LISTED PACKAGE-LEVEL VARIABLES READ AS WHEN THE CALL BEGINS. Each datum BY PROGRAM (the guide's laid-datum.mjs) off the statement by which the dump's own 'gosem.cut.vars' lays the variable. In a bare row this is a premise. The card (YtehkmnkbmhldgaaDoorCards.lean) ties it to the program's text. -/
def laid_commutator_hall_edge {H : Type} : DataW H := .agg [.lit (.int .i64 0), .lit (.int .i64 10923), .lit (.int .i64 21846), .lit (.int .i64 32768), .lit (.int .i64 43691), .lit (.int .i64 54614), .lit (.int .i64 65536)]
def laid_commutator_hall_codes {H : Type} : DataW H := .agg [.lit (.int .i64 5), .lit (.int .i64 4), .lit (.int .i64 6), .lit (.int .i64 2), .lit (.int .i64 3), .lit (.int .i64 1)]

/-- 'commutatorlaw33.HallSteps': WHATEVER THE INPUT: true; the input reads as it did. -/
def hallStepsSpec : ChangeSpec := { name := "hallSteps", fn := fun _ => fun
  | [d1, d2] => { results := [.lit (.bool true)], args := [d1, d2] }
  | _ => none }
def hallStepsRow : OpenClaim := { program := "ytehkmnkbmhldgaadoor", sum := "b81cc716df4dba3d3e33bff220fe6d88d99c60269e7965f09dc0262b14ad4353", func := "commutator/commutatorlaw33.HallSteps", spec := "hallSteps", named := ["commutator/hall.codes", "commutator/hall.edge"], apart := false, laid := [("commutator/hall.edge", laid_commutator_hall_edge), ("commutator/hall.codes", laid_commutator_hall_codes)] }
def HallStepsSaid : Prop := hallStepsRow.holds Tryd.pinned (OpenSpec.ofChange hallStepsSpec)

/-- ITS FALSE NEIGHBOUR: 'it returns false'. Refute it at one input. -/
def hallStepsWrong : ChangeSpec := { name := "hallSteps", fn := fun _ => fun
  | [d1, d2] => { results := [.lit (.bool false)], args := [d1, d2] }
  | _ => none }
def HallStepsWrongFalsely : Prop := hallStepsRow.holds Tryd.pinned (OpenSpec.ofChange hallStepsWrong)

/-- 'commutatorlaw33.HallCodes': WHATEVER THE INPUT: true; the input reads as it did. -/
def hallCodesSpec : ChangeSpec := { name := "hallCodes", fn := fun _ => fun
  | [d1, d2] => { results := [.lit (.bool true)], args := [d1, d2] }
  | _ => none }
def hallCodesRow : OpenClaim := { program := "ytehkmnkbmhldgaadoor", sum := "b81cc716df4dba3d3e33bff220fe6d88d99c60269e7965f09dc0262b14ad4353", func := "commutator/commutatorlaw33.HallCodes", spec := "hallCodes", named := ["commutator/hall.codes", "commutator/hall.edge"], apart := false, laid := [("commutator/hall.edge", laid_commutator_hall_edge), ("commutator/hall.codes", laid_commutator_hall_codes)] }
def HallCodesSaid : Prop := hallCodesRow.holds Tryd.pinned (OpenSpec.ofChange hallCodesSpec)

/-- ITS FALSE NEIGHBOUR: 'it returns false'. Refute it at one input. -/
def hallCodesWrong : ChangeSpec := { name := "hallCodes", fn := fun _ => fun
  | [d1, d2] => { results := [.lit (.bool false)], args := [d1, d2] }
  | _ => none }
def HallCodesWrongFalsely : Prop := hallCodesRow.holds Tryd.pinned (OpenSpec.ofChange hallCodesWrong)

/-- 'commutatorlaw33.HallGray': WHATEVER THE INPUT: true; the input reads as it did. -/
def hallGraySpec : ChangeSpec := { name := "hallGray", fn := fun _ => fun
  | [d1, d2] => { results := [.lit (.bool true)], args := [d1, d2] }
  | _ => none }
def hallGrayRow : OpenClaim := { program := "ytehkmnkbmhldgaadoor", sum := "b81cc716df4dba3d3e33bff220fe6d88d99c60269e7965f09dc0262b14ad4353", func := "commutator/commutatorlaw33.HallGray", spec := "hallGray", named := ["commutator/hall.codes", "commutator/hall.edge"], apart := false, laid := [("commutator/hall.edge", laid_commutator_hall_edge), ("commutator/hall.codes", laid_commutator_hall_codes)] }
def HallGraySaid : Prop := hallGrayRow.holds Tryd.pinned (OpenSpec.ofChange hallGraySpec)

/-- ITS FALSE NEIGHBOUR: 'it returns false'. Refute it at one input. -/
def hallGrayWrong : ChangeSpec := { name := "hallGray", fn := fun _ => fun
  | [d1, d2] => { results := [.lit (.bool false)], args := [d1, d2] }
  | _ => none }
def HallGrayWrongFalsely : Prop := hallGrayRow.holds Tryd.pinned (OpenSpec.ofChange hallGrayWrong)

/-- 'commutatorlaw33.HallStuck': WHATEVER THE INPUT: true; the input reads as it did. -/
def hallStuckSpec : ChangeSpec := { name := "hallStuck", fn := fun _ => fun
  | [d1, d2, d3] => { results := [.lit (.bool true)], args := [d1, d2, d3] }
  | _ => none }
def hallStuckRow : OpenClaim := { program := "ytehkmnkbmhldgaadoor", sum := "b81cc716df4dba3d3e33bff220fe6d88d99c60269e7965f09dc0262b14ad4353", func := "commutator/commutatorlaw33.HallStuck", spec := "hallStuck", named := ["commutator/hall.codes", "commutator/hall.edge"], apart := false, laid := [("commutator/hall.edge", laid_commutator_hall_edge), ("commutator/hall.codes", laid_commutator_hall_codes)] }
def HallStuckSaid : Prop := hallStuckRow.holds Tryd.pinned (OpenSpec.ofChange hallStuckSpec)

/-- ITS FALSE NEIGHBOUR: 'it returns false'. Refute it at one input. -/
def hallStuckWrong : ChangeSpec := { name := "hallStuck", fn := fun _ => fun
  | [d1, d2, d3] => { results := [.lit (.bool false)], args := [d1, d2, d3] }
  | _ => none }
def HallStuckWrongFalsely : Prop := hallStuckRow.holds Tryd.pinned (OpenSpec.ofChange hallStuckWrong)

/-- 'commutatorlaw33.HallForward': WHATEVER THE INPUT: true; the input reads as it did. -/
def hallForwardSpec : ChangeSpec := { name := "hallForward", fn := fun _ => fun
  | [d1, d2, d3] => { results := [.lit (.bool true)], args := [d1, d2, d3] }
  | _ => none }
def hallForwardRow : OpenClaim := { program := "ytehkmnkbmhldgaadoor", sum := "b81cc716df4dba3d3e33bff220fe6d88d99c60269e7965f09dc0262b14ad4353", func := "commutator/commutatorlaw33.HallForward", spec := "hallForward", named := ["commutator/hall.codes", "commutator/hall.edge"], apart := false, laid := [("commutator/hall.edge", laid_commutator_hall_edge), ("commutator/hall.codes", laid_commutator_hall_codes)] }
def HallForwardSaid : Prop := hallForwardRow.holds Tryd.pinned (OpenSpec.ofChange hallForwardSpec)

/-- ITS FALSE NEIGHBOUR: 'it returns false'. Refute it at one input. -/
def hallForwardWrong : ChangeSpec := { name := "hallForward", fn := fun _ => fun
  | [d1, d2, d3] => { results := [.lit (.bool false)], args := [d1, d2, d3] }
  | _ => none }
def HallForwardWrongFalsely : Prop := hallForwardRow.holds Tryd.pinned (OpenSpec.ofChange hallForwardWrong)

/-- 'commutatorlaw33.HallAngles': WHATEVER THE INPUT: true; the input reads as it did. -/
def hallAnglesSpec : ChangeSpec := { name := "hallAngles", fn := fun _ => fun
  | [d] => { results := [.lit (.bool true)], args := [d] }
  | _ => none }
def hallAnglesRow : OpenClaim := { program := "ytehkmnkbmhldgaadoor", sum := "b81cc716df4dba3d3e33bff220fe6d88d99c60269e7965f09dc0262b14ad4353", func := "commutator/commutatorlaw33.HallAngles", spec := "hallAngles", named := ["commutator/hall.codes", "commutator/hall.edge"], apart := false, laid := [("commutator/hall.edge", laid_commutator_hall_edge), ("commutator/hall.codes", laid_commutator_hall_codes)] }
def HallAnglesSaid : Prop := hallAnglesRow.holds Tryd.pinned (OpenSpec.ofChange hallAnglesSpec)

/-- ITS FALSE NEIGHBOUR: 'it returns false'. Refute it at one input. -/
def hallAnglesWrong : ChangeSpec := { name := "hallAngles", fn := fun _ => fun
  | [d] => { results := [.lit (.bool false)], args := [d] }
  | _ => none }
def HallAnglesWrongFalsely : Prop := hallAnglesRow.holds Tryd.pinned (OpenSpec.ofChange hallAnglesWrong)

/-- 'commutatorlaw33.HallSpeed': WHATEVER THE INPUT: true; the input reads as it did. -/
def hallSpeedSpec : ChangeSpec := { name := "hallSpeed", fn := fun _ => fun
  | [d1, d2, d3] => { results := [.lit (.bool true)], args := [d1, d2, d3] }
  | _ => none }
def hallSpeedRow : OpenClaim := { program := "ytehkmnkbmhldgaadoor", sum := "b81cc716df4dba3d3e33bff220fe6d88d99c60269e7965f09dc0262b14ad4353", func := "commutator/commutatorlaw33.HallSpeed", spec := "hallSpeed", named := ["commutator/hall.codes", "commutator/hall.edge"], apart := false, laid := [("commutator/hall.edge", laid_commutator_hall_edge), ("commutator/hall.codes", laid_commutator_hall_codes)] }
def HallSpeedSaid : Prop := hallSpeedRow.holds Tryd.pinned (OpenSpec.ofChange hallSpeedSpec)

/-- ITS FALSE NEIGHBOUR: 'it returns false'. Refute it at one input. -/
def hallSpeedWrong : ChangeSpec := { name := "hallSpeed", fn := fun _ => fun
  | [d1, d2, d3] => { results := [.lit (.bool false)], args := [d1, d2, d3] }
  | _ => none }
def HallSpeedWrongFalsely : Prop := hallSpeedRow.holds Tryd.pinned (OpenSpec.ofChange hallSpeedWrong)

/- THE SECOND FORM. 'bulk': how many values and letters a reading holds, each counted each time it is reached (what is shared counts as often as it is met; a slice's spare places count too). A statement '..UptoSaid' is the law's where the arguments, and the package variables that the reading takes, are together of bulk at most 1048576: NARROWER than '..Said'. Prove '..Said' where nothing that the law and all that it calls make is longer than what came in: it says more and counts as full. Else prove '..UptoSaid'. A law counts once. -/
mutual
def uptoBulk {H : Type} : DataW H → Nat
  | .lit (.string bytes) => bytes.length + 1
  | .lit _ => 1
  | .nil => 1
  | .ptr d => uptoBulk d + 1
  | .slice elems spare => uptoBulkAll elems + uptoBulkAll spare + 1
  | .agg parts => uptoBulkAll parts + 1
  | .iface _ d => uptoBulk d + 1
  | .map entries => uptoBulkEntries entries + 1
  | .held _ => 1
def uptoBulkAll {H : Type} : List (DataW H) → Nat
  | [] => 0
  | d :: r => uptoBulk d + uptoBulkAll r
def uptoBulkEntries {H : Type} : List (Lit × DataW H) → Nat
  | [] => 0
  | x :: r => uptoBulkEntry x + uptoBulkEntries r
def uptoBulkEntry {H : Type} : Lit × DataW H → Nat
  | (.string bytes, d) => bytes.length + uptoBulk d + 1
  | (_, d) => uptoBulk d + 1
 end
def uptoSmall : (H : Type) → List (DataW H) → Bool := fun _ ds => decide (uptoBulkAll ds ≤ 1048576)
def OpenSpec.upto (s : _root_.Go.ChangeSpec) : _root_.Go.OpenSpec := { _root_.Go.OpenSpec.ofChange s with cond := some uptoSmall }

/-- 'commutatorlaw33.HallSteps', WHERE WHAT IT READS IS OF BULK AT MOST 1048576: true; the input reads as it did. -/
def hallStepsUptoRow : OpenClaim := { program := "ytehkmnkbmhldgaadoor", sum := "b81cc716df4dba3d3e33bff220fe6d88d99c60269e7965f09dc0262b14ad4353", func := "commutator/commutatorlaw33.HallSteps", spec := "hallSteps", named := ["commutator/hall.codes", "commutator/hall.edge"], apart := false, laid := [("commutator/hall.edge", laid_commutator_hall_edge), ("commutator/hall.codes", laid_commutator_hall_codes)], narrowed := true }
def HallStepsUptoSaid : Prop := hallStepsUptoRow.holds Tryd.pinned (OpenSpec.upto hallStepsSpec)

/-- 'commutatorlaw33.HallCodes', WHERE WHAT IT READS IS OF BULK AT MOST 1048576: true; the input reads as it did. -/
def hallCodesUptoRow : OpenClaim := { program := "ytehkmnkbmhldgaadoor", sum := "b81cc716df4dba3d3e33bff220fe6d88d99c60269e7965f09dc0262b14ad4353", func := "commutator/commutatorlaw33.HallCodes", spec := "hallCodes", named := ["commutator/hall.codes", "commutator/hall.edge"], apart := false, laid := [("commutator/hall.edge", laid_commutator_hall_edge), ("commutator/hall.codes", laid_commutator_hall_codes)], narrowed := true }
def HallCodesUptoSaid : Prop := hallCodesUptoRow.holds Tryd.pinned (OpenSpec.upto hallCodesSpec)

/-- 'commutatorlaw33.HallGray', WHERE WHAT IT READS IS OF BULK AT MOST 1048576: true; the input reads as it did. -/
def hallGrayUptoRow : OpenClaim := { program := "ytehkmnkbmhldgaadoor", sum := "b81cc716df4dba3d3e33bff220fe6d88d99c60269e7965f09dc0262b14ad4353", func := "commutator/commutatorlaw33.HallGray", spec := "hallGray", named := ["commutator/hall.codes", "commutator/hall.edge"], apart := false, laid := [("commutator/hall.edge", laid_commutator_hall_edge), ("commutator/hall.codes", laid_commutator_hall_codes)], narrowed := true }
def HallGrayUptoSaid : Prop := hallGrayUptoRow.holds Tryd.pinned (OpenSpec.upto hallGraySpec)

/-- 'commutatorlaw33.HallStuck', WHERE WHAT IT READS IS OF BULK AT MOST 1048576: true; the input reads as it did. -/
def hallStuckUptoRow : OpenClaim := { program := "ytehkmnkbmhldgaadoor", sum := "b81cc716df4dba3d3e33bff220fe6d88d99c60269e7965f09dc0262b14ad4353", func := "commutator/commutatorlaw33.HallStuck", spec := "hallStuck", named := ["commutator/hall.codes", "commutator/hall.edge"], apart := false, laid := [("commutator/hall.edge", laid_commutator_hall_edge), ("commutator/hall.codes", laid_commutator_hall_codes)], narrowed := true }
def HallStuckUptoSaid : Prop := hallStuckUptoRow.holds Tryd.pinned (OpenSpec.upto hallStuckSpec)

/-- 'commutatorlaw33.HallForward', WHERE WHAT IT READS IS OF BULK AT MOST 1048576: true; the input reads as it did. -/
def hallForwardUptoRow : OpenClaim := { program := "ytehkmnkbmhldgaadoor", sum := "b81cc716df4dba3d3e33bff220fe6d88d99c60269e7965f09dc0262b14ad4353", func := "commutator/commutatorlaw33.HallForward", spec := "hallForward", named := ["commutator/hall.codes", "commutator/hall.edge"], apart := false, laid := [("commutator/hall.edge", laid_commutator_hall_edge), ("commutator/hall.codes", laid_commutator_hall_codes)], narrowed := true }
def HallForwardUptoSaid : Prop := hallForwardUptoRow.holds Tryd.pinned (OpenSpec.upto hallForwardSpec)

/-- 'commutatorlaw33.HallAngles', WHERE WHAT IT READS IS OF BULK AT MOST 1048576: true; the input reads as it did. -/
def hallAnglesUptoRow : OpenClaim := { program := "ytehkmnkbmhldgaadoor", sum := "b81cc716df4dba3d3e33bff220fe6d88d99c60269e7965f09dc0262b14ad4353", func := "commutator/commutatorlaw33.HallAngles", spec := "hallAngles", named := ["commutator/hall.codes", "commutator/hall.edge"], apart := false, laid := [("commutator/hall.edge", laid_commutator_hall_edge), ("commutator/hall.codes", laid_commutator_hall_codes)], narrowed := true }
def HallAnglesUptoSaid : Prop := hallAnglesUptoRow.holds Tryd.pinned (OpenSpec.upto hallAnglesSpec)

/-- 'commutatorlaw33.HallSpeed', WHERE WHAT IT READS IS OF BULK AT MOST 1048576: true; the input reads as it did. -/
def hallSpeedUptoRow : OpenClaim := { program := "ytehkmnkbmhldgaadoor", sum := "b81cc716df4dba3d3e33bff220fe6d88d99c60269e7965f09dc0262b14ad4353", func := "commutator/commutatorlaw33.HallSpeed", spec := "hallSpeed", named := ["commutator/hall.codes", "commutator/hall.edge"], apart := false, laid := [("commutator/hall.edge", laid_commutator_hall_edge), ("commutator/hall.codes", laid_commutator_hall_codes)], narrowed := true }
def HallSpeedUptoSaid : Prop := hallSpeedUptoRow.holds Tryd.pinned (OpenSpec.upto hallSpeedSpec)

end Rows
end Go.Proofs.YtehkmnkbmhldgaaDoor
