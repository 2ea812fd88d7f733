/-
  DERIVED. GIVEN WITH THE SEED: THE CARDS: each row of YtehkmnkbmhldgaaDoorRows.lean that lists a variable, with what it lists TIED to the program's text (the seventh form; the later family's looks); each row that meets fmt, with fmt's text TOLD by the authors' own Lean function (tested against real Go, not proved from fmt's source: count such statements apart). THE CARD IS WHAT COUNTS. Prove the row's statement (the work); the ties are given (YtehkmnkbmhldgaaDoorTie.lean); close each card by the builder's one call (the guide's Derived/Test/ToyasCard.lean, 'card_holds'). Laid BY PROGRAM, IN A SANDBOX (cutbox-door.mjs). By AI agents, Wed Nov 11 2026. No macro, syntax, notation, axiom, sorry.
-/
import Derived.Test.YtehkmnkbmhldgaaDoorRows
import GoSem.ClaimSeven
namespace Go.Proofs.YtehkmnkbmhldgaaDoor
namespace Rows

/-- THE TIED CARD OF 'commutatorlaw33.HallSteps'. -/
def hallStepsCard : Claim7 := { stood := { row := hallStepsRow, standIns := [], harness := (true, "1a6b162c44d0ffeb74effc336f490e2b559548398b69b86b9387293e71de1f4a"), looks := true }, kinds := [], alts := [], laidByText := true, laidKinds := [.data, .data], laidTests := true, laidLooks := .later }
def HallStepsCardSaid : Prop := Claim7.holds Tryd.pinned (.plain (OpenSpec.ofChange hallStepsSpec)) hallStepsCard

/-- THE TIED CARD OF 'commutatorlaw33.HallCodes'. -/
def hallCodesCard : Claim7 := { stood := { row := hallCodesRow, standIns := [], harness := (true, "1a6b162c44d0ffeb74effc336f490e2b559548398b69b86b9387293e71de1f4a"), looks := true }, kinds := [], alts := [], laidByText := true, laidKinds := [.data, .data], laidTests := true, laidLooks := .later }
def HallCodesCardSaid : Prop := Claim7.holds Tryd.pinned (.plain (OpenSpec.ofChange hallCodesSpec)) hallCodesCard

/-- THE TIED CARD OF 'commutatorlaw33.HallGray'. -/
def hallGrayCard : Claim7 := { stood := { row := hallGrayRow, standIns := [], harness := (true, "1a6b162c44d0ffeb74effc336f490e2b559548398b69b86b9387293e71de1f4a"), looks := true }, kinds := [], alts := [], laidByText := true, laidKinds := [.data, .data], laidTests := true, laidLooks := .later }
def HallGrayCardSaid : Prop := Claim7.holds Tryd.pinned (.plain (OpenSpec.ofChange hallGraySpec)) hallGrayCard

/-- THE TIED CARD OF 'commutatorlaw33.HallStuck'. -/
def hallStuckCard : Claim7 := { stood := { row := hallStuckRow, standIns := [], harness := (true, "1a6b162c44d0ffeb74effc336f490e2b559548398b69b86b9387293e71de1f4a"), looks := true }, kinds := [], alts := [], laidByText := true, laidKinds := [.data, .data], laidTests := true, laidLooks := .later }
def HallStuckCardSaid : Prop := Claim7.holds Tryd.pinned (.plain (OpenSpec.ofChange hallStuckSpec)) hallStuckCard

/-- THE TIED CARD OF 'commutatorlaw33.HallForward'. -/
def hallForwardCard : Claim7 := { stood := { row := hallForwardRow, standIns := [], harness := (true, "1a6b162c44d0ffeb74effc336f490e2b559548398b69b86b9387293e71de1f4a"), looks := true }, kinds := [], alts := [], laidByText := true, laidKinds := [.data, .data], laidTests := true, laidLooks := .later }
def HallForwardCardSaid : Prop := Claim7.holds Tryd.pinned (.plain (OpenSpec.ofChange hallForwardSpec)) hallForwardCard

/-- THE TIED CARD OF 'commutatorlaw33.HallAngles'. -/
def hallAnglesCard : Claim7 := { stood := { row := hallAnglesRow, standIns := [], harness := (true, "1a6b162c44d0ffeb74effc336f490e2b559548398b69b86b9387293e71de1f4a"), looks := true }, kinds := [], alts := [], laidByText := true, laidKinds := [.data, .data], laidTests := true, laidLooks := .later }
def HallAnglesCardSaid : Prop := Claim7.holds Tryd.pinned (.plain (OpenSpec.ofChange hallAnglesSpec)) hallAnglesCard

/-- THE TIED CARD OF 'commutatorlaw33.HallSpeed'. -/
def hallSpeedCard : Claim7 := { stood := { row := hallSpeedRow, standIns := [], harness := (true, "1a6b162c44d0ffeb74effc336f490e2b559548398b69b86b9387293e71de1f4a"), looks := true }, kinds := [], alts := [], laidByText := true, laidKinds := [.data, .data], laidTests := true, laidLooks := .later }
def HallSpeedCardSaid : Prop := Claim7.holds Tryd.pinned (.plain (OpenSpec.ofChange hallSpeedSpec)) hallSpeedCard

/-- THE SECOND FORM's CARD OF 'commutatorlaw33.HallSteps'. -/
def hallStepsUptoCard : Claim7 := { stood := { row := hallStepsUptoRow, standIns := [], harness := (true, "1a6b162c44d0ffeb74effc336f490e2b559548398b69b86b9387293e71de1f4a"), looks := true }, kinds := [], alts := [], laidByText := true, laidKinds := [.data, .data], laidTests := true, laidLooks := .later }
def HallStepsUptoCardSaid : Prop := Claim7.holds Tryd.pinned (.plain (OpenSpec.upto hallStepsSpec)) hallStepsUptoCard

/-- THE SECOND FORM's CARD OF 'commutatorlaw33.HallCodes'. -/
def hallCodesUptoCard : Claim7 := { stood := { row := hallCodesUptoRow, standIns := [], harness := (true, "1a6b162c44d0ffeb74effc336f490e2b559548398b69b86b9387293e71de1f4a"), looks := true }, kinds := [], alts := [], laidByText := true, laidKinds := [.data, .data], laidTests := true, laidLooks := .later }
def HallCodesUptoCardSaid : Prop := Claim7.holds Tryd.pinned (.plain (OpenSpec.upto hallCodesSpec)) hallCodesUptoCard

/-- THE SECOND FORM's CARD OF 'commutatorlaw33.HallGray'. -/
def hallGrayUptoCard : Claim7 := { stood := { row := hallGrayUptoRow, standIns := [], harness := (true, "1a6b162c44d0ffeb74effc336f490e2b559548398b69b86b9387293e71de1f4a"), looks := true }, kinds := [], alts := [], laidByText := true, laidKinds := [.data, .data], laidTests := true, laidLooks := .later }
def HallGrayUptoCardSaid : Prop := Claim7.holds Tryd.pinned (.plain (OpenSpec.upto hallGraySpec)) hallGrayUptoCard

/-- THE SECOND FORM's CARD OF 'commutatorlaw33.HallStuck'. -/
def hallStuckUptoCard : Claim7 := { stood := { row := hallStuckUptoRow, standIns := [], harness := (true, "1a6b162c44d0ffeb74effc336f490e2b559548398b69b86b9387293e71de1f4a"), looks := true }, kinds := [], alts := [], laidByText := true, laidKinds := [.data, .data], laidTests := true, laidLooks := .later }
def HallStuckUptoCardSaid : Prop := Claim7.holds Tryd.pinned (.plain (OpenSpec.upto hallStuckSpec)) hallStuckUptoCard

/-- THE SECOND FORM's CARD OF 'commutatorlaw33.HallForward'. -/
def hallForwardUptoCard : Claim7 := { stood := { row := hallForwardUptoRow, standIns := [], harness := (true, "1a6b162c44d0ffeb74effc336f490e2b559548398b69b86b9387293e71de1f4a"), looks := true }, kinds := [], alts := [], laidByText := true, laidKinds := [.data, .data], laidTests := true, laidLooks := .later }
def HallForwardUptoCardSaid : Prop := Claim7.holds Tryd.pinned (.plain (OpenSpec.upto hallForwardSpec)) hallForwardUptoCard

/-- THE SECOND FORM's CARD OF 'commutatorlaw33.HallAngles'. -/
def hallAnglesUptoCard : Claim7 := { stood := { row := hallAnglesUptoRow, standIns := [], harness := (true, "1a6b162c44d0ffeb74effc336f490e2b559548398b69b86b9387293e71de1f4a"), looks := true }, kinds := [], alts := [], laidByText := true, laidKinds := [.data, .data], laidTests := true, laidLooks := .later }
def HallAnglesUptoCardSaid : Prop := Claim7.holds Tryd.pinned (.plain (OpenSpec.upto hallAnglesSpec)) hallAnglesUptoCard

/-- THE SECOND FORM's CARD OF 'commutatorlaw33.HallSpeed'. -/
def hallSpeedUptoCard : Claim7 := { stood := { row := hallSpeedUptoRow, standIns := [], harness := (true, "1a6b162c44d0ffeb74effc336f490e2b559548398b69b86b9387293e71de1f4a"), looks := true }, kinds := [], alts := [], laidByText := true, laidKinds := [.data, .data], laidTests := true, laidLooks := .later }
def HallSpeedUptoCardSaid : Prop := Claim7.holds Tryd.pinned (.plain (OpenSpec.upto hallSpeedSpec)) hallSpeedUptoCard
end Rows
end Go.Proofs.YtehkmnkbmhldgaaDoor
