/-
  DERIVED. GIVEN WITH THE SEED: THE CARDS: each row of YthomdlajobnmnaaGreatDoorRows.lean that lists a variable, with what it lists TIED to the program's text (the seventh form; the later family's looks); each row that meets fmt, with fmt's text TOLD by the authors' own Lean function (tested against real Go, not proved from fmt's source: count such statements apart). THE CARD IS WHAT COUNTS. Prove the row's statement (the work); the ties are given (YthomdlajobnmnaaGreatDoorTie.lean); close each card by the builder's one call (the guide's Derived/Test/ToyasCard.lean, 'card_holds'). Laid BY PROGRAM, IN A SANDBOX (cutbox-door.mjs). By AI agents, Wed Nov 11 2026. No macro, syntax, notation, axiom, sorry.
-/
import Derived.Test.YthomdlajobnmnaaGreatDoorRows
import GoSem.ClaimSeven
namespace Go.Proofs.YthomdlajobnmnaaGreatDoor
namespace Rows

/-- THE TIED CARD OF 'sextonlaw07.PileTurns'. -/
def pileTurnsCard : Claim7 := { stood := { row := pileTurnsRow, standIns := [], harness := (true, "efba8ee1ec4f9df9f28ae7153f3d6aefa31e2cfeae81c69304947112a85292a8"), looks := true }, kinds := [], alts := [], laidByText := true, laidKinds := [.sentinel, .sentinel, .sentinel, .sentinel, .sentinel, .sentinel], laidTests := true, laidLooks := .later }
def PileTurnsCardSaid : Prop := Claim7.holds Tryz.pinned (.plain (OpenSpec.ofChange pileTurnsSpec)) pileTurnsCard

/-- THE TIED CARD OF 'sextonlaw07.PileEmpty'. -/
def pileEmptyCard : Claim7 := { stood := { row := pileEmptyRow, standIns := [], harness := (true, "efba8ee1ec4f9df9f28ae7153f3d6aefa31e2cfeae81c69304947112a85292a8"), looks := true }, kinds := [], alts := [], laidByText := true, laidKinds := [.sentinel, .sentinel, .sentinel, .sentinel, .sentinel, .sentinel, .sentinel], laidTests := true, laidLooks := .later }
def PileEmptyCardSaid : Prop := Claim7.holds Tryz.pinned (.plain (OpenSpec.ofChange pileEmptySpec)) pileEmptyCard

/-- THE TIED CARD OF 'sextonlaw08.CortegeLays'. -/
def cortegeLaysCard : Claim7 := { stood := { row := cortegeLaysRow, standIns := [], harness := (true, "efba8ee1ec4f9df9f28ae7153f3d6aefa31e2cfeae81c69304947112a85292a8"), looks := true }, kinds := [], alts := [], laidByText := true, laidKinds := [.sentinel, .sentinel, .sentinel, .sentinel, .sentinel, .sentinel, .sentinel, .sentinel], laidTests := true, laidLooks := .later }
def CortegeLaysCardSaid : Prop := Claim7.holds Tryz.pinned (.plain (OpenSpec.ofChange cortegeLaysSpec)) cortegeLaysCard

/-- THE TIED CARD OF 'sextonlaw08.CortegePasses'. -/
def cortegePassesCard : Claim7 := { stood := { row := cortegePassesRow, standIns := [], harness := (true, "efba8ee1ec4f9df9f28ae7153f3d6aefa31e2cfeae81c69304947112a85292a8"), looks := true }, kinds := [], alts := [], laidByText := true, laidKinds := [.sentinel, .sentinel, .sentinel, .sentinel, .sentinel, .sentinel, .sentinel, .sentinel], laidTests := true, laidLooks := .later }
def CortegePassesCardSaid : Prop := Claim7.holds Tryz.pinned (.plain (OpenSpec.ofChange cortegePassesSpec)) cortegePassesCard

/-- THE TIED CARD OF 'sextonlaw11.SteepleRises'. -/
def steepleRisesCard : Claim7 := { stood := { row := steepleRisesRow, standIns := [], harness := (true, "efba8ee1ec4f9df9f28ae7153f3d6aefa31e2cfeae81c69304947112a85292a8"), looks := true }, kinds := [], alts := [], laidByText := true, laidKinds := [.sentinel, .sentinel, .sentinel, .sentinel, .sentinel, .sentinel, .sentinel], laidTests := true, laidLooks := .later }
def SteepleRisesCardSaid : Prop := Claim7.holds Tryz.pinned (.plain (OpenSpec.ofChange steepleRisesSpec)) steepleRisesCard

/-- THE SECOND FORM's CARD OF 'sextonlaw07.PileTurns'. -/
def pileTurnsUptoCard : Claim7 := { stood := { row := pileTurnsUptoRow, standIns := [], harness := (true, "efba8ee1ec4f9df9f28ae7153f3d6aefa31e2cfeae81c69304947112a85292a8"), looks := true }, kinds := [], alts := [], laidByText := true, laidKinds := [.sentinel, .sentinel, .sentinel, .sentinel, .sentinel, .sentinel], laidTests := true, laidLooks := .later }
def PileTurnsUptoCardSaid : Prop := Claim7.holds Tryz.pinned (.plain (OpenSpec.upto pileTurnsSpec)) pileTurnsUptoCard

/-- THE SECOND FORM's CARD OF 'sextonlaw07.PileEmpty'. -/
def pileEmptyUptoCard : Claim7 := { stood := { row := pileEmptyUptoRow, standIns := [], harness := (true, "efba8ee1ec4f9df9f28ae7153f3d6aefa31e2cfeae81c69304947112a85292a8"), looks := true }, kinds := [], alts := [], laidByText := true, laidKinds := [.sentinel, .sentinel, .sentinel, .sentinel, .sentinel, .sentinel, .sentinel], laidTests := true, laidLooks := .later }
def PileEmptyUptoCardSaid : Prop := Claim7.holds Tryz.pinned (.plain (OpenSpec.upto pileEmptySpec)) pileEmptyUptoCard

/-- THE SECOND FORM's CARD OF 'sextonlaw08.CortegeLays'. -/
def cortegeLaysUptoCard : Claim7 := { stood := { row := cortegeLaysUptoRow, standIns := [], harness := (true, "efba8ee1ec4f9df9f28ae7153f3d6aefa31e2cfeae81c69304947112a85292a8"), looks := true }, kinds := [], alts := [], laidByText := true, laidKinds := [.sentinel, .sentinel, .sentinel, .sentinel, .sentinel, .sentinel, .sentinel, .sentinel], laidTests := true, laidLooks := .later }
def CortegeLaysUptoCardSaid : Prop := Claim7.holds Tryz.pinned (.plain (OpenSpec.upto cortegeLaysSpec)) cortegeLaysUptoCard

/-- THE SECOND FORM's CARD OF 'sextonlaw08.CortegePasses'. -/
def cortegePassesUptoCard : Claim7 := { stood := { row := cortegePassesUptoRow, standIns := [], harness := (true, "efba8ee1ec4f9df9f28ae7153f3d6aefa31e2cfeae81c69304947112a85292a8"), looks := true }, kinds := [], alts := [], laidByText := true, laidKinds := [.sentinel, .sentinel, .sentinel, .sentinel, .sentinel, .sentinel, .sentinel, .sentinel], laidTests := true, laidLooks := .later }
def CortegePassesUptoCardSaid : Prop := Claim7.holds Tryz.pinned (.plain (OpenSpec.upto cortegePassesSpec)) cortegePassesUptoCard

/-- THE SECOND FORM's CARD OF 'sextonlaw11.SteepleRises'. -/
def steepleRisesUptoCard : Claim7 := { stood := { row := steepleRisesUptoRow, standIns := [], harness := (true, "efba8ee1ec4f9df9f28ae7153f3d6aefa31e2cfeae81c69304947112a85292a8"), looks := true }, kinds := [], alts := [], laidByText := true, laidKinds := [.sentinel, .sentinel, .sentinel, .sentinel, .sentinel, .sentinel, .sentinel], laidTests := true, laidLooks := .later }
def SteepleRisesUptoCardSaid : Prop := Claim7.holds Tryz.pinned (.plain (OpenSpec.upto steepleRisesSpec)) steepleRisesUptoCard
end Rows
end Go.Proofs.YthomdlajobnmnaaGreatDoor
