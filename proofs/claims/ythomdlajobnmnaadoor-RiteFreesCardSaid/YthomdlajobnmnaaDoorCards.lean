/-
  DERIVED. GIVEN WITH THE SEED: THE CARDS: each row of YthomdlajobnmnaaDoorRows.lean that lists a variable, with what it lists TIED to the program's text (the seventh form; the later family's looks); each row that meets fmt, with fmt's text TOLD by the authors' own Lean function (tested against real Go, not proved from fmt's source: count such statements apart). THE CARD IS WHAT COUNTS. Prove the row's statement (the work); the ties are given (YthomdlajobnmnaaDoorTie.lean); close each card by the builder's one call (the guide's Derived/Test/ToyasCard.lean, 'card_holds'). Laid BY PROGRAM, IN A SANDBOX (cutbox-door.mjs). By AI agents, Wed Nov 11 2026. No macro, syntax, notation, axiom, sorry.
-/
import Derived.Test.YthomdlajobnmnaaDoorRows
import GoSem.ClaimSeven
namespace Go.Proofs.YthomdlajobnmnaaDoor
namespace Rows

/-- THE TIED CARD OF 'sextonlaw03.PlotRow'. -/
def plotRowCard : Claim7 := { stood := { row := plotRowRow, standIns := [], harness := (true, "0a4b81ae7c557eb35923e698271d12e0952e248465ee30472e9bb18dca02c551"), looks := true }, kinds := [], alts := [], laidByText := true, laidKinds := [.handle, .sentinel, .sentinel, .sentinel, .sentinel, .sentinel], laidTests := true, laidLooks := .later }
def PlotRowCardSaid : Prop := Claim7.holds Tryd.pinned (.plain (OpenSpec.ofChange plotRowSpec)) plotRowCard

/-- THE TIED CARD OF 'sextonlaw03.PlotStays'. -/
def plotStaysCard : Claim7 := { stood := { row := plotStaysRow, standIns := [], harness := (true, "0a4b81ae7c557eb35923e698271d12e0952e248465ee30472e9bb18dca02c551"), looks := true }, kinds := [], alts := [], laidByText := true, laidKinds := [.handle, .sentinel, .sentinel, .sentinel, .sentinel, .sentinel], laidTests := true, laidLooks := .later }
def PlotStaysCardSaid : Prop := Claim7.holds Tryd.pinned (.plain (OpenSpec.ofChange plotStaysSpec)) plotStaysCard

/-- THE TIED CARD OF 'sextonlaw03.PlotReborn'. -/
def plotRebornCard : Claim7 := { stood := { row := plotRebornRow, standIns := [], harness := (true, "0a4b81ae7c557eb35923e698271d12e0952e248465ee30472e9bb18dca02c551"), looks := true }, kinds := [], alts := [], laidByText := true, laidKinds := [.handle, .sentinel, .sentinel, .sentinel, .sentinel, .sentinel], laidTests := true, laidLooks := .later }
def PlotRebornCardSaid : Prop := Claim7.holds Tryd.pinned (.plain (OpenSpec.ofChange plotRebornSpec)) plotRebornCard

/-- THE TIED CARD OF 'sextonlaw03.PlotOnce'. -/
def plotOnceCard : Claim7 := { stood := { row := plotOnceRow, standIns := [], harness := (true, "0a4b81ae7c557eb35923e698271d12e0952e248465ee30472e9bb18dca02c551"), looks := true }, kinds := [], alts := [], laidByText := true, laidKinds := [.handle, .sentinel, .sentinel, .sentinel, .sentinel, .sentinel], laidTests := true, laidLooks := .later }
def PlotOnceCardSaid : Prop := Claim7.holds Tryd.pinned (.plain (OpenSpec.ofChange plotOnceSpec)) plotOnceCard

/-- THE TIED CARD OF 'sextonlaw06.RiteKeeps'. -/
def riteKeepsCard : Claim7 := { stood := { row := riteKeepsRow, standIns := [], harness := (true, "0a4b81ae7c557eb35923e698271d12e0952e248465ee30472e9bb18dca02c551"), looks := true }, kinds := [], alts := [], laidByText := true, laidKinds := [.sentinel, .sentinel, .sentinel, .sentinel, .sentinel, .sentinel], laidTests := true, laidLooks := .later }
def RiteKeepsCardSaid : Prop := Claim7.holds Tryd.pinned (.plain (OpenSpec.ofChange riteKeepsSpec)) riteKeepsCard

/-- THE TIED CARD OF 'sextonlaw06.RiteLeaves'. -/
def riteLeavesCard : Claim7 := { stood := { row := riteLeavesRow, standIns := [], harness := (true, "0a4b81ae7c557eb35923e698271d12e0952e248465ee30472e9bb18dca02c551"), looks := true }, kinds := [], alts := [], laidByText := true, laidKinds := [.sentinel, .sentinel, .sentinel, .sentinel, .sentinel, .sentinel], laidTests := true, laidLooks := .later }
def RiteLeavesCardSaid : Prop := Claim7.holds Tryd.pinned (.plain (OpenSpec.ofChange riteLeavesSpec)) riteLeavesCard

/-- THE TIED CARD OF 'sextonlaw06.RiteBounds'. -/
def riteBoundsCard : Claim7 := { stood := { row := riteBoundsRow, standIns := [], harness := (true, "0a4b81ae7c557eb35923e698271d12e0952e248465ee30472e9bb18dca02c551"), looks := true }, kinds := [], alts := [], laidByText := true, laidKinds := [.sentinel, .sentinel, .sentinel, .sentinel, .sentinel, .sentinel], laidTests := true, laidLooks := .later }
def RiteBoundsCardSaid : Prop := Claim7.holds Tryd.pinned (.plain (OpenSpec.ofChange riteBoundsSpec)) riteBoundsCard

/-- THE TIED CARD OF 'sextonlaw06.RiteFrees'. -/
def riteFreesCard : Claim7 := { stood := { row := riteFreesRow, standIns := [], harness := (true, "0a4b81ae7c557eb35923e698271d12e0952e248465ee30472e9bb18dca02c551"), looks := true }, kinds := [], alts := [], laidByText := true, laidKinds := [.sentinel, .sentinel, .sentinel, .sentinel, .sentinel, .sentinel], laidTests := true, laidLooks := .later }
def RiteFreesCardSaid : Prop := Claim7.holds Tryd.pinned (.plain (OpenSpec.ofChange riteFreesSpec)) riteFreesCard

/-- THE TIED CARD OF 'sextonlaw06.RiteScans'. -/
def riteScansCard : Claim7 := { stood := { row := riteScansRow, standIns := [], harness := (true, "0a4b81ae7c557eb35923e698271d12e0952e248465ee30472e9bb18dca02c551"), looks := true }, kinds := [], alts := [], laidByText := true, laidKinds := [.sentinel, .sentinel, .sentinel, .sentinel, .sentinel, .sentinel], laidTests := true, laidLooks := .later }
def RiteScansCardSaid : Prop := Claim7.holds Tryd.pinned (.plain (OpenSpec.ofChange riteScansSpec)) riteScansCard

/-- THE SECOND FORM's CARD OF 'sextonlaw03.PlotRow'. -/
def plotRowUptoCard : Claim7 := { stood := { row := plotRowUptoRow, standIns := [], harness := (true, "0a4b81ae7c557eb35923e698271d12e0952e248465ee30472e9bb18dca02c551"), looks := true }, kinds := [], alts := [], laidByText := true, laidKinds := [.handle, .sentinel, .sentinel, .sentinel, .sentinel, .sentinel], laidTests := true, laidLooks := .later }
def PlotRowUptoCardSaid : Prop := Claim7.holds Tryd.pinned (.plain (OpenSpec.upto plotRowSpec)) plotRowUptoCard

/-- THE SECOND FORM's CARD OF 'sextonlaw03.PlotStays'. -/
def plotStaysUptoCard : Claim7 := { stood := { row := plotStaysUptoRow, standIns := [], harness := (true, "0a4b81ae7c557eb35923e698271d12e0952e248465ee30472e9bb18dca02c551"), looks := true }, kinds := [], alts := [], laidByText := true, laidKinds := [.handle, .sentinel, .sentinel, .sentinel, .sentinel, .sentinel], laidTests := true, laidLooks := .later }
def PlotStaysUptoCardSaid : Prop := Claim7.holds Tryd.pinned (.plain (OpenSpec.upto plotStaysSpec)) plotStaysUptoCard

/-- THE SECOND FORM's CARD OF 'sextonlaw03.PlotReborn'. -/
def plotRebornUptoCard : Claim7 := { stood := { row := plotRebornUptoRow, standIns := [], harness := (true, "0a4b81ae7c557eb35923e698271d12e0952e248465ee30472e9bb18dca02c551"), looks := true }, kinds := [], alts := [], laidByText := true, laidKinds := [.handle, .sentinel, .sentinel, .sentinel, .sentinel, .sentinel], laidTests := true, laidLooks := .later }
def PlotRebornUptoCardSaid : Prop := Claim7.holds Tryd.pinned (.plain (OpenSpec.upto plotRebornSpec)) plotRebornUptoCard

/-- THE SECOND FORM's CARD OF 'sextonlaw03.PlotOnce'. -/
def plotOnceUptoCard : Claim7 := { stood := { row := plotOnceUptoRow, standIns := [], harness := (true, "0a4b81ae7c557eb35923e698271d12e0952e248465ee30472e9bb18dca02c551"), looks := true }, kinds := [], alts := [], laidByText := true, laidKinds := [.handle, .sentinel, .sentinel, .sentinel, .sentinel, .sentinel], laidTests := true, laidLooks := .later }
def PlotOnceUptoCardSaid : Prop := Claim7.holds Tryd.pinned (.plain (OpenSpec.upto plotOnceSpec)) plotOnceUptoCard

/-- THE SECOND FORM's CARD OF 'sextonlaw06.RiteKeeps'. -/
def riteKeepsUptoCard : Claim7 := { stood := { row := riteKeepsUptoRow, standIns := [], harness := (true, "0a4b81ae7c557eb35923e698271d12e0952e248465ee30472e9bb18dca02c551"), looks := true }, kinds := [], alts := [], laidByText := true, laidKinds := [.sentinel, .sentinel, .sentinel, .sentinel, .sentinel, .sentinel], laidTests := true, laidLooks := .later }
def RiteKeepsUptoCardSaid : Prop := Claim7.holds Tryd.pinned (.plain (OpenSpec.upto riteKeepsSpec)) riteKeepsUptoCard

/-- THE SECOND FORM's CARD OF 'sextonlaw06.RiteLeaves'. -/
def riteLeavesUptoCard : Claim7 := { stood := { row := riteLeavesUptoRow, standIns := [], harness := (true, "0a4b81ae7c557eb35923e698271d12e0952e248465ee30472e9bb18dca02c551"), looks := true }, kinds := [], alts := [], laidByText := true, laidKinds := [.sentinel, .sentinel, .sentinel, .sentinel, .sentinel, .sentinel], laidTests := true, laidLooks := .later }
def RiteLeavesUptoCardSaid : Prop := Claim7.holds Tryd.pinned (.plain (OpenSpec.upto riteLeavesSpec)) riteLeavesUptoCard

/-- THE SECOND FORM's CARD OF 'sextonlaw06.RiteBounds'. -/
def riteBoundsUptoCard : Claim7 := { stood := { row := riteBoundsUptoRow, standIns := [], harness := (true, "0a4b81ae7c557eb35923e698271d12e0952e248465ee30472e9bb18dca02c551"), looks := true }, kinds := [], alts := [], laidByText := true, laidKinds := [.sentinel, .sentinel, .sentinel, .sentinel, .sentinel, .sentinel], laidTests := true, laidLooks := .later }
def RiteBoundsUptoCardSaid : Prop := Claim7.holds Tryd.pinned (.plain (OpenSpec.upto riteBoundsSpec)) riteBoundsUptoCard

/-- THE SECOND FORM's CARD OF 'sextonlaw06.RiteFrees'. -/
def riteFreesUptoCard : Claim7 := { stood := { row := riteFreesUptoRow, standIns := [], harness := (true, "0a4b81ae7c557eb35923e698271d12e0952e248465ee30472e9bb18dca02c551"), looks := true }, kinds := [], alts := [], laidByText := true, laidKinds := [.sentinel, .sentinel, .sentinel, .sentinel, .sentinel, .sentinel], laidTests := true, laidLooks := .later }
def RiteFreesUptoCardSaid : Prop := Claim7.holds Tryd.pinned (.plain (OpenSpec.upto riteFreesSpec)) riteFreesUptoCard

/-- THE SECOND FORM's CARD OF 'sextonlaw06.RiteScans'. -/
def riteScansUptoCard : Claim7 := { stood := { row := riteScansUptoRow, standIns := [], harness := (true, "0a4b81ae7c557eb35923e698271d12e0952e248465ee30472e9bb18dca02c551"), looks := true }, kinds := [], alts := [], laidByText := true, laidKinds := [.sentinel, .sentinel, .sentinel, .sentinel, .sentinel, .sentinel], laidTests := true, laidLooks := .later }
def RiteScansUptoCardSaid : Prop := Claim7.holds Tryd.pinned (.plain (OpenSpec.upto riteScansSpec)) riteScansUptoCard
end Rows
end Go.Proofs.YthomdlajobnmnaaDoor
