/-
  DERIVED. GIVEN WITH THE SEED: THE CARDS: each row of YtkpbbhcdmkmnfaaDoorRows.lean that lists a variable, with what it lists TIED to the program's text (the seventh form; the later family's looks); each row that meets fmt, with fmt's text TOLD by the authors' own Lean function (tested against real Go, not proved from fmt's source: count such statements apart). THE CARD IS WHAT COUNTS. Prove the row's statement (the work); the ties are given (YtkpbbhcdmkmnfaaDoorTie.lean); close each card by the builder's one call (the guide's Derived/Test/ToyasCard.lean, 'card_holds'). Laid BY PROGRAM, IN A SANDBOX (cutbox-door.mjs). By AI agents, Wed Nov 11 2026. No macro, syntax, notation, axiom, sorry.
-/
import Derived.Test.YtkpbbhcdmkmnfaaDoorRows
import GoSem.ClaimSeven
namespace Go.Proofs.YtkpbbhcdmkmnfaaDoor
namespace Rows

/-- THE TIED CARD OF 'sextonlaw01.WoeTells'. -/
def woeTellsCard : Claim7 := { stood := { row := woeTellsRow, standIns := [], harness := (true, "c47f3fa14db996cff11e0f6a1974ea1a39ea6ef69fc923d4838eb8eb346e4df8"), looks := true }, kinds := [], alts := [], laidByText := true, laidKinds := [.handle, .sentinel, .sentinel, .sentinel, .sentinel, .sentinel, .sentinel, .sentinel, .sentinel, .sentinel, .sentinel, .sentinel], laidTests := true, laidLooks := .later }
def WoeTellsCardSaid : Prop := Claim7.holds Tryd.pinned (.plain (OpenSpec.ofChange woeTellsSpec)) woeTellsCard

/-- THE TIED CARD OF 'sextonlaw01.WoeNames'. -/
def woeNamesCard : Claim7 := { stood := { row := woeNamesRow, standIns := [], harness := (true, "c47f3fa14db996cff11e0f6a1974ea1a39ea6ef69fc923d4838eb8eb346e4df8"), looks := true }, kinds := [], alts := [], laidByText := true, laidKinds := [.handle, .sentinel, .sentinel, .sentinel, .sentinel, .sentinel, .sentinel, .sentinel, .sentinel, .sentinel, .sentinel, .sentinel], laidTests := true, laidLooks := .later }
def WoeNamesCardSaid : Prop := Claim7.holds Tryd.pinned (.plain (OpenSpec.ofChange woeNamesSpec)) woeNamesCard

/-- THE TIED CARD OF 'sextonlaw01.WoeParts'. -/
def woePartsCard : Claim7 := { stood := { row := woePartsRow, standIns := [], harness := (true, "c47f3fa14db996cff11e0f6a1974ea1a39ea6ef69fc923d4838eb8eb346e4df8"), looks := true }, kinds := [], alts := [], laidByText := true, laidKinds := [.handle, .sentinel, .sentinel, .sentinel, .sentinel, .sentinel, .sentinel, .sentinel, .sentinel, .sentinel, .sentinel, .sentinel], laidTests := true, laidLooks := .later }
def WoePartsCardSaid : Prop := Claim7.holds Tryd.pinned (.plain (OpenSpec.ofChange woePartsSpec)) woePartsCard

/-- THE TIED CARD OF 'sextonlaw01.WoeStrange'. -/
def woeStrangeCard : Claim7 := { stood := { row := woeStrangeRow, standIns := [], harness := (true, "c47f3fa14db996cff11e0f6a1974ea1a39ea6ef69fc923d4838eb8eb346e4df8"), looks := true }, kinds := [], alts := [], laidByText := true, laidKinds := [.handle, .sentinel, .sentinel, .sentinel, .sentinel, .sentinel, .sentinel, .sentinel, .sentinel, .sentinel, .sentinel, .sentinel], laidTests := true, laidLooks := .later }
def WoeStrangeCardSaid : Prop := Claim7.holds Tryd.pinned (.plain (OpenSpec.ofChange woeStrangeSpec)) woeStrangeCard

/-- THE TIED CARD OF 'sextonlaw01.WoeOpens'. -/
def woeOpensCard : Claim7 := { stood := { row := woeOpensRow, standIns := [], harness := (true, "c47f3fa14db996cff11e0f6a1974ea1a39ea6ef69fc923d4838eb8eb346e4df8"), looks := true }, kinds := [], alts := [], laidByText := true, laidKinds := [.handle, .sentinel, .sentinel, .sentinel, .sentinel, .sentinel, .sentinel, .sentinel, .sentinel, .sentinel, .sentinel, .sentinel], laidTests := true, laidLooks := .later }
def WoeOpensCardSaid : Prop := Claim7.holds Tryd.pinned (.plain (OpenSpec.ofChange woeOpensSpec)) woeOpensCard

/-- THE TIED CARD OF 'sextonlaw01.WoeSeveral'. -/
def woeSeveralCard : Claim7 := { stood := { row := woeSeveralRow, standIns := [], harness := (true, "c47f3fa14db996cff11e0f6a1974ea1a39ea6ef69fc923d4838eb8eb346e4df8"), looks := true }, kinds := [], alts := [], laidByText := true, laidKinds := [.handle, .sentinel, .sentinel, .sentinel, .sentinel, .sentinel, .sentinel, .sentinel, .sentinel, .sentinel, .sentinel, .sentinel], laidTests := true, laidLooks := .later }
def WoeSeveralCardSaid : Prop := Claim7.holds Tryd.pinned (.plain (OpenSpec.ofChange woeSeveralSpec)) woeSeveralCard

/-- THE SECOND FORM's CARD OF 'sextonlaw01.WoeTells'. -/
def woeTellsUptoCard : Claim7 := { stood := { row := woeTellsUptoRow, standIns := [], harness := (true, "c47f3fa14db996cff11e0f6a1974ea1a39ea6ef69fc923d4838eb8eb346e4df8"), looks := true }, kinds := [], alts := [], laidByText := true, laidKinds := [.handle, .sentinel, .sentinel, .sentinel, .sentinel, .sentinel, .sentinel, .sentinel, .sentinel, .sentinel, .sentinel, .sentinel], laidTests := true, laidLooks := .later }
def WoeTellsUptoCardSaid : Prop := Claim7.holds Tryd.pinned (.plain (OpenSpec.upto woeTellsSpec)) woeTellsUptoCard

/-- THE SECOND FORM's CARD OF 'sextonlaw01.WoeNames'. -/
def woeNamesUptoCard : Claim7 := { stood := { row := woeNamesUptoRow, standIns := [], harness := (true, "c47f3fa14db996cff11e0f6a1974ea1a39ea6ef69fc923d4838eb8eb346e4df8"), looks := true }, kinds := [], alts := [], laidByText := true, laidKinds := [.handle, .sentinel, .sentinel, .sentinel, .sentinel, .sentinel, .sentinel, .sentinel, .sentinel, .sentinel, .sentinel, .sentinel], laidTests := true, laidLooks := .later }
def WoeNamesUptoCardSaid : Prop := Claim7.holds Tryd.pinned (.plain (OpenSpec.upto woeNamesSpec)) woeNamesUptoCard

/-- THE SECOND FORM's CARD OF 'sextonlaw01.WoeParts'. -/
def woePartsUptoCard : Claim7 := { stood := { row := woePartsUptoRow, standIns := [], harness := (true, "c47f3fa14db996cff11e0f6a1974ea1a39ea6ef69fc923d4838eb8eb346e4df8"), looks := true }, kinds := [], alts := [], laidByText := true, laidKinds := [.handle, .sentinel, .sentinel, .sentinel, .sentinel, .sentinel, .sentinel, .sentinel, .sentinel, .sentinel, .sentinel, .sentinel], laidTests := true, laidLooks := .later }
def WoePartsUptoCardSaid : Prop := Claim7.holds Tryd.pinned (.plain (OpenSpec.upto woePartsSpec)) woePartsUptoCard

/-- THE SECOND FORM's CARD OF 'sextonlaw01.WoeStrange'. -/
def woeStrangeUptoCard : Claim7 := { stood := { row := woeStrangeUptoRow, standIns := [], harness := (true, "c47f3fa14db996cff11e0f6a1974ea1a39ea6ef69fc923d4838eb8eb346e4df8"), looks := true }, kinds := [], alts := [], laidByText := true, laidKinds := [.handle, .sentinel, .sentinel, .sentinel, .sentinel, .sentinel, .sentinel, .sentinel, .sentinel, .sentinel, .sentinel, .sentinel], laidTests := true, laidLooks := .later }
def WoeStrangeUptoCardSaid : Prop := Claim7.holds Tryd.pinned (.plain (OpenSpec.upto woeStrangeSpec)) woeStrangeUptoCard

/-- THE SECOND FORM's CARD OF 'sextonlaw01.WoeOpens'. -/
def woeOpensUptoCard : Claim7 := { stood := { row := woeOpensUptoRow, standIns := [], harness := (true, "c47f3fa14db996cff11e0f6a1974ea1a39ea6ef69fc923d4838eb8eb346e4df8"), looks := true }, kinds := [], alts := [], laidByText := true, laidKinds := [.handle, .sentinel, .sentinel, .sentinel, .sentinel, .sentinel, .sentinel, .sentinel, .sentinel, .sentinel, .sentinel, .sentinel], laidTests := true, laidLooks := .later }
def WoeOpensUptoCardSaid : Prop := Claim7.holds Tryd.pinned (.plain (OpenSpec.upto woeOpensSpec)) woeOpensUptoCard

/-- THE SECOND FORM's CARD OF 'sextonlaw01.WoeSeveral'. -/
def woeSeveralUptoCard : Claim7 := { stood := { row := woeSeveralUptoRow, standIns := [], harness := (true, "c47f3fa14db996cff11e0f6a1974ea1a39ea6ef69fc923d4838eb8eb346e4df8"), looks := true }, kinds := [], alts := [], laidByText := true, laidKinds := [.handle, .sentinel, .sentinel, .sentinel, .sentinel, .sentinel, .sentinel, .sentinel, .sentinel, .sentinel, .sentinel, .sentinel], laidTests := true, laidLooks := .later }
def WoeSeveralUptoCardSaid : Prop := Claim7.holds Tryd.pinned (.plain (OpenSpec.upto woeSeveralSpec)) woeSeveralUptoCard
end Rows
end Go.Proofs.YtkpbbhcdmkmnfaaDoor
