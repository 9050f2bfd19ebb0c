/-
  DERIVED. GIVEN WITH THE SEED: THE CARDS: each row of YtjhnfmfajbghbaaDoorRows.lean that lists a variable, with what it lists TIED to the program's text (the seventh form; the later family's looks); each row that meets fmt, with fmt's text TOLD by the authors' own Lean function (tested against real Go, not proved from fmt's source: count such statements apart). THE CARD IS WHAT COUNTS. Prove the row's statement (the work); the ties are given (YtjhnfmfajbghbaaDoorTie.lean); close each card by the builder's one call (the guide's Derived/Test/ToyasCard.lean, 'card_holds'). Laid BY PROGRAM, IN A SANDBOX (cutbox-door.mjs). By AI agents, Wed Nov 11 2026. No macro, syntax, notation, axiom, sorry.
-/
import Derived.Test.YtjhnfmfajbghbaaDoorRows
import GoSem.ClaimSeven
namespace Go.Proofs.YtjhnfmfajbghbaaDoor
namespace Rows

/-- THE TIED CARD OF 'sextonlaw15.AnnalsBack'. -/
def annalsBackCard : Claim7 := { stood := { row := annalsBackRow, standIns := [], harness := (true, "2d91c322af8c9f18a627864bde6159f5874623d6ef4687e8e0fa68515ccf58d2"), looks := true }, kinds := [], alts := [], laidByText := true, laidKinds := [.sentinel, .sentinel], laidTests := true, laidLooks := .later }
def AnnalsBackCardSaid : Prop := Claim7.holds Tryd.pinned (.plain (OpenSpec.ofChange annalsBackSpec)) annalsBackCard

/-- THE TIED CARD OF 'sextonlaw15.AnnalsOrders'. -/
def annalsOrdersCard : Claim7 := { stood := { row := annalsOrdersRow, standIns := [], harness := (true, "2d91c322af8c9f18a627864bde6159f5874623d6ef4687e8e0fa68515ccf58d2"), looks := true }, kinds := [], alts := [], laidByText := true, laidKinds := [.sentinel, .sentinel], laidTests := true, laidLooks := .later }
def AnnalsOrdersCardSaid : Prop := Claim7.holds Tryd.pinned (.plain (OpenSpec.ofChange annalsOrdersSpec)) annalsOrdersCard

/-- THE TIED CARD OF 'sextonlaw15.AnnalsWhole'. -/
def annalsWholeCard : Claim7 := { stood := { row := annalsWholeRow, standIns := [], harness := (true, "2d91c322af8c9f18a627864bde6159f5874623d6ef4687e8e0fa68515ccf58d2"), looks := true }, kinds := [], alts := [], laidByText := true, laidKinds := [.sentinel, .sentinel], laidTests := true, laidLooks := .later }
def AnnalsWholeCardSaid : Prop := Claim7.holds Tryd.pinned (.plain (OpenSpec.ofChange annalsWholeSpec)) annalsWholeCard

/-- THE TIED CARD OF 'sextonlaw15.AnnalsParts'. -/
def annalsPartsCard : Claim7 := { stood := { row := annalsPartsRow, standIns := [], harness := (true, "2d91c322af8c9f18a627864bde6159f5874623d6ef4687e8e0fa68515ccf58d2"), looks := true }, kinds := [], alts := [], laidByText := true, laidKinds := [.sentinel, .sentinel], laidTests := true, laidLooks := .later }
def AnnalsPartsCardSaid : Prop := Claim7.holds Tryd.pinned (.plain (OpenSpec.ofChange annalsPartsSpec)) annalsPartsCard

/-- THE TIED CARD OF 'sextonlaw15.AnnalsExact'. -/
def annalsExactCard : Claim7 := { stood := { row := annalsExactRow, standIns := [], harness := (true, "2d91c322af8c9f18a627864bde6159f5874623d6ef4687e8e0fa68515ccf58d2"), looks := true }, kinds := [], alts := [], laidByText := true, laidKinds := [.sentinel, .sentinel, .sentinel, .sentinel, .sentinel, .sentinel, .sentinel, .sentinel, .sentinel, .sentinel, .sentinel], laidTests := true, laidLooks := .later }
def AnnalsExactCardSaid : Prop := Claim7.holds Tryd.pinned (.plain (OpenSpec.ofChange annalsExactSpec)) annalsExactCard

/-- THE SECOND FORM's CARD OF 'sextonlaw15.AnnalsBack'. -/
def annalsBackUptoCard : Claim7 := { stood := { row := annalsBackUptoRow, standIns := [], harness := (true, "2d91c322af8c9f18a627864bde6159f5874623d6ef4687e8e0fa68515ccf58d2"), looks := true }, kinds := [], alts := [], laidByText := true, laidKinds := [.sentinel, .sentinel], laidTests := true, laidLooks := .later }
def AnnalsBackUptoCardSaid : Prop := Claim7.holds Tryd.pinned (.plain (OpenSpec.upto annalsBackSpec)) annalsBackUptoCard

/-- THE SECOND FORM's CARD OF 'sextonlaw15.AnnalsOrders'. -/
def annalsOrdersUptoCard : Claim7 := { stood := { row := annalsOrdersUptoRow, standIns := [], harness := (true, "2d91c322af8c9f18a627864bde6159f5874623d6ef4687e8e0fa68515ccf58d2"), looks := true }, kinds := [], alts := [], laidByText := true, laidKinds := [.sentinel, .sentinel], laidTests := true, laidLooks := .later }
def AnnalsOrdersUptoCardSaid : Prop := Claim7.holds Tryd.pinned (.plain (OpenSpec.upto annalsOrdersSpec)) annalsOrdersUptoCard

/-- THE SECOND FORM's CARD OF 'sextonlaw15.AnnalsWhole'. -/
def annalsWholeUptoCard : Claim7 := { stood := { row := annalsWholeUptoRow, standIns := [], harness := (true, "2d91c322af8c9f18a627864bde6159f5874623d6ef4687e8e0fa68515ccf58d2"), looks := true }, kinds := [], alts := [], laidByText := true, laidKinds := [.sentinel, .sentinel], laidTests := true, laidLooks := .later }
def AnnalsWholeUptoCardSaid : Prop := Claim7.holds Tryd.pinned (.plain (OpenSpec.upto annalsWholeSpec)) annalsWholeUptoCard

/-- THE SECOND FORM's CARD OF 'sextonlaw15.AnnalsParts'. -/
def annalsPartsUptoCard : Claim7 := { stood := { row := annalsPartsUptoRow, standIns := [], harness := (true, "2d91c322af8c9f18a627864bde6159f5874623d6ef4687e8e0fa68515ccf58d2"), looks := true }, kinds := [], alts := [], laidByText := true, laidKinds := [.sentinel, .sentinel], laidTests := true, laidLooks := .later }
def AnnalsPartsUptoCardSaid : Prop := Claim7.holds Tryd.pinned (.plain (OpenSpec.upto annalsPartsSpec)) annalsPartsUptoCard

/-- THE SECOND FORM's CARD OF 'sextonlaw15.AnnalsExact'. -/
def annalsExactUptoCard : Claim7 := { stood := { row := annalsExactUptoRow, standIns := [], harness := (true, "2d91c322af8c9f18a627864bde6159f5874623d6ef4687e8e0fa68515ccf58d2"), looks := true }, kinds := [], alts := [], laidByText := true, laidKinds := [.sentinel, .sentinel, .sentinel, .sentinel, .sentinel, .sentinel, .sentinel, .sentinel, .sentinel, .sentinel, .sentinel], laidTests := true, laidLooks := .later }
def AnnalsExactUptoCardSaid : Prop := Claim7.holds Tryd.pinned (.plain (OpenSpec.upto annalsExactSpec)) annalsExactUptoCard
end Rows
end Go.Proofs.YtjhnfmfajbghbaaDoor
