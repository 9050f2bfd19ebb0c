/-
  DERIVED. GIVEN WITH THE SEED: THE CARDS: each row of YtlfhjmfelbomaaaDoorRows.lean that lists a variable, with what it lists TIED to the program's text (the seventh form; the later family's looks); each row that meets fmt, with fmt's text TOLD by the authors' own Lean function (tested against real Go, not proved from fmt's source: count such statements apart). THE CARD IS WHAT COUNTS. Prove the row's statement (the work); the ties are given (YtlfhjmfelbomaaaDoorTie.lean); close each card by the builder's one call (the guide's Derived/Test/ToyasCard.lean, 'card_holds'). Laid BY PROGRAM, IN A SANDBOX (cutbox-door.mjs). By AI agents, Wed Nov 11 2026. No macro, syntax, notation, axiom, sorry.
-/
import Derived.Test.YtlfhjmfelbomaaaDoorRows
import GoSem.ClaimSeven
namespace Go.Proofs.YtlfhjmfelbomaaaDoor
namespace Rows

/-- THE TIED CARD OF 'sextonlaw04.BoardApart'. -/
def boardApartCard : Claim7 := { stood := { row := boardApartRow, standIns := [], harness := (true, "828090a87114d5461afac4d74bb14c0b5d74c4d1c254817937def877e92e565c"), looks := true }, kinds := [], alts := [], laidByText := true, laidKinds := [.sentinel], laidTests := true, laidLooks := .later }
def BoardApartCardSaid : Prop := Claim7.holds Tryd.pinned (.plain (OpenSpec.ofChange boardApartSpec)) boardApartCard

/-- THE TIED CARD OF 'sextonlaw04.BoardExact'. -/
def boardExactCard : Claim7 := { stood := { row := boardExactRow, standIns := [], harness := (true, "828090a87114d5461afac4d74bb14c0b5d74c4d1c254817937def877e92e565c"), looks := true }, kinds := [], alts := [], laidByText := true, laidKinds := [.sentinel, .sentinel], laidTests := true, laidLooks := .later }
def BoardExactCardSaid : Prop := Claim7.holds Tryd.pinned (.plain (OpenSpec.ofChange boardExactSpec)) boardExactCard

/-- THE TIED CARD OF 'sextonlaw04.BoardOnce'. -/
def boardOnceCard : Claim7 := { stood := { row := boardOnceRow, standIns := [], harness := (true, "828090a87114d5461afac4d74bb14c0b5d74c4d1c254817937def877e92e565c"), looks := true }, kinds := [], alts := [], laidByText := true, laidKinds := [.sentinel, .sentinel], laidTests := true, laidLooks := .later }
def BoardOnceCardSaid : Prop := Claim7.holds Tryd.pinned (.plain (OpenSpec.ofChange boardOnceSpec)) boardOnceCard

/-- THE TIED CARD OF 'sextonlaw04.BoardThreads'. -/
def boardThreadsCard : Claim7 := { stood := { row := boardThreadsRow, standIns := [], harness := (true, "828090a87114d5461afac4d74bb14c0b5d74c4d1c254817937def877e92e565c"), looks := true }, kinds := [], alts := [], laidByText := true, laidKinds := [.sentinel, .sentinel], laidTests := true, laidLooks := .later }
def BoardThreadsCardSaid : Prop := Claim7.holds Tryd.pinned (.plain (OpenSpec.ofChange boardThreadsSpec)) boardThreadsCard

/-- THE TIED CARD OF 'sextonlaw04.BoardHears'. -/
def boardHearsCard : Claim7 := { stood := { row := boardHearsRow, standIns := [], harness := (true, "828090a87114d5461afac4d74bb14c0b5d74c4d1c254817937def877e92e565c"), looks := true }, kinds := [], alts := [], laidByText := true, laidKinds := [.sentinel], laidTests := true, laidLooks := .later }
def BoardHearsCardSaid : Prop := Claim7.holds Tryd.pinned (.plain (OpenSpec.ofChange boardHearsSpec)) boardHearsCard

/-- THE SECOND FORM's CARD OF 'sextonlaw04.BoardApart'. -/
def boardApartUptoCard : Claim7 := { stood := { row := boardApartUptoRow, standIns := [], harness := (true, "828090a87114d5461afac4d74bb14c0b5d74c4d1c254817937def877e92e565c"), looks := true }, kinds := [], alts := [], laidByText := true, laidKinds := [.sentinel], laidTests := true, laidLooks := .later }
def BoardApartUptoCardSaid : Prop := Claim7.holds Tryd.pinned (.plain (OpenSpec.upto boardApartSpec)) boardApartUptoCard

/-- THE SECOND FORM's CARD OF 'sextonlaw04.BoardExact'. -/
def boardExactUptoCard : Claim7 := { stood := { row := boardExactUptoRow, standIns := [], harness := (true, "828090a87114d5461afac4d74bb14c0b5d74c4d1c254817937def877e92e565c"), looks := true }, kinds := [], alts := [], laidByText := true, laidKinds := [.sentinel, .sentinel], laidTests := true, laidLooks := .later }
def BoardExactUptoCardSaid : Prop := Claim7.holds Tryd.pinned (.plain (OpenSpec.upto boardExactSpec)) boardExactUptoCard

/-- THE SECOND FORM's CARD OF 'sextonlaw04.BoardOnce'. -/
def boardOnceUptoCard : Claim7 := { stood := { row := boardOnceUptoRow, standIns := [], harness := (true, "828090a87114d5461afac4d74bb14c0b5d74c4d1c254817937def877e92e565c"), looks := true }, kinds := [], alts := [], laidByText := true, laidKinds := [.sentinel, .sentinel], laidTests := true, laidLooks := .later }
def BoardOnceUptoCardSaid : Prop := Claim7.holds Tryd.pinned (.plain (OpenSpec.upto boardOnceSpec)) boardOnceUptoCard

/-- THE SECOND FORM's CARD OF 'sextonlaw04.BoardThreads'. -/
def boardThreadsUptoCard : Claim7 := { stood := { row := boardThreadsUptoRow, standIns := [], harness := (true, "828090a87114d5461afac4d74bb14c0b5d74c4d1c254817937def877e92e565c"), looks := true }, kinds := [], alts := [], laidByText := true, laidKinds := [.sentinel, .sentinel], laidTests := true, laidLooks := .later }
def BoardThreadsUptoCardSaid : Prop := Claim7.holds Tryd.pinned (.plain (OpenSpec.upto boardThreadsSpec)) boardThreadsUptoCard

/-- THE SECOND FORM's CARD OF 'sextonlaw04.BoardHears'. -/
def boardHearsUptoCard : Claim7 := { stood := { row := boardHearsUptoRow, standIns := [], harness := (true, "828090a87114d5461afac4d74bb14c0b5d74c4d1c254817937def877e92e565c"), looks := true }, kinds := [], alts := [], laidByText := true, laidKinds := [.sentinel], laidTests := true, laidLooks := .later }
def BoardHearsUptoCardSaid : Prop := Claim7.holds Tryd.pinned (.plain (OpenSpec.upto boardHearsSpec)) boardHearsUptoCard
end Rows
end Go.Proofs.YtlfhjmfelbomaaaDoor
