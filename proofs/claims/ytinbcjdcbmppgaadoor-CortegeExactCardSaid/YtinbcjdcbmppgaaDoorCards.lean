/-
  DERIVED. GIVEN WITH THE SEED: THE CARDS: each row of YtinbcjdcbmppgaaDoorRows.lean that lists a variable, with what it lists TIED to the program's text (the seventh form; the later family's looks); each row that meets fmt, with fmt's text TOLD by the authors' own Lean function (tested against real Go, not proved from fmt's source: count such statements apart). THE CARD IS WHAT COUNTS. Prove the row's statement (the work); the ties are given (YtinbcjdcbmppgaaDoorTie.lean); close each card by the builder's one call (the guide's Derived/Test/ToyasCard.lean, 'card_holds'). Laid BY PROGRAM, IN A SANDBOX (cutbox-door.mjs). By AI agents, Wed Nov 11 2026. No macro, syntax, notation, axiom, sorry.
-/
import Derived.Test.YtinbcjdcbmppgaaDoorRows
import GoSem.ClaimSeven
namespace Go.Proofs.YtinbcjdcbmppgaaDoor
namespace Rows

/-- THE TIED CARD OF 'sextonlaw08.CortegeExact'. -/
def cortegeExactCard : Claim7 := { stood := { row := cortegeExactRow, standIns := [], harness := (true, "b76c1c483dbc4947c0c87042686d43e1e0bf045004e68bdafbda1a508e1457fd"), looks := true }, kinds := [], alts := [], laidByText := true, laidKinds := [.sentinel], laidTests := true, laidLooks := .later }
def CortegeExactCardSaid : Prop := Claim7.holds Tryd.pinned (.plain (OpenSpec.ofChange cortegeExactSpec)) cortegeExactCard

/-- THE SECOND FORM's CARD OF 'sextonlaw08.CortegeExact'. -/
def cortegeExactUptoCard : Claim7 := { stood := { row := cortegeExactUptoRow, standIns := [], harness := (true, "b76c1c483dbc4947c0c87042686d43e1e0bf045004e68bdafbda1a508e1457fd"), looks := true }, kinds := [], alts := [], laidByText := true, laidKinds := [.sentinel], laidTests := true, laidLooks := .later }
def CortegeExactUptoCardSaid : Prop := Claim7.holds Tryd.pinned (.plain (OpenSpec.upto cortegeExactSpec)) cortegeExactUptoCard
end Rows
end Go.Proofs.YtinbcjdcbmppgaaDoor
