/-
  DERIVED. GIVEN WITH THE SEED: THE PROGRAM's TIES (one call each: nine closed facts by the kernel) AND EACH ROW's TIE, after the 31st guide's Derived/Test/Toyas{Tie, Card}.lean. No idea stands in it: it is a product of the set-up. Laid BY PROGRAM, IN A SANDBOX (cutbox-door.mjs). By AI agents, Wed Nov 11 2026. No macro, syntax, notation, axiom, sorry.
-/
import Derived.Test.YthomdlajobnmnaaGreatDoorRows
import Derived.LaidByTextLater
import Derived.SevenTiedAt
import Derived.LaidSub
import Derived.LaidOnce
namespace Go.Proofs.YthomdlajobnmnaaGreatDoor
open Go
set_option maxRecDepth 100000
theorem seatTie1 : Tryz.prog.laidByTextLater [("sexton/api.ErrArg", Rows.laid_sexton_api_ErrArg), ("sexton/api.ErrNil", Rows.laid_sexton_api_ErrNil), ("sexton/api.ErrFull", Rows.laid_sexton_api_ErrFull), ("sexton/api.ErrState", Rows.laid_sexton_api_ErrState), ("sexton/api.ErrFreed", Rows.laid_sexton_api_ErrFreed), ("sexton/api.ErrStale", Rows.laid_sexton_api_ErrStale), ("sexton/api.ErrTwice", Rows.laid_sexton_api_ErrTwice), ("sexton/api.ErrLeft", Rows.laid_sexton_api_ErrLeft)] [.sentinel, .sentinel, .sentinel, .sentinel, .sentinel, .sentinel, .sentinel, .sentinel] true :=
  Program.laidByTextLater_by_one 161 8 2 (by kernel_rfl) (by kernel_rfl) (by kernel_rfl) (by kernel_rfl) (by kernel_rfl) (by kernel_rfl) (fun _ _ => by kernel_rfl)
theorem noOwnUnsafe : Tryz.pinned.checked.prog.headLifts.contains "ownunsafe" = false := by kernel_rfl
theorem tie : Tryz.prog.laidByTextLater [("sexton/api.ErrArg", Rows.laid_sexton_api_ErrArg), ("sexton/api.ErrNil", Rows.laid_sexton_api_ErrNil), ("sexton/api.ErrState", Rows.laid_sexton_api_ErrState), ("sexton/api.ErrFreed", Rows.laid_sexton_api_ErrFreed), ("sexton/api.ErrStale", Rows.laid_sexton_api_ErrStale), ("sexton/api.ErrTwice", Rows.laid_sexton_api_ErrTwice)] [.sentinel, .sentinel, .sentinel, .sentinel, .sentinel, .sentinel] true :=
  Program.laidByTextLater.sub seatTie1 ["sexton/api.ErrArg", "sexton/api.ErrNil", "sexton/api.ErrState", "sexton/api.ErrFreed", "sexton/api.ErrStale", "sexton/api.ErrTwice"] (by kernel_rfl) (by kernel_rfl)
theorem pileTurns_row_tie : Rows.pileTurnsRow.laidByTextAt .later Tryz.pinned [.sentinel, .sentinel, .sentinel, .sentinel, .sentinel, .sentinel] true :=
  OpenClaim.laidByTextAt_later rfl rfl tie noOwnUnsafe
theorem tie2 : Tryz.prog.laidByTextLater [("sexton/api.ErrArg", Rows.laid_sexton_api_ErrArg), ("sexton/api.ErrNil", Rows.laid_sexton_api_ErrNil), ("sexton/api.ErrState", Rows.laid_sexton_api_ErrState), ("sexton/api.ErrFreed", Rows.laid_sexton_api_ErrFreed), ("sexton/api.ErrStale", Rows.laid_sexton_api_ErrStale), ("sexton/api.ErrTwice", Rows.laid_sexton_api_ErrTwice), ("sexton/api.ErrLeft", Rows.laid_sexton_api_ErrLeft)] [.sentinel, .sentinel, .sentinel, .sentinel, .sentinel, .sentinel, .sentinel] true :=
  Program.laidByTextLater.sub seatTie1 ["sexton/api.ErrArg", "sexton/api.ErrNil", "sexton/api.ErrState", "sexton/api.ErrFreed", "sexton/api.ErrStale", "sexton/api.ErrTwice", "sexton/api.ErrLeft"] (by kernel_rfl) (by kernel_rfl)
theorem pileEmpty_row_tie : Rows.pileEmptyRow.laidByTextAt .later Tryz.pinned [.sentinel, .sentinel, .sentinel, .sentinel, .sentinel, .sentinel, .sentinel] true :=
  OpenClaim.laidByTextAt_later rfl rfl tie2 noOwnUnsafe
theorem steepleRises_row_tie : Rows.steepleRisesRow.laidByTextAt .later Tryz.pinned [.sentinel, .sentinel, .sentinel, .sentinel, .sentinel, .sentinel, .sentinel] true :=
  OpenClaim.laidByTextAt_later rfl rfl tie2 noOwnUnsafe
theorem tie3 : Tryz.prog.laidByTextLater [("sexton/api.ErrArg", Rows.laid_sexton_api_ErrArg), ("sexton/api.ErrNil", Rows.laid_sexton_api_ErrNil), ("sexton/api.ErrFull", Rows.laid_sexton_api_ErrFull), ("sexton/api.ErrState", Rows.laid_sexton_api_ErrState), ("sexton/api.ErrFreed", Rows.laid_sexton_api_ErrFreed), ("sexton/api.ErrStale", Rows.laid_sexton_api_ErrStale), ("sexton/api.ErrTwice", Rows.laid_sexton_api_ErrTwice), ("sexton/api.ErrLeft", Rows.laid_sexton_api_ErrLeft)] [.sentinel, .sentinel, .sentinel, .sentinel, .sentinel, .sentinel, .sentinel, .sentinel] true :=
  Program.laidByTextLater.sub seatTie1 ["sexton/api.ErrArg", "sexton/api.ErrNil", "sexton/api.ErrFull", "sexton/api.ErrState", "sexton/api.ErrFreed", "sexton/api.ErrStale", "sexton/api.ErrTwice", "sexton/api.ErrLeft"] (by kernel_rfl) (by kernel_rfl)
theorem cortegeLays_row_tie : Rows.cortegeLaysRow.laidByTextAt .later Tryz.pinned [.sentinel, .sentinel, .sentinel, .sentinel, .sentinel, .sentinel, .sentinel, .sentinel] true :=
  OpenClaim.laidByTextAt_later rfl rfl tie3 noOwnUnsafe
theorem cortegePasses_row_tie : Rows.cortegePassesRow.laidByTextAt .later Tryz.pinned [.sentinel, .sentinel, .sentinel, .sentinel, .sentinel, .sentinel, .sentinel, .sentinel] true :=
  OpenClaim.laidByTextAt_later rfl rfl tie3 noOwnUnsafe
theorem pileTurnsUpto_row_tie : Rows.pileTurnsUptoRow.laidByTextAt .later Tryz.pinned [.sentinel, .sentinel, .sentinel, .sentinel, .sentinel, .sentinel] true :=
  OpenClaim.laidByTextAt_later rfl rfl tie noOwnUnsafe
theorem pileEmptyUpto_row_tie : Rows.pileEmptyUptoRow.laidByTextAt .later Tryz.pinned [.sentinel, .sentinel, .sentinel, .sentinel, .sentinel, .sentinel, .sentinel] true :=
  OpenClaim.laidByTextAt_later rfl rfl tie2 noOwnUnsafe
theorem cortegeLaysUpto_row_tie : Rows.cortegeLaysUptoRow.laidByTextAt .later Tryz.pinned [.sentinel, .sentinel, .sentinel, .sentinel, .sentinel, .sentinel, .sentinel, .sentinel] true :=
  OpenClaim.laidByTextAt_later rfl rfl tie3 noOwnUnsafe
theorem cortegePassesUpto_row_tie : Rows.cortegePassesUptoRow.laidByTextAt .later Tryz.pinned [.sentinel, .sentinel, .sentinel, .sentinel, .sentinel, .sentinel, .sentinel, .sentinel] true :=
  OpenClaim.laidByTextAt_later rfl rfl tie3 noOwnUnsafe
theorem steepleRisesUpto_row_tie : Rows.steepleRisesUptoRow.laidByTextAt .later Tryz.pinned [.sentinel, .sentinel, .sentinel, .sentinel, .sentinel, .sentinel, .sentinel] true :=
  OpenClaim.laidByTextAt_later rfl rfl tie2 noOwnUnsafe
end Go.Proofs.YthomdlajobnmnaaGreatDoor
