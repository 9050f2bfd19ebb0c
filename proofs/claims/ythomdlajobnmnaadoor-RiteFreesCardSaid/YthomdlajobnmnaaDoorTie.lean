/-
  DERIVED. GIVEN WITH THE SEED: THE PROGRAM's TIES (one call each: nine closed facts by the kernel) AND EACH ROW's TIE, after the 31st guide's Derived/Test/Toyas{Tie, Card}.lean. No idea stands in it: it is a product of the set-up. Laid BY PROGRAM, IN A SANDBOX (cutbox-door.mjs). By AI agents, Wed Nov 11 2026. No macro, syntax, notation, axiom, sorry.
-/
import Derived.Test.YthomdlajobnmnaaDoorRows
import Derived.LaidByTextLater
import Derived.SevenTiedAt
import Derived.LaidSub
import Derived.LaidOnce
namespace Go.Proofs.YthomdlajobnmnaaDoor
open Go
set_option maxRecDepth 100000
theorem seatTie1 : Tryd.prog.laidByTextLater [("errors.errorType", Rows.laid_errors_errorType), ("sexton/api.ErrArg", Rows.laid_sexton_api_ErrArg), ("sexton/api.ErrNil", Rows.laid_sexton_api_ErrNil), ("sexton/api.ErrState", Rows.laid_sexton_api_ErrState), ("sexton/api.ErrFreed", Rows.laid_sexton_api_ErrFreed), ("sexton/api.ErrStale", Rows.laid_sexton_api_ErrStale), ("sexton/api.ErrTwice", Rows.laid_sexton_api_ErrTwice)] [.handle, .sentinel, .sentinel, .sentinel, .sentinel, .sentinel, .sentinel] true :=
  Program.laidByTextLater_by_one 130 8 2 (by kernel_rfl) (by kernel_rfl) (by kernel_rfl) (by kernel_rfl) (by kernel_rfl) (by kernel_rfl) (fun _ _ => by kernel_rfl)
theorem noOwnUnsafe : Tryd.pinned.checked.prog.headLifts.contains "ownunsafe" = false := by kernel_rfl
theorem tie : Tryd.prog.laidByTextLater [("errors.errorType", Rows.laid_errors_errorType), ("sexton/api.ErrArg", Rows.laid_sexton_api_ErrArg), ("sexton/api.ErrNil", Rows.laid_sexton_api_ErrNil), ("sexton/api.ErrFreed", Rows.laid_sexton_api_ErrFreed), ("sexton/api.ErrStale", Rows.laid_sexton_api_ErrStale), ("sexton/api.ErrTwice", Rows.laid_sexton_api_ErrTwice)] [.handle, .sentinel, .sentinel, .sentinel, .sentinel, .sentinel] true :=
  Program.laidByTextLater.sub seatTie1 ["errors.errorType", "sexton/api.ErrArg", "sexton/api.ErrNil", "sexton/api.ErrFreed", "sexton/api.ErrStale", "sexton/api.ErrTwice"] (by kernel_rfl) (by kernel_rfl)
theorem plotRow_row_tie : Rows.plotRowRow.laidByTextAt .later Tryd.pinned [.handle, .sentinel, .sentinel, .sentinel, .sentinel, .sentinel] true :=
  OpenClaim.laidByTextAt_later rfl rfl tie noOwnUnsafe
theorem plotStays_row_tie : Rows.plotStaysRow.laidByTextAt .later Tryd.pinned [.handle, .sentinel, .sentinel, .sentinel, .sentinel, .sentinel] true :=
  OpenClaim.laidByTextAt_later rfl rfl tie noOwnUnsafe
theorem plotReborn_row_tie : Rows.plotRebornRow.laidByTextAt .later Tryd.pinned [.handle, .sentinel, .sentinel, .sentinel, .sentinel, .sentinel] true :=
  OpenClaim.laidByTextAt_later rfl rfl tie noOwnUnsafe
theorem plotOnce_row_tie : Rows.plotOnceRow.laidByTextAt .later Tryd.pinned [.handle, .sentinel, .sentinel, .sentinel, .sentinel, .sentinel] true :=
  OpenClaim.laidByTextAt_later rfl rfl tie noOwnUnsafe
theorem tie2 : Tryd.prog.laidByTextLater [("sexton/api.ErrArg", Rows.laid_sexton_api_ErrArg), ("sexton/api.ErrNil", Rows.laid_sexton_api_ErrNil), ("sexton/api.ErrState", Rows.laid_sexton_api_ErrState), ("sexton/api.ErrFreed", Rows.laid_sexton_api_ErrFreed), ("sexton/api.ErrStale", Rows.laid_sexton_api_ErrStale), ("sexton/api.ErrTwice", Rows.laid_sexton_api_ErrTwice)] [.sentinel, .sentinel, .sentinel, .sentinel, .sentinel, .sentinel] true :=
  Program.laidByTextLater.sub seatTie1 ["sexton/api.ErrArg", "sexton/api.ErrNil", "sexton/api.ErrState", "sexton/api.ErrFreed", "sexton/api.ErrStale", "sexton/api.ErrTwice"] (by kernel_rfl) (by kernel_rfl)
theorem riteKeeps_row_tie : Rows.riteKeepsRow.laidByTextAt .later Tryd.pinned [.sentinel, .sentinel, .sentinel, .sentinel, .sentinel, .sentinel] true :=
  OpenClaim.laidByTextAt_later rfl rfl tie2 noOwnUnsafe
theorem riteLeaves_row_tie : Rows.riteLeavesRow.laidByTextAt .later Tryd.pinned [.sentinel, .sentinel, .sentinel, .sentinel, .sentinel, .sentinel] true :=
  OpenClaim.laidByTextAt_later rfl rfl tie2 noOwnUnsafe
theorem riteBounds_row_tie : Rows.riteBoundsRow.laidByTextAt .later Tryd.pinned [.sentinel, .sentinel, .sentinel, .sentinel, .sentinel, .sentinel] true :=
  OpenClaim.laidByTextAt_later rfl rfl tie2 noOwnUnsafe
theorem riteFrees_row_tie : Rows.riteFreesRow.laidByTextAt .later Tryd.pinned [.sentinel, .sentinel, .sentinel, .sentinel, .sentinel, .sentinel] true :=
  OpenClaim.laidByTextAt_later rfl rfl tie2 noOwnUnsafe
theorem riteScans_row_tie : Rows.riteScansRow.laidByTextAt .later Tryd.pinned [.sentinel, .sentinel, .sentinel, .sentinel, .sentinel, .sentinel] true :=
  OpenClaim.laidByTextAt_later rfl rfl tie2 noOwnUnsafe
theorem plotRowUpto_row_tie : Rows.plotRowUptoRow.laidByTextAt .later Tryd.pinned [.handle, .sentinel, .sentinel, .sentinel, .sentinel, .sentinel] true :=
  OpenClaim.laidByTextAt_later rfl rfl tie noOwnUnsafe
theorem plotStaysUpto_row_tie : Rows.plotStaysUptoRow.laidByTextAt .later Tryd.pinned [.handle, .sentinel, .sentinel, .sentinel, .sentinel, .sentinel] true :=
  OpenClaim.laidByTextAt_later rfl rfl tie noOwnUnsafe
theorem plotRebornUpto_row_tie : Rows.plotRebornUptoRow.laidByTextAt .later Tryd.pinned [.handle, .sentinel, .sentinel, .sentinel, .sentinel, .sentinel] true :=
  OpenClaim.laidByTextAt_later rfl rfl tie noOwnUnsafe
theorem plotOnceUpto_row_tie : Rows.plotOnceUptoRow.laidByTextAt .later Tryd.pinned [.handle, .sentinel, .sentinel, .sentinel, .sentinel, .sentinel] true :=
  OpenClaim.laidByTextAt_later rfl rfl tie noOwnUnsafe
theorem riteKeepsUpto_row_tie : Rows.riteKeepsUptoRow.laidByTextAt .later Tryd.pinned [.sentinel, .sentinel, .sentinel, .sentinel, .sentinel, .sentinel] true :=
  OpenClaim.laidByTextAt_later rfl rfl tie2 noOwnUnsafe
theorem riteLeavesUpto_row_tie : Rows.riteLeavesUptoRow.laidByTextAt .later Tryd.pinned [.sentinel, .sentinel, .sentinel, .sentinel, .sentinel, .sentinel] true :=
  OpenClaim.laidByTextAt_later rfl rfl tie2 noOwnUnsafe
theorem riteBoundsUpto_row_tie : Rows.riteBoundsUptoRow.laidByTextAt .later Tryd.pinned [.sentinel, .sentinel, .sentinel, .sentinel, .sentinel, .sentinel] true :=
  OpenClaim.laidByTextAt_later rfl rfl tie2 noOwnUnsafe
theorem riteFreesUpto_row_tie : Rows.riteFreesUptoRow.laidByTextAt .later Tryd.pinned [.sentinel, .sentinel, .sentinel, .sentinel, .sentinel, .sentinel] true :=
  OpenClaim.laidByTextAt_later rfl rfl tie2 noOwnUnsafe
theorem riteScansUpto_row_tie : Rows.riteScansUptoRow.laidByTextAt .later Tryd.pinned [.sentinel, .sentinel, .sentinel, .sentinel, .sentinel, .sentinel] true :=
  OpenClaim.laidByTextAt_later rfl rfl tie2 noOwnUnsafe
end Go.Proofs.YthomdlajobnmnaaDoor
