/-
  DERIVED. GIVEN WITH THE SEED: THE PROGRAM's TIES (one call each: nine closed facts by the kernel) AND EACH ROW's TIE, after the 31st guide's Derived/Test/Toyas{Tie, Card}.lean. No idea stands in it: it is a product of the set-up. Laid BY PROGRAM, IN A SANDBOX (cutbox-door.mjs). By AI agents, Wed Nov 11 2026. No macro, syntax, notation, axiom, sorry.
-/
import Derived.Test.YtkpbbhcdmkmnfaaDoorRows
import Derived.LaidByTextLater
import Derived.SevenTiedAt
import Derived.LaidSub
import Derived.LaidOnce
namespace Go.Proofs.YtkpbbhcdmkmnfaaDoor
open Go
set_option maxRecDepth 100000
theorem seatTie1 : Tryd.prog.laidByTextLater [("errors.errorType", Rows.laid_errors_errorType), ("sexton/api.ErrArg", Rows.laid_sexton_api_ErrArg), ("sexton/api.ErrNil", Rows.laid_sexton_api_ErrNil), ("sexton/api.ErrFull", Rows.laid_sexton_api_ErrFull), ("sexton/api.ErrNone", Rows.laid_sexton_api_ErrNone), ("sexton/api.ErrState", Rows.laid_sexton_api_ErrState), ("sexton/api.ErrFreed", Rows.laid_sexton_api_ErrFreed), ("sexton/api.ErrStale", Rows.laid_sexton_api_ErrStale), ("sexton/api.ErrTwice", Rows.laid_sexton_api_ErrTwice), ("sexton/api.ErrLeft", Rows.laid_sexton_api_ErrLeft), ("sexton/api.ErrLong", Rows.laid_sexton_api_ErrLong), ("sexton/api.ErrWord", Rows.laid_sexton_api_ErrWord)] [.handle, .sentinel, .sentinel, .sentinel, .sentinel, .sentinel, .sentinel, .sentinel, .sentinel, .sentinel, .sentinel, .sentinel] true :=
  Program.laidByTextLater_by_one 225 8 2 (by kernel_rfl) (by kernel_rfl) (by kernel_rfl) (by kernel_rfl) (by kernel_rfl) (by kernel_rfl) (fun _ _ => by kernel_rfl)
theorem noOwnUnsafe : Tryd.pinned.checked.prog.headLifts.contains "ownunsafe" = false := by kernel_rfl
theorem tie : Tryd.prog.laidByTextLater [("errors.errorType", Rows.laid_errors_errorType), ("sexton/api.ErrArg", Rows.laid_sexton_api_ErrArg), ("sexton/api.ErrNil", Rows.laid_sexton_api_ErrNil), ("sexton/api.ErrFull", Rows.laid_sexton_api_ErrFull), ("sexton/api.ErrNone", Rows.laid_sexton_api_ErrNone), ("sexton/api.ErrState", Rows.laid_sexton_api_ErrState), ("sexton/api.ErrFreed", Rows.laid_sexton_api_ErrFreed), ("sexton/api.ErrStale", Rows.laid_sexton_api_ErrStale), ("sexton/api.ErrTwice", Rows.laid_sexton_api_ErrTwice), ("sexton/api.ErrLeft", Rows.laid_sexton_api_ErrLeft), ("sexton/api.ErrLong", Rows.laid_sexton_api_ErrLong), ("sexton/api.ErrWord", Rows.laid_sexton_api_ErrWord)] [.handle, .sentinel, .sentinel, .sentinel, .sentinel, .sentinel, .sentinel, .sentinel, .sentinel, .sentinel, .sentinel, .sentinel] true :=
  Program.laidByTextLater.sub seatTie1 ["errors.errorType", "sexton/api.ErrArg", "sexton/api.ErrNil", "sexton/api.ErrFull", "sexton/api.ErrNone", "sexton/api.ErrState", "sexton/api.ErrFreed", "sexton/api.ErrStale", "sexton/api.ErrTwice", "sexton/api.ErrLeft", "sexton/api.ErrLong", "sexton/api.ErrWord"] (by kernel_rfl) (by kernel_rfl)
theorem woeTells_row_tie : Rows.woeTellsRow.laidByTextAt .later Tryd.pinned [.handle, .sentinel, .sentinel, .sentinel, .sentinel, .sentinel, .sentinel, .sentinel, .sentinel, .sentinel, .sentinel, .sentinel] true :=
  OpenClaim.laidByTextAt_later rfl rfl tie noOwnUnsafe
theorem woeNames_row_tie : Rows.woeNamesRow.laidByTextAt .later Tryd.pinned [.handle, .sentinel, .sentinel, .sentinel, .sentinel, .sentinel, .sentinel, .sentinel, .sentinel, .sentinel, .sentinel, .sentinel] true :=
  OpenClaim.laidByTextAt_later rfl rfl tie noOwnUnsafe
theorem woeParts_row_tie : Rows.woePartsRow.laidByTextAt .later Tryd.pinned [.handle, .sentinel, .sentinel, .sentinel, .sentinel, .sentinel, .sentinel, .sentinel, .sentinel, .sentinel, .sentinel, .sentinel] true :=
  OpenClaim.laidByTextAt_later rfl rfl tie noOwnUnsafe
theorem woeStrange_row_tie : Rows.woeStrangeRow.laidByTextAt .later Tryd.pinned [.handle, .sentinel, .sentinel, .sentinel, .sentinel, .sentinel, .sentinel, .sentinel, .sentinel, .sentinel, .sentinel, .sentinel] true :=
  OpenClaim.laidByTextAt_later rfl rfl tie noOwnUnsafe
theorem woeOpens_row_tie : Rows.woeOpensRow.laidByTextAt .later Tryd.pinned [.handle, .sentinel, .sentinel, .sentinel, .sentinel, .sentinel, .sentinel, .sentinel, .sentinel, .sentinel, .sentinel, .sentinel] true :=
  OpenClaim.laidByTextAt_later rfl rfl tie noOwnUnsafe
theorem woeSeveral_row_tie : Rows.woeSeveralRow.laidByTextAt .later Tryd.pinned [.handle, .sentinel, .sentinel, .sentinel, .sentinel, .sentinel, .sentinel, .sentinel, .sentinel, .sentinel, .sentinel, .sentinel] true :=
  OpenClaim.laidByTextAt_later rfl rfl tie noOwnUnsafe
theorem woeTellsUpto_row_tie : Rows.woeTellsUptoRow.laidByTextAt .later Tryd.pinned [.handle, .sentinel, .sentinel, .sentinel, .sentinel, .sentinel, .sentinel, .sentinel, .sentinel, .sentinel, .sentinel, .sentinel] true :=
  OpenClaim.laidByTextAt_later rfl rfl tie noOwnUnsafe
theorem woeNamesUpto_row_tie : Rows.woeNamesUptoRow.laidByTextAt .later Tryd.pinned [.handle, .sentinel, .sentinel, .sentinel, .sentinel, .sentinel, .sentinel, .sentinel, .sentinel, .sentinel, .sentinel, .sentinel] true :=
  OpenClaim.laidByTextAt_later rfl rfl tie noOwnUnsafe
theorem woePartsUpto_row_tie : Rows.woePartsUptoRow.laidByTextAt .later Tryd.pinned [.handle, .sentinel, .sentinel, .sentinel, .sentinel, .sentinel, .sentinel, .sentinel, .sentinel, .sentinel, .sentinel, .sentinel] true :=
  OpenClaim.laidByTextAt_later rfl rfl tie noOwnUnsafe
theorem woeStrangeUpto_row_tie : Rows.woeStrangeUptoRow.laidByTextAt .later Tryd.pinned [.handle, .sentinel, .sentinel, .sentinel, .sentinel, .sentinel, .sentinel, .sentinel, .sentinel, .sentinel, .sentinel, .sentinel] true :=
  OpenClaim.laidByTextAt_later rfl rfl tie noOwnUnsafe
theorem woeOpensUpto_row_tie : Rows.woeOpensUptoRow.laidByTextAt .later Tryd.pinned [.handle, .sentinel, .sentinel, .sentinel, .sentinel, .sentinel, .sentinel, .sentinel, .sentinel, .sentinel, .sentinel, .sentinel] true :=
  OpenClaim.laidByTextAt_later rfl rfl tie noOwnUnsafe
theorem woeSeveralUpto_row_tie : Rows.woeSeveralUptoRow.laidByTextAt .later Tryd.pinned [.handle, .sentinel, .sentinel, .sentinel, .sentinel, .sentinel, .sentinel, .sentinel, .sentinel, .sentinel, .sentinel, .sentinel] true :=
  OpenClaim.laidByTextAt_later rfl rfl tie noOwnUnsafe
end Go.Proofs.YtkpbbhcdmkmnfaaDoor
