/-
  DERIVED. GIVEN WITH THE SEED: THE PROGRAM's TIES (one call each: nine closed facts by the kernel) AND EACH ROW's TIE, after the 31st guide's Derived/Test/Toyas{Tie, Card}.lean. No idea stands in it: it is a product of the set-up. Laid BY PROGRAM, IN A SANDBOX (cutbox-door.mjs). By AI agents, Wed Nov 11 2026. No macro, syntax, notation, axiom, sorry.
-/
import Derived.Test.YtacgihekdmoceaaDoorRows
import Derived.LaidByTextLater
import Derived.SevenTiedAt
import Derived.LaidSub
import Derived.LaidOnce
namespace Go.Proofs.YtacgihekdmoceaaDoor
open Go
set_option maxRecDepth 100000
theorem seatTie1 : Tryd.prog.laidByTextLater [("errors.errorType", Rows.laid_errors_errorType)] [.handle] true :=
  Program.laidByTextLater_by_one 16 8 2 (by kernel_rfl) (by kernel_rfl) (by kernel_rfl) (by kernel_rfl) (by kernel_rfl) (by kernel_rfl) (fun _ _ => by kernel_rfl)
theorem noOwnUnsafe : Tryd.pinned.checked.prog.headLifts.contains "ownunsafe" = false := by kernel_rfl
theorem tie : Tryd.prog.laidByTextLater [("errors.errorType", Rows.laid_errors_errorType)] [.handle] true :=
  Program.laidByTextLater.sub seatTie1 ["errors.errorType"] (by kernel_rfl) (by kernel_rfl)
theorem judgeJoins_row_tie : Rows.judgeJoinsRow.laidByTextAt .later Tryd.pinned [.handle] true :=
  OpenClaim.laidByTextAt_later rfl rfl tie noOwnUnsafe
theorem batchNone_row_tie : Rows.batchNoneRow.laidByTextAt .later Tryd.pinned [.handle] true :=
  OpenClaim.laidByTextAt_later rfl rfl tie noOwnUnsafe
theorem batchOnce_row_tie : Rows.batchOnceRow.laidByTextAt .later Tryd.pinned [.handle] true :=
  OpenClaim.laidByTextAt_later rfl rfl tie noOwnUnsafe
theorem batchFolds_row_tie : Rows.batchFoldsRow.laidByTextAt .later Tryd.pinned [.handle] true :=
  OpenClaim.laidByTextAt_later rfl rfl tie noOwnUnsafe
theorem batchClosed_row_tie : Rows.batchClosedRow.laidByTextAt .later Tryd.pinned [.handle] true :=
  OpenClaim.laidByTextAt_later rfl rfl tie noOwnUnsafe
theorem batchLegal_row_tie : Rows.batchLegalRow.laidByTextAt .later Tryd.pinned [.handle] true :=
  OpenClaim.laidByTextAt_later rfl rfl tie noOwnUnsafe
theorem judgeJoinsUpto_row_tie : Rows.judgeJoinsUptoRow.laidByTextAt .later Tryd.pinned [.handle] true :=
  OpenClaim.laidByTextAt_later rfl rfl tie noOwnUnsafe
theorem batchNoneUpto_row_tie : Rows.batchNoneUptoRow.laidByTextAt .later Tryd.pinned [.handle] true :=
  OpenClaim.laidByTextAt_later rfl rfl tie noOwnUnsafe
theorem batchOnceUpto_row_tie : Rows.batchOnceUptoRow.laidByTextAt .later Tryd.pinned [.handle] true :=
  OpenClaim.laidByTextAt_later rfl rfl tie noOwnUnsafe
theorem batchFoldsUpto_row_tie : Rows.batchFoldsUptoRow.laidByTextAt .later Tryd.pinned [.handle] true :=
  OpenClaim.laidByTextAt_later rfl rfl tie noOwnUnsafe
theorem batchClosedUpto_row_tie : Rows.batchClosedUptoRow.laidByTextAt .later Tryd.pinned [.handle] true :=
  OpenClaim.laidByTextAt_later rfl rfl tie noOwnUnsafe
theorem batchLegalUpto_row_tie : Rows.batchLegalUptoRow.laidByTextAt .later Tryd.pinned [.handle] true :=
  OpenClaim.laidByTextAt_later rfl rfl tie noOwnUnsafe
end Go.Proofs.YtacgihekdmoceaaDoor
