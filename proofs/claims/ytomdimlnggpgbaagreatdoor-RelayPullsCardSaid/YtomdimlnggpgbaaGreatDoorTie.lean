/-
  DERIVED. GIVEN WITH THE SEED: THE PROGRAM's TIES (one call each: nine closed facts by the kernel) AND EACH ROW's TIE, after the 31st guide's Derived/Test/Toyas{Tie, Card}.lean. No idea stands in it: it is a product of the set-up. Laid BY PROGRAM, IN A SANDBOX (cutbox-door.mjs). By AI agents, Wed Nov 11 2026. No macro, syntax, notation, axiom, sorry.
-/
import Derived.Test.YtomdimlnggpgbaaGreatDoorRows
import Derived.LaidByTextLater
import Derived.SevenTiedAt
import Derived.LaidSub
import Derived.LaidOnce
namespace Go.Proofs.YtomdimlnggpgbaaGreatDoor
open Go
set_option maxRecDepth 100000
theorem seatTie1 : Tryz.prog.laidByTextLater [("jalousie/jalousieref01.words", Rows.laid_jalousie_jalousieref01_words), ("errors.errorType", Rows.laid_errors_errorType), ("jalousie/hash.rounds", Rows.laid_jalousie_hash_rounds), ("jalousie/store.errLost", Rows.laid_jalousie_store_errLost), ("jalousie/store.errFull", Rows.laid_jalousie_store_errFull), ("jalousie/store.errSpent", Rows.laid_jalousie_store_errSpent)] [.data, .handle, .data, .sentinel, .sentinel, .sentinel] true :=
  Program.laidByTextLater_by_one 83 8 65 (by kernel_rfl) (by kernel_rfl) (by kernel_rfl) (by kernel_rfl) (by kernel_rfl) (by kernel_rfl) (fun _ _ => by kernel_rfl)
theorem noOwnUnsafe : Tryz.pinned.checked.prog.headLifts.contains "ownunsafe" = false := by kernel_rfl
theorem tie : Tryz.prog.laidByTextLater [("jalousie/store.errLost", Rows.laid_jalousie_store_errLost), ("jalousie/store.errFull", Rows.laid_jalousie_store_errFull), ("jalousie/store.errSpent", Rows.laid_jalousie_store_errSpent)] [.sentinel, .sentinel, .sentinel] true :=
  Program.laidByTextLater.sub seatTie1 ["jalousie/store.errLost", "jalousie/store.errFull", "jalousie/store.errSpent"] (by kernel_rfl) (by kernel_rfl)
theorem storePlays_row_tie : Rows.storePlaysRow.laidByTextAt .later Tryz.pinned [.sentinel, .sentinel, .sentinel] true :=
  OpenClaim.laidByTextAt_later rfl rfl tie noOwnUnsafe
theorem storeCrashes_row_tie : Rows.storeCrashesRow.laidByTextAt .later Tryz.pinned [.sentinel, .sentinel, .sentinel] true :=
  OpenClaim.laidByTextAt_later rfl rfl tie noOwnUnsafe
theorem tie2 : Tryz.prog.laidByTextLater [("jalousie/jalousieref01.words", Rows.laid_jalousie_jalousieref01_words), ("errors.errorType", Rows.laid_errors_errorType), ("jalousie/hash.rounds", Rows.laid_jalousie_hash_rounds), ("jalousie/store.errLost", Rows.laid_jalousie_store_errLost), ("jalousie/store.errFull", Rows.laid_jalousie_store_errFull), ("jalousie/store.errSpent", Rows.laid_jalousie_store_errSpent)] [.data, .handle, .data, .sentinel, .sentinel, .sentinel] true :=
  Program.laidByTextLater.sub seatTie1 ["jalousie/jalousieref01.words", "errors.errorType", "jalousie/hash.rounds", "jalousie/store.errLost", "jalousie/store.errFull", "jalousie/store.errSpent"] (by kernel_rfl) (by kernel_rfl)
theorem relayTwice_row_tie : Rows.relayTwiceRow.laidByTextAt .later Tryz.pinned [.data, .handle, .data, .sentinel, .sentinel, .sentinel] true :=
  OpenClaim.laidByTextAt_later rfl rfl tie2 noOwnUnsafe
theorem relayOpens_row_tie : Rows.relayOpensRow.laidByTextAt .later Tryz.pinned [.data, .handle, .data, .sentinel, .sentinel, .sentinel] true :=
  OpenClaim.laidByTextAt_later rfl rfl tie2 noOwnUnsafe
theorem relayPulls_row_tie : Rows.relayPullsRow.laidByTextAt .later Tryz.pinned [.data, .handle, .data, .sentinel, .sentinel, .sentinel] true :=
  OpenClaim.laidByTextAt_later rfl rfl tie2 noOwnUnsafe
theorem relayPlays_row_tie : Rows.relayPlaysRow.laidByTextAt .later Tryz.pinned [.data, .handle, .data, .sentinel, .sentinel, .sentinel] true :=
  OpenClaim.laidByTextAt_later rfl rfl tie2 noOwnUnsafe
theorem relayCrashes_row_tie : Rows.relayCrashesRow.laidByTextAt .later Tryz.pinned [.data, .handle, .data, .sentinel, .sentinel, .sentinel] true :=
  OpenClaim.laidByTextAt_later rfl rfl tie2 noOwnUnsafe
theorem storePlaysUpto_row_tie : Rows.storePlaysUptoRow.laidByTextAt .later Tryz.pinned [.sentinel, .sentinel, .sentinel] true :=
  OpenClaim.laidByTextAt_later rfl rfl tie noOwnUnsafe
theorem storeCrashesUpto_row_tie : Rows.storeCrashesUptoRow.laidByTextAt .later Tryz.pinned [.sentinel, .sentinel, .sentinel] true :=
  OpenClaim.laidByTextAt_later rfl rfl tie noOwnUnsafe
theorem relayTwiceUpto_row_tie : Rows.relayTwiceUptoRow.laidByTextAt .later Tryz.pinned [.data, .handle, .data, .sentinel, .sentinel, .sentinel] true :=
  OpenClaim.laidByTextAt_later rfl rfl tie2 noOwnUnsafe
theorem relayOpensUpto_row_tie : Rows.relayOpensUptoRow.laidByTextAt .later Tryz.pinned [.data, .handle, .data, .sentinel, .sentinel, .sentinel] true :=
  OpenClaim.laidByTextAt_later rfl rfl tie2 noOwnUnsafe
theorem relayPullsUpto_row_tie : Rows.relayPullsUptoRow.laidByTextAt .later Tryz.pinned [.data, .handle, .data, .sentinel, .sentinel, .sentinel] true :=
  OpenClaim.laidByTextAt_later rfl rfl tie2 noOwnUnsafe
theorem relayPlaysUpto_row_tie : Rows.relayPlaysUptoRow.laidByTextAt .later Tryz.pinned [.data, .handle, .data, .sentinel, .sentinel, .sentinel] true :=
  OpenClaim.laidByTextAt_later rfl rfl tie2 noOwnUnsafe
theorem relayCrashesUpto_row_tie : Rows.relayCrashesUptoRow.laidByTextAt .later Tryz.pinned [.data, .handle, .data, .sentinel, .sentinel, .sentinel] true :=
  OpenClaim.laidByTextAt_later rfl rfl tie2 noOwnUnsafe
end Go.Proofs.YtomdimlnggpgbaaGreatDoor
