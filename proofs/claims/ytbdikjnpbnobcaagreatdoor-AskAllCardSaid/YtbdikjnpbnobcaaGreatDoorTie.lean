/-
  DERIVED. GIVEN WITH THE SEED: THE PROGRAM's TIES (one call each: nine closed facts by the kernel) AND EACH ROW's TIE, after the 31st guide's Derived/Test/Toyas{Tie, Card}.lean. No idea stands in it: it is a product of the set-up. Laid BY PROGRAM, IN A SANDBOX (cutbox-door.mjs). By AI agents, Wed Nov 11 2026. No macro, syntax, notation, axiom, sorry.
-/
import Derived.Test.YtbdikjnpbnobcaaGreatDoorRows
import Derived.LaidByTextLater
import Derived.SevenTiedAt
import Derived.LaidSub
import Derived.LaidOnce
namespace Go.Proofs.YtbdikjnpbnobcaaGreatDoor
open Go
set_option maxRecDepth 100000
theorem seatTie1 : Tryz.prog.laidByTextLater [("jalousie/jalousieref01.words", Rows.laid_jalousie_jalousieref01_words), ("unicode/utf8.acceptRanges", Rows.laid_unicode_utf8_acceptRanges), ("errors.errorType", Rows.laid_errors_errorType), ("jalousie/hash.rounds", Rows.laid_jalousie_hash_rounds), ("jalousie/store.errLost", Rows.laid_jalousie_store_errLost), ("jalousie/store.errFull", Rows.laid_jalousie_store_errFull), ("jalousie/store.errSpent", Rows.laid_jalousie_store_errSpent)] [.data, .data, .handle, .data, .sentinel, .sentinel, .sentinel] true :=
  Program.laidByTextLater_by_one 93 8 65 (by kernel_rfl) (by kernel_rfl) (by kernel_rfl) (by kernel_rfl) (by kernel_rfl) (by kernel_rfl) (fun _ _ => by kernel_rfl)
theorem pin_laid_unicode_utf8_first : Tryz.pinned.checked.prog.pinnedFits "unicode/utf8.first" = true := by kernel_rfl
theorem noOwnUnsafe : Tryz.pinned.checked.prog.headLifts.contains "ownunsafe" = false := by kernel_rfl
theorem fits1 : Tryz.pinned.checked.prog.listedFits [("unicode/utf8.acceptRanges", Rows.laid_unicode_utf8_acceptRanges), ("errors.errorType", Rows.laid_errors_errorType), ("jalousie/hash.rounds", Rows.laid_jalousie_hash_rounds), ("jalousie/store.errLost", Rows.laid_jalousie_store_errLost), ("jalousie/store.errFull", Rows.laid_jalousie_store_errFull), ("jalousie/store.errSpent", Rows.laid_jalousie_store_errSpent), ("unicode/utf8.first", Rows.laid_unicode_utf8_first)] = true := by
  unfold Program.listedFits
  rw [noOwnUnsafe]
  kernel_rfl
theorem tie : Tryz.prog.laidByTextLater [("unicode/utf8.acceptRanges", Rows.laid_unicode_utf8_acceptRanges), ("errors.errorType", Rows.laid_errors_errorType), ("jalousie/hash.rounds", Rows.laid_jalousie_hash_rounds), ("jalousie/store.errLost", Rows.laid_jalousie_store_errLost), ("jalousie/store.errFull", Rows.laid_jalousie_store_errFull), ("jalousie/store.errSpent", Rows.laid_jalousie_store_errSpent)] [.data, .handle, .data, .sentinel, .sentinel, .sentinel] true :=
  Program.laidByTextLater.sub seatTie1 ["unicode/utf8.acceptRanges", "errors.errorType", "jalousie/hash.rounds", "jalousie/store.errLost", "jalousie/store.errFull", "jalousie/store.errSpent"] (by kernel_rfl) (by kernel_rfl)
theorem askNothing_row_tie : Rows.askNothingRow.laidByTextAt .later Tryz.pinned [.data, .handle, .data, .sentinel, .sentinel, .sentinel, .pinned] true :=
  OpenClaim.laidByTextAt_pinned rfl rfl tie rfl rfl rfl rfl (fun y hy _e => by
    simp only [Rows.askNothingRow, List.zip_cons_cons, List.zip_nil_right, List.mem_cons, List.mem_nil_iff, or_false] at hy
    rcases hy with rfl | rfl | rfl | rfl | rfl | rfl | rfl
    · cases _e
    · cases _e
    · cases _e
    · cases _e
    · cases _e
    · cases _e
    · exact ⟨pin_laid_unicode_utf8_first, by kernel_rfl⟩) fits1
theorem tie2 : Tryz.prog.laidByTextLater [("jalousie/jalousieref01.words", Rows.laid_jalousie_jalousieref01_words), ("errors.errorType", Rows.laid_errors_errorType), ("jalousie/hash.rounds", Rows.laid_jalousie_hash_rounds), ("jalousie/store.errLost", Rows.laid_jalousie_store_errLost), ("jalousie/store.errFull", Rows.laid_jalousie_store_errFull), ("jalousie/store.errSpent", Rows.laid_jalousie_store_errSpent)] [.data, .handle, .data, .sentinel, .sentinel, .sentinel] true :=
  Program.laidByTextLater.sub seatTie1 ["jalousie/jalousieref01.words", "errors.errorType", "jalousie/hash.rounds", "jalousie/store.errLost", "jalousie/store.errFull", "jalousie/store.errSpent"] (by kernel_rfl) (by kernel_rfl)
theorem askServes_row_tie : Rows.askServesRow.laidByTextAt .later Tryz.pinned [.data, .handle, .data, .sentinel, .sentinel, .sentinel] true :=
  OpenClaim.laidByTextAt_later rfl rfl tie2 noOwnUnsafe
theorem fits3 : Tryz.pinned.checked.prog.listedFits [("jalousie/jalousieref01.words", Rows.laid_jalousie_jalousieref01_words), ("unicode/utf8.acceptRanges", Rows.laid_unicode_utf8_acceptRanges), ("errors.errorType", Rows.laid_errors_errorType), ("jalousie/hash.rounds", Rows.laid_jalousie_hash_rounds), ("jalousie/store.errLost", Rows.laid_jalousie_store_errLost), ("jalousie/store.errFull", Rows.laid_jalousie_store_errFull), ("jalousie/store.errSpent", Rows.laid_jalousie_store_errSpent), ("unicode/utf8.first", Rows.laid_unicode_utf8_first)] = true := by
  unfold Program.listedFits
  rw [noOwnUnsafe]
  kernel_rfl
theorem tie3 : Tryz.prog.laidByTextLater [("jalousie/jalousieref01.words", Rows.laid_jalousie_jalousieref01_words), ("unicode/utf8.acceptRanges", Rows.laid_unicode_utf8_acceptRanges), ("errors.errorType", Rows.laid_errors_errorType), ("jalousie/hash.rounds", Rows.laid_jalousie_hash_rounds), ("jalousie/store.errLost", Rows.laid_jalousie_store_errLost), ("jalousie/store.errFull", Rows.laid_jalousie_store_errFull), ("jalousie/store.errSpent", Rows.laid_jalousie_store_errSpent)] [.data, .data, .handle, .data, .sentinel, .sentinel, .sentinel] true :=
  Program.laidByTextLater.sub seatTie1 ["jalousie/jalousieref01.words", "unicode/utf8.acceptRanges", "errors.errorType", "jalousie/hash.rounds", "jalousie/store.errLost", "jalousie/store.errFull", "jalousie/store.errSpent"] (by kernel_rfl) (by kernel_rfl)
theorem askAll_row_tie : Rows.askAllRow.laidByTextAt .later Tryz.pinned [.data, .data, .handle, .data, .sentinel, .sentinel, .sentinel, .pinned] true :=
  OpenClaim.laidByTextAt_pinned rfl rfl tie3 rfl rfl rfl rfl (fun y hy _e => by
    simp only [Rows.askAllRow, List.zip_cons_cons, List.zip_nil_right, List.mem_cons, List.mem_nil_iff, or_false] at hy
    rcases hy with rfl | rfl | rfl | rfl | rfl | rfl | rfl | rfl
    · cases _e
    · cases _e
    · cases _e
    · cases _e
    · cases _e
    · cases _e
    · cases _e
    · exact ⟨pin_laid_unicode_utf8_first, by kernel_rfl⟩) fits3
theorem askNothingUpto_row_tie : Rows.askNothingUptoRow.laidByTextAt .later Tryz.pinned [.data, .handle, .data, .sentinel, .sentinel, .sentinel, .pinned] true :=
  OpenClaim.laidByTextAt_pinned rfl rfl tie rfl rfl rfl rfl (fun y hy _e => by
    simp only [Rows.askNothingUptoRow, List.zip_cons_cons, List.zip_nil_right, List.mem_cons, List.mem_nil_iff, or_false] at hy
    rcases hy with rfl | rfl | rfl | rfl | rfl | rfl | rfl
    · cases _e
    · cases _e
    · cases _e
    · cases _e
    · cases _e
    · cases _e
    · exact ⟨pin_laid_unicode_utf8_first, by kernel_rfl⟩) fits1
theorem askServesUpto_row_tie : Rows.askServesUptoRow.laidByTextAt .later Tryz.pinned [.data, .handle, .data, .sentinel, .sentinel, .sentinel] true :=
  OpenClaim.laidByTextAt_later rfl rfl tie2 noOwnUnsafe
theorem askAllUpto_row_tie : Rows.askAllUptoRow.laidByTextAt .later Tryz.pinned [.data, .data, .handle, .data, .sentinel, .sentinel, .sentinel, .pinned] true :=
  OpenClaim.laidByTextAt_pinned rfl rfl tie3 rfl rfl rfl rfl (fun y hy _e => by
    simp only [Rows.askAllUptoRow, List.zip_cons_cons, List.zip_nil_right, List.mem_cons, List.mem_nil_iff, or_false] at hy
    rcases hy with rfl | rfl | rfl | rfl | rfl | rfl | rfl | rfl
    · cases _e
    · cases _e
    · cases _e
    · cases _e
    · cases _e
    · cases _e
    · cases _e
    · exact ⟨pin_laid_unicode_utf8_first, by kernel_rfl⟩) fits3
end Go.Proofs.YtbdikjnpbnobcaaGreatDoor
