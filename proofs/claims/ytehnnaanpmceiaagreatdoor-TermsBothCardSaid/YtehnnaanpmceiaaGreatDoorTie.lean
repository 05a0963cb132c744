/-
  DERIVED. GIVEN WITH THE SEED: THE PROGRAM's TIES (one call each: nine closed facts by the kernel) AND EACH ROW's TIE, after the 31st guide's Derived/Test/Toyas{Tie, Card}.lean. No idea stands in it: it is a product of the set-up. Laid BY PROGRAM, IN A SANDBOX (cutbox-door.mjs). By AI agents, Wed Nov 11 2026. No macro, syntax, notation, axiom, sorry.
-/
import Derived.Test.YtehnnaanpmceiaaGreatDoorRows
import Derived.LaidByTextLater
import Derived.SevenTiedAt
import Derived.LaidSub
import Derived.LaidOnce
namespace Go.Proofs.YtehnnaanpmceiaaGreatDoor
open Go
set_option maxRecDepth 100000
theorem seatTie1 : Tryz.prog.laidByTextLater [("demurrage/civil.lengths", Rows.laid_demurrage_civil_lengths), ("errors.errorType", Rows.laid_errors_errorType), ("demurrage/actual.errNone", Rows.laid_demurrage_actual_errNone), ("demurrage/actual.errTurns", Rows.laid_demurrage_actual_errTurns), ("demurrage/roll.names", Rows.laid_demurrage_roll_names), ("demurrage/terms.names", Rows.laid_demurrage_terms_names), ("demurrage/terms.errTerms", Rows.laid_demurrage_terms_errTerms)] [.data, .handle, .sentinel, .sentinel, .widerDeep, .widerDeep, .sentinel] true :=
  Program.laidByTextLater_by_one 88 8 14 (by kernel_rfl) (by kernel_rfl) (by kernel_rfl) (by kernel_rfl) (by kernel_rfl) (by kernel_rfl) (fun _ _ => by kernel_rfl)
theorem noOwnUnsafe : Tryz.pinned.checked.prog.headLifts.contains "ownunsafe" = false := by kernel_rfl
theorem tie : Tryz.prog.laidByTextLater [("demurrage/civil.lengths", Rows.laid_demurrage_civil_lengths), ("errors.errorType", Rows.laid_errors_errorType), ("demurrage/actual.errNone", Rows.laid_demurrage_actual_errNone), ("demurrage/actual.errTurns", Rows.laid_demurrage_actual_errTurns)] [.data, .handle, .sentinel, .sentinel] true :=
  Program.laidByTextLater.sub seatTie1 ["demurrage/civil.lengths", "errors.errorType", "demurrage/actual.errNone", "demurrage/actual.errTurns"] (by kernel_rfl) (by kernel_rfl)
theorem countTells_row_tie : Rows.countTellsRow.laidByTextAt .later Tryz.pinned [.data, .handle, .sentinel, .sentinel] true :=
  OpenClaim.laidByTextAt_later rfl rfl tie noOwnUnsafe
theorem countNames_row_tie : Rows.countNamesRow.laidByTextAt .later Tryz.pinned [.data, .handle, .sentinel, .sentinel] true :=
  OpenClaim.laidByTextAt_later rfl rfl tie noOwnUnsafe
theorem countBeside_row_tie : Rows.countBesideRow.laidByTextAt .later Tryz.pinned [.data, .handle, .sentinel, .sentinel] true :=
  OpenClaim.laidByTextAt_later rfl rfl tie noOwnUnsafe
theorem countZero_row_tie : Rows.countZeroRow.laidByTextAt .later Tryz.pinned [.data, .handle, .sentinel, .sentinel] true :=
  OpenClaim.laidByTextAt_later rfl rfl tie noOwnUnsafe
theorem countAdds_row_tie : Rows.countAddsRow.laidByTextAt .later Tryz.pinned [.data, .handle, .sentinel, .sentinel] true :=
  OpenClaim.laidByTextAt_later rfl rfl tie noOwnUnsafe
theorem countRight_row_tie : Rows.countRightRow.laidByTextAt .later Tryz.pinned [.data, .handle, .sentinel, .sentinel] true :=
  OpenClaim.laidByTextAt_later rfl rfl tie noOwnUnsafe
theorem accrueTells_row_tie : Rows.accrueTellsRow.laidByTextAt .later Tryz.pinned [.data, .handle, .sentinel, .sentinel] true :=
  OpenClaim.laidByTextAt_later rfl rfl tie noOwnUnsafe
theorem accrueGrows_row_tie : Rows.accrueGrowsRow.laidByTextAt .later Tryz.pinned [.data, .handle, .sentinel, .sentinel] true :=
  OpenClaim.laidByTextAt_later rfl rfl tie noOwnUnsafe
theorem accrueNear_row_tie : Rows.accrueNearRow.laidByTextAt .later Tryz.pinned [.data, .handle, .sentinel, .sentinel] true :=
  OpenClaim.laidByTextAt_later rfl rfl tie noOwnUnsafe
theorem accrueSplits_row_tie : Rows.accrueSplitsRow.laidByTextAt .later Tryz.pinned [.data, .handle, .sentinel, .sentinel] true :=
  OpenClaim.laidByTextAt_later rfl rfl tie noOwnUnsafe
theorem accrueWhole_row_tie : Rows.accrueWholeRow.laidByTextAt .later Tryz.pinned [.data, .handle, .sentinel, .sentinel] true :=
  OpenClaim.laidByTextAt_later rfl rfl tie noOwnUnsafe
theorem tie2 : Tryz.prog.laidByTextLater [("demurrage/civil.lengths", Rows.laid_demurrage_civil_lengths), ("errors.errorType", Rows.laid_errors_errorType), ("demurrage/actual.errNone", Rows.laid_demurrage_actual_errNone), ("demurrage/actual.errTurns", Rows.laid_demurrage_actual_errTurns), ("demurrage/roll.names", Rows.laid_demurrage_roll_names), ("demurrage/terms.names", Rows.laid_demurrage_terms_names), ("demurrage/terms.errTerms", Rows.laid_demurrage_terms_errTerms)] [.data, .handle, .sentinel, .sentinel, .widerDeep, .widerDeep, .sentinel] true :=
  Program.laidByTextLater.sub seatTie1 ["demurrage/civil.lengths", "errors.errorType", "demurrage/actual.errNone", "demurrage/actual.errTurns", "demurrage/roll.names", "demurrage/terms.names", "demurrage/terms.errTerms"] (by kernel_rfl) (by kernel_rfl)
theorem termsTells_row_tie : Rows.termsTellsRow.laidByTextAt .later Tryz.pinned [.data, .handle, .sentinel, .sentinel, .widerDeep, .widerDeep, .sentinel] true :=
  OpenClaim.laidByTextAt_later rfl rfl tie2 noOwnUnsafe
theorem termsFree_row_tie : Rows.termsFreeRow.laidByTextAt .later Tryz.pinned [.data, .handle, .sentinel, .sentinel, .widerDeep, .widerDeep, .sentinel] true :=
  OpenClaim.laidByTextAt_later rfl rfl tie2 noOwnUnsafe
theorem termsOrder_row_tie : Rows.termsOrderRow.laidByTextAt .later Tryz.pinned [.data, .handle, .sentinel, .sentinel, .widerDeep, .widerDeep, .sentinel] true :=
  OpenClaim.laidByTextAt_later rfl rfl tie2 noOwnUnsafe
theorem termsBoth_row_tie : Rows.termsBothRow.laidByTextAt .later Tryz.pinned [.data, .handle, .sentinel, .sentinel, .widerDeep, .widerDeep, .sentinel] true :=
  OpenClaim.laidByTextAt_later rfl rfl tie2 noOwnUnsafe
theorem termsNames_row_tie : Rows.termsNamesRow.laidByTextAt .later Tryz.pinned [.data, .handle, .sentinel, .sentinel, .widerDeep, .widerDeep, .sentinel] true :=
  OpenClaim.laidByTextAt_later rfl rfl tie2 noOwnUnsafe
theorem countTellsUpto_row_tie : Rows.countTellsUptoRow.laidByTextAt .later Tryz.pinned [.data, .handle, .sentinel, .sentinel] true :=
  OpenClaim.laidByTextAt_later rfl rfl tie noOwnUnsafe
theorem countNamesUpto_row_tie : Rows.countNamesUptoRow.laidByTextAt .later Tryz.pinned [.data, .handle, .sentinel, .sentinel] true :=
  OpenClaim.laidByTextAt_later rfl rfl tie noOwnUnsafe
theorem countBesideUpto_row_tie : Rows.countBesideUptoRow.laidByTextAt .later Tryz.pinned [.data, .handle, .sentinel, .sentinel] true :=
  OpenClaim.laidByTextAt_later rfl rfl tie noOwnUnsafe
theorem countZeroUpto_row_tie : Rows.countZeroUptoRow.laidByTextAt .later Tryz.pinned [.data, .handle, .sentinel, .sentinel] true :=
  OpenClaim.laidByTextAt_later rfl rfl tie noOwnUnsafe
theorem countAddsUpto_row_tie : Rows.countAddsUptoRow.laidByTextAt .later Tryz.pinned [.data, .handle, .sentinel, .sentinel] true :=
  OpenClaim.laidByTextAt_later rfl rfl tie noOwnUnsafe
theorem countRightUpto_row_tie : Rows.countRightUptoRow.laidByTextAt .later Tryz.pinned [.data, .handle, .sentinel, .sentinel] true :=
  OpenClaim.laidByTextAt_later rfl rfl tie noOwnUnsafe
theorem accrueTellsUpto_row_tie : Rows.accrueTellsUptoRow.laidByTextAt .later Tryz.pinned [.data, .handle, .sentinel, .sentinel] true :=
  OpenClaim.laidByTextAt_later rfl rfl tie noOwnUnsafe
theorem accrueGrowsUpto_row_tie : Rows.accrueGrowsUptoRow.laidByTextAt .later Tryz.pinned [.data, .handle, .sentinel, .sentinel] true :=
  OpenClaim.laidByTextAt_later rfl rfl tie noOwnUnsafe
theorem accrueNearUpto_row_tie : Rows.accrueNearUptoRow.laidByTextAt .later Tryz.pinned [.data, .handle, .sentinel, .sentinel] true :=
  OpenClaim.laidByTextAt_later rfl rfl tie noOwnUnsafe
theorem accrueSplitsUpto_row_tie : Rows.accrueSplitsUptoRow.laidByTextAt .later Tryz.pinned [.data, .handle, .sentinel, .sentinel] true :=
  OpenClaim.laidByTextAt_later rfl rfl tie noOwnUnsafe
theorem accrueWholeUpto_row_tie : Rows.accrueWholeUptoRow.laidByTextAt .later Tryz.pinned [.data, .handle, .sentinel, .sentinel] true :=
  OpenClaim.laidByTextAt_later rfl rfl tie noOwnUnsafe
theorem termsTellsUpto_row_tie : Rows.termsTellsUptoRow.laidByTextAt .later Tryz.pinned [.data, .handle, .sentinel, .sentinel, .widerDeep, .widerDeep, .sentinel] true :=
  OpenClaim.laidByTextAt_later rfl rfl tie2 noOwnUnsafe
theorem termsFreeUpto_row_tie : Rows.termsFreeUptoRow.laidByTextAt .later Tryz.pinned [.data, .handle, .sentinel, .sentinel, .widerDeep, .widerDeep, .sentinel] true :=
  OpenClaim.laidByTextAt_later rfl rfl tie2 noOwnUnsafe
theorem termsOrderUpto_row_tie : Rows.termsOrderUptoRow.laidByTextAt .later Tryz.pinned [.data, .handle, .sentinel, .sentinel, .widerDeep, .widerDeep, .sentinel] true :=
  OpenClaim.laidByTextAt_later rfl rfl tie2 noOwnUnsafe
theorem termsBothUpto_row_tie : Rows.termsBothUptoRow.laidByTextAt .later Tryz.pinned [.data, .handle, .sentinel, .sentinel, .widerDeep, .widerDeep, .sentinel] true :=
  OpenClaim.laidByTextAt_later rfl rfl tie2 noOwnUnsafe
theorem termsNamesUpto_row_tie : Rows.termsNamesUptoRow.laidByTextAt .later Tryz.pinned [.data, .handle, .sentinel, .sentinel, .widerDeep, .widerDeep, .sentinel] true :=
  OpenClaim.laidByTextAt_later rfl rfl tie2 noOwnUnsafe
end Go.Proofs.YtehnnaanpmceiaaGreatDoor
