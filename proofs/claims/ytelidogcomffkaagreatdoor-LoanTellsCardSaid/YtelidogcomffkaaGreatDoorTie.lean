/-
  DERIVED. GIVEN WITH THE SEED: THE PROGRAM's TIES (one call each: nine closed facts by the kernel) AND EACH ROW's TIE, after the 31st guide's Derived/Test/Toyas{Tie, Card}.lean. No idea stands in it: it is a product of the set-up. Laid BY PROGRAM, IN A SANDBOX (cutbox-door.mjs). By AI agents, Wed Nov 11 2026. No macro, syntax, notation, axiom, sorry.
-/
import Derived.Test.YtelidogcomffkaaGreatDoorRows
import Derived.LaidByTextLater
import Derived.SevenTiedAt
import Derived.LaidSub
import Derived.LaidOnce
namespace Go.Proofs.YtelidogcomffkaaGreatDoor
open Go
set_option maxRecDepth 100000
theorem seatTie1 : Tryz.prog.laidByTextLater [("demurrage/civil.lengths", Rows.laid_demurrage_civil_lengths), ("errors.errorType", Rows.laid_errors_errorType), ("demurrage/actual.errNone", Rows.laid_demurrage_actual_errNone), ("demurrage/actual.errTurns", Rows.laid_demurrage_actual_errTurns), ("demurrage/roll.names", Rows.laid_demurrage_roll_names), ("demurrage/terms.names", Rows.laid_demurrage_terms_names), ("demurrage/terms.errTerms", Rows.laid_demurrage_terms_errTerms)] [.data, .handle, .sentinel, .sentinel, .widerDeep, .widerDeep, .sentinel] true :=
  Program.laidByTextLater_by_one 88 8 14 (by kernel_rfl) (by kernel_rfl) (by kernel_rfl) (by kernel_rfl) (by kernel_rfl) (by kernel_rfl) (fun _ _ => by kernel_rfl)
theorem noOwnUnsafe : Tryz.pinned.checked.prog.headLifts.contains "ownunsafe" = false := by kernel_rfl
theorem tie : Tryz.prog.laidByTextLater [("demurrage/civil.lengths", Rows.laid_demurrage_civil_lengths), ("errors.errorType", Rows.laid_errors_errorType), ("demurrage/actual.errNone", Rows.laid_demurrage_actual_errNone), ("demurrage/actual.errTurns", Rows.laid_demurrage_actual_errTurns), ("demurrage/roll.names", Rows.laid_demurrage_roll_names), ("demurrage/terms.names", Rows.laid_demurrage_terms_names), ("demurrage/terms.errTerms", Rows.laid_demurrage_terms_errTerms)] [.data, .handle, .sentinel, .sentinel, .widerDeep, .widerDeep, .sentinel] true :=
  Program.laidByTextLater.sub seatTie1 ["demurrage/civil.lengths", "errors.errorType", "demurrage/actual.errNone", "demurrage/actual.errTurns", "demurrage/roll.names", "demurrage/terms.names", "demurrage/terms.errTerms"] (by kernel_rfl) (by kernel_rfl)
theorem loanTells_row_tie : Rows.loanTellsRow.laidByTextAt .later Tryz.pinned [.data, .handle, .sentinel, .sentinel, .widerDeep, .widerDeep, .sentinel] true :=
  OpenClaim.laidByTextAt_later rfl rfl tie noOwnUnsafe
theorem loanFollows_row_tie : Rows.loanFollowsRow.laidByTextAt .later Tryz.pinned [.data, .handle, .sentinel, .sentinel, .widerDeep, .widerDeep, .sentinel] true :=
  OpenClaim.laidByTextAt_later rfl rfl tie noOwnUnsafe
theorem loanSums_row_tie : Rows.loanSumsRow.laidByTextAt .later Tryz.pinned [.data, .handle, .sentinel, .sentinel, .widerDeep, .widerDeep, .sentinel] true :=
  OpenClaim.laidByTextAt_later rfl rfl tie noOwnUnsafe
theorem loanSteps_row_tie : Rows.loanStepsRow.laidByTextAt .later Tryz.pinned [.data, .handle, .sentinel, .sentinel, .widerDeep, .widerDeep, .sentinel] true :=
  OpenClaim.laidByTextAt_later rfl rfl tie noOwnUnsafe
theorem loanNone_row_tie : Rows.loanNoneRow.laidByTextAt .later Tryz.pinned [.data, .handle, .sentinel, .sentinel, .widerDeep, .widerDeep, .sentinel] true :=
  OpenClaim.laidByTextAt_later rfl rfl tie noOwnUnsafe
theorem loanSplits_row_tie : Rows.loanSplitsRow.laidByTextAt .later Tryz.pinned [.data, .handle, .sentinel, .sentinel, .widerDeep, .widerDeep, .sentinel] true :=
  OpenClaim.laidByTextAt_later rfl rfl tie noOwnUnsafe
theorem loanBefore_row_tie : Rows.loanBeforeRow.laidByTextAt .later Tryz.pinned [.data, .handle, .sentinel, .sentinel, .widerDeep, .widerDeep, .sentinel] true :=
  OpenClaim.laidByTextAt_later rfl rfl tie noOwnUnsafe
theorem loanTellsUpto_row_tie : Rows.loanTellsUptoRow.laidByTextAt .later Tryz.pinned [.data, .handle, .sentinel, .sentinel, .widerDeep, .widerDeep, .sentinel] true :=
  OpenClaim.laidByTextAt_later rfl rfl tie noOwnUnsafe
theorem loanFollowsUpto_row_tie : Rows.loanFollowsUptoRow.laidByTextAt .later Tryz.pinned [.data, .handle, .sentinel, .sentinel, .widerDeep, .widerDeep, .sentinel] true :=
  OpenClaim.laidByTextAt_later rfl rfl tie noOwnUnsafe
theorem loanSumsUpto_row_tie : Rows.loanSumsUptoRow.laidByTextAt .later Tryz.pinned [.data, .handle, .sentinel, .sentinel, .widerDeep, .widerDeep, .sentinel] true :=
  OpenClaim.laidByTextAt_later rfl rfl tie noOwnUnsafe
theorem loanStepsUpto_row_tie : Rows.loanStepsUptoRow.laidByTextAt .later Tryz.pinned [.data, .handle, .sentinel, .sentinel, .widerDeep, .widerDeep, .sentinel] true :=
  OpenClaim.laidByTextAt_later rfl rfl tie noOwnUnsafe
theorem loanNoneUpto_row_tie : Rows.loanNoneUptoRow.laidByTextAt .later Tryz.pinned [.data, .handle, .sentinel, .sentinel, .widerDeep, .widerDeep, .sentinel] true :=
  OpenClaim.laidByTextAt_later rfl rfl tie noOwnUnsafe
theorem loanSplitsUpto_row_tie : Rows.loanSplitsUptoRow.laidByTextAt .later Tryz.pinned [.data, .handle, .sentinel, .sentinel, .widerDeep, .widerDeep, .sentinel] true :=
  OpenClaim.laidByTextAt_later rfl rfl tie noOwnUnsafe
theorem loanBeforeUpto_row_tie : Rows.loanBeforeUptoRow.laidByTextAt .later Tryz.pinned [.data, .handle, .sentinel, .sentinel, .widerDeep, .widerDeep, .sentinel] true :=
  OpenClaim.laidByTextAt_later rfl rfl tie noOwnUnsafe
end Go.Proofs.YtelidogcomffkaaGreatDoor
