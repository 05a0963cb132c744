/-
  NARROWER THAN 'FOR EVERY INPUT', by the rows' own cells (each row's printed sentence says how): LoanTells: laid · LoanFollows: laid · LoanSums: laid · LoanSteps: laid · LoanNone: laid · LoanSplits: laid · LoanBefore: laid.
  DERIVED. THE GIVEN ROWS OF THIS SEAT. 7 by the template 'for every input the law returns true; each argument reads behind the call as it read before'; 0 by the template 'total and deterministic' (their statements: YtelidogcomffkaaGreatDoorTotals.lean).
  GIVEN WITH THE SEED: the statements are not yours to turn. If you find one false, say at which input.
  Laid BY PROGRAM, IN A SANDBOX (cutbox-rows.mjs): the forced cells as the released guide's own fill.sh prints them over the translation add4b6d16ed1e311… (all of the seat's roots in one cut). By AI agents, Wed Nov 11 2026. No macro, syntax, notation, axiom, sorry.
-/
import Derived.Test.YtelidogcomffkaaGreatDoorChecked
import GoSem.Claim
import GoSem.ClaimJoined
import GoSem.ClaimMapViews
import Derived.JoinedTies
import Derived.KernelRfl
namespace Go.Proofs.YtelidogcomffkaaGreatDoor
/- THE CELL 'sum', in the pinned program and in every row, IS THE sha256 OF THE DUMP (.gsa) THAT YtelidogcomffkaaGreatDoorProg.lean LOADS. Nothing in Lean hashes anything: it is a label: what it is worth is what the hold of that sum in a sandbox is worth. -/
noncomputable def Tryz.pinned : Pinned := { name := "ytelidogcomffkaagreatdoor", sum := "add4b6d16ed1e3113308514983af776acff1c2bf3f4304b36be05ae4ee1c62ca", checked := Tryz.checked }
namespace Rows
def none {H : Type} : Left H := { results := [], args := [] }

/- WHAT THE LISTED PACKAGE-LEVEL VARIABLES READ AS WHEN THE CALL BEGINS. Each datum BY PROGRAM (the guide's laid-datum.mjs) off the statement by which the dump's own 'gosem.cut.vars' lays the variable. In a bare row this is a premise. The card (YtelidogcomffkaaGreatDoorCards.lean) ties it to the program's text. -/
def laid_demurrage_civil_lengths {H : Type} : DataW H := .agg [.lit (.int .i64 0), .lit (.int .i64 31), .lit (.int .i64 28), .lit (.int .i64 31), .lit (.int .i64 30), .lit (.int .i64 31), .lit (.int .i64 30), .lit (.int .i64 31), .lit (.int .i64 31), .lit (.int .i64 30), .lit (.int .i64 31), .lit (.int .i64 30), .lit (.int .i64 31)]
def laid_errors_errorType {H : Type} : DataW H := .iface "internal/reflectlite.rtype" (.agg [.ptr (.lit (.string [101, 114, 114, 111, 114]))])
def laid_demurrage_actual_errNone {H : Type} : DataW H := .iface "*errors.errorString" (.ptr (.agg [.lit (.string [110, 111, 32, 100, 97, 121])]))
def laid_demurrage_actual_errTurns {H : Type} : DataW H := .iface "*errors.errorString" (.ptr (.agg [.lit (.string [100, 97, 121, 115, 32, 116, 104, 101, 32, 119, 114, 111, 110, 103, 32, 119, 97, 121, 32, 114, 111, 117, 110, 100])]))
def laid_demurrage_roll_names {H : Type} : DataW H := .agg [.lit (.string [110, 111, 110, 101]), .lit (.string [102, 111, 108, 108, 111, 119, 105, 110, 103]), .lit (.string [109, 111, 100, 102, 111, 108, 108, 111, 119, 105, 110, 103]), .lit (.string [112, 114, 101, 99, 101, 100, 105, 110, 103]), .lit (.string [109, 111, 100, 112, 114, 101, 99, 101, 100, 105, 110, 103])]
def laid_demurrage_terms_names {H : Type} : DataW H := .agg [.lit (.string [98, 117, 108, 108, 101, 116]), .lit (.string [101, 113, 117, 97, 108]), .lit (.string [108, 101, 118, 101, 108])]
def laid_demurrage_terms_errTerms {H : Type} : DataW H := .iface "*errors.errorString" (.ptr (.agg [.lit (.string [116, 101, 114, 109, 115, 32, 116, 104, 97, 116, 32, 109, 97, 121, 32, 110, 111, 116, 32, 98, 101])]))

/-- 'demurragelaw22.LoanTells': WHATEVER THE INPUT: true; the input reads as it did. -/
def loanTellsSpec : ChangeSpec := { name := "loanTells", fn := fun _ => fun
  | [d] => { results := [.lit (.bool true)], args := [d] }
  | _ => none }
def loanTellsRow : OpenClaim := { program := "ytelidogcomffkaagreatdoor", sum := "add4b6d16ed1e3113308514983af776acff1c2bf3f4304b36be05ae4ee1c62ca", func := "demurrage/demurragelaw22.LoanTells", spec := "loanTells", inPlace := ["internal/reflectlite.TypeOf", "math/bits.Add64", "internal/reflectlite.ValueOf", "(internal/reflectlite.Value).Type", "(internal/reflectlite.Value).IsNil", "(internal/reflectlite.Value).Elem", "(internal/reflectlite.Value).Set"], unfollowed := true, recurses := true, named := ["demurrage/terms.errTerms", "demurrage/terms.names", "demurrage/civil.lengths", "demurrage/actual.errNone", "demurrage/actual.errTurns", "math/bits.divideError", "math/bits.overflowError", "errors.errorType", "demurrage/roll.names"], apart := false, laid := [("demurrage/civil.lengths", laid_demurrage_civil_lengths), ("errors.errorType", laid_errors_errorType), ("demurrage/actual.errNone", laid_demurrage_actual_errNone), ("demurrage/actual.errTurns", laid_demurrage_actual_errTurns), ("demurrage/roll.names", laid_demurrage_roll_names), ("demurrage/terms.names", laid_demurrage_terms_names), ("demurrage/terms.errTerms", laid_demurrage_terms_errTerms)] }
def LoanTellsSaid : Prop := loanTellsRow.holds Tryz.pinned (OpenSpec.ofChange loanTellsSpec)

/-- ITS FALSE NEIGHBOUR: 'it returns false'. Refute it at one input. -/
def loanTellsWrong : ChangeSpec := { name := "loanTells", fn := fun _ => fun
  | [d] => { results := [.lit (.bool false)], args := [d] }
  | _ => none }
def LoanTellsWrongFalsely : Prop := loanTellsRow.holds Tryz.pinned (OpenSpec.ofChange loanTellsWrong)

/-- 'demurragelaw22.LoanFollows': WHATEVER THE INPUT: true; the input reads as it did. -/
def loanFollowsSpec : ChangeSpec := { name := "loanFollows", fn := fun _ => fun
  | [d1, d2] => { results := [.lit (.bool true)], args := [d1, d2] }
  | _ => none }
def loanFollowsRow : OpenClaim := { program := "ytelidogcomffkaagreatdoor", sum := "add4b6d16ed1e3113308514983af776acff1c2bf3f4304b36be05ae4ee1c62ca", func := "demurrage/demurragelaw22.LoanFollows", spec := "loanFollows", inPlace := ["internal/reflectlite.TypeOf", "math/bits.Add64", "internal/reflectlite.ValueOf", "(internal/reflectlite.Value).Type", "(internal/reflectlite.Value).IsNil", "(internal/reflectlite.Value).Elem", "(internal/reflectlite.Value).Set"], unfollowed := true, recurses := true, named := ["demurrage/terms.errTerms", "demurrage/terms.names", "demurrage/civil.lengths", "demurrage/actual.errNone", "demurrage/actual.errTurns", "math/bits.divideError", "math/bits.overflowError", "errors.errorType", "demurrage/roll.names"], apart := false, laid := [("demurrage/civil.lengths", laid_demurrage_civil_lengths), ("errors.errorType", laid_errors_errorType), ("demurrage/actual.errNone", laid_demurrage_actual_errNone), ("demurrage/actual.errTurns", laid_demurrage_actual_errTurns), ("demurrage/roll.names", laid_demurrage_roll_names), ("demurrage/terms.names", laid_demurrage_terms_names), ("demurrage/terms.errTerms", laid_demurrage_terms_errTerms)] }
def LoanFollowsSaid : Prop := loanFollowsRow.holds Tryz.pinned (OpenSpec.ofChange loanFollowsSpec)

/-- ITS FALSE NEIGHBOUR: 'it returns false'. Refute it at one input. -/
def loanFollowsWrong : ChangeSpec := { name := "loanFollows", fn := fun _ => fun
  | [d1, d2] => { results := [.lit (.bool false)], args := [d1, d2] }
  | _ => none }
def LoanFollowsWrongFalsely : Prop := loanFollowsRow.holds Tryz.pinned (OpenSpec.ofChange loanFollowsWrong)

/-- 'demurragelaw22.LoanSums': WHATEVER THE INPUT: true; the input reads as it did. -/
def loanSumsSpec : ChangeSpec := { name := "loanSums", fn := fun _ => fun
  | [d1, d2, d3] => { results := [.lit (.bool true)], args := [d1, d2, d3] }
  | _ => none }
def loanSumsRow : OpenClaim := { program := "ytelidogcomffkaagreatdoor", sum := "add4b6d16ed1e3113308514983af776acff1c2bf3f4304b36be05ae4ee1c62ca", func := "demurrage/demurragelaw22.LoanSums", spec := "loanSums", inPlace := ["internal/reflectlite.TypeOf", "math/bits.Add64", "internal/reflectlite.ValueOf", "(internal/reflectlite.Value).Type", "(internal/reflectlite.Value).IsNil", "(internal/reflectlite.Value).Elem", "(internal/reflectlite.Value).Set"], unfollowed := true, recurses := true, named := ["demurrage/terms.errTerms", "demurrage/terms.names", "demurrage/civil.lengths", "demurrage/actual.errNone", "demurrage/actual.errTurns", "math/bits.divideError", "math/bits.overflowError", "errors.errorType", "demurrage/roll.names"], apart := false, laid := [("demurrage/civil.lengths", laid_demurrage_civil_lengths), ("errors.errorType", laid_errors_errorType), ("demurrage/actual.errNone", laid_demurrage_actual_errNone), ("demurrage/actual.errTurns", laid_demurrage_actual_errTurns), ("demurrage/roll.names", laid_demurrage_roll_names), ("demurrage/terms.names", laid_demurrage_terms_names), ("demurrage/terms.errTerms", laid_demurrage_terms_errTerms)] }
def LoanSumsSaid : Prop := loanSumsRow.holds Tryz.pinned (OpenSpec.ofChange loanSumsSpec)

/-- ITS FALSE NEIGHBOUR: 'it returns false'. Refute it at one input. -/
def loanSumsWrong : ChangeSpec := { name := "loanSums", fn := fun _ => fun
  | [d1, d2, d3] => { results := [.lit (.bool false)], args := [d1, d2, d3] }
  | _ => none }
def LoanSumsWrongFalsely : Prop := loanSumsRow.holds Tryz.pinned (OpenSpec.ofChange loanSumsWrong)

/-- 'demurragelaw22.LoanSteps': WHATEVER THE INPUT: true; the input reads as it did. -/
def loanStepsSpec : ChangeSpec := { name := "loanSteps", fn := fun _ => fun
  | [d] => { results := [.lit (.bool true)], args := [d] }
  | _ => none }
def loanStepsRow : OpenClaim := { program := "ytelidogcomffkaagreatdoor", sum := "add4b6d16ed1e3113308514983af776acff1c2bf3f4304b36be05ae4ee1c62ca", func := "demurrage/demurragelaw22.LoanSteps", spec := "loanSteps", inPlace := ["internal/reflectlite.TypeOf", "math/bits.Add64", "internal/reflectlite.ValueOf", "(internal/reflectlite.Value).Type", "(internal/reflectlite.Value).IsNil", "(internal/reflectlite.Value).Elem", "(internal/reflectlite.Value).Set"], unfollowed := true, recurses := true, named := ["demurrage/terms.errTerms", "demurrage/terms.names", "demurrage/civil.lengths", "demurrage/actual.errNone", "demurrage/actual.errTurns", "math/bits.divideError", "math/bits.overflowError", "errors.errorType", "demurrage/roll.names"], apart := false, laid := [("demurrage/civil.lengths", laid_demurrage_civil_lengths), ("errors.errorType", laid_errors_errorType), ("demurrage/actual.errNone", laid_demurrage_actual_errNone), ("demurrage/actual.errTurns", laid_demurrage_actual_errTurns), ("demurrage/roll.names", laid_demurrage_roll_names), ("demurrage/terms.names", laid_demurrage_terms_names), ("demurrage/terms.errTerms", laid_demurrage_terms_errTerms)] }
def LoanStepsSaid : Prop := loanStepsRow.holds Tryz.pinned (OpenSpec.ofChange loanStepsSpec)

/-- ITS FALSE NEIGHBOUR: 'it returns false'. Refute it at one input. -/
def loanStepsWrong : ChangeSpec := { name := "loanSteps", fn := fun _ => fun
  | [d] => { results := [.lit (.bool false)], args := [d] }
  | _ => none }
def LoanStepsWrongFalsely : Prop := loanStepsRow.holds Tryz.pinned (OpenSpec.ofChange loanStepsWrong)

/-- 'demurragelaw22.LoanNone': WHATEVER THE INPUT: true; the input reads as it did. -/
def loanNoneSpec : ChangeSpec := { name := "loanNone", fn := fun _ => fun
  | [d] => { results := [.lit (.bool true)], args := [d] }
  | _ => none }
def loanNoneRow : OpenClaim := { program := "ytelidogcomffkaagreatdoor", sum := "add4b6d16ed1e3113308514983af776acff1c2bf3f4304b36be05ae4ee1c62ca", func := "demurrage/demurragelaw22.LoanNone", spec := "loanNone", inPlace := ["internal/reflectlite.TypeOf", "math/bits.Add64", "internal/reflectlite.ValueOf", "(internal/reflectlite.Value).Type", "(internal/reflectlite.Value).IsNil", "(internal/reflectlite.Value).Elem", "(internal/reflectlite.Value).Set"], unfollowed := true, recurses := true, named := ["demurrage/terms.errTerms", "demurrage/terms.names", "demurrage/civil.lengths", "demurrage/actual.errNone", "demurrage/actual.errTurns", "math/bits.divideError", "math/bits.overflowError", "errors.errorType", "demurrage/roll.names"], apart := false, laid := [("demurrage/civil.lengths", laid_demurrage_civil_lengths), ("errors.errorType", laid_errors_errorType), ("demurrage/actual.errNone", laid_demurrage_actual_errNone), ("demurrage/actual.errTurns", laid_demurrage_actual_errTurns), ("demurrage/roll.names", laid_demurrage_roll_names), ("demurrage/terms.names", laid_demurrage_terms_names), ("demurrage/terms.errTerms", laid_demurrage_terms_errTerms)] }
def LoanNoneSaid : Prop := loanNoneRow.holds Tryz.pinned (OpenSpec.ofChange loanNoneSpec)

/-- ITS FALSE NEIGHBOUR: 'it returns false'. Refute it at one input. -/
def loanNoneWrong : ChangeSpec := { name := "loanNone", fn := fun _ => fun
  | [d] => { results := [.lit (.bool false)], args := [d] }
  | _ => none }
def LoanNoneWrongFalsely : Prop := loanNoneRow.holds Tryz.pinned (OpenSpec.ofChange loanNoneWrong)

/-- 'demurragelaw22.LoanSplits': WHATEVER THE INPUT: true; the input reads as it did. -/
def loanSplitsSpec : ChangeSpec := { name := "loanSplits", fn := fun _ => fun
  | [d] => { results := [.lit (.bool true)], args := [d] }
  | _ => none }
def loanSplitsRow : OpenClaim := { program := "ytelidogcomffkaagreatdoor", sum := "add4b6d16ed1e3113308514983af776acff1c2bf3f4304b36be05ae4ee1c62ca", func := "demurrage/demurragelaw22.LoanSplits", spec := "loanSplits", inPlace := ["internal/reflectlite.TypeOf", "math/bits.Add64", "internal/reflectlite.ValueOf", "(internal/reflectlite.Value).Type", "(internal/reflectlite.Value).IsNil", "(internal/reflectlite.Value).Elem", "(internal/reflectlite.Value).Set"], unfollowed := true, recurses := true, named := ["demurrage/terms.errTerms", "demurrage/terms.names", "demurrage/civil.lengths", "demurrage/actual.errNone", "demurrage/actual.errTurns", "math/bits.divideError", "math/bits.overflowError", "errors.errorType", "demurrage/roll.names"], apart := false, laid := [("demurrage/civil.lengths", laid_demurrage_civil_lengths), ("errors.errorType", laid_errors_errorType), ("demurrage/actual.errNone", laid_demurrage_actual_errNone), ("demurrage/actual.errTurns", laid_demurrage_actual_errTurns), ("demurrage/roll.names", laid_demurrage_roll_names), ("demurrage/terms.names", laid_demurrage_terms_names), ("demurrage/terms.errTerms", laid_demurrage_terms_errTerms)] }
def LoanSplitsSaid : Prop := loanSplitsRow.holds Tryz.pinned (OpenSpec.ofChange loanSplitsSpec)

/-- ITS FALSE NEIGHBOUR: 'it returns false'. Refute it at one input. -/
def loanSplitsWrong : ChangeSpec := { name := "loanSplits", fn := fun _ => fun
  | [d] => { results := [.lit (.bool false)], args := [d] }
  | _ => none }
def LoanSplitsWrongFalsely : Prop := loanSplitsRow.holds Tryz.pinned (OpenSpec.ofChange loanSplitsWrong)

/-- 'demurragelaw22.LoanBefore': WHATEVER THE INPUT: true; the input reads as it did. -/
def loanBeforeSpec : ChangeSpec := { name := "loanBefore", fn := fun _ => fun
  | [d1, d2, d3] => { results := [.lit (.bool true)], args := [d1, d2, d3] }
  | _ => none }
def loanBeforeRow : OpenClaim := { program := "ytelidogcomffkaagreatdoor", sum := "add4b6d16ed1e3113308514983af776acff1c2bf3f4304b36be05ae4ee1c62ca", func := "demurrage/demurragelaw22.LoanBefore", spec := "loanBefore", inPlace := ["internal/reflectlite.TypeOf", "math/bits.Add64", "internal/reflectlite.ValueOf", "(internal/reflectlite.Value).Type", "(internal/reflectlite.Value).IsNil", "(internal/reflectlite.Value).Elem", "(internal/reflectlite.Value).Set"], unfollowed := true, recurses := true, named := ["demurrage/terms.errTerms", "demurrage/terms.names", "demurrage/civil.lengths", "demurrage/actual.errNone", "demurrage/actual.errTurns", "math/bits.divideError", "math/bits.overflowError", "errors.errorType", "demurrage/roll.names"], apart := false, laid := [("demurrage/civil.lengths", laid_demurrage_civil_lengths), ("errors.errorType", laid_errors_errorType), ("demurrage/actual.errNone", laid_demurrage_actual_errNone), ("demurrage/actual.errTurns", laid_demurrage_actual_errTurns), ("demurrage/roll.names", laid_demurrage_roll_names), ("demurrage/terms.names", laid_demurrage_terms_names), ("demurrage/terms.errTerms", laid_demurrage_terms_errTerms)] }
def LoanBeforeSaid : Prop := loanBeforeRow.holds Tryz.pinned (OpenSpec.ofChange loanBeforeSpec)

/-- ITS FALSE NEIGHBOUR: 'it returns false'. Refute it at one input. -/
def loanBeforeWrong : ChangeSpec := { name := "loanBefore", fn := fun _ => fun
  | [d1, d2, d3] => { results := [.lit (.bool false)], args := [d1, d2, d3] }
  | _ => none }
def LoanBeforeWrongFalsely : Prop := loanBeforeRow.holds Tryz.pinned (OpenSpec.ofChange loanBeforeWrong)

/- THE SECOND FORM. 'bulk': how many values and letters a reading holds, each counted each time it is reached (what is shared counts as often as it is met; a slice's spare places count too). A statement '..UptoSaid' is the law's where the arguments, and the package variables that the reading takes, are together of bulk at most 1048576: NARROWER than '..Said'. Prove '..Said' where nothing that the law and all that it calls make is longer than what came in: it says more and counts as full. Else prove '..UptoSaid'. A law counts once. -/
mutual
def uptoBulk {H : Type} : DataW H → Nat
  | .lit (.string bytes) => bytes.length + 1
  | .lit _ => 1
  | .nil => 1
  | .ptr d => uptoBulk d + 1
  | .slice elems spare => uptoBulkAll elems + uptoBulkAll spare + 1
  | .agg parts => uptoBulkAll parts + 1
  | .iface _ d => uptoBulk d + 1
  | .map entries => uptoBulkEntries entries + 1
  | .held _ => 1
def uptoBulkAll {H : Type} : List (DataW H) → Nat
  | [] => 0
  | d :: r => uptoBulk d + uptoBulkAll r
def uptoBulkEntries {H : Type} : List (Lit × DataW H) → Nat
  | [] => 0
  | x :: r => uptoBulkEntry x + uptoBulkEntries r
def uptoBulkEntry {H : Type} : Lit × DataW H → Nat
  | (.string bytes, d) => bytes.length + uptoBulk d + 1
  | (_, d) => uptoBulk d + 1
 end
def uptoSmall : (H : Type) → List (DataW H) → Bool := fun _ ds => decide (uptoBulkAll ds ≤ 1048576)
def OpenSpec.upto (s : _root_.Go.ChangeSpec) : _root_.Go.OpenSpec := { _root_.Go.OpenSpec.ofChange s with cond := some uptoSmall }

/-- 'demurragelaw22.LoanTells', WHERE WHAT IT READS IS OF BULK AT MOST 1048576: true; the input reads as it did. -/
def loanTellsUptoRow : OpenClaim := { program := "ytelidogcomffkaagreatdoor", sum := "add4b6d16ed1e3113308514983af776acff1c2bf3f4304b36be05ae4ee1c62ca", func := "demurrage/demurragelaw22.LoanTells", spec := "loanTells", inPlace := ["internal/reflectlite.TypeOf", "math/bits.Add64", "internal/reflectlite.ValueOf", "(internal/reflectlite.Value).Type", "(internal/reflectlite.Value).IsNil", "(internal/reflectlite.Value).Elem", "(internal/reflectlite.Value).Set"], unfollowed := true, recurses := true, named := ["demurrage/terms.errTerms", "demurrage/terms.names", "demurrage/civil.lengths", "demurrage/actual.errNone", "demurrage/actual.errTurns", "math/bits.divideError", "math/bits.overflowError", "errors.errorType", "demurrage/roll.names"], apart := false, laid := [("demurrage/civil.lengths", laid_demurrage_civil_lengths), ("errors.errorType", laid_errors_errorType), ("demurrage/actual.errNone", laid_demurrage_actual_errNone), ("demurrage/actual.errTurns", laid_demurrage_actual_errTurns), ("demurrage/roll.names", laid_demurrage_roll_names), ("demurrage/terms.names", laid_demurrage_terms_names), ("demurrage/terms.errTerms", laid_demurrage_terms_errTerms)], narrowed := true }
def LoanTellsUptoSaid : Prop := loanTellsUptoRow.holds Tryz.pinned (OpenSpec.upto loanTellsSpec)

/-- 'demurragelaw22.LoanFollows', WHERE WHAT IT READS IS OF BULK AT MOST 1048576: true; the input reads as it did. -/
def loanFollowsUptoRow : OpenClaim := { program := "ytelidogcomffkaagreatdoor", sum := "add4b6d16ed1e3113308514983af776acff1c2bf3f4304b36be05ae4ee1c62ca", func := "demurrage/demurragelaw22.LoanFollows", spec := "loanFollows", inPlace := ["internal/reflectlite.TypeOf", "math/bits.Add64", "internal/reflectlite.ValueOf", "(internal/reflectlite.Value).Type", "(internal/reflectlite.Value).IsNil", "(internal/reflectlite.Value).Elem", "(internal/reflectlite.Value).Set"], unfollowed := true, recurses := true, named := ["demurrage/terms.errTerms", "demurrage/terms.names", "demurrage/civil.lengths", "demurrage/actual.errNone", "demurrage/actual.errTurns", "math/bits.divideError", "math/bits.overflowError", "errors.errorType", "demurrage/roll.names"], apart := false, laid := [("demurrage/civil.lengths", laid_demurrage_civil_lengths), ("errors.errorType", laid_errors_errorType), ("demurrage/actual.errNone", laid_demurrage_actual_errNone), ("demurrage/actual.errTurns", laid_demurrage_actual_errTurns), ("demurrage/roll.names", laid_demurrage_roll_names), ("demurrage/terms.names", laid_demurrage_terms_names), ("demurrage/terms.errTerms", laid_demurrage_terms_errTerms)], narrowed := true }
def LoanFollowsUptoSaid : Prop := loanFollowsUptoRow.holds Tryz.pinned (OpenSpec.upto loanFollowsSpec)

/-- 'demurragelaw22.LoanSums', WHERE WHAT IT READS IS OF BULK AT MOST 1048576: true; the input reads as it did. -/
def loanSumsUptoRow : OpenClaim := { program := "ytelidogcomffkaagreatdoor", sum := "add4b6d16ed1e3113308514983af776acff1c2bf3f4304b36be05ae4ee1c62ca", func := "demurrage/demurragelaw22.LoanSums", spec := "loanSums", inPlace := ["internal/reflectlite.TypeOf", "math/bits.Add64", "internal/reflectlite.ValueOf", "(internal/reflectlite.Value).Type", "(internal/reflectlite.Value).IsNil", "(internal/reflectlite.Value).Elem", "(internal/reflectlite.Value).Set"], unfollowed := true, recurses := true, named := ["demurrage/terms.errTerms", "demurrage/terms.names", "demurrage/civil.lengths", "demurrage/actual.errNone", "demurrage/actual.errTurns", "math/bits.divideError", "math/bits.overflowError", "errors.errorType", "demurrage/roll.names"], apart := false, laid := [("demurrage/civil.lengths", laid_demurrage_civil_lengths), ("errors.errorType", laid_errors_errorType), ("demurrage/actual.errNone", laid_demurrage_actual_errNone), ("demurrage/actual.errTurns", laid_demurrage_actual_errTurns), ("demurrage/roll.names", laid_demurrage_roll_names), ("demurrage/terms.names", laid_demurrage_terms_names), ("demurrage/terms.errTerms", laid_demurrage_terms_errTerms)], narrowed := true }
def LoanSumsUptoSaid : Prop := loanSumsUptoRow.holds Tryz.pinned (OpenSpec.upto loanSumsSpec)

/-- 'demurragelaw22.LoanSteps', WHERE WHAT IT READS IS OF BULK AT MOST 1048576: true; the input reads as it did. -/
def loanStepsUptoRow : OpenClaim := { program := "ytelidogcomffkaagreatdoor", sum := "add4b6d16ed1e3113308514983af776acff1c2bf3f4304b36be05ae4ee1c62ca", func := "demurrage/demurragelaw22.LoanSteps", spec := "loanSteps", inPlace := ["internal/reflectlite.TypeOf", "math/bits.Add64", "internal/reflectlite.ValueOf", "(internal/reflectlite.Value).Type", "(internal/reflectlite.Value).IsNil", "(internal/reflectlite.Value).Elem", "(internal/reflectlite.Value).Set"], unfollowed := true, recurses := true, named := ["demurrage/terms.errTerms", "demurrage/terms.names", "demurrage/civil.lengths", "demurrage/actual.errNone", "demurrage/actual.errTurns", "math/bits.divideError", "math/bits.overflowError", "errors.errorType", "demurrage/roll.names"], apart := false, laid := [("demurrage/civil.lengths", laid_demurrage_civil_lengths), ("errors.errorType", laid_errors_errorType), ("demurrage/actual.errNone", laid_demurrage_actual_errNone), ("demurrage/actual.errTurns", laid_demurrage_actual_errTurns), ("demurrage/roll.names", laid_demurrage_roll_names), ("demurrage/terms.names", laid_demurrage_terms_names), ("demurrage/terms.errTerms", laid_demurrage_terms_errTerms)], narrowed := true }
def LoanStepsUptoSaid : Prop := loanStepsUptoRow.holds Tryz.pinned (OpenSpec.upto loanStepsSpec)

/-- 'demurragelaw22.LoanNone', WHERE WHAT IT READS IS OF BULK AT MOST 1048576: true; the input reads as it did. -/
def loanNoneUptoRow : OpenClaim := { program := "ytelidogcomffkaagreatdoor", sum := "add4b6d16ed1e3113308514983af776acff1c2bf3f4304b36be05ae4ee1c62ca", func := "demurrage/demurragelaw22.LoanNone", spec := "loanNone", inPlace := ["internal/reflectlite.TypeOf", "math/bits.Add64", "internal/reflectlite.ValueOf", "(internal/reflectlite.Value).Type", "(internal/reflectlite.Value).IsNil", "(internal/reflectlite.Value).Elem", "(internal/reflectlite.Value).Set"], unfollowed := true, recurses := true, named := ["demurrage/terms.errTerms", "demurrage/terms.names", "demurrage/civil.lengths", "demurrage/actual.errNone", "demurrage/actual.errTurns", "math/bits.divideError", "math/bits.overflowError", "errors.errorType", "demurrage/roll.names"], apart := false, laid := [("demurrage/civil.lengths", laid_demurrage_civil_lengths), ("errors.errorType", laid_errors_errorType), ("demurrage/actual.errNone", laid_demurrage_actual_errNone), ("demurrage/actual.errTurns", laid_demurrage_actual_errTurns), ("demurrage/roll.names", laid_demurrage_roll_names), ("demurrage/terms.names", laid_demurrage_terms_names), ("demurrage/terms.errTerms", laid_demurrage_terms_errTerms)], narrowed := true }
def LoanNoneUptoSaid : Prop := loanNoneUptoRow.holds Tryz.pinned (OpenSpec.upto loanNoneSpec)

/-- 'demurragelaw22.LoanSplits', WHERE WHAT IT READS IS OF BULK AT MOST 1048576: true; the input reads as it did. -/
def loanSplitsUptoRow : OpenClaim := { program := "ytelidogcomffkaagreatdoor", sum := "add4b6d16ed1e3113308514983af776acff1c2bf3f4304b36be05ae4ee1c62ca", func := "demurrage/demurragelaw22.LoanSplits", spec := "loanSplits", inPlace := ["internal/reflectlite.TypeOf", "math/bits.Add64", "internal/reflectlite.ValueOf", "(internal/reflectlite.Value).Type", "(internal/reflectlite.Value).IsNil", "(internal/reflectlite.Value).Elem", "(internal/reflectlite.Value).Set"], unfollowed := true, recurses := true, named := ["demurrage/terms.errTerms", "demurrage/terms.names", "demurrage/civil.lengths", "demurrage/actual.errNone", "demurrage/actual.errTurns", "math/bits.divideError", "math/bits.overflowError", "errors.errorType", "demurrage/roll.names"], apart := false, laid := [("demurrage/civil.lengths", laid_demurrage_civil_lengths), ("errors.errorType", laid_errors_errorType), ("demurrage/actual.errNone", laid_demurrage_actual_errNone), ("demurrage/actual.errTurns", laid_demurrage_actual_errTurns), ("demurrage/roll.names", laid_demurrage_roll_names), ("demurrage/terms.names", laid_demurrage_terms_names), ("demurrage/terms.errTerms", laid_demurrage_terms_errTerms)], narrowed := true }
def LoanSplitsUptoSaid : Prop := loanSplitsUptoRow.holds Tryz.pinned (OpenSpec.upto loanSplitsSpec)

/-- 'demurragelaw22.LoanBefore', WHERE WHAT IT READS IS OF BULK AT MOST 1048576: true; the input reads as it did. -/
def loanBeforeUptoRow : OpenClaim := { program := "ytelidogcomffkaagreatdoor", sum := "add4b6d16ed1e3113308514983af776acff1c2bf3f4304b36be05ae4ee1c62ca", func := "demurrage/demurragelaw22.LoanBefore", spec := "loanBefore", inPlace := ["internal/reflectlite.TypeOf", "math/bits.Add64", "internal/reflectlite.ValueOf", "(internal/reflectlite.Value).Type", "(internal/reflectlite.Value).IsNil", "(internal/reflectlite.Value).Elem", "(internal/reflectlite.Value).Set"], unfollowed := true, recurses := true, named := ["demurrage/terms.errTerms", "demurrage/terms.names", "demurrage/civil.lengths", "demurrage/actual.errNone", "demurrage/actual.errTurns", "math/bits.divideError", "math/bits.overflowError", "errors.errorType", "demurrage/roll.names"], apart := false, laid := [("demurrage/civil.lengths", laid_demurrage_civil_lengths), ("errors.errorType", laid_errors_errorType), ("demurrage/actual.errNone", laid_demurrage_actual_errNone), ("demurrage/actual.errTurns", laid_demurrage_actual_errTurns), ("demurrage/roll.names", laid_demurrage_roll_names), ("demurrage/terms.names", laid_demurrage_terms_names), ("demurrage/terms.errTerms", laid_demurrage_terms_errTerms)], narrowed := true }
def LoanBeforeUptoSaid : Prop := loanBeforeUptoRow.holds Tryz.pinned (OpenSpec.upto loanBeforeSpec)

end Rows
end Go.Proofs.YtelidogcomffkaaGreatDoor
