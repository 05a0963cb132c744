/-
  NARROWER THAN 'FOR EVERY INPUT', by the rows' own cells (each row's printed sentence says how): DatesTells: laid · DatesRise: laid · DatesStub: laid · DatesGrid: laid · DatesMany: laid · DatesTurn: laid.
  DERIVED. THE GIVEN ROWS OF THIS SEAT. 6 by the template 'for every input the law returns true; each argument reads behind the call as it read before'; 0 by the template 'total and deterministic' (their statements: YthfmjoeampekgaaGreatDoorTotals.lean).
  GIVEN WITH THE SEED: the statements are not yours to turn. If you find one false, say at which input.
  Laid BY PROGRAM, IN A SANDBOX (cutbox-rows.mjs): the forced cells as the released guide's own fill.sh prints them over the translation b076b06d3ebf6e92… (all of the seat's roots in one cut). By AI agents, Wed Nov 11 2026. No macro, syntax, notation, axiom, sorry.
-/
import Derived.Test.YthfmjoeampekgaaGreatDoorChecked
import GoSem.Claim
import GoSem.ClaimJoined
import GoSem.ClaimMapViews
import Derived.JoinedTies
import Derived.KernelRfl
namespace Go.Proofs.YthfmjoeampekgaaGreatDoor
/- THE CELL 'sum', in the pinned program and in every row, IS THE sha256 OF THE DUMP (.gsa) THAT YthfmjoeampekgaaGreatDoorProg.lean LOADS. Nothing in Lean hashes anything: it is a label: what it is worth is what the hold of that sum in a sandbox is worth. -/
noncomputable def Tryz.pinned : Pinned := { name := "ythfmjoeampekgaagreatdoor", sum := "b076b06d3ebf6e926311d6c5a02e6016a1df7839e2eb2de90a71c7b301dd5fca", checked := Tryz.checked }
namespace Rows
def none {H : Type} : Left H := { results := [], args := [] }

/- WHAT THE LISTED PACKAGE-LEVEL VARIABLES READ AS WHEN THE CALL BEGINS. Each datum BY PROGRAM (the guide's laid-datum.mjs) off the statement by which the dump's own 'gosem.cut.vars' lays the variable. In a bare row this is a premise. The card (YthfmjoeampekgaaGreatDoorCards.lean) ties it to the program's text. -/
def laid_demurrage_civil_lengths {H : Type} : DataW H := .agg [.lit (.int .i64 0), .lit (.int .i64 31), .lit (.int .i64 28), .lit (.int .i64 31), .lit (.int .i64 30), .lit (.int .i64 31), .lit (.int .i64 30), .lit (.int .i64 31), .lit (.int .i64 31), .lit (.int .i64 30), .lit (.int .i64 31), .lit (.int .i64 30), .lit (.int .i64 31)]
def laid_errors_errorType {H : Type} : DataW H := .iface "internal/reflectlite.rtype" (.agg [.ptr (.lit (.string [101, 114, 114, 111, 114]))])
def laid_demurrage_actual_errNone {H : Type} : DataW H := .iface "*errors.errorString" (.ptr (.agg [.lit (.string [110, 111, 32, 100, 97, 121])]))
def laid_demurrage_actual_errTurns {H : Type} : DataW H := .iface "*errors.errorString" (.ptr (.agg [.lit (.string [100, 97, 121, 115, 32, 116, 104, 101, 32, 119, 114, 111, 110, 103, 32, 119, 97, 121, 32, 114, 111, 117, 110, 100])]))
def laid_demurrage_roll_names {H : Type} : DataW H := .agg [.lit (.string [110, 111, 110, 101]), .lit (.string [102, 111, 108, 108, 111, 119, 105, 110, 103]), .lit (.string [109, 111, 100, 102, 111, 108, 108, 111, 119, 105, 110, 103]), .lit (.string [112, 114, 101, 99, 101, 100, 105, 110, 103]), .lit (.string [109, 111, 100, 112, 114, 101, 99, 101, 100, 105, 110, 103])]
def laid_demurrage_terms_names {H : Type} : DataW H := .agg [.lit (.string [98, 117, 108, 108, 101, 116]), .lit (.string [101, 113, 117, 97, 108]), .lit (.string [108, 101, 118, 101, 108])]
def laid_demurrage_terms_errTerms {H : Type} : DataW H := .iface "*errors.errorString" (.ptr (.agg [.lit (.string [116, 101, 114, 109, 115, 32, 116, 104, 97, 116, 32, 109, 97, 121, 32, 110, 111, 116, 32, 98, 101])]))

/-- 'demurragelaw16.DatesTells': WHATEVER THE INPUT: true; the input reads as it did. -/
def datesTellsSpec : ChangeSpec := { name := "datesTells", fn := fun _ => fun
  | [d] => { results := [.lit (.bool true)], args := [d] }
  | _ => none }
def datesTellsRow : OpenClaim := { program := "ythfmjoeampekgaagreatdoor", sum := "b076b06d3ebf6e926311d6c5a02e6016a1df7839e2eb2de90a71c7b301dd5fca", func := "demurrage/demurragelaw16.DatesTells", spec := "datesTells", inPlace := ["internal/reflectlite.TypeOf", "math/bits.Add64", "internal/reflectlite.ValueOf", "(internal/reflectlite.Value).Type", "(internal/reflectlite.Value).IsNil", "(internal/reflectlite.Value).Elem", "(internal/reflectlite.Value).Set"], unfollowed := true, recurses := true, named := ["demurrage/terms.errTerms", "demurrage/terms.names", "demurrage/civil.lengths", "demurrage/actual.errNone", "demurrage/actual.errTurns", "math/bits.divideError", "math/bits.overflowError", "errors.errorType", "demurrage/roll.names"], apart := false, laid := [("demurrage/civil.lengths", laid_demurrage_civil_lengths), ("errors.errorType", laid_errors_errorType), ("demurrage/actual.errNone", laid_demurrage_actual_errNone), ("demurrage/actual.errTurns", laid_demurrage_actual_errTurns), ("demurrage/roll.names", laid_demurrage_roll_names), ("demurrage/terms.names", laid_demurrage_terms_names), ("demurrage/terms.errTerms", laid_demurrage_terms_errTerms)] }
def DatesTellsSaid : Prop := datesTellsRow.holds Tryz.pinned (OpenSpec.ofChange datesTellsSpec)

/-- ITS FALSE NEIGHBOUR: 'it returns false'. Refute it at one input. -/
def datesTellsWrong : ChangeSpec := { name := "datesTells", fn := fun _ => fun
  | [d] => { results := [.lit (.bool false)], args := [d] }
  | _ => none }
def DatesTellsWrongFalsely : Prop := datesTellsRow.holds Tryz.pinned (OpenSpec.ofChange datesTellsWrong)

/-- 'demurragelaw16.DatesRise': WHATEVER THE INPUT: true; the input reads as it did. -/
def datesRiseSpec : ChangeSpec := { name := "datesRise", fn := fun _ => fun
  | [d] => { results := [.lit (.bool true)], args := [d] }
  | _ => none }
def datesRiseRow : OpenClaim := { program := "ythfmjoeampekgaagreatdoor", sum := "b076b06d3ebf6e926311d6c5a02e6016a1df7839e2eb2de90a71c7b301dd5fca", func := "demurrage/demurragelaw16.DatesRise", spec := "datesRise", inPlace := ["internal/reflectlite.TypeOf", "math/bits.Add64", "internal/reflectlite.ValueOf", "(internal/reflectlite.Value).Type", "(internal/reflectlite.Value).IsNil", "(internal/reflectlite.Value).Elem", "(internal/reflectlite.Value).Set"], unfollowed := true, recurses := true, named := ["demurrage/terms.errTerms", "demurrage/terms.names", "demurrage/civil.lengths", "demurrage/actual.errNone", "demurrage/actual.errTurns", "math/bits.divideError", "math/bits.overflowError", "errors.errorType", "demurrage/roll.names"], apart := false, laid := [("demurrage/civil.lengths", laid_demurrage_civil_lengths), ("errors.errorType", laid_errors_errorType), ("demurrage/actual.errNone", laid_demurrage_actual_errNone), ("demurrage/actual.errTurns", laid_demurrage_actual_errTurns), ("demurrage/roll.names", laid_demurrage_roll_names), ("demurrage/terms.names", laid_demurrage_terms_names), ("demurrage/terms.errTerms", laid_demurrage_terms_errTerms)] }
def DatesRiseSaid : Prop := datesRiseRow.holds Tryz.pinned (OpenSpec.ofChange datesRiseSpec)

/-- ITS FALSE NEIGHBOUR: 'it returns false'. Refute it at one input. -/
def datesRiseWrong : ChangeSpec := { name := "datesRise", fn := fun _ => fun
  | [d] => { results := [.lit (.bool false)], args := [d] }
  | _ => none }
def DatesRiseWrongFalsely : Prop := datesRiseRow.holds Tryz.pinned (OpenSpec.ofChange datesRiseWrong)

/-- 'demurragelaw16.DatesStub': WHATEVER THE INPUT: true; the input reads as it did. -/
def datesStubSpec : ChangeSpec := { name := "datesStub", fn := fun _ => fun
  | [d] => { results := [.lit (.bool true)], args := [d] }
  | _ => none }
def datesStubRow : OpenClaim := { program := "ythfmjoeampekgaagreatdoor", sum := "b076b06d3ebf6e926311d6c5a02e6016a1df7839e2eb2de90a71c7b301dd5fca", func := "demurrage/demurragelaw16.DatesStub", spec := "datesStub", inPlace := ["internal/reflectlite.TypeOf", "math/bits.Add64", "internal/reflectlite.ValueOf", "(internal/reflectlite.Value).Type", "(internal/reflectlite.Value).IsNil", "(internal/reflectlite.Value).Elem", "(internal/reflectlite.Value).Set"], unfollowed := true, recurses := true, named := ["demurrage/terms.errTerms", "demurrage/terms.names", "demurrage/civil.lengths", "demurrage/actual.errNone", "demurrage/actual.errTurns", "math/bits.divideError", "math/bits.overflowError", "errors.errorType", "demurrage/roll.names"], apart := false, laid := [("demurrage/civil.lengths", laid_demurrage_civil_lengths), ("errors.errorType", laid_errors_errorType), ("demurrage/actual.errNone", laid_demurrage_actual_errNone), ("demurrage/actual.errTurns", laid_demurrage_actual_errTurns), ("demurrage/roll.names", laid_demurrage_roll_names), ("demurrage/terms.names", laid_demurrage_terms_names), ("demurrage/terms.errTerms", laid_demurrage_terms_errTerms)] }
def DatesStubSaid : Prop := datesStubRow.holds Tryz.pinned (OpenSpec.ofChange datesStubSpec)

/-- ITS FALSE NEIGHBOUR: 'it returns false'. Refute it at one input. -/
def datesStubWrong : ChangeSpec := { name := "datesStub", fn := fun _ => fun
  | [d] => { results := [.lit (.bool false)], args := [d] }
  | _ => none }
def DatesStubWrongFalsely : Prop := datesStubRow.holds Tryz.pinned (OpenSpec.ofChange datesStubWrong)

/-- 'demurragelaw16.DatesGrid': WHATEVER THE INPUT: true; the input reads as it did. -/
def datesGridSpec : ChangeSpec := { name := "datesGrid", fn := fun _ => fun
  | [d] => { results := [.lit (.bool true)], args := [d] }
  | _ => none }
def datesGridRow : OpenClaim := { program := "ythfmjoeampekgaagreatdoor", sum := "b076b06d3ebf6e926311d6c5a02e6016a1df7839e2eb2de90a71c7b301dd5fca", func := "demurrage/demurragelaw16.DatesGrid", spec := "datesGrid", inPlace := ["internal/reflectlite.TypeOf", "math/bits.Add64", "internal/reflectlite.ValueOf", "(internal/reflectlite.Value).Type", "(internal/reflectlite.Value).IsNil", "(internal/reflectlite.Value).Elem", "(internal/reflectlite.Value).Set"], unfollowed := true, recurses := true, named := ["demurrage/terms.errTerms", "demurrage/terms.names", "demurrage/civil.lengths", "demurrage/actual.errNone", "demurrage/actual.errTurns", "math/bits.divideError", "math/bits.overflowError", "errors.errorType", "demurrage/roll.names"], apart := false, laid := [("demurrage/civil.lengths", laid_demurrage_civil_lengths), ("errors.errorType", laid_errors_errorType), ("demurrage/actual.errNone", laid_demurrage_actual_errNone), ("demurrage/actual.errTurns", laid_demurrage_actual_errTurns), ("demurrage/roll.names", laid_demurrage_roll_names), ("demurrage/terms.names", laid_demurrage_terms_names), ("demurrage/terms.errTerms", laid_demurrage_terms_errTerms)] }
def DatesGridSaid : Prop := datesGridRow.holds Tryz.pinned (OpenSpec.ofChange datesGridSpec)

/-- ITS FALSE NEIGHBOUR: 'it returns false'. Refute it at one input. -/
def datesGridWrong : ChangeSpec := { name := "datesGrid", fn := fun _ => fun
  | [d] => { results := [.lit (.bool false)], args := [d] }
  | _ => none }
def DatesGridWrongFalsely : Prop := datesGridRow.holds Tryz.pinned (OpenSpec.ofChange datesGridWrong)

/-- 'demurragelaw16.DatesMany': WHATEVER THE INPUT: true; the input reads as it did. -/
def datesManySpec : ChangeSpec := { name := "datesMany", fn := fun _ => fun
  | [d] => { results := [.lit (.bool true)], args := [d] }
  | _ => none }
def datesManyRow : OpenClaim := { program := "ythfmjoeampekgaagreatdoor", sum := "b076b06d3ebf6e926311d6c5a02e6016a1df7839e2eb2de90a71c7b301dd5fca", func := "demurrage/demurragelaw16.DatesMany", spec := "datesMany", inPlace := ["internal/reflectlite.TypeOf", "math/bits.Add64", "internal/reflectlite.ValueOf", "(internal/reflectlite.Value).Type", "(internal/reflectlite.Value).IsNil", "(internal/reflectlite.Value).Elem", "(internal/reflectlite.Value).Set"], unfollowed := true, recurses := true, named := ["demurrage/terms.errTerms", "demurrage/terms.names", "demurrage/civil.lengths", "demurrage/actual.errNone", "demurrage/actual.errTurns", "math/bits.divideError", "math/bits.overflowError", "errors.errorType", "demurrage/roll.names"], apart := false, laid := [("demurrage/civil.lengths", laid_demurrage_civil_lengths), ("errors.errorType", laid_errors_errorType), ("demurrage/actual.errNone", laid_demurrage_actual_errNone), ("demurrage/actual.errTurns", laid_demurrage_actual_errTurns), ("demurrage/roll.names", laid_demurrage_roll_names), ("demurrage/terms.names", laid_demurrage_terms_names), ("demurrage/terms.errTerms", laid_demurrage_terms_errTerms)] }
def DatesManySaid : Prop := datesManyRow.holds Tryz.pinned (OpenSpec.ofChange datesManySpec)

/-- ITS FALSE NEIGHBOUR: 'it returns false'. Refute it at one input. -/
def datesManyWrong : ChangeSpec := { name := "datesMany", fn := fun _ => fun
  | [d] => { results := [.lit (.bool false)], args := [d] }
  | _ => none }
def DatesManyWrongFalsely : Prop := datesManyRow.holds Tryz.pinned (OpenSpec.ofChange datesManyWrong)

/-- 'demurragelaw16.DatesTurn': WHATEVER THE INPUT: true; the input reads as it did. -/
def datesTurnSpec : ChangeSpec := { name := "datesTurn", fn := fun _ => fun
  | [d] => { results := [.lit (.bool true)], args := [d] }
  | _ => none }
def datesTurnRow : OpenClaim := { program := "ythfmjoeampekgaagreatdoor", sum := "b076b06d3ebf6e926311d6c5a02e6016a1df7839e2eb2de90a71c7b301dd5fca", func := "demurrage/demurragelaw16.DatesTurn", spec := "datesTurn", inPlace := ["internal/reflectlite.TypeOf", "math/bits.Add64", "internal/reflectlite.ValueOf", "(internal/reflectlite.Value).Type", "(internal/reflectlite.Value).IsNil", "(internal/reflectlite.Value).Elem", "(internal/reflectlite.Value).Set"], unfollowed := true, recurses := true, named := ["demurrage/terms.errTerms", "demurrage/terms.names", "demurrage/civil.lengths", "demurrage/actual.errNone", "demurrage/actual.errTurns", "math/bits.divideError", "math/bits.overflowError", "errors.errorType", "demurrage/roll.names"], apart := false, laid := [("demurrage/civil.lengths", laid_demurrage_civil_lengths), ("errors.errorType", laid_errors_errorType), ("demurrage/actual.errNone", laid_demurrage_actual_errNone), ("demurrage/actual.errTurns", laid_demurrage_actual_errTurns), ("demurrage/roll.names", laid_demurrage_roll_names), ("demurrage/terms.names", laid_demurrage_terms_names), ("demurrage/terms.errTerms", laid_demurrage_terms_errTerms)] }
def DatesTurnSaid : Prop := datesTurnRow.holds Tryz.pinned (OpenSpec.ofChange datesTurnSpec)

/-- ITS FALSE NEIGHBOUR: 'it returns false'. Refute it at one input. -/
def datesTurnWrong : ChangeSpec := { name := "datesTurn", fn := fun _ => fun
  | [d] => { results := [.lit (.bool false)], args := [d] }
  | _ => none }
def DatesTurnWrongFalsely : Prop := datesTurnRow.holds Tryz.pinned (OpenSpec.ofChange datesTurnWrong)

/- THE SECOND FORM. 'bulk': how many values and letters a reading holds, each counted each time it is reached (what is shared counts as often as it is met; a slice's spare places count too). A statement '..UptoSaid' is the law's where the arguments, and the package variables that the reading takes, are together of bulk at most 1048576: NARROWER than '..Said'. Prove '..Said' where nothing that the law and all that it calls make is longer than what came in: it says more and counts as full. Else prove '..UptoSaid'. A law counts once. -/
mutual
def uptoBulk {H : Type} : DataW H → Nat
  | .lit (.string bytes) => bytes.length + 1
  | .lit _ => 1
  | .nil => 1
  | .ptr d => uptoBulk d + 1
  | .slice elems spare => uptoBulkAll elems + uptoBulkAll spare + 1
  | .agg parts => uptoBulkAll parts + 1
  | .iface _ d => uptoBulk d + 1
  | .map entries => uptoBulkEntries entries + 1
  | .held _ => 1
def uptoBulkAll {H : Type} : List (DataW H) → Nat
  | [] => 0
  | d :: r => uptoBulk d + uptoBulkAll r
def uptoBulkEntries {H : Type} : List (Lit × DataW H) → Nat
  | [] => 0
  | x :: r => uptoBulkEntry x + uptoBulkEntries r
def uptoBulkEntry {H : Type} : Lit × DataW H → Nat
  | (.string bytes, d) => bytes.length + uptoBulk d + 1
  | (_, d) => uptoBulk d + 1
 end
def uptoSmall : (H : Type) → List (DataW H) → Bool := fun _ ds => decide (uptoBulkAll ds ≤ 1048576)
def OpenSpec.upto (s : _root_.Go.ChangeSpec) : _root_.Go.OpenSpec := { _root_.Go.OpenSpec.ofChange s with cond := some uptoSmall }

/-- 'demurragelaw16.DatesTells', WHERE WHAT IT READS IS OF BULK AT MOST 1048576: true; the input reads as it did. -/
def datesTellsUptoRow : OpenClaim := { program := "ythfmjoeampekgaagreatdoor", sum := "b076b06d3ebf6e926311d6c5a02e6016a1df7839e2eb2de90a71c7b301dd5fca", func := "demurrage/demurragelaw16.DatesTells", spec := "datesTells", inPlace := ["internal/reflectlite.TypeOf", "math/bits.Add64", "internal/reflectlite.ValueOf", "(internal/reflectlite.Value).Type", "(internal/reflectlite.Value).IsNil", "(internal/reflectlite.Value).Elem", "(internal/reflectlite.Value).Set"], unfollowed := true, recurses := true, named := ["demurrage/terms.errTerms", "demurrage/terms.names", "demurrage/civil.lengths", "demurrage/actual.errNone", "demurrage/actual.errTurns", "math/bits.divideError", "math/bits.overflowError", "errors.errorType", "demurrage/roll.names"], apart := false, laid := [("demurrage/civil.lengths", laid_demurrage_civil_lengths), ("errors.errorType", laid_errors_errorType), ("demurrage/actual.errNone", laid_demurrage_actual_errNone), ("demurrage/actual.errTurns", laid_demurrage_actual_errTurns), ("demurrage/roll.names", laid_demurrage_roll_names), ("demurrage/terms.names", laid_demurrage_terms_names), ("demurrage/terms.errTerms", laid_demurrage_terms_errTerms)], narrowed := true }
def DatesTellsUptoSaid : Prop := datesTellsUptoRow.holds Tryz.pinned (OpenSpec.upto datesTellsSpec)

/-- 'demurragelaw16.DatesRise', WHERE WHAT IT READS IS OF BULK AT MOST 1048576: true; the input reads as it did. -/
def datesRiseUptoRow : OpenClaim := { program := "ythfmjoeampekgaagreatdoor", sum := "b076b06d3ebf6e926311d6c5a02e6016a1df7839e2eb2de90a71c7b301dd5fca", func := "demurrage/demurragelaw16.DatesRise", spec := "datesRise", inPlace := ["internal/reflectlite.TypeOf", "math/bits.Add64", "internal/reflectlite.ValueOf", "(internal/reflectlite.Value).Type", "(internal/reflectlite.Value).IsNil", "(internal/reflectlite.Value).Elem", "(internal/reflectlite.Value).Set"], unfollowed := true, recurses := true, named := ["demurrage/terms.errTerms", "demurrage/terms.names", "demurrage/civil.lengths", "demurrage/actual.errNone", "demurrage/actual.errTurns", "math/bits.divideError", "math/bits.overflowError", "errors.errorType", "demurrage/roll.names"], apart := false, laid := [("demurrage/civil.lengths", laid_demurrage_civil_lengths), ("errors.errorType", laid_errors_errorType), ("demurrage/actual.errNone", laid_demurrage_actual_errNone), ("demurrage/actual.errTurns", laid_demurrage_actual_errTurns), ("demurrage/roll.names", laid_demurrage_roll_names), ("demurrage/terms.names", laid_demurrage_terms_names), ("demurrage/terms.errTerms", laid_demurrage_terms_errTerms)], narrowed := true }
def DatesRiseUptoSaid : Prop := datesRiseUptoRow.holds Tryz.pinned (OpenSpec.upto datesRiseSpec)

/-- 'demurragelaw16.DatesStub', WHERE WHAT IT READS IS OF BULK AT MOST 1048576: true; the input reads as it did. -/
def datesStubUptoRow : OpenClaim := { program := "ythfmjoeampekgaagreatdoor", sum := "b076b06d3ebf6e926311d6c5a02e6016a1df7839e2eb2de90a71c7b301dd5fca", func := "demurrage/demurragelaw16.DatesStub", spec := "datesStub", inPlace := ["internal/reflectlite.TypeOf", "math/bits.Add64", "internal/reflectlite.ValueOf", "(internal/reflectlite.Value).Type", "(internal/reflectlite.Value).IsNil", "(internal/reflectlite.Value).Elem", "(internal/reflectlite.Value).Set"], unfollowed := true, recurses := true, named := ["demurrage/terms.errTerms", "demurrage/terms.names", "demurrage/civil.lengths", "demurrage/actual.errNone", "demurrage/actual.errTurns", "math/bits.divideError", "math/bits.overflowError", "errors.errorType", "demurrage/roll.names"], apart := false, laid := [("demurrage/civil.lengths", laid_demurrage_civil_lengths), ("errors.errorType", laid_errors_errorType), ("demurrage/actual.errNone", laid_demurrage_actual_errNone), ("demurrage/actual.errTurns", laid_demurrage_actual_errTurns), ("demurrage/roll.names", laid_demurrage_roll_names), ("demurrage/terms.names", laid_demurrage_terms_names), ("demurrage/terms.errTerms", laid_demurrage_terms_errTerms)], narrowed := true }
def DatesStubUptoSaid : Prop := datesStubUptoRow.holds Tryz.pinned (OpenSpec.upto datesStubSpec)

/-- 'demurragelaw16.DatesGrid', WHERE WHAT IT READS IS OF BULK AT MOST 1048576: true; the input reads as it did. -/
def datesGridUptoRow : OpenClaim := { program := "ythfmjoeampekgaagreatdoor", sum := "b076b06d3ebf6e926311d6c5a02e6016a1df7839e2eb2de90a71c7b301dd5fca", func := "demurrage/demurragelaw16.DatesGrid", spec := "datesGrid", inPlace := ["internal/reflectlite.TypeOf", "math/bits.Add64", "internal/reflectlite.ValueOf", "(internal/reflectlite.Value).Type", "(internal/reflectlite.Value).IsNil", "(internal/reflectlite.Value).Elem", "(internal/reflectlite.Value).Set"], unfollowed := true, recurses := true, named := ["demurrage/terms.errTerms", "demurrage/terms.names", "demurrage/civil.lengths", "demurrage/actual.errNone", "demurrage/actual.errTurns", "math/bits.divideError", "math/bits.overflowError", "errors.errorType", "demurrage/roll.names"], apart := false, laid := [("demurrage/civil.lengths", laid_demurrage_civil_lengths), ("errors.errorType", laid_errors_errorType), ("demurrage/actual.errNone", laid_demurrage_actual_errNone), ("demurrage/actual.errTurns", laid_demurrage_actual_errTurns), ("demurrage/roll.names", laid_demurrage_roll_names), ("demurrage/terms.names", laid_demurrage_terms_names), ("demurrage/terms.errTerms", laid_demurrage_terms_errTerms)], narrowed := true }
def DatesGridUptoSaid : Prop := datesGridUptoRow.holds Tryz.pinned (OpenSpec.upto datesGridSpec)

/-- 'demurragelaw16.DatesMany', WHERE WHAT IT READS IS OF BULK AT MOST 1048576: true; the input reads as it did. -/
def datesManyUptoRow : OpenClaim := { program := "ythfmjoeampekgaagreatdoor", sum := "b076b06d3ebf6e926311d6c5a02e6016a1df7839e2eb2de90a71c7b301dd5fca", func := "demurrage/demurragelaw16.DatesMany", spec := "datesMany", inPlace := ["internal/reflectlite.TypeOf", "math/bits.Add64", "internal/reflectlite.ValueOf", "(internal/reflectlite.Value).Type", "(internal/reflectlite.Value).IsNil", "(internal/reflectlite.Value).Elem", "(internal/reflectlite.Value).Set"], unfollowed := true, recurses := true, named := ["demurrage/terms.errTerms", "demurrage/terms.names", "demurrage/civil.lengths", "demurrage/actual.errNone", "demurrage/actual.errTurns", "math/bits.divideError", "math/bits.overflowError", "errors.errorType", "demurrage/roll.names"], apart := false, laid := [("demurrage/civil.lengths", laid_demurrage_civil_lengths), ("errors.errorType", laid_errors_errorType), ("demurrage/actual.errNone", laid_demurrage_actual_errNone), ("demurrage/actual.errTurns", laid_demurrage_actual_errTurns), ("demurrage/roll.names", laid_demurrage_roll_names), ("demurrage/terms.names", laid_demurrage_terms_names), ("demurrage/terms.errTerms", laid_demurrage_terms_errTerms)], narrowed := true }
def DatesManyUptoSaid : Prop := datesManyUptoRow.holds Tryz.pinned (OpenSpec.upto datesManySpec)

/-- 'demurragelaw16.DatesTurn', WHERE WHAT IT READS IS OF BULK AT MOST 1048576: true; the input reads as it did. -/
def datesTurnUptoRow : OpenClaim := { program := "ythfmjoeampekgaagreatdoor", sum := "b076b06d3ebf6e926311d6c5a02e6016a1df7839e2eb2de90a71c7b301dd5fca", func := "demurrage/demurragelaw16.DatesTurn", spec := "datesTurn", inPlace := ["internal/reflectlite.TypeOf", "math/bits.Add64", "internal/reflectlite.ValueOf", "(internal/reflectlite.Value).Type", "(internal/reflectlite.Value).IsNil", "(internal/reflectlite.Value).Elem", "(internal/reflectlite.Value).Set"], unfollowed := true, recurses := true, named := ["demurrage/terms.errTerms", "demurrage/terms.names", "demurrage/civil.lengths", "demurrage/actual.errNone", "demurrage/actual.errTurns", "math/bits.divideError", "math/bits.overflowError", "errors.errorType", "demurrage/roll.names"], apart := false, laid := [("demurrage/civil.lengths", laid_demurrage_civil_lengths), ("errors.errorType", laid_errors_errorType), ("demurrage/actual.errNone", laid_demurrage_actual_errNone), ("demurrage/actual.errTurns", laid_demurrage_actual_errTurns), ("demurrage/roll.names", laid_demurrage_roll_names), ("demurrage/terms.names", laid_demurrage_terms_names), ("demurrage/terms.errTerms", laid_demurrage_terms_errTerms)], narrowed := true }
def DatesTurnUptoSaid : Prop := datesTurnUptoRow.holds Tryz.pinned (OpenSpec.upto datesTurnSpec)

end Rows
end Go.Proofs.YthfmjoeampekgaaGreatDoor
