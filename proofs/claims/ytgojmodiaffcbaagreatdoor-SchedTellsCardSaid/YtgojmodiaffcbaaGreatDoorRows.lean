/-
  NARROWER THAN 'FOR EVERY INPUT', by the rows' own cells (each row's printed sentence says how): SchedTells: laid · SchedRolls: laid · SchedSums: laid · SchedAlike: laid · SchedOpen: laid · SchedWays: laid.
  DERIVED. THE GIVEN ROWS OF THIS SEAT. 6 by the template 'for every input the law returns true; each argument reads behind the call as it read before'; 0 by the template 'total and deterministic' (their statements: YtgojmodiaffcbaaGreatDoorTotals.lean).
  GIVEN WITH THE SEED: the statements are not yours to turn. If you find one false, say at which input.
  Laid BY PROGRAM, IN A SANDBOX (cutbox-rows.mjs): the forced cells as the released guide's own fill.sh prints them over the translation 8a12c9bce0a49b6d… (all of the seat's roots in one cut). By AI agents, Wed Nov 11 2026. No macro, syntax, notation, axiom, sorry.
-/
import Derived.Test.YtgojmodiaffcbaaGreatDoorChecked
import GoSem.Claim
import GoSem.ClaimJoined
import GoSem.ClaimMapViews
import Derived.JoinedTies
import Derived.KernelRfl
namespace Go.Proofs.YtgojmodiaffcbaaGreatDoor
/- THE CELL 'sum', in the pinned program and in every row, IS THE sha256 OF THE DUMP (.gsa) THAT YtgojmodiaffcbaaGreatDoorProg.lean LOADS. Nothing in Lean hashes anything: it is a label: what it is worth is what the hold of that sum in a sandbox is worth. -/
noncomputable def Tryz.pinned : Pinned := { name := "ytgojmodiaffcbaagreatdoor", sum := "8a12c9bce0a49b6d5ce51c7e56f3d2c45e0201cd3163998006edb21c625af492", checked := Tryz.checked }
namespace Rows
def none {H : Type} : Left H := { results := [], args := [] }

/- WHAT THE LISTED PACKAGE-LEVEL VARIABLES READ AS WHEN THE CALL BEGINS. Each datum BY PROGRAM (the guide's laid-datum.mjs) off the statement by which the dump's own 'gosem.cut.vars' lays the variable. In a bare row this is a premise. The card (YtgojmodiaffcbaaGreatDoorCards.lean) ties it to the program's text. -/
def laid_demurrage_civil_lengths {H : Type} : DataW H := .agg [.lit (.int .i64 0), .lit (.int .i64 31), .lit (.int .i64 28), .lit (.int .i64 31), .lit (.int .i64 30), .lit (.int .i64 31), .lit (.int .i64 30), .lit (.int .i64 31), .lit (.int .i64 31), .lit (.int .i64 30), .lit (.int .i64 31), .lit (.int .i64 30), .lit (.int .i64 31)]
def laid_errors_errorType {H : Type} : DataW H := .iface "internal/reflectlite.rtype" (.agg [.ptr (.lit (.string [101, 114, 114, 111, 114]))])
def laid_demurrage_actual_errNone {H : Type} : DataW H := .iface "*errors.errorString" (.ptr (.agg [.lit (.string [110, 111, 32, 100, 97, 121])]))
def laid_demurrage_actual_errTurns {H : Type} : DataW H := .iface "*errors.errorString" (.ptr (.agg [.lit (.string [100, 97, 121, 115, 32, 116, 104, 101, 32, 119, 114, 111, 110, 103, 32, 119, 97, 121, 32, 114, 111, 117, 110, 100])]))
def laid_demurrage_roll_names {H : Type} : DataW H := .agg [.lit (.string [110, 111, 110, 101]), .lit (.string [102, 111, 108, 108, 111, 119, 105, 110, 103]), .lit (.string [109, 111, 100, 102, 111, 108, 108, 111, 119, 105, 110, 103]), .lit (.string [112, 114, 101, 99, 101, 100, 105, 110, 103]), .lit (.string [109, 111, 100, 112, 114, 101, 99, 101, 100, 105, 110, 103])]
def laid_demurrage_terms_names {H : Type} : DataW H := .agg [.lit (.string [98, 117, 108, 108, 101, 116]), .lit (.string [101, 113, 117, 97, 108]), .lit (.string [108, 101, 118, 101, 108])]
def laid_demurrage_terms_errTerms {H : Type} : DataW H := .iface "*errors.errorString" (.ptr (.agg [.lit (.string [116, 101, 114, 109, 115, 32, 116, 104, 97, 116, 32, 109, 97, 121, 32, 110, 111, 116, 32, 98, 101])]))

/-- 'demurragelaw17.SchedTells': WHATEVER THE INPUT: true; the input reads as it did. -/
def schedTellsSpec : ChangeSpec := { name := "schedTells", fn := fun _ => fun
  | [d1, d2] => { results := [.lit (.bool true)], args := [d1, d2] }
  | _ => none }
def schedTellsRow : OpenClaim := { program := "ytgojmodiaffcbaagreatdoor", sum := "8a12c9bce0a49b6d5ce51c7e56f3d2c45e0201cd3163998006edb21c625af492", func := "demurrage/demurragelaw17.SchedTells", spec := "schedTells", inPlace := ["internal/reflectlite.TypeOf", "math/bits.Add64", "internal/reflectlite.ValueOf", "(internal/reflectlite.Value).Type", "(internal/reflectlite.Value).IsNil", "(internal/reflectlite.Value).Elem", "(internal/reflectlite.Value).Set"], unfollowed := true, recurses := true, named := ["demurrage/terms.errTerms", "demurrage/terms.names", "demurrage/civil.lengths", "demurrage/actual.errNone", "demurrage/actual.errTurns", "math/bits.divideError", "math/bits.overflowError", "errors.errorType", "demurrage/roll.names"], apart := false, laid := [("demurrage/civil.lengths", laid_demurrage_civil_lengths), ("errors.errorType", laid_errors_errorType), ("demurrage/actual.errNone", laid_demurrage_actual_errNone), ("demurrage/actual.errTurns", laid_demurrage_actual_errTurns), ("demurrage/roll.names", laid_demurrage_roll_names), ("demurrage/terms.names", laid_demurrage_terms_names), ("demurrage/terms.errTerms", laid_demurrage_terms_errTerms)] }
def SchedTellsSaid : Prop := schedTellsRow.holds Tryz.pinned (OpenSpec.ofChange schedTellsSpec)

/-- ITS FALSE NEIGHBOUR: 'it returns false'. Refute it at one input. -/
def schedTellsWrong : ChangeSpec := { name := "schedTells", fn := fun _ => fun
  | [d1, d2] => { results := [.lit (.bool false)], args := [d1, d2] }
  | _ => none }
def SchedTellsWrongFalsely : Prop := schedTellsRow.holds Tryz.pinned (OpenSpec.ofChange schedTellsWrong)

/-- 'demurragelaw17.SchedRolls': WHATEVER THE INPUT: true; the input reads as it did. -/
def schedRollsSpec : ChangeSpec := { name := "schedRolls", fn := fun _ => fun
  | [d1, d2] => { results := [.lit (.bool true)], args := [d1, d2] }
  | _ => none }
def schedRollsRow : OpenClaim := { program := "ytgojmodiaffcbaagreatdoor", sum := "8a12c9bce0a49b6d5ce51c7e56f3d2c45e0201cd3163998006edb21c625af492", func := "demurrage/demurragelaw17.SchedRolls", spec := "schedRolls", inPlace := ["internal/reflectlite.TypeOf", "math/bits.Add64", "internal/reflectlite.ValueOf", "(internal/reflectlite.Value).Type", "(internal/reflectlite.Value).IsNil", "(internal/reflectlite.Value).Elem", "(internal/reflectlite.Value).Set"], unfollowed := true, recurses := true, named := ["demurrage/terms.errTerms", "demurrage/terms.names", "demurrage/civil.lengths", "demurrage/actual.errNone", "demurrage/actual.errTurns", "math/bits.divideError", "math/bits.overflowError", "errors.errorType", "demurrage/roll.names"], apart := false, laid := [("demurrage/civil.lengths", laid_demurrage_civil_lengths), ("errors.errorType", laid_errors_errorType), ("demurrage/actual.errNone", laid_demurrage_actual_errNone), ("demurrage/actual.errTurns", laid_demurrage_actual_errTurns), ("demurrage/roll.names", laid_demurrage_roll_names), ("demurrage/terms.names", laid_demurrage_terms_names), ("demurrage/terms.errTerms", laid_demurrage_terms_errTerms)] }
def SchedRollsSaid : Prop := schedRollsRow.holds Tryz.pinned (OpenSpec.ofChange schedRollsSpec)

/-- ITS FALSE NEIGHBOUR: 'it returns false'. Refute it at one input. -/
def schedRollsWrong : ChangeSpec := { name := "schedRolls", fn := fun _ => fun
  | [d1, d2] => { results := [.lit (.bool false)], args := [d1, d2] }
  | _ => none }
def SchedRollsWrongFalsely : Prop := schedRollsRow.holds Tryz.pinned (OpenSpec.ofChange schedRollsWrong)

/-- 'demurragelaw17.SchedSums': WHATEVER THE INPUT: true; the input reads as it did. -/
def schedSumsSpec : ChangeSpec := { name := "schedSums", fn := fun _ => fun
  | [d1, d2] => { results := [.lit (.bool true)], args := [d1, d2] }
  | _ => none }
def schedSumsRow : OpenClaim := { program := "ytgojmodiaffcbaagreatdoor", sum := "8a12c9bce0a49b6d5ce51c7e56f3d2c45e0201cd3163998006edb21c625af492", func := "demurrage/demurragelaw17.SchedSums", spec := "schedSums", inPlace := ["internal/reflectlite.TypeOf", "math/bits.Add64", "internal/reflectlite.ValueOf", "(internal/reflectlite.Value).Type", "(internal/reflectlite.Value).IsNil", "(internal/reflectlite.Value).Elem", "(internal/reflectlite.Value).Set"], unfollowed := true, recurses := true, named := ["demurrage/terms.errTerms", "demurrage/terms.names", "demurrage/civil.lengths", "demurrage/actual.errNone", "demurrage/actual.errTurns", "math/bits.divideError", "math/bits.overflowError", "errors.errorType", "demurrage/roll.names"], apart := false, laid := [("demurrage/civil.lengths", laid_demurrage_civil_lengths), ("errors.errorType", laid_errors_errorType), ("demurrage/actual.errNone", laid_demurrage_actual_errNone), ("demurrage/actual.errTurns", laid_demurrage_actual_errTurns), ("demurrage/roll.names", laid_demurrage_roll_names), ("demurrage/terms.names", laid_demurrage_terms_names), ("demurrage/terms.errTerms", laid_demurrage_terms_errTerms)] }
def SchedSumsSaid : Prop := schedSumsRow.holds Tryz.pinned (OpenSpec.ofChange schedSumsSpec)

/-- ITS FALSE NEIGHBOUR: 'it returns false'. Refute it at one input. -/
def schedSumsWrong : ChangeSpec := { name := "schedSums", fn := fun _ => fun
  | [d1, d2] => { results := [.lit (.bool false)], args := [d1, d2] }
  | _ => none }
def SchedSumsWrongFalsely : Prop := schedSumsRow.holds Tryz.pinned (OpenSpec.ofChange schedSumsWrong)

/-- 'demurragelaw17.SchedAlike': WHATEVER THE INPUT: true; the input reads as it did. -/
def schedAlikeSpec : ChangeSpec := { name := "schedAlike", fn := fun _ => fun
  | [d] => { results := [.lit (.bool true)], args := [d] }
  | _ => none }
def schedAlikeRow : OpenClaim := { program := "ytgojmodiaffcbaagreatdoor", sum := "8a12c9bce0a49b6d5ce51c7e56f3d2c45e0201cd3163998006edb21c625af492", func := "demurrage/demurragelaw17.SchedAlike", spec := "schedAlike", inPlace := ["internal/reflectlite.TypeOf", "math/bits.Add64", "internal/reflectlite.ValueOf", "(internal/reflectlite.Value).Type", "(internal/reflectlite.Value).IsNil", "(internal/reflectlite.Value).Elem", "(internal/reflectlite.Value).Set"], unfollowed := true, recurses := true, named := ["demurrage/terms.errTerms", "demurrage/terms.names", "demurrage/civil.lengths", "demurrage/actual.errNone", "demurrage/actual.errTurns", "math/bits.divideError", "math/bits.overflowError", "errors.errorType", "demurrage/roll.names"], apart := false, laid := [("demurrage/civil.lengths", laid_demurrage_civil_lengths), ("errors.errorType", laid_errors_errorType), ("demurrage/actual.errNone", laid_demurrage_actual_errNone), ("demurrage/actual.errTurns", laid_demurrage_actual_errTurns), ("demurrage/roll.names", laid_demurrage_roll_names), ("demurrage/terms.names", laid_demurrage_terms_names), ("demurrage/terms.errTerms", laid_demurrage_terms_errTerms)] }
def SchedAlikeSaid : Prop := schedAlikeRow.holds Tryz.pinned (OpenSpec.ofChange schedAlikeSpec)

/-- ITS FALSE NEIGHBOUR: 'it returns false'. Refute it at one input. -/
def schedAlikeWrong : ChangeSpec := { name := "schedAlike", fn := fun _ => fun
  | [d] => { results := [.lit (.bool false)], args := [d] }
  | _ => none }
def SchedAlikeWrongFalsely : Prop := schedAlikeRow.holds Tryz.pinned (OpenSpec.ofChange schedAlikeWrong)

/-- 'demurragelaw17.SchedOpen': WHATEVER THE INPUT: true; the input reads as it did. -/
def schedOpenSpec : ChangeSpec := { name := "schedOpen", fn := fun _ => fun
  | [d1, d2, d3] => { results := [.lit (.bool true)], args := [d1, d2, d3] }
  | _ => none }
def schedOpenRow : OpenClaim := { program := "ytgojmodiaffcbaagreatdoor", sum := "8a12c9bce0a49b6d5ce51c7e56f3d2c45e0201cd3163998006edb21c625af492", func := "demurrage/demurragelaw17.SchedOpen", spec := "schedOpen", inPlace := ["internal/reflectlite.TypeOf", "math/bits.Add64", "internal/reflectlite.ValueOf", "(internal/reflectlite.Value).Type", "(internal/reflectlite.Value).IsNil", "(internal/reflectlite.Value).Elem", "(internal/reflectlite.Value).Set"], unfollowed := true, recurses := true, named := ["demurrage/terms.errTerms", "demurrage/terms.names", "demurrage/civil.lengths", "demurrage/actual.errNone", "demurrage/actual.errTurns", "math/bits.divideError", "math/bits.overflowError", "errors.errorType", "demurrage/roll.names"], apart := false, laid := [("demurrage/civil.lengths", laid_demurrage_civil_lengths), ("errors.errorType", laid_errors_errorType), ("demurrage/actual.errNone", laid_demurrage_actual_errNone), ("demurrage/actual.errTurns", laid_demurrage_actual_errTurns), ("demurrage/roll.names", laid_demurrage_roll_names), ("demurrage/terms.names", laid_demurrage_terms_names), ("demurrage/terms.errTerms", laid_demurrage_terms_errTerms)] }
def SchedOpenSaid : Prop := schedOpenRow.holds Tryz.pinned (OpenSpec.ofChange schedOpenSpec)

/-- ITS FALSE NEIGHBOUR: 'it returns false'. Refute it at one input. -/
def schedOpenWrong : ChangeSpec := { name := "schedOpen", fn := fun _ => fun
  | [d1, d2, d3] => { results := [.lit (.bool false)], args := [d1, d2, d3] }
  | _ => none }
def SchedOpenWrongFalsely : Prop := schedOpenRow.holds Tryz.pinned (OpenSpec.ofChange schedOpenWrong)

/-- 'demurragelaw17.SchedWays': WHATEVER THE INPUT: true; the input reads as it did. -/
def schedWaysSpec : ChangeSpec := { name := "schedWays", fn := fun _ => fun
  | [d1, d2, d3] => { results := [.lit (.bool true)], args := [d1, d2, d3] }
  | _ => none }
def schedWaysRow : OpenClaim := { program := "ytgojmodiaffcbaagreatdoor", sum := "8a12c9bce0a49b6d5ce51c7e56f3d2c45e0201cd3163998006edb21c625af492", func := "demurrage/demurragelaw17.SchedWays", spec := "schedWays", inPlace := ["internal/reflectlite.TypeOf", "math/bits.Add64", "internal/reflectlite.ValueOf", "(internal/reflectlite.Value).Type", "(internal/reflectlite.Value).IsNil", "(internal/reflectlite.Value).Elem", "(internal/reflectlite.Value).Set"], unfollowed := true, recurses := true, named := ["demurrage/terms.errTerms", "demurrage/terms.names", "demurrage/civil.lengths", "demurrage/actual.errNone", "demurrage/actual.errTurns", "math/bits.divideError", "math/bits.overflowError", "errors.errorType", "demurrage/roll.names"], apart := false, laid := [("demurrage/civil.lengths", laid_demurrage_civil_lengths), ("errors.errorType", laid_errors_errorType), ("demurrage/actual.errNone", laid_demurrage_actual_errNone), ("demurrage/actual.errTurns", laid_demurrage_actual_errTurns), ("demurrage/roll.names", laid_demurrage_roll_names), ("demurrage/terms.names", laid_demurrage_terms_names), ("demurrage/terms.errTerms", laid_demurrage_terms_errTerms)] }
def SchedWaysSaid : Prop := schedWaysRow.holds Tryz.pinned (OpenSpec.ofChange schedWaysSpec)

/-- ITS FALSE NEIGHBOUR: 'it returns false'. Refute it at one input. -/
def schedWaysWrong : ChangeSpec := { name := "schedWays", fn := fun _ => fun
  | [d1, d2, d3] => { results := [.lit (.bool false)], args := [d1, d2, d3] }
  | _ => none }
def SchedWaysWrongFalsely : Prop := schedWaysRow.holds Tryz.pinned (OpenSpec.ofChange schedWaysWrong)

/- THE SECOND FORM. 'bulk': how many values and letters a reading holds, each counted each time it is reached (what is shared counts as often as it is met; a slice's spare places count too). A statement '..UptoSaid' is the law's where the arguments, and the package variables that the reading takes, are together of bulk at most 1048576: NARROWER than '..Said'. Prove '..Said' where nothing that the law and all that it calls make is longer than what came in: it says more and counts as full. Else prove '..UptoSaid'. A law counts once. -/
mutual
def uptoBulk {H : Type} : DataW H → Nat
  | .lit (.string bytes) => bytes.length + 1
  | .lit _ => 1
  | .nil => 1
  | .ptr d => uptoBulk d + 1
  | .slice elems spare => uptoBulkAll elems + uptoBulkAll spare + 1
  | .agg parts => uptoBulkAll parts + 1
  | .iface _ d => uptoBulk d + 1
  | .map entries => uptoBulkEntries entries + 1
  | .held _ => 1
def uptoBulkAll {H : Type} : List (DataW H) → Nat
  | [] => 0
  | d :: r => uptoBulk d + uptoBulkAll r
def uptoBulkEntries {H : Type} : List (Lit × DataW H) → Nat
  | [] => 0
  | x :: r => uptoBulkEntry x + uptoBulkEntries r
def uptoBulkEntry {H : Type} : Lit × DataW H → Nat
  | (.string bytes, d) => bytes.length + uptoBulk d + 1
  | (_, d) => uptoBulk d + 1
 end
def uptoSmall : (H : Type) → List (DataW H) → Bool := fun _ ds => decide (uptoBulkAll ds ≤ 1048576)
def OpenSpec.upto (s : _root_.Go.ChangeSpec) : _root_.Go.OpenSpec := { _root_.Go.OpenSpec.ofChange s with cond := some uptoSmall }

/-- 'demurragelaw17.SchedTells', WHERE WHAT IT READS IS OF BULK AT MOST 1048576: true; the input reads as it did. -/
def schedTellsUptoRow : OpenClaim := { program := "ytgojmodiaffcbaagreatdoor", sum := "8a12c9bce0a49b6d5ce51c7e56f3d2c45e0201cd3163998006edb21c625af492", func := "demurrage/demurragelaw17.SchedTells", spec := "schedTells", inPlace := ["internal/reflectlite.TypeOf", "math/bits.Add64", "internal/reflectlite.ValueOf", "(internal/reflectlite.Value).Type", "(internal/reflectlite.Value).IsNil", "(internal/reflectlite.Value).Elem", "(internal/reflectlite.Value).Set"], unfollowed := true, recurses := true, named := ["demurrage/terms.errTerms", "demurrage/terms.names", "demurrage/civil.lengths", "demurrage/actual.errNone", "demurrage/actual.errTurns", "math/bits.divideError", "math/bits.overflowError", "errors.errorType", "demurrage/roll.names"], apart := false, laid := [("demurrage/civil.lengths", laid_demurrage_civil_lengths), ("errors.errorType", laid_errors_errorType), ("demurrage/actual.errNone", laid_demurrage_actual_errNone), ("demurrage/actual.errTurns", laid_demurrage_actual_errTurns), ("demurrage/roll.names", laid_demurrage_roll_names), ("demurrage/terms.names", laid_demurrage_terms_names), ("demurrage/terms.errTerms", laid_demurrage_terms_errTerms)], narrowed := true }
def SchedTellsUptoSaid : Prop := schedTellsUptoRow.holds Tryz.pinned (OpenSpec.upto schedTellsSpec)

/-- 'demurragelaw17.SchedRolls', WHERE WHAT IT READS IS OF BULK AT MOST 1048576: true; the input reads as it did. -/
def schedRollsUptoRow : OpenClaim := { program := "ytgojmodiaffcbaagreatdoor", sum := "8a12c9bce0a49b6d5ce51c7e56f3d2c45e0201cd3163998006edb21c625af492", func := "demurrage/demurragelaw17.SchedRolls", spec := "schedRolls", inPlace := ["internal/reflectlite.TypeOf", "math/bits.Add64", "internal/reflectlite.ValueOf", "(internal/reflectlite.Value).Type", "(internal/reflectlite.Value).IsNil", "(internal/reflectlite.Value).Elem", "(internal/reflectlite.Value).Set"], unfollowed := true, recurses := true, named := ["demurrage/terms.errTerms", "demurrage/terms.names", "demurrage/civil.lengths", "demurrage/actual.errNone", "demurrage/actual.errTurns", "math/bits.divideError", "math/bits.overflowError", "errors.errorType", "demurrage/roll.names"], apart := false, laid := [("demurrage/civil.lengths", laid_demurrage_civil_lengths), ("errors.errorType", laid_errors_errorType), ("demurrage/actual.errNone", laid_demurrage_actual_errNone), ("demurrage/actual.errTurns", laid_demurrage_actual_errTurns), ("demurrage/roll.names", laid_demurrage_roll_names), ("demurrage/terms.names", laid_demurrage_terms_names), ("demurrage/terms.errTerms", laid_demurrage_terms_errTerms)], narrowed := true }
def SchedRollsUptoSaid : Prop := schedRollsUptoRow.holds Tryz.pinned (OpenSpec.upto schedRollsSpec)

/-- 'demurragelaw17.SchedSums', WHERE WHAT IT READS IS OF BULK AT MOST 1048576: true; the input reads as it did. -/
def schedSumsUptoRow : OpenClaim := { program := "ytgojmodiaffcbaagreatdoor", sum := "8a12c9bce0a49b6d5ce51c7e56f3d2c45e0201cd3163998006edb21c625af492", func := "demurrage/demurragelaw17.SchedSums", spec := "schedSums", inPlace := ["internal/reflectlite.TypeOf", "math/bits.Add64", "internal/reflectlite.ValueOf", "(internal/reflectlite.Value).Type", "(internal/reflectlite.Value).IsNil", "(internal/reflectlite.Value).Elem", "(internal/reflectlite.Value).Set"], unfollowed := true, recurses := true, named := ["demurrage/terms.errTerms", "demurrage/terms.names", "demurrage/civil.lengths", "demurrage/actual.errNone", "demurrage/actual.errTurns", "math/bits.divideError", "math/bits.overflowError", "errors.errorType", "demurrage/roll.names"], apart := false, laid := [("demurrage/civil.lengths", laid_demurrage_civil_lengths), ("errors.errorType", laid_errors_errorType), ("demurrage/actual.errNone", laid_demurrage_actual_errNone), ("demurrage/actual.errTurns", laid_demurrage_actual_errTurns), ("demurrage/roll.names", laid_demurrage_roll_names), ("demurrage/terms.names", laid_demurrage_terms_names), ("demurrage/terms.errTerms", laid_demurrage_terms_errTerms)], narrowed := true }
def SchedSumsUptoSaid : Prop := schedSumsUptoRow.holds Tryz.pinned (OpenSpec.upto schedSumsSpec)

/-- 'demurragelaw17.SchedAlike', WHERE WHAT IT READS IS OF BULK AT MOST 1048576: true; the input reads as it did. -/
def schedAlikeUptoRow : OpenClaim := { program := "ytgojmodiaffcbaagreatdoor", sum := "8a12c9bce0a49b6d5ce51c7e56f3d2c45e0201cd3163998006edb21c625af492", func := "demurrage/demurragelaw17.SchedAlike", spec := "schedAlike", inPlace := ["internal/reflectlite.TypeOf", "math/bits.Add64", "internal/reflectlite.ValueOf", "(internal/reflectlite.Value).Type", "(internal/reflectlite.Value).IsNil", "(internal/reflectlite.Value).Elem", "(internal/reflectlite.Value).Set"], unfollowed := true, recurses := true, named := ["demurrage/terms.errTerms", "demurrage/terms.names", "demurrage/civil.lengths", "demurrage/actual.errNone", "demurrage/actual.errTurns", "math/bits.divideError", "math/bits.overflowError", "errors.errorType", "demurrage/roll.names"], apart := false, laid := [("demurrage/civil.lengths", laid_demurrage_civil_lengths), ("errors.errorType", laid_errors_errorType), ("demurrage/actual.errNone", laid_demurrage_actual_errNone), ("demurrage/actual.errTurns", laid_demurrage_actual_errTurns), ("demurrage/roll.names", laid_demurrage_roll_names), ("demurrage/terms.names", laid_demurrage_terms_names), ("demurrage/terms.errTerms", laid_demurrage_terms_errTerms)], narrowed := true }
def SchedAlikeUptoSaid : Prop := schedAlikeUptoRow.holds Tryz.pinned (OpenSpec.upto schedAlikeSpec)

/-- 'demurragelaw17.SchedOpen', WHERE WHAT IT READS IS OF BULK AT MOST 1048576: true; the input reads as it did. -/
def schedOpenUptoRow : OpenClaim := { program := "ytgojmodiaffcbaagreatdoor", sum := "8a12c9bce0a49b6d5ce51c7e56f3d2c45e0201cd3163998006edb21c625af492", func := "demurrage/demurragelaw17.SchedOpen", spec := "schedOpen", inPlace := ["internal/reflectlite.TypeOf", "math/bits.Add64", "internal/reflectlite.ValueOf", "(internal/reflectlite.Value).Type", "(internal/reflectlite.Value).IsNil", "(internal/reflectlite.Value).Elem", "(internal/reflectlite.Value).Set"], unfollowed := true, recurses := true, named := ["demurrage/terms.errTerms", "demurrage/terms.names", "demurrage/civil.lengths", "demurrage/actual.errNone", "demurrage/actual.errTurns", "math/bits.divideError", "math/bits.overflowError", "errors.errorType", "demurrage/roll.names"], apart := false, laid := [("demurrage/civil.lengths", laid_demurrage_civil_lengths), ("errors.errorType", laid_errors_errorType), ("demurrage/actual.errNone", laid_demurrage_actual_errNone), ("demurrage/actual.errTurns", laid_demurrage_actual_errTurns), ("demurrage/roll.names", laid_demurrage_roll_names), ("demurrage/terms.names", laid_demurrage_terms_names), ("demurrage/terms.errTerms", laid_demurrage_terms_errTerms)], narrowed := true }
def SchedOpenUptoSaid : Prop := schedOpenUptoRow.holds Tryz.pinned (OpenSpec.upto schedOpenSpec)

/-- 'demurragelaw17.SchedWays', WHERE WHAT IT READS IS OF BULK AT MOST 1048576: true; the input reads as it did. -/
def schedWaysUptoRow : OpenClaim := { program := "ytgojmodiaffcbaagreatdoor", sum := "8a12c9bce0a49b6d5ce51c7e56f3d2c45e0201cd3163998006edb21c625af492", func := "demurrage/demurragelaw17.SchedWays", spec := "schedWays", inPlace := ["internal/reflectlite.TypeOf", "math/bits.Add64", "internal/reflectlite.ValueOf", "(internal/reflectlite.Value).Type", "(internal/reflectlite.Value).IsNil", "(internal/reflectlite.Value).Elem", "(internal/reflectlite.Value).Set"], unfollowed := true, recurses := true, named := ["demurrage/terms.errTerms", "demurrage/terms.names", "demurrage/civil.lengths", "demurrage/actual.errNone", "demurrage/actual.errTurns", "math/bits.divideError", "math/bits.overflowError", "errors.errorType", "demurrage/roll.names"], apart := false, laid := [("demurrage/civil.lengths", laid_demurrage_civil_lengths), ("errors.errorType", laid_errors_errorType), ("demurrage/actual.errNone", laid_demurrage_actual_errNone), ("demurrage/actual.errTurns", laid_demurrage_actual_errTurns), ("demurrage/roll.names", laid_demurrage_roll_names), ("demurrage/terms.names", laid_demurrage_terms_names), ("demurrage/terms.errTerms", laid_demurrage_terms_errTerms)], narrowed := true }
def SchedWaysUptoSaid : Prop := schedWaysUptoRow.holds Tryz.pinned (OpenSpec.upto schedWaysSpec)

end Rows
end Go.Proofs.YtgojmodiaffcbaaGreatDoor
