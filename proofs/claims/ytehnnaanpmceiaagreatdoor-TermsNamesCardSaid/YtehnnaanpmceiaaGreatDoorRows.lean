/-
  NARROWER THAN 'FOR EVERY INPUT', by the rows' own cells (each row's printed sentence says how): CountTells: laid · CountNames: laid · CountBeside: laid · CountZero: laid · CountAdds: laid · CountRight: laid · AccrueTells: laid · AccrueGrows: laid · AccrueNear: laid · AccrueSplits: laid · AccrueWhole: laid · TermsTells: laid · TermsFree: laid · TermsOrder: laid · TermsBoth: laid · TermsNames: laid.
  DERIVED. THE GIVEN ROWS OF THIS SEAT. 16 by the template 'for every input the law returns true; each argument reads behind the call as it read before'; 0 by the template 'total and deterministic' (their statements: YtehnnaanpmceiaaGreatDoorTotals.lean).
  GIVEN WITH THE SEED: the statements are not yours to turn. If you find one false, say at which input.
  Laid BY PROGRAM, IN A SANDBOX (cutbox-rows.mjs): the forced cells as the released guide's own fill.sh prints them over the translation 100dba8dfce7d245… (all of the seat's roots in one cut). By AI agents, Wed Nov 11 2026. No macro, syntax, notation, axiom, sorry.
-/
import Derived.Test.YtehnnaanpmceiaaGreatDoorChecked
import GoSem.Claim
import GoSem.ClaimJoined
import GoSem.ClaimMapViews
import Derived.JoinedTies
import Derived.KernelRfl
namespace Go.Proofs.YtehnnaanpmceiaaGreatDoor
/- THE CELL 'sum', in the pinned program and in every row, IS THE sha256 OF THE DUMP (.gsa) THAT YtehnnaanpmceiaaGreatDoorProg.lean LOADS. Nothing in Lean hashes anything: it is a label: what it is worth is what the hold of that sum in a sandbox is worth. -/
noncomputable def Tryz.pinned : Pinned := { name := "ytehnnaanpmceiaagreatdoor", sum := "100dba8dfce7d245a4d7021fe66bb400033a308e2590ee29aa865ff1bd0d3499", checked := Tryz.checked }
namespace Rows
def none {H : Type} : Left H := { results := [], args := [] }

/- WHAT THE LISTED PACKAGE-LEVEL VARIABLES READ AS WHEN THE CALL BEGINS. Each datum BY PROGRAM (the guide's laid-datum.mjs) off the statement by which the dump's own 'gosem.cut.vars' lays the variable. In a bare row this is a premise. The card (YtehnnaanpmceiaaGreatDoorCards.lean) ties it to the program's text. -/
def laid_demurrage_civil_lengths {H : Type} : DataW H := .agg [.lit (.int .i64 0), .lit (.int .i64 31), .lit (.int .i64 28), .lit (.int .i64 31), .lit (.int .i64 30), .lit (.int .i64 31), .lit (.int .i64 30), .lit (.int .i64 31), .lit (.int .i64 31), .lit (.int .i64 30), .lit (.int .i64 31), .lit (.int .i64 30), .lit (.int .i64 31)]
def laid_errors_errorType {H : Type} : DataW H := .iface "internal/reflectlite.rtype" (.agg [.ptr (.lit (.string [101, 114, 114, 111, 114]))])
def laid_demurrage_actual_errNone {H : Type} : DataW H := .iface "*errors.errorString" (.ptr (.agg [.lit (.string [110, 111, 32, 100, 97, 121])]))
def laid_demurrage_actual_errTurns {H : Type} : DataW H := .iface "*errors.errorString" (.ptr (.agg [.lit (.string [100, 97, 121, 115, 32, 116, 104, 101, 32, 119, 114, 111, 110, 103, 32, 119, 97, 121, 32, 114, 111, 117, 110, 100])]))
def laid_demurrage_roll_names {H : Type} : DataW H := .agg [.lit (.string [110, 111, 110, 101]), .lit (.string [102, 111, 108, 108, 111, 119, 105, 110, 103]), .lit (.string [109, 111, 100, 102, 111, 108, 108, 111, 119, 105, 110, 103]), .lit (.string [112, 114, 101, 99, 101, 100, 105, 110, 103]), .lit (.string [109, 111, 100, 112, 114, 101, 99, 101, 100, 105, 110, 103])]
def laid_demurrage_terms_names {H : Type} : DataW H := .agg [.lit (.string [98, 117, 108, 108, 101, 116]), .lit (.string [101, 113, 117, 97, 108]), .lit (.string [108, 101, 118, 101, 108])]
def laid_demurrage_terms_errTerms {H : Type} : DataW H := .iface "*errors.errorString" (.ptr (.agg [.lit (.string [116, 101, 114, 109, 115, 32, 116, 104, 97, 116, 32, 109, 97, 121, 32, 110, 111, 116, 32, 98, 101])]))

/-- 'demurragelaw10.CountTells': WHATEVER THE INPUT: true; the input reads as it did. -/
def countTellsSpec : ChangeSpec := { name := "countTells", fn := fun _ => fun
  | [d] => { results := [.lit (.bool true)], args := [d] }
  | _ => none }
def countTellsRow : OpenClaim := { program := "ytehnnaanpmceiaagreatdoor", sum := "100dba8dfce7d245a4d7021fe66bb400033a308e2590ee29aa865ff1bd0d3499", func := "demurrage/demurragelaw10.CountTells", spec := "countTells", inPlace := ["internal/reflectlite.TypeOf", "math/bits.Add64", "internal/reflectlite.ValueOf", "(internal/reflectlite.Value).Type", "(internal/reflectlite.Value).IsNil", "(internal/reflectlite.Value).Elem", "(internal/reflectlite.Value).Set"], unfollowed := true, recurses := true, named := ["demurrage/civil.lengths", "demurrage/actual.errNone", "demurrage/actual.errTurns", "math/bits.divideError", "math/bits.overflowError", "errors.errorType"], apart := false, laid := [("demurrage/civil.lengths", laid_demurrage_civil_lengths), ("errors.errorType", laid_errors_errorType), ("demurrage/actual.errNone", laid_demurrage_actual_errNone), ("demurrage/actual.errTurns", laid_demurrage_actual_errTurns)] }
def CountTellsSaid : Prop := countTellsRow.holds Tryz.pinned (OpenSpec.ofChange countTellsSpec)

/-- ITS FALSE NEIGHBOUR: 'it returns false'. Refute it at one input. -/
def countTellsWrong : ChangeSpec := { name := "countTells", fn := fun _ => fun
  | [d] => { results := [.lit (.bool false)], args := [d] }
  | _ => none }
def CountTellsWrongFalsely : Prop := countTellsRow.holds Tryz.pinned (OpenSpec.ofChange countTellsWrong)

/-- 'demurragelaw10.CountNames': WHATEVER THE INPUT: true; the input reads as it did. -/
def countNamesSpec : ChangeSpec := { name := "countNames", fn := fun _ => fun
  | [d1, d2] => { results := [.lit (.bool true)], args := [d1, d2] }
  | _ => none }
def countNamesRow : OpenClaim := { program := "ytehnnaanpmceiaagreatdoor", sum := "100dba8dfce7d245a4d7021fe66bb400033a308e2590ee29aa865ff1bd0d3499", func := "demurrage/demurragelaw10.CountNames", spec := "countNames", inPlace := ["internal/reflectlite.TypeOf", "math/bits.Add64", "internal/reflectlite.ValueOf", "(internal/reflectlite.Value).Type", "(internal/reflectlite.Value).IsNil", "(internal/reflectlite.Value).Elem", "(internal/reflectlite.Value).Set"], unfollowed := true, recurses := true, named := ["demurrage/civil.lengths", "demurrage/actual.errNone", "demurrage/actual.errTurns", "math/bits.divideError", "math/bits.overflowError", "errors.errorType"], apart := false, laid := [("demurrage/civil.lengths", laid_demurrage_civil_lengths), ("errors.errorType", laid_errors_errorType), ("demurrage/actual.errNone", laid_demurrage_actual_errNone), ("demurrage/actual.errTurns", laid_demurrage_actual_errTurns)] }
def CountNamesSaid : Prop := countNamesRow.holds Tryz.pinned (OpenSpec.ofChange countNamesSpec)

/-- ITS FALSE NEIGHBOUR: 'it returns false'. Refute it at one input. -/
def countNamesWrong : ChangeSpec := { name := "countNames", fn := fun _ => fun
  | [d1, d2] => { results := [.lit (.bool false)], args := [d1, d2] }
  | _ => none }
def CountNamesWrongFalsely : Prop := countNamesRow.holds Tryz.pinned (OpenSpec.ofChange countNamesWrong)

/-- 'demurragelaw10.CountBeside': WHATEVER THE INPUT: true; the input reads as it did. -/
def countBesideSpec : ChangeSpec := { name := "countBeside", fn := fun _ => fun
  | [d] => { results := [.lit (.bool true)], args := [d] }
  | _ => none }
def countBesideRow : OpenClaim := { program := "ytehnnaanpmceiaagreatdoor", sum := "100dba8dfce7d245a4d7021fe66bb400033a308e2590ee29aa865ff1bd0d3499", func := "demurrage/demurragelaw10.CountBeside", spec := "countBeside", inPlace := ["internal/reflectlite.TypeOf", "math/bits.Add64", "internal/reflectlite.ValueOf", "(internal/reflectlite.Value).Type", "(internal/reflectlite.Value).IsNil", "(internal/reflectlite.Value).Elem", "(internal/reflectlite.Value).Set"], unfollowed := true, recurses := true, named := ["demurrage/civil.lengths", "demurrage/actual.errNone", "demurrage/actual.errTurns", "math/bits.divideError", "math/bits.overflowError", "errors.errorType"], apart := false, laid := [("demurrage/civil.lengths", laid_demurrage_civil_lengths), ("errors.errorType", laid_errors_errorType), ("demurrage/actual.errNone", laid_demurrage_actual_errNone), ("demurrage/actual.errTurns", laid_demurrage_actual_errTurns)] }
def CountBesideSaid : Prop := countBesideRow.holds Tryz.pinned (OpenSpec.ofChange countBesideSpec)

/-- ITS FALSE NEIGHBOUR: 'it returns false'. Refute it at one input. -/
def countBesideWrong : ChangeSpec := { name := "countBeside", fn := fun _ => fun
  | [d] => { results := [.lit (.bool false)], args := [d] }
  | _ => none }
def CountBesideWrongFalsely : Prop := countBesideRow.holds Tryz.pinned (OpenSpec.ofChange countBesideWrong)

/-- 'demurragelaw10.CountZero': WHATEVER THE INPUT: true; the input reads as it did. -/
def countZeroSpec : ChangeSpec := { name := "countZero", fn := fun _ => fun
  | [d] => { results := [.lit (.bool true)], args := [d] }
  | _ => none }
def countZeroRow : OpenClaim := { program := "ytehnnaanpmceiaagreatdoor", sum := "100dba8dfce7d245a4d7021fe66bb400033a308e2590ee29aa865ff1bd0d3499", func := "demurrage/demurragelaw10.CountZero", spec := "countZero", inPlace := ["internal/reflectlite.TypeOf", "math/bits.Add64", "internal/reflectlite.ValueOf", "(internal/reflectlite.Value).Type", "(internal/reflectlite.Value).IsNil", "(internal/reflectlite.Value).Elem", "(internal/reflectlite.Value).Set"], unfollowed := true, recurses := true, named := ["demurrage/civil.lengths", "demurrage/actual.errNone", "demurrage/actual.errTurns", "math/bits.divideError", "math/bits.overflowError", "errors.errorType"], apart := false, laid := [("demurrage/civil.lengths", laid_demurrage_civil_lengths), ("errors.errorType", laid_errors_errorType), ("demurrage/actual.errNone", laid_demurrage_actual_errNone), ("demurrage/actual.errTurns", laid_demurrage_actual_errTurns)] }
def CountZeroSaid : Prop := countZeroRow.holds Tryz.pinned (OpenSpec.ofChange countZeroSpec)

/-- ITS FALSE NEIGHBOUR: 'it returns false'. Refute it at one input. -/
def countZeroWrong : ChangeSpec := { name := "countZero", fn := fun _ => fun
  | [d] => { results := [.lit (.bool false)], args := [d] }
  | _ => none }
def CountZeroWrongFalsely : Prop := countZeroRow.holds Tryz.pinned (OpenSpec.ofChange countZeroWrong)

/-- 'demurragelaw10.CountAdds': WHATEVER THE INPUT: true; the input reads as it did. -/
def countAddsSpec : ChangeSpec := { name := "countAdds", fn := fun _ => fun
  | [d] => { results := [.lit (.bool true)], args := [d] }
  | _ => none }
def countAddsRow : OpenClaim := { program := "ytehnnaanpmceiaagreatdoor", sum := "100dba8dfce7d245a4d7021fe66bb400033a308e2590ee29aa865ff1bd0d3499", func := "demurrage/demurragelaw10.CountAdds", spec := "countAdds", inPlace := ["internal/reflectlite.TypeOf", "math/bits.Add64", "internal/reflectlite.ValueOf", "(internal/reflectlite.Value).Type", "(internal/reflectlite.Value).IsNil", "(internal/reflectlite.Value).Elem", "(internal/reflectlite.Value).Set"], unfollowed := true, recurses := true, named := ["demurrage/civil.lengths", "demurrage/actual.errNone", "demurrage/actual.errTurns", "math/bits.divideError", "math/bits.overflowError", "errors.errorType"], apart := false, laid := [("demurrage/civil.lengths", laid_demurrage_civil_lengths), ("errors.errorType", laid_errors_errorType), ("demurrage/actual.errNone", laid_demurrage_actual_errNone), ("demurrage/actual.errTurns", laid_demurrage_actual_errTurns)] }
def CountAddsSaid : Prop := countAddsRow.holds Tryz.pinned (OpenSpec.ofChange countAddsSpec)

/-- ITS FALSE NEIGHBOUR: 'it returns false'. Refute it at one input. -/
def countAddsWrong : ChangeSpec := { name := "countAdds", fn := fun _ => fun
  | [d] => { results := [.lit (.bool false)], args := [d] }
  | _ => none }
def CountAddsWrongFalsely : Prop := countAddsRow.holds Tryz.pinned (OpenSpec.ofChange countAddsWrong)

/-- 'demurragelaw10.CountRight': WHATEVER THE INPUT: true; the input reads as it did. -/
def countRightSpec : ChangeSpec := { name := "countRight", fn := fun _ => fun
  | [d] => { results := [.lit (.bool true)], args := [d] }
  | _ => none }
def countRightRow : OpenClaim := { program := "ytehnnaanpmceiaagreatdoor", sum := "100dba8dfce7d245a4d7021fe66bb400033a308e2590ee29aa865ff1bd0d3499", func := "demurrage/demurragelaw10.CountRight", spec := "countRight", inPlace := ["internal/reflectlite.TypeOf", "math/bits.Add64", "internal/reflectlite.ValueOf", "(internal/reflectlite.Value).Type", "(internal/reflectlite.Value).IsNil", "(internal/reflectlite.Value).Elem", "(internal/reflectlite.Value).Set"], unfollowed := true, recurses := true, named := ["demurrage/civil.lengths", "demurrage/actual.errNone", "demurrage/actual.errTurns", "math/bits.divideError", "math/bits.overflowError", "errors.errorType"], apart := false, laid := [("demurrage/civil.lengths", laid_demurrage_civil_lengths), ("errors.errorType", laid_errors_errorType), ("demurrage/actual.errNone", laid_demurrage_actual_errNone), ("demurrage/actual.errTurns", laid_demurrage_actual_errTurns)] }
def CountRightSaid : Prop := countRightRow.holds Tryz.pinned (OpenSpec.ofChange countRightSpec)

/-- ITS FALSE NEIGHBOUR: 'it returns false'. Refute it at one input. -/
def countRightWrong : ChangeSpec := { name := "countRight", fn := fun _ => fun
  | [d] => { results := [.lit (.bool false)], args := [d] }
  | _ => none }
def CountRightWrongFalsely : Prop := countRightRow.holds Tryz.pinned (OpenSpec.ofChange countRightWrong)

/-- 'demurragelaw18.AccrueTells': WHATEVER THE INPUT: true; the input reads as it did. -/
def accrueTellsSpec : ChangeSpec := { name := "accrueTells", fn := fun _ => fun
  | [d] => { results := [.lit (.bool true)], args := [d] }
  | _ => none }
def accrueTellsRow : OpenClaim := { program := "ytehnnaanpmceiaagreatdoor", sum := "100dba8dfce7d245a4d7021fe66bb400033a308e2590ee29aa865ff1bd0d3499", func := "demurrage/demurragelaw18.AccrueTells", spec := "accrueTells", inPlace := ["math/bits.Add64", "internal/reflectlite.TypeOf", "internal/reflectlite.ValueOf", "(internal/reflectlite.Value).Type", "(internal/reflectlite.Value).IsNil", "(internal/reflectlite.Value).Elem", "(internal/reflectlite.Value).Set"], unfollowed := true, recurses := true, named := ["math/bits.divideError", "math/bits.overflowError", "demurrage/civil.lengths", "demurrage/actual.errNone", "demurrage/actual.errTurns", "errors.errorType"], apart := false, laid := [("demurrage/civil.lengths", laid_demurrage_civil_lengths), ("errors.errorType", laid_errors_errorType), ("demurrage/actual.errNone", laid_demurrage_actual_errNone), ("demurrage/actual.errTurns", laid_demurrage_actual_errTurns)] }
def AccrueTellsSaid : Prop := accrueTellsRow.holds Tryz.pinned (OpenSpec.ofChange accrueTellsSpec)

/-- ITS FALSE NEIGHBOUR: 'it returns false'. Refute it at one input. -/
def accrueTellsWrong : ChangeSpec := { name := "accrueTells", fn := fun _ => fun
  | [d] => { results := [.lit (.bool false)], args := [d] }
  | _ => none }
def AccrueTellsWrongFalsely : Prop := accrueTellsRow.holds Tryz.pinned (OpenSpec.ofChange accrueTellsWrong)

/-- 'demurragelaw18.AccrueGrows': WHATEVER THE INPUT: true; the input reads as it did. -/
def accrueGrowsSpec : ChangeSpec := { name := "accrueGrows", fn := fun _ => fun
  | [d] => { results := [.lit (.bool true)], args := [d] }
  | _ => none }
def accrueGrowsRow : OpenClaim := { program := "ytehnnaanpmceiaagreatdoor", sum := "100dba8dfce7d245a4d7021fe66bb400033a308e2590ee29aa865ff1bd0d3499", func := "demurrage/demurragelaw18.AccrueGrows", spec := "accrueGrows", inPlace := ["math/bits.Add64", "internal/reflectlite.TypeOf", "internal/reflectlite.ValueOf", "(internal/reflectlite.Value).Type", "(internal/reflectlite.Value).IsNil", "(internal/reflectlite.Value).Elem", "(internal/reflectlite.Value).Set"], unfollowed := true, recurses := true, named := ["math/bits.divideError", "math/bits.overflowError", "demurrage/civil.lengths", "demurrage/actual.errNone", "demurrage/actual.errTurns", "errors.errorType"], apart := false, laid := [("demurrage/civil.lengths", laid_demurrage_civil_lengths), ("errors.errorType", laid_errors_errorType), ("demurrage/actual.errNone", laid_demurrage_actual_errNone), ("demurrage/actual.errTurns", laid_demurrage_actual_errTurns)] }
def AccrueGrowsSaid : Prop := accrueGrowsRow.holds Tryz.pinned (OpenSpec.ofChange accrueGrowsSpec)

/-- ITS FALSE NEIGHBOUR: 'it returns false'. Refute it at one input. -/
def accrueGrowsWrong : ChangeSpec := { name := "accrueGrows", fn := fun _ => fun
  | [d] => { results := [.lit (.bool false)], args := [d] }
  | _ => none }
def AccrueGrowsWrongFalsely : Prop := accrueGrowsRow.holds Tryz.pinned (OpenSpec.ofChange accrueGrowsWrong)

/-- 'demurragelaw18.AccrueNear': WHATEVER THE INPUT: true; the input reads as it did. -/
def accrueNearSpec : ChangeSpec := { name := "accrueNear", fn := fun _ => fun
  | [d1, d2, d3] => { results := [.lit (.bool true)], args := [d1, d2, d3] }
  | _ => none }
def accrueNearRow : OpenClaim := { program := "ytehnnaanpmceiaagreatdoor", sum := "100dba8dfce7d245a4d7021fe66bb400033a308e2590ee29aa865ff1bd0d3499", func := "demurrage/demurragelaw18.AccrueNear", spec := "accrueNear", inPlace := ["math/bits.Add64", "internal/reflectlite.TypeOf", "internal/reflectlite.ValueOf", "(internal/reflectlite.Value).Type", "(internal/reflectlite.Value).IsNil", "(internal/reflectlite.Value).Elem", "(internal/reflectlite.Value).Set"], unfollowed := true, recurses := true, named := ["math/bits.divideError", "math/bits.overflowError", "demurrage/civil.lengths", "demurrage/actual.errNone", "demurrage/actual.errTurns", "errors.errorType"], apart := false, laid := [("demurrage/civil.lengths", laid_demurrage_civil_lengths), ("errors.errorType", laid_errors_errorType), ("demurrage/actual.errNone", laid_demurrage_actual_errNone), ("demurrage/actual.errTurns", laid_demurrage_actual_errTurns)] }
def AccrueNearSaid : Prop := accrueNearRow.holds Tryz.pinned (OpenSpec.ofChange accrueNearSpec)

/-- ITS FALSE NEIGHBOUR: 'it returns false'. Refute it at one input. -/
def accrueNearWrong : ChangeSpec := { name := "accrueNear", fn := fun _ => fun
  | [d1, d2, d3] => { results := [.lit (.bool false)], args := [d1, d2, d3] }
  | _ => none }
def AccrueNearWrongFalsely : Prop := accrueNearRow.holds Tryz.pinned (OpenSpec.ofChange accrueNearWrong)

/-- 'demurragelaw18.AccrueSplits': WHATEVER THE INPUT: true; the input reads as it did. -/
def accrueSplitsSpec : ChangeSpec := { name := "accrueSplits", fn := fun _ => fun
  | [d] => { results := [.lit (.bool true)], args := [d] }
  | _ => none }
def accrueSplitsRow : OpenClaim := { program := "ytehnnaanpmceiaagreatdoor", sum := "100dba8dfce7d245a4d7021fe66bb400033a308e2590ee29aa865ff1bd0d3499", func := "demurrage/demurragelaw18.AccrueSplits", spec := "accrueSplits", inPlace := ["math/bits.Add64", "internal/reflectlite.TypeOf", "internal/reflectlite.ValueOf", "(internal/reflectlite.Value).Type", "(internal/reflectlite.Value).IsNil", "(internal/reflectlite.Value).Elem", "(internal/reflectlite.Value).Set"], unfollowed := true, recurses := true, named := ["math/bits.divideError", "math/bits.overflowError", "demurrage/civil.lengths", "demurrage/actual.errNone", "demurrage/actual.errTurns", "errors.errorType"], apart := false, laid := [("demurrage/civil.lengths", laid_demurrage_civil_lengths), ("errors.errorType", laid_errors_errorType), ("demurrage/actual.errNone", laid_demurrage_actual_errNone), ("demurrage/actual.errTurns", laid_demurrage_actual_errTurns)] }
def AccrueSplitsSaid : Prop := accrueSplitsRow.holds Tryz.pinned (OpenSpec.ofChange accrueSplitsSpec)

/-- ITS FALSE NEIGHBOUR: 'it returns false'. Refute it at one input. -/
def accrueSplitsWrong : ChangeSpec := { name := "accrueSplits", fn := fun _ => fun
  | [d] => { results := [.lit (.bool false)], args := [d] }
  | _ => none }
def AccrueSplitsWrongFalsely : Prop := accrueSplitsRow.holds Tryz.pinned (OpenSpec.ofChange accrueSplitsWrong)

/-- 'demurragelaw18.AccrueWhole': WHATEVER THE INPUT: true; the input reads as it did. -/
def accrueWholeSpec : ChangeSpec := { name := "accrueWhole", fn := fun _ => fun
  | [d1, d2, d3] => { results := [.lit (.bool true)], args := [d1, d2, d3] }
  | _ => none }
def accrueWholeRow : OpenClaim := { program := "ytehnnaanpmceiaagreatdoor", sum := "100dba8dfce7d245a4d7021fe66bb400033a308e2590ee29aa865ff1bd0d3499", func := "demurrage/demurragelaw18.AccrueWhole", spec := "accrueWhole", inPlace := ["math/bits.Add64", "internal/reflectlite.TypeOf", "internal/reflectlite.ValueOf", "(internal/reflectlite.Value).Type", "(internal/reflectlite.Value).IsNil", "(internal/reflectlite.Value).Elem", "(internal/reflectlite.Value).Set"], unfollowed := true, recurses := true, named := ["math/bits.divideError", "math/bits.overflowError", "demurrage/civil.lengths", "demurrage/actual.errNone", "demurrage/actual.errTurns", "errors.errorType"], apart := false, laid := [("demurrage/civil.lengths", laid_demurrage_civil_lengths), ("errors.errorType", laid_errors_errorType), ("demurrage/actual.errNone", laid_demurrage_actual_errNone), ("demurrage/actual.errTurns", laid_demurrage_actual_errTurns)] }
def AccrueWholeSaid : Prop := accrueWholeRow.holds Tryz.pinned (OpenSpec.ofChange accrueWholeSpec)

/-- ITS FALSE NEIGHBOUR: 'it returns false'. Refute it at one input. -/
def accrueWholeWrong : ChangeSpec := { name := "accrueWhole", fn := fun _ => fun
  | [d1, d2, d3] => { results := [.lit (.bool false)], args := [d1, d2, d3] }
  | _ => none }
def AccrueWholeWrongFalsely : Prop := accrueWholeRow.holds Tryz.pinned (OpenSpec.ofChange accrueWholeWrong)

/-- 'demurragelaw15.TermsTells': WHATEVER THE INPUT: true; the input reads as it did. -/
def termsTellsSpec : ChangeSpec := { name := "termsTells", fn := fun _ => fun
  | [d1, d2, d3] => { results := [.lit (.bool true)], args := [d1, d2, d3] }
  | _ => none }
def termsTellsRow : OpenClaim := { program := "ytehnnaanpmceiaagreatdoor", sum := "100dba8dfce7d245a4d7021fe66bb400033a308e2590ee29aa865ff1bd0d3499", func := "demurrage/demurragelaw15.TermsTells", spec := "termsTells", inPlace := ["internal/reflectlite.TypeOf", "math/bits.Add64", "internal/reflectlite.ValueOf", "(internal/reflectlite.Value).Type", "(internal/reflectlite.Value).IsNil", "(internal/reflectlite.Value).Elem", "(internal/reflectlite.Value).Set"], unfollowed := true, recurses := true, named := ["demurrage/terms.names", "demurrage/terms.errTerms", "demurrage/civil.lengths", "demurrage/actual.errNone", "demurrage/actual.errTurns", "math/bits.divideError", "math/bits.overflowError", "errors.errorType", "demurrage/roll.names"], apart := false, laid := [("demurrage/civil.lengths", laid_demurrage_civil_lengths), ("errors.errorType", laid_errors_errorType), ("demurrage/actual.errNone", laid_demurrage_actual_errNone), ("demurrage/actual.errTurns", laid_demurrage_actual_errTurns), ("demurrage/roll.names", laid_demurrage_roll_names), ("demurrage/terms.names", laid_demurrage_terms_names), ("demurrage/terms.errTerms", laid_demurrage_terms_errTerms)] }
def TermsTellsSaid : Prop := termsTellsRow.holds Tryz.pinned (OpenSpec.ofChange termsTellsSpec)

/-- ITS FALSE NEIGHBOUR: 'it returns false'. Refute it at one input. -/
def termsTellsWrong : ChangeSpec := { name := "termsTells", fn := fun _ => fun
  | [d1, d2, d3] => { results := [.lit (.bool false)], args := [d1, d2, d3] }
  | _ => none }
def TermsTellsWrongFalsely : Prop := termsTellsRow.holds Tryz.pinned (OpenSpec.ofChange termsTellsWrong)

/-- 'demurragelaw15.TermsFree': WHATEVER THE INPUT: true; the input reads as it did. -/
def termsFreeSpec : ChangeSpec := { name := "termsFree", fn := fun _ => fun
  | [d] => { results := [.lit (.bool true)], args := [d] }
  | _ => none }
def termsFreeRow : OpenClaim := { program := "ytehnnaanpmceiaagreatdoor", sum := "100dba8dfce7d245a4d7021fe66bb400033a308e2590ee29aa865ff1bd0d3499", func := "demurrage/demurragelaw15.TermsFree", spec := "termsFree", inPlace := ["internal/reflectlite.TypeOf", "math/bits.Add64", "internal/reflectlite.ValueOf", "(internal/reflectlite.Value).Type", "(internal/reflectlite.Value).IsNil", "(internal/reflectlite.Value).Elem", "(internal/reflectlite.Value).Set"], unfollowed := true, recurses := true, named := ["demurrage/terms.names", "demurrage/terms.errTerms", "demurrage/civil.lengths", "demurrage/actual.errNone", "demurrage/actual.errTurns", "math/bits.divideError", "math/bits.overflowError", "errors.errorType", "demurrage/roll.names"], apart := false, laid := [("demurrage/civil.lengths", laid_demurrage_civil_lengths), ("errors.errorType", laid_errors_errorType), ("demurrage/actual.errNone", laid_demurrage_actual_errNone), ("demurrage/actual.errTurns", laid_demurrage_actual_errTurns), ("demurrage/roll.names", laid_demurrage_roll_names), ("demurrage/terms.names", laid_demurrage_terms_names), ("demurrage/terms.errTerms", laid_demurrage_terms_errTerms)] }
def TermsFreeSaid : Prop := termsFreeRow.holds Tryz.pinned (OpenSpec.ofChange termsFreeSpec)

/-- ITS FALSE NEIGHBOUR: 'it returns false'. Refute it at one input. -/
def termsFreeWrong : ChangeSpec := { name := "termsFree", fn := fun _ => fun
  | [d] => { results := [.lit (.bool false)], args := [d] }
  | _ => none }
def TermsFreeWrongFalsely : Prop := termsFreeRow.holds Tryz.pinned (OpenSpec.ofChange termsFreeWrong)

/-- 'demurragelaw15.TermsOrder': WHATEVER THE INPUT: true; the input reads as it did. -/
def termsOrderSpec : ChangeSpec := { name := "termsOrder", fn := fun _ => fun
  | [d] => { results := [.lit (.bool true)], args := [d] }
  | _ => none }
def termsOrderRow : OpenClaim := { program := "ytehnnaanpmceiaagreatdoor", sum := "100dba8dfce7d245a4d7021fe66bb400033a308e2590ee29aa865ff1bd0d3499", func := "demurrage/demurragelaw15.TermsOrder", spec := "termsOrder", inPlace := ["internal/reflectlite.TypeOf", "math/bits.Add64", "internal/reflectlite.ValueOf", "(internal/reflectlite.Value).Type", "(internal/reflectlite.Value).IsNil", "(internal/reflectlite.Value).Elem", "(internal/reflectlite.Value).Set"], unfollowed := true, recurses := true, named := ["demurrage/terms.names", "demurrage/terms.errTerms", "demurrage/civil.lengths", "demurrage/actual.errNone", "demurrage/actual.errTurns", "math/bits.divideError", "math/bits.overflowError", "errors.errorType", "demurrage/roll.names"], apart := false, laid := [("demurrage/civil.lengths", laid_demurrage_civil_lengths), ("errors.errorType", laid_errors_errorType), ("demurrage/actual.errNone", laid_demurrage_actual_errNone), ("demurrage/actual.errTurns", laid_demurrage_actual_errTurns), ("demurrage/roll.names", laid_demurrage_roll_names), ("demurrage/terms.names", laid_demurrage_terms_names), ("demurrage/terms.errTerms", laid_demurrage_terms_errTerms)] }
def TermsOrderSaid : Prop := termsOrderRow.holds Tryz.pinned (OpenSpec.ofChange termsOrderSpec)

/-- ITS FALSE NEIGHBOUR: 'it returns false'. Refute it at one input. -/
def termsOrderWrong : ChangeSpec := { name := "termsOrder", fn := fun _ => fun
  | [d] => { results := [.lit (.bool false)], args := [d] }
  | _ => none }
def TermsOrderWrongFalsely : Prop := termsOrderRow.holds Tryz.pinned (OpenSpec.ofChange termsOrderWrong)

/-- 'demurragelaw15.TermsBoth': WHATEVER THE INPUT: true; the input reads as it did. -/
def termsBothSpec : ChangeSpec := { name := "termsBoth", fn := fun _ => fun
  | [d1, d2] => { results := [.lit (.bool true)], args := [d1, d2] }
  | _ => none }
def termsBothRow : OpenClaim := { program := "ytehnnaanpmceiaagreatdoor", sum := "100dba8dfce7d245a4d7021fe66bb400033a308e2590ee29aa865ff1bd0d3499", func := "demurrage/demurragelaw15.TermsBoth", spec := "termsBoth", inPlace := ["internal/reflectlite.TypeOf", "math/bits.Add64", "internal/reflectlite.ValueOf", "(internal/reflectlite.Value).Type", "(internal/reflectlite.Value).IsNil", "(internal/reflectlite.Value).Elem", "(internal/reflectlite.Value).Set"], unfollowed := true, recurses := true, named := ["demurrage/terms.names", "demurrage/terms.errTerms", "demurrage/civil.lengths", "demurrage/actual.errNone", "demurrage/actual.errTurns", "math/bits.divideError", "math/bits.overflowError", "errors.errorType", "demurrage/roll.names"], apart := false, laid := [("demurrage/civil.lengths", laid_demurrage_civil_lengths), ("errors.errorType", laid_errors_errorType), ("demurrage/actual.errNone", laid_demurrage_actual_errNone), ("demurrage/actual.errTurns", laid_demurrage_actual_errTurns), ("demurrage/roll.names", laid_demurrage_roll_names), ("demurrage/terms.names", laid_demurrage_terms_names), ("demurrage/terms.errTerms", laid_demurrage_terms_errTerms)] }
def TermsBothSaid : Prop := termsBothRow.holds Tryz.pinned (OpenSpec.ofChange termsBothSpec)

/-- ITS FALSE NEIGHBOUR: 'it returns false'. Refute it at one input. -/
def termsBothWrong : ChangeSpec := { name := "termsBoth", fn := fun _ => fun
  | [d1, d2] => { results := [.lit (.bool false)], args := [d1, d2] }
  | _ => none }
def TermsBothWrongFalsely : Prop := termsBothRow.holds Tryz.pinned (OpenSpec.ofChange termsBothWrong)

/-- 'demurragelaw15.TermsNames': WHATEVER THE INPUT: true; the input reads as it did. -/
def termsNamesSpec : ChangeSpec := { name := "termsNames", fn := fun _ => fun
  | [d1, d2] => { results := [.lit (.bool true)], args := [d1, d2] }
  | _ => none }
def termsNamesRow : OpenClaim := { program := "ytehnnaanpmceiaagreatdoor", sum := "100dba8dfce7d245a4d7021fe66bb400033a308e2590ee29aa865ff1bd0d3499", func := "demurrage/demurragelaw15.TermsNames", spec := "termsNames", inPlace := ["internal/reflectlite.TypeOf", "math/bits.Add64", "internal/reflectlite.ValueOf", "(internal/reflectlite.Value).Type", "(internal/reflectlite.Value).IsNil", "(internal/reflectlite.Value).Elem", "(internal/reflectlite.Value).Set"], unfollowed := true, recurses := true, named := ["demurrage/terms.names", "demurrage/terms.errTerms", "demurrage/civil.lengths", "demurrage/actual.errNone", "demurrage/actual.errTurns", "math/bits.divideError", "math/bits.overflowError", "errors.errorType", "demurrage/roll.names"], apart := false, laid := [("demurrage/civil.lengths", laid_demurrage_civil_lengths), ("errors.errorType", laid_errors_errorType), ("demurrage/actual.errNone", laid_demurrage_actual_errNone), ("demurrage/actual.errTurns", laid_demurrage_actual_errTurns), ("demurrage/roll.names", laid_demurrage_roll_names), ("demurrage/terms.names", laid_demurrage_terms_names), ("demurrage/terms.errTerms", laid_demurrage_terms_errTerms)] }
def TermsNamesSaid : Prop := termsNamesRow.holds Tryz.pinned (OpenSpec.ofChange termsNamesSpec)

/-- ITS FALSE NEIGHBOUR: 'it returns false'. Refute it at one input. -/
def termsNamesWrong : ChangeSpec := { name := "termsNames", fn := fun _ => fun
  | [d1, d2] => { results := [.lit (.bool false)], args := [d1, d2] }
  | _ => none }
def TermsNamesWrongFalsely : Prop := termsNamesRow.holds Tryz.pinned (OpenSpec.ofChange termsNamesWrong)

/- THE SECOND FORM. 'bulk': how many values and letters a reading holds, each counted each time it is reached (what is shared counts as often as it is met; a slice's spare places count too). A statement '..UptoSaid' is the law's where the arguments, and the package variables that the reading takes, are together of bulk at most 1048576: NARROWER than '..Said'. Prove '..Said' where nothing that the law and all that it calls make is longer than what came in: it says more and counts as full. Else prove '..UptoSaid'. A law counts once. -/
mutual
def uptoBulk {H : Type} : DataW H → Nat
  | .lit (.string bytes) => bytes.length + 1
  | .lit _ => 1
  | .nil => 1
  | .ptr d => uptoBulk d + 1
  | .slice elems spare => uptoBulkAll elems + uptoBulkAll spare + 1
  | .agg parts => uptoBulkAll parts + 1
  | .iface _ d => uptoBulk d + 1
  | .map entries => uptoBulkEntries entries + 1
  | .held _ => 1
def uptoBulkAll {H : Type} : List (DataW H) → Nat
  | [] => 0
  | d :: r => uptoBulk d + uptoBulkAll r
def uptoBulkEntries {H : Type} : List (Lit × DataW H) → Nat
  | [] => 0
  | x :: r => uptoBulkEntry x + uptoBulkEntries r
def uptoBulkEntry {H : Type} : Lit × DataW H → Nat
  | (.string bytes, d) => bytes.length + uptoBulk d + 1
  | (_, d) => uptoBulk d + 1
 end
def uptoSmall : (H : Type) → List (DataW H) → Bool := fun _ ds => decide (uptoBulkAll ds ≤ 1048576)
def OpenSpec.upto (s : _root_.Go.ChangeSpec) : _root_.Go.OpenSpec := { _root_.Go.OpenSpec.ofChange s with cond := some uptoSmall }

/-- 'demurragelaw10.CountTells', WHERE WHAT IT READS IS OF BULK AT MOST 1048576: true; the input reads as it did. -/
def countTellsUptoRow : OpenClaim := { program := "ytehnnaanpmceiaagreatdoor", sum := "100dba8dfce7d245a4d7021fe66bb400033a308e2590ee29aa865ff1bd0d3499", func := "demurrage/demurragelaw10.CountTells", spec := "countTells", inPlace := ["internal/reflectlite.TypeOf", "math/bits.Add64", "internal/reflectlite.ValueOf", "(internal/reflectlite.Value).Type", "(internal/reflectlite.Value).IsNil", "(internal/reflectlite.Value).Elem", "(internal/reflectlite.Value).Set"], unfollowed := true, recurses := true, named := ["demurrage/civil.lengths", "demurrage/actual.errNone", "demurrage/actual.errTurns", "math/bits.divideError", "math/bits.overflowError", "errors.errorType"], apart := false, laid := [("demurrage/civil.lengths", laid_demurrage_civil_lengths), ("errors.errorType", laid_errors_errorType), ("demurrage/actual.errNone", laid_demurrage_actual_errNone), ("demurrage/actual.errTurns", laid_demurrage_actual_errTurns)], narrowed := true }
def CountTellsUptoSaid : Prop := countTellsUptoRow.holds Tryz.pinned (OpenSpec.upto countTellsSpec)

/-- 'demurragelaw10.CountNames', WHERE WHAT IT READS IS OF BULK AT MOST 1048576: true; the input reads as it did. -/
def countNamesUptoRow : OpenClaim := { program := "ytehnnaanpmceiaagreatdoor", sum := "100dba8dfce7d245a4d7021fe66bb400033a308e2590ee29aa865ff1bd0d3499", func := "demurrage/demurragelaw10.CountNames", spec := "countNames", inPlace := ["internal/reflectlite.TypeOf", "math/bits.Add64", "internal/reflectlite.ValueOf", "(internal/reflectlite.Value).Type", "(internal/reflectlite.Value).IsNil", "(internal/reflectlite.Value).Elem", "(internal/reflectlite.Value).Set"], unfollowed := true, recurses := true, named := ["demurrage/civil.lengths", "demurrage/actual.errNone", "demurrage/actual.errTurns", "math/bits.divideError", "math/bits.overflowError", "errors.errorType"], apart := false, laid := [("demurrage/civil.lengths", laid_demurrage_civil_lengths), ("errors.errorType", laid_errors_errorType), ("demurrage/actual.errNone", laid_demurrage_actual_errNone), ("demurrage/actual.errTurns", laid_demurrage_actual_errTurns)], narrowed := true }
def CountNamesUptoSaid : Prop := countNamesUptoRow.holds Tryz.pinned (OpenSpec.upto countNamesSpec)

/-- 'demurragelaw10.CountBeside', WHERE WHAT IT READS IS OF BULK AT MOST 1048576: true; the input reads as it did. -/
def countBesideUptoRow : OpenClaim := { program := "ytehnnaanpmceiaagreatdoor", sum := "100dba8dfce7d245a4d7021fe66bb400033a308e2590ee29aa865ff1bd0d3499", func := "demurrage/demurragelaw10.CountBeside", spec := "countBeside", inPlace := ["internal/reflectlite.TypeOf", "math/bits.Add64", "internal/reflectlite.ValueOf", "(internal/reflectlite.Value).Type", "(internal/reflectlite.Value).IsNil", "(internal/reflectlite.Value).Elem", "(internal/reflectlite.Value).Set"], unfollowed := true, recurses := true, named := ["demurrage/civil.lengths", "demurrage/actual.errNone", "demurrage/actual.errTurns", "math/bits.divideError", "math/bits.overflowError", "errors.errorType"], apart := false, laid := [("demurrage/civil.lengths", laid_demurrage_civil_lengths), ("errors.errorType", laid_errors_errorType), ("demurrage/actual.errNone", laid_demurrage_actual_errNone), ("demurrage/actual.errTurns", laid_demurrage_actual_errTurns)], narrowed := true }
def CountBesideUptoSaid : Prop := countBesideUptoRow.holds Tryz.pinned (OpenSpec.upto countBesideSpec)

/-- 'demurragelaw10.CountZero', WHERE WHAT IT READS IS OF BULK AT MOST 1048576: true; the input reads as it did. -/
def countZeroUptoRow : OpenClaim := { program := "ytehnnaanpmceiaagreatdoor", sum := "100dba8dfce7d245a4d7021fe66bb400033a308e2590ee29aa865ff1bd0d3499", func := "demurrage/demurragelaw10.CountZero", spec := "countZero", inPlace := ["internal/reflectlite.TypeOf", "math/bits.Add64", "internal/reflectlite.ValueOf", "(internal/reflectlite.Value).Type", "(internal/reflectlite.Value).IsNil", "(internal/reflectlite.Value).Elem", "(internal/reflectlite.Value).Set"], unfollowed := true, recurses := true, named := ["demurrage/civil.lengths", "demurrage/actual.errNone", "demurrage/actual.errTurns", "math/bits.divideError", "math/bits.overflowError", "errors.errorType"], apart := false, laid := [("demurrage/civil.lengths", laid_demurrage_civil_lengths), ("errors.errorType", laid_errors_errorType), ("demurrage/actual.errNone", laid_demurrage_actual_errNone), ("demurrage/actual.errTurns", laid_demurrage_actual_errTurns)], narrowed := true }
def CountZeroUptoSaid : Prop := countZeroUptoRow.holds Tryz.pinned (OpenSpec.upto countZeroSpec)

/-- 'demurragelaw10.CountAdds', WHERE WHAT IT READS IS OF BULK AT MOST 1048576: true; the input reads as it did. -/
def countAddsUptoRow : OpenClaim := { program := "ytehnnaanpmceiaagreatdoor", sum := "100dba8dfce7d245a4d7021fe66bb400033a308e2590ee29aa865ff1bd0d3499", func := "demurrage/demurragelaw10.CountAdds", spec := "countAdds", inPlace := ["internal/reflectlite.TypeOf", "math/bits.Add64", "internal/reflectlite.ValueOf", "(internal/reflectlite.Value).Type", "(internal/reflectlite.Value).IsNil", "(internal/reflectlite.Value).Elem", "(internal/reflectlite.Value).Set"], unfollowed := true, recurses := true, named := ["demurrage/civil.lengths", "demurrage/actual.errNone", "demurrage/actual.errTurns", "math/bits.divideError", "math/bits.overflowError", "errors.errorType"], apart := false, laid := [("demurrage/civil.lengths", laid_demurrage_civil_lengths), ("errors.errorType", laid_errors_errorType), ("demurrage/actual.errNone", laid_demurrage_actual_errNone), ("demurrage/actual.errTurns", laid_demurrage_actual_errTurns)], narrowed := true }
def CountAddsUptoSaid : Prop := countAddsUptoRow.holds Tryz.pinned (OpenSpec.upto countAddsSpec)

/-- 'demurragelaw10.CountRight', WHERE WHAT IT READS IS OF BULK AT MOST 1048576: true; the input reads as it did. -/
def countRightUptoRow : OpenClaim := { program := "ytehnnaanpmceiaagreatdoor", sum := "100dba8dfce7d245a4d7021fe66bb400033a308e2590ee29aa865ff1bd0d3499", func := "demurrage/demurragelaw10.CountRight", spec := "countRight", inPlace := ["internal/reflectlite.TypeOf", "math/bits.Add64", "internal/reflectlite.ValueOf", "(internal/reflectlite.Value).Type", "(internal/reflectlite.Value).IsNil", "(internal/reflectlite.Value).Elem", "(internal/reflectlite.Value).Set"], unfollowed := true, recurses := true, named := ["demurrage/civil.lengths", "demurrage/actual.errNone", "demurrage/actual.errTurns", "math/bits.divideError", "math/bits.overflowError", "errors.errorType"], apart := false, laid := [("demurrage/civil.lengths", laid_demurrage_civil_lengths), ("errors.errorType", laid_errors_errorType), ("demurrage/actual.errNone", laid_demurrage_actual_errNone), ("demurrage/actual.errTurns", laid_demurrage_actual_errTurns)], narrowed := true }
def CountRightUptoSaid : Prop := countRightUptoRow.holds Tryz.pinned (OpenSpec.upto countRightSpec)

/-- 'demurragelaw18.AccrueTells', WHERE WHAT IT READS IS OF BULK AT MOST 1048576: true; the input reads as it did. -/
def accrueTellsUptoRow : OpenClaim := { program := "ytehnnaanpmceiaagreatdoor", sum := "100dba8dfce7d245a4d7021fe66bb400033a308e2590ee29aa865ff1bd0d3499", func := "demurrage/demurragelaw18.AccrueTells", spec := "accrueTells", inPlace := ["math/bits.Add64", "internal/reflectlite.TypeOf", "internal/reflectlite.ValueOf", "(internal/reflectlite.Value).Type", "(internal/reflectlite.Value).IsNil", "(internal/reflectlite.Value).Elem", "(internal/reflectlite.Value).Set"], unfollowed := true, recurses := true, named := ["math/bits.divideError", "math/bits.overflowError", "demurrage/civil.lengths", "demurrage/actual.errNone", "demurrage/actual.errTurns", "errors.errorType"], apart := false, laid := [("demurrage/civil.lengths", laid_demurrage_civil_lengths), ("errors.errorType", laid_errors_errorType), ("demurrage/actual.errNone", laid_demurrage_actual_errNone), ("demurrage/actual.errTurns", laid_demurrage_actual_errTurns)], narrowed := true }
def AccrueTellsUptoSaid : Prop := accrueTellsUptoRow.holds Tryz.pinned (OpenSpec.upto accrueTellsSpec)

/-- 'demurragelaw18.AccrueGrows', WHERE WHAT IT READS IS OF BULK AT MOST 1048576: true; the input reads as it did. -/
def accrueGrowsUptoRow : OpenClaim := { program := "ytehnnaanpmceiaagreatdoor", sum := "100dba8dfce7d245a4d7021fe66bb400033a308e2590ee29aa865ff1bd0d3499", func := "demurrage/demurragelaw18.AccrueGrows", spec := "accrueGrows", inPlace := ["math/bits.Add64", "internal/reflectlite.TypeOf", "internal/reflectlite.ValueOf", "(internal/reflectlite.Value).Type", "(internal/reflectlite.Value).IsNil", "(internal/reflectlite.Value).Elem", "(internal/reflectlite.Value).Set"], unfollowed := true, recurses := true, named := ["math/bits.divideError", "math/bits.overflowError", "demurrage/civil.lengths", "demurrage/actual.errNone", "demurrage/actual.errTurns", "errors.errorType"], apart := false, laid := [("demurrage/civil.lengths", laid_demurrage_civil_lengths), ("errors.errorType", laid_errors_errorType), ("demurrage/actual.errNone", laid_demurrage_actual_errNone), ("demurrage/actual.errTurns", laid_demurrage_actual_errTurns)], narrowed := true }
def AccrueGrowsUptoSaid : Prop := accrueGrowsUptoRow.holds Tryz.pinned (OpenSpec.upto accrueGrowsSpec)

/-- 'demurragelaw18.AccrueNear', WHERE WHAT IT READS IS OF BULK AT MOST 1048576: true; the input reads as it did. -/
def accrueNearUptoRow : OpenClaim := { program := "ytehnnaanpmceiaagreatdoor", sum := "100dba8dfce7d245a4d7021fe66bb400033a308e2590ee29aa865ff1bd0d3499", func := "demurrage/demurragelaw18.AccrueNear", spec := "accrueNear", inPlace := ["math/bits.Add64", "internal/reflectlite.TypeOf", "internal/reflectlite.ValueOf", "(internal/reflectlite.Value).Type", "(internal/reflectlite.Value).IsNil", "(internal/reflectlite.Value).Elem", "(internal/reflectlite.Value).Set"], unfollowed := true, recurses := true, named := ["math/bits.divideError", "math/bits.overflowError", "demurrage/civil.lengths", "demurrage/actual.errNone", "demurrage/actual.errTurns", "errors.errorType"], apart := false, laid := [("demurrage/civil.lengths", laid_demurrage_civil_lengths), ("errors.errorType", laid_errors_errorType), ("demurrage/actual.errNone", laid_demurrage_actual_errNone), ("demurrage/actual.errTurns", laid_demurrage_actual_errTurns)], narrowed := true }
def AccrueNearUptoSaid : Prop := accrueNearUptoRow.holds Tryz.pinned (OpenSpec.upto accrueNearSpec)

/-- 'demurragelaw18.AccrueSplits', WHERE WHAT IT READS IS OF BULK AT MOST 1048576: true; the input reads as it did. -/
def accrueSplitsUptoRow : OpenClaim := { program := "ytehnnaanpmceiaagreatdoor", sum := "100dba8dfce7d245a4d7021fe66bb400033a308e2590ee29aa865ff1bd0d3499", func := "demurrage/demurragelaw18.AccrueSplits", spec := "accrueSplits", inPlace := ["math/bits.Add64", "internal/reflectlite.TypeOf", "internal/reflectlite.ValueOf", "(internal/reflectlite.Value).Type", "(internal/reflectlite.Value).IsNil", "(internal/reflectlite.Value).Elem", "(internal/reflectlite.Value).Set"], unfollowed := true, recurses := true, named := ["math/bits.divideError", "math/bits.overflowError", "demurrage/civil.lengths", "demurrage/actual.errNone", "demurrage/actual.errTurns", "errors.errorType"], apart := false, laid := [("demurrage/civil.lengths", laid_demurrage_civil_lengths), ("errors.errorType", laid_errors_errorType), ("demurrage/actual.errNone", laid_demurrage_actual_errNone), ("demurrage/actual.errTurns", laid_demurrage_actual_errTurns)], narrowed := true }
def AccrueSplitsUptoSaid : Prop := accrueSplitsUptoRow.holds Tryz.pinned (OpenSpec.upto accrueSplitsSpec)

/-- 'demurragelaw18.AccrueWhole', WHERE WHAT IT READS IS OF BULK AT MOST 1048576: true; the input reads as it did. -/
def accrueWholeUptoRow : OpenClaim := { program := "ytehnnaanpmceiaagreatdoor", sum := "100dba8dfce7d245a4d7021fe66bb400033a308e2590ee29aa865ff1bd0d3499", func := "demurrage/demurragelaw18.AccrueWhole", spec := "accrueWhole", inPlace := ["math/bits.Add64", "internal/reflectlite.TypeOf", "internal/reflectlite.ValueOf", "(internal/reflectlite.Value).Type", "(internal/reflectlite.Value).IsNil", "(internal/reflectlite.Value).Elem", "(internal/reflectlite.Value).Set"], unfollowed := true, recurses := true, named := ["math/bits.divideError", "math/bits.overflowError", "demurrage/civil.lengths", "demurrage/actual.errNone", "demurrage/actual.errTurns", "errors.errorType"], apart := false, laid := [("demurrage/civil.lengths", laid_demurrage_civil_lengths), ("errors.errorType", laid_errors_errorType), ("demurrage/actual.errNone", laid_demurrage_actual_errNone), ("demurrage/actual.errTurns", laid_demurrage_actual_errTurns)], narrowed := true }
def AccrueWholeUptoSaid : Prop := accrueWholeUptoRow.holds Tryz.pinned (OpenSpec.upto accrueWholeSpec)

/-- 'demurragelaw15.TermsTells', WHERE WHAT IT READS IS OF BULK AT MOST 1048576: true; the input reads as it did. -/
def termsTellsUptoRow : OpenClaim := { program := "ytehnnaanpmceiaagreatdoor", sum := "100dba8dfce7d245a4d7021fe66bb400033a308e2590ee29aa865ff1bd0d3499", func := "demurrage/demurragelaw15.TermsTells", spec := "termsTells", inPlace := ["internal/reflectlite.TypeOf", "math/bits.Add64", "internal/reflectlite.ValueOf", "(internal/reflectlite.Value).Type", "(internal/reflectlite.Value).IsNil", "(internal/reflectlite.Value).Elem", "(internal/reflectlite.Value).Set"], unfollowed := true, recurses := true, named := ["demurrage/terms.names", "demurrage/terms.errTerms", "demurrage/civil.lengths", "demurrage/actual.errNone", "demurrage/actual.errTurns", "math/bits.divideError", "math/bits.overflowError", "errors.errorType", "demurrage/roll.names"], apart := false, laid := [("demurrage/civil.lengths", laid_demurrage_civil_lengths), ("errors.errorType", laid_errors_errorType), ("demurrage/actual.errNone", laid_demurrage_actual_errNone), ("demurrage/actual.errTurns", laid_demurrage_actual_errTurns), ("demurrage/roll.names", laid_demurrage_roll_names), ("demurrage/terms.names", laid_demurrage_terms_names), ("demurrage/terms.errTerms", laid_demurrage_terms_errTerms)], narrowed := true }
def TermsTellsUptoSaid : Prop := termsTellsUptoRow.holds Tryz.pinned (OpenSpec.upto termsTellsSpec)

/-- 'demurragelaw15.TermsFree', WHERE WHAT IT READS IS OF BULK AT MOST 1048576: true; the input reads as it did. -/
def termsFreeUptoRow : OpenClaim := { program := "ytehnnaanpmceiaagreatdoor", sum := "100dba8dfce7d245a4d7021fe66bb400033a308e2590ee29aa865ff1bd0d3499", func := "demurrage/demurragelaw15.TermsFree", spec := "termsFree", inPlace := ["internal/reflectlite.TypeOf", "math/bits.Add64", "internal/reflectlite.ValueOf", "(internal/reflectlite.Value).Type", "(internal/reflectlite.Value).IsNil", "(internal/reflectlite.Value).Elem", "(internal/reflectlite.Value).Set"], unfollowed := true, recurses := true, named := ["demurrage/terms.names", "demurrage/terms.errTerms", "demurrage/civil.lengths", "demurrage/actual.errNone", "demurrage/actual.errTurns", "math/bits.divideError", "math/bits.overflowError", "errors.errorType", "demurrage/roll.names"], apart := false, laid := [("demurrage/civil.lengths", laid_demurrage_civil_lengths), ("errors.errorType", laid_errors_errorType), ("demurrage/actual.errNone", laid_demurrage_actual_errNone), ("demurrage/actual.errTurns", laid_demurrage_actual_errTurns), ("demurrage/roll.names", laid_demurrage_roll_names), ("demurrage/terms.names", laid_demurrage_terms_names), ("demurrage/terms.errTerms", laid_demurrage_terms_errTerms)], narrowed := true }
def TermsFreeUptoSaid : Prop := termsFreeUptoRow.holds Tryz.pinned (OpenSpec.upto termsFreeSpec)

/-- 'demurragelaw15.TermsOrder', WHERE WHAT IT READS IS OF BULK AT MOST 1048576: true; the input reads as it did. -/
def termsOrderUptoRow : OpenClaim := { program := "ytehnnaanpmceiaagreatdoor", sum := "100dba8dfce7d245a4d7021fe66bb400033a308e2590ee29aa865ff1bd0d3499", func := "demurrage/demurragelaw15.TermsOrder", spec := "termsOrder", inPlace := ["internal/reflectlite.TypeOf", "math/bits.Add64", "internal/reflectlite.ValueOf", "(internal/reflectlite.Value).Type", "(internal/reflectlite.Value).IsNil", "(internal/reflectlite.Value).Elem", "(internal/reflectlite.Value).Set"], unfollowed := true, recurses := true, named := ["demurrage/terms.names", "demurrage/terms.errTerms", "demurrage/civil.lengths", "demurrage/actual.errNone", "demurrage/actual.errTurns", "math/bits.divideError", "math/bits.overflowError", "errors.errorType", "demurrage/roll.names"], apart := false, laid := [("demurrage/civil.lengths", laid_demurrage_civil_lengths), ("errors.errorType", laid_errors_errorType), ("demurrage/actual.errNone", laid_demurrage_actual_errNone), ("demurrage/actual.errTurns", laid_demurrage_actual_errTurns), ("demurrage/roll.names", laid_demurrage_roll_names), ("demurrage/terms.names", laid_demurrage_terms_names), ("demurrage/terms.errTerms", laid_demurrage_terms_errTerms)], narrowed := true }
def TermsOrderUptoSaid : Prop := termsOrderUptoRow.holds Tryz.pinned (OpenSpec.upto termsOrderSpec)

/-- 'demurragelaw15.TermsBoth', WHERE WHAT IT READS IS OF BULK AT MOST 1048576: true; the input reads as it did. -/
def termsBothUptoRow : OpenClaim := { program := "ytehnnaanpmceiaagreatdoor", sum := "100dba8dfce7d245a4d7021fe66bb400033a308e2590ee29aa865ff1bd0d3499", func := "demurrage/demurragelaw15.TermsBoth", spec := "termsBoth", inPlace := ["internal/reflectlite.TypeOf", "math/bits.Add64", "internal/reflectlite.ValueOf", "(internal/reflectlite.Value).Type", "(internal/reflectlite.Value).IsNil", "(internal/reflectlite.Value).Elem", "(internal/reflectlite.Value).Set"], unfollowed := true, recurses := true, named := ["demurrage/terms.names", "demurrage/terms.errTerms", "demurrage/civil.lengths", "demurrage/actual.errNone", "demurrage/actual.errTurns", "math/bits.divideError", "math/bits.overflowError", "errors.errorType", "demurrage/roll.names"], apart := false, laid := [("demurrage/civil.lengths", laid_demurrage_civil_lengths), ("errors.errorType", laid_errors_errorType), ("demurrage/actual.errNone", laid_demurrage_actual_errNone), ("demurrage/actual.errTurns", laid_demurrage_actual_errTurns), ("demurrage/roll.names", laid_demurrage_roll_names), ("demurrage/terms.names", laid_demurrage_terms_names), ("demurrage/terms.errTerms", laid_demurrage_terms_errTerms)], narrowed := true }
def TermsBothUptoSaid : Prop := termsBothUptoRow.holds Tryz.pinned (OpenSpec.upto termsBothSpec)

/-- 'demurragelaw15.TermsNames', WHERE WHAT IT READS IS OF BULK AT MOST 1048576: true; the input reads as it did. -/
def termsNamesUptoRow : OpenClaim := { program := "ytehnnaanpmceiaagreatdoor", sum := "100dba8dfce7d245a4d7021fe66bb400033a308e2590ee29aa865ff1bd0d3499", func := "demurrage/demurragelaw15.TermsNames", spec := "termsNames", inPlace := ["internal/reflectlite.TypeOf", "math/bits.Add64", "internal/reflectlite.ValueOf", "(internal/reflectlite.Value).Type", "(internal/reflectlite.Value).IsNil", "(internal/reflectlite.Value).Elem", "(internal/reflectlite.Value).Set"], unfollowed := true, recurses := true, named := ["demurrage/terms.names", "demurrage/terms.errTerms", "demurrage/civil.lengths", "demurrage/actual.errNone", "demurrage/actual.errTurns", "math/bits.divideError", "math/bits.overflowError", "errors.errorType", "demurrage/roll.names"], apart := false, laid := [("demurrage/civil.lengths", laid_demurrage_civil_lengths), ("errors.errorType", laid_errors_errorType), ("demurrage/actual.errNone", laid_demurrage_actual_errNone), ("demurrage/actual.errTurns", laid_demurrage_actual_errTurns), ("demurrage/roll.names", laid_demurrage_roll_names), ("demurrage/terms.names", laid_demurrage_terms_names), ("demurrage/terms.errTerms", laid_demurrage_terms_errTerms)], narrowed := true }
def TermsNamesUptoSaid : Prop := termsNamesUptoRow.holds Tryz.pinned (OpenSpec.upto termsNamesSpec)

end Rows
end Go.Proofs.YtehnnaanpmceiaaGreatDoor
