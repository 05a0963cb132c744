/-
  NARROWER THAN 'FOR EVERY INPUT', by the rows' own cells (each row's printed sentence says how): IcmaTells: laid · IcmaAdds: laid · IcmaWhole: laid · IcmaSplit: laid · IcmaScales: laid.
  DERIVED. THE GIVEN ROWS OF THIS SEAT. 5 by the template 'for every input the law returns true; each argument reads behind the call as it read before'; 0 by the template 'total and deterministic' (their statements: YtigjggkendgjeaaDoorTotals.lean).
  GIVEN WITH THE SEED: the statements are not yours to turn. If you find one false, say at which input.
  Laid BY PROGRAM, IN A SANDBOX (cutbox-rows.mjs): the forced cells as the released guide's own fill.sh prints them over the translation 9253576182f13efc… (all of the seat's roots in one cut). By AI agents, Wed Nov 11 2026. No macro, syntax, notation, axiom, sorry.
-/
import Derived.Test.YtigjggkendgjeaaDoorChecked
import GoSem.Claim
import GoSem.ClaimJoined
import GoSem.ClaimMapViews
import Derived.JoinedTies
import Derived.KernelRfl
namespace Go.Proofs.YtigjggkendgjeaaDoor
/- THE CELL 'sum', in the pinned program and in every row, IS THE sha256 OF THE DUMP (.gsa) THAT YtigjggkendgjeaaDoorProg.lean LOADS. Nothing in Lean hashes anything: it is a label: what it is worth is what the hold of that sum in a sandbox is worth. -/
noncomputable def Tryd.pinned : Pinned := { name := "ytigjggkendgjeaadoor", sum := "9253576182f13efcad8bc2608fe556a90b3c46dabbcc051b46747e31b6d80262", checked := Tryd.checked }
namespace Rows
def none {H : Type} : Left H := { results := [], args := [] }

/- WHAT THE LISTED PACKAGE-LEVEL VARIABLES READ AS WHEN THE CALL BEGINS. Each datum BY PROGRAM (the guide's laid-datum.mjs) off the statement by which the dump's own 'gosem.cut.vars' lays the variable. In a bare row this is a premise. The card (YtigjggkendgjeaaDoorCards.lean) ties it to the program's text. -/
def laid_demurrage_civil_lengths {H : Type} : DataW H := .agg [.lit (.int .i64 0), .lit (.int .i64 31), .lit (.int .i64 28), .lit (.int .i64 31), .lit (.int .i64 30), .lit (.int .i64 31), .lit (.int .i64 30), .lit (.int .i64 31), .lit (.int .i64 31), .lit (.int .i64 30), .lit (.int .i64 31), .lit (.int .i64 30), .lit (.int .i64 31)]
def laid_errors_errorType {H : Type} : DataW H := .iface "internal/reflectlite.rtype" (.agg [.ptr (.lit (.string [101, 114, 114, 111, 114]))])

/-- 'demurragelaw09.IcmaTells': WHATEVER THE INPUT: true; the input reads as it did. -/
def icmaTellsSpec : ChangeSpec := { name := "icmaTells", fn := fun _ => fun
  | [d] => { results := [.lit (.bool true)], args := [d] }
  | _ => none }
def icmaTellsRow : OpenClaim := { program := "ytigjggkendgjeaadoor", sum := "9253576182f13efcad8bc2608fe556a90b3c46dabbcc051b46747e31b6d80262", func := "demurrage/demurragelaw09.IcmaTells", spec := "icmaTells", inPlace := ["math/bits.Add64", "internal/reflectlite.ValueOf", "(internal/reflectlite.Value).Type", "(internal/reflectlite.Value).IsNil", "internal/reflectlite.TypeOf", "(internal/reflectlite.Value).Elem", "(internal/reflectlite.Value).Set"], unfollowed := true, recurses := true, named := ["demurrage/civil.lengths", "math/bits.divideError", "math/bits.overflowError", "errors.errorType"], apart := false, laid := [("demurrage/civil.lengths", laid_demurrage_civil_lengths), ("errors.errorType", laid_errors_errorType)] }
def IcmaTellsSaid : Prop := icmaTellsRow.holds Tryd.pinned (OpenSpec.ofChange icmaTellsSpec)

/-- ITS FALSE NEIGHBOUR: 'it returns false'. Refute it at one input. -/
def icmaTellsWrong : ChangeSpec := { name := "icmaTells", fn := fun _ => fun
  | [d] => { results := [.lit (.bool false)], args := [d] }
  | _ => none }
def IcmaTellsWrongFalsely : Prop := icmaTellsRow.holds Tryd.pinned (OpenSpec.ofChange icmaTellsWrong)

/-- 'demurragelaw09.IcmaAdds': WHATEVER THE INPUT: true; the input reads as it did. -/
def icmaAddsSpec : ChangeSpec := { name := "icmaAdds", fn := fun _ => fun
  | [d] => { results := [.lit (.bool true)], args := [d] }
  | _ => none }
def icmaAddsRow : OpenClaim := { program := "ytigjggkendgjeaadoor", sum := "9253576182f13efcad8bc2608fe556a90b3c46dabbcc051b46747e31b6d80262", func := "demurrage/demurragelaw09.IcmaAdds", spec := "icmaAdds", inPlace := ["math/bits.Add64", "internal/reflectlite.ValueOf", "(internal/reflectlite.Value).Type", "(internal/reflectlite.Value).IsNil", "internal/reflectlite.TypeOf", "(internal/reflectlite.Value).Elem", "(internal/reflectlite.Value).Set"], unfollowed := true, recurses := true, named := ["demurrage/civil.lengths", "math/bits.divideError", "math/bits.overflowError", "errors.errorType"], apart := false, laid := [("demurrage/civil.lengths", laid_demurrage_civil_lengths), ("errors.errorType", laid_errors_errorType)] }
def IcmaAddsSaid : Prop := icmaAddsRow.holds Tryd.pinned (OpenSpec.ofChange icmaAddsSpec)

/-- ITS FALSE NEIGHBOUR: 'it returns false'. Refute it at one input. -/
def icmaAddsWrong : ChangeSpec := { name := "icmaAdds", fn := fun _ => fun
  | [d] => { results := [.lit (.bool false)], args := [d] }
  | _ => none }
def IcmaAddsWrongFalsely : Prop := icmaAddsRow.holds Tryd.pinned (OpenSpec.ofChange icmaAddsWrong)

/-- 'demurragelaw09.IcmaWhole': WHATEVER THE INPUT: true; the input reads as it did. -/
def icmaWholeSpec : ChangeSpec := { name := "icmaWhole", fn := fun _ => fun
  | [d] => { results := [.lit (.bool true)], args := [d] }
  | _ => none }
def icmaWholeRow : OpenClaim := { program := "ytigjggkendgjeaadoor", sum := "9253576182f13efcad8bc2608fe556a90b3c46dabbcc051b46747e31b6d80262", func := "demurrage/demurragelaw09.IcmaWhole", spec := "icmaWhole", inPlace := ["math/bits.Add64", "internal/reflectlite.ValueOf", "(internal/reflectlite.Value).Type", "(internal/reflectlite.Value).IsNil", "internal/reflectlite.TypeOf", "(internal/reflectlite.Value).Elem", "(internal/reflectlite.Value).Set"], unfollowed := true, recurses := true, named := ["demurrage/civil.lengths", "math/bits.divideError", "math/bits.overflowError", "errors.errorType"], apart := false, laid := [("demurrage/civil.lengths", laid_demurrage_civil_lengths), ("errors.errorType", laid_errors_errorType)] }
def IcmaWholeSaid : Prop := icmaWholeRow.holds Tryd.pinned (OpenSpec.ofChange icmaWholeSpec)

/-- ITS FALSE NEIGHBOUR: 'it returns false'. Refute it at one input. -/
def icmaWholeWrong : ChangeSpec := { name := "icmaWhole", fn := fun _ => fun
  | [d] => { results := [.lit (.bool false)], args := [d] }
  | _ => none }
def IcmaWholeWrongFalsely : Prop := icmaWholeRow.holds Tryd.pinned (OpenSpec.ofChange icmaWholeWrong)

/-- 'demurragelaw09.IcmaSplit': WHATEVER THE INPUT: true; the input reads as it did. -/
def icmaSplitSpec : ChangeSpec := { name := "icmaSplit", fn := fun _ => fun
  | [d] => { results := [.lit (.bool true)], args := [d] }
  | _ => none }
def icmaSplitRow : OpenClaim := { program := "ytigjggkendgjeaadoor", sum := "9253576182f13efcad8bc2608fe556a90b3c46dabbcc051b46747e31b6d80262", func := "demurrage/demurragelaw09.IcmaSplit", spec := "icmaSplit", inPlace := ["math/bits.Add64", "internal/reflectlite.ValueOf", "(internal/reflectlite.Value).Type", "(internal/reflectlite.Value).IsNil", "internal/reflectlite.TypeOf", "(internal/reflectlite.Value).Elem", "(internal/reflectlite.Value).Set"], unfollowed := true, recurses := true, named := ["demurrage/civil.lengths", "math/bits.divideError", "math/bits.overflowError", "errors.errorType"], apart := false, laid := [("demurrage/civil.lengths", laid_demurrage_civil_lengths), ("errors.errorType", laid_errors_errorType)] }
def IcmaSplitSaid : Prop := icmaSplitRow.holds Tryd.pinned (OpenSpec.ofChange icmaSplitSpec)

/-- ITS FALSE NEIGHBOUR: 'it returns false'. Refute it at one input. -/
def icmaSplitWrong : ChangeSpec := { name := "icmaSplit", fn := fun _ => fun
  | [d] => { results := [.lit (.bool false)], args := [d] }
  | _ => none }
def IcmaSplitWrongFalsely : Prop := icmaSplitRow.holds Tryd.pinned (OpenSpec.ofChange icmaSplitWrong)

/-- 'demurragelaw09.IcmaScales': WHATEVER THE INPUT: true; the input reads as it did. -/
def icmaScalesSpec : ChangeSpec := { name := "icmaScales", fn := fun _ => fun
  | [d] => { results := [.lit (.bool true)], args := [d] }
  | _ => none }
def icmaScalesRow : OpenClaim := { program := "ytigjggkendgjeaadoor", sum := "9253576182f13efcad8bc2608fe556a90b3c46dabbcc051b46747e31b6d80262", func := "demurrage/demurragelaw09.IcmaScales", spec := "icmaScales", inPlace := ["math/bits.Add64", "internal/reflectlite.ValueOf", "(internal/reflectlite.Value).Type", "(internal/reflectlite.Value).IsNil", "internal/reflectlite.TypeOf", "(internal/reflectlite.Value).Elem", "(internal/reflectlite.Value).Set"], unfollowed := true, recurses := true, named := ["demurrage/civil.lengths", "math/bits.divideError", "math/bits.overflowError", "errors.errorType"], apart := false, laid := [("demurrage/civil.lengths", laid_demurrage_civil_lengths), ("errors.errorType", laid_errors_errorType)] }
def IcmaScalesSaid : Prop := icmaScalesRow.holds Tryd.pinned (OpenSpec.ofChange icmaScalesSpec)

/-- ITS FALSE NEIGHBOUR: 'it returns false'. Refute it at one input. -/
def icmaScalesWrong : ChangeSpec := { name := "icmaScales", fn := fun _ => fun
  | [d] => { results := [.lit (.bool false)], args := [d] }
  | _ => none }
def IcmaScalesWrongFalsely : Prop := icmaScalesRow.holds Tryd.pinned (OpenSpec.ofChange icmaScalesWrong)

/- THE SECOND FORM. 'bulk': how many values and letters a reading holds, each counted each time it is reached (what is shared counts as often as it is met; a slice's spare places count too). A statement '..UptoSaid' is the law's where the arguments, and the package variables that the reading takes, are together of bulk at most 1048576: NARROWER than '..Said'. Prove '..Said' where nothing that the law and all that it calls make is longer than what came in: it says more and counts as full. Else prove '..UptoSaid'. A law counts once. -/
mutual
def uptoBulk {H : Type} : DataW H → Nat
  | .lit (.string bytes) => bytes.length + 1
  | .lit _ => 1
  | .nil => 1
  | .ptr d => uptoBulk d + 1
  | .slice elems spare => uptoBulkAll elems + uptoBulkAll spare + 1
  | .agg parts => uptoBulkAll parts + 1
  | .iface _ d => uptoBulk d + 1
  | .map entries => uptoBulkEntries entries + 1
  | .held _ => 1
def uptoBulkAll {H : Type} : List (DataW H) → Nat
  | [] => 0
  | d :: r => uptoBulk d + uptoBulkAll r
def uptoBulkEntries {H : Type} : List (Lit × DataW H) → Nat
  | [] => 0
  | x :: r => uptoBulkEntry x + uptoBulkEntries r
def uptoBulkEntry {H : Type} : Lit × DataW H → Nat
  | (.string bytes, d) => bytes.length + uptoBulk d + 1
  | (_, d) => uptoBulk d + 1
 end
def uptoSmall : (H : Type) → List (DataW H) → Bool := fun _ ds => decide (uptoBulkAll ds ≤ 1048576)
def OpenSpec.upto (s : _root_.Go.ChangeSpec) : _root_.Go.OpenSpec := { _root_.Go.OpenSpec.ofChange s with cond := some uptoSmall }

/-- 'demurragelaw09.IcmaTells', WHERE WHAT IT READS IS OF BULK AT MOST 1048576: true; the input reads as it did. -/
def icmaTellsUptoRow : OpenClaim := { program := "ytigjggkendgjeaadoor", sum := "9253576182f13efcad8bc2608fe556a90b3c46dabbcc051b46747e31b6d80262", func := "demurrage/demurragelaw09.IcmaTells", spec := "icmaTells", inPlace := ["math/bits.Add64", "internal/reflectlite.ValueOf", "(internal/reflectlite.Value).Type", "(internal/reflectlite.Value).IsNil", "internal/reflectlite.TypeOf", "(internal/reflectlite.Value).Elem", "(internal/reflectlite.Value).Set"], unfollowed := true, recurses := true, named := ["demurrage/civil.lengths", "math/bits.divideError", "math/bits.overflowError", "errors.errorType"], apart := false, laid := [("demurrage/civil.lengths", laid_demurrage_civil_lengths), ("errors.errorType", laid_errors_errorType)], narrowed := true }
def IcmaTellsUptoSaid : Prop := icmaTellsUptoRow.holds Tryd.pinned (OpenSpec.upto icmaTellsSpec)

/-- 'demurragelaw09.IcmaAdds', WHERE WHAT IT READS IS OF BULK AT MOST 1048576: true; the input reads as it did. -/
def icmaAddsUptoRow : OpenClaim := { program := "ytigjggkendgjeaadoor", sum := "9253576182f13efcad8bc2608fe556a90b3c46dabbcc051b46747e31b6d80262", func := "demurrage/demurragelaw09.IcmaAdds", spec := "icmaAdds", inPlace := ["math/bits.Add64", "internal/reflectlite.ValueOf", "(internal/reflectlite.Value).Type", "(internal/reflectlite.Value).IsNil", "internal/reflectlite.TypeOf", "(internal/reflectlite.Value).Elem", "(internal/reflectlite.Value).Set"], unfollowed := true, recurses := true, named := ["demurrage/civil.lengths", "math/bits.divideError", "math/bits.overflowError", "errors.errorType"], apart := false, laid := [("demurrage/civil.lengths", laid_demurrage_civil_lengths), ("errors.errorType", laid_errors_errorType)], narrowed := true }
def IcmaAddsUptoSaid : Prop := icmaAddsUptoRow.holds Tryd.pinned (OpenSpec.upto icmaAddsSpec)

/-- 'demurragelaw09.IcmaWhole', WHERE WHAT IT READS IS OF BULK AT MOST 1048576: true; the input reads as it did. -/
def icmaWholeUptoRow : OpenClaim := { program := "ytigjggkendgjeaadoor", sum := "9253576182f13efcad8bc2608fe556a90b3c46dabbcc051b46747e31b6d80262", func := "demurrage/demurragelaw09.IcmaWhole", spec := "icmaWhole", inPlace := ["math/bits.Add64", "internal/reflectlite.ValueOf", "(internal/reflectlite.Value).Type", "(internal/reflectlite.Value).IsNil", "internal/reflectlite.TypeOf", "(internal/reflectlite.Value).Elem", "(internal/reflectlite.Value).Set"], unfollowed := true, recurses := true, named := ["demurrage/civil.lengths", "math/bits.divideError", "math/bits.overflowError", "errors.errorType"], apart := false, laid := [("demurrage/civil.lengths", laid_demurrage_civil_lengths), ("errors.errorType", laid_errors_errorType)], narrowed := true }
def IcmaWholeUptoSaid : Prop := icmaWholeUptoRow.holds Tryd.pinned (OpenSpec.upto icmaWholeSpec)

/-- 'demurragelaw09.IcmaSplit', WHERE WHAT IT READS IS OF BULK AT MOST 1048576: true; the input reads as it did. -/
def icmaSplitUptoRow : OpenClaim := { program := "ytigjggkendgjeaadoor", sum := "9253576182f13efcad8bc2608fe556a90b3c46dabbcc051b46747e31b6d80262", func := "demurrage/demurragelaw09.IcmaSplit", spec := "icmaSplit", inPlace := ["math/bits.Add64", "internal/reflectlite.ValueOf", "(internal/reflectlite.Value).Type", "(internal/reflectlite.Value).IsNil", "internal/reflectlite.TypeOf", "(internal/reflectlite.Value).Elem", "(internal/reflectlite.Value).Set"], unfollowed := true, recurses := true, named := ["demurrage/civil.lengths", "math/bits.divideError", "math/bits.overflowError", "errors.errorType"], apart := false, laid := [("demurrage/civil.lengths", laid_demurrage_civil_lengths), ("errors.errorType", laid_errors_errorType)], narrowed := true }
def IcmaSplitUptoSaid : Prop := icmaSplitUptoRow.holds Tryd.pinned (OpenSpec.upto icmaSplitSpec)

/-- 'demurragelaw09.IcmaScales', WHERE WHAT IT READS IS OF BULK AT MOST 1048576: true; the input reads as it did. -/
def icmaScalesUptoRow : OpenClaim := { program := "ytigjggkendgjeaadoor", sum := "9253576182f13efcad8bc2608fe556a90b3c46dabbcc051b46747e31b6d80262", func := "demurrage/demurragelaw09.IcmaScales", spec := "icmaScales", inPlace := ["math/bits.Add64", "internal/reflectlite.ValueOf", "(internal/reflectlite.Value).Type", "(internal/reflectlite.Value).IsNil", "internal/reflectlite.TypeOf", "(internal/reflectlite.Value).Elem", "(internal/reflectlite.Value).Set"], unfollowed := true, recurses := true, named := ["demurrage/civil.lengths", "math/bits.divideError", "math/bits.overflowError", "errors.errorType"], apart := false, laid := [("demurrage/civil.lengths", laid_demurrage_civil_lengths), ("errors.errorType", laid_errors_errorType)], narrowed := true }
def IcmaScalesUptoSaid : Prop := icmaScalesUptoRow.holds Tryd.pinned (OpenSpec.upto icmaScalesSpec)

end Rows
end Go.Proofs.YtigjggkendgjeaaDoor
