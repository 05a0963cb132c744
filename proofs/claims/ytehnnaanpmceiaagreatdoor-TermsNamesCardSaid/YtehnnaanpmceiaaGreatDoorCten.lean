/-
  TermsNames: the row and its card: for every input the law answers true and its arguments read as before.
-/
import Derived.Test.YtehnnaanpmceiaaGreatDoorLifT
import Derived.Test.YtehnnaanpmceiaaGreatDoorLt
import Derived.Test.YtehnnaanpmceiaaGreatDoorCards
import Derived.Test.YtehnnaanpmceiaaGreatDoorTie
set_option linter.unusedVariables false
set_option linter.unusedSimpArgs false
set_option maxRecDepth 100000
namespace Go.Proofs.YtehnnaanpmceiaaGreatDoor.termsNames
open Go Go.Sx Go.Deep Go.ChangeShapes Go.WideShapes Go.ChangeAt Go.RowKit

theorem walk {H : Type} {enc : TypeId × Value → H} (E : EnvT) (W : World) (base : Nat) (args : Array Value) (ds : List (DataW H)) (p : List MemPlace) (hG : GOk (@GL (@envT E)) W) (hv : ∀ (j : Nat) t v, Tryz.f18.params[j]? = some t → args[j]? = some v → Value.okWide Tryz.prog W .any base t v) (hA : DataW.TrodAll enc Tryz.prog W 0 (fun _ => true) true Tryz.f18.params.toList args.toList ds p) :
    Calls Tryz.prog 18 args W fun e W' => Below W.heap.size W W' ∧ e = .returned (.bool true) := by
  rw [Tryz.params18] at hv hA
  obtain ⟨v0, v1, d0, d1, p0, p1, rfl, rfl, rfl, t0, t1⟩ := trodAll_two hA
  obtain ⟨a0, rfl, i0⟩ := val_int Tryz.underlying3 (hv 0 _ _ rfl rfl)
  obtain ⟨a1, rfl, i1⟩ := val_int Tryz.underlying3 (hv 1 _ _ rfl rfl)
  exact scall_true (θ := fun _ => ⟨none, 0, 0⟩) (args := [I a0, I a1]) (termsNames_ok) hp_nil hG

theorem contract (H : Type) (enc : TypeId × Value → H) (W : World) (base : Nat) (args : Array Value) (ds gs : List (DataW H)) (before : List MemPlace)
    (hval : ∀ (j : Nat) t v, Tryz.f18.params[j]? = some t → args[j]? = some v → Value.okWide Tryz.prog W .any base t v)
    (hW : DataW.Whole enc Tryz.prog Tryz.f18.params.toList Rows.termsNamesSpec.vars false W args.toList ds gs before) (hL : laidMetH Tryz.prog Rows.termsNamesRow.laid W) :
    Calls Tryz.prog 18 args W fun e W' => ∃ v, e = .returned v ∧ Rows.termsNamesSpec.post enc Tryz.prog Tryz.f18 false true false false W args v W' :=
  law_contractT (f := Tryz.f18) (b := 4) (by kernel_rfl) Tryz.underlying4 rfl (fun ds hl => by
    rw [Tryz.params18] at hl
    match ds, hl with
    | [x0, x1], _ => rfl) (by rw [Tryz.params18]; intro t ht; simp only [List.mem_cons, List.not_mem_nil, or_false] at ht; rcases ht with rfl | rfl <;> exact ⟨by kernel_rfl, of_decide_eq_true (by kernel_rfl)⟩) walk W base args ds gs before hval hW hL

theorem laid_met (os : Os) : laidMetH Tryz.prog Rows.termsNamesRow.laid ((laidWorldT os).forCall (fun _ _ => 0) ⟨#[], #[.int .i64 0, .int .i64 0], []⟩).memory :=
  laidMetH_of_parts (laidMet_of_run' 8 (by kernel_rfl) (by kernel_rfl)) (by kernel_rfl)
theorem reads (os : Os) {H : Type} (enc : TypeId × Value → H) : ∃ places, DataW.whole enc Tryz.prog ((laidWorldT os).forCall (fun _ _ => 0) ⟨#[], #[.int .i64 0, .int .i64 0], []⟩).memory Tryz.f18.params.toList Rows.termsNamesSpec.vars false #[Value.int .i64 0, Value.int .i64 0].toList 8 = some ([.lit (.int .i64 0), .lit (.int .i64 0)], [], places) :=
  ⟨[], by kernel_rfl⟩

theorem lifted (os : Os) (started : os.Started) (H : Type) (enc : TypeId × Value → H) (F : Stop.Interp) :
    ReturnsInHanded {} Tryz.checked os 18 .any ((OpenSpec.ofChange Rows.termsNamesSpec).preRow enc Tryz.prog Tryz.f18 Rows.termsNamesRow.domain false Rows.termsNamesRow.laid) (((OpenSpec.ofChange Rows.termsNamesSpec).at F).post enc Tryz.prog Tryz.f18 false true false false) := by
  obtain ⟨places, hx⟩ := reads os enc
  refine returnsInHanded_of_row (C := Tryz.checked) (s := OpenSpec.ofChange Rows.termsNamesSpec) own started (by kernel_rfl) Tryz.func18
    (witness_row_at (enc := enc) (C := Tryz.checked) false (laidWorldT os) #[.int .i64 0, .int .i64 0] rfl (by kernel_rfl) (by kernel_rfl) (by kernel_rfl)
      (OpenSpec.preRow_of_cond 8 hx (by kernel_rfl) (fun k hk => by cases hk) (by kernel_rfl) (laid_met os))) ?_
  intro W base args ds gs before hval hW _ _ _ hL _ _
  exact contract H enc W base args ds gs before hval hW hL

theorem j1 : (Rows.termsNamesRow.inPlace == Tryz.pinned.checked.prog.inPlace 18) = true := by kernel_rfl
theorem j2 : (Rows.termsNamesRow.unfollowed == Tryz.pinned.checked.prog.unfollowed 18) = true := by kernel_rfl
theorem j3 : (Rows.termsNamesRow.recurses == Tryz.pinned.checked.prog.recurses 18) = true := by kernel_rfl
theorem j4 : (Rows.termsNamesRow.named == Tryz.pinned.checked.prog.varsNamed 18) = true := by kernel_rfl
theorem j5 : (Rows.termsNamesRow.lifted == Tryz.pinned.checked.prog.liftsFinal) = true := fLifts
theorem facts : joinedFacts Tryz.pinned.checked.prog 18 Tryz.f18 (OpenSpec.ofChange Rows.termsNamesSpec).bare Rows.termsNamesRow = true := by
  unfold joinedFacts
  rw [j1, j2, j3, j4, j5, fMay, fHeard, fMaps, fOut]
  kernel_rfl
theorem funcNo : Tryz.pinned.checked.prog.funcNamed Rows.termsNamesRow.func = some 18 := by kernel_rfl
theorem goes : false = Rows.termsNamesRow.goesBy Tryz.pinned.checked.prog := by kernel_rfl
theorem words : OpenClaim.wfByText (OpenSpec.ofChange Rows.termsNamesSpec) Rows.termsNamesRow = true := by kernel_rfl

theorem said : Rows.TermsNamesSaid :=
  OpenClaim.holds_of_cond 18 Tryz.f18 rfl rfl rfl rfl rfl rfl rfl ⟨rfl, rfl, rfl, rfl, rfl⟩ rfl rfl rfl rfl rfl funcNo Tryz.func18 facts
    (of_decide_eq_true (by kernel_rfl)) (by unfold Func.isWrapper; first | (rw [if_pos (by decide +kernel)]; kernel_rfl) | (rw [if_neg (by decide +kernel)]; exact ⟨rfl, rfl⟩))
    (fun os started H enc _ F => by rw [OpenClaim.pre_eq_preRow]; exact lifted os started H enc F)

theorem plain (f : FuncId) (fn : Func) (hf : Tryz.pinned.checked.prog.funcNamed "demurrage/demurragelaw15.TermsNames" = some f) (hfn : Tryz.pinned.checked.prog.funcs[f]? = some fn) :
    true = Tryz.pinned.checked.prog.looks [] ∧ ∀ (j : Nat) t, fn.params[j]? = some t → Tryz.pinned.checked.prog.wantsStandIn t = false := by
  obtain rfl : f = 18 := Option.some.inj ((show Tryz.prog.funcNamed "demurrage/demurragelaw15.TermsNames" = some 18 by kernel_rfl).symm.trans hf) |>.symm
  obtain rfl : fn = Tryz.f18 := (Option.some.inj (Tryz.func18.symm.trans hfn)).symm
  refine ⟨fLooks, fun j t ht => ?_⟩
  rw [Tryz.params18] at ht
  have hm := Array.mem_of_getElem? ht
  simp only [List.mem_toArray, List.mem_cons, List.not_mem_nil, or_false] at hm
  have s0 : Tryz.prog.wantsStandIn 3 = false := (by kernel_rfl); have s1 : Tryz.prog.wantsStandIn 3 = false := (by kernel_rfl); rcases hm with rfl | rfl
  · exact s0
  · exact s1

theorem card : Rows.TermsNamesCardSaid :=
  Claim7.holds_tied_plain_at .later [] _ _ _ _ said (fun _ h => by cases h) words (fun _ h => by cases h) termsNames_row_tie rfl ⟨rfl, rfl⟩ mainIs rfl plain goes
end Go.Proofs.YtehnnaanpmceiaaGreatDoor.termsNames

#print axioms Go.Proofs.YtehnnaanpmceiaaGreatDoor.termsNames.card
