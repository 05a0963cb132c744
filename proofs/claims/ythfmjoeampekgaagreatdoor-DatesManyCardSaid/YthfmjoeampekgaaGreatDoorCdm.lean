/-
  DatesMany: the row and its card: for every input the law answers true and its arguments read as before.
-/
import Derived.Test.YthfmjoeampekgaaGreatDoorLifT
import Derived.Test.YthfmjoeampekgaaGreatDoorL16m
import Derived.Test.YthfmjoeampekgaaGreatDoorCards
import Derived.Test.YthfmjoeampekgaaGreatDoorTie
set_option linter.unusedVariables false
set_option linter.unusedSimpArgs false
set_option maxRecDepth 100000
namespace Go.Proofs.YthfmjoeampekgaaGreatDoor.datesMany
open Go Go.Sx Go.Deep Go.ChangeShapes Go.WideShapes Go.ChangeAt Go.RowKit

theorem walk {H : Type} {enc : TypeId × Value → H} (E : EnvT) (W : World) (base : Nat) (args : Array Value) (ds : List (DataW H)) (p : List MemPlace) (hG : GOk (@GL (@envT E)) W) (hv : ∀ (j : Nat) t v, Tryz.f7.params[j]? = some t → args[j]? = some v → Value.okWide Tryz.prog W .any base t v) (hA : DataW.TrodAll enc Tryz.prog W 0 (fun _ => true) true Tryz.f7.params.toList args.toList ds p) :
    Calls Tryz.prog 7 args W fun e W' => Below W.heap.size W W' ∧ e = .returned (.bool true) := by
  rw [Tryz.params7] at hv hA
  obtain ⟨v0, d0, rfl, rfl, t0⟩ := trodAll_one hA
  obtain ⟨cs0, rfl, hl0, h0⟩ := open_cells Tryz.underlying38 (ts := [3, 5, 5, 4]) (by kernel_rfl) (by kernel_rfl) (hv 0 _ _ rfl rfl)
  obtain ⟨c0_0, c0_1, c0_2, c0_3, rfl⟩ : ∃ c0_0 c0_1 c0_2 c0_3, cs0 = [c0_0, c0_1, c0_2, c0_3] := by
    match cs0, hl0 with
    | [c0_0, c0_1, c0_2, c0_3], _ => exact ⟨c0_0, c0_1, c0_2, c0_3, rfl⟩
  obtain ⟨m0, tr0⟩ := t0
  obtain ⟨a0, rfl, i0⟩ := cell_int Tryz.underlying3 (h0 0 _ _ rfl rfl)
  obtain ⟨a1, rfl, i1⟩ := cell_int Tryz.underlying5 (h0 1 _ _ rfl rfl)
  obtain ⟨a2, rfl, i2⟩ := cell_int Tryz.underlying5 (h0 2 _ _ rfl rfl)
  obtain ⟨a3, rfl⟩ := cell_bool Tryz.underlying4 (h0 3 _ _ rfl rfl)
  exact scall_true (θ := fun _ => ⟨none, 0, 0⟩) (args := [.agg [I a0, N .u8 a1, N .u8 a2, B a3]]) (dMany i1 i2) hp_nil hG

theorem contract (H : Type) (enc : TypeId × Value → H) (W : World) (base : Nat) (args : Array Value) (ds gs : List (DataW H)) (before : List MemPlace)
    (hval : ∀ (j : Nat) t v, Tryz.f7.params[j]? = some t → args[j]? = some v → Value.okWide Tryz.prog W .any base t v)
    (hW : DataW.Whole enc Tryz.prog Tryz.f7.params.toList Rows.datesManySpec.vars false W args.toList ds gs before) (hL : laidMetH Tryz.prog Rows.datesManyRow.laid W) :
    Calls Tryz.prog 7 args W fun e W' => ∃ v, e = .returned v ∧ Rows.datesManySpec.post enc Tryz.prog Tryz.f7 false true false false W args v W' :=
  law_contractT (f := Tryz.f7) (b := 4) (by kernel_rfl) Tryz.underlying4 rfl (fun ds hl => by
    rw [Tryz.params7] at hl
    match ds, hl with
    | [x0], _ => rfl) (by rw [Tryz.params7]; intro t ht; simp only [List.mem_cons, List.not_mem_nil, or_false] at ht; subst ht; exact ⟨by kernel_rfl, of_decide_eq_true (by kernel_rfl)⟩) walk W base args ds gs before hval hW hL

theorem laid_met (os : Os) : laidMetH Tryz.prog Rows.datesManyRow.laid ((laidWorldT os).forCall (fun _ _ => 0) ⟨#[], #[.agg #[.int .i64 0, .int .u8 0, .int .u8 0, .bool false]], []⟩).memory :=
  laidMetH_of_parts (laidMet_of_run' 8 (by kernel_rfl) (by kernel_rfl)) (by kernel_rfl)
theorem reads (os : Os) {H : Type} (enc : TypeId × Value → H) : ∃ places, DataW.whole enc Tryz.prog ((laidWorldT os).forCall (fun _ _ => 0) ⟨#[], #[.agg #[.int .i64 0, .int .u8 0, .int .u8 0, .bool false]], []⟩).memory Tryz.f7.params.toList Rows.datesManySpec.vars false #[Value.agg #[.int .i64 0, .int .u8 0, .int .u8 0, .bool false]].toList 8 = some ([.agg [.lit (.int .i64 0), .lit (.int .u8 0), .lit (.int .u8 0), .lit (.bool false)]], [], places) :=
  ⟨[], by kernel_rfl⟩

theorem lifted (os : Os) (started : os.Started) (H : Type) (enc : TypeId × Value → H) (F : Stop.Interp) :
    ReturnsInHanded {} Tryz.checked os 7 .any ((OpenSpec.ofChange Rows.datesManySpec).preRow enc Tryz.prog Tryz.f7 Rows.datesManyRow.domain false Rows.datesManyRow.laid) (((OpenSpec.ofChange Rows.datesManySpec).at F).post enc Tryz.prog Tryz.f7 false true false false) := by
  obtain ⟨places, hx⟩ := reads os enc
  refine returnsInHanded_of_row (C := Tryz.checked) (s := OpenSpec.ofChange Rows.datesManySpec) own started (by kernel_rfl) Tryz.func7
    (witness_row_at (enc := enc) (C := Tryz.checked) false (laidWorldT os) #[.agg #[.int .i64 0, .int .u8 0, .int .u8 0, .bool false]] rfl (by kernel_rfl) (by kernel_rfl) (by kernel_rfl)
      (OpenSpec.preRow_of_cond 8 hx (by kernel_rfl) (fun k hk => by cases hk) (by kernel_rfl) (laid_met os))) ?_
  intro W base args ds gs before hval hW _ _ _ hL _ _
  exact contract H enc W base args ds gs before hval hW hL

theorem j1 : (Rows.datesManyRow.inPlace == Tryz.pinned.checked.prog.inPlace 7) = true := by kernel_rfl
theorem j2 : (Rows.datesManyRow.unfollowed == Tryz.pinned.checked.prog.unfollowed 7) = true := by kernel_rfl
theorem j3 : (Rows.datesManyRow.recurses == Tryz.pinned.checked.prog.recurses 7) = true := by kernel_rfl
theorem j4 : (Rows.datesManyRow.named == Tryz.pinned.checked.prog.varsNamed 7) = true := by kernel_rfl
theorem j5 : (Rows.datesManyRow.lifted == Tryz.pinned.checked.prog.liftsFinal) = true := fLifts
theorem facts : joinedFacts Tryz.pinned.checked.prog 7 Tryz.f7 (OpenSpec.ofChange Rows.datesManySpec).bare Rows.datesManyRow = true := by
  unfold joinedFacts
  rw [j1, j2, j3, j4, j5, fMay, fHeard, fMaps, fOut]
  kernel_rfl
theorem funcNo : Tryz.pinned.checked.prog.funcNamed Rows.datesManyRow.func = some 7 := by kernel_rfl
theorem goes : false = Rows.datesManyRow.goesBy Tryz.pinned.checked.prog := by kernel_rfl
theorem words : OpenClaim.wfByText (OpenSpec.ofChange Rows.datesManySpec) Rows.datesManyRow = true := by kernel_rfl

theorem said : Rows.DatesManySaid :=
  OpenClaim.holds_of_cond 7 Tryz.f7 rfl rfl rfl rfl rfl rfl rfl ⟨rfl, rfl, rfl, rfl, rfl⟩ rfl rfl rfl rfl rfl funcNo Tryz.func7 facts
    (of_decide_eq_true (by kernel_rfl)) (by unfold Func.isWrapper; first | (rw [if_pos (by decide +kernel)]; kernel_rfl) | (rw [if_neg (by decide +kernel)]; exact ⟨rfl, rfl⟩))
    (fun os started H enc _ F => by rw [OpenClaim.pre_eq_preRow]; exact lifted os started H enc F)

theorem plain (f : FuncId) (fn : Func) (hf : Tryz.pinned.checked.prog.funcNamed "demurrage/demurragelaw16.DatesMany" = some f) (hfn : Tryz.pinned.checked.prog.funcs[f]? = some fn) :
    true = Tryz.pinned.checked.prog.looks [] ∧ ∀ (j : Nat) t, fn.params[j]? = some t → Tryz.pinned.checked.prog.wantsStandIn t = false := by
  obtain rfl : f = 7 := Option.some.inj ((show Tryz.prog.funcNamed "demurrage/demurragelaw16.DatesMany" = some 7 by kernel_rfl).symm.trans hf) |>.symm
  obtain rfl : fn = Tryz.f7 := (Option.some.inj (Tryz.func7.symm.trans hfn)).symm
  refine ⟨fLooks, fun j t ht => ?_⟩
  rw [Tryz.params7] at ht
  have hm := Array.mem_of_getElem? ht
  simp only [List.mem_toArray, List.mem_cons, List.not_mem_nil, or_false] at hm
  have s0 : Tryz.prog.wantsStandIn 38 = false := (by kernel_rfl); subst hm
  exact s0

theorem card : Rows.DatesManyCardSaid :=
  Claim7.holds_tied_plain_at .later [] _ _ _ _ said (fun _ h => by cases h) words (fun _ h => by cases h) datesMany_row_tie rfl ⟨rfl, rfl⟩ mainIs rfl plain goes
end Go.Proofs.YthfmjoeampekgaaGreatDoor.datesMany

#print axioms Go.Proofs.YthfmjoeampekgaaGreatDoor.datesMany.card
