/-
  AccrueSplits: the row and its card: for every input the law answers true and its arguments read as before.
-/
import Derived.Test.YtehnnaanpmceiaaGreatDoorLif2
import Derived.Test.YtehnnaanpmceiaaGreatDoorAc3
import Derived.Test.YtehnnaanpmceiaaGreatDoorCards
import Derived.Test.YtehnnaanpmceiaaGreatDoorTie
set_option linter.unusedVariables false
set_option linter.unusedSimpArgs false
set_option maxRecDepth 100000
namespace Go.Proofs.YtehnnaanpmceiaaGreatDoor.accrueSplits
open Go Go.Sx Go.Deep Go.ChangeShapes Go.WideShapes Go.ChangeAt Go.RowKit

theorem walk {H : Type} {enc : TypeId × Value → H} (E : Env) (W : World) (base : Nat) (args : Array Value) (ds : List (DataW H)) (p : List MemPlace) (hG : GOk (@GL E) W) (hv : ∀ (j : Nat) t v, Tryz.f12.params[j]? = some t → args[j]? = some v → Value.okWide Tryz.prog W .any base t v) (hA : DataW.TrodAll enc Tryz.prog W 0 (fun _ => true) true Tryz.f12.params.toList args.toList ds p) :
    Calls Tryz.prog 12 args W fun e W' => Below W.heap.size W W' ∧ e = .returned (.bool true) := by
  rw [Tryz.params12] at hv hA
  obtain ⟨v0, d0, rfl, rfl, t0⟩ := trodAll_one hA
  obtain ⟨cs0, rfl, hl0, h0⟩ := open_cells Tryz.underlying81 (ts := [71, 71, 72, 3, 3, 3, 3]) (by kernel_rfl) (by kernel_rfl) (hv 0 _ _ rfl rfl)
  obtain ⟨c0_0, c0_1, c0_2, c0_3, c0_4, c0_5, c0_6, rfl⟩ : ∃ c0_0 c0_1 c0_2 c0_3 c0_4 c0_5 c0_6, cs0 = [c0_0, c0_1, c0_2, c0_3, c0_4, c0_5, c0_6] := by
    match cs0, hl0 with
    | [c0_0, c0_1, c0_2, c0_3, c0_4, c0_5, c0_6], _ => exact ⟨c0_0, c0_1, c0_2, c0_3, c0_4, c0_5, c0_6, rfl⟩
  obtain ⟨m0, tr0⟩ := t0
  obtain ⟨a0, rfl, i0⟩ := cell_int Tryz.underlying71 (h0 0 _ _ rfl rfl)
  obtain ⟨a1, rfl, i1⟩ := cell_int Tryz.underlying71 (h0 1 _ _ rfl rfl)
  obtain ⟨a2, rfl, i2⟩ := cell_int Tryz.underlying72 (h0 2 _ _ rfl rfl)
  obtain ⟨a3, rfl, i3⟩ := cell_int Tryz.underlying3 (h0 3 _ _ rfl rfl)
  obtain ⟨a4, rfl, i4⟩ := cell_int Tryz.underlying3 (h0 4 _ _ rfl rfl)
  obtain ⟨a5, rfl, i5⟩ := cell_int Tryz.underlying3 (h0 5 _ _ rfl rfl)
  obtain ⟨a6, rfl, i6⟩ := cell_int Tryz.underlying3 (h0 6 _ _ rfl rfl)
  exact scall_true (θ := fun _ => ⟨none, 0, 0⟩) (args := [.agg [N .u64 a0, N .u64 a1, N .u16 a2, I a3, I a4, I a5, I a6]]) (accrueSplits_ok i0 i1 i2) hp_nil hG

theorem contract (H : Type) (enc : TypeId × Value → H) (W : World) (base : Nat) (args : Array Value) (ds gs : List (DataW H)) (before : List MemPlace)
    (hval : ∀ (j : Nat) t v, Tryz.f12.params[j]? = some t → args[j]? = some v → Value.okWide Tryz.prog W .any base t v)
    (hW : DataW.Whole enc Tryz.prog Tryz.f12.params.toList Rows.accrueSplitsSpec.vars false W args.toList ds gs before) (hL : laidMetH Tryz.prog Rows.accrueSplitsRow.laid W) :
    Calls Tryz.prog 12 args W fun e W' => ∃ v, e = .returned v ∧ Rows.accrueSplitsSpec.post enc Tryz.prog Tryz.f12 false true false false W args v W' :=
  law_contract (f := Tryz.f12) (b := 4) (by kernel_rfl) Tryz.underlying4 rfl (fun ds hl => by
    rw [Tryz.params12] at hl
    match ds, hl with
    | [x0], _ => rfl) (by rw [Tryz.params12]; intro t ht; simp only [List.mem_cons, List.not_mem_nil, or_false] at ht; subst ht; exact ⟨by kernel_rfl, of_decide_eq_true (by kernel_rfl)⟩) walk W base args ds gs before hval hW hL

theorem laid_met (os : Os) : laidMetH Tryz.prog Rows.accrueSplitsRow.laid ((laidWorld os).forCall (fun _ _ => 0) ⟨#[], #[.agg #[.int .u64 0, .int .u64 0, .int .u16 0, .int .i64 0, .int .i64 0, .int .i64 0, .int .i64 0]], []⟩).memory :=
  laidMetH_of_parts (laidMet_of_run' 8 (by kernel_rfl) (by kernel_rfl)) (by kernel_rfl)
theorem reads (os : Os) {H : Type} (enc : TypeId × Value → H) : ∃ places, DataW.whole enc Tryz.prog ((laidWorld os).forCall (fun _ _ => 0) ⟨#[], #[.agg #[.int .u64 0, .int .u64 0, .int .u16 0, .int .i64 0, .int .i64 0, .int .i64 0, .int .i64 0]], []⟩).memory Tryz.f12.params.toList Rows.accrueSplitsSpec.vars false #[Value.agg #[.int .u64 0, .int .u64 0, .int .u16 0, .int .i64 0, .int .i64 0, .int .i64 0, .int .i64 0]].toList 8 = some ([.agg [.lit (.int .u64 0), .lit (.int .u64 0), .lit (.int .u16 0), .agg [.lit (.int .i64 0), .lit (.int .i64 0)], .agg [.lit (.int .i64 0), .lit (.int .i64 0)]]], [], places) :=
  ⟨[], by kernel_rfl⟩

theorem lifted (os : Os) (started : os.Started) (H : Type) (enc : TypeId × Value → H) (F : Stop.Interp) :
    ReturnsInHanded {} Tryz.checked os 12 .any ((OpenSpec.ofChange Rows.accrueSplitsSpec).preRow enc Tryz.prog Tryz.f12 Rows.accrueSplitsRow.domain false Rows.accrueSplitsRow.laid) (((OpenSpec.ofChange Rows.accrueSplitsSpec).at F).post enc Tryz.prog Tryz.f12 false true false false) := by
  obtain ⟨places, hx⟩ := reads os enc
  refine returnsInHanded_of_row (C := Tryz.checked) (s := OpenSpec.ofChange Rows.accrueSplitsSpec) own started (by kernel_rfl) Tryz.func12
    (witness_row_at (enc := enc) (C := Tryz.checked) false (laidWorld os) #[.agg #[.int .u64 0, .int .u64 0, .int .u16 0, .int .i64 0, .int .i64 0, .int .i64 0, .int .i64 0]] rfl (by kernel_rfl) (by kernel_rfl) (by kernel_rfl)
      (OpenSpec.preRow_of_cond 8 hx (by kernel_rfl) (fun k hk => by cases hk) (by kernel_rfl) (laid_met os))) ?_
  intro W base args ds gs before hval hW _ _ _ hL _ _
  exact contract H enc W base args ds gs before hval hW hL

theorem j1 : (Rows.accrueSplitsRow.inPlace == Tryz.pinned.checked.prog.inPlace 12) = true := by kernel_rfl
theorem j2 : (Rows.accrueSplitsRow.unfollowed == Tryz.pinned.checked.prog.unfollowed 12) = true := by kernel_rfl
theorem j3 : (Rows.accrueSplitsRow.recurses == Tryz.pinned.checked.prog.recurses 12) = true := by kernel_rfl
theorem j4 : (Rows.accrueSplitsRow.named == Tryz.pinned.checked.prog.varsNamed 12) = true := by kernel_rfl
theorem j5 : (Rows.accrueSplitsRow.lifted == Tryz.pinned.checked.prog.liftsFinal) = true := fLifts
theorem facts : joinedFacts Tryz.pinned.checked.prog 12 Tryz.f12 (OpenSpec.ofChange Rows.accrueSplitsSpec).bare Rows.accrueSplitsRow = true := by
  unfold joinedFacts
  rw [j1, j2, j3, j4, j5, fMay, fHeard, fMaps, fOut]
  kernel_rfl
theorem funcNo : Tryz.pinned.checked.prog.funcNamed Rows.accrueSplitsRow.func = some 12 := by kernel_rfl
theorem goes : false = Rows.accrueSplitsRow.goesBy Tryz.pinned.checked.prog := by kernel_rfl
theorem words : OpenClaim.wfByText (OpenSpec.ofChange Rows.accrueSplitsSpec) Rows.accrueSplitsRow = true := by kernel_rfl

theorem said : Rows.AccrueSplitsSaid :=
  OpenClaim.holds_of_cond 12 Tryz.f12 rfl rfl rfl rfl rfl rfl rfl ⟨rfl, rfl, rfl, rfl, rfl⟩ rfl rfl rfl rfl rfl funcNo Tryz.func12 facts
    (of_decide_eq_true (by kernel_rfl)) (by unfold Func.isWrapper; first | (rw [if_pos (by decide +kernel)]; kernel_rfl) | (rw [if_neg (by decide +kernel)]; exact ⟨rfl, rfl⟩))
    (fun os started H enc _ F => by rw [OpenClaim.pre_eq_preRow]; exact lifted os started H enc F)

theorem plain (f : FuncId) (fn : Func) (hf : Tryz.pinned.checked.prog.funcNamed "demurrage/demurragelaw18.AccrueSplits" = some f) (hfn : Tryz.pinned.checked.prog.funcs[f]? = some fn) :
    true = Tryz.pinned.checked.prog.looks [] ∧ ∀ (j : Nat) t, fn.params[j]? = some t → Tryz.pinned.checked.prog.wantsStandIn t = false := by
  obtain rfl : f = 12 := Option.some.inj ((show Tryz.prog.funcNamed "demurrage/demurragelaw18.AccrueSplits" = some 12 by kernel_rfl).symm.trans hf) |>.symm
  obtain rfl : fn = Tryz.f12 := (Option.some.inj (Tryz.func12.symm.trans hfn)).symm
  refine ⟨fLooks, fun j t ht => ?_⟩
  rw [Tryz.params12] at ht
  have hm := Array.mem_of_getElem? ht
  simp only [List.mem_toArray, List.mem_cons, List.not_mem_nil, or_false] at hm
  have s0 : Tryz.prog.wantsStandIn 81 = false := (by kernel_rfl); subst hm
  exact s0

theorem card : Rows.AccrueSplitsCardSaid :=
  Claim7.holds_tied_plain_at .later [] _ _ _ _ said (fun _ h => by cases h) words (fun _ h => by cases h) accrueSplits_row_tie rfl ⟨rfl, rfl⟩ mainIs rfl plain goes
end Go.Proofs.YtehnnaanpmceiaaGreatDoor.accrueSplits

#print axioms Go.Proofs.YtehnnaanpmceiaaGreatDoor.accrueSplits.card
