/-
  TermsOrder: the row and its card: for every input the law answers true and its arguments read as before.
-/
import Derived.Test.YtehnnaanpmceiaaGreatDoorLifT
import Derived.Test.YtehnnaanpmceiaaGreatDoorLt
import Derived.Test.YtehnnaanpmceiaaGreatDoorCards
import Derived.Test.YtehnnaanpmceiaaGreatDoorTie
set_option linter.unusedVariables false
set_option linter.unusedSimpArgs false
set_option maxRecDepth 100000
namespace Go.Proofs.YtehnnaanpmceiaaGreatDoor.termsOrder
open Go Go.Sx Go.Deep Go.ChangeShapes Go.WideShapes Go.ChangeAt Go.RowKit

theorem walk {H : Type} {enc : TypeId × Value → H} (E : EnvT) (W : World) (base : Nat) (args : Array Value) (ds : List (DataW H)) (p : List MemPlace) (hG : GOk (@GL (@envT E)) W) (hv : ∀ (j : Nat) t v, Tryz.f16.params[j]? = some t → args[j]? = some v → Value.okWide Tryz.prog W .any base t v) (hA : DataW.TrodAll enc Tryz.prog W 0 (fun _ => true) true Tryz.f16.params.toList args.toList ds p) :
    Calls Tryz.prog 16 args W fun e W' => Below W.heap.size W W' ∧ e = .returned (.bool true) := by
  rw [Tryz.params16] at hv hA
  obtain ⟨v0, d0, rfl, rfl, t0⟩ := trodAll_one hA
  obtain ⟨cs0, rfl, hl0, h0⟩ := open_cells Tryz.underlying92 (ts := [4, 4, 4, 4, 5]) (by kernel_rfl) (by kernel_rfl) (hv 0 _ _ rfl rfl)
  obtain ⟨c0_0, c0_1, c0_2, c0_3, c0_4, rfl⟩ : ∃ c0_0 c0_1 c0_2 c0_3 c0_4, cs0 = [c0_0, c0_1, c0_2, c0_3, c0_4] := by
    match cs0, hl0 with
    | [c0_0, c0_1, c0_2, c0_3, c0_4], _ => exact ⟨c0_0, c0_1, c0_2, c0_3, c0_4, rfl⟩
  obtain ⟨m0, tr0⟩ := t0
  obtain ⟨a0, rfl⟩ := cell_bool Tryz.underlying4 (h0 0 _ _ rfl rfl)
  obtain ⟨a1, rfl⟩ := cell_bool Tryz.underlying4 (h0 1 _ _ rfl rfl)
  obtain ⟨a2, rfl⟩ := cell_bool Tryz.underlying4 (h0 2 _ _ rfl rfl)
  obtain ⟨a3, rfl⟩ := cell_bool Tryz.underlying4 (h0 3 _ _ rfl rfl)
  obtain ⟨a4, rfl, i4⟩ := cell_int Tryz.underlying5 (h0 4 _ _ rfl rfl)
  exact scall_true (θ := fun _ => ⟨none, 0, 0⟩) (args := [.agg [B a0, B a1, B a2, B a3, N .u8 a4]]) (termsOrder_ok i4) hp_nil hG

theorem contract (H : Type) (enc : TypeId × Value → H) (W : World) (base : Nat) (args : Array Value) (ds gs : List (DataW H)) (before : List MemPlace)
    (hval : ∀ (j : Nat) t v, Tryz.f16.params[j]? = some t → args[j]? = some v → Value.okWide Tryz.prog W .any base t v)
    (hW : DataW.Whole enc Tryz.prog Tryz.f16.params.toList Rows.termsOrderSpec.vars false W args.toList ds gs before) (hL : laidMetH Tryz.prog Rows.termsOrderRow.laid W) :
    Calls Tryz.prog 16 args W fun e W' => ∃ v, e = .returned v ∧ Rows.termsOrderSpec.post enc Tryz.prog Tryz.f16 false true false false W args v W' :=
  law_contractT (f := Tryz.f16) (b := 4) (by kernel_rfl) Tryz.underlying4 rfl (fun ds hl => by
    rw [Tryz.params16] at hl
    match ds, hl with
    | [x0], _ => rfl) (by rw [Tryz.params16]; intro t ht; simp only [List.mem_cons, List.not_mem_nil, or_false] at ht; subst ht; exact ⟨by kernel_rfl, of_decide_eq_true (by kernel_rfl)⟩) walk W base args ds gs before hval hW hL

theorem laid_met (os : Os) : laidMetH Tryz.prog Rows.termsOrderRow.laid ((laidWorldT os).forCall (fun _ _ => 0) ⟨#[], #[.agg #[.bool false, .bool false, .bool false, .bool false, .int .u8 0]], []⟩).memory :=
  laidMetH_of_parts (laidMet_of_run' 8 (by kernel_rfl) (by kernel_rfl)) (by kernel_rfl)
theorem reads (os : Os) {H : Type} (enc : TypeId × Value → H) : ∃ places, DataW.whole enc Tryz.prog ((laidWorldT os).forCall (fun _ _ => 0) ⟨#[], #[.agg #[.bool false, .bool false, .bool false, .bool false, .int .u8 0]], []⟩).memory Tryz.f16.params.toList Rows.termsOrderSpec.vars false #[Value.agg #[.bool false, .bool false, .bool false, .bool false, .int .u8 0]].toList 8 = some ([.agg [.lit (.bool false), .lit (.bool false), .lit (.bool false), .lit (.bool false), .lit (.int .u8 0)]], [], places) :=
  ⟨[], by kernel_rfl⟩

theorem lifted (os : Os) (started : os.Started) (H : Type) (enc : TypeId × Value → H) (F : Stop.Interp) :
    ReturnsInHanded {} Tryz.checked os 16 .any ((OpenSpec.ofChange Rows.termsOrderSpec).preRow enc Tryz.prog Tryz.f16 Rows.termsOrderRow.domain false Rows.termsOrderRow.laid) (((OpenSpec.ofChange Rows.termsOrderSpec).at F).post enc Tryz.prog Tryz.f16 false true false false) := by
  obtain ⟨places, hx⟩ := reads os enc
  refine returnsInHanded_of_row (C := Tryz.checked) (s := OpenSpec.ofChange Rows.termsOrderSpec) own started (by kernel_rfl) Tryz.func16
    (witness_row_at (enc := enc) (C := Tryz.checked) false (laidWorldT os) #[.agg #[.bool false, .bool false, .bool false, .bool false, .int .u8 0]] rfl (by kernel_rfl) (by kernel_rfl) (by kernel_rfl)
      (OpenSpec.preRow_of_cond 8 hx (by kernel_rfl) (fun k hk => by cases hk) (by kernel_rfl) (laid_met os))) ?_
  intro W base args ds gs before hval hW _ _ _ hL _ _
  exact contract H enc W base args ds gs before hval hW hL

theorem j1 : (Rows.termsOrderRow.inPlace == Tryz.pinned.checked.prog.inPlace 16) = true := by kernel_rfl
theorem j2 : (Rows.termsOrderRow.unfollowed == Tryz.pinned.checked.prog.unfollowed 16) = true := by kernel_rfl
theorem j3 : (Rows.termsOrderRow.recurses == Tryz.pinned.checked.prog.recurses 16) = true := by kernel_rfl
theorem j4 : (Rows.termsOrderRow.named == Tryz.pinned.checked.prog.varsNamed 16) = true := by kernel_rfl
theorem j5 : (Rows.termsOrderRow.lifted == Tryz.pinned.checked.prog.liftsFinal) = true := fLifts
theorem facts : joinedFacts Tryz.pinned.checked.prog 16 Tryz.f16 (OpenSpec.ofChange Rows.termsOrderSpec).bare Rows.termsOrderRow = true := by
  unfold joinedFacts
  rw [j1, j2, j3, j4, j5, fMay, fHeard, fMaps, fOut]
  kernel_rfl
theorem funcNo : Tryz.pinned.checked.prog.funcNamed Rows.termsOrderRow.func = some 16 := by kernel_rfl
theorem goes : false = Rows.termsOrderRow.goesBy Tryz.pinned.checked.prog := by kernel_rfl
theorem words : OpenClaim.wfByText (OpenSpec.ofChange Rows.termsOrderSpec) Rows.termsOrderRow = true := by kernel_rfl

theorem said : Rows.TermsOrderSaid :=
  OpenClaim.holds_of_cond 16 Tryz.f16 rfl rfl rfl rfl rfl rfl rfl ⟨rfl, rfl, rfl, rfl, rfl⟩ rfl rfl rfl rfl rfl funcNo Tryz.func16 facts
    (of_decide_eq_true (by kernel_rfl)) (by unfold Func.isWrapper; first | (rw [if_pos (by decide +kernel)]; kernel_rfl) | (rw [if_neg (by decide +kernel)]; exact ⟨rfl, rfl⟩))
    (fun os started H enc _ F => by rw [OpenClaim.pre_eq_preRow]; exact lifted os started H enc F)

theorem plain (f : FuncId) (fn : Func) (hf : Tryz.pinned.checked.prog.funcNamed "demurrage/demurragelaw15.TermsOrder" = some f) (hfn : Tryz.pinned.checked.prog.funcs[f]? = some fn) :
    true = Tryz.pinned.checked.prog.looks [] ∧ ∀ (j : Nat) t, fn.params[j]? = some t → Tryz.pinned.checked.prog.wantsStandIn t = false := by
  obtain rfl : f = 16 := Option.some.inj ((show Tryz.prog.funcNamed "demurrage/demurragelaw15.TermsOrder" = some 16 by kernel_rfl).symm.trans hf) |>.symm
  obtain rfl : fn = Tryz.f16 := (Option.some.inj (Tryz.func16.symm.trans hfn)).symm
  refine ⟨fLooks, fun j t ht => ?_⟩
  rw [Tryz.params16] at ht
  have hm := Array.mem_of_getElem? ht
  simp only [List.mem_toArray, List.mem_cons, List.not_mem_nil, or_false] at hm
  have s0 : Tryz.prog.wantsStandIn 92 = false := (by kernel_rfl); subst hm
  exact s0

theorem card : Rows.TermsOrderCardSaid :=
  Claim7.holds_tied_plain_at .later [] _ _ _ _ said (fun _ h => by cases h) words (fun _ h => by cases h) termsOrder_row_tie rfl ⟨rfl, rfl⟩ mainIs rfl plain goes
end Go.Proofs.YtehnnaanpmceiaaGreatDoor.termsOrder

#print axioms Go.Proofs.YtehnnaanpmceiaaGreatDoor.termsOrder.card
