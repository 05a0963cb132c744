/-
  IcmaWhole: the row and its card: for every input the law answers true and its argument reads as before.
-/
import Derived.Test.YtigjggkendgjeaaDoorLift
import Derived.Test.YtigjggkendgjeaaDoorLWh
import Derived.Test.YtigjggkendgjeaaDoorCards
import Derived.Test.YtigjggkendgjeaaDoorTie
set_option linter.unusedVariables false
set_option linter.unusedSimpArgs false
set_option maxRecDepth 100000
namespace Go.Proofs.YtigjggkendgjeaaDoor.icmaWhole
open Go Go.Sx Go.Deep Go.ChangeShapes Go.WideShapes Go.ChangeAt Go.RowKit

theorem walk {H : Type} {enc : TypeId × Value → H} (W : World) (base : Nat) (v : Value) (d : DataW H) (p : List MemPlace) (hG : GOk GL W) (hk : Value.okWide Tryd.prog W .any base 42 v) (ht : DataW.Trod enc Tryd.prog W 0 (fun _ => true) true 42 v d p) :
    Calls Tryd.prog 5 #[v] W fun e W' => Below W.heap.size W W' ∧ e = .returned (.bool true) := by
  obtain ⟨cs, rfl, hl, h1, h2⟩ := open_struct Tryd.underlying42 (by kernel_rfl) (by kernel_rfl) (ts := [3, 40, 40, 40, 5, 4]) (by kernel_rfl) rfl hk ht
  obtain ⟨c0, c1, c2, c3, c4, c5, rfl⟩ := len6 (hl.trans (by rfl))
  obtain ⟨a0, rfl, i0⟩ := cell_int Tryd.underlying3 (h1 0 _ _ rfl rfl)
  obtain ⟨a1, rfl, i1⟩ := cell_int Tryd.underlying40 (h1 1 _ _ rfl rfl)
  obtain ⟨a2, rfl, i2⟩ := cell_int Tryd.underlying40 (h1 2 _ _ rfl rfl)
  obtain ⟨a3, rfl, i3⟩ := cell_int Tryd.underlying40 (h1 3 _ _ rfl rfl)
  obtain ⟨a4, rfl, i4⟩ := cell_int Tryd.underlying5 (h1 4 _ _ rfl rfl)
  obtain ⟨a5, rfl⟩ := cell_bool Tryd.underlying4 (h1 5 _ _ rfl rfl)
  have hH : HpOk (fun _ => ⟨none, 0, 1⟩) W.heap.size [] W := ⟨fun t v hv => by simp at hv, fun t t' v v' hv => by simp at hv⟩
  exact scall_true (θ := fun _ => ⟨none, 0, 1⟩) (args := [.agg [I a0, N .u16 a1, N .u16 a2, N .u16 a3, N .u8 a4, B a5]]) (hp := []) (whole_ok i1 i2 i3 i4) hH hG

theorem contract (H : Type) (enc : TypeId × Value → H) (W : World) (base : Nat) (args : Array Value) (ds gs : List (DataW H)) (before : List MemPlace)
    (hval : ∀ (j : Nat) t v, Tryd.f5.params[j]? = some t → args[j]? = some v → Value.okWide Tryd.prog W .any base t v)
    (hW : DataW.Whole enc Tryd.prog Tryd.f5.params.toList Rows.icmaWholeSpec.vars false W args.toList ds gs before) (hL : laidMetH Tryd.prog Rows.icmaWholeRow.laid W) :
    Calls Tryd.prog 5 args W fun e W' => ∃ v, e = .returned v ∧ Rows.icmaWholeSpec.post enc Tryd.prog Tryd.f5 false true false false W args v W' :=
  law_contract (f := Tryd.f5) (t := 42) (b := 4) Tryd.params5 (by kernel_rfl) Tryd.underlying4 rfl (fun d => rfl) (by kernel_rfl) (of_decide_eq_true (by kernel_rfl)) walk W base args ds gs before hval hW hL

theorem laid_met (os : Os) : laidMetH Tryd.prog Rows.icmaWholeRow.laid ((laidWorld os).forCall (fun _ _ => 0) ⟨#[], #[.agg #[.int .i64 0, .int .u16 0, .int .u16 0, .int .u16 0, .int .u8 0, .bool false]], []⟩).memory :=
  laidMetH_of_parts (laidMet_of_run' 8 (by kernel_rfl) (by kernel_rfl)) (by kernel_rfl)
theorem reads (os : Os) {H : Type} (enc : TypeId × Value → H) : ∃ places, DataW.whole enc Tryd.prog ((laidWorld os).forCall (fun _ _ => 0) ⟨#[], #[.agg #[.int .i64 0, .int .u16 0, .int .u16 0, .int .u16 0, .int .u8 0, .bool false]], []⟩).memory Tryd.f5.params.toList Rows.icmaWholeSpec.vars false #[Value.agg #[.int .i64 0, .int .u16 0, .int .u16 0, .int .u16 0, .int .u8 0, .bool false]].toList 8 = some ([.agg [.lit (.int .i64 0), .lit (.int .u16 0), .lit (.int .u16 0), .lit (.int .u16 0), .lit (.int .u8 0), .lit (.bool false)]], [], places) :=
  ⟨[], by kernel_rfl⟩

theorem lifted (os : Os) (started : os.Started) (H : Type) (enc : TypeId × Value → H) (F : Stop.Interp) :
    ReturnsInHanded {} Tryd.checked os 5 .any ((OpenSpec.ofChange Rows.icmaWholeSpec).preRow enc Tryd.prog Tryd.f5 Rows.icmaWholeRow.domain false Rows.icmaWholeRow.laid) (((OpenSpec.ofChange Rows.icmaWholeSpec).at F).post enc Tryd.prog Tryd.f5 false true false false) := by
  obtain ⟨places, hx⟩ := reads os enc
  refine returnsInHanded_of_row (C := Tryd.checked) (s := OpenSpec.ofChange Rows.icmaWholeSpec) own started (by kernel_rfl) Tryd.func5
    (witness_row_at (enc := enc) (C := Tryd.checked) false (laidWorld os) #[.agg #[.int .i64 0, .int .u16 0, .int .u16 0, .int .u16 0, .int .u8 0, .bool false]] rfl (by kernel_rfl) (by kernel_rfl) (by kernel_rfl)
      (OpenSpec.preRow_of_cond 8 hx (by kernel_rfl) (fun k hk => by cases hk) (by kernel_rfl) (laid_met os))) ?_
  intro W base args ds gs before hval hW _ _ _ hL _ _
  exact contract H enc W base args ds gs before hval hW hL

theorem said : Rows.IcmaWholeSaid :=
  OpenClaim.holds_of_cond 5 Tryd.f5 rfl rfl rfl rfl rfl rfl rfl ⟨rfl, rfl, rfl, rfl, rfl⟩ rfl rfl rfl rfl rfl (by kernel_rfl) Tryd.func5 (by kernel_rfl)
    (of_decide_eq_true (by kernel_rfl)) (by unfold Func.isWrapper; first | (rw [if_pos (by decide +kernel)]; kernel_rfl) | (rw [if_neg (by decide +kernel)]; exact ⟨rfl, rfl⟩))
    (fun os started H enc _ F => by rw [OpenClaim.pre_eq_preRow]; exact lifted os started H enc F)

theorem plain (f : FuncId) (fn : Func) (hf : Tryd.pinned.checked.prog.funcNamed "demurrage/demurragelaw09.IcmaWhole" = some f) (hfn : Tryd.pinned.checked.prog.funcs[f]? = some fn) :
    true = Tryd.pinned.checked.prog.looks [] ∧ ∀ (j : Nat) t, fn.params[j]? = some t → Tryd.pinned.checked.prog.wantsStandIn t = false := by
  obtain rfl : f = 5 := Option.some.inj ((show Tryd.prog.funcNamed "demurrage/demurragelaw09.IcmaWhole" = some 5 by kernel_rfl).symm.trans hf) |>.symm
  obtain rfl : fn = Tryd.f5 := (Option.some.inj (Tryd.func5.symm.trans hfn)).symm
  refine ⟨by kernel_rfl, fun j t ht => ?_⟩
  rw [Tryd.params5] at ht
  obtain rfl : t = 42 := by simpa using Array.mem_of_getElem? ht
  exact (show Tryd.prog.wantsStandIn 42 = false by kernel_rfl)

theorem card : Rows.IcmaWholeCardSaid :=
  Claim7.holds_tied_plain_at .later [] _ _ _ _ said (fun _ h => by cases h) (by kernel_rfl) (fun _ h => by cases h) icmaWhole_row_tie rfl ⟨rfl, rfl⟩ (by kernel_rfl) rfl plain (by kernel_rfl)
end Go.Proofs.YtigjggkendgjeaaDoor.icmaWhole

#print axioms Go.Proofs.YtigjggkendgjeaaDoor.icmaWhole.card
