/-
  IcmaSplit: the row and its card: for every input the law answers true and its argument reads as before.
-/
import Derived.Test.YtigjggkendgjeaaDoorLift
import Derived.Test.YtigjggkendgjeaaDoorLSpl
import Derived.Test.YtigjggkendgjeaaDoorCards
import Derived.Test.YtigjggkendgjeaaDoorTie
set_option linter.unusedVariables false
set_option linter.unusedSimpArgs false
set_option maxRecDepth 100000
namespace Go.Proofs.YtigjggkendgjeaaDoor.icmaSplit
open Go Go.Sx Go.Deep Go.ChangeShapes Go.WideShapes Go.ChangeAt Go.RowKit

theorem walk {H : Type} {enc : TypeId × Value → H} (W : World) (base : Nat) (v : Value) (d : DataW H) (p : List MemPlace) (hG : GOk GL W) (hk : Value.okWide Tryd.prog W .any base 46 v) (ht : DataW.Trod enc Tryd.prog W 0 (fun _ => true) true 46 v d p) :
    Calls Tryd.prog 6 #[v] W fun e W' => Below W.heap.size W W' ∧ e = .returned (.bool true) := by
  obtain ⟨cs, rfl, hl, h1, h2⟩ := open_struct Tryd.underlying46 (by kernel_rfl) (by kernel_rfl) (ts := [3, 3, 22, 3, 5, 40]) (by kernel_rfl) rfl hk ht
  obtain ⟨c0, c1, c2, c3, c4, c5, rfl⟩ := len6 (hl.trans (by rfl))
  obtain ⟨a0, rfl, i0⟩ := cell_int Tryd.underlying3 (h1 0 _ _ rfl rfl)
  obtain ⟨a1, rfl, i1⟩ := cell_int Tryd.underlying3 (h1 1 _ _ rfl rfl)
  obtain ⟨_, _, t2⟩ := h2 2 _ _ rfl rfl
  obtain ⟨m, g, d2, rfl, hH⟩ := cell_ints (B := W.heap.size) Tryd.underlying22 Tryd.underlying3 (by kernel_rfl) (h1 2 _ _ rfl rfl) t2
  obtain ⟨a3, rfl, i3⟩ := cell_int Tryd.underlying3 (h1 3 _ _ rfl rfl)
  obtain ⟨a4, rfl, i4⟩ := cell_int Tryd.underlying5 (h1 4 _ _ rfl rfl)
  obtain ⟨a5, rfl, i5⟩ := cell_int Tryd.underlying40 (h1 5 _ _ rfl rfl)
  exact scall_true (θ := fun _ => d2) (args := [.agg [I a0, I a1, .sl 0 m, I a3, N .u8 a4, N .u16 a5]]) (hp := [some (.row false 3 m 1 (fun i => [I (g i)]))]) (split_ok i4 i5) hH hG

theorem contract (H : Type) (enc : TypeId × Value → H) (W : World) (base : Nat) (args : Array Value) (ds gs : List (DataW H)) (before : List MemPlace)
    (hval : ∀ (j : Nat) t v, Tryd.f6.params[j]? = some t → args[j]? = some v → Value.okWide Tryd.prog W .any base t v)
    (hW : DataW.Whole enc Tryd.prog Tryd.f6.params.toList Rows.icmaSplitSpec.vars false W args.toList ds gs before) (hL : laidMetH Tryd.prog Rows.icmaSplitRow.laid W) :
    Calls Tryd.prog 6 args W fun e W' => ∃ v, e = .returned v ∧ Rows.icmaSplitSpec.post enc Tryd.prog Tryd.f6 false true false false W args v W' :=
  law_contract (f := Tryd.f6) (t := 46) (b := 4) Tryd.params6 (by kernel_rfl) Tryd.underlying4 rfl (fun d => rfl) (by kernel_rfl) (of_decide_eq_true (by kernel_rfl)) walk W base args ds gs before hval hW hL

theorem laid_met (os : Os) : laidMetH Tryd.prog Rows.icmaSplitRow.laid ((laidWorld os).forCall (fun _ _ => 0) ⟨#[], #[.agg #[.int .i64 0, .int .i64 0, .slice none 0 0, .int .i64 0, .int .u8 0, .int .u16 0]], []⟩).memory :=
  laidMetH_of_parts (laidMet_of_run' 8 (by kernel_rfl) (by kernel_rfl)) (by kernel_rfl)
theorem reads (os : Os) {H : Type} (enc : TypeId × Value → H) : ∃ places, DataW.whole enc Tryd.prog ((laidWorld os).forCall (fun _ _ => 0) ⟨#[], #[.agg #[.int .i64 0, .int .i64 0, .slice none 0 0, .int .i64 0, .int .u8 0, .int .u16 0]], []⟩).memory Tryd.f6.params.toList Rows.icmaSplitSpec.vars false #[Value.agg #[.int .i64 0, .int .i64 0, .slice none 0 0, .int .i64 0, .int .u8 0, .int .u16 0]].toList 8 = some ([.agg [.lit (.int .i64 0), .lit (.int .i64 0), .nil, .lit (.int .i64 0), .lit (.int .u8 0), .lit (.int .u16 0)]], [], places) :=
  ⟨[], by kernel_rfl⟩

theorem lifted (os : Os) (started : os.Started) (H : Type) (enc : TypeId × Value → H) (F : Stop.Interp) :
    ReturnsInHanded {} Tryd.checked os 6 .any ((OpenSpec.ofChange Rows.icmaSplitSpec).preRow enc Tryd.prog Tryd.f6 Rows.icmaSplitRow.domain false Rows.icmaSplitRow.laid) (((OpenSpec.ofChange Rows.icmaSplitSpec).at F).post enc Tryd.prog Tryd.f6 false true false false) := by
  obtain ⟨places, hx⟩ := reads os enc
  refine returnsInHanded_of_row (C := Tryd.checked) (s := OpenSpec.ofChange Rows.icmaSplitSpec) own started (by kernel_rfl) Tryd.func6
    (witness_row_at (enc := enc) (C := Tryd.checked) false (laidWorld os) #[.agg #[.int .i64 0, .int .i64 0, .slice none 0 0, .int .i64 0, .int .u8 0, .int .u16 0]] rfl (by kernel_rfl) (by kernel_rfl) (by kernel_rfl)
      (OpenSpec.preRow_of_cond 8 hx (by kernel_rfl) (fun k hk => by cases hk) (by kernel_rfl) (laid_met os))) ?_
  intro W base args ds gs before hval hW _ _ _ hL _ _
  exact contract H enc W base args ds gs before hval hW hL

theorem said : Rows.IcmaSplitSaid :=
  OpenClaim.holds_of_cond 6 Tryd.f6 rfl rfl rfl rfl rfl rfl rfl ⟨rfl, rfl, rfl, rfl, rfl⟩ rfl rfl rfl rfl rfl (by kernel_rfl) Tryd.func6 (by kernel_rfl)
    (of_decide_eq_true (by kernel_rfl)) (by unfold Func.isWrapper; first | (rw [if_pos (by decide +kernel)]; kernel_rfl) | (rw [if_neg (by decide +kernel)]; exact ⟨rfl, rfl⟩))
    (fun os started H enc _ F => by rw [OpenClaim.pre_eq_preRow]; exact lifted os started H enc F)

theorem plain (f : FuncId) (fn : Func) (hf : Tryd.pinned.checked.prog.funcNamed "demurrage/demurragelaw09.IcmaSplit" = some f) (hfn : Tryd.pinned.checked.prog.funcs[f]? = some fn) :
    true = Tryd.pinned.checked.prog.looks [] ∧ ∀ (j : Nat) t, fn.params[j]? = some t → Tryd.pinned.checked.prog.wantsStandIn t = false := by
  obtain rfl : f = 6 := Option.some.inj ((show Tryd.prog.funcNamed "demurrage/demurragelaw09.IcmaSplit" = some 6 by kernel_rfl).symm.trans hf) |>.symm
  obtain rfl : fn = Tryd.f6 := (Option.some.inj (Tryd.func6.symm.trans hfn)).symm
  refine ⟨by kernel_rfl, fun j t ht => ?_⟩
  rw [Tryd.params6] at ht
  obtain rfl : t = 46 := by simpa using Array.mem_of_getElem? ht
  exact (show Tryd.prog.wantsStandIn 46 = false by kernel_rfl)

theorem card : Rows.IcmaSplitCardSaid :=
  Claim7.holds_tied_plain_at .later [] _ _ _ _ said (fun _ h => by cases h) (by kernel_rfl) (fun _ h => by cases h) icmaSplit_row_tie rfl ⟨rfl, rfl⟩ (by kernel_rfl) rfl plain (by kernel_rfl)
end Go.Proofs.YtigjggkendgjeaaDoor.icmaSplit

#print axioms Go.Proofs.YtigjggkendgjeaaDoor.icmaSplit.card
