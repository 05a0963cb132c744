/-
  IcmaAdds: the row and its card: for every input the law answers true and its argument reads as before.
-/
import Derived.Test.YtigjggkendgjeaaDoorLift
import Derived.Test.YtigjggkendgjeaaDoorLAdd
import Derived.Test.YtigjggkendgjeaaDoorCards
import Derived.Test.YtigjggkendgjeaaDoorTie
set_option linter.unusedVariables false
set_option linter.unusedSimpArgs false
set_option maxRecDepth 100000
namespace Go.Proofs.YtigjggkendgjeaaDoor.icmaAdds
open Go Go.Sx Go.Deep Go.ChangeShapes Go.WideShapes Go.ChangeAt Go.RowKit

theorem walk {H : Type} {enc : TypeId × Value → H} (W : World) (base : Nat) (v : Value) (d : DataW H) (p : List MemPlace) (hG : GOk GL W) (hk : Value.okWide Tryd.prog W .any base 36 v) (ht : DataW.Trod enc Tryd.prog W 0 (fun _ => true) true 36 v d p) :
    Calls Tryd.prog 4 #[v] W fun e W' => Below W.heap.size W W' ∧ e = .returned (.bool true) := by
  obtain ⟨cs, rfl, hl, h1, h2⟩ := open_struct Tryd.underlying36 (by kernel_rfl) (by kernel_rfl) (ts := [3, 3, 3, 22, 3]) (by kernel_rfl) rfl hk ht
  obtain ⟨c0, c1, c2, c3, c4, rfl⟩ := len5 (hl.trans (by rfl))
  obtain ⟨a0, rfl, i0⟩ := cell_int Tryd.underlying3 (h1 0 _ _ rfl rfl)
  obtain ⟨a1, rfl, i1⟩ := cell_int Tryd.underlying3 (h1 1 _ _ rfl rfl)
  obtain ⟨a2, rfl, i2⟩ := cell_int Tryd.underlying3 (h1 2 _ _ rfl rfl)
  obtain ⟨_, _, t3⟩ := h2 3 _ _ rfl rfl
  obtain ⟨m, g, d3, rfl, hH⟩ := cell_ints (B := W.heap.size) Tryd.underlying22 Tryd.underlying3 (by kernel_rfl) (h1 3 _ _ rfl rfl) t3
  obtain ⟨a4, rfl, i4⟩ := cell_int Tryd.underlying3 (h1 4 _ _ rfl rfl)
  exact scall_true (θ := fun _ => d3) (args := [.agg [I a0, I a1, I a2, .sl 0 m, I a4]]) (hp := [some (.row false 3 m 1 (fun i => [I (g i)]))]) (adds_ok) hH hG

theorem contract (H : Type) (enc : TypeId × Value → H) (W : World) (base : Nat) (args : Array Value) (ds gs : List (DataW H)) (before : List MemPlace)
    (hval : ∀ (j : Nat) t v, Tryd.f4.params[j]? = some t → args[j]? = some v → Value.okWide Tryd.prog W .any base t v)
    (hW : DataW.Whole enc Tryd.prog Tryd.f4.params.toList Rows.icmaAddsSpec.vars false W args.toList ds gs before) (hL : laidMetH Tryd.prog Rows.icmaAddsRow.laid W) :
    Calls Tryd.prog 4 args W fun e W' => ∃ v, e = .returned v ∧ Rows.icmaAddsSpec.post enc Tryd.prog Tryd.f4 false true false false W args v W' :=
  law_contract (f := Tryd.f4) (t := 36) (b := 4) Tryd.params4 (by kernel_rfl) Tryd.underlying4 rfl (fun d => rfl) (by kernel_rfl) (of_decide_eq_true (by kernel_rfl)) walk W base args ds gs before hval hW hL

theorem laid_met (os : Os) : laidMetH Tryd.prog Rows.icmaAddsRow.laid ((laidWorld os).forCall (fun _ _ => 0) ⟨#[], #[.agg #[.int .i64 0, .int .i64 0, .int .i64 0, .slice none 0 0, .int .i64 0]], []⟩).memory :=
  laidMetH_of_parts (laidMet_of_run' 8 (by kernel_rfl) (by kernel_rfl)) (by kernel_rfl)
theorem reads (os : Os) {H : Type} (enc : TypeId × Value → H) : ∃ places, DataW.whole enc Tryd.prog ((laidWorld os).forCall (fun _ _ => 0) ⟨#[], #[.agg #[.int .i64 0, .int .i64 0, .int .i64 0, .slice none 0 0, .int .i64 0]], []⟩).memory Tryd.f4.params.toList Rows.icmaAddsSpec.vars false #[Value.agg #[.int .i64 0, .int .i64 0, .int .i64 0, .slice none 0 0, .int .i64 0]].toList 8 = some ([.agg [.lit (.int .i64 0), .lit (.int .i64 0), .lit (.int .i64 0), .nil, .lit (.int .i64 0)]], [], places) :=
  ⟨[], by kernel_rfl⟩

theorem lifted (os : Os) (started : os.Started) (H : Type) (enc : TypeId × Value → H) (F : Stop.Interp) :
    ReturnsInHanded {} Tryd.checked os 4 .any ((OpenSpec.ofChange Rows.icmaAddsSpec).preRow enc Tryd.prog Tryd.f4 Rows.icmaAddsRow.domain false Rows.icmaAddsRow.laid) (((OpenSpec.ofChange Rows.icmaAddsSpec).at F).post enc Tryd.prog Tryd.f4 false true false false) := by
  obtain ⟨places, hx⟩ := reads os enc
  refine returnsInHanded_of_row (C := Tryd.checked) (s := OpenSpec.ofChange Rows.icmaAddsSpec) own started (by kernel_rfl) Tryd.func4
    (witness_row_at (enc := enc) (C := Tryd.checked) false (laidWorld os) #[.agg #[.int .i64 0, .int .i64 0, .int .i64 0, .slice none 0 0, .int .i64 0]] rfl (by kernel_rfl) (by kernel_rfl) (by kernel_rfl)
      (OpenSpec.preRow_of_cond 8 hx (by kernel_rfl) (fun k hk => by cases hk) (by kernel_rfl) (laid_met os))) ?_
  intro W base args ds gs before hval hW _ _ _ hL _ _
  exact contract H enc W base args ds gs before hval hW hL

theorem said : Rows.IcmaAddsSaid :=
  OpenClaim.holds_of_cond 4 Tryd.f4 rfl rfl rfl rfl rfl rfl rfl ⟨rfl, rfl, rfl, rfl, rfl⟩ rfl rfl rfl rfl rfl (by kernel_rfl) Tryd.func4 (by kernel_rfl)
    (of_decide_eq_true (by kernel_rfl)) (by unfold Func.isWrapper; first | (rw [if_pos (by decide +kernel)]; kernel_rfl) | (rw [if_neg (by decide +kernel)]; exact ⟨rfl, rfl⟩))
    (fun os started H enc _ F => by rw [OpenClaim.pre_eq_preRow]; exact lifted os started H enc F)

theorem plain (f : FuncId) (fn : Func) (hf : Tryd.pinned.checked.prog.funcNamed "demurrage/demurragelaw09.IcmaAdds" = some f) (hfn : Tryd.pinned.checked.prog.funcs[f]? = some fn) :
    true = Tryd.pinned.checked.prog.looks [] ∧ ∀ (j : Nat) t, fn.params[j]? = some t → Tryd.pinned.checked.prog.wantsStandIn t = false := by
  obtain rfl : f = 4 := Option.some.inj ((show Tryd.prog.funcNamed "demurrage/demurragelaw09.IcmaAdds" = some 4 by kernel_rfl).symm.trans hf) |>.symm
  obtain rfl : fn = Tryd.f4 := (Option.some.inj (Tryd.func4.symm.trans hfn)).symm
  refine ⟨by kernel_rfl, fun j t ht => ?_⟩
  rw [Tryd.params4] at ht
  obtain rfl : t = 36 := by simpa using Array.mem_of_getElem? ht
  exact (show Tryd.prog.wantsStandIn 36 = false by kernel_rfl)

theorem card : Rows.IcmaAddsCardSaid :=
  Claim7.holds_tied_plain_at .later [] _ _ _ _ said (fun _ h => by cases h) (by kernel_rfl) (fun _ h => by cases h) icmaAdds_row_tie rfl ⟨rfl, rfl⟩ (by kernel_rfl) rfl plain (by kernel_rfl)
end Go.Proofs.YtigjggkendgjeaaDoor.icmaAdds

#print axioms Go.Proofs.YtigjggkendgjeaaDoor.icmaAdds.card
