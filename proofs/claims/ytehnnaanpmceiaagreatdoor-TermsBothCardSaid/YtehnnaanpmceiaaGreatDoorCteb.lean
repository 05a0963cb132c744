/-
  TermsBoth: the row and its card: for every input the law answers true and its arguments read as before.
-/
import Derived.Test.YtehnnaanpmceiaaGreatDoorLifT
import Derived.Test.YtehnnaanpmceiaaGreatDoorLt
import Derived.Test.YtehnnaanpmceiaaGreatDoorCards
import Derived.Test.YtehnnaanpmceiaaGreatDoorTie
set_option linter.unusedVariables false
set_option linter.unusedSimpArgs false
set_option maxRecDepth 100000
namespace Go.Proofs.YtehnnaanpmceiaaGreatDoor.termsBoth
open Go Go.Sx Go.Deep Go.ChangeShapes Go.WideShapes Go.ChangeAt Go.RowKit

theorem walk {H : Type} {enc : TypeId × Value → H} (E : EnvT) (W : World) (base : Nat) (args : Array Value) (ds : List (DataW H)) (p : List MemPlace) (hG : GOk (@GL (@envT E)) W) (hv : ∀ (j : Nat) t v, Tryz.f17.params[j]? = some t → args[j]? = some v → Value.okWide Tryz.prog W .any base t v) (hA : DataW.TrodAll enc Tryz.prog W 0 (fun _ => true) true Tryz.f17.params.toList args.toList ds p) :
    Calls Tryz.prog 17 args W fun e W' => Below W.heap.size W W' ∧ e = .returned (.bool true) := by
  rw [Tryz.params17] at hv hA
  obtain ⟨v0, v1, d0, d1, p0, p1, rfl, rfl, rfl, t0, t1⟩ := trodAll_two hA
  obtain ⟨a0, rfl, i0⟩ := val_int Tryz.underlying71 (hv 0 _ _ rfl rfl)
  obtain ⟨a1, rfl, i1⟩ := val_int Tryz.underlying77 (hv 1 _ _ rfl rfl)
  exact scall_true (θ := fun _ => ⟨none, 0, 0⟩) (args := [N .u64 a0, N .u32 a1]) (termsBoth_ok i0 i1) hp_nil hG

theorem contract (H : Type) (enc : TypeId × Value → H) (W : World) (base : Nat) (args : Array Value) (ds gs : List (DataW H)) (before : List MemPlace)
    (hval : ∀ (j : Nat) t v, Tryz.f17.params[j]? = some t → args[j]? = some v → Value.okWide Tryz.prog W .any base t v)
    (hW : DataW.Whole enc Tryz.prog Tryz.f17.params.toList Rows.termsBothSpec.vars false W args.toList ds gs before) (hL : laidMetH Tryz.prog Rows.termsBothRow.laid W) :
    Calls Tryz.prog 17 args W fun e W' => ∃ v, e = .returned v ∧ Rows.termsBothSpec.post enc Tryz.prog Tryz.f17 false true false false W args v W' :=
  law_contractT (f := Tryz.f17) (b := 4) (by kernel_rfl) Tryz.underlying4 rfl (fun ds hl => by
    rw [Tryz.params17] at hl
    match ds, hl with
    | [x0, x1], _ => rfl) (by rw [Tryz.params17]; intro t ht; simp only [List.mem_cons, List.not_mem_nil, or_false] at ht; rcases ht with rfl | rfl <;> exact ⟨by kernel_rfl, of_decide_eq_true (by kernel_rfl)⟩) walk W base args ds gs before hval hW hL

theorem laid_met (os : Os) : laidMetH Tryz.prog Rows.termsBothRow.laid ((laidWorldT os).forCall (fun _ _ => 0) ⟨#[], #[.int .u64 0, .int .u32 0], []⟩).memory :=
  laidMetH_of_parts (laidMet_of_run' 8 (by kernel_rfl) (by kernel_rfl)) (by kernel_rfl)
theorem reads (os : Os) {H : Type} (enc : TypeId × Value → H) : ∃ places, DataW.whole enc Tryz.prog ((laidWorldT os).forCall (fun _ _ => 0) ⟨#[], #[.int .u64 0, .int .u32 0], []⟩).memory Tryz.f17.params.toList Rows.termsBothSpec.vars false #[Value.int .u64 0, Value.int .u32 0].toList 8 = some ([.lit (.int .u64 0), .lit (.int .u32 0)], [], places) :=
  ⟨[], by kernel_rfl⟩

theorem lifted (os : Os) (started : os.Started) (H : Type) (enc : TypeId × Value → H) (F : Stop.Interp) :
    ReturnsInHanded {} Tryz.checked os 17 .any ((OpenSpec.ofChange Rows.termsBothSpec).preRow enc Tryz.prog Tryz.f17 Rows.termsBothRow.domain false Rows.termsBothRow.laid) (((OpenSpec.ofChange Rows.termsBothSpec).at F).post enc Tryz.prog Tryz.f17 false true false false) := by
  obtain ⟨places, hx⟩ := reads os enc
  refine returnsInHanded_of_row (C := Tryz.checked) (s := OpenSpec.ofChange Rows.termsBothSpec) own started (by kernel_rfl) Tryz.func17
    (witness_row_at (enc := enc) (C := Tryz.checked) false (laidWorldT os) #[.int .u64 0, .int .u32 0] rfl (by kernel_rfl) (by kernel_rfl) (by kernel_rfl)
      (OpenSpec.preRow_of_cond 8 hx (by kernel_rfl) (fun k hk => by cases hk) (by kernel_rfl) (laid_met os))) ?_
  intro W base args ds gs before hval hW _ _ _ hL _ _
  exact contract H enc W base args ds gs before hval hW hL

theorem j1 : (Rows.termsBothRow.inPlace == Tryz.pinned.checked.prog.inPlace 17) = true := by kernel_rfl
theorem j2 : (Rows.termsBothRow.unfollowed == Tryz.pinned.checked.prog.unfollowed 17) = true := by kernel_rfl
theorem j3 : (Rows.termsBothRow.recurses == Tryz.pinned.checked.prog.recurses 17) = true := by kernel_rfl
theorem j4 : (Rows.termsBothRow.named == Tryz.pinned.checked.prog.varsNamed 17) = true := by kernel_rfl
theorem j5 : (Rows.termsBothRow.lifted == Tryz.pinned.checked.prog.liftsFinal) = true := fLifts
theorem facts : joinedFacts Tryz.pinned.checked.prog 17 Tryz.f17 (OpenSpec.ofChange Rows.termsBothSpec).bare Rows.termsBothRow = true := by
  unfold joinedFacts
  rw [j1, j2, j3, j4, j5, fMay, fHeard, fMaps, fOut]
  kernel_rfl
theorem funcNo : Tryz.pinned.checked.prog.funcNamed Rows.termsBothRow.func = some 17 := by kernel_rfl
theorem goes : false = Rows.termsBothRow.goesBy Tryz.pinned.checked.prog := by kernel_rfl
theorem words : OpenClaim.wfByText (OpenSpec.ofChange Rows.termsBothSpec) Rows.termsBothRow = true := by kernel_rfl

theorem said : Rows.TermsBothSaid :=
  OpenClaim.holds_of_cond 17 Tryz.f17 rfl rfl rfl rfl rfl rfl rfl ⟨rfl, rfl, rfl, rfl, rfl⟩ rfl rfl rfl rfl rfl funcNo Tryz.func17 facts
    (of_decide_eq_true (by kernel_rfl)) (by unfold Func.isWrapper; first | (rw [if_pos (by decide +kernel)]; kernel_rfl) | (rw [if_neg (by decide +kernel)]; exact ⟨rfl, rfl⟩))
    (fun os started H enc _ F => by rw [OpenClaim.pre_eq_preRow]; exact lifted os started H enc F)

theorem plain (f : FuncId) (fn : Func) (hf : Tryz.pinned.checked.prog.funcNamed "demurrage/demurragelaw15.TermsBoth" = some f) (hfn : Tryz.pinned.checked.prog.funcs[f]? = some fn) :
    true = Tryz.pinned.checked.prog.looks [] ∧ ∀ (j : Nat) t, fn.params[j]? = some t → Tryz.pinned.checked.prog.wantsStandIn t = false := by
  obtain rfl : f = 17 := Option.some.inj ((show Tryz.prog.funcNamed "demurrage/demurragelaw15.TermsBoth" = some 17 by kernel_rfl).symm.trans hf) |>.symm
  obtain rfl : fn = Tryz.f17 := (Option.some.inj (Tryz.func17.symm.trans hfn)).symm
  refine ⟨fLooks, fun j t ht => ?_⟩
  rw [Tryz.params17] at ht
  have hm := Array.mem_of_getElem? ht
  simp only [List.mem_toArray, List.mem_cons, List.not_mem_nil, or_false] at hm
  have s0 : Tryz.prog.wantsStandIn 71 = false := (by kernel_rfl); have s1 : Tryz.prog.wantsStandIn 77 = false := (by kernel_rfl); rcases hm with rfl | rfl
  · exact s0
  · exact s1

theorem card : Rows.TermsBothCardSaid :=
  Claim7.holds_tied_plain_at .later [] _ _ _ _ said (fun _ h => by cases h) words (fun _ h => by cases h) termsBoth_row_tie rfl ⟨rfl, rfl⟩ mainIs rfl plain goes
end Go.Proofs.YtehnnaanpmceiaaGreatDoor.termsBoth

#print axioms Go.Proofs.YtehnnaanpmceiaaGreatDoor.termsBoth.card
