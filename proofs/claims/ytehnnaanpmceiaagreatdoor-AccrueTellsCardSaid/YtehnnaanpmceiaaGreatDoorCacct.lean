/-
  AccrueTells: the row and its card: for every input the law answers true and its arguments read as before.
-/
import Derived.Test.YtehnnaanpmceiaaGreatDoorLif2
import Derived.Test.YtehnnaanpmceiaaGreatDoorAc1
import Derived.Test.YtehnnaanpmceiaaGreatDoorCards
import Derived.Test.YtehnnaanpmceiaaGreatDoorTie
set_option linter.unusedVariables false
set_option linter.unusedSimpArgs false
set_option maxRecDepth 100000
namespace Go.Proofs.YtehnnaanpmceiaaGreatDoor.accrueTells
open Go Go.Sx Go.Deep Go.ChangeShapes Go.WideShapes Go.ChangeAt Go.RowKit

theorem walk {H : Type} {enc : TypeId × Value → H} (E : Env) (W : World) (base : Nat) (args : Array Value) (ds : List (DataW H)) (p : List MemPlace) (hG : GOk (@GL E) W) (hv : ∀ (j : Nat) t v, Tryz.f9.params[j]? = some t → args[j]? = some v → Value.okWide Tryz.prog W .any base t v) (hA : DataW.TrodAll enc Tryz.prog W 0 (fun _ => true) true Tryz.f9.params.toList args.toList ds p) :
    Calls Tryz.prog 9 args W fun e W' => Below W.heap.size W W' ∧ e = .returned (.bool true) := by
  rw [Tryz.params9] at hv hA
  obtain ⟨v0, d0, rfl, rfl, t0⟩ := trodAll_one hA
  obtain ⟨cs0, rfl, hl0, h0⟩ := open_cells Tryz.underlying60 (ts := [3, 3, 56, 3, 3, 3, 3, 3, 3, 3, 4, 4, 4, 3, 4, 3, 3, 22, 3, 3]) (by kernel_rfl) (by kernel_rfl) (hv 0 _ _ rfl rfl)
  obtain ⟨c0_0, c0_1, c0_2, c0_3, c0_4, c0_5, c0_6, c0_7, c0_8, c0_9, c0_10, c0_11, c0_12, c0_13, c0_14, c0_15, c0_16, c0_17, c0_18, c0_19, rfl⟩ : ∃ c0_0 c0_1 c0_2 c0_3 c0_4 c0_5 c0_6 c0_7 c0_8 c0_9 c0_10 c0_11 c0_12 c0_13 c0_14 c0_15 c0_16 c0_17 c0_18 c0_19, cs0 = [c0_0, c0_1, c0_2, c0_3, c0_4, c0_5, c0_6, c0_7, c0_8, c0_9, c0_10, c0_11, c0_12, c0_13, c0_14, c0_15, c0_16, c0_17, c0_18, c0_19] := by
    match cs0, hl0 with
    | [c0_0, c0_1, c0_2, c0_3, c0_4, c0_5, c0_6, c0_7, c0_8, c0_9, c0_10, c0_11, c0_12, c0_13, c0_14, c0_15, c0_16, c0_17, c0_18, c0_19], _ => exact ⟨c0_0, c0_1, c0_2, c0_3, c0_4, c0_5, c0_6, c0_7, c0_8, c0_9, c0_10, c0_11, c0_12, c0_13, c0_14, c0_15, c0_16, c0_17, c0_18, c0_19, rfl⟩
  obtain ⟨m0, tr0⟩ := t0
  obtain ⟨a0, rfl, i0⟩ := cell_int Tryz.underlying3 (h0 0 _ _ rfl rfl)
  obtain ⟨a1, rfl, i1⟩ := cell_int Tryz.underlying3 (h0 1 _ _ rfl rfl)
  obtain ⟨_, _, s2⟩ := trod_field Tryz.underlying60 tr0 2 (k := 1) (ds := [c0_2]) rfl (by kernel_rfl) rfl
  obtain ⟨n2, g2, k2, e2, rfl, H2⟩ := cell_rats (B := W.heap.size) (h0 2 _ _ rfl rfl) s2
  obtain ⟨a3, rfl, i3⟩ := cell_int Tryz.underlying3 (h0 3 _ _ rfl rfl)
  obtain ⟨a4, rfl, i4⟩ := cell_int Tryz.underlying3 (h0 4 _ _ rfl rfl)
  obtain ⟨a5, rfl, i5⟩ := cell_int Tryz.underlying3 (h0 5 _ _ rfl rfl)
  obtain ⟨a6, rfl, i6⟩ := cell_int Tryz.underlying3 (h0 6 _ _ rfl rfl)
  obtain ⟨a7, rfl, i7⟩ := cell_int Tryz.underlying3 (h0 7 _ _ rfl rfl)
  obtain ⟨a8, rfl, i8⟩ := cell_int Tryz.underlying3 (h0 8 _ _ rfl rfl)
  obtain ⟨a9, rfl, i9⟩ := cell_int Tryz.underlying3 (h0 9 _ _ rfl rfl)
  obtain ⟨a10, rfl⟩ := cell_bool Tryz.underlying4 (h0 10 _ _ rfl rfl)
  obtain ⟨a11, rfl⟩ := cell_bool Tryz.underlying4 (h0 11 _ _ rfl rfl)
  obtain ⟨a12, rfl⟩ := cell_bool Tryz.underlying4 (h0 12 _ _ rfl rfl)
  obtain ⟨a13, rfl, i13⟩ := cell_int Tryz.underlying3 (h0 13 _ _ rfl rfl)
  obtain ⟨_, _, s14⟩ := trod_field Tryz.underlying60 tr0 4 (k := 4) (ds := [c0_14, c0_15, c0_16, c0_17]) rfl (by kernel_rfl) rfl
  obtain ⟨a15, rfl⟩ := cell_bool Tryz.underlying4 (h0 14 _ _ rfl rfl)
  obtain ⟨a16, rfl, i16⟩ := cell_int Tryz.underlying3 (h0 15 _ _ rfl rfl)
  obtain ⟨a17, rfl, i17⟩ := cell_int Tryz.underlying3 (h0 16 _ _ rfl rfl)
  obtain ⟨_, _, s18⟩ := trod_field Tryz.underlying24 s14 3 (k := 1) (ds := [c0_17]) rfl (by kernel_rfl) rfl
  obtain ⟨n18, g18, e18, rfl, H18⟩ := cell_ints (B := W.heap.size) Tryz.underlying22 Tryz.underlying3 (by kernel_rfl) (h0 17 _ _ rfl rfl) s18
  obtain ⟨a19, rfl, i19⟩ := cell_int Tryz.underlying3 (h0 18 _ _ rfl rfl)
  obtain ⟨a20, rfl, i20⟩ := cell_int Tryz.underlying3 (h0 19 _ _ rfl rfl)
  exact scall_true (θ := fun t => if t = 0 then e2 else e18) (args := [.agg [I a0, I a1, .sl 0 n2, I a3, I a4, I a5, I a6, I a7, I a8, I a9, B a10, B a11, B a12, I a13, B a15, I a16, I a17, .sl 1 n18, I a19, I a20]]) (accrueTells_ok i0 i1 i4) (hp_two rfl rfl (hp_one H2 rats_any) (hp_one H18 ints_any)) hG

theorem contract (H : Type) (enc : TypeId × Value → H) (W : World) (base : Nat) (args : Array Value) (ds gs : List (DataW H)) (before : List MemPlace)
    (hval : ∀ (j : Nat) t v, Tryz.f9.params[j]? = some t → args[j]? = some v → Value.okWide Tryz.prog W .any base t v)
    (hW : DataW.Whole enc Tryz.prog Tryz.f9.params.toList Rows.accrueTellsSpec.vars false W args.toList ds gs before) (hL : laidMetH Tryz.prog Rows.accrueTellsRow.laid W) :
    Calls Tryz.prog 9 args W fun e W' => ∃ v, e = .returned v ∧ Rows.accrueTellsSpec.post enc Tryz.prog Tryz.f9 false true false false W args v W' :=
  law_contract (f := Tryz.f9) (b := 4) (by kernel_rfl) Tryz.underlying4 rfl (fun ds hl => by
    rw [Tryz.params9] at hl
    match ds, hl with
    | [x0], _ => rfl) (by rw [Tryz.params9]; intro t ht; simp only [List.mem_cons, List.not_mem_nil, or_false] at ht; subst ht; exact ⟨by kernel_rfl, of_decide_eq_true (by kernel_rfl)⟩) walk W base args ds gs before hval hW hL

theorem laid_met (os : Os) : laidMetH Tryz.prog Rows.accrueTellsRow.laid ((laidWorld os).forCall (fun _ _ => 0) ⟨#[], #[.agg #[.int .i64 0, .int .i64 0, .slice none 0 0, .int .i64 0, .int .i64 0, .int .i64 0, .int .i64 0, .int .i64 0, .int .i64 0, .int .i64 0, .bool false, .bool false, .bool false, .int .i64 0, .bool false, .int .i64 0, .int .i64 0, .slice none 0 0, .int .i64 0, .int .i64 0]], []⟩).memory :=
  laidMetH_of_parts (laidMet_of_run' 8 (by kernel_rfl) (by kernel_rfl)) (by kernel_rfl)
theorem reads (os : Os) {H : Type} (enc : TypeId × Value → H) : ∃ places, DataW.whole enc Tryz.prog ((laidWorld os).forCall (fun _ _ => 0) ⟨#[], #[.agg #[.int .i64 0, .int .i64 0, .slice none 0 0, .int .i64 0, .int .i64 0, .int .i64 0, .int .i64 0, .int .i64 0, .int .i64 0, .int .i64 0, .bool false, .bool false, .bool false, .int .i64 0, .bool false, .int .i64 0, .int .i64 0, .slice none 0 0, .int .i64 0, .int .i64 0]], []⟩).memory Tryz.f9.params.toList Rows.accrueTellsSpec.vars false #[Value.agg #[.int .i64 0, .int .i64 0, .slice none 0 0, .int .i64 0, .int .i64 0, .int .i64 0, .int .i64 0, .int .i64 0, .int .i64 0, .int .i64 0, .bool false, .bool false, .bool false, .int .i64 0, .bool false, .int .i64 0, .int .i64 0, .slice none 0 0, .int .i64 0, .int .i64 0]].toList 8 = some ([.agg [.lit (.int .i64 0), .lit (.int .i64 0), .nil, .agg [.lit (.int .i64 0), .lit (.int .i64 0), .lit (.int .i64 0), .lit (.int .i64 0), .lit (.int .i64 0), .lit (.int .i64 0), .lit (.int .i64 0), .lit (.bool false), .lit (.bool false), .lit (.bool false), .lit (.int .i64 0)], .agg [.lit (.bool false), .lit (.int .i64 0), .lit (.int .i64 0), .nil], .lit (.int .i64 0), .lit (.int .i64 0)]], [], places) :=
  ⟨[], by kernel_rfl⟩

theorem lifted (os : Os) (started : os.Started) (H : Type) (enc : TypeId × Value → H) (F : Stop.Interp) :
    ReturnsInHanded {} Tryz.checked os 9 .any ((OpenSpec.ofChange Rows.accrueTellsSpec).preRow enc Tryz.prog Tryz.f9 Rows.accrueTellsRow.domain false Rows.accrueTellsRow.laid) (((OpenSpec.ofChange Rows.accrueTellsSpec).at F).post enc Tryz.prog Tryz.f9 false true false false) := by
  obtain ⟨places, hx⟩ := reads os enc
  refine returnsInHanded_of_row (C := Tryz.checked) (s := OpenSpec.ofChange Rows.accrueTellsSpec) own started (by kernel_rfl) Tryz.func9
    (witness_row_at (enc := enc) (C := Tryz.checked) false (laidWorld os) #[.agg #[.int .i64 0, .int .i64 0, .slice none 0 0, .int .i64 0, .int .i64 0, .int .i64 0, .int .i64 0, .int .i64 0, .int .i64 0, .int .i64 0, .bool false, .bool false, .bool false, .int .i64 0, .bool false, .int .i64 0, .int .i64 0, .slice none 0 0, .int .i64 0, .int .i64 0]] rfl (by kernel_rfl) (by kernel_rfl) (by kernel_rfl)
      (OpenSpec.preRow_of_cond 8 hx (by kernel_rfl) (fun k hk => by cases hk) (by kernel_rfl) (laid_met os))) ?_
  intro W base args ds gs before hval hW _ _ _ hL _ _
  exact contract H enc W base args ds gs before hval hW hL

theorem j1 : (Rows.accrueTellsRow.inPlace == Tryz.pinned.checked.prog.inPlace 9) = true := by kernel_rfl
theorem j2 : (Rows.accrueTellsRow.unfollowed == Tryz.pinned.checked.prog.unfollowed 9) = true := by kernel_rfl
theorem j3 : (Rows.accrueTellsRow.recurses == Tryz.pinned.checked.prog.recurses 9) = true := by kernel_rfl
theorem j4 : (Rows.accrueTellsRow.named == Tryz.pinned.checked.prog.varsNamed 9) = true := by kernel_rfl
theorem j5 : (Rows.accrueTellsRow.lifted == Tryz.pinned.checked.prog.liftsFinal) = true := fLifts
theorem facts : joinedFacts Tryz.pinned.checked.prog 9 Tryz.f9 (OpenSpec.ofChange Rows.accrueTellsSpec).bare Rows.accrueTellsRow = true := by
  unfold joinedFacts
  rw [j1, j2, j3, j4, j5, fMay, fHeard, fMaps, fOut]
  kernel_rfl
theorem funcNo : Tryz.pinned.checked.prog.funcNamed Rows.accrueTellsRow.func = some 9 := by kernel_rfl
theorem goes : false = Rows.accrueTellsRow.goesBy Tryz.pinned.checked.prog := by kernel_rfl
theorem words : OpenClaim.wfByText (OpenSpec.ofChange Rows.accrueTellsSpec) Rows.accrueTellsRow = true := by kernel_rfl

theorem said : Rows.AccrueTellsSaid :=
  OpenClaim.holds_of_cond 9 Tryz.f9 rfl rfl rfl rfl rfl rfl rfl ⟨rfl, rfl, rfl, rfl, rfl⟩ rfl rfl rfl rfl rfl funcNo Tryz.func9 facts
    (of_decide_eq_true (by kernel_rfl)) (by unfold Func.isWrapper; first | (rw [if_pos (by decide +kernel)]; kernel_rfl) | (rw [if_neg (by decide +kernel)]; exact ⟨rfl, rfl⟩))
    (fun os started H enc _ F => by rw [OpenClaim.pre_eq_preRow]; exact lifted os started H enc F)

theorem plain (f : FuncId) (fn : Func) (hf : Tryz.pinned.checked.prog.funcNamed "demurrage/demurragelaw18.AccrueTells" = some f) (hfn : Tryz.pinned.checked.prog.funcs[f]? = some fn) :
    true = Tryz.pinned.checked.prog.looks [] ∧ ∀ (j : Nat) t, fn.params[j]? = some t → Tryz.pinned.checked.prog.wantsStandIn t = false := by
  obtain rfl : f = 9 := Option.some.inj ((show Tryz.prog.funcNamed "demurrage/demurragelaw18.AccrueTells" = some 9 by kernel_rfl).symm.trans hf) |>.symm
  obtain rfl : fn = Tryz.f9 := (Option.some.inj (Tryz.func9.symm.trans hfn)).symm
  refine ⟨fLooks, fun j t ht => ?_⟩
  rw [Tryz.params9] at ht
  have hm := Array.mem_of_getElem? ht
  simp only [List.mem_toArray, List.mem_cons, List.not_mem_nil, or_false] at hm
  have s0 : Tryz.prog.wantsStandIn 60 = false := (by kernel_rfl); subst hm
  exact s0

theorem card : Rows.AccrueTellsCardSaid :=
  Claim7.holds_tied_plain_at .later [] _ _ _ _ said (fun _ h => by cases h) words (fun _ h => by cases h) accrueTells_row_tie rfl ⟨rfl, rfl⟩ mainIs rfl plain goes
end Go.Proofs.YtehnnaanpmceiaaGreatDoor.accrueTells

#print axioms Go.Proofs.YtehnnaanpmceiaaGreatDoor.accrueTells.card
