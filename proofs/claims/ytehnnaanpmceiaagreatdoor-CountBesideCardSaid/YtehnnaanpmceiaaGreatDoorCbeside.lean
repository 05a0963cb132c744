/-
  CountBeside: the row and its card: for every input the law answers true and its arguments read as before.
-/
import Derived.Test.YtehnnaanpmceiaaGreatDoorLift
import Derived.Test.YtehnnaanpmceiaaGreatDoorLc2
import Derived.Test.YtehnnaanpmceiaaGreatDoorCards
import Derived.Test.YtehnnaanpmceiaaGreatDoorTie
set_option linter.unusedVariables false
set_option linter.unusedSimpArgs false
set_option maxRecDepth 100000
namespace Go.Proofs.YtehnnaanpmceiaaGreatDoor.countBeside
open Go Go.Sx Go.Deep Go.ChangeShapes Go.WideShapes Go.ChangeAt Go.RowKit

theorem walk {H : Type} {enc : TypeId × Value → H} (E : Env) (W : World) (base : Nat) (args : Array Value) (ds : List (DataW H)) (p : List MemPlace) (hG : GOk (@GL E) W) (hv : ∀ (j : Nat) t v, Tryz.f5.params[j]? = some t → args[j]? = some v → Value.okWide Tryz.prog W .any base t v) (hA : DataW.TrodAll enc Tryz.prog W 0 (fun _ => true) true Tryz.f5.params.toList args.toList ds p) :
    Calls Tryz.prog 5 args W fun e W' => Below W.heap.size W W' ∧ e = .returned (.bool true) := by
  rw [Tryz.params5] at hv hA
  obtain ⟨v0, d0, rfl, rfl, t0⟩ := trodAll_one hA
  obtain ⟨cs0, rfl, hl0, h0⟩ := open_cells Tryz.underlying43 (ts := [5, 3, 3, 4, 3, 3, 22, 4, 3, 3, 22]) (by kernel_rfl) (by kernel_rfl) (hv 0 _ _ rfl rfl)
  obtain ⟨c0_0, c0_1, c0_2, c0_3, c0_4, c0_5, c0_6, c0_7, c0_8, c0_9, c0_10, rfl⟩ : ∃ c0_0 c0_1 c0_2 c0_3 c0_4 c0_5 c0_6 c0_7 c0_8 c0_9 c0_10, cs0 = [c0_0, c0_1, c0_2, c0_3, c0_4, c0_5, c0_6, c0_7, c0_8, c0_9, c0_10] := by
    match cs0, hl0 with
    | [c0_0, c0_1, c0_2, c0_3, c0_4, c0_5, c0_6, c0_7, c0_8, c0_9, c0_10], _ => exact ⟨c0_0, c0_1, c0_2, c0_3, c0_4, c0_5, c0_6, c0_7, c0_8, c0_9, c0_10, rfl⟩
  obtain ⟨m0, tr0⟩ := t0
  obtain ⟨a0, rfl, i0⟩ := cell_int Tryz.underlying5 (h0 0 _ _ rfl rfl)
  obtain ⟨a1, rfl, i1⟩ := cell_int Tryz.underlying3 (h0 1 _ _ rfl rfl)
  obtain ⟨a2, rfl, i2⟩ := cell_int Tryz.underlying3 (h0 2 _ _ rfl rfl)
  obtain ⟨_, _, s3⟩ := trod_field Tryz.underlying43 tr0 3 (k := 4) (ds := [c0_3, c0_4, c0_5, c0_6]) rfl (by kernel_rfl) rfl
  obtain ⟨a4, rfl⟩ := cell_bool Tryz.underlying4 (h0 3 _ _ rfl rfl)
  obtain ⟨a5, rfl, i5⟩ := cell_int Tryz.underlying3 (h0 4 _ _ rfl rfl)
  obtain ⟨a6, rfl, i6⟩ := cell_int Tryz.underlying3 (h0 5 _ _ rfl rfl)
  obtain ⟨_, _, s7⟩ := trod_field Tryz.underlying24 s3 3 (k := 1) (ds := [c0_6]) rfl (by kernel_rfl) rfl
  obtain ⟨n7, g7, e7, rfl, H7⟩ := cell_ints (B := W.heap.size) Tryz.underlying22 Tryz.underlying3 (by kernel_rfl) (h0 6 _ _ rfl rfl) s7
  obtain ⟨_, _, s8⟩ := trod_field Tryz.underlying43 tr0 4 (k := 4) (ds := [c0_7, c0_8, c0_9, c0_10]) rfl (by kernel_rfl) rfl
  obtain ⟨a9, rfl⟩ := cell_bool Tryz.underlying4 (h0 7 _ _ rfl rfl)
  obtain ⟨a10, rfl, i10⟩ := cell_int Tryz.underlying3 (h0 8 _ _ rfl rfl)
  obtain ⟨a11, rfl, i11⟩ := cell_int Tryz.underlying3 (h0 9 _ _ rfl rfl)
  obtain ⟨_, _, s12⟩ := trod_field Tryz.underlying24 s8 3 (k := 1) (ds := [c0_10]) rfl (by kernel_rfl) rfl
  obtain ⟨n12, g12, e12, rfl, H12⟩ := cell_ints (B := W.heap.size) Tryz.underlying22 Tryz.underlying3 (by kernel_rfl) (h0 10 _ _ rfl rfl) s12
  exact scall_true (θ := fun t => if t = 0 then e7 else e12) (args := [.agg [N .u8 a0, I a1, I a2, B a4, I a5, I a6, .sl 0 n7, B a9, I a10, I a11, .sl 1 n12]]) (countBeside_ok i0) (hp_two rfl rfl (hp_one H7 ints_any) (hp_one H12 ints_any)) hG

theorem contract (H : Type) (enc : TypeId × Value → H) (W : World) (base : Nat) (args : Array Value) (ds gs : List (DataW H)) (before : List MemPlace)
    (hval : ∀ (j : Nat) t v, Tryz.f5.params[j]? = some t → args[j]? = some v → Value.okWide Tryz.prog W .any base t v)
    (hW : DataW.Whole enc Tryz.prog Tryz.f5.params.toList Rows.countBesideSpec.vars false W args.toList ds gs before) (hL : laidMetH Tryz.prog Rows.countBesideRow.laid W) :
    Calls Tryz.prog 5 args W fun e W' => ∃ v, e = .returned v ∧ Rows.countBesideSpec.post enc Tryz.prog Tryz.f5 false true false false W args v W' :=
  law_contract (f := Tryz.f5) (b := 4) (by kernel_rfl) Tryz.underlying4 rfl (fun ds hl => by
    rw [Tryz.params5] at hl
    match ds, hl with
    | [x0], _ => rfl) (by rw [Tryz.params5]; intro t ht; simp only [List.mem_cons, List.not_mem_nil, or_false] at ht; subst ht; exact ⟨by kernel_rfl, of_decide_eq_true (by kernel_rfl)⟩) walk W base args ds gs before hval hW hL

theorem laid_met (os : Os) : laidMetH Tryz.prog Rows.countBesideRow.laid ((laidWorld os).forCall (fun _ _ => 0) ⟨#[], #[.agg #[.int .u8 0, .int .i64 0, .int .i64 0, .bool false, .int .i64 0, .int .i64 0, .slice none 0 0, .bool false, .int .i64 0, .int .i64 0, .slice none 0 0]], []⟩).memory :=
  laidMetH_of_parts (laidMet_of_run' 8 (by kernel_rfl) (by kernel_rfl)) (by kernel_rfl)
theorem reads (os : Os) {H : Type} (enc : TypeId × Value → H) : ∃ places, DataW.whole enc Tryz.prog ((laidWorld os).forCall (fun _ _ => 0) ⟨#[], #[.agg #[.int .u8 0, .int .i64 0, .int .i64 0, .bool false, .int .i64 0, .int .i64 0, .slice none 0 0, .bool false, .int .i64 0, .int .i64 0, .slice none 0 0]], []⟩).memory Tryz.f5.params.toList Rows.countBesideSpec.vars false #[Value.agg #[.int .u8 0, .int .i64 0, .int .i64 0, .bool false, .int .i64 0, .int .i64 0, .slice none 0 0, .bool false, .int .i64 0, .int .i64 0, .slice none 0 0]].toList 8 = some ([.agg [.lit (.int .u8 0), .lit (.int .i64 0), .lit (.int .i64 0), .agg [.lit (.bool false), .lit (.int .i64 0), .lit (.int .i64 0), .nil], .agg [.lit (.bool false), .lit (.int .i64 0), .lit (.int .i64 0), .nil]]], [], places) :=
  ⟨[], by kernel_rfl⟩

theorem lifted (os : Os) (started : os.Started) (H : Type) (enc : TypeId × Value → H) (F : Stop.Interp) :
    ReturnsInHanded {} Tryz.checked os 5 .any ((OpenSpec.ofChange Rows.countBesideSpec).preRow enc Tryz.prog Tryz.f5 Rows.countBesideRow.domain false Rows.countBesideRow.laid) (((OpenSpec.ofChange Rows.countBesideSpec).at F).post enc Tryz.prog Tryz.f5 false true false false) := by
  obtain ⟨places, hx⟩ := reads os enc
  refine returnsInHanded_of_row (C := Tryz.checked) (s := OpenSpec.ofChange Rows.countBesideSpec) own started (by kernel_rfl) Tryz.func5
    (witness_row_at (enc := enc) (C := Tryz.checked) false (laidWorld os) #[.agg #[.int .u8 0, .int .i64 0, .int .i64 0, .bool false, .int .i64 0, .int .i64 0, .slice none 0 0, .bool false, .int .i64 0, .int .i64 0, .slice none 0 0]] rfl (by kernel_rfl) (by kernel_rfl) (by kernel_rfl)
      (OpenSpec.preRow_of_cond 8 hx (by kernel_rfl) (fun k hk => by cases hk) (by kernel_rfl) (laid_met os))) ?_
  intro W base args ds gs before hval hW _ _ _ hL _ _
  exact contract H enc W base args ds gs before hval hW hL

theorem j1 : (Rows.countBesideRow.inPlace == Tryz.pinned.checked.prog.inPlace 5) = true := by kernel_rfl
theorem j2 : (Rows.countBesideRow.unfollowed == Tryz.pinned.checked.prog.unfollowed 5) = true := by kernel_rfl
theorem j3 : (Rows.countBesideRow.recurses == Tryz.pinned.checked.prog.recurses 5) = true := by kernel_rfl
theorem j4 : (Rows.countBesideRow.named == Tryz.pinned.checked.prog.varsNamed 5) = true := by kernel_rfl
theorem j5 : (Rows.countBesideRow.lifted == Tryz.pinned.checked.prog.liftsFinal) = true := fLifts
theorem facts : joinedFacts Tryz.pinned.checked.prog 5 Tryz.f5 (OpenSpec.ofChange Rows.countBesideSpec).bare Rows.countBesideRow = true := by
  unfold joinedFacts
  rw [j1, j2, j3, j4, j5, fMay, fHeard, fMaps, fOut]
  kernel_rfl
theorem funcNo : Tryz.pinned.checked.prog.funcNamed Rows.countBesideRow.func = some 5 := by kernel_rfl
theorem goes : false = Rows.countBesideRow.goesBy Tryz.pinned.checked.prog := by kernel_rfl
theorem words : OpenClaim.wfByText (OpenSpec.ofChange Rows.countBesideSpec) Rows.countBesideRow = true := by kernel_rfl

theorem said : Rows.CountBesideSaid :=
  OpenClaim.holds_of_cond 5 Tryz.f5 rfl rfl rfl rfl rfl rfl rfl ⟨rfl, rfl, rfl, rfl, rfl⟩ rfl rfl rfl rfl rfl funcNo Tryz.func5 facts
    (of_decide_eq_true (by kernel_rfl)) (by unfold Func.isWrapper; first | (rw [if_pos (by decide +kernel)]; kernel_rfl) | (rw [if_neg (by decide +kernel)]; exact ⟨rfl, rfl⟩))
    (fun os started H enc _ F => by rw [OpenClaim.pre_eq_preRow]; exact lifted os started H enc F)

theorem plain (f : FuncId) (fn : Func) (hf : Tryz.pinned.checked.prog.funcNamed "demurrage/demurragelaw10.CountBeside" = some f) (hfn : Tryz.pinned.checked.prog.funcs[f]? = some fn) :
    true = Tryz.pinned.checked.prog.looks [] ∧ ∀ (j : Nat) t, fn.params[j]? = some t → Tryz.pinned.checked.prog.wantsStandIn t = false := by
  obtain rfl : f = 5 := Option.some.inj ((show Tryz.prog.funcNamed "demurrage/demurragelaw10.CountBeside" = some 5 by kernel_rfl).symm.trans hf) |>.symm
  obtain rfl : fn = Tryz.f5 := (Option.some.inj (Tryz.func5.symm.trans hfn)).symm
  refine ⟨fLooks, fun j t ht => ?_⟩
  rw [Tryz.params5] at ht
  have hm := Array.mem_of_getElem? ht
  simp only [List.mem_toArray, List.mem_cons, List.not_mem_nil, or_false] at hm
  have s0 : Tryz.prog.wantsStandIn 43 = false := (by kernel_rfl); subst hm
  exact s0

theorem card : Rows.CountBesideCardSaid :=
  Claim7.holds_tied_plain_at .later [] _ _ _ _ said (fun _ h => by cases h) words (fun _ h => by cases h) countBeside_row_tie rfl ⟨rfl, rfl⟩ mainIs rfl plain goes
end Go.Proofs.YtehnnaanpmceiaaGreatDoor.countBeside

#print axioms Go.Proofs.YtehnnaanpmceiaaGreatDoor.countBeside.card
