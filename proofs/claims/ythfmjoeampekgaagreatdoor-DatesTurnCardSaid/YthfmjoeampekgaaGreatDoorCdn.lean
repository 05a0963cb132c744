/-
  DatesTurn: the row and its card: for every input the law answers true and its arguments read as before.
-/
import Derived.Test.YthfmjoeampekgaaGreatDoorLifT
import Derived.Test.YthfmjoeampekgaaGreatDoorL16t
import Derived.Test.YthfmjoeampekgaaGreatDoorCards
import Derived.Test.YthfmjoeampekgaaGreatDoorTie
set_option linter.unusedVariables false
set_option linter.unusedSimpArgs false
set_option maxRecDepth 100000
namespace Go.Proofs.YthfmjoeampekgaaGreatDoor.datesTurn
open Go Go.Sx Go.Deep Go.ChangeShapes Go.WideShapes Go.ChangeAt Go.RowKit

theorem walk {H : Type} {enc : TypeId × Value → H} (E : EnvT) (W : World) (base : Nat) (args : Array Value) (ds : List (DataW H)) (p : List MemPlace) (hG : GOk (@GL (@envT E)) W) (hv : ∀ (j : Nat) t v, Tryz.f8.params[j]? = some t → args[j]? = some v → Value.okWide Tryz.prog W .any base t v) (hA : DataW.TrodAll enc Tryz.prog W 0 (fun _ => true) true Tryz.f8.params.toList args.toList ds p) :
    Calls Tryz.prog 8 args W fun e W' => Below W.heap.size W W' ∧ e = .returned (.bool true) := by
  rw [Tryz.params8] at hv hA
  obtain ⟨v0, d0, rfl, rfl, t0⟩ := trodAll_one hA
  obtain ⟨cs0, rfl, hl0, h0⟩ := open_cells Tryz.underlying47 (ts := [3, 3, 3, 3, 3, 3, 3, 4, 4, 4, 3, 5, 5, 5, 45]) (by kernel_rfl) (by kernel_rfl) (hv 0 _ _ rfl rfl)
  obtain ⟨c0_0, c0_1, c0_2, c0_3, c0_4, c0_5, c0_6, c0_7, c0_8, c0_9, c0_10, c0_11, c0_12, c0_13, c0_14, rfl⟩ : ∃ c0_0 c0_1 c0_2 c0_3 c0_4 c0_5 c0_6 c0_7 c0_8 c0_9 c0_10 c0_11 c0_12 c0_13 c0_14, cs0 = [c0_0, c0_1, c0_2, c0_3, c0_4, c0_5, c0_6, c0_7, c0_8, c0_9, c0_10, c0_11, c0_12, c0_13, c0_14] := by
    match cs0, hl0 with
    | [c0_0, c0_1, c0_2, c0_3, c0_4, c0_5, c0_6, c0_7, c0_8, c0_9, c0_10, c0_11, c0_12, c0_13, c0_14], _ => exact ⟨c0_0, c0_1, c0_2, c0_3, c0_4, c0_5, c0_6, c0_7, c0_8, c0_9, c0_10, c0_11, c0_12, c0_13, c0_14, rfl⟩
  obtain ⟨m0, tr0⟩ := t0
  obtain ⟨a0, rfl, i0⟩ := cell_int Tryz.underlying3 (h0 0 _ _ rfl rfl)
  obtain ⟨a1, rfl, i1⟩ := cell_int Tryz.underlying3 (h0 1 _ _ rfl rfl)
  obtain ⟨a2, rfl, i2⟩ := cell_int Tryz.underlying3 (h0 2 _ _ rfl rfl)
  obtain ⟨a3, rfl, i3⟩ := cell_int Tryz.underlying3 (h0 3 _ _ rfl rfl)
  obtain ⟨a4, rfl, i4⟩ := cell_int Tryz.underlying3 (h0 4 _ _ rfl rfl)
  obtain ⟨a5, rfl, i5⟩ := cell_int Tryz.underlying3 (h0 5 _ _ rfl rfl)
  obtain ⟨a6, rfl, i6⟩ := cell_int Tryz.underlying3 (h0 6 _ _ rfl rfl)
  obtain ⟨a7, rfl⟩ := cell_bool Tryz.underlying4 (h0 7 _ _ rfl rfl)
  obtain ⟨a8, rfl⟩ := cell_bool Tryz.underlying4 (h0 8 _ _ rfl rfl)
  obtain ⟨a9, rfl⟩ := cell_bool Tryz.underlying4 (h0 9 _ _ rfl rfl)
  obtain ⟨a10, rfl, i10⟩ := cell_int Tryz.underlying3 (h0 10 _ _ rfl rfl)
  obtain ⟨a11, rfl, i11⟩ := cell_int Tryz.underlying5 (h0 11 _ _ rfl rfl)
  obtain ⟨a12, rfl, i12⟩ := cell_int Tryz.underlying5 (h0 12 _ _ rfl rfl)
  obtain ⟨a13, rfl, i13⟩ := cell_int Tryz.underlying5 (h0 13 _ _ rfl rfl)
  obtain ⟨a14, rfl, i14⟩ := cell_int Tryz.underlying45 (h0 14 _ _ rfl rfl)
  exact scall_true (θ := fun _ => ⟨none, 0, 0⟩) (args := [.agg [I a0, I a1, I a2, I a3, I a4, I a5, I a6, B a7, B a8, B a9, I a10, N .u8 a11, N .u8 a12, N .u8 a13, N .u16 a14]]) (dTurn i11 i12 i13 i14) hp_nil hG

theorem contract (H : Type) (enc : TypeId × Value → H) (W : World) (base : Nat) (args : Array Value) (ds gs : List (DataW H)) (before : List MemPlace)
    (hval : ∀ (j : Nat) t v, Tryz.f8.params[j]? = some t → args[j]? = some v → Value.okWide Tryz.prog W .any base t v)
    (hW : DataW.Whole enc Tryz.prog Tryz.f8.params.toList Rows.datesTurnSpec.vars false W args.toList ds gs before) (hL : laidMetH Tryz.prog Rows.datesTurnRow.laid W) :
    Calls Tryz.prog 8 args W fun e W' => ∃ v, e = .returned v ∧ Rows.datesTurnSpec.post enc Tryz.prog Tryz.f8 false true false false W args v W' :=
  law_contractT (f := Tryz.f8) (b := 4) (by kernel_rfl) Tryz.underlying4 rfl (fun ds hl => by
    rw [Tryz.params8] at hl
    match ds, hl with
    | [x0], _ => rfl) (by rw [Tryz.params8]; intro t ht; simp only [List.mem_cons, List.not_mem_nil, or_false] at ht; subst ht; exact ⟨by kernel_rfl, of_decide_eq_true (by kernel_rfl)⟩) walk W base args ds gs before hval hW hL

theorem laid_met (os : Os) : laidMetH Tryz.prog Rows.datesTurnRow.laid ((laidWorldT os).forCall (fun _ _ => 0) ⟨#[], #[.agg #[.int .i64 0, .int .i64 0, .int .i64 0, .int .i64 0, .int .i64 0, .int .i64 0, .int .i64 0, .bool false, .bool false, .bool false, .int .i64 0, .int .u8 0, .int .u8 0, .int .u8 0, .int .u16 0]], []⟩).memory :=
  laidMetH_of_parts (laidMet_of_run' 8 (by kernel_rfl) (by kernel_rfl)) (by kernel_rfl)
theorem reads (os : Os) {H : Type} (enc : TypeId × Value → H) : ∃ places, DataW.whole enc Tryz.prog ((laidWorldT os).forCall (fun _ _ => 0) ⟨#[], #[.agg #[.int .i64 0, .int .i64 0, .int .i64 0, .int .i64 0, .int .i64 0, .int .i64 0, .int .i64 0, .bool false, .bool false, .bool false, .int .i64 0, .int .u8 0, .int .u8 0, .int .u8 0, .int .u16 0]], []⟩).memory Tryz.f8.params.toList Rows.datesTurnSpec.vars false #[Value.agg #[.int .i64 0, .int .i64 0, .int .i64 0, .int .i64 0, .int .i64 0, .int .i64 0, .int .i64 0, .bool false, .bool false, .bool false, .int .i64 0, .int .u8 0, .int .u8 0, .int .u8 0, .int .u16 0]].toList 8 = some ([.agg [.agg [.lit (.int .i64 0), .lit (.int .i64 0), .lit (.int .i64 0), .lit (.int .i64 0), .lit (.int .i64 0), .lit (.int .i64 0), .lit (.int .i64 0), .lit (.bool false), .lit (.bool false), .lit (.bool false), .lit (.int .i64 0)], .lit (.int .u8 0), .lit (.int .u8 0), .lit (.int .u8 0), .lit (.int .u16 0)]], [], places) :=
  ⟨[], by kernel_rfl⟩

theorem lifted (os : Os) (started : os.Started) (H : Type) (enc : TypeId × Value → H) (F : Stop.Interp) :
    ReturnsInHanded {} Tryz.checked os 8 .any ((OpenSpec.ofChange Rows.datesTurnSpec).preRow enc Tryz.prog Tryz.f8 Rows.datesTurnRow.domain false Rows.datesTurnRow.laid) (((OpenSpec.ofChange Rows.datesTurnSpec).at F).post enc Tryz.prog Tryz.f8 false true false false) := by
  obtain ⟨places, hx⟩ := reads os enc
  refine returnsInHanded_of_row (C := Tryz.checked) (s := OpenSpec.ofChange Rows.datesTurnSpec) own started (by kernel_rfl) Tryz.func8
    (witness_row_at (enc := enc) (C := Tryz.checked) false (laidWorldT os) #[.agg #[.int .i64 0, .int .i64 0, .int .i64 0, .int .i64 0, .int .i64 0, .int .i64 0, .int .i64 0, .bool false, .bool false, .bool false, .int .i64 0, .int .u8 0, .int .u8 0, .int .u8 0, .int .u16 0]] rfl (by kernel_rfl) (by kernel_rfl) (by kernel_rfl)
      (OpenSpec.preRow_of_cond 8 hx (by kernel_rfl) (fun k hk => by cases hk) (by kernel_rfl) (laid_met os))) ?_
  intro W base args ds gs before hval hW _ _ _ hL _ _
  exact contract H enc W base args ds gs before hval hW hL

theorem j1 : (Rows.datesTurnRow.inPlace == Tryz.pinned.checked.prog.inPlace 8) = true := by kernel_rfl
theorem j2 : (Rows.datesTurnRow.unfollowed == Tryz.pinned.checked.prog.unfollowed 8) = true := by kernel_rfl
theorem j3 : (Rows.datesTurnRow.recurses == Tryz.pinned.checked.prog.recurses 8) = true := by kernel_rfl
theorem j4 : (Rows.datesTurnRow.named == Tryz.pinned.checked.prog.varsNamed 8) = true := by kernel_rfl
theorem j5 : (Rows.datesTurnRow.lifted == Tryz.pinned.checked.prog.liftsFinal) = true := fLifts
theorem facts : joinedFacts Tryz.pinned.checked.prog 8 Tryz.f8 (OpenSpec.ofChange Rows.datesTurnSpec).bare Rows.datesTurnRow = true := by
  unfold joinedFacts
  rw [j1, j2, j3, j4, j5, fMay, fHeard, fMaps, fOut]
  kernel_rfl
theorem funcNo : Tryz.pinned.checked.prog.funcNamed Rows.datesTurnRow.func = some 8 := by kernel_rfl
theorem goes : false = Rows.datesTurnRow.goesBy Tryz.pinned.checked.prog := by kernel_rfl
theorem words : OpenClaim.wfByText (OpenSpec.ofChange Rows.datesTurnSpec) Rows.datesTurnRow = true := by kernel_rfl

theorem said : Rows.DatesTurnSaid :=
  OpenClaim.holds_of_cond 8 Tryz.f8 rfl rfl rfl rfl rfl rfl rfl ⟨rfl, rfl, rfl, rfl, rfl⟩ rfl rfl rfl rfl rfl funcNo Tryz.func8 facts
    (of_decide_eq_true (by kernel_rfl)) (by unfold Func.isWrapper; first | (rw [if_pos (by decide +kernel)]; kernel_rfl) | (rw [if_neg (by decide +kernel)]; exact ⟨rfl, rfl⟩))
    (fun os started H enc _ F => by rw [OpenClaim.pre_eq_preRow]; exact lifted os started H enc F)

theorem plain (f : FuncId) (fn : Func) (hf : Tryz.pinned.checked.prog.funcNamed "demurrage/demurragelaw16.DatesTurn" = some f) (hfn : Tryz.pinned.checked.prog.funcs[f]? = some fn) :
    true = Tryz.pinned.checked.prog.looks [] ∧ ∀ (j : Nat) t, fn.params[j]? = some t → Tryz.pinned.checked.prog.wantsStandIn t = false := by
  obtain rfl : f = 8 := Option.some.inj ((show Tryz.prog.funcNamed "demurrage/demurragelaw16.DatesTurn" = some 8 by kernel_rfl).symm.trans hf) |>.symm
  obtain rfl : fn = Tryz.f8 := (Option.some.inj (Tryz.func8.symm.trans hfn)).symm
  refine ⟨fLooks, fun j t ht => ?_⟩
  rw [Tryz.params8] at ht
  have hm := Array.mem_of_getElem? ht
  simp only [List.mem_toArray, List.mem_cons, List.not_mem_nil, or_false] at hm
  have s0 : Tryz.prog.wantsStandIn 47 = false := (by kernel_rfl); subst hm
  exact s0

theorem card : Rows.DatesTurnCardSaid :=
  Claim7.holds_tied_plain_at .later [] _ _ _ _ said (fun _ h => by cases h) words (fun _ h => by cases h) datesTurn_row_tie rfl ⟨rfl, rfl⟩ mainIs rfl plain goes
end Go.Proofs.YthfmjoeampekgaaGreatDoor.datesTurn

#print axioms Go.Proofs.YthfmjoeampekgaaGreatDoor.datesTurn.card
