/-
  SX, part 9: a symbolic step is a step of the machine.
-/
import Derived.Test.YtehnnaanpmceiaaGreatDoorSx8
set_option linter.unusedVariables false
set_option linter.unusedSimpArgs false
namespace Go.Sx
open Go.RowKit

section
variable {P : Program} {b : Frame} {a : Act} {k : List Item} {cs : List Frame} {w : World} {ops : Array Oper}

variable {rx : Rx} {fn : FuncId} {T : Array Value} {o : Oper} {i : Nat} {rest : List Nat}

theorem eval_ds (T : Array Value) (ds : List Deferred) : (Act.mk T ds).eval = (Act.mk T []).eval := funext fun x => by cases x <;> rfl

theorem put_ds (T : Array Value) (ds : List Deferred) (d : Option Tmp) (v : Value) : (Act.mk T ds).put d v = ⟨((Act.mk T []).put d v).tmps, ds⟩ := by cases d <;> rfl

theorem mkFr_at (rx : Rx) (fn : FuncId) (T : Array Value) (todo : List Item) : mkFr rx fn T todo = ({ (default : Frame) with fn := fn, kind := .normal, roundOf := rx.rd } : Frame).atR { tmps := T, defers := rx.ds } todo := rfl

theorem fin_mk {v : Value} (ho : ops[i]? = some o) : (mkFr rx fn T (.inRegion ops (i :: rest) :: k)).finish v = mkFr rx fn ((Act.mk T []).put o.dst v).tmps (.inRegion ops rest :: k) := by
  rw [mkFr_at, Frame.finish_atR, ho]
  simp only [Option.bind_some]
  rw [put_ds]
  rfl

theorem no_defer {ρ : Operand → Value} {r : Next} {w' : World} (hr : (execOp ρ o).run P w = .ok r w') (hn : ∀ d, r ≠ .defer d) : ∀ c, o.op ≠ .defer c := by
  intro c hc
  unfold execOp at hr
  rw [hc] at hr
  simp only [Sem.run_bind] at hr
  cases hq : (resolve ρ c o.type).run P w with
  | ok d w1 =>
    rw [hq] at hr
    simp only [Result.andThen_ok, Sem.run_pure] at hr
    cases hr
    exact hn _ rfl
  | halt a b =>
    rw [hq] at hr
    simp [Result.andThen] at hr

theorem stepG_mk {r : Next} {w' : World} (ho : ops[i]? = some o) (hw : Region.wanted o (yielded ops T) = true) (hr : (execOp (Act.mk T []).eval o).run P w = .ok r w') (hn : ∀ d, r ≠ .defer d) :
    stepG P true { frame := mkFr rx fn T (.inRegion ops (i :: rest) :: k), callers := cs, status := .running, dying := none } w = stepG.apply P true (mkFr rx fn T (.inRegion ops (i :: rest) :: k)) cs none (execOp (Act.mk T []).eval o) w := by
  have h := stepGR_op (P := P) (b := { (default : Frame) with fn := fn, kind := .normal, roundOf := rx.rd }) (a := ⟨T, rx.ds⟩) (k := k) (cs := cs) (w := w) (rest := rest) ho hw
  rw [Oper.semAt_eq _ _ _ (no_defer hr hn), eval_ds] at h
  exact h

theorem stepM_value {v : Value} {w' : World} (ho : ops[i]? = some o) (hw : Region.wanted o (yielded ops T) = true) (hr : (execOp (Act.mk T []).eval o).run P w = .ok (.value v) w') :
    step P (lone (mkFr rx fn T (.inRegion ops (i :: rest) :: k)) cs w) = .next (lone (mkFr rx fn ((Act.mk T []).put o.dst v).tmps (.inRegion ops rest :: k)) cs w') := by
  have hg := stepG_mk (rx := rx) (fn := fn) (k := k) (cs := cs) (rest := rest) ho hw hr (by simp)
  refine step_lone_go ?_
  rw [hg, ← fin_mk ho]; simp [stepG.apply, hr]

theorem stepM_skip {w' : World} (ho : ops[i]? = some o) (hw : Region.wanted o (yielded ops T) = true) (hr : (execOp (Act.mk T []).eval o).run P w = .ok .skip w') :
    step P (lone (mkFr rx fn T (.inRegion ops (i :: rest) :: k)) cs w) = .next (lone (mkFr rx fn ((Act.mk T []).put o.dst undef).tmps (.inRegion ops rest :: k)) cs w') := by
  have hg := stepG_mk (rx := rx) (fn := fn) (k := k) (cs := cs) (rest := rest) ho hw hr (by simp)
  refine step_lone_go ?_
  rw [hg, ← fin_mk ho]; simp [stepG.apply, hr]

theorem stepM_enter {f : FuncId} {args : Array Value} {w' : World} (ho : ops[i]? = some o) (hw : Region.wanted o (yielded ops T) = true) (hr : (execOp (Act.mk T []).eval o).run P w = .ok (.enter f args) w') :
    step P (lone (mkFr rx fn T (.inRegion ops (i :: rest) :: k)) cs w) = .next (lone (Frame.enter P f args .normal) (mkFr rx fn T (.inRegion ops (i :: rest) :: k) :: cs) w') := by
  have hg := stepG_mk (rx := rx) (fn := fn) (k := k) (cs := cs) (rest := rest) ho hw hr (by simp)
  refine step_lone_go ?_
  rw [hg]; simp [stepG.apply, hr, mkFr, Frame.atR]

theorem stepM_off (ho : ops[i]? = some o) (hw : Region.wanted o (yielded ops T) = false) :
    step P (lone (mkFr rx fn T (.inRegion ops (i :: rest) :: k)) cs w) = .next (lone (mkFr rx fn ((Act.mk T []).put o.dst undef).tmps (.inRegion ops rest :: k)) cs w) := by
  have hs := stepR_op_skip (P := P) (b := { (default : Frame) with fn := fn, kind := .normal, roundOf := rx.rd }) (a := ⟨T, rx.ds⟩) (k := k) (cs := cs) (w := w) (ops := ops) (i := i) (rest := rest) (by simp [ho, hw])
  simp only [ho, Option.bind_some] at hs
  rw [put_ds] at hs
  exact hs

theorem stepM_cond {c : Operand} {x y : Code} {t : Bool} (h : (Act.mk T []).eval c = .bool t) : step P (lone (mkFr rx fn T (.code (.cond c x y) :: k)) cs w) = .next (lone (mkFr rx fn T (.code (if t then x else y) :: k)) cs w) :=
  stepR_cond (by rw [eval_ds]; exact h)

theorem stepM_draw {id : Nat} : step P (lone (mkFr rx fn T (.code (.region id ops true) :: k)) cs w) =
      .next (lone (mkFr rx fn T (.inRegion ops (Region.schedule (P.follows .mixedOrders) ops (w.tape w.drawn (.order fn id))) :: k)) cs w.drew) := stepR_region_draw

theorem stepM_scope {c : Code} : step P (lone (mkFr rx fn T (.code (.scope c) :: k)) cs w) = .next (lone (mkFr rx fn T (.code c :: .inScope c :: k)) cs w) :=
  step_lone_go (by simp [stepG, stepG.exec, mkFr, Frame.atR])
theorem stepM_inScope {c : Code} : step P (lone (mkFr rx fn T (.inScope c :: k)) cs w) = .next (lone (mkFr rx fn T k) cs w) :=
  step_lone_go (by simp [stepG, stepG.exec, mkFr, Frame.atR])

theorem enter_eq {f : FuncId} {fn : Func} {body : Code} {args : Array Value} (hf : P.funcs[f]? = some fn) (hb : fn.body = some body) :
    Frame.enter P f args .normal = mkFr {} f (args ++ Array.replicate (fn.ntmps - args.size) undef) [.code body] := by
  simp [Frame.enter, mkFr, Frame.atR, hf, hb]
end

section
variable {X : Cx} {θ : Th} {l : List (Option SV)} {hp : List (Option Vw)} {T : Array Value} {w : World}

theorem TOk.set {v : SV} {r : Value} {d : Option Tmp} {ds : List Deferred} (h : TOk θ l T) (hr : r = den θ v) : TOk θ (setT l d v) (((Act.mk T ds).put d r).tmps) := by
  cases d with
  | none => exact h
  | some d =>
    refine ⟨by simp [setT, Act.put, h.1], fun j u hj => ?_⟩
    simp only [setT, List.getElem?_set] at hj
    simp only [Act.put, Array.getElem?_setIfInBounds]
    split at hj
    · rename_i he
      subst he
      split at hj
      · rename_i hlt
        cases hj
        rw [h.1]
        simp [hlt, hr]
      · cases hj
    · rename_i he
      simp only [he, if_false]
      exact h.2 j u hj

theorem Ok.go {fr : SFr} {frs : List SFr} {todo' : List Item} (h : ∀ θ T cs w, TOk θ fr.tmps T → step X.P (lone (mkFr fr.rx fr.fn T fr.todo) cs w) = .next (lone (mkFr fr.rx fr.fn T todo') cs w))
    (hk : Ok X ⟨{ fr with todo := todo' } :: frs, hp⟩) : Ok X ⟨fr :: frs, hp⟩ := by
  refine Ok.of_step (c' := ⟨{ fr with todo := todo' } :: frs, hp⟩) (Nat.le_refl _) (fun θ m ms w hh => ?_) hk
  have hr := (hh.rel θ (Same.refl _ _)).fr
  cases hr with
  | cons h1 h2 =>
    obtain ⟨T, rfl, hT⟩ := h1
    refine ⟨mkFr fr.rx fr.fn T todo', ms, w, fun _ => ⟨none, 0, 0⟩, .one (h θ T _ w hT), Below.refl _ _, fun θ' hs _ => ?_⟩
    have hr' := hh.rel θ' hs
    refine ⟨hr'.hp, ?_⟩
    cases hr'.fr with
    | cons h1' h2' =>
      obtain ⟨T', he, hT'⟩ := h1'
      have : T' = T := by have := congrArg Frame.tmps he; simpa [mkFr, Frame.atR] using this.symm
      subst this
      exact .cons ⟨T', rfl, hT'⟩ h2'

/-- What the top frame knows, wherever views not yet made may lie. -/
theorem Holds.pre {fr : SFr} {frs : List SFr} {m : Frame} {ms : List Frame} (hh : Holds X θ ⟨fr :: frs, hp⟩ (m :: ms) w) :
    ∃ T, m = mkFr fr.rx fr.fn T fr.todo ∧ Pre X.P X.gl X.base θ fr.tmps hp T w ∧ ∀ θ', Same hp.length θ θ' → FrsOk θ' frs ms := by
  have hr := (hh.rel θ (Same.refl _ _)).fr
  cases hr with
  | cons h1 h2 =>
    obtain ⟨T, rfl, hT⟩ := h1
    refine ⟨T, rfl, ⟨fun θ' hs => ?_, fun t v ht => (List.getElem?_eq_some_iff.1 ht).1, hh.gok, hh.gb, hh.sz⟩, fun θ' hs => ?_⟩
    · have hr' := hh.rel θ' hs
      refine ⟨hr'.hp, ?_⟩
      cases hr'.fr with
      | cons h1' h2' =>
        obtain ⟨T', he, hT'⟩ := h1'
        have : T' = T := by have := congrArg Frame.tmps he; simpa [mkFr, Frame.atR] using this.symm
        subst this
        exact hT'
    · cases (hh.rel θ' hs).fr with
      | cons h1' h2' => exact h2'

theorem guardS_wanted {ops : Array Oper} {hs hs' : List Hint} {o : Oper} {ps : List Prop} {g : Bool} (h : guardS ops l hs o = some (ps, hs', g)) (hps : AllP ps) (hT : TOk θ l T) : Region.wanted o (yielded ops T) = g := by
  unfold guardS at h
  unfold Region.wanted
  cases hg : o.guard with
  | none => simp only [hg, Option.some.injEq, Prod.mk.injEq] at h; exact h.2.2
  | some q =>
    obtain ⟨j, want⟩ := q
    simp only [hg] at h ⊢
    unfold yielded
    cases hd : (ops[j]?).bind (·.dst) with
    | none => simp [hd] at h
    | some d =>
      simp only [hd, Option.bind_some] at h ⊢
      split at h
      · rename_i b hb
        have := hT.2 d _ hb
        split at h
        · rename_i t hs''
          simp only [Option.some.injEq, Prod.mk.injEq] at h
          obtain ⟨rfl, -, rfl⟩ := h
          simp only [this, den, hps.1]
          cases t <;> cases want <;> rfl
        · cases h
      · rename_i hb
        have := hT.2 d _ hb
        simp only [Option.some.injEq, Prod.mk.injEq] at h
        obtain ⟨-, -, rfl⟩ := h
        simp only [this, den, denL]
        rfl
      · cases h

end

end Go.Sx
