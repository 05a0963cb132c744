/-
  SX, part 15: a range over a function, by parts: each part is a run of SX in a world of its own; between two parts the loop's record is turned.
-/
import Derived.Test.YtehnnaanpmceiaaGreatDoorSxi
import Derived.RangeFuncLeaves
import Derived.RangeFuncRecord
import Derived.RangeFuncOwn
set_option linter.unusedVariables false
set_option linter.unusedSimpArgs false
namespace Go.Sx
open Go.RowKit

/-- From here the run comes to its end. -/
def ToEnd (X : Cx) (fr : Frame) (cs : List Frame) (w : World) : Prop := ∃ e w' fr', X.R e w' ∧ Comes X.P (lone fr cs w) (lone fr' X.ce w') e ∧ fr'.fn = X.f0 ∧ fr'.leaving X.P w' e

theorem ToEnd.head {X : Cx} {fr fr2 : Frame} {cs cs2 : List Frame} {w w2 : World} (h : step X.P (lone fr cs w) = .next (lone fr2 cs2 w2)) (k : ToEnd X fr2 cs2 w2) : ToEnd X fr cs w := by
  obtain ⟨e, w', fr', hR, hc, h1, h2⟩ := k
  exact ⟨e, w', fr', hR, Comes.of_steps (.one h) hc, h1, h2⟩

/-- A run of its own, from a world on: nothing that is there turns. -/
def Cx.seg (X : Cx) (θ : Th) (n : Nat) (w : World) (cs : List Frame) : Cx := { X with base := w.heap.size, w0 := w, θ0 := θ, n0 := n, cs := cs }

/-- Views, some of them, and not to be written. -/
def roOf : List (Option Vw) → List (Option Vw) → Prop
  | [], [] => True
  | _ :: r, none :: r' => roOf r r'
  | some v :: r, some u :: r' => v.ro = u ∧ roOf r r'
  | _, _ => False

theorem roOf.get : ∀ {a b : List (Option Vw)}, roOf a b → ∀ {t : Nat} {u : Vw}, b[t]? = some (some u) → ∃ v, a[t]? = some (some v) ∧ v.ro = u
  | [], [], _, t, u, h => by simp at h
  | x :: r, none :: r', h, 0, u, hu => by simp at hu
  | x :: r, none :: r', h, t + 1, u, hu => by
    have h' : roOf r r' := by cases x <;> exact h
    simpa using roOf.get h' (t := t) (u := u) (by simpa using hu)
  | some v :: r, some u' :: r', h, 0, u, hu => by simp at hu; subst hu; exact ⟨v, rfl, h.1⟩
  | some v :: r, some u' :: r', h, t + 1, u, hu => by simpa using roOf.get h.2 (t := t) (u := u) (by simpa using hu)
  | none :: r, some u' :: r', h, _, _, _ => by cases h
  | [], x :: _, h, _, _, _ => by cases x <;> cases h

theorem roOf.length : ∀ {a b : List (Option Vw)}, roOf a b → a.length = b.length
  | [], [], _ => rfl
  | x :: r, none :: r', h => by
    have h' : roOf r r' := by cases x <;> exact h
    simp only [List.length_cons]; rw [roOf.length h']
  | some v :: r, some u' :: r', h => by simp only [List.length_cons]; rw [roOf.length h.2]
  | none :: r, some u' :: r', h => by cases h
  | [], x :: _, h => by cases x <;> cases h
  | _ :: _, [], h => by cases h

theorem VwOk.toRo' {θ : Th} {b b' : Nat} {w : World} {d : Ad} {v : Vw} (h : VwOk θ b w d v) : VwOk θ b' w d v.ro := by
  cases v with
  | box o cs => exact ⟨h.1, fun h => by cases h⟩
  | row o el n sz f => obtain ⟨h1, h2, h3, h4, h5, h6⟩ := h; exact ⟨h1, h2, h3, h4, h5, fun h => by cases h⟩
  | map o k v f st => obtain ⟨b, h1, h2, h3⟩ := h; exact ⟨b, h1, (fun h => by cases h), h3⟩

theorem HpOk.roOf {θ : Th} {b b' : Nat} {w : World} {hp hp' : List (Option Vw)} (h : HpOk θ b hp w) (hr : Go.Sx.roOf hp hp') : HpOk θ b' hp' w := by
  refine ⟨fun t u hu => ?_, fun t t' u u' hu hu' hne ho => ?_⟩
  · obtain ⟨v, hv, rfl⟩ := hr.get hu
    exact (h.vw t v hv).toRo'
  · obtain ⟨v, hv, rfl⟩ := hr.get hu
    rw [ro_own] at ho; cases ho

/-- What is known of memory between two parts. -/
abbrev Mem (X : Cx) (θ : Th) (hp : List (Option Vw)) (w : World) : Prop := Holds X θ ⟨[], hp⟩ [] w

theorem Mem.hp {X : Cx} {θ : Th} {hp : List (Option Vw)} {w : World} (h : Mem X θ hp w) {θ' : Th} (hs : Same hp.length θ θ') : HpOk θ' X.base hp w := (h.rel θ' hs).hp

theorem Mem.mk' {X : Cx} {θ : Th} {hp : List (Option Vw)} {w : World} (h : ∀ θ', Same hp.length θ θ' → HpOk θ' X.base hp w) (ho : Same X.n0 X.θ0 θ) (hl : X.n0 ≤ hp.length) (hb : Below X.base X.w0 w) (hs : X.base ≤ w.heap.size) (hg : GOk X.gl w) (hgb : ∀ g v, (g, v) ∈ X.gl → g < X.base) : Mem X θ hp w :=
  ⟨fun θ' hs => ⟨h θ' hs, .nil⟩, ho, hl, hb, hs, hg, hgb⟩

theorem Holds.mem {X : Cx} {θ : Th} {c : SC} {fs : List Frame} {w : World} (h : Holds X θ c fs w) : Mem X θ c.hp w := ⟨fun θ' hs => ⟨(h.rel θ' hs).hp, .nil⟩, h.old, h.len, h.bel, h.sz, h.gok, h.gb⟩

theorem Mem.below {X : Cx} {θ : Th} {hp : List (Option Vw)} {w w' : World} (h : Mem X θ hp w) (hb : Below w.heap.size w w') : Mem X θ hp w' :=
  Mem.mk' (fun θ' hs => (h.hp hs).below hb) h.old h.len (h.bel.trans (hb.mono h.sz)) (Nat.le_trans h.sz hb.size) (h.gok.below h.gb (hb.mono h.sz)) h.gb

theorem Mem.alloc {X : Cx} {θ : Th} {hp : List (Option Vw)} {w : World} (h : Mem X θ hp w) (o : Obj) : Mem X θ hp (w.alloc o) := h.below (below_alloc_self w o)

def plainO : Obj → Bool
  | .cells _ _ _ => true
  | .map _ _ => true
  | _ => false

/-- What is no cells, and no map, may be turned. -/
theorem Mem.putObj {X : Cx} {θ : Th} {hp : List (Option Vw)} {w : World} {l : Nat} {o o' : Obj} (h : Mem X θ hp w) (hl : w.heap[l]? = some o) (hc : plainO o = false) (hb : X.base ≤ l) : Mem X θ hp (w.putObj l o') := by
  have hlt := (Array.getElem?_eq_some_iff.1 hl).1
  have hne : ∀ {b : Nat} {c : Array Value} {el : TypeId} {z : Nat × Nat}, w.heap[b]? = some (.cells c el z) → b ≠ l := fun hb' e => by
    subst e; rw [hl] at hb'; cases hb'; cases hc
  have hcell : ∀ {a : Addr} {v : Value}, w.cell? a = some v → (w.putObj l o').cell? a = some v := fun {a v} ha => by
    rw [← ha]
    refine World.cell?_of_block (World.putObj_heap_other ?_)
    intro e
    have : w.cell? a = none := by
      unfold World.cell?
      rw [e, hl]
      cases o <;> first | rfl | (simp [plainO] at hc)
    rw [this] at ha; cases ha
  have hL : ∀ {θ : Th} {a : Addr} {j : Nat} {cs : List SV}, Lies θ w a j cs → Lies θ (w.putObj l o') a j cs := fun hl k v hk => hcell (hl k v hk)
  have hB : ∀ {b : Nat} {c : Array Value} {el : TypeId} {z : Nat × Nat}, w.heap[b]? = some (.cells c el z) → (w.putObj l o').heap[b]? = some (.cells c el z) := fun hb' => by
    rw [World.putObj_heap_other (hne hb')]; exact hb'
  have hB' : ∀ {b : Nat} {es : Array MapEntry} {c : Nat}, w.heap[b]? = some (.map es c) → (w.putObj l o').heap[b]? = some (.map es c) := fun {b} {es} {c} hb' => by
    rw [World.putObj_heap_other (fun e => by subst e; rw [hl] at hb'; cases hb'; cases hc)]; exact hb'
  have hbel : Below X.base w (w.putObj l o') := (Below.refl X.base w).grown (grownBy_putObj' w l o') h.sz (fun k e => by cases e; omega)
  refine Mem.mk' (fun θ' hs => ?_) h.old h.len (h.bel.trans hbel) (Nat.le_trans h.sz hbel.size) (h.gok.below h.gb hbel) h.gb
  obtain ⟨h1, h2⟩ := h.hp hs
  refine ⟨fun t v hv => ?_, h2⟩
  have h3 := h1 t v hv
  cases v with
  | box o cs =>
    refine ⟨fun hn => ?_, fun ho => ?_⟩
    · obtain ⟨a, ha, hl⟩ := h3.1 hn; exact ⟨a, ha, hL hl⟩
    · obtain ⟨b, h1, h2, c, el, h3, h4⟩ := h3.2 ho; exact ⟨b, h1, h2, c, el, hB h3, h4⟩
  | row o el n sz f =>
    obtain ⟨e1, e2, e3, e4, e5, e6⟩ := h3
    refine ⟨e1, e2, e3, e4, fun a ha i hi => hL (e5 a ha i hi), fun ho => ?_⟩
    rcases e6 ho with h | ⟨b, c, d1, d2, d3, d4⟩
    · exact .inl h
    · exact .inr ⟨b, c, d1, d2, hB d3, d4⟩
  | map o k v f st => obtain ⟨b, h1, h2, es, c, h4, h5⟩ := h3; exact ⟨b, h1, h2, es, c, hB' h4, h5⟩

/-- A part begins. -/
theorem seg_start {X : Cx} {θ : Th} {hp hp' : List (Option Vw)} {w : World} {rx : Rx} {fn : FuncId} {l : List (Option SV)} {T : Array Value} {todo : List Item} {cs : List Frame} (hm : Mem X θ hp w) (hr : roOf hp hp')
    (hT : ∀ θ', Same hp.length θ θ' → TOk θ' l T) (h : Ok (X.seg θ hp.length w cs) ⟨[⟨fn, l, todo, rx⟩], hp'⟩) : ToEnd X (mkFr rx fn T todo) cs w := by
  have hl := hr.length
  refine h θ (mkFr rx fn T todo) [] w ⟨fun θ' hs => ?_, Same.refl _ _, by show hp.length ≤ hp'.length; omega, Below.refl _ _, Nat.le_refl _, hm.gok, fun g v hg => Nat.lt_of_lt_of_le (hm.gb g v hg) hm.sz⟩
  have hs' : Same hp.length θ θ' := by rw [hl]; exact hs
  exact ⟨(hm.hp hs').roOf hr, .cons ⟨T, rfl, hT θ' hs'⟩ .nil⟩

/-- A part ends. -/
theorem seg_end {X : Cx} {θ θ2 : Th} {hp hp2 : List (Option Vw)} {w w2 : World} {cs : List Frame} {frs : List SFr} {fs : List Frame} (hm : Mem X θ hp w) (h : Holds (X.seg θ hp.length w cs) θ2 ⟨frs, hp2⟩ fs w2) :
    Mem X θ2 hp w2 ∧ Below w.heap.size w w2 ∧ Same hp.length θ θ2 := by
  have hb : Below w.heap.size w w2 := h.bel
  have hs0 : Same hp.length θ θ2 := h.old
  have h1 := hm.below hb
  refine ⟨Mem.mk' (fun θ' hs => h1.hp (hs0.trans hs)) (fun t ht => ?_) hm.len h1.bel h1.sz h1.gok hm.gb, hb, hs0⟩
  rw [hs0 t (Nat.lt_of_lt_of_le ht hm.len)]
  exact hm.old t ht

/-- Memory, as another reading has it. -/
theorem Mem.same {X : Cx} {θ θ2 : Th} {hp : List (Option Vw)} {w : World} (hm : Mem X θ hp w) (hs0 : Same hp.length θ θ2) : Mem X θ2 hp w :=
  Mem.mk' (fun θ' hs => hm.hp (hs0.trans hs)) (fun t ht => by rw [hs0 t (Nat.lt_of_lt_of_le ht hm.len)]; exact hm.old t ht) hm.len hm.bel hm.sz hm.gok hm.gb

section
variable {P : Program} {k : List Item} {cs : List Frame} {w : World} {ops : Array Oper} {rx : Rx} {fn : FuncId} {T : Array Value} {o : Oper} {i : Nat} {rest : List Nat}

theorem round_mk (l : Nat) (f : FuncId) (T : Array Value) (assign body : Code) : Frame.round l f T assign body .normal = mkFr ⟨some l, []⟩ f T [.code assign, .beginRound, .code body] := rfl

theorem stepM_round {l : Nat} {f : FuncId} {T' : Array Value} {assign body : Code} {w' : World} (ho : ops[i]? = some o) (hw : Region.wanted o (yielded ops T) = true) (hr : (execOp (Act.mk T []).eval o).run P w = .ok (.round l f T' assign body) w') :
    step P (lone (mkFr rx fn T (.inRegion ops (i :: rest) :: k)) cs w) = .next (lone (mkFr ⟨some l, []⟩ f T' [.code assign, .beginRound, .code body]) (mkFr rx fn T (.inRegion ops (i :: rest) :: k) :: cs) w') := by
  have hg := stepG_mk (rx := rx) (fn := fn) (k := k) (cs := cs) (rest := rest) ho hw hr (by simp)
  refine step_lone_go ?_
  rw [hg, ← round_mk]; simp [stepG.apply, hr, mkFr, Frame.atR]

/-- yield is called. -/
theorem run_callYield {ρ : Operand → Value} {f : Operand} {args : Array Operand} {ats : Array TypeId} {l : Nat} {r : Loop} {vs : Array Value} (ho : o.op = .call ⟨.value f, args, ats⟩) (hf : ρ f = .func (.yield l) #[] #[]) (ha : args.map ρ = vs)
    (hl : w.heap[l]? = some (.loop r)) (hs : vs.size = r.params.size) :
    (execOp ρ o).run P w = .ok (.round l r.fn ((r.params.zip vs).foldl (fun tmps (t, a) => tmps.setIfInBounds t a) r.tmps) r.assign r.body) w := by
  have h := run_yield (P := P) (args := vs) hl hs
  simp [execOp, ho, resolve, hf, ha, Deferred.ofValue, invoke, Sem.run_bind, h]
end

/-- The statement is entered. -/
theorem ToEnd.rangeFunc {X : Cx} {fn : FuncId} {T : Array Value} {k : List Item} {cs : List Frame} {w : World} {g : Operand} {ps : Array Tmp} {assign body : Code} {gf : FuncId} {lb : Array Value} {F : Func} {b : Code}
    (hg : (Act.mk T []).eval g = .func (.func gf) #[] lb) (hf : X.P.funcs[gf]? = some F) (hnm : (F.name == "runtime.NumGoroutine") = false) (hb : F.body = some b)
    (k' : ToEnd X (mkFr {} gf ((#[.func (.yield (w.heap.size + 1)) #[] #[]] ++ lb) ++ Array.replicate (F.ntmps - (#[Value.func (.yield (w.heap.size + 1)) #[] #[]] ++ lb).size) undef) [.code b])
      (mkFr ⟨none, [{ target := .collected w.heap.size, args := #[] }]⟩ fn T (.inRangeFunc (w.heap.size + 1) :: k) :: cs)
      ((w.alloc (.deferred (some []))).alloc (.loop { state := .ready, pending := none, fn, tmps := T, params := ps, assign, body, defers := w.heap.size }))) :
    ToEnd X (mkFr {} fn T (.code (.rangeFunc g ps assign body) :: k)) cs w := by
  have hcall : ∀ args w, (callFunc gf args).run X.P w = .ok (.enter gf args) w := fun args w => by
    have h1 : F.name ≠ "runtime.NumGoroutine" := by simpa using hnm
    simp [callFunc, hf, h1, hb, Sem.run_bind]
  have hst := stepR_rangeFunc (P := X.P) (b := { (default : Frame) with fn := fn, kind := .normal, roundOf := none }) (a := ⟨T, []⟩) (k := k) (cs := cs) (w := w) (g := g) (ps := ps) (assign := assign) (body := body)
    (d := { target := .fn (.func gf) lb, args := #[.func (.yield (w.heap.size + 1)) #[] #[]] }) (f := gf) (args := #[.func (.yield (w.heap.size + 1)) #[] #[]] ++ lb)
    (w₁' := (w.alloc (.deferred (some []))).alloc (.loop { state := .ready, pending := none, fn, tmps := T, params := ps, assign, body, defers := w.heap.size })) (w₂ := (w.alloc (.deferred (some []))).alloc (.loop { state := .ready, pending := none, fn, tmps := T, params := ps, assign, body, defers := w.heap.size }))
    (run_enterLoop_outer (P := X.P) (w := w) fn T ps assign body) (by simp only [resolve, hg]; simp [Deferred.ofValue, Sem.run_bind, Sem.run_pure, Result.andThen_ok, Act.eval]) (by simp [invoke, hcall])
  rw [enter_eq hf hb] at hst
  exact ToEnd.head hst k'

/-- A round begins. -/
theorem ToEnd.beginRound {X : Cx} {fn : FuncId} {T : Array Value} {k : List Item} {cs : List Frame} {w : World} {l : Nat} {r : Loop} (hl : w.heap[l]? = some (.loop r)) (hr : r.state = .ready)
    (k' : ToEnd X (mkFr ⟨some l, []⟩ fn T k) cs (w.putObj l (.loop { r with state := .busy }))) : ToEnd X (mkFr ⟨some l, []⟩ fn T (.beginRound :: k)) cs w :=
  ToEnd.head (stepR_beginRound (b := { (default : Frame) with fn := fn, kind := .normal, roundOf := some l }) rfl (run_beginRound hl hr)) k'

/-- A round comes to its end: the iterator goes on. -/
theorem ToEnd.endRound {X : Cx} {fn fn2 : FuncId} {T T2 : Array Value} {k : List Item} {cs : List Frame} {w : World} {l : Nat} {r : Loop} {rx2 : Rx} {ops : Array Oper} {i : Nat} {rest : List Nat} {o : Oper} (hl : w.heap[l]? = some (.loop r)) (ho : ops[i]? = some o)
    (k' : ToEnd X (mkFr rx2 fn2 ((Act.mk T2 []).put o.dst (.bool true)).tmps (.inRegion ops rest :: k)) cs (w.putObj l (.loop { r with state := .ready, pending := none }))) :
    ToEnd X (mkFr ⟨some l, []⟩ fn T []) (mkFr rx2 fn2 T2 (.inRegion ops (i :: rest) :: k) :: cs) w := by
  have h := stepR_round_end (P := X.P) (b := { (default : Frame) with fn := fn, kind := .normal, roundOf := some l }) (a := ⟨T, []⟩) (c := mkFr rx2 fn2 T2 (.inRegion ops (i :: rest) :: k)) (cs := cs) rfl rfl (run_endRound none hl)
  rw [show (Option.isNone (none : Option Code)) = true from rfl, if_pos rfl, fin_mk ho] at h
  exact ToEnd.head h k'

/-- The iterator is at its end. -/
theorem ToEnd.iterEnd {X : Cx} {fn fn2 : FuncId} {T T2 : Array Value} {k2 : List Item} {cs : List Frame} {w : World} {l : Nat} {r : Loop} {rx2 : Rx} {F : Func} {todo : List Item} (htodo : todo = [] ∨ ∃ k, todo = .code .ret :: k) (hf : X.P.funcs[fn]? = some F) (hres : F.results = #[])
    (hl : w.heap[l]? = some (.loop r)) (hs : r.state ≠ .busy) (hp : r.pending = none)
    (k' : ToEnd X (mkFr rx2 fn2 T2 k2) cs (w.putObj l (.loop { r with state := .exhausted }))) :
    ToEnd X (mkFr {} fn T todo) (mkFr rx2 fn2 T2 (.inRangeFunc l :: k2) :: cs) w := by
  refine ToEnd.head (to_return rfl htodo _) ?_
  have hleave : ({ mkFr {} fn T todo with mode := .returning } : Frame).leaving X.P w (.returned (.tuple #[])) := by
    refine ⟨rfl, rfl, rfl, F, hf, ?_⟩
    unfold results
    rw [hres]
    simp
  refine ToEnd.head (step_leave_returned hleave) ?_
  have h1 : (mkFr rx2 fn2 T2 (.inRangeFunc l :: k2)).finish (.tuple #[]) = mkFr rx2 fn2 T2 (.endRangeFunc l :: k2) := finish_atR_inRangeFunc l _
  rw [h1]
  have h2 := stepR_endRangeFunc (P := X.P) (b := { (default : Frame) with fn := fn2, kind := .normal, roundOf := rx2.rd }) (a := ⟨T2, rx2.ds⟩) (k := k2) (cs := cs) (run_endLoop hl hs)
  have e : ((r.pending.map Item.code).toList ++ k2) = k2 := by rw [hp]; rfl
  rw [e] at h2
  exact ToEnd.head h2 k'

/-- The function leaves with its loop's mark: nothing was deferred in a round. -/
theorem ToEnd.leave {X : Cx} {fn : FuncId} {T : Array Value} {cs : List Frame} {w : World} {D : Nat} {todo : List Item} {v : Value} (htodo : todo = [] ∨ ∃ k, todo = .code .ret :: k) (hD : w.heap[D]? = some (.deferred (some []))) (hce : X.ce = cs) (hf0 : fn = X.f0)
    (hres : ∃ F, X.P.funcs[fn]? = some F ∧ (results F T).run X.P (w.putObj D (.deferred none)) = .ok v (w.putObj D (.deferred none)))
    (hR : X.R (.returned v) (w.putObj D (.deferred none))) : ToEnd X (mkFr ⟨none, [{ target := .collected D, args := #[] }]⟩ fn T todo) cs w := by
  refine ToEnd.head (to_return rfl htodo _) ?_
  refine ToEnd.head (step_collected (d := { target := .collected D, args := #[] }) (ds := []) (by simp) rfl rfl (run_takeDeferred hD)) ?_
  obtain ⟨F, hf, hr⟩ := hres
  refine ⟨.returned v, w.putObj D (.deferred none), ({ ({ mkFr ⟨none, [{ target := .collected D, args := #[] }]⟩ fn T todo with mode := .returning } : Frame) with defers := [] ++ [] } : Frame), hR, ?_, hf0, ?_⟩
  · rw [hce]; exact Steps.refl _ _
  · exact ⟨rfl, rfl, rfl, F, hf, hr⟩

/-- A part comes to its stop. -/
theorem seg_stop {X : Cx} {θ : Th} {hp hp2 : List (Option Vw)} {w : World} {cs : List Frame} {fn : FuncId} {l : List (Option SV)} {todo : List Item} {rx : Rx} (hm : Mem X θ hp w) (hlen : hp2.length = hp.length)
    (h : ∀ θ2 T w2, Mem X θ2 hp w2 → Same hp.length θ θ2 → Below w.heap.size w w2 → (∀ θ', Same hp.length θ2 θ' → TOk θ' l T) → ToEnd X (mkFr rx fn T todo) cs w2) :
    Ok (X.seg θ hp.length w cs) ⟨[⟨fn, l, todo, rx⟩], hp2⟩ := by
  intro θ2 fr ms w2 hh
  obtain ⟨T, rfl, hpre, hrest⟩ := hh.pre
  have hms : ms = [] := by cases hrest θ2 (Same.refl _ _); rfl
  subst hms
  obtain ⟨h1, h2, h3⟩ := seg_end hm hh
  exact h θ2 T w2 h1 h3 h2 (fun θ' hs => (hpre.inv θ' (by rw [← hlen] at hs; exact hs)).2)

/-- Slots that are known, fewer of them. -/
def subT : List (Option SV) → List (Option SV) → Prop
  | none :: r, _ :: r' => subT r r'
  | some v :: r, some u :: r' => v = u ∧ subT r r'
  | [], [] => True
  | _, _ => False

theorem subT.length : ∀ {a b : List (Option SV)}, subT a b → a.length = b.length
  | [], [], _ => rfl
  | none :: r, _ :: r', h => by simp only [List.length_cons]; rw [subT.length (a := r) (b := r') h]
  | some v :: r, some u :: r', h => by simp only [List.length_cons]; rw [subT.length h.2]
  | some v :: r, none :: r', h => by cases h
  | [], x :: _, h => by cases h
  | none :: _, [], h => by cases h
  | some _ :: _, [], h => by cases h

theorem subT.get : ∀ {a b : List (Option SV)}, subT a b → ∀ {j : Nat} {v : SV}, a[j]? = some (some v) → b[j]? = some (some v)
  | [], [], _, j, v, h => by simp at h
  | none :: r, _ :: r', h, 0, v, hv => by simp at hv
  | none :: r, x :: r', h, j + 1, v, hv => by simpa using subT.get (a := r) (b := r') h (j := j) (v := v) (by simpa using hv)
  | some v' :: r, some u :: r', h, 0, v, hv => by simp at hv; subst hv; rw [← h.1]; rfl
  | some v' :: r, some u :: r', h, j + 1, v, hv => by simpa using subT.get h.2 (j := j) (v := v) (by simpa using hv)
  | some v :: r, none :: r', h, _, _, _ => by cases h
  | [], x :: _, h, _, _, _ => by cases h
  | none :: _, [], h, _, _, _ => by cases h
  | some _ :: _, [], h, _, _, _ => by cases h

theorem TOk.sub {θ : Th} {l l' : List (Option SV)} {T : Array Value} (h : TOk θ l T) (hs : subT l' l) : TOk θ l' T := ⟨by rw [hs.length]; exact h.1, fun j v hj => h.2 j v (hs.get hj)⟩

/-- A call's slots. -/
theorem TOk.enter {θ : Th} {args : List SV} {vals : Array Value} {k : Nat} (h : vals.toList = denL θ args) : TOk θ (args.map some ++ List.replicate k (some (.tup []))) (vals ++ Array.replicate k undef) := by
  have hla : vals.size = args.length := by rw [← Array.length_toList, h, denL_map]; simp
  refine ⟨by simp [hla], fun j v hj => ?_⟩
  rw [List.getElem?_append] at hj
  simp only [List.length_map] at hj
  split at hj
  · rename_i hlt
    rw [List.getElem?_map] at hj
    cases hq : args[j]? with
    | none => simp [hq] at hj
    | some u =>
      simp [hq] at hj
      subst hj
      rw [Array.getElem?_append_left (by omega), ← Array.getElem?_toList, h]
      simpa using denL_get (θ := θ) hq
  · rename_i hge
    rw [List.getElem?_replicate] at hj
    split at hj
    · cases hj
      rw [Array.getElem?_append_right (by omega), Array.getElem?_replicate, if_pos (by omega)]
      rfl
    · cases hj

/-- A store into a box of the call's own, between two parts. -/
theorem ToEnd.store {X : Cx} {θ : Th} {hp : List (Option Vw)} {w : World} {rx : Rx} {fn : FuncId} {l : List (Option SV)} {T : Array Value} {cs : List Frame} {ops : Array Oper} {i : Nat} {rest : List Nat} {k : List Item} {o : Oper} {ty : TypeId} {p x : Operand} {t j : Nat} {v : SV} {bx vcs : List SV}
    (hm : Mem X θ hp w) (hT : ∀ θ', Same hp.length θ θ' → TOk θ' l T) (ho : ops[i]? = some o) (hg : o.guard = none) (hd : o.dst = none) (hop : o.op = .store ty p x) (hp' : ev l p = some (.ptr t j)) (hv : ev l x = some v)
    (ht : getV hp t = some (.box true bx)) (hsz : szOf X.P ty = some vcs.length) (hc : cellsS v = some vcs) (h1 : vcs.all one = true) (hle : j + vcs.length ≤ bx.length) (hsc : scL 0 vcs = true)
    (k' : ∀ w', Mem X θ (hp.set t (some (.box true (bx.take j ++ vcs ++ bx.drop (j + vcs.length))))) w' → (∀ (b : Nat) (ob : Obj), w.heap[b]? = some ob → ob.isCells = false → w'.heap[b]? = some ob) → ToEnd X (mkFr rx fn T (.inRegion ops rest :: k)) cs w') :
    ToEnd X (mkFr rx fn T (.inRegion ops (i :: rest) :: k)) cs w := by
  have hz : ∀ θ', denL θ' vcs = denL θ vcs := fun θ' => denL_sc (n := 0) (fun t ht => absurd ht (Nat.not_lt_zero _)) vcs hsc
  have htv := getV_some ht
  have hh0 := hm.hp (Same.refl _ θ)
  obtain ⟨hA, hB⟩ := hh0.vw t _ htv
  obtain ⟨b, hb, hbb, c, el, hgc, hcs⟩ := hB rfl
  have hrun : (execOp (Act.mk T []).eval o).run X.P w = .ok .skip (w.setRow b (c.toList.take j ++ denL θ vcs ++ c.toList.drop (j + vcs.length)).toArray) := by
    have hs := run_storeVar' (P := X.P) (θ := θ) (ty := ty) (o := j) hgc hsz hc h1 (by omega)
    have hT0 := hT θ (Same.refl _ _)
    simp only [execOp, hop, Instr.storeAt, Sem.run_bind, ev_den hT0 hp', ev_den hT0 hv, den, hb, Option.map_some, at_, Nat.zero_add, Instr.sureAddr, Sem.run_pure, Result.andThen_ok, hs]
  have hst := stepM_skip (P := X.P) (rx := rx) (fn := fn) (T := T) (k := k) (cs := cs) (rest := rest) ho (wanted_none hg) hrun
  have hput : (Act.mk T []).put o.dst undef = ⟨T, []⟩ := by rw [hd]; rfl
  rw [hput] at hst
  refine ToEnd.head hst (k' _ ?_ ?_)
  · have hbel : Below X.base w (w.setRow b (c.toList.take j ++ denL θ vcs ++ c.toList.drop (j + vcs.length)).toArray) := below_setRow hbb _
    have hlen : (hp.set t (some (.box true (bx.take j ++ vcs ++ bx.drop (j + vcs.length))))).length = hp.length := by simp
    refine Mem.mk' (fun θ' hs => ?_) hm.old (by rw [hlen]; exact hm.len) (hm.bel.trans hbel) (Nat.le_trans hm.sz hbel.size) (hm.gok.below hm.gb hbel) hm.gb
    rw [hlen] at hs
    have hh := hm.hp hs
    obtain ⟨hA', hB'⟩ := hh.vw t _ htv
    have htl : t < hp.length := (List.getElem?_eq_some_iff.1 htv).1
    have hb' : (θ' t).base = some ⟨b, 0, none⟩ := by rw [hs t htl]; exact hb
    refine hh.write (v' := .box true _) htv rfl rfl hb' rfl (fun k hk => setRow_other w b k _ hk) ?_
    have hnew : (w.setRow b (c.toList.take j ++ denL θ vcs ++ c.toList.drop (j + vcs.length)).toArray).heap[b]? = some (.cells (c.toList.take j ++ denL θ vcs ++ c.toList.drop (j + vcs.length)).toArray el (0, 0)) :=
      setRow_heap w b c _ el (0, 0) hgc
    have hcell : bx ≠ [] → c.toList = denL θ' bx := fun hn => by
      obtain ⟨a, ha, hl⟩ := hA' hn
      rw [hb'] at ha; cases ha
      exact whole_cells hgc hcs hl
    refine ⟨fun hn => ⟨_, hb', ?_⟩, fun _ => ⟨b, hb', hbb, _, el, hnew, by simp [denL_map, hcs]⟩⟩
    intro k u hk
    simp only [at_, Nat.zero_add, World.cell?, hnew]
    have hcs' : c.toList = denL θ' bx := by
      by_cases he : bx = []
      · subst he
        simp at hcs
        simp [denL, hcs]
      · exact hcell he
    rw [hcs', ← hz θ']
    have := denL_get (θ := θ') hk
    simpa [denL_map, List.map_take, List.map_drop] using this
  · intro b' ob hb' hnc
    rw [setRow_other w b b' _ (fun e => by subst e; rw [hgc] at hb'; cases hb'; cases hnc)]
    exact hb'

theorem wanted_some {o : Oper} {j d : Nat} {want t : Bool} {ops : Array Oper} {T : Array Value} (hg : o.guard = some (j, want)) (hd : (ops[j]?).bind (·.dst) = some d) (hv : T[d]? = some (.bool t)) : Region.wanted o (yielded ops T) = (t == want) := by
  unfold Region.wanted yielded
  rw [hg]
  simp only [hd, Option.bind_some, hv]
  cases t <;> cases want <;> rfl

theorem kept {l : Nat} {o : Obj} {w w' : World} (h : w.heap[l]? = some o) (hb : Below w.heap.size w w') : w'.heap[l]? = some o := by
  rw [hb.block _ (Array.getElem?_eq_some_iff.1 h).1]; exact h

end Go.Sx
