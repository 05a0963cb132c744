/-
  SX, part 1: what one operation does, symbolically; each is what the model's operation does.
-/
import Derived.Test.YtehnnaanpmceiaaGreatDoorSx0
import Derived.Laws.IdiomCopy
import Derived.WalkKit
set_option linter.unusedVariables false
set_option linter.unusedSimpArgs false
namespace Go.Sx
open Go.RowKit

inductive Hint where
  | b (v : Bool)
  | inl
  | call (σ : List Nat) (res : SV) (new : List (Option Vw))
  | row (f : Nat → List SV)
  | t
  | w
  | draw (m : Nat) (F : List Nat) (k : Nat)
  | ext (v : SV)

inductive Ef where
  | val (v : SV) (hp : List (Option Vw))
  | skip (hp : List (Option Vw))
  | enter (f : FuncId) (args : List SV)

def AllP : List Prop → Prop
  | [] => True
  | p :: ps => p ∧ AllP ps

theorem AllP_append : ∀ {ps qs : List Prop}, AllP (ps ++ qs) → AllP ps ∧ AllP qs
  | [], _, h => ⟨trivial, h⟩
  | _ :: _, _, h => ⟨⟨h.1, (AllP_append h.2).1⟩, (AllP_append h.2).2⟩

/-- A number that its kind holds. -/
def InR : IntKind → Int → Prop
  | .i8, x => -128 ≤ x ∧ x ≤ 127
  | .i16, x => -32768 ≤ x ∧ x ≤ 32767
  | .i32, x => -2147483648 ≤ x ∧ x ≤ 2147483647
  | .i64, x => -9223372036854775808 ≤ x ∧ x ≤ 9223372036854775807
  | .u8, x => 0 ≤ x ∧ x ≤ 255
  | .u16, x => 0 ≤ x ∧ x ≤ 65535
  | .u32, x => 0 ≤ x ∧ x ≤ 4294967295
  | .u64, x => 0 ≤ x ∧ x ≤ 18446744073709551615

theorem wrap_InR {k : IntKind} {x : Int} (h : InR k x) : k.wrap x = x := by
  cases k <;> simp only [InR] at h <;> simp only [IntKind.wrap, IntKind.signed, IntKind.bits] <;> simp <;> omega

def ofV : Value → SV
  | .agg cs => .agg (cs.toList.map .val)
  | .tuple vs => .tup (vs.toList.map .val)
  | v => .val v

theorem denL_vals (θ : Th) (l : List Value) : denL θ (l.map .val) = l := by
  rw [denL_map, List.map_map]
  induction l with
  | nil => rfl
  | cons a l ih => simp only [List.map_cons, Function.comp, den] at *; rw [ih]

theorem den_ofV (θ : Th) (v : Value) : den θ (ofV v) = v := by
  cases v <;> simp only [ofV, den, denL_vals]

def ev (l : List (Option SV)) : Operand → Option SV
  | .tmp t => match l[t]? with
    | some x => x
    | none => none
  | .const v => some (ofV v)
  | .global g => some (.val (.pointer (some ⟨g, 0, none⟩)))
  | .func f => some (.fn (.func f) [] [])

theorem ev_den {θ : Th} {l : List (Option SV)} {T : Array Value} {ds : List Deferred} (h : TOk θ l T) {x : Operand} {v : SV} (he : ev l x = some v) : (Act.mk T ds).eval x = den θ v := by
  cases x with
  | tmp t =>
    simp only [ev] at he
    split at he
    · rename_i y hy
      subst he
      have := h.2 t v hy
      simp only [Act.eval, Array.getD_eq_getD_getElem?, this, Option.getD_some]
    · cases he
  | const c => simp only [ev, Option.some.injEq] at he; subst he; rw [den_ofV]; rfl
  | global g => simp only [ev, Option.some.injEq] at he; subst he; rfl
  | func f => simp only [ev, Option.some.injEq] at he; subst he; rfl

def evL (l : List (Option SV)) : List Operand → Option (List SV)
  | [] => some []
  | x :: xs => match ev l x, evL l xs with
    | some v, some vs => some (v :: vs)
    | _, _ => none

theorem evL_den {θ : Th} {l : List (Option SV)} {T : Array Value} {ds : List Deferred} (h : TOk θ l T) : ∀ {xs : List Operand} {vs : List SV}, evL l xs = some vs → xs.map (Act.mk T ds).eval = denL θ vs
  | [], vs, he => by simp only [evL, Option.some.injEq] at he; subst he; rfl
  | x :: xs, vs, he => by
    simp only [evL] at he
    split at he
    · rename_i v vs' h1 h2
      cases he
      simp only [List.map_cons, denL, ev_den h h1, evL_den h h2]
    · cases he

/-- The cells of a value; its inverse. -/
def cellsS : SV → Option (List SV)
  | .agg cs => some cs
  | .tup _ => none
  | .val (.agg _) => none
  | .val (.tuple _) => none
  | v => some [v]

theorem cellsS_den {θ : Th} {v : SV} {cs : List SV} (h : cellsS v = some cs) : (den θ v).cells = (denL θ cs).toArray := by
  cases v with
  | agg l => simp only [cellsS, Option.some.injEq] at h; subst h; rfl
  | tup l => simp [cellsS] at h
  | val x => cases x <;> simp only [cellsS, Option.some.injEq, reduceCtorEq] at h <;> subst h <;> rfl
  | _ => simp only [cellsS, Option.some.injEq] at h; subst h; rfl

def isAg (P : Program) (t : TypeId) : Option Bool := match P.underlying t with
  | some (.struct _) => some true
  | some (.array _ _) => some true
  | some _ => some false
  | none => none

def szOf (P : Program) (t : TypeId) : Option Nat := (P.info? t).map (·.size)

def cut (cs : List SV) (off size : Nat) : Option (List SV) := if off + size ≤ cs.length then some ((cs.drop off).take size) else none

theorem cut_some {cs r : List SV} {off size : Nat} (h : cut cs off size = some r) : r.length = size ∧ ∀ (k : Nat) (v : SV), r[k]? = some v → cs[off + k]? = some v := by
  unfold cut at h
  split at h
  · cases h
    refine ⟨by simp; omega, fun k v hk => ?_⟩
    rw [List.getElem?_take] at hk
    split at hk
    · rwa [List.getElem?_drop] at hk
    · cases hk
  · cases h

def mkv (ag : Bool) (cs : List SV) : Option SV := if ag then some (.agg cs) else match cs with
  | [v] => some v
  | _ => none

def getV (hp : List (Option Vw)) (t : Nat) : Option Vw := match hp[t]? with
  | some x => x
  | none => none

theorem getV_some {hp : List (Option Vw)} {t : Nat} {v : Vw} (h : getV hp t = some v) : hp[t]? = some (some v) := by
  unfold getV at h
  split at h
  · rename_i x hx; subst h; exact hx
  · cases h

def getG (gl : List (Nat × Vw)) (g : Nat) : Option Vw := match gl with
  | [] => none
  | (g', v) :: r => if g' == g then some v else getG r g

theorem getG_mem {gl : List (Nat × Vw)} {g : Nat} {v : Vw} (h : getG gl g = some v) : (g, v) ∈ gl := by
  induction gl with
  | nil => cases h
  | cons x r ih =>
    obtain ⟨g', v'⟩ := x
    simp only [getG] at h
    split at h
    · rename_i he
      cases h
      rw [beq_iff_eq] at he
      subst he
      exact List.mem_cons_self
    · exact List.mem_cons_of_mem _ (ih h)

/-- The cells that an address leads to, and what is asked for it to lead there. -/
def cellsAt (gl : List (Nat × Vw)) (hp : List (Option Vw)) (size : Nat) : SV → Option (List Prop × List SV)
  | .ptr t j => match getV hp t with
    | some (.box _ cs) => (cut cs j size).map fun r => ([], r)
    | _ => none
  | .rptr t i j => match getV hp t with
    | some (.row _ _ n _ f) => (cut (f i.toNat) j size).map fun r => ([0 ≤ i ∧ i < (n : Int)], r)
    | _ => none
  | .gptr g sz i j => match getG gl g with
    | some (.row _ _ n sz' f) => if sz == sz' then (cut (f i.toNat) j size).map fun r => ([0 ≤ i ∧ i < (n : Int)], r) else none
    | _ => none
  | .val (.pointer (some ⟨g, j, none⟩)) => match getG gl g with
    | some (.box _ cs) => (cut cs j size).map fun r => ([], r)
    | _ => none
  | _ => none

theorem cellsAt_den {gl : List (Nat × Vw)} {hp : List (Option Vw)} {size : Nat} {x : SV} {ps : List Prop} {r : List SV} {θ : Th} {base : Nat} {w : World}
    (h : cellsAt gl hp size x = some (ps, r)) (hps : AllP ps) (hh : HpOk θ base hp w) (hg : GOk gl w) (h0 : 0 < size) :
    r.length = size ∧ ∃ a : Addr, den θ x = .pointer (some a) ∧ a.spot = none ∧ ∀ (k : Nat) (v : SV), r[k]? = some v → w.cell? (at_ a k) = some (den θ v) := by
  unfold cellsAt at h
  split at h
  · rename_i t j
    split at h
    · rename_i o cs hv
      cases hc : cut cs j size with
      | none => simp [hc] at h
      | some r' =>
        simp only [hc, Option.map_some, Option.some.injEq, Prod.mk.injEq] at h
        obtain ⟨rfl, rfl⟩ := h
        obtain ⟨hl, hr⟩ := cut_some hc
        obtain ⟨hb, -⟩ := hh.vw t _ (getV_some hv)
        have hne : cs ≠ [] := by
          rintro rfl
          unfold cut at hc
          split at hc
          · rename_i hle; simp at hle; omega
          · cases hc
        obtain ⟨a, ha, hlie⟩ := hb hne
        refine ⟨hl, at_ a j, by simp [den, ha], rfl, fun k v hk => ?_⟩
        have := hlie (j + k) v (hr k v hk)
        simpa [at_, Nat.add_assoc] using this
    · cases h
  · rename_i t i j
    split at h
    · rename_i o el n sz f hv
      cases hc : cut (f i.toNat) j size with
      | none => simp [hc] at h
      | some r' =>
        simp only [hc, Option.map_some, Option.some.injEq, Prod.mk.injEq] at h
        obtain ⟨rfl, rfl⟩ := h
        obtain ⟨hl, hr⟩ := cut_some hc
        obtain ⟨hi0, hi1⟩ := hps.1
        obtain ⟨hsz, hcap, hb, hfl, hlie, -⟩ := hh.vw t _ (getV_some hv)
        rcases hb.1 with hb | ⟨a, ha⟩
        · omega
        · refine ⟨hl, at_ a (i.toNat * sz + j), by simp [den, ha, hsz], rfl, fun k v hk => ?_⟩
          have := (hlie a ha i.toNat (by omega)) (j + k) v (hr k v hk)
          simpa [at_, Nat.add_assoc] using this
    · cases h
  · rename_i g sz i j
    split at h
    · rename_i o el n sz' f hv
      split at h
      · rename_i hs
        rw [beq_iff_eq] at hs
        subst hs
        cases hc : cut (f i.toNat) j size with
        | none => simp [hc] at h
        | some r' =>
          simp only [hc, Option.map_some, Option.some.injEq, Prod.mk.injEq] at h
          obtain ⟨rfl, rfl⟩ := h
          obtain ⟨hl, hr⟩ := cut_some hc
          obtain ⟨hi0, hi1⟩ := hps.1
          have hlie := ((hg g _ (getG_mem hv)).2 θ)
          refine ⟨hl, ⟨g, i.toNat * sz + j, none⟩, rfl, rfl, fun k v hk => ?_⟩
          have := (hlie i.toNat (by omega)).2 (j + k) v (hr k v hk)
          simpa [at_, Nat.add_assoc] using this
      · cases h
    · cases h
  · rename_i g j
    split at h
    · rename_i o cs hv
      cases hc : cut cs j size with
      | none => simp [hc] at h
      | some r' =>
        simp only [hc, Option.map_some, Option.some.injEq, Prod.mk.injEq] at h
        obtain ⟨rfl, rfl⟩ := h
        obtain ⟨hl, hr⟩ := cut_some hc
        have hlie := ((hg g _ (getG_mem hv)).2 θ).1
        refine ⟨hl, ⟨g, j, none⟩, rfl, rfl, fun k v hk => ?_⟩
        have := hlie (j + k) v (hr k v hk)
        simpa [at_, Nat.add_assoc] using this
    · cases h
  · cases h

section
variable {P : Program} {w : World}

theorem run_isAg {t : TypeId} {b : Bool} (h : isAg P t = some b) : (isAgg t).run P w = .ok b w := by
  unfold isAg at h
  unfold isAgg underlying
  cases hu : P.underlying t with
  | none => simp [hu] at h
  | some d => cases d <;> simp_all

theorem run_sizeOf {t : TypeId} {n : Nat} (h : szOf P t = some n) : (sizeOf t).run P w = .ok n w := by
  unfold szOf at h
  cases hi : P.info? t with
  | none => simp [hi] at h
  | some i => simp [hi] at h; subst h; simp [sizeOf, typeInfo, hi]

theorem at_add (a : Addr) (hs : a.spot = none) (k : Nat) : a.add k = at_ a k := by
  unfold Addr.add at_
  split
  · rename_i h; subst h; cases a; simp_all
  · cases a; simp_all

theorem run_loadVar' {t : TypeId} {ag : Bool} {a : Addr} {r : List SV} {x : SV} {θ : Th} (h1 : isAg P t = some ag) (h2 : szOf P t = some r.length) (h3 : mkv ag r = some x) (hs : a.spot = none)
    (hc : ∀ (k : Nat) (v : SV), r[k]? = some v → w.cell? (at_ a k) = some (den θ v)) : (loadVar t a).run P w = .ok (den θ x) w := by
  unfold loadVar
  rw [Sem.run_bind, run_isAg h1]
  simp only [Result.andThen_ok]
  unfold mkv at h3
  split at h3
  · rename_i hag
    cases h3
    simp only [hag, if_true, Sem.run_bind, run_sizeOf h2, Result.andThen_ok]
    have := run_loadCells_list (P := P) w a (denL θ r) (fun j v hj => by
      rw [denL_map, List.getElem?_map] at hj
      cases hr : r[j]? with
      | none => simp [hr] at hj
      | some y => simp [hr] at hj; subst hj; rw [at_add a hs]; exact hc j y hr)
    rw [denL_map, List.length_map] at this
    simp only [this, Result.andThen_ok, Sem.run_pure, den, denL_map]
  · rename_i hag
    split at h3
    · rename_i v
      cases h3
      have hcell := hc 0 x rfl
      have ha : at_ a 0 = a := by cases a; simp_all [at_]
      rw [ha] at hcell
      simp [hag, run_load, hcell]
    · cases h3

end

/-- What holds of a frame's slots and of the views, wherever views that are not yet made may come to lie. -/
def Inv (A : Nat → Prop) (base : Nat) (θ : Th) (l : List (Option SV)) (hp : List (Option Vw)) (T : Array Value) (w : World) : Prop :=
  ∀ θ', SameA A θ θ' → HpOk θ' base hp w ∧ TOk θ' l T

structure PreA (A : Nat → Prop) (P : Program) (gl : List (Nat × Vw)) (base : Nat) (θ : Th) (l : List (Option SV)) (hp : List (Option Vw)) (T : Array Value) (w : World) : Prop where
  inv : Inv A base θ l hp T w
  kn : ∀ (t : Nat) (v : Vw), hp[t]? = some (some v) → A t
  gok : GOk gl w
  gb : ∀ g v, (g, v) ∈ gl → g < base
  sz : base ≤ w.heap.size

abbrev Pre (P : Program) (gl : List (Nat × Vw)) (base : Nat) (θ : Th) (l : List (Option SV)) (hp : List (Option Vw)) (T : Array Value) (w : World) : Prop := PreA (fun t => t < hp.length) P gl base θ l hp T w

def AfterA (A : Nat → Prop) (P : Program) (base : Nat) (θ : Th) (hp : List (Option Vw)) (w : World) (run : Result Next) : Ef → Prop
  | .val v hp' => ∃ r w', ∃ new : Nat → Ad, run = .ok (.value r) w' ∧ Below base w w' ∧ hp.length ≤ hp'.length ∧
      ∀ θ', SameA A θ θ' → (∀ k, hp.length + k < hp'.length → θ' (hp.length + k) = new k) → HpOk θ' base hp' w' ∧ r = den θ' v
  | .skip hp' => ∃ w', run = .ok .skip w' ∧ Below base w w' ∧ hp.length = hp'.length ∧ ∀ θ', SameA A θ θ' → HpOk θ' base hp' w'
  | .enter f args => ∃ as : List Value, run = .ok (.enter f as.toArray) w ∧ ∀ θ', SameA A θ θ' → as = denL θ' args

abbrev After (P : Program) (base : Nat) (θ : Th) (hp : List (Option Vw)) (w : World) (run : Result Next) (e : Ef) : Prop := AfterA (fun t => t < hp.length) P base θ hp w run e

section
variable {P : Program} {gl : List (Nat × Vw)} {base : Nat} {θ : Th} {l : List (Option SV)} {hp : List (Option Vw)} {T : Array Value} {w : World} {run : Result Next}

theorem After.simple {A : Nat → Prop} {v : SV} (hI : PreA A P gl base θ l hp T w) (h : ∀ θ', HpOk θ' base hp w → TOk θ' l T → run = .ok (.value (den θ' v)) w) : AfterA A P base θ hp w run (.val v hp) := by
  have h0 := h θ (hI.inv θ (SameA.refl _ _)).1 (hI.inv θ (SameA.refl _ _)).2
  refine ⟨den θ v, w, fun _ => ⟨none, 0, 0⟩, h0, Below.refl _ _, Nat.le_refl _, fun θ' hs _ => ?_⟩
  have h1 := h θ' (hI.inv θ' hs).1 (hI.inv θ' hs).2
  refine ⟨(hI.inv θ' hs).1, ?_⟩
  rw [h0] at h1
  injection h1 with h1
  injection h1

theorem VwOk.below {d : Ad} {v : Vw} {w' : World} (h : VwOk θ base w d v) (hb : Below w.heap.size w w') : VwOk θ base w' d v := by
  have hL : ∀ {a : Addr} {j : Nat} {cs : List SV}, Lies θ w a j cs → Lies θ w' a j cs := fun hl k v hk => by
    have := hl k v hk
    rw [← this]
    exact World.cell?_of_block (hb.block _ (World.block_lt_of_cell? w _ this))
  have hB : ∀ {b : Nat} {o : Obj}, w.heap[b]? = some o → w'.heap[b]? = some o := fun hb' => by
    rw [hb.block _ (Array.getElem?_eq_some_iff.1 hb').1]; exact hb'
  cases v with
  | box o cs =>
    refine ⟨fun hn => ?_, fun ho => ?_⟩
    · obtain ⟨a, ha, hl⟩ := h.1 hn; exact ⟨a, ha, hL hl⟩
    · obtain ⟨b, h1, h2, c, el, h3, h4⟩ := h.2 ho; exact ⟨b, h1, h2, c, el, hB h3, h4⟩
  | row o el n sz f =>
    obtain ⟨h1, h2, h3, hf, h4, h5⟩ := h
    refine ⟨h1, h2, h3, hf, fun a ha i hi => hL (h4 a ha i hi), fun ho => ?_⟩
    rcases h5 ho with h | ⟨b, c, e1, e2, e3, e4⟩
    · exact .inl h
    · exact .inr ⟨b, c, e1, e2, hB e3, e4⟩
  | map o k v f st => obtain ⟨b, h1, h2, es, c, h3, h4⟩ := h; exact ⟨b, h1, h2, es, c, hB h3, h4⟩

theorem HpOk.below {w' : World} (h : HpOk θ base hp w) (hb : Below w.heap.size w w') : HpOk θ base hp w' := ⟨fun t v ht => (h.vw t v ht).below hb, h.ne⟩

theorem World.block_of_lies {a : Addr} {j : Nat} {cs : List SV} (h : Lies θ w a j cs) (hn : cs ≠ []) : a.block < w.heap.size := by
  cases cs with
  | nil => exact absurd rfl hn
  | cons c r => exact World.block_lt_of_cell? w (at_ a (j + 0)) (h 0 c rfl)

/-- The block of a view that is live or the call's own lies below the heap's end. -/
theorem VwOk.lt {d : Ad} {v : Vw} {a : Addr} (h : VwOk θ base w d v) (ha : d.base = some a) (hl : v.own = true ∨ v.live) : a.block < w.heap.size := by
  cases v with
  | box o cs =>
    rcases hl with hl | hl
    · obtain ⟨b, h1, h2, c, el, h3, h4⟩ := h.2 hl
      rw [ha] at h1; cases h1
      exact (Array.getElem?_eq_some_iff.1 h3).1
    · obtain ⟨a', h1, h2⟩ := h.1 hl
      rw [ha] at h1; cases h1
      exact World.block_of_lies h2 hl
  | row o el n sz f =>
    obtain ⟨h1, h2, h3, hf, h4, h5⟩ := h
    rcases hl with hl | hl
    · rcases h5 hl with h | ⟨b, c, e1, e2, e3, e4⟩
      · rw [h.1] at ha; cases ha
      · rw [ha] at e1; cases e1
        exact (Array.getElem?_eq_some_iff.1 e3).1
    · refine World.block_of_lies (h4 a ha 0 hl.1) ?_
      rintro he
      have h6 := (hf 0 hl.1).1
      rw [he] at h6
      simp at h6
      have := hl.2
      omega
  | map o k v f st =>
    obtain ⟨b, h1, -, es, c, h3, -⟩ := h
    rw [ha] at h1; cases h1
    exact (Array.getElem?_eq_some_iff.1 h3).1

/-- One view more, of a block that is new. -/
theorem HpOk.push {w' : World} {v : Vw} {d : Ad} (h : HpOk θ base hp w) (hb : Below w.heap.size w w') (hd : θ hp.length = d) (hv : VwOk θ base w' d v)
    (hnew : ∀ a, d.base = some a → w.heap.size ≤ a.block) : HpOk θ base (hp ++ [some v]) w' := by
  have h' := h.below hb
  have key : ∀ t x, (hp ++ [some v])[t]? = some (some x) → (hp[t]? = some (some x) ∧ t < hp.length) ∨ (t = hp.length ∧ x = v) := by
    intro t x ht
    rw [List.getElem?_append] at ht
    split at ht
    · rename_i hlt; exact .inl ⟨ht, hlt⟩
    · rename_i hge
      rw [List.getElem?_cons] at ht
      split at ht
      · rename_i h0; exact .inr ⟨by omega, by simpa using ht.symm⟩
      · simp at ht
  refine ⟨fun t x ht => ?_, fun t t' x x' ht ht' hne ho hl a a' ha ha' => ?_⟩
  · rcases key t x ht with ⟨h1, -⟩ | ⟨rfl, rfl⟩
    · exact h'.vw t x h1
    · rw [hd]; exact hv
  · rcases key t x ht with ⟨h1, h2⟩ | ⟨rfl, rfl⟩ <;> rcases key t' x' ht' with ⟨h3, h4⟩ | ⟨rfl, rfl⟩
    · exact h'.ne t t' x x' h1 h3 hne ho hl a a' ha ha'
    · have := (h.vw t x h1).lt ha (.inl ho)
      rw [hd] at ha'
      have := hnew a' ha'
      omega
    · have := (h.vw t' x' h3).lt ha' hl
      rw [hd] at ha
      have := hnew a ha
      omega
    · exact absurd rfl hne

end

end Go.Sx
