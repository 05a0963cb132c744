/-
  SX, part 14: helpers for the printed texts; a cut at which views move, and nil slices become rows of nothing.
-/
import Derived.Test.YtehnnaanpmceiaaGreatDoorSxd
set_option linter.unusedVariables false
set_option linter.unusedSimpArgs false
namespace Go.Sx
open Go.RowKit

theorem AllP.n : AllP [] := trivial
theorem AllP.c {p : Prop} {ps : List Prop} (h : p) (hs : AllP ps) : AllP (p :: ps) := ⟨h, hs⟩

/-! Short words for what is printed often. -/
theorem ca {p : Prop} {ps : List Prop} (h : p) (hs : AllP ps) : AllP (p :: ps) := ⟨h, hs⟩
theorem na : AllP [] := trivial
theorem dt {p : Prop} [Decidable p] (h : p) : decide p = true := decide_eq_true h
theorem df {p : Prop} [Decidable p] (h : ¬ p) : decide p = false := decide_eq_false h
theorem rt : true = true := rfl
theorem rf : false = false := rfl
theorem re {α : Type} (a : α) : a = a := rfl
abbrev tb : Hint := .b true
abbrev fb : Hint := .b false
/-- Slots of which few are known; a mask that names few. -/
def slo (n : Nat) (l : List (Nat × SV)) : List (Option SV) := (List.range n).map fun i => l.lookup i
def msk (n : Nat) (l : List Nat) : List Bool := (List.range n).map fun i => l.contains i

theorem nt {b : Bool} (h : b = false) : (!b) = true := by rw [h]; rfl
theorem nf {b : Bool} (h : b = true) : (!b) = false := by rw [h]; rfl
theorem not_t {b : Bool} (h : b = false) : (!b) = true := by rw [h]; rfl
theorem not_f {b : Bool} (h : b = true) : (!b) = false := by rw [h]; rfl

instance (k : IntKind) (x : Int) : Decidable (InR k x) := by cases k <;> unfold InR <;> exact inferInstance

/-- A place in a function's code. -/
def sub : Code → List Nat → Code
  | c, [] => c
  | .seq a _, 0 :: p => sub a p
  | .seq _ b, _ :: p => sub b p
  | .cond _ a _, 0 :: p => sub a p
  | .cond _ _ b, _ :: p => sub b p
  | .block _ b, _ :: p => sub b p
  | .loop b, _ :: p => sub b p
  | .scope b, _ :: p => sub b p
  | .rangeFunc _ _ a _, 0 :: p => sub a p
  | .rangeFunc _ _ _ b, _ :: p => sub b p
  | c, _ => c

def bodyAt (f : Func) (p : List Nat) : Code := match f.body with
  | some b => sub b p
  | none => .skip

def opsAt (f : Func) (p : List Nat) : Array Oper := match bodyAt f p with
  | .region _ ops _ => ops
  | _ => #[]

/-- Where a head's view comes from: a view that is there, or a nil slice. -/
inductive Mv where
  | old (t : Nat)
  | nil (sz : Nat)

mutual
def pull (τ : List Mv) : SV → SV
  | .val v => .val v
  | .ptr t j => match τ[t]? with
    | some (.old s) => .ptr s j
    | _ => .val (.pointer none)
  | .rptr t i j => match τ[t]? with
    | some (.old s) => .rptr s i j
    | _ => .val (.pointer none)
  | .gptr g sz i j => .gptr g sz i j
  | .sl t n => match τ[t]? with
    | some (.old s) => .sl s n
    | _ => .val (.slice none n 0)
  | .agg cs => .agg (pullL τ cs)
  | .tup vs => .tup (pullL τ vs)
  | .fn f a b => .fn f (pullL τ a) (pullL τ b)
  | .ifc t v => .ifc t (pull τ v)
  | .mp t => match τ[t]? with
    | some (.old s) => .mp s
    | _ => .val (.map none)
def pullL (τ : List Mv) : List SV → List SV
  | [] => []
  | v :: vs => pull τ v :: pullL τ vs
end

def pullT (τ : List Mv) : List (Option SV) → List (Option SV)
  | [] => []
  | some v :: r => some (pull τ v) :: pullT τ r
  | none :: r => none :: pullT τ r

def pullF (τ : List Mv) : List SFr → List SFr
  | [] => []
  | f :: r => { f with tmps := pullT τ f.tmps } :: pullF τ r

def pullV (τ : List Mv) : Vw → Vw
  | .box o cs => .box o (pullL τ cs)
  | .row o el n sz f => .row o el n sz (fun i => pullL τ (f i))
  | .map o k v f st => .map o k v f st

/-- The head's views, as the views that are there: number and what it shows. -/
def oldsL (τ : List Mv) : List Mv → List (Option Vw) → List (Option Vw)
  | .old _ :: m, some v :: r => some (pullV τ v) :: oldsL τ m r
  | .old _ :: m, none :: r => none :: oldsL τ m r
  | .nil _ :: m, _ :: r => oldsL τ m r
  | _, _ => []

def oldsR (hp : List (Option Vw)) : List Mv → List (Option Vw) → List (Option Vw)
  | .old t :: m, some v :: r => (if v.own then getV hp t else (getV hp t).map Vw.ro) :: oldsR hp m r
  | .old _ :: m, none :: r => none :: oldsR hp m r
  | .nil _ :: m, _ :: r => oldsR hp m r
  | _, _ => []

def nilsOk : List Mv → List (Option Vw) → Bool
  | .old _ :: m, _ :: r => nilsOk m r
  | .nil sz :: m, some (.row _ _ 0 sz' _) :: r => sz == sz' && nilsOk m r
  | [], [] => true
  | _, _ => false

/-- The numbers that known views, and the call's own ones, come from. -/
def oldNos : List Mv → List (Option Vw) → List Nat
  | .old t :: m, some _ :: r => t :: oldNos m r
  | _ :: m, _ :: r => oldNos m r
  | _, _ => []

def ownNos : List Mv → List (Option Vw) → List Nat
  | .old t :: m, some v :: r => if v.own then t :: ownNos m r else ownNos m r
  | _ :: m, _ :: r => ownNos m r
  | _, _ => []

/-- What is the call's own is told once. -/
def apart : List Mv → List (Option Vw) → Bool
  | .old t :: m, some v :: r => (if v.own then !(oldNos m r).contains t else !(ownNos m r).contains t) && apart m r
  | _ :: m, _ :: r => apart m r
  | _, _ => true

/-- The first n views stay where they are. -/
def stay (n : Nat) (τ : List Mv) : Bool := (List.range n).all fun t => match τ[t]? with
  | some (.old s) => s == t
  | _ => false

def mvTh (τ : List Mv) (θ : Th) (t : Nat) : Ad := match τ[t]? with
  | some (.old s) => θ s
  | some (.nil sz) => ⟨none, 0, sz⟩
  | none => ⟨none, 0, 0⟩

mutual
theorem den_pull {τ : List Mv} {θ θ' : Th} (h : ∀ t, t < τ.length → θ' t = mvTh τ θ t) : ∀ v, sc τ.length v = true → den θ (pull τ v) = den θ' v
  | .val v, _ => rfl
  | .ptr t j, hs => by
    simp only [sc, decide_eq_true_eq] at hs
    simp only [pull, den, h t hs, mvTh]
    rw [List.getElem?_eq_getElem hs]
    cases τ[t] <;> rfl
  | .rptr t i j, hs => by
    simp only [sc, decide_eq_true_eq] at hs
    simp only [pull, den, h t hs, mvTh]
    rw [List.getElem?_eq_getElem hs]
    cases τ[t] <;> rfl
  | .sl t n, hs => by
    simp only [sc, decide_eq_true_eq] at hs
    simp only [pull, den, h t hs, mvTh]
    rw [List.getElem?_eq_getElem hs]
    cases τ[t] <;> rfl
  | .gptr g sz i j, _ => rfl
  | .agg cs, hs => by simp only [sc] at hs; simp only [pull, den, denL_pull h cs hs]
  | .tup cs, hs => by simp only [sc] at hs; simp only [pull, den, denL_pull h cs hs]
  | .fn f a b, hs => by simp only [sc, Bool.and_eq_true] at hs; simp only [pull, den, denL_pull h a hs.1, denL_pull h b hs.2]
  | .ifc t v, hs => by simp only [sc] at hs; simp only [pull, den, den_pull h v hs]
  | .mp t, hs => by
    simp only [sc, decide_eq_true_eq] at hs
    simp only [pull, den, h t hs, mvTh]
    rw [List.getElem?_eq_getElem hs]
    cases τ[t] <;> rfl
theorem denL_pull {τ : List Mv} {θ θ' : Th} (h : ∀ t, t < τ.length → θ' t = mvTh τ θ t) : ∀ l, scL τ.length l = true → denL θ (pullL τ l) = denL θ' l
  | [], _ => rfl
  | v :: vs, hs => by simp only [scL, Bool.and_eq_true] at hs; simp only [pullL, denL, den_pull h v hs.1, denL_pull h vs hs.2]
end

theorem pullL_length (τ : List Mv) : ∀ l, (pullL τ l).length = l.length
  | [] => rfl
  | v :: vs => by simp only [pullL, List.length_cons, pullL_length τ vs]

theorem pullL_get (τ : List Mv) : ∀ (l : List SV) (k : Nat), (pullL τ l)[k]? = (l[k]?).map (pull τ)
  | [], k => by simp [pullL]
  | v :: vs, 0 => by simp [pullL]
  | v :: vs, k + 1 => by simp only [pullL, List.getElem?_cons_succ]; exact pullL_get τ vs k

theorem pullT_get (τ : List Mv) : ∀ (l : List (Option SV)) (j : Nat) (v : SV), l[j]? = some (some v) → (pullT τ l)[j]? = some (some (pull τ v))
  | [], j, v, h => by simp at h
  | some u :: r, 0, v, h => by simp at h; subst h; simp [pullT]
  | none :: r, 0, v, h => by simp at h
  | some u :: r, j + 1, v, h => by simp only [pullT, List.getElem?_cons_succ]; exact pullT_get τ r j v (by simpa using h)
  | none :: r, j + 1, v, h => by simp only [pullT, List.getElem?_cons_succ]; exact pullT_get τ r j v (by simpa using h)

theorem pullT_length (τ : List Mv) : ∀ l, (pullT τ l).length = l.length
  | [] => rfl
  | some v :: vs => by simp only [pullT, List.length_cons, pullT_length τ vs]
  | none :: vs => by simp only [pullT, List.length_cons, pullT_length τ vs]

theorem Lies.pull {τ : List Mv} {θ θ' : Th} {w : World} {a : Addr} {j : Nat} {cs : List SV} (ht : ∀ t, t < τ.length → θ' t = mvTh τ θ t) (hc : scL τ.length cs = true) (h : Lies θ w a j (pullL τ cs)) : Lies θ' w a j cs := by
  intro k v hk
  have h1 := h k (Go.Sx.pull τ v) (by rw [pullL_get, hk]; rfl)
  rw [h1]
  have h2 := denL_pull ht cs hc
  rw [denL_map, denL_map] at h2
  have h3 := congrArg (·[k]?) h2
  simp only [List.getElem?_map, pullL_get, hk, Option.map_some, Option.some.injEq] at h3
  rw [h3]

/-- One-celled values stay so. -/
theorem one_pull {τ : List Mv} {v : SV} (h : one (pull τ v) = true) : one v = true := by
  cases v <;> simp_all [pull, one]

theorem VwOk.pull {τ : List Mv} {θ θ' : Th} {w : World} {base : Nat} {d : Ad} {v : Vw} (ht : ∀ t, t < τ.length → θ' t = mvTh τ θ t) (hs : ScV τ.length v) (h : VwOk θ base w d (pullV τ v)) : VwOk θ' base w d v := by
  cases v with
  | box o cs =>
    refine ⟨fun hn => ?_, fun ho => ?_⟩
    · obtain ⟨a, ha, hl⟩ := h.1 (by
        intro e
        cases cs with
        | nil => exact hn rfl
        | cons c r => simp [pullL] at e)
      exact ⟨a, ha, hl.pull ht hs⟩
    · obtain ⟨b, h1, h2, h3⟩ := h.2 ho
      rw [pullL_length] at h3
      exact ⟨b, h1, h2, h3⟩
  | row o el n sz f =>
    obtain ⟨h1, h2, h3, h4, h5, h6⟩ := h
    refine ⟨h1, h2, h3, fun i hi => ?_, fun a ha i hi => (h5 a ha i hi).pull ht (hs i), h6⟩
    obtain ⟨q1, q2⟩ := h4 i hi
    rw [pullL_length] at q1
    refine ⟨q1, ?_⟩
    rw [List.all_eq_true] at q2 ⊢
    intro x hx
    obtain ⟨k, hk⟩ := List.getElem?_of_mem hx
    exact one_pull (q2 (Go.Sx.pull τ x) (List.mem_of_getElem? (by rw [pullL_get, hk]; rfl)))
  | map o k v f st => exact h

theorem pullV_own (τ : List Mv) (v : Vw) : (pullV τ v).own = v.own := by cases v <;> rfl
theorem pullV_live (τ : List Mv) (v : Vw) : v.live → (pullV τ v).live := by
  cases v with
  | box o cs => intro h; simp only [Vw.live, pullV] at h ⊢; intro e; exact h (by cases cs with | nil => rfl | cons c r => simp [pullL] at e)
  | row o el n sz f => exact id
  | map o k v f st => exact id

/-- A head's view: it is one that is there, or of nothing. -/
theorem olds_get {τ : List Mv} {hp : List (Option Vw)} : ∀ {m : List Mv} {l : List (Option Vw)}, oldsL τ m l = oldsR hp m l → nilsOk m l = true → ∀ (t : Nat) (v : Vw), l[t]? = some (some v) →
    (∃ s u, m[t]? = some (.old s) ∧ getV hp s = some u ∧ (if v.own then u else u.ro) = pullV τ v) ∨ ∃ sz o el f, m[t]? = some (.nil sz) ∧ v = .row o el 0 sz f
  | [], [], _, _, t, v, h => by simp at h
  | [], _ :: _, _, h, t, v, _ => by simp [nilsOk] at h
  | .old s :: m, [], _, h, t, v, hv => by simp at hv
  | .nil s :: m, [], _, h, t, v, hv => by simp at hv
  | .old s :: m, some u :: r, he, hn, 0, v, h => by
    simp at h; subst h
    simp only [oldsL, oldsR, List.cons.injEq] at he
    have h1 := he.1
    split at h1
    · rename_i ho; exact .inl ⟨s, _, rfl, h1.symm, by rw [if_pos ho]⟩
    · rename_i ho
      cases hg : getV hp s with
      | none => simp [hg] at h1
      | some u => simp [hg] at h1; exact .inl ⟨s, u, rfl, hg, by rw [if_neg ho]; exact h1.symm⟩
  | .old s :: m, none :: r, he, hn, 0, v, h => by simp at h
  | .old s :: m, some u :: r, he, hn, t + 1, v, h => by
    simp only [oldsL, oldsR, List.cons.injEq] at he
    simp only [nilsOk] at hn
    simpa using olds_get he.2 hn t v (by simpa using h)
  | .old s :: m, none :: r, he, hn, t + 1, v, h => by
    simp only [oldsL, oldsR, List.cons.injEq, true_and] at he
    simp only [nilsOk] at hn
    simpa using olds_get he hn t v (by simpa using h)
  | .nil sz :: m, x :: r, he, hn, t, v, h => by
    have he' : oldsL τ m r = oldsR hp m r := by cases x <;> exact he
    match x, hn with
    | some (.row o el 0 sz' f), hn =>
      simp only [nilsOk, Bool.and_eq_true, beq_iff_eq] at hn
      obtain ⟨rfl, hn⟩ := hn
      cases t with
      | zero => simp at h; subst h; exact .inr ⟨sz, o, el, f, rfl, rfl⟩
      | succ t => simpa using olds_get he' hn t v (by simpa using h)

theorem mem_oldNos : ∀ {m : List Mv} {l : List (Option Vw)} {t s : Nat} {v : Vw}, m[t]? = some (.old s) → l[t]? = some (some v) → s ∈ oldNos m l
  | [], l, t, s, v, h, _ => by simp at h
  | _ :: m, [], t, s, v, _, h => by simp at h
  | .old a :: m, some u :: r, 0, s, v, h, _ => by simp at h; subst h; simp [oldNos]
  | .old a :: m, none :: r, 0, s, v, _, h => by simp at h
  | .nil a :: m, x :: r, 0, s, v, h, _ => by simp at h
  | .old a :: m, some u :: r, t + 1, s, v, h, h' => by simp only [oldNos]; exact List.mem_cons_of_mem _ (mem_oldNos (by simpa using h) (by simpa using h'))
  | .old a :: m, none :: r, t + 1, s, v, h, h' => by simp only [oldNos]; exact mem_oldNos (by simpa using h) (by simpa using h')
  | .nil a :: m, x :: r, t + 1, s, v, h, h' => by simp only [oldNos]; exact mem_oldNos (by simpa using h) (by simpa using h')

theorem mem_ownNos : ∀ {m : List Mv} {l : List (Option Vw)} {t s : Nat} {v : Vw}, m[t]? = some (.old s) → l[t]? = some (some v) → v.own = true → s ∈ ownNos m l
  | [], l, t, s, v, h, _, _ => by simp at h
  | _ :: m, [], t, s, v, _, h, _ => by simp at h
  | .old a :: m, some u :: r, 0, s, v, h, h', ho => by simp at h h'; subst h h'; simp [ownNos, ho]
  | .old a :: m, none :: r, 0, s, v, _, h, _ => by simp at h
  | .nil a :: m, x :: r, 0, s, v, h, _, _ => by simp at h
  | .old a :: m, some u :: r, t + 1, s, v, h, h', ho => by
    have := mem_ownNos (m := m) (l := r) (by simpa using h) (by simpa using h') ho
    simp only [ownNos]; split
    · exact List.mem_cons_of_mem _ this
    · exact this
  | .old a :: m, none :: r, t + 1, s, v, h, h', ho => by simp only [ownNos]; exact mem_ownNos (by simpa using h) (by simpa using h') ho
  | .nil a :: m, x :: r, t + 1, s, v, h, h', ho => by simp only [ownNos]; exact mem_ownNos (by simpa using h) (by simpa using h') ho

/-- Two views that come from one: neither is the call's own. -/
theorem apart_ne : ∀ {m : List Mv} {l : List (Option Vw)}, apart m l = true → ∀ {t t' s : Nat} {v v' : Vw}, m[t]? = some (.old s) → m[t']? = some (.old s) → l[t]? = some (some v) → l[t']? = some (some v') → v.own = true → t = t'
  | [], _, _, t, t', s, v, v', h, _, _, _, _ => by simp at h
  | _ :: m, [], _, t, t', s, v, v', _, _, h, _, _ => by simp at h
  | _ :: m, _ :: r, ha, 0, 0, s, v, v', _, _, _, _, _ => rfl
  | .old a :: m, some u :: r, ha, 0, t' + 1, s, v, v', h, h', hv, hv', ho => by
    simp at h hv; subst h hv
    simp only [apart, ho, if_true, Bool.and_eq_true, Bool.not_eq_true'] at ha
    have := mem_oldNos (m := m) (l := r) (t := t') (by simpa using h') (by simpa using hv')
    rw [List.contains_iff_mem.2 this] at ha
    simp at ha
  | .old a :: m, none :: r, ha, 0, t' + 1, s, v, v', _, _, hv, _, _ => by simp at hv
  | .nil a :: m, x :: r, ha, 0, t' + 1, s, v, v', h, _, _, _, _ => by simp at h
  | .old a :: m, some u :: r, ha, t + 1, 0, s, v, v', h, h', hv, hv', ho => by
    simp at h' hv'; subst h' hv'
    simp only [apart, Bool.and_eq_true] at ha
    have h1 := mem_ownNos (m := m) (l := r) (t := t) (by simpa using h) (by simpa using hv) ho
    have h2 := mem_oldNos (m := m) (l := r) (t := t) (by simpa using h) (by simpa using hv)
    have h3 := ha.1
    rw [List.contains_iff_mem.2 h1, List.contains_iff_mem.2 h2] at h3
    split at h3 <;> simp at h3
  | .old a :: m, none :: r, ha, t + 1, 0, s, v, v', _, _, _, hv, _ => by simp at hv
  | .nil a :: m, x :: r, ha, t + 1, 0, s, v, v', _, h, _, _, _ => by simp at h
  | .old a :: m, some u :: r, ha, t + 1, t' + 1, s, v, v', h, h', hv, hv', ho => by
    simp only [apart, Bool.and_eq_true] at ha
    rw [apart_ne (m := m) (l := r) ha.2 (t := t) (t' := t') (by simpa using h) (by simpa using h') (by simpa using hv) (by simpa using hv') ho]
  | .old a :: m, none :: r, ha, t + 1, t' + 1, s, v, v', h, h', hv, hv', ho => by
    simp only [apart] at ha
    rw [apart_ne (m := m) (l := r) ha (t := t) (t' := t') (by simpa using h) (by simpa using h') (by simpa using hv) (by simpa using hv') ho]
  | .nil a :: m, x :: r, ha, t + 1, t' + 1, s, v, v', h, h', hv, hv', ho => by
    simp only [apart] at ha
    rw [apart_ne (m := m) (l := r) ha (t := t) (t' := t') (by simpa using h) (by simpa using h') (by simpa using hv) (by simpa using hv') ho]

theorem VwOk.toRo {θ : Th} {base : Nat} {w : World} {d : Ad} {v : Vw} (h : VwOk θ base w d v) : VwOk θ base w d v.ro := by
  cases v with
  | box o cs => exact ⟨h.1, fun h => by cases h⟩
  | row o el n sz f => obtain ⟨h1, h2, h3, h4, h5, h6⟩ := h; exact ⟨h1, h2, h3, h4, h5, fun h => by cases h⟩
  | map o k v f st => obtain ⟨b, h1, h2, h3⟩ := h; exact ⟨b, h1, (fun h => by cases h), h3⟩

theorem Vw.ro_live (v : Vw) : v.ro.live → v.live := by cases v <;> exact id

theorem HpOk.pull {τ : List Mv} {θ θ' : Th} {w : World} {base : Nat} {hp l : List (Option Vw)} (ht : ∀ t, t < τ.length → θ' t = mvTh τ θ t) (he : oldsL τ τ l = oldsR hp τ l) (hn : nilsOk τ l = true) (hd : apart τ l = true)
    (hs : ScHp τ.length l) (h : HpOk θ base hp w) : HpOk θ' base l w := by
  have hb : ∀ t v, l[t]? = some (some v) → t < τ.length := fun t v hv => by
    rcases olds_get he hn t v hv with ⟨s, u, h1, -⟩ | ⟨sz, o, el, f, h1, -⟩ <;> exact (List.getElem?_eq_some_iff.1 h1).1
  refine ⟨fun t v hv => ?_, fun t t' v v' hv hv' hne ho hl a a' ha ha' => ?_⟩
  · have hlt := hb t v hv
    rw [ht t hlt]
    rcases olds_get he hn t v hv with ⟨s, u, h1, h2, h4⟩ | ⟨sz, o, el, f, h1, rfl⟩
    · have h3 := h.vw s _ (getV_some h2)
      simp only [mvTh, h1]
      have h5 : VwOk θ base w (θ s) (pullV τ v) := by
        rw [← h4]; split
        · exact h3
        · exact h3.toRo
      exact h5.pull ht (hs.get hv)
    · simp only [mvTh, h1]
      exact ⟨rfl, Nat.le_refl _, ⟨.inl rfl, fun a ha => (nomatch ha)⟩, fun i hi => absurd hi (Nat.not_lt_zero _), fun a ha => (nomatch ha), fun _ => .inl ⟨rfl, rfl⟩⟩
  · rw [ht t (hb t v hv)] at ha
    rw [ht t' (hb t' v' hv')] at ha'
    rcases olds_get he hn t v hv with ⟨s, u, h1, h2, h5⟩ | ⟨sz, o, el, f, h1, rfl⟩
    · rcases olds_get he hn t' v' hv' with ⟨s', u', h3, h4, h6⟩ | ⟨sz, o, el, f, h3, rfl⟩
      · simp only [mvTh, h1] at ha
        simp only [mvTh, h3] at ha'
        rw [if_pos ho] at h5
        refine h.ne s s' _ _ (getV_some h2) (getV_some h4) (fun e => ?_) (by rw [h5, pullV_own]; exact ho) ?_ a a' ha ha'
        · subst e
          exact hne (apart_ne hd h1 h3 hv hv' ho)
        · by_cases ho' : v'.own = true
          · rw [if_pos ho'] at h6
            exact .inl (by rw [h6, pullV_own]; exact ho')
          · rw [if_neg ho'] at h6
            refine .inr (Vw.ro_live _ ?_)
            rw [h6]
            exact pullV_live τ v' (hl.resolve_left ho')
      · simp only [mvTh, h3] at ha'; cases ha'
    · simp only [mvTh, h1] at ha; cases ha

theorem FrsOk.pull {τ : List Mv} {θ θ' : Th} (ht : ∀ t, t < τ.length → θ' t = mvTh τ θ t) : ∀ {ss : List SFr} {frs : List Frame}, ss.all (fun fr => scT τ.length fr.tmps) = true → FrsOk θ (pullF τ ss) frs → FrsOk θ' ss frs
  | [], _, _, h => by cases h; exact .nil
  | s :: ss, _, hs, h => by
    simp only [List.all_cons, Bool.and_eq_true] at hs
    cases h with
    | cons h1 h2 =>
      obtain ⟨T, rfl, hT⟩ := h1
      refine .cons ⟨T, rfl, ?_, fun j v hj => ?_⟩ (FrsOk.pull ht hs.2 h2)
      · rw [hT.1]; exact pullT_length τ s.tmps
      · rw [← den_pull ht v (scT_get hs.1 hj)]
        exact hT.2 j _ (pullT_get τ _ j v hj)

theorem Ok.move {X : Cx} {c c' : SC} (τ : List Mv) (h1 : pullF τ c'.frs = c.frs) (h2 : oldsL τ τ c'.hp = oldsR c.hp τ c'.hp)
    (h3 : (nilsOk τ c'.hp && apart τ c'.hp && stay X.n0 τ && c'.frs.all (fun fr => scT τ.length fr.tmps) && decide (τ.length = c'.hp.length)) = true) (hn0 : X.n0 ≤ τ.length) (hsc : ScHp τ.length c'.hp) (k : Ok X c') : Ok X c := by
  simp only [Bool.and_eq_true, decide_eq_true_eq] at h3
  obtain ⟨⟨⟨⟨h4, h5⟩, h6⟩, h7⟩, h8⟩ := h3
  intro θ fr frs w hh
  refine k (mvTh τ θ) fr frs w ⟨fun θ' hs => ?_, fun t htt => ?_, by rw [← h8]; exact hn0, hh.bel, hh.sz, hh.gok, hh.gb⟩
  · have ht : ∀ t, t < τ.length → θ' t = mvTh τ θ t := fun t htt => hs t (by rw [← h8]; exact htt)
    have hr := hh.rel θ (Same.refl _ _)
    refine ⟨hr.hp.pull ht h2 h4 h5 hsc, FrsOk.pull ht h7 ?_⟩
    rw [h1]; exact hr.fr
  · have h9 := List.all_eq_true.1 h6 t (List.mem_range.2 htt)
    split at h9
    · rename_i s hs
      rw [beq_iff_eq] at h9
      subst h9
      simp only [mvTh, hs]
      exact hh.old _ htt
    · cases h9

theorem mask_same : ∀ {mf : List (List Bool)} {ss : List SFr} {frs : List Frame} {θ : Th}, lenF mf ss = true → FrsOk θ ss frs → FrsOk θ (maskF mf ss) frs
  | [], [], _, θ, _, h => by cases h; exact .nil
  | [], _ :: _, _, θ, hl, _ => by simp [lenF] at hl
  | _ :: _, [], _, θ, hl, _ => by simp [lenF] at hl
  | m :: mf, s :: ss, _, θ, hl, h => by
    simp only [lenF, Bool.and_eq_true, beq_iff_eq] at hl
    cases h with
    | cons h1 h2 =>
      obtain ⟨T, rfl, hT⟩ := h1
      refine .cons ⟨T, rfl, ?_, fun j v hj => ?_⟩ (mask_same hl.2 h2)
      · show T.size = (maskT m s.tmps).length
        rw [maskT_length hl.1.1]; exact hT.1
      · exact hT.2 j v (maskT_get hj)

theorem Ok.of_mask {X : Cx} {c : SC} (mf : List (List Bool)) (h : lenF mf c.frs = true) (k : Ok X ⟨maskF mf c.frs, c.hp⟩) : Ok X c := by
  intro θ fr frs w hh
  refine k θ fr frs w ⟨fun θ' hs => ?_, hh.old, hh.len, hh.bel, hh.sz, hh.gok, hh.gb⟩
  have hr := hh.rel θ' hs
  exact ⟨hr.hp, mask_same h hr.fr⟩

/-- 'Ok.cut' keeps the views it masks; a second look is free. -/
theorem Ok.cutM {X : Cx} {P : Program} {gl : List (Nat × Vw)} {c c' : SC} {ps : List Prop} (n : Nat) (hs : List Hint) (mf : List (List Bool)) (τ : List Mv) (n0 : Nat) (hP : X.P = P) (hgl : X.gl = gl) (hn0 : X.n0 = n0)
    (h : (match sxRun P gl n hs c with | some (ps, c1) => some (ps, maskF mf c1.frs, oldsR c1.hp τ c'.hp, lenF mf c1.frs) | none => none) = some (ps, pullF τ c'.frs, oldsL τ τ c'.hp, true))
    (h3 : (nilsOk τ c'.hp && apart τ c'.hp && stay n0 τ && c'.frs.all (fun fr => scT τ.length fr.tmps) && decide (τ.length = c'.hp.length) && decide (n0 ≤ τ.length)) = true)
    (hsc : ScHp τ.length c'.hp) (hps : AllP ps) (k : Ok X c') : Ok X c := by
  split at h
  · rename_i ps' c1 hr
    simp only [Option.some.injEq, Prod.mk.injEq] at h
    obtain ⟨rfl, h4, h5, h6⟩ := h
    rw [Bool.and_eq_true, decide_eq_true_eq] at h3
    rw [← hn0] at h3
    rw [← hP, ← hgl] at hr
    refine run_ok hr hps (Ok.of_mask mf h6 (Ok.move (c := ⟨maskF mf c1.frs, c1.hp⟩) τ h4.symm h5.symm h3.1 h3.2 hsc k))
  · cases h
/-! Contents that agree as far as they are read. -/

def Vw.same : Vw → Vw → Prop
  | .box o cs, .box o' cs' => o = o' ∧ cs = cs'
  | .row o el n sz f, .row o' el' n' sz' f' => o = o' ∧ el = el' ∧ n = n' ∧ sz = sz' ∧ ∀ i, i < n → f i = f' i
  | .map o k v f st, .map o' k' v' f' st' => o = o' ∧ k = k' ∧ v = v' ∧ (∀ a, f a = f' a) ∧ st = st'
  | _, _ => False

theorem VwOk.same {θ : Th} {base : Nat} {w : World} {d : Ad} {v v' : Vw} (hs : v.same v') (h : VwOk θ base w d v) : VwOk θ base w d v' := by
  cases v <;> cases v' <;> simp only [Vw.same] at hs
  · obtain ⟨rfl, rfl⟩ := hs; exact h
  · obtain ⟨rfl, rfl, rfl, rfl, hf⟩ := hs
    obtain ⟨h1, h2, h3, h4, h5, h6⟩ := h
    exact ⟨h1, h2, h3, fun i hi => by rw [← hf i hi]; exact h4 i hi, fun a ha i hi => by rw [← hf i hi]; exact h5 a ha i hi, h6⟩
  · obtain ⟨rfl, rfl, rfl, hf, rfl⟩ := hs
    obtain ⟨b, h1, h2, es, c, h3, m1, m2, m3, m4⟩ := h
    exact ⟨b, h1, h2, es, c, h3, m1, m2, fun a => by rw [← hf a]; exact m3 a, m4⟩

theorem Vw.same_own {v v' : Vw} (h : v.same v') : v'.own = v.own := by
  cases v <;> cases v' <;> simp only [Vw.same] at h <;> simp [Vw.own, h.1]
theorem Vw.same_live {v v' : Vw} (h : v.same v') (hl : v'.live) : v.live := by
  cases v <;> cases v' <;> simp only [Vw.same] at h
  · obtain ⟨rfl, rfl⟩ := h; exact hl
  · obtain ⟨rfl, rfl, rfl, rfl, hf⟩ := h; exact hl
  · trivial

def sameHp : List (Option Vw) → List (Option Vw) → Prop
  | [], [] => True
  | none :: r, none :: r' => sameHp r r'
  | some v :: r, some v' :: r' => v.same v' ∧ sameHp r r'
  | _, _ => False

theorem sameHp.length : ∀ {a b : List (Option Vw)}, sameHp a b → a.length = b.length
  | [], [], _ => rfl
  | none :: r, none :: r', h => by simp only [List.length_cons]; rw [sameHp.length (a := r) (b := r') h]
  | some v :: r, some v' :: r', h => by simp only [List.length_cons]; rw [sameHp.length h.2]
  | [], _ :: _, h => by cases h
  | none :: _, [], h => by cases h
  | some _ :: _, [], h => by cases h
  | none :: _, some _ :: _, h => by cases h
  | some _ :: _, none :: _, h => by cases h

theorem sameHp.get : ∀ {a b : List (Option Vw)}, sameHp a b → ∀ {t : Nat} {v : Vw}, b[t]? = some (some v) → ∃ u, a[t]? = some (some u) ∧ u.same v
  | [], [], _, t, v, h => by simp at h
  | none :: r, none :: r', h, 0, v, hv => by simp at hv
  | none :: r, none :: r', h, t + 1, v, hv => by simpa using sameHp.get (a := r) (b := r') h (t := t) (v := v) (by simpa using hv)
  | some u :: r, some u' :: r', h, 0, v, hv => by simp at hv; subst hv; exact ⟨u, rfl, h.1⟩
  | some u :: r, some u' :: r', h, t + 1, v, hv => by simpa using sameHp.get h.2 (t := t) (v := v) (by simpa using hv)
  | [], _ :: _, h, _, _, _ => by cases h
  | none :: _, [], h, _, _, _ => by cases h
  | some _ :: _, [], h, _, _, _ => by cases h
  | none :: _, some _ :: _, h, _, _, _ => by cases h
  | some _ :: _, none :: _, h, _, _, _ => by cases h

theorem HpOk.same {θ : Th} {base : Nat} {w : World} {a b : List (Option Vw)} (hs : sameHp a b) (h : HpOk θ base a w) : HpOk θ base b w := by
  refine ⟨fun t v hv => ?_, fun t t' v v' hv hv' hne ho hl x x' hx hx' => ?_⟩
  · obtain ⟨u, hu, hs'⟩ := hs.get hv
    exact (h.vw t u hu).same hs'
  · obtain ⟨u, hu, hs1⟩ := hs.get hv
    obtain ⟨u', hu', hs2⟩ := hs.get hv'
    exact h.ne t t' u u' hu hu' hne (by rw [← Vw.same_own hs1]; exact ho) (hl.imp (fun e => by rw [← Vw.same_own hs2]; exact e) (Vw.same_live hs2)) x x' hx hx'

theorem sameHp.append : ∀ {a b c d : List (Option Vw)}, sameHp a b → sameHp c d → sameHp (a ++ c) (b ++ d)
  | [], [], c, d, _, h => h
  | none :: r, none :: r', c, d, h, k => sameHp.append (a := r) (b := r') h k
  | some v :: r, some v' :: r', c, d, h, k => ⟨h.1, sameHp.append h.2 k⟩
  | [], _ :: _, _, _, h, _ => by cases h
  | none :: _, [], _, _, h, _ => by cases h
  | some _ :: _, [], _, _, h, _ => by cases h
  | none :: _, some _ :: _, _, _, h, _ => by cases h
  | some _ :: _, none :: _, _, _, h, _ => by cases h

theorem Vw.same_refl (v : Vw) : v.same v := by cases v <;> simp [Vw.same]
theorem Vw.same_symm {v v' : Vw} (h : v.same v') : v'.same v := by
  cases v <;> cases v' <;> simp only [Vw.same] at h ⊢
  · exact ⟨h.1.symm, h.2.symm⟩
  · obtain ⟨rfl, rfl, rfl, rfl, hf⟩ := h; exact ⟨rfl, rfl, rfl, rfl, fun i hi => (hf i hi).symm⟩
  · obtain ⟨rfl, rfl, rfl, hf, rfl⟩ := h; exact ⟨rfl, rfl, rfl, fun a => (hf a).symm, rfl⟩
theorem sameHp.symm : ∀ {a b : List (Option Vw)}, sameHp a b → sameHp b a
  | [], [], _ => trivial
  | none :: r, none :: r', h => sameHp.symm (a := r) (b := r') h
  | some v :: r, some v' :: r', h => ⟨Vw.same_symm h.1, sameHp.symm h.2⟩
  | [], _ :: _, h => by cases h
  | none :: _, [], h => by cases h
  | some _ :: _, [], h => by cases h
  | none :: _, some _ :: _, h => by cases h
  | some _ :: _, none :: _, h => by cases h
theorem sameHp.refl : ∀ (a : List (Option Vw)), sameHp a a
  | [] => trivial
  | none :: r => sameHp.refl r
  | some v :: r => ⟨v.same_refl, sameHp.refl r⟩

/-- The contract, its views told anew. -/
theorem SCall.same {P : Program} {gl : List (Nat × Vw)} {f : FuncId} {args : List SV} {hp hp' : List (Option Vw)} {res : SV} {new new' : List (Option Vw)} (h : SCall P gl f args hp res new) (h1 : sameHp hp' hp) (h2 : sameHp new new') :
    SCall P gl f args hp' res new' := by
  intro θ w hh hg cs
  obtain ⟨e, w', fr', ⟨hb, r, he, nw, hn⟩, hc, h3, h4⟩ := h θ w (hh.same h1) hg cs
  refine ⟨e, w', fr', ⟨hb, r, he, nw, fun θ' hs hk => ?_⟩, hc, h3, h4⟩
  rw [h1.length] at hs hk
  rw [← h2.length] at hk
  obtain ⟨h5, h6⟩ := hn θ' hs hk
  refine ⟨h5, ?_⟩
  exact h6.same (h1.symm.append h2)

theorem IsFin.same {X : Cx} {P : Program} {gl : List (Nat × Vw)} {f : FuncId} {hp0 new new' : List (Option Vw)} {res : SV} (hX : IsFin X P gl f hp0 res new) (h : sameHp new' new) : IsFin X P gl f hp0 res new' := by
  obtain ⟨h1, h2, h3, hce, h4, h5, h6, h7, h8⟩ := hX
  refine ⟨h1, h2, h3, hce, h4, h5, h6, h7, fun r w' hb hr => h8 r w' hb ?_⟩
  obtain ⟨nw, hn⟩ := hr
  refine ⟨nw, fun θ' hs hk => ?_⟩
  obtain ⟨h9, h10⟩ := hn θ' hs (by rw [h.length]; exact hk)
  exact ⟨h9, h10.same ((sameHp.refl hp0).append h)⟩

def hasBody (P : Program) (f : FuncId) : Bool := match P.funcs[f]? with
  | some fn => fn.body.isSome
  | none => false

/-- A function of which all ways are known. -/
theorem SCall.of {P : Program} {gl : List (Nat × Vw)} {f : FuncId} {args : List SV} {hp0 : List (Option Vw)} {res : SV} {new : List (Option Vw)} (hb : hasBody P f = true)
    (hsc : scL hp0.length args = true) (hh : ScHp hp0.length hp0) (hro : isRo hp0 = true) (h : ∀ X, IsFin X P gl f hp0 res new → Ok X (entry P f args hp0)) : SCall P gl f args hp0 res new := by
  refine SCall.intro (fun he => ?_) hsc hh hro h
  unfold hasBody at hb
  unfold entry at he
  split at hb
  · rename_i fn hf
    rw [hf] at he
    simp only at he
    cases hbd : fn.body with
    | none => rw [hbd] at hb; cases hb
    | some b => rw [hbd] at he; cases he
  · cases hb

def dupσ (t : Nat) : Nat := t - 1

/-- Two views that are one. -/
theorem SCall.dup {P : Program} {gl : List (Nat × Vw)} {f : FuncId} {args args' : List SV} {v : Vw} {res res' : SV} {new : List (Option Vw)} (h : SCall P gl f args [some v, some v] res new) (ho : v.own = false) (hs : ScV 0 v) (hn : ScHp 0 new)
    (ha : rnmL dupσ args = args') (hr : rnm dupσ res = res') : SCall P gl f args' [some v] res' new := by
  intro θ w hh hg cs
  have hv : VwOk θ w.heap.size w (θ 0) v := hh.vw 0 v rfl
  have hz : ∀ a b : Th, Same 0 a b := fun a b t ht => absurd ht (Nat.not_lt_zero _)
  have hh2 : HpOk (fun t => θ (dupσ t)) w.heap.size [some v, some v] w := by
    refine ⟨fun t u hu => ?_, fun t t' u u' hu hu' hne hown => ?_⟩
    · match t, hu with
      | 0, hu => simp at hu; subst hu; exact hv.sc (hz _ _) hs
      | 1, hu => simp at hu; subst hu; exact hv.sc (hz _ _) hs
      | t + 2, hu => simp at hu
    · have : u = v := by
        match t, hu with
        | 0, hu => simpa using hu.symm
        | 1, hu => simpa using hu.symm
        | t + 2, hu => simp at hu
      rw [this, ho] at hown; cases hown
  obtain ⟨e, w', fr', ⟨hb, r, he, nw, hk⟩, hc, h3, h4⟩ := h (fun t => θ (dupσ t)) w hh2 hg cs
  rw [← denL_rnm, ha] at hc
  refine ⟨e, w', fr', ⟨hb, r, he, nw, fun θ' hs' hk' => ?_⟩, hc, h3, h4⟩
  obtain ⟨h5, h6⟩ := hk (fun t => θ' (dupσ t)) (fun t ht => hs' _ (by simp only [List.length_cons, List.length_nil, dupσ] at ht ⊢; omega)) (fun k hk2 => by
    show θ' (dupσ (2 + k)) = _
    rw [show dupσ (2 + k) = 1 + k by unfold dupσ; omega]
    exact hk' k hk2)
  rw [← den_rnm, hr] at h5
  refine ⟨h5, fun t u hu => ?_, fun t t' u u' hu hu' hne hown hl a a' haa haa' => ?_⟩
  · match t, hu with
    | 0, hu =>
      simp at hu; subst hu
      exact (h6.vw 0 _ rfl).sc (hz _ _) hs
    | k + 1, hu =>
      have hu2 : new[k]? = some (some u) := by simpa using hu
      exact (h6.vw (k + 2) u (by simpa using hu2)).sc (hz _ _) (hn.get hu2)
  · have key : ∀ t u, ([some v] ++ new)[t]? = some (some u) → ([some v, some v] ++ new)[if t = 0 then 0 else t + 1]? = some (some u) ∧ dupσ (if t = 0 then 0 else t + 1) = t := by
      intro t u hu
      match t, hu with
      | 0, hu => exact ⟨by simpa using hu, rfl⟩
      | k + 1, hu => exact ⟨by simpa using hu, by unfold dupσ; simp⟩
    obtain ⟨k1, k2⟩ := key t u hu
    obtain ⟨k3, k4⟩ := key t' u' hu'
    refine h6.ne _ _ u u' k1 k3 (fun hq => hne ?_) hown hl a a' (by rw [k2]; exact haa) (by rw [k4]; exact haa')
    rw [← k2, ← k4, hq]

end Go.Sx
