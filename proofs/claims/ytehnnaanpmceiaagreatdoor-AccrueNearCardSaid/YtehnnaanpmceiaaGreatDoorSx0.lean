/-
  SX, part 0: a symbolic machine over Go's code: values that may point into views of memory, what a configuration says of a real one.
  No program in it: it serves every seat.
-/
import Derived.Below
import Derived.Calls
import Derived.KernelRfl
import Derived.Laws.AppendOwn
import Derived.AtR
import Derived.MapKept
set_option linter.unusedVariables false
set_option linter.unusedSimpArgs false
namespace Go.Sx
open Go.RowKit

/-- A symbolic value: a real one, or one that leads into a view (by the view's number). -/
inductive SV where
  | val (v : Value)
  | ptr (t j : Nat)
  | rptr (t : Nat) (i : Int) (j : Nat)
  | gptr (g : Nat) (sz : Nat) (i : Int) (j : Nat)
  | sl (t n : Nat)
  | agg (cs : List SV)
  | tup (vs : List SV)
  | fn (f : Fn) (first captured : List SV)
  | ifc (t : TypeId) (v : SV)
  | mp (t : Nat)
  deriving Inhabited

/-- Where a view really lies: its first cell, a slice's capacity, the cells of a row. -/
structure Ad where
  base : Option Addr
  cap : Nat
  sz : Nat

abbrev Th := Nat → Ad

def at_ (a : Addr) (j : Nat) : Addr := ⟨a.block, a.off + j, none⟩

mutual
def den (θ : Th) : SV → Value
  | .val v => v
  | .ptr t j => .pointer ((θ t).base.map fun a => at_ a j)
  | .rptr t i j => .pointer ((θ t).base.map fun a => at_ a (i.toNat * (θ t).sz + j))
  | .gptr g sz i j => .pointer (some ⟨g, i.toNat * sz + j, none⟩)
  | .sl t n => .slice (θ t).base n (θ t).cap
  | .agg cs => .agg (denL θ cs).toArray
  | .tup vs => .tuple (denL θ vs).toArray
  | .fn f a b => .func f (denL θ a).toArray (denL θ b).toArray
  | .ifc t v => .iface t (den θ v)
  | .mp t => .map ((θ t).base.map (·.block))
def denL (θ : Th) : List SV → List Value
  | [] => []
  | v :: vs => den θ v :: denL θ vs
end

theorem denL_map (θ : Th) : ∀ l, denL θ l = l.map (den θ)
  | [] => rfl
  | v :: vs => by rw [denL, denL_map θ vs]; rfl

mutual
/-- The same value, its views renumbered. -/
def rnm (σ : Nat → Nat) : SV → SV
  | .val v => .val v
  | .ptr t j => .ptr (σ t) j
  | .rptr t i j => .rptr (σ t) i j
  | .gptr g sz i j => .gptr g sz i j
  | .sl t n => .sl (σ t) n
  | .agg cs => .agg (rnmL σ cs)
  | .tup vs => .tup (rnmL σ vs)
  | .fn f a b => .fn f (rnmL σ a) (rnmL σ b)
  | .ifc t v => .ifc t (rnm σ v)
  | .mp t => .mp (σ t)
def rnmL (σ : Nat → Nat) : List SV → List SV
  | [] => []
  | v :: vs => rnm σ v :: rnmL σ vs
end

mutual
theorem den_rnm (θ : Th) (σ : Nat → Nat) : ∀ v, den θ (rnm σ v) = den (fun t => θ (σ t)) v
  | .val v => rfl
  | .ptr t j => rfl
  | .rptr t i j => rfl
  | .gptr g sz i j => rfl
  | .sl t n => rfl
  | .agg cs => by simp only [rnm, den, denL_rnm θ σ cs]
  | .tup cs => by simp only [rnm, den, denL_rnm θ σ cs]
  | .fn f a b => by simp only [rnm, den, denL_rnm θ σ a, denL_rnm θ σ b]
  | .ifc t v => by simp only [rnm, den, den_rnm θ σ v]
  | .mp t => rfl
theorem denL_rnm (θ : Th) (σ : Nat → Nat) : ∀ l, denL θ (rnmL σ l) = denL (fun t => θ (σ t)) l
  | [] => rfl
  | v :: vs => by simp only [rnmL, denL, den_rnm θ σ v, denL_rnm θ σ vs]
end

theorem rnmL_map (σ : Nat → Nat) : ∀ l, rnmL σ l = l.map (rnm σ)
  | [] => rfl
  | v :: vs => by rw [rnmL, rnmL_map σ vs]; rfl

theorem rnmL_length (σ : Nat → Nat) (l : List SV) : (rnmL σ l).length = l.length := by rw [rnmL_map]; simp

/-- A view: a variable's cells, or a row of n elements of sz cells each. 'own': a block of the call's own that nobody else knows. -/
inductive Vw where
  | box (own : Bool) (cs : List SV)
  | row (own : Bool) (el : TypeId) (n sz : Nat) (f : Nat → List SV)
  | map (own : Bool) (k v : IntKind) (f : Int → Int) (st : List (Int × Int))

def Vw.own : Vw → Bool
  | .box o _ => o
  | .row o _ _ _ _ => o
  | .map o _ _ _ _ => o

def Vw.live : Vw → Prop
  | .box _ cs => cs ≠ []
  | .row _ _ n sz _ => 0 < n ∧ 0 < sz
  | .map _ _ _ _ _ => True

def Vw.rnm (σ : Nat → Nat) : Vw → Vw
  | .box o cs => .box o (rnmL σ cs)
  | .row o el n sz f => .row o el n sz (fun i => rnmL σ (f i))
  | .map o k v f st => .map o k v f st

def Vw.ro : Vw → Vw
  | .box _ cs => .box false cs
  | .row _ el n sz f => .row false el n sz f
  | .map _ k v f st => .map false k v f st

def one : SV → Bool
  | .agg _ => false
  | .tup _ => false
  | .val v => v.oneCell'
  | _ => true

theorem one_den {θ : Th} {v : SV} (h : one v = true) : (den θ v).oneCell' = true := by
  cases v <;> first | rfl | exact h | (simp [one] at h)

/-- Cells cs lie at a, from its j-th cell on. -/
def Lies (θ : Th) (w : World) (a : Addr) (j : Nat) (cs : List SV) : Prop :=
  ∀ (k : Nat) (v : SV), cs[k]? = some v → w.cell? (at_ a (j + k)) = some (den θ v)

/-- Block b is cells of type el, unfrozen, so many. -/
def Whole (w : World) (b : Nat) (n : Nat) : Prop := ∃ c el, w.heap[b]? = some (.cells c el (0, 0)) ∧ c.size = n

/-- What a map of numbers holds at a number. -/
def mlook (a : Int) : List MapEntry → Option Int
  | [] => none
  | ⟨.int _ b, .int _ x, _⟩ :: r => if b = a then some x else mlook a r
  | _ :: r => mlook a r

/-- A map of numbers; what is not in it is 0. Of some entries it is known which stamp they have. -/
def MapIn (es : Array MapEntry) (c : Nat) (k v : IntKind) (f : Int → Int) (st : List (Int × Int)) : Prop :=
  MapKept.Stamped es c ∧ (∀ e ∈ es.toList, ∃ a x, e.key = .int k a ∧ e.val = .int v x) ∧ (∀ a, (mlook a es.toList).getD 0 = f a) ∧ ∀ p ∈ st, ∃ e ∈ es.toList, (e.born : Int) = p.1 ∧ e.key = .int k p.2

/-- Block b is such a map. -/
def MapAt (w : World) (b : Nat) (k v : IntKind) (f : Int → Int) (st : List (Int × Int)) : Prop :=
  ∃ es c, w.heap[b]? = some (.map es c) ∧ MapIn es c k v f st

def VwOk (θ : Th) (base : Nat) (w : World) (d : Ad) : Vw → Prop
  | .box own cs => (cs ≠ [] → ∃ a, d.base = some a ∧ Lies θ w a 0 cs) ∧
      (own = true → ∃ b, d.base = some ⟨b, 0, none⟩ ∧ base ≤ b ∧ Whole w b cs.length)
  | .row own el n sz f => d.sz = sz ∧ n ≤ d.cap ∧ ((n = 0 ∨ ∃ a, d.base = some a) ∧ ∀ a, d.base = some a → a.spot = none) ∧ (∀ i, i < n → (f i).length = sz ∧ (f i).all one = true) ∧ (∀ a, d.base = some a → ∀ i, i < n → Lies θ w a (i * sz) (f i)) ∧
      (own = true → d.base = none ∧ d.cap = 0 ∨ ∃ b c, d.base = some ⟨b, 0, none⟩ ∧ base ≤ b ∧ w.heap[b]? = some (.cells c el (0, 0)) ∧ c.size = d.cap * sz ∧ d.cap ≤ maxLen)
  | .map own k v f st => ∃ b, d.base = some ⟨b, 0, none⟩ ∧ (own = true → base ≤ b) ∧ MapAt w b k v f st

structure HpOk (θ : Th) (base : Nat) (hp : List (Option Vw)) (w : World) : Prop where
  vw : ∀ t v, hp[t]? = some (some v) → VwOk θ base w (θ t) v
  ne : ∀ t t' v v', hp[t]? = some (some v) → hp[t']? = some (some v') → t ≠ t' → v.own = true → (v'.own = true ∨ v'.live) →
    ∀ a a', (θ t).base = some a → (θ t').base = some a' → a.block ≠ a'.block

/-- What lies in package-level variables (and in blocks that these lead to: of a box that is 'own' it is known besides that it is plain cells, unfrozen). -/
def GOk (gl : List (Nat × Vw)) (w : World) : Prop := ∀ g v, (g, v) ∈ gl → g < w.heap.size ∧ ∀ θ, match v with
  | .box o cs => Lies θ w ⟨g, 0, none⟩ 0 cs ∧ (o = true → ∃ c el, w.heap[g]? = some (.cells c el (0, 0)))
  | .row _ _ n sz f => ∀ i, i < n → (f i).length = sz ∧ Lies θ w ⟨g, 0, none⟩ (i * sz) (f i)
  | .map _ _ _ _ _ => True

/-- What else a frame is: a round of a range over a function (by the loop's record), what is deferred. -/
structure Rx where
  rd : Option Nat := none
  ds : List Deferred := []

structure SFr where
  fn : FuncId
  tmps : List (Option SV)
  todo : List Item
  rx : Rx := {}

structure SC where
  frs : List SFr
  hp : List (Option Vw)

def mkFr (rx : Rx) (fn : FuncId) (T : Array Value) (todo : List Item) : Frame := ({ (default : Frame) with fn := fn, kind := .normal, roundOf := rx.rd } : Frame).atR { tmps := T, defers := rx.ds } todo

def TOk (θ : Th) (l : List (Option SV)) (T : Array Value) : Prop := T.size = l.length ∧ ∀ (j : Nat) (v : SV), l[j]? = some (some v) → T[j]? = some (den θ v)

def FrOk (θ : Th) (s : SFr) (fr : Frame) : Prop := ∃ T, fr = mkFr s.rx s.fn T s.todo ∧ TOk θ s.tmps T

inductive FrsOk (θ : Th) : List SFr → List Frame → Prop
  | nil : FrsOk θ [] []
  | cons {s : SFr} {ss : List SFr} {fr : Frame} {frs : List Frame} : FrOk θ s fr → FrsOk θ ss frs → FrsOk θ (s :: ss) (fr :: frs)

/-- Two readings lay the same views at the same places. -/
def SameA (A : Nat → Prop) (θ θ' : Th) : Prop := ∀ t, A t → θ' t = θ t

theorem SameA.refl (A : Nat → Prop) (θ : Th) : SameA A θ θ := fun _ _ => rfl

abbrev Same (n : Nat) (θ θ' : Th) : Prop := SameA (fun t => t < n) θ θ'

theorem Same.refl (n : Nat) (θ : Th) : Same n θ θ := fun _ _ => rfl
theorem Same.trans {n : Nat} {a b c : Th} (h : Same n a b) (k : Same n b c) : Same n a c := fun t ht => (k t ht).trans (h t ht)
theorem Same.mono {n m : Nat} {a b : Th} (h : Same n a b) (hm : m ≤ n) : Same m a b := fun t ht => h t (Nat.lt_of_lt_of_le ht hm)

/-- What is fixed while a call runs. -/
structure Cx where
  P : Program
  gl : List (Nat × Vw)
  base : Nat
  w0 : World
  θ0 : Th
  n0 : Nat
  cs : List Frame
  ce : List Frame
  f0 : FuncId
  R : Ending → World → Prop

structure Rel (X : Cx) (θ : Th) (c : SC) (frs : List Frame) (w : World) : Prop where
  hp : HpOk θ X.base c.hp w
  fr : FrsOk θ c.frs frs

structure Holds (X : Cx) (θ : Th) (c : SC) (frs : List Frame) (w : World) : Prop where
  rel : ∀ θ', Same c.hp.length θ θ' → Rel X θ' c frs w
  old : Same X.n0 X.θ0 θ
  len : X.n0 ≤ c.hp.length
  bel : Below X.base X.w0 w
  sz : X.base ≤ w.heap.size
  gok : GOk X.gl w
  gb : ∀ g v, (g, v) ∈ X.gl → g < X.base

def Done (X : Cx) (fr : Frame) (frs : List Frame) (w : World) : Prop :=
  ∃ e w' fr', X.R e w' ∧ Comes X.P (lone fr (frs ++ X.cs) w) (lone fr' X.ce w') e ∧ fr'.fn = X.f0 ∧ fr'.leaving X.P w' e

def Ok (X : Cx) (c : SC) : Prop := ∀ θ fr frs w, Holds X θ c (fr :: frs) w → Done X fr frs w

theorem Done.head {X : Cx} {fr fr2 : Frame} {frs frs2 : List Frame} {w w2 : World} (h : step X.P (lone fr (frs ++ X.cs) w) = .next (lone fr2 (frs2 ++ X.cs) w2))
    (hd : Done X fr2 frs2 w2) : Done X fr frs w := by
  obtain ⟨e, w', fr', hR, hc, h1, h2⟩ := hd
  exact ⟨e, w', fr', hR, Comes.of_steps (.one h) hc, h1, h2⟩

theorem Done.steps {X : Cx} {fr fr2 : Frame} {frs frs2 : List Frame} {w w2 : World} (h : Steps X.P (lone fr (frs ++ X.cs) w) (lone fr2 (frs2 ++ X.cs) w2))
    (hd : Done X fr2 frs2 w2) : Done X fr frs w := by
  obtain ⟨e, w', fr', hR, hc, h1, h2⟩ := hd
  exact ⟨e, w', fr', hR, Comes.of_steps h hc, h1, h2⟩

theorem GOk.below {gl : List (Nat × Vw)} {base : Nat} {w w' : World} (hg : GOk gl w) (hb : ∀ g v, (g, v) ∈ gl → g < base) (h : Below base w w') : GOk gl w' := by
  intro g v hm
  obtain ⟨h1, h2⟩ := hg g v hm
  refine ⟨Nat.lt_of_lt_of_le h1 h.size, fun θ => ?_⟩
  have hc : ∀ o, w'.cell? ⟨g, o, none⟩ = w.cell? ⟨g, o, none⟩ := fun o => World.cell?_of_block (h.block g (hb g v hm))
  have h3 := h2 θ
  cases v with
  | box o cs => exact ⟨fun k v hk => (hc _).trans (h3.1 k v hk), fun ho => by rw [h.block g (hb g _ hm)]; exact h3.2 ho⟩
  | row o el n sz f => exact fun i hi => ⟨(h3 i hi).1, fun k v hk => (hc _).trans ((h3 i hi).2 k v hk)⟩
  | map o k v f st => trivial

/-- One move of the machine (or several); new views are told. -/
theorem Ok.of_step {X : Cx} {c c' : SC} (hlen : c.hp.length ≤ c'.hp.length)
    (h : ∀ θ fr frs w, Holds X θ c (fr :: frs) w → ∃ fr2 frs2 w2, ∃ new : Nat → Ad, Steps X.P (lone fr (frs ++ X.cs) w) (lone fr2 (frs2 ++ X.cs) w2) ∧
      Below X.base w w2 ∧ ∀ θ', Same c.hp.length θ θ' → (∀ k, c.hp.length + k < c'.hp.length → θ' (c.hp.length + k) = new k) → Rel X θ' c' (fr2 :: frs2) w2) (hk : Ok X c') : Ok X c := by
  intro θ fr frs w hh
  obtain ⟨fr2, frs2, w2, new, hs, hb, hr⟩ := h θ fr frs w hh
  refine Done.steps hs (hk (fun t => if t < c.hp.length then θ t else new (t - c.hp.length)) fr2 frs2 w2 ⟨?_, ?_, Nat.le_trans hh.len hlen, hh.bel.trans hb, Nat.le_trans hh.sz hb.size, hh.gok.below hh.gb hb, hh.gb⟩)
  · intro θ' hs'
    refine hr θ' (fun t ht => ?_) (fun k hk => ?_)
    · rw [hs' t (by omega)]; simp [ht]
    · rw [hs' _ hk]; simp only [show ¬ c.hp.length + k < c.hp.length by omega, if_false, Nat.add_sub_cancel_left]
  · intro t ht
    have := hh.len
    simp only [show t < c.hp.length by omega, if_true]
    exact hh.old t ht

end Go.Sx
