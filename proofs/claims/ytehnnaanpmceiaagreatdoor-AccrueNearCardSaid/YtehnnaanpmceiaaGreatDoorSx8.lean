/-
  SX, part 8: the machine's steps.
-/
import Derived.Test.YtehnnaanpmceiaaGreatDoorSx7
set_option linter.unusedVariables false
set_option linter.unusedSimpArgs false
namespace Go.Sx
open Go.RowKit

/-- A function's contract: given arguments that point into views, it hands back a value and makes new views; nothing that was there turns. -/
def SCall (P : Program) (gl : List (Nat × Vw)) (f : FuncId) (args : List SV) (hp : List (Option Vw)) (res : SV) (new : List (Option Vw)) : Prop :=
  ∀ (θ : Th) (w : World), HpOk θ w.heap.size hp w → GOk gl w → Calls P f (denL θ args).toArray w fun e w' => Below w.heap.size w w' ∧ ∃ r, e = .returned r ∧
    ∃ nw : Nat → Ad, ∀ θ', Same hp.length θ θ' → (∀ k, k < new.length → θ' (hp.length + k) = nw k) → r = den θ' res ∧ HpOk θ' w.heap.size (hp ++ new) w'

def idx (t : Nat) : List Nat → Nat → Option Nat
  | [], _ => none
  | s :: r, k => if s == t then some k else idx t r (k + 1)

/-- A view's number as the callee counts it. -/
def inv (σ : List Nat) (t : Nat) : Nat := match idx t σ 0 with
  | some k => k
  | none => σ.length + t

/-- A callee's view's number as the caller counts it: its new ones come behind the caller's. -/
def fwd (σ : List Nat) (n t : Nat) : Nat := if t < σ.length then σ.getD t 0 else n + (t - σ.length)

def newOk : List (Option Vw) → Bool := fun l => l.all fun x => match x with
  | some v => v.own
  | none => false

def setT (l : List (Option SV)) (d : Option Tmp) (v : SV) : List (Option SV) := match d with
  | some d => l.set d (some v)
  | none => l

/-- What the frame knows of a guard: nothing is hinted where it was not carried out itself. -/
def guardS (ops : Array Oper) (l : List (Option SV)) (hs : List Hint) (o : Oper) : Option (List Prop × List Hint × Bool) := match o.guard with
  | none => some ([], hs, true)
  | some (j, want) => match (ops[j]?).bind (·.dst) with
    | some d => match l[d]? with
      | some (some (.val (.bool b))) => match hs with
        | .b t :: hs => some ([b = t], hs, t == want)
        | _ => none
      | some (some (.tup [])) => some ([], hs, false)
      | _ => none
    | none => none

def argV (σ : List Nat) (hp : List (Option Vw)) : List (Option Vw) := σ.map fun t => (getV hp t).map fun v => (v.rnm (inv σ)).ro

/-- What one operation of the open part tells and lays. -/
structure ERn where
  v : SV
  news : List Vw
  anc : Nat
  con : Option Nat := none

/-- How many views operations lay; where those of the q-th begin. -/
def sumN : List ERn → Nat
  | [] => 0
  | r :: rs => r.news.length + sumN rs

def offs (N : Nat) (res : List ERn) (q : Nat) : Nat := N + sumN (res.take q)

/-- A view that an operation of the open part uses up is one that the open part laid, and whoever might read it comes ahead. -/
def conOk (N : Nat) (res : List ERn) (anc : Nat) : Option Nat → Bool
  | none => true
  | some t => decide (N ≤ t) && (List.range res.length).all fun q => !(decide (offs N res q ≤ t) && decide (t < offs N res (q + 1))) ||
      (List.range res.length).all fun j => !(j == q || (((res[j]?).map ERn.anc).getD 0).testBit q) || anc.testBit j

def needsL (o : Oper) : List Nat := (o.after.toList.filter (fun e => Region.binds .any e)).map (·.on)

def sxE (P : Program) (gl : List (Nat × Vw)) (l : List (Option SV)) (hp : List (Option Vw)) (hs : List Hint) (o : Op) : Option (List Prop × List Hint × SV × List Vw × Option Nat) :=
  match o with
  | .alloc e => match P.info? e with
    | some i => match i.zero with
      | some z => some ([], hs, .ptr hp.length 0, [.box true (z.cells.toList.map .val)], none)
      | none => none
    | none => none
  | .box _ x => match ev l x with
    | some v => match cellsS v with
      | some cs => some ([], hs, .ptr hp.length 0, [.box true cs], none)
      | none => none
    | none => none
  | .buildSlice t n parts => match P.underlying t, evL l (parts.toList.map (·.2)) with
    | some (.slice el), some vs => match P.info? el, rowsOf 0 ((parts.toList.map (·.1)).zip vs) with
      | some i, some rows => match i.zero, hs with
        | some z, .row f :: hs => if z.cells.size == i.size && decide (0 < i.size) && decide (n * i.size ≤ 16777216) && rows.length == n && rows.all (fun r => r.length == i.size && r.all one) then
            some ([∀ k, k < n → f k = rows.getD k []], hs, .sl hp.length n, [.row true el n i.size f], none) else none
        | _, _ => none
      | _, _ => none
    | _, _ => none
  | .makeSlice t x y => match P.underlying t, ev l x, ev l y with
    | some (.slice el), some (.val (.int k n)), some (.val (.int k' n')) => match P.info? el with
      | some i => match i.zero with
        | some z => if z.cells.size == i.size && decide (0 < i.size) && (z.cells.toList.map SV.val).all one then
            some ([n = n', 0 ≤ n, (i.bytes : Int) * n ≤ 281474976710656, n ≤ 9223372036854775807], hs, .sl hp.length n.toNat, [.row true el n.toNat i.size (fun _ => z.cells.toList.map .val)], none) else none
        | none => none
      | none => none
    | _, _, _ => none
  | .call ⟨.value f, args, ats⟩ => match sxOp P gl l hp hs (.call ⟨.value f, args, ats⟩) with
    | some (ps, hs', .val v hp') => match sxV P gl l hp hs (.call ⟨.value f, args, ats⟩) with
      | some (ps, hs', v) => some (ps, hs', v, [], none)
      | none => none
    | some (qs, .call σ res new :: hs', .enter g as) => if newOk new && σ.all (fun t => decide (t < hp.length) && (getV hp t).isSome) then
        some (qs ++ [SCall P gl g (rnmL (inv σ) as) (argV σ hp) res new], hs', rnm (fwd σ hp.length) res, (new.filterMap id).map (Vw.rnm (fwd σ hp.length)), none)
      else none
    | _ => none
  | .slice t x lo hi none => match P.underlying t, ev l x with
    | some (.slice el), some (.sl tg n) => match getV hp tg, szOf P el, (match lo with | some a => ev l a | none => some (.val (.int .i64 0))), (match hi with | some a => ev l a | none => some (.val (.int .i64 (n : Int)))) with
      | some (.row false el' m sz f), some s, some (.val (.int _ a)), some (.val (.int _ b)) => if s == sz then
          some ([m = n, 0 ≤ b ∧ b ≤ (n : Int), 0 ≤ a ∧ a ≤ b], hs, .sl hp.length (b.toNat - a.toNat), [.row false el' (b.toNat - a.toNat) sz (fun k => f (k + a.toNat))], none) else none
      | _, _, _, _ => none
    | _, _ => match sxV P gl l hp hs (.slice t x lo hi none) with
      | some (ps, hs', v) => some (ps, hs', v, [], none)
      | none => none
  | .call ⟨.builtin .append, args, ats⟩ => match args.toList, ats.toList with
    | [s, x], [t, t'] => match P.underlying t, ev l s, ev l x, hs with
      | some (.slice el), some (.sl ts n), some (.sl tx m), .row f'' :: hs => match P.info? el, getV hp tx, getV hp ts with
        | some i, some (.row _ _ m' sx f'), some (.row true el' n' ss f) => match i.zero with
          | some z => if t == t' && z.cells.size == i.size && decide (0 < i.size) && decide (1 ≤ i.bytes) && sx == i.size && el' == el && ss == i.size then
              some ([m = m', n = n', (n + m) * i.bytes ≤ 140737488355328, ∀ k, k < n + m → f'' k = if k < n then f k else f' (k - n)], hs, .sl hp.length (n + m), [.row true el (n + m) i.size f''], some ts) else none
          | none => none
        | _, _, _ => none
      | _, _, _, _ => none
    | _, _ => none
  | o => match sxV P gl l hp hs o with
    | some (ps, hs', v) => some (ps, hs', v, [], none)
    | none => none

def dstOf (ops : Array Oper) (q : Nat) : Option Tmp := (ops[q]?).bind (·.dst)

/-- An operation that comes behind another one. -/
def waits (ops : Array Oper) (i q : Nat) : Bool := match ops[q]? with
  | some o => (needsL o).contains i
  | none => false

/-- The slots, of the open part's operations those alone that 'ok' names; those that 'no' names have not come. -/
def slotS (ops : Array Oper) (res : List ERn) (ok no : Nat → Bool) : Nat → List (Option SV) → List (Option SV)
  | 0, l => l
  | m + 1, l => match dstOf ops m with
    | some d => if no m then slotS ops res ok no m l else (slotS ops res ok no m l).set d (if ok m then (res[m]?).map (·.v) else none)
    | none => slotS ops res ok no m l

def heapR (ok : Nat → Bool) : Nat → List ERn → List (Option Vw)
  | _, [] => []
  | q, r :: rs => (r.news.map fun v => if ok q then some v else none) ++ heapR ok (q + 1) rs

def conL : List ERn → List Nat
  | [] => []
  | r :: rs => match r.con with
    | some t => t :: conL rs
    | none => conL rs

def mask : List Nat → List (Option Vw) → List (Option Vw)
  | [], h => h
  | t :: r, h => mask r (h.set t none)

def heapS (hp : List (Option Vw)) (res : List ERn) (ok : Nat → Bool) : List (Option Vw) := mask (conL res) (hp ++ heapR ok 0 res)

def ancOf (res : List ERn) : List Nat → Nat
  | [] => 0
  | j :: r => 2 ^ j ||| ((res[j]?).map (·.anc)).getD 0 ||| ancOf res r

def evalE (P : Program) (gl : List (Nat × Vw)) (ops : Array Oper) (m : Nat) (l : List (Option SV)) (hp : List (Option Vw)) : Nat → List ERn → List Hint → Option (List Prop × List Hint × List ERn)
  | 0, res, hs => some ([], hs, res)
  | n + 1, res, hs => match ops[res.length]? with
    | none => none
    | some o => match guardS ops (slotS ops res (needsL o).contains (waits ops res.length) m l) hs o with
      | some (ps, hs, false) => match evalE P gl ops m l hp n (res ++ [⟨.tup [], [], ancOf res (needsL o), none⟩]) hs with
        | some (qs, hs', r) => some (ps ++ qs, hs', r)
        | none => none
      | some (ps, hs, true) => match sxE P gl (slotS ops res (needsL o).contains (waits ops res.length) m l) (heapS hp res (ancOf res (needsL o)).testBit) hs o.op with
        | some (qs, hs, v, news, con) => if conOk hp.length res (ancOf res (needsL o)) con then match evalE P gl ops m l hp n (res ++ [⟨v, news, ancOf res (needsL o), con⟩]) hs with
          | some (rs, hs', r) => some (ps ++ (qs ++ rs), hs', r)
          | none => none else none
        | none => none
      | none => none

/-- The slots, with what may come late. -/
def slotF (ops : Array Oper) (res : List ERn) : List Nat → List (Option SV) → List (Option SV)
  | [], l => l
  | p :: F, l => match dstOf ops p, res[p]? with
    | some d, some r => slotF ops res F (l.set d (some r.v))
    | _, _ => slotF ops res F l

/-- What may come late, of what an operation comes behind. -/
def lateL (F : List Nat) (o : Oper) : List Nat := F.filter (needsL o).contains

/-- Operations that the next ones don't wait for: each tells the same, wherever it comes. -/
def stab (P : Program) (gl : List (Nat × Vw)) (ops : Array Oper) (res : List ERn) (l : List (Option SV)) (hp : List (Option Vw)) (F0 : List Nat) : List Nat → Option (List Prop)
  | [] => some []
  | p :: F => match ops[p]?, res[p]? with
    | some o, some r => if o.guard.isNone && r.news.isEmpty then match sxV P gl (slotF ops res (lateL F0 o) l) hp [] o.op with
        | some (ps, [], v) => match stab P gl ops res l hp F0 F with
          | some qs => some ((v = r.v) :: (ps ++ qs))
          | none => none
        | _ => none else none
    | _, _ => none

/-- The operations behind the open part, as long as some of that may still come. -/
def evalB (P : Program) (gl : List (Nat × Vw)) (ops : Array Oper) (F : List Nat) (res : List ERn) : Nat → Nat → List (Option SV) → List (Option Vw) → List Hint → Option (List Prop × List Hint × List (Option Vw))
  | 0, _, _, hp, hs => some ([], hs, hp)
  | n + 1, i, l, hp, hs => match ops[i]? with
    | some o => if o.guard.isNone && o.dst.isNone then match sxOp P gl l hp hs o.op with
        | some (ps, hs, .skip hp') => match stab P gl ops res l hp' F F, evalB P gl ops F res n (i + 1) l hp' hs with
          | some qs, some (rs, hs', hp2) => some (ps ++ (qs ++ rs), hs', hp2)
          | _, _ => none
        | _ => none else none
    | none => none

/-- What is asked of a region's edges: each leads back; the last operations wait for all ahead of them; no two of the first ones write one slot. -/
def edgesOk (ops : Array Oper) (m : Nat) (F : List Nat) (kt : Nat) : Bool :=
  (List.range ops.size).all (fun i => match ops[i]? with
    | some o => (needsL o).all (fun j => decide (j < i)) && (decide (i < m) || (List.range i).all fun j => (decide (i < m + kt) && F.contains j) || ((needsL o).contains j || (List.range i).any fun k => decide (j < k) && waits ops j k && !(decide (i < m + kt) && F.contains k)))
    | none => false) &&
  (List.range m).all (fun i => (List.range i).all fun j => match dstOf ops i, dstOf ops j with
    | some a, some b => a != b
    | _, _ => true) && decide (m + kt ≤ ops.size)

def resS (gl : List (Nat × Vw)) (P : Program) (hp : List (Option Vw)) (l : List (Option SV)) : List ResultVar → Option (List SV)
  | [] => some []
  | .tmp t :: r => match l[t]?, resS gl P hp l r with
    | some (some v), some vs => some (v :: vs)
    | _, _ => none
  | .cell a t :: r => match l[a]?, isAg P t, szOf P t with
    | some (some x), some ag, some (n + 1) => match cellsAt gl hp (n + 1) x, resS gl P hp l r with
      | some ([], cs), some vs => match mkv ag cs with
        | some v => some (v :: vs)
        | none => none
      | _, _ => none
    | _, _, _ => none

def packS : List SV → SV
  | [v] => v
  | vs => .tup vs

def retS (P : Program) (gl : List (Nat × Vw)) (hp : List (Option Vw)) (fr : SFr) : Option SV := match P.funcs[fr.fn]? with
  | some fn => match resS gl P hp fr.tmps fn.results.toList with
    | some vs => some (packS vs)
    | none => none
  | none => none

def finS (fr : SFr) (v : SV) : Option SFr := match fr.todo with
  | .inRegion ops (i :: rest) :: k => match ops[i]? with
    | some o => some { fr with tmps := setT fr.tmps o.dst v, todo := .inRegion ops rest :: k }
    | none => none
  | _ => none

/-- No round, nothing deferred. -/
def plainR (fr : SFr) : Bool := fr.rx.rd.isNone && fr.rx.ds.isEmpty

def retR (P : Program) (gl : List (Nat × Vw)) (hs : List Hint) (fr : SFr) (frs : List SFr) (hp : List (Option Vw)) : Option (List Prop × List Hint × SC) := match frs with
  | cl :: rest => if plainR fr then match retS P gl hp fr with
    | some v => match finS cl v with
      | some cl' => some ([], hs, ⟨cl' :: rest, hp⟩)
      | none => none
    | none => none else none
  | [] => none

def condR (hs : List Hint) (fr : SFr) (frs : List SFr) (hp : List (Option Vw)) (v : Option SV) (t e : Code) (k : List Item) : Option (List Prop × List Hint × SC) := match v, hs with
  | some (.val (.bool b)), .b true :: hs => some ([b = true], hs, ⟨{ fr with todo := .code t :: k } :: frs, hp⟩)
  | some (.val (.bool b)), .b false :: hs => some ([b = false], hs, ⟨{ fr with todo := .code e :: k } :: frs, hp⟩)
  | _, _ => none

def sxStep (P : Program) (gl : List (Nat × Vw)) (hs : List Hint) (c : SC) : Option (List Prop × List Hint × SC) := match c with
  | ⟨fr :: frs, hp⟩ =>
    let go (k : List Item) : Option (List Prop × List Hint × SC) := some ([], hs, ⟨{ fr with todo := k } :: frs, hp⟩)
    match fr.todo with
    | [] => retR P gl hs fr frs hp
    | .code .ret :: _ => retR P gl hs fr frs hp
    | .code .skip :: k => go k
    | .code (.label _) :: k => go k
    | .inBlock _ :: k => go k
    | .inScope _ :: k => go k
    | .code (.seq a b) :: k => go (.code a :: .code b :: k)
    | .code (.cond o t e) :: k => condR hs fr frs hp (ev fr.tmps o) t e k
    | .code (.block id b) :: k => go (.code b :: .inBlock id :: k)
    | .code (.loop b) :: k => go (.code b :: .inLoop b :: k)
    | .inLoop b :: k => go (.code b :: .inLoop b :: k)
    | .code (.scope b) :: k => go (.code b :: .inScope b :: k)
    | .code (.exit id) :: k => match exitTo id k with
      | some k' => go k'
      | none => none
    | .code (.goto l) :: k => match gotoIn l k with
      | some k' => go k'
      | none => none
    | .code (.region _ ops false) :: k => go (.inRegion ops (List.range ops.size) :: k)
    | .code (.region _ ops true) :: k => match hs with
      | .draw m F kt :: hs => if edgesOk ops m F kt && (F.all fun p => decide (p < m)) && P.follows .mixedOrders then match evalE P gl ops m fr.tmps hp m [] hs with
          | some (ps, hs, res) => match stab P gl ops res (slotS ops res (fun q => !F.contains q) (fun _ => false) m fr.tmps) (heapS hp res (fun _ => true)) F F,
              evalB P gl ops F res kt m (slotS ops res (fun q => !F.contains q) (fun _ => false) m fr.tmps) (heapS hp res (fun _ => true)) hs with
            | some qs, some (rs, hs, hp') => some (ps ++ (qs ++ rs), hs, ⟨{ fr with tmps := slotF ops res F (slotS ops res (fun q => !F.contains q) (fun _ => false) m fr.tmps), todo := .inRegion ops (List.range' (m + kt) (ops.size - (m + kt))) :: k } :: frs, hp'⟩)
            | _, _ => none
          | none => none
        else none
      | _ => none
    | .inRegion _ [] :: k => go k
    | .inRegion ops (i :: rest) :: k => match ops[i]? with
      | none => none
      | some o => match guardS ops fr.tmps hs o with
        | some (ps, hs, false) => some (ps, hs, ⟨{ fr with tmps := setT fr.tmps o.dst (.tup []), todo := .inRegion ops rest :: k } :: frs, hp⟩)
        | some (ps, hs, true) => match sxOp P gl fr.tmps hp hs o.op with
          | some (qs, hs, .val v hp') => some (ps ++ qs, hs, ⟨{ fr with tmps := setT fr.tmps o.dst v, todo := .inRegion ops rest :: k } :: frs, hp'⟩)
          | some (qs, hs, .skip hp') => some (ps ++ qs, hs, ⟨{ fr with tmps := setT fr.tmps o.dst (.tup []), todo := .inRegion ops rest :: k } :: frs, hp'⟩)
          | some (qs, .inl :: hs, .enter f args) => match P.funcs[f]? with
            | some fn => match fn.body with
              | some b => some (ps ++ qs, hs, ⟨{ fn := f, tmps := args.map some ++ List.replicate (fn.ntmps - args.length) (some (.tup [])), todo := [.code b] } :: fr :: frs, hp⟩)
              | none => none
            | none => none
          | some (qs, .call σ res new :: hs, .enter f args) => if newOk new && σ.all (fun t => decide (t < hp.length)) then
              some (ps ++ qs ++ [SCall P gl f (rnmL (inv σ) args) (σ.map fun t => (getV hp t).map fun v => (v.rnm (inv σ)).ro) res new], hs,
                ⟨{ fr with tmps := setT fr.tmps o.dst (rnm (fwd σ hp.length) res), todo := .inRegion ops rest :: k } :: frs, hp ++ new.map fun x => x.map (Vw.rnm (fwd σ hp.length))⟩)
            else none
          | _ => none
        | none => none
    | _ => none
  | _ => none

theorem rnm_id_core : (∀ (v : SV) (σ : Nat → Nat), (∀ t, σ t = t) → rnm σ v = v) ∧ True := by
  refine ⟨?_, trivial⟩
  intro v σ hσ
  exact rnm_self σ hσ v
  where
  rnm_self (σ : Nat → Nat) (hσ : ∀ t, σ t = t) : ∀ v : SV, rnm σ v = v
    | .val v => rfl
    | .ptr t j => by simp [rnm, hσ]
    | .rptr t i j => by simp [rnm, hσ]
    | .gptr g sz i j => rfl
    | .sl t n => by simp [rnm, hσ]
    | .agg cs => by simp only [rnm, rnmL_self σ hσ cs]
    | .tup cs => by simp only [rnm, rnmL_self σ hσ cs]
    | .fn f a b => by simp only [rnm, rnmL_self σ hσ a, rnmL_self σ hσ b]
    | .ifc t v => by simp only [rnm, rnm_self σ hσ v]
    | .mp t => by simp [rnm, hσ]
  rnmL_self (σ : Nat → Nat) (hσ : ∀ t, σ t = t) : ∀ l : List SV, rnmL σ l = l
    | [] => rfl
    | v :: vs => by simp only [rnmL, rnm_self σ hσ v, rnmL_self σ hσ vs]

theorem idx_some : ∀ {σ : List Nat} {t k j : Nat}, idx t σ k = some j → k ≤ j ∧ j - k < σ.length ∧ σ.getD (j - k) 0 = t
  | [], t, k, j, h => by cases h
  | s :: r, t, k, j, h => by
    simp only [idx] at h
    split at h
    · rename_i he
      rw [beq_iff_eq] at he
      cases h
      exact ⟨Nat.le_refl _, by simp, by simp [he]⟩
    · obtain ⟨h1, h2, h3⟩ := idx_some h
      refine ⟨by omega, by simp; omega, ?_⟩
      rw [show j - k = (j - (k + 1)) + 1 by omega]
      simpa using h3

/-- The caller's reading, as the callee has it. -/
def back (σ : List Nat) (k : Nat) : Nat := if k < σ.length then σ.getD k 0 else k - σ.length

theorem back_inv (σ : List Nat) (t : Nat) : back σ (inv σ t) = t := by
  unfold inv
  split
  · rename_i k hk
    obtain ⟨-, h1, h2⟩ := idx_some hk
    simp only [Nat.sub_zero] at h1 h2
    show (if k < σ.length then σ.getD k 0 else k - σ.length) = t
    rw [if_pos h1, h2]
  · show (if σ.length + t < σ.length then σ.getD (σ.length + t) 0 else σ.length + t - σ.length) = t
    rw [if_neg (by omega)]; omega

end Go.Sx
