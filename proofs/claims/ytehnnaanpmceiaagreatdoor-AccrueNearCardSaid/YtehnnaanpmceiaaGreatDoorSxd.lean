/-
  SX, part 13: what is used: a path through a function, up to its end or to a loop's head.
-/
import Derived.Test.YtehnnaanpmceiaaGreatDoorSxc
set_option linter.unusedVariables false
set_option linter.unusedSimpArgs false
namespace Go.Sx
open Go.RowKit

def sxFin (P : Program) (gl : List (Nat × Vw)) (f : FuncId) (τ : List Nat) (n : Nat) (hs : List Hint) (c : SC) : Option (List Prop × Nat × SV × List (Option Vw)) := match sxRun P gl n hs c with
  | some (ps, c') => match endS P gl f c' with
    | some v => some (ps, c'.hp.length, v, τ.map (getV c'.hp))
    | none => none
  | none => none

def isRo (hp : List (Option Vw)) : Bool := hp.all fun x => match x with
  | some v => !v.own
  | none => true

def chkT (τ : List Nat) (N : Nat) : Bool := τ.all (fun t => decide (t < N)) && nodupB τ

theorem Ok.fin {X : Cx} {P : Program} {gl : List (Nat × Vw)} {f : FuncId} {hp0 new : List (Option Vw)} {res : SV} {ps : List Prop} {c : SC} (n : Nat) (hs : List Hint) (τ : List Nat) (N : Nat) (hX : IsFin X P gl f hp0 res new)
    (h : sxFin P gl f τ n hs c = some (ps, N, rnm (finσ hp0.length τ N) res, new.map fun x => x.map (Vw.rnm (finσ hp0.length τ N)))) (hc : chkT τ N = true) (hps : AllP ps) : Ok X c := by
  unfold sxFin at h
  split at h
  · rename_i ps' c' hr
    split at h
    · rename_i v hv
      simp only [Option.some.injEq, Prod.mk.injEq] at h
      obtain ⟨rfl, rfl, rfl, h4⟩ := h
      simp only [chkT, Bool.and_eq_true] at hc
      have hk : Ok X c' := end_ok hX hv h4 hc.1 hc.2
      rw [← hX.P, ← hX.gl] at hr
      exact run_ok hr hps hk
    · cases h
  · cases h

/-- A way through a function that meets no loop's head. -/
theorem SCall.path {P : Program} {gl : List (Nat × Vw)} {f : FuncId} {args : List SV} {hp0 new : List (Option Vw)} {res : SV} {ps : List Prop} (n : Nat) (hs : List Hint) (τ : List Nat) (N : Nat)
    (h : sxFin P gl f τ n hs (entry P f args hp0) = some (ps, N, rnm (finσ hp0.length τ N) res, new.map fun x => x.map (Vw.rnm (finσ hp0.length τ N)))) (hc : (chkT τ N && scL hp0.length args && isRo hp0) = true)
    (hh : ScHp hp0.length hp0) (hps : AllP ps) : SCall P gl f args hp0 res new := by
  simp only [Bool.and_eq_true] at hc
  obtain ⟨⟨h1, h2⟩, h3⟩ := hc
  refine SCall.intro ?_ h2 hh h3 (fun X hX => Ok.fin n hs τ N hX h h1 hps)
  intro he
  cases n with
  | zero =>
    cases hs with
    | nil =>
      unfold sxFin sxRun at h
      simp only at h
      unfold endS at h
      rw [he] at h
      simp at h
    | cons a b => simp [sxFin, sxRun] at h
  | succ n =>
    unfold sxFin sxRun at h
    have : sxStep P gl hs (entry P f args hp0) = none := by
      generalize entry P f args hp0 = c at he
      obtain ⟨frs, hp⟩ := c
      simp only at he
      subst he
      rfl
    rw [this] at h
    simp at h

/-- What is kept of a frame's slots, and of the views. -/
def maskT : List Bool → List (Option SV) → List (Option SV)
  | true :: m, x :: l => x :: maskT m l
  | false :: m, _ :: l => none :: maskT m l
  | _, _ => []

def maskH : List Bool → List (Option Vw) → List (Option Vw)
  | true :: m, x :: l => x :: maskH m l
  | false :: m, _ :: l => none :: maskH m l
  | _, _ => []

def maskF : List (List Bool) → List SFr → List SFr
  | m :: ms, fr :: frs => { fr with tmps := maskT m fr.tmps } :: maskF ms frs
  | _, _ => []

def scT (n : Nat) : List (Option SV) → Bool
  | [] => true
  | none :: r => scT n r
  | some v :: r => sc n v && scT n r

def lenF : List (List Bool) → List SFr → Bool
  | [], [] => true
  | m :: ms, fr :: frs => m.length == fr.tmps.length && scT 0 [] && lenF ms frs
  | _, _ => false

/-- The views' contents, told anew. -/
def reV : List (Nat × (Nat → List SV)) → List (Option Vw) → Option (List Prop × List (Option Vw))
  | [], hp => some ([], hp)
  | (t, f') :: r, hp => match getV hp t with
    | some (.row o el n sz f) => match reV r (hp.set t (some (.row o el n sz f'))) with
      | some (ps, hp') => some ((∀ i, i < n → f i = f' i) :: ps, hp')
      | none => none
    | _ => none

def sxCut (P : Program) (gl : List (Nat × Vw)) (n : Nat) (hs : List Hint) (rv : List (Nat × (Nat → List SV))) (mf : List (List Bool)) (mh : List Bool) (c : SC) : Option (List Prop × SC) := match sxRun P gl n hs c with
  | some (ps, c') => match reV rv c'.hp with
    | some (qs, hp) => let c2 : SC := ⟨maskF mf c'.frs, maskH mh hp⟩
      if lenF mf c'.frs && decide (mh.length ≤ hp.length) && c2.frs.all (fun fr => scT mh.length fr.tmps) then some (ps ++ qs, c2) else none
    | none => none
  | none => none

section
variable {X : Cx} {θ : Th} {hp : List (Option Vw)} {T : Array Value} {w : World}

theorem maskT_get : ∀ {m : List Bool} {l : List (Option SV)} {j : Nat} {v : SV}, (maskT m l)[j]? = some (some v) → l[j]? = some (some v)
  | [], l, j, v, h => by simp [maskT] at h
  | true :: m, [], j, v, h => by simp [maskT] at h
  | false :: m, [], j, v, h => by simp [maskT] at h
  | true :: m, x :: l, 0, v, h => by simpa [maskT] using h
  | true :: m, x :: l, j + 1, v, h => by simp only [maskT, List.getElem?_cons_succ] at h ⊢; exact maskT_get h
  | false :: m, x :: l, 0, v, h => by simp [maskT] at h
  | false :: m, x :: l, j + 1, v, h => by simp only [maskT, List.getElem?_cons_succ] at h ⊢; exact maskT_get h

theorem maskT_length : ∀ {m : List Bool} {l : List (Option SV)}, m.length = l.length → (maskT m l).length = l.length
  | [], [], _ => rfl
  | [], _ :: _, h => by simp at h
  | true :: m, [], h => by simp at h
  | false :: m, [], h => by simp at h
  | true :: m, x :: l, h => by simp only [maskT, List.length_cons]; rw [maskT_length (by simpa using h)]
  | false :: m, x :: l, h => by simp only [maskT, List.length_cons]; rw [maskT_length (by simpa using h)]

theorem maskH_get : ∀ {m : List Bool} {l : List (Option Vw)} {j : Nat} {v : Vw}, (maskH m l)[j]? = some (some v) → l[j]? = some (some v)
  | [], l, j, v, h => by simp [maskH] at h
  | true :: m, [], j, v, h => by simp [maskH] at h
  | false :: m, [], j, v, h => by simp [maskH] at h
  | true :: m, x :: l, 0, v, h => by simpa [maskH] using h
  | true :: m, x :: l, j + 1, v, h => by simp only [maskH, List.getElem?_cons_succ] at h ⊢; exact maskH_get h
  | false :: m, x :: l, 0, v, h => by simp [maskH] at h
  | false :: m, x :: l, j + 1, v, h => by simp only [maskH, List.getElem?_cons_succ] at h ⊢; exact maskH_get h

theorem maskH_length : ∀ {m : List Bool} {l : List (Option Vw)}, m.length ≤ l.length → (maskH m l).length = m.length
  | [], l, _ => by simp [maskH]
  | true :: m, [], h => by simp at h
  | false :: m, [], h => by simp at h
  | true :: m, x :: l, h => by simp only [maskH, List.length_cons]; rw [maskH_length (by simpa using h)]
  | false :: m, x :: l, h => by simp only [maskH, List.length_cons]; rw [maskH_length (by simpa using h)]

theorem HpOk.mask {m : List Bool} {base : Nat} (h : HpOk θ base hp w) : HpOk θ base (maskH m hp) w :=
  ⟨fun t v ht => h.vw t v (maskH_get ht), fun t t' v v' ht ht' => h.ne t t' v v' (maskH_get ht) (maskH_get ht')⟩

theorem reV_ok {base : Nat} : ∀ {rv : List (Nat × (Nat → List SV))} {hp hp' : List (Option Vw)} {ps : List Prop}, reV rv hp = some (ps, hp') → AllP ps → HpOk θ base hp w → HpOk θ base hp' w
  | [], hp, hp', ps, h, hps, hh => by simp only [reV, Option.some.injEq, Prod.mk.injEq] at h; obtain ⟨-, rfl⟩ := h; exact hh
  | (t, f') :: r, hp, hp', ps, h, hps, hh => by
    simp only [reV] at h
    split at h
    · rename_i o el n sz f ht
      split at h
      · rename_i qs hp2 hr
        simp only [Option.some.injEq, Prod.mk.injEq] at h
        obtain ⟨rfl, rfl⟩ := h
        have htv := getV_some ht
        have htl : t < hp.length := (List.getElem?_eq_some_iff.1 htv).1
        refine reV_ok hr hps.2 ?_
        have key : ∀ s x, (hp.set t (some (Vw.row o el n sz f')))[s]? = some (some x) → (s ≠ t ∧ hp[s]? = some (some x)) ∨ (s = t ∧ x = .row o el n sz f') := by
          intro s x hs
          rw [List.getElem?_set] at hs
          split at hs
          · rename_i he; subst he; simp [htl] at hs; exact .inr ⟨rfl, hs.symm⟩
          · rename_i he; exact .inl ⟨fun e => he e.symm, hs⟩
        refine ⟨fun s x hs => ?_, fun s s' x x' hs hs' hne ho hl a a' ha ha' => ?_⟩
        · rcases key s x hs with ⟨h1, h2⟩ | ⟨rfl, rfl⟩
          · exact hh.vw s x h2
          · obtain ⟨q1, q2, q3, q4, q5, q6⟩ := hh.vw s _ htv
            exact ⟨q1, q2, q3, fun i hi => by rw [← hps.1 i hi]; exact q4 i hi, fun a ha i hi => by rw [← hps.1 i hi]; exact q5 a ha i hi, q6⟩
        · rcases key s x hs with ⟨h1, h2⟩ | ⟨rfl, rfl⟩ <;> rcases key s' x' hs' with ⟨h3, h4⟩ | ⟨rfl, rfl⟩
          · exact hh.ne s s' x x' h2 h4 hne ho hl a a' ha ha'
          · exact hh.ne s s' x _ h2 htv hne ho hl a a' ha ha'
          · exact hh.ne s s' _ x' htv h4 hne ho hl a a' ha ha'
          · exact absurd rfl hne
      · cases h
    · cases h

theorem reV_length : ∀ {rv : List (Nat × (Nat → List SV))} {hp hp' : List (Option Vw)} {ps : List Prop}, reV rv hp = some (ps, hp') → hp'.length = hp.length
  | [], hp, hp', ps, h => by simp only [reV, Option.some.injEq, Prod.mk.injEq] at h; obtain ⟨-, rfl⟩ := h; rfl
  | (t, f') :: r, hp, hp', ps, h => by
    simp only [reV] at h
    split at h
    · split at h
      · rename_i qs hp2 hr
        simp only [Option.some.injEq, Prod.mk.injEq] at h
        obtain ⟨-, rfl⟩ := h
        rw [reV_length hr]; simp
      · cases h
    · cases h

theorem scT_get {n : Nat} : ∀ {l : List (Option SV)} {j : Nat} {v : SV}, scT n l = true → l[j]? = some (some v) → sc n v = true
  | [], j, v, _, h => by simp at h
  | none :: r, 0, v, hs, h => by simp at h
  | none :: r, j + 1, v, hs, h => scT_get (l := r) hs (by simpa using h)
  | some u :: r, 0, v, hs, h => by simp at h; subst h; simp only [scT, Bool.and_eq_true] at hs; exact hs.1
  | some u :: r, j + 1, v, hs, h => by simp only [scT, Bool.and_eq_true] at hs; exact scT_get (l := r) hs.2 (by simpa using h)

theorem mask_frs {n : Nat} : ∀ {mf : List (List Bool)} {ss : List SFr} {frs : List Frame} {θ θ' : Th}, lenF mf ss = true → (maskF mf ss).all (fun fr => scT n fr.tmps) = true → Same n θ θ' → FrsOk θ ss frs → FrsOk θ' (maskF mf ss) frs
  | [], [], _, θ, θ', _, _, _, h => by cases h; exact .nil
  | [], _ :: _, _, θ, θ', hl, _, _, h => by simp [lenF] at hl
  | _ :: _, [], _, θ, θ', hl, _, _, h => by simp [lenF] at hl
  | m :: mf, s :: ss, _, θ, θ', hl, hs, hsm, h => by
    simp only [lenF, Bool.and_eq_true, beq_iff_eq] at hl
    simp only [maskF, List.all_cons, Bool.and_eq_true] at hs
    cases h with
    | cons h1 h2 =>
      obtain ⟨T, rfl, hT⟩ := h1
      refine .cons ⟨T, rfl, ?_, fun j v hj => ?_⟩ (mask_frs hl.2 hs.2 hsm h2)
      · show T.size = (maskT m s.tmps).length
        rw [maskT_length hl.1.1]; exact hT.1
      · rw [den_sc hsm v (scT_get hs.1 hj)]
        exact hT.2 j v (maskT_get hj)

/-- A way to a loop's head (or any place), what is not needed behind it being forgotten. -/
theorem Ok.cut {P : Program} {gl : List (Nat × Vw)} {c c' : SC} {ps : List Prop} (n : Nat) (hs : List Hint) (rv : List (Nat × (Nat → List SV))) (mf : List (List Bool)) (mh : List Bool) (hP : X.P = P) (hgl : X.gl = gl) (hn0 : X.n0 ≤ mh.length)
    (h : sxCut P gl n hs rv mf mh c = some (ps, c')) (hsc : ScHp mh.length c'.hp) (hps : AllP ps) (hk : Ok X c') : Ok X c := by
  unfold sxCut at h
  split at h
  · rename_i ps' c1 hr
    split at h
    · rename_i qs hp hv
      dsimp only at h
      split at h
      · rename_i hq
        simp only [Option.some.injEq, Prod.mk.injEq] at h
        obtain ⟨rfl, rfl⟩ := h
        simp only [Bool.and_eq_true, decide_eq_true_eq] at hq
        obtain ⟨⟨h1, h2⟩, h3⟩ := hq
        obtain ⟨h4, h5⟩ := AllP_append hps
        rw [← hP, ← hgl] at hr
        refine run_ok hr h4 (fun θ fr frs w hh => hk θ fr frs w ⟨fun θ' hs' => ?_, hh.old, ?_, hh.bel, hh.sz, hh.gok, hh.gb⟩)
        · have hlen : (maskH mh hp).length = mh.length := maskH_length h2
          simp only [hlen] at hs' hsc
          have hr0 := hh.rel θ (Same.refl _ _)
          have h6 := (reV_ok hv h5 hr0.hp).mask (m := mh)
          have hs2 : Same (maskH mh hp).length θ θ' := by rw [hlen]; exact hs'
          rw [← hlen] at hsc
          exact ⟨h6.sc hs2 hsc, mask_frs h1 h3 hs' hr0.fr⟩
        · show X.n0 ≤ (maskH mh hp).length
          rw [maskH_length h2]; exact hn0
      · cases h
    · cases h
  · cases h

end

abbrev I (x : Int) : SV := .val (.int .i64 x)
abbrev N (k : IntKind) (x : Int) : SV := .val (.int k x)
abbrev B (b : Bool) : SV := .val (.bool b)

end Go.Sx
