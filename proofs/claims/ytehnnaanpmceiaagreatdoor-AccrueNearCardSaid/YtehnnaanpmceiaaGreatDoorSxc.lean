/-
  SX, part 12: contracts out of runs; what is forgotten at a loop's head.
-/
import Derived.Test.YtehnnaanpmceiaaGreatDoorSxb
set_option linter.unusedVariables false
set_option linter.unusedSimpArgs false
namespace Go.Sx
open Go.RowKit

mutual
/-- A value that names only views below n. -/
def sc (n : Nat) : SV → Bool
  | .val _ => true
  | .ptr t _ => decide (t < n)
  | .rptr t _ _ => decide (t < n)
  | .gptr _ _ _ _ => true
  | .sl t _ => decide (t < n)
  | .agg cs => scL n cs
  | .tup cs => scL n cs
  | .fn _ a b => scL n a && scL n b
  | .ifc _ v => sc n v
  | .mp t => decide (t < n)
def scL (n : Nat) : List SV → Bool
  | [] => true
  | v :: vs => sc n v && scL n vs
end

mutual
theorem den_sc {n : Nat} {θ θ' : Th} (hs : Same n θ θ') : ∀ v, sc n v = true → den θ' v = den θ v
  | .val v, _ => rfl
  | .ptr t j, h => by simp only [sc, decide_eq_true_eq] at h; simp only [den, hs t h]
  | .rptr t i j, h => by simp only [sc, decide_eq_true_eq] at h; simp only [den, hs t h]
  | .gptr g sz i j, h => rfl
  | .sl t n', h => by simp only [sc, decide_eq_true_eq] at h; simp only [den, hs t h]
  | .agg cs, h => by simp only [sc] at h; simp only [den, denL_sc hs cs h]
  | .tup cs, h => by simp only [sc] at h; simp only [den, denL_sc hs cs h]
  | .fn f a b, h => by simp only [sc, Bool.and_eq_true] at h; simp only [den, denL_sc hs a h.1, denL_sc hs b h.2]
  | .ifc t v, h => by simp only [sc] at h; simp only [den, den_sc hs v h]
  | .mp t, h => by simp only [sc, decide_eq_true_eq] at h; simp only [den, hs t h]
theorem denL_sc {n : Nat} {θ θ' : Th} (hs : Same n θ θ') : ∀ l, scL n l = true → denL θ' l = denL θ l
  | [], _ => rfl
  | v :: vs, h => by simp only [scL, Bool.and_eq_true] at h; simp only [denL, den_sc hs v h.1, denL_sc hs vs h.2]
end

def ScV (n : Nat) : Vw → Prop
  | .box _ cs => scL n cs = true
  | .row _ _ _ _ f => ∀ i, scL n (f i) = true
  | .map _ _ _ _ _ => True

def ScHp (n : Nat) : List (Option Vw) → Prop
  | [] => True
  | none :: r => ScHp n r
  | some v :: r => ScV n v ∧ ScHp n r

theorem ScHp.get {n : Nat} : ∀ {hp : List (Option Vw)}, ScHp n hp → ∀ {t : Nat} {v : Vw}, hp[t]? = some (some v) → ScV n v
  | [], _, t, v, h => by simp at h
  | none :: r, hs, 0, v, h => by simp at h
  | none :: r, hs, t + 1, v, h => ScHp.get (hp := r) hs (by simpa using h)
  | some u :: r, hs, 0, v, h => by simp at h; subst h; exact hs.1
  | some u :: r, hs, t + 1, v, h => ScHp.get (hp := r) hs.2 (by simpa using h)

theorem Lies.sc {n : Nat} {θ θ' : Th} {w : World} {a : Addr} {j : Nat} {cs : List SV} (hs : Same n θ θ') (hc : scL n cs = true) (h : Lies θ w a j cs) : Lies θ' w a j cs := by
  intro k v hk
  have h1 := denL_sc hs cs hc
  rw [denL_map, denL_map] at h1
  have h2 := congrArg (·[k]?) h1
  simp only [List.getElem?_map, hk, Option.map_some, Option.some.injEq] at h2
  rw [h2]
  exact h k v hk

theorem VwOk.sc {n base : Nat} {θ θ' : Th} {w : World} {d : Ad} {v : Vw} (hs : Same n θ θ') (hv : ScV n v) (h : VwOk θ base w d v) : VwOk θ' base w d v := by
  cases v with
  | box o cs =>
    refine ⟨fun hn => ?_, h.2⟩
    obtain ⟨a, ha, hl⟩ := h.1 hn
    exact ⟨a, ha, hl.sc hs hv⟩
  | row o el n sz f =>
    obtain ⟨h1, h2, h3, h4, h5, h6⟩ := h
    exact ⟨h1, h2, h3, h4, fun a ha i hi => (h5 a ha i hi).sc hs (hv i), h6⟩
  | map o k v f st => exact h

theorem HpOk.sc {base : Nat} {θ θ' : Th} {w : World} {hp : List (Option Vw)} (hs : Same hp.length θ θ') (hv : ScHp hp.length hp) (h : HpOk θ base hp w) : HpOk θ' base hp w := by
  refine ⟨fun t v ht => ?_, fun t t' v v' ht ht' hne ho hl a a' ha ha' => ?_⟩
  · rw [hs t (List.getElem?_eq_some_iff.1 ht).1]
    exact (h.vw t v ht).sc hs (hv.get ht)
  · rw [hs t (List.getElem?_eq_some_iff.1 ht).1] at ha
    rw [hs t' (List.getElem?_eq_some_iff.1 ht').1] at ha'
    exact h.ne t t' v v' ht ht' hne ho hl a a' ha ha'

theorem Lies.unrnm {θ θ' : Th} {w : World} {σ : Nat → Nat} {a : Addr} {j : Nat} {cs : List SV} (hc : (fun t => θ (σ t)) = θ') (h : Lies θ w a j (rnmL σ cs)) : Lies θ' w a j cs := by
  intro k v hk
  have := h k (Go.Sx.rnm σ v) (by rw [rnmL_map, List.getElem?_map, hk]; rfl)
  rw [den_rnm, hc] at this
  exact this

theorem VwOk.unrnm {θ θ' : Th} {w : World} {base : Nat} {σ : Nat → Nat} {d : Ad} {v : Vw} (hc : (fun t => θ (σ t)) = θ') (h : VwOk θ base w d (v.rnm σ)) : VwOk θ' base w d v := by
  cases v with
  | box o cs =>
    refine ⟨fun hn => ?_, fun ho => ?_⟩
    · obtain ⟨a, ha, hl⟩ := h.1 (by
        intro e
        cases cs with
        | nil => exact hn rfl
        | cons c r => simp [rnmL] at e)
      exact ⟨a, ha, hl.unrnm hc⟩
    · obtain ⟨b, h1, h2, h3⟩ := h.2 ho
      rw [rnmL_length] at h3
      exact ⟨b, h1, h2, h3⟩
  | row o el n sz f =>
    obtain ⟨h1, h2, h3, h4, h5, h6⟩ := h
    refine ⟨h1, h2, h3, fun i hi => ?_, fun a ha i hi => (h5 a ha i hi).unrnm hc, h6⟩
    obtain ⟨q1, q2⟩ := h4 i hi
    rw [rnmL_length] at q1
    refine ⟨q1, ?_⟩
    rw [List.all_eq_true] at q2 ⊢
    intro x hx
    have := q2 (Go.Sx.rnm σ x) (by show _ ∈ rnmL σ (f i); rw [rnmL_map]; exact List.mem_map_of_mem hx)
    rwa [one_rnm] at this
  | map o k v f st => exact h

/-- What a call is asked in the end. -/
structure IsFin (X : Cx) (P : Program) (gl : List (Nat × Vw)) (f : FuncId) (hp0 : List (Option Vw)) (res : SV) (new : List (Option Vw)) : Prop where
  P : X.P = P
  gl : X.gl = gl
  f0 : X.f0 = f
  ce : X.ce = X.cs
  n0 : X.n0 = hp0.length
  base : X.base = X.w0.heap.size
  init : ∀ θ', Same hp0.length X.θ0 θ' → HpOk θ' X.base hp0 X.w0
  ro : hp0.all (fun x => match x with | some v => !v.own | none => true) = true
  R : ∀ r w', Below X.base X.w0 w' → (∃ nw : Nat → Ad, ∀ θ', Same hp0.length X.θ0 θ' → (∀ k, k < new.length → θ' (hp0.length + k) = nw k) → r = den θ' res ∧ HpOk θ' X.base (hp0 ++ new) w') → X.R (.returned r) w'

/-- The start of a call. -/
def entry (P : Program) (f : FuncId) (args : List SV) (hp : List (Option Vw)) : SC := match P.funcs[f]? with
  | some fn => match fn.body with
    | some b => ⟨[{ fn := f, tmps := args.map some ++ List.replicate (fn.ntmps - args.length) (some (.tup [])), todo := [.code b] }], hp⟩
    | none => ⟨[], hp⟩
  | none => ⟨[], hp⟩

theorem SCall.intro {P : Program} {gl : List (Nat × Vw)} {f : FuncId} {args : List SV} {hp0 : List (Option Vw)} {res : SV} {new : List (Option Vw)} (hne : (entry P f args hp0).frs ≠ [])
    (hsc : scL hp0.length args = true) (hh : ScHp hp0.length hp0) (hro : hp0.all (fun x => match x with | some v => !v.own | none => true) = true) (h : ∀ X, IsFin X P gl f hp0 res new → Ok X (entry P f args hp0)) : SCall P gl f args hp0 res new := by
  intro θ w hhp hg cs
  unfold entry at hne h
  cases hf : P.funcs[f]? with
  | none => simp [hf] at hne
  | some fn =>
    cases hb : fn.body with
    | none => simp [hf, hb] at hne
    | some b =>
      simp only [hf, hb] at h
      let X : Cx := ⟨P, gl, w.heap.size, w, θ, hp0.length, cs, cs, f, fun e w' => Below w.heap.size w w' ∧ ∃ r, e = .returned r ∧ ∃ nw : Nat → Ad, ∀ θ', Same hp0.length θ θ' → (∀ k, k < new.length → θ' (hp0.length + k) = nw k) → r = den θ' res ∧ HpOk θ' w.heap.size (hp0 ++ new) w'⟩
      have hX : IsFin X P gl f hp0 res new := ⟨rfl, rfl, rfl, rfl, rfl, rfl, fun θ' hs => hhp.sc hs hh, hro, fun r w' hb hr => ⟨hb, r, rfl, hr⟩⟩
      have hd := h X hX θ (Frame.enter P f (denL θ args).toArray .normal) [] w ⟨fun θ' hs => ⟨hhp.sc hs hh, ?_⟩, Same.refl _ _, Nat.le_refl _, Below.refl _ _, Nat.le_refl _, hg, fun g v hm => (hg g v hm).1⟩
      · obtain ⟨e, w', fr', hR, hc, h1, h2⟩ := hd
        exact ⟨e, w', fr', hR, hc, h1, h2⟩
      · rw [enter_eq hf hb]
        refine .cons ⟨_, rfl, ?_, fun j v hj => ?_⟩ .nil
        · simp [denL_map]
        · have hla : (denL θ args).length = args.length := by simp [denL_map]
          have he : denL θ args = denL θ' args := (denL_sc hs args hsc).symm
          rw [List.getElem?_append] at hj
          simp only [List.length_map] at hj
          split at hj
          · rename_i hlt
            rw [List.getElem?_map] at hj
            cases hq : args[j]? with
            | none => simp [hq] at hj
            | some u =>
              simp [hq] at hj
              subst hj
              rw [Array.getElem?_append_left (by simp [hla, hlt]), he]
              exact denL_get hq
          · rename_i hge
            rw [List.getElem?_replicate] at hj
            split at hj
            · cases hj
              rw [Array.getElem?_append_right (by simp [hla]; omega)]
              simp only [List.size_toArray, hla]
              rw [Array.getElem?_replicate, if_pos (by assumption)]
              rfl
            · cases hj

def finσ (n0 : Nat) (τ : List Nat) (N t : Nat) : Nat := if t < n0 then t else if t - n0 < τ.length then τ.getD (t - n0) 0 else N + t

/-- The end of a call: what it hands back. -/
def endS (P : Program) (gl : List (Nat × Vw)) (f : FuncId) (c : SC) : Option SV := match c.frs with
  | [fr] => if fr.fn == f && plainR fr then match fr.todo with
    | [] | .code .ret :: _ => retS P gl c.hp fr
    | _ => none else none
  | _ => none

def nodupB : List Nat → Bool
  | [] => true
  | a :: r => !r.contains a && nodupB r

theorem nodupB_ne : ∀ {l : List Nat}, nodupB l = true → ∀ (i j a : Nat), l[i]? = some a → l[j]? = some a → i = j
  | [], _, i, j, a, h, _ => by simp at h
  | b :: r, h, 0, 0, a, _, _ => rfl
  | b :: r, h, 0, j + 1, a, h1, h2 => by
    simp only [nodupB, Bool.and_eq_true, Bool.not_eq_true'] at h
    simp at h1 h2
    subst h1
    have := List.mem_of_getElem? h2
    have h3 := h.1
    rw [List.contains_iff_mem.2 this] at h3
    cases h3
  | b :: r, h, i + 1, 0, a, h1, h2 => by
    simp only [nodupB, Bool.and_eq_true, Bool.not_eq_true'] at h
    simp at h1 h2
    subst h2
    have := List.mem_of_getElem? h1
    have h3 := h.1
    rw [List.contains_iff_mem.2 this] at h3
    cases h3
  | b :: r, h, i + 1, j + 1, a, h1, h2 => by
    simp only [nodupB, Bool.and_eq_true] at h
    rw [nodupB_ne h.2 i j a (by simpa using h1) (by simpa using h2)]

theorem end_ok {X : Cx} {P : Program} {gl : List (Nat × Vw)} {f : FuncId} {hp0 new : List (Option Vw)} {res : SV} {τ : List Nat} {c : SC} (hX : IsFin X P gl f hp0 res new)
    (he : endS P gl f c = some (rnm (finσ hp0.length τ c.hp.length) res)) (hn : τ.map (getV c.hp) = new.map fun x => x.map (Vw.rnm (finσ hp0.length τ c.hp.length))) (hτ : τ.all (fun t => decide (t < c.hp.length)) = true) (hnd : nodupB τ = true) :
    Ok X c := by
  obtain ⟨frs, hp⟩ := c
  unfold endS at he
  simp only at he hn hτ
  match frs, he with
  | [fr], he =>
    simp only at he
    split at he
    · rename_i hfn
      rw [Bool.and_eq_true, beq_iff_eq] at hfn
      obtain ⟨hfn, hpl⟩ := hfn
      simp only [plainR, Bool.and_eq_true, Option.isNone_iff_eq_none, List.isEmpty_iff] at hpl
      have htodo : (fr.todo = [] ∨ ∃ k, fr.todo = .code .ret :: k) ∧ retS P gl hp fr = some (rnm (finσ hp0.length τ hp.length) res) := by
        split at he
        · rename_i h0; exact ⟨.inl h0, he⟩
        · rename_i k h0; exact ⟨.inr ⟨_, h0⟩, he⟩
        · cases he
      obtain ⟨htodo, hret⟩ := htodo
      intro θ m ms w hh
      obtain ⟨T, rfl, hpre, hrest⟩ := hh.pre
      obtain ⟨hh0, hT0⟩ := hpre.inv θ (Same.refl _ _)
      have hms : ms = [] := by
        cases hrest θ (Same.refl _ _); rfl
      subst hms
      rw [hX.P, hX.gl] at hpre
      have hleave := leaving_of (P := P) hpl.2 hh0 hpre.gok hT0 hret
      refine ⟨.returned (den θ (rnm (finσ hp0.length τ hp.length) res)), w, { mkFr fr.rx fr.fn T fr.todo with mode := .returning }, ?_, ?_, ?_, by rw [hX.P]; exact hleave⟩
      · refine hX.R _ _ hh.bel ⟨fun k => θ (τ.getD k 0), fun θ' hs hnew => ?_⟩
        have hl := hh.len
        simp only at hl
        rw [hX.n0] at hl
        have hold := hh.old
        rw [hX.n0] at hold
        have hlen : τ.length = new.length := by have := congrArg List.length hn; simpa using this
        have hτ' : ∀ k, k < τ.length → τ.getD k 0 < hp.length := fun k hk => by
          have h1 : τ[k]? = some (τ[k]'hk) := List.getElem?_eq_getElem hk
          have := List.all_eq_true.1 hτ _ (List.getElem_mem hk)
          rw [List.getD_eq_getElem?_getD, h1]
          simpa using this
        let θ2 : Th := fun t => if t < hp.length then θ t else θ' (t - hp.length)
        have hs2 : Same hp.length θ θ2 := fun t ht => by simp [θ2, ht]
        have hcomp : (fun t => θ2 (finσ hp0.length τ hp.length t)) = θ' := by
          funext t
          unfold finσ
          split
          · rename_i hlt
            simp only [θ2, show t < hp.length by omega, if_true]
            rw [hold t hlt, hs t hlt]
          · split
            · rename_i hge hlt
              have := hτ' _ hlt
              simp only [θ2, this, if_true]
              have h1 := hnew (t - hp0.length) (by omega)
              rw [show hp0.length + (t - hp0.length) = t by omega] at h1
              exact h1.symm
            · simp only [θ2, show ¬ hp.length + t < hp.length by omega, if_false, Nat.add_sub_cancel_left]
        obtain ⟨hh2, hT2⟩ := hpre.inv θ2 hs2
        have hr : den θ (rnm (finσ hp0.length τ hp.length) res) = den θ2 (rnm (finσ hp0.length τ hp.length) res) := by
          have hleave' := leaving_of (P := P) hpl.2 hh2 hpre.gok hT2 hret
          obtain ⟨-, -, -, fn, hf, hr⟩ := hleave
          obtain ⟨-, -, -, fn', hf', hr'⟩ := hleave'
          rw [hf] at hf'; cases hf'
          rw [hr] at hr'
          injection hr'
        refine ⟨by rw [hr, den_rnm, hcomp], ?_⟩
        have hbw : Below X.w0.heap.size X.w0 w := by rw [← hX.base]; exact hh.bel
        have hinit := (hX.init θ' hs).below hbw
        have key : ∀ t x, (hp0 ++ new)[t]? = some (some x) → (hp0[t]? = some (some x) ∧ t < hp0.length ∧ x.own = false) ∨
            ∃ k, t = hp0.length + k ∧ k < τ.length ∧ hp[τ.getD k 0]? = some (some (x.rnm (finσ hp0.length τ hp.length))) := by
          intro t x ht
          rw [List.getElem?_append] at ht
          split at ht
          · rename_i hlt
            refine .inl ⟨ht, hlt, ?_⟩
            have := List.all_eq_true.1 hX.ro (some x) (List.mem_of_getElem? ht)
            simpa using this
          · rename_i hge
            have hk : t - hp0.length < τ.length := by rw [hlen]; exact (List.getElem?_eq_some_iff.1 ht).1
            refine .inr ⟨t - hp0.length, by omega, hk, ?_⟩
            have h1 := congrArg (·[t - hp0.length]?) hn
            simp only [List.getElem?_map, ht, Option.map_some] at h1
            rw [List.getElem?_eq_getElem hk] at h1
            simp only [Option.map_some, Option.some.injEq] at h1
            rw [List.getD_eq_getElem?_getD, List.getElem?_eq_getElem hk, Option.getD_some]
            exact getV_some h1
        have hfin : ∀ k, k < τ.length → θ2 (τ.getD k 0) = θ' (hp0.length + k) := fun k hk => by
          have := hτ' k hk
          simp only [θ2, this, if_true]
          exact (hnew k (by omega)).symm
        refine ⟨fun t x ht => ?_, fun t t' x x' ht ht' hne ho hl a a' ha ha' => ?_⟩
        · rcases key t x ht with ⟨h1, -, -⟩ | ⟨k, rfl, hk, h1⟩
          · exact hinit.vw t x h1
          · have h2 := hh2.vw _ _ h1
            rw [hfin k hk] at h2
            exact VwOk.unrnm hcomp h2
        · rcases key t x ht with ⟨h1, -, h2⟩ | ⟨k, rfl, hk, h1⟩
          · rw [h2] at ho; cases ho
          · rcases key t' x' ht' with ⟨h3, h4, -⟩ | ⟨k', rfl, hk', h3⟩
            · have h5 := hh2.vw _ _ h1
              rw [hfin k hk] at h5
              have h6 : X.base ≤ a.block := by
                cases x with
                | box o cs => obtain ⟨b, e1, e2, -⟩ := h5.2 ho; rw [ha] at e1; cases e1; exact e2
                | row o el n sz f =>
                  rcases h5.2.2.2.2.2 ho with e | ⟨b, c, e1, e2, -⟩
                  · rw [e.1] at ha; cases ha
                  · rw [ha] at e1; cases e1; exact e2
                | map o k v f st => obtain ⟨b, e1, e2, -⟩ := h5; rw [ha] at e1; cases e1; exact e2 ho
              have h7 := ((hX.init θ' hs).vw t' x' h3).lt ha' hl
              rw [← hX.base] at h7
              omega
            · refine hh2.ne _ _ _ _ h1 h3 (fun e => hne ?_) (by rw [rnm_own]; exact ho) (hl.imp (fun h => by rw [rnm_own]; exact h) (rnm_live _ _).2) a a' (by rw [hfin k hk]; exact ha) (by rw [hfin k' hk']; exact ha')
              have h8 : τ[k]? = some (τ.getD k 0) := by rw [List.getD_eq_getElem?_getD, List.getElem?_eq_getElem hk]; rfl
              have h9 : τ[k']? = some (τ.getD k 0) := by rw [e, List.getD_eq_getElem?_getD, List.getElem?_eq_getElem hk']; rfl
              rw [nodupB_ne hnd k k' _ h8 h9]
      · rw [hX.ce]; exact .one (by rw [hX.P]; exact to_return hpl.1 htodo _)
      · rw [← hX.f0] at hfn; exact hfn
    · cases he

end Go.Sx
