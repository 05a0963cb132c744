/-
  SX, part 10: returns and calls.
-/
import Derived.Test.YtehnnaanpmceiaaGreatDoorSx9
set_option linter.unusedVariables false
set_option linter.unusedSimpArgs false
namespace Go.Sx
open Go.RowKit

section
variable {P : Program} {X : Cx} {θ : Th} {l : List (Option SV)} {hp : List (Option Vw)} {T : Array Value} {w : World} {gl : List (Nat × Vw)} {base : Nat}

def resV (P : Program) (T : Array Value) : ResultVar → Sem Value
  | .tmp t => pure (T.getD t undef)
  | .cell a t => do loadVar t (← asAddr (T.getD a undef))

theorem resS_run (hh : HpOk θ base hp w) (hg : GOk gl w) (hT : TOk θ l T) : ∀ {rs : List ResultVar} {vs : List SV}, resS gl P hp l rs = some vs →
    (rs.mapM (resV P T)).run P w = .ok (denL θ vs) w
  | [], vs, h => by simp only [resS, Option.some.injEq] at h; subst h; rfl
  | .tmp t :: r, vs, h => by
    simp only [resS] at h
    split at h
    · rename_i v vs' h1 h2
      cases h
      have h3 := hT.2 t v h1
      have h4 := resS_run hh hg hT h2
      simp only [List.mapM_cons, resV, Sem.run_bind, Sem.run_pure, Result.andThen_ok, h4, Array.getD_eq_getD_getElem?, h3, Option.getD_some, denL]
    · cases h
  | .cell a t :: r, vs, h => by
    simp only [resS] at h
    split at h
    · rename_i x ag n h1 hag hsz
      split at h
      · rename_i cs vs' hc h2
        split at h
        · rename_i v hm
          cases h
          obtain ⟨hl, ad, hd, hsp, hcell⟩ := cellsAt_den (θ := θ) (base := base) hc trivial hh hg (Nat.succ_pos _)
          have hrun := run_loadVar' (P := P) (w := w) (θ := θ) hag (by rw [hl]; exact hsz) hm hsp hcell
          have h3 := hT.2 a x h1
          have h4 := resS_run hh hg hT h2
          rw [hd] at h3
          simp only [List.mapM_cons, resV, Sem.run_bind, Array.getD_eq_getD_getElem?, h3, Option.getD_some, asAddr, Sem.run_pure, Result.andThen_ok, hrun, h4, denL]
        · cases h
      · cases h
    · cases h

theorem results_run {fn : Func} {vs : List SV} (hh : HpOk θ base hp w) (hg : GOk gl w) (hT : TOk θ l T) (h : resS gl P hp l fn.results.toList = some vs) : (results fn T).run P w = .ok (den θ (packS vs)) w := by
  have h1 := resS_run (P := P) hh hg hT h
  have e : results fn T = (do let vs ← fn.results.mapM (resV P T); pure (if h : vs.size = 1 then vs[0] else .tuple vs)) := by
    unfold results
    congr 1
  rw [e, Array.mapM_eq_mapM_toList]
  simp only [Sem.run_bind, Sem.run_map, h1, Result.andThen_ok, Sem.run_pure]
  match vs with
  | [] => rfl
  | [v] => rfl
  | v :: u :: r => simp [packS, denL, den]

/-- The frame comes to its return. -/
theorem to_return {rx : Rx} (hrx : rx.rd = none) {fn : FuncId} {todo : List Item} (htodo : todo = [] ∨ ∃ k, todo = .code .ret :: k) (cs : List Frame) :
    step P (lone (mkFr rx fn T todo) cs w) = .next (lone { mkFr rx fn T todo with mode := .returning } cs w) := by
  rcases htodo with rfl | ⟨k, rfl⟩
  · exact stepR_end hrx
  · exact stepR_ret hrx

theorem leaving_of {fr : SFr} {v : SV} (hds : fr.rx.ds = []) (hh : HpOk θ base hp w) (hg : GOk gl w) (hT : TOk θ fr.tmps T) (h : retS P gl hp fr = some v) : ({ mkFr fr.rx fr.fn T fr.todo with mode := .returning } : Frame).leaving P w (.returned (den θ v)) := by
  unfold retS at h
  split at h
  · rename_i fn hf
    split at h
    · rename_i vs hr
      cases h
      exact ⟨rfl, hds, rfl, fn, hf, results_run hh hg hT hr⟩
    · cases h
  · cases h

theorem ret_ok {fr cl cl' : SFr} {frs : List SFr} {v : SV} (hrd : fr.rx.rd = none) (hds : fr.rx.ds = []) (htodo : fr.todo = [] ∨ ∃ k, fr.todo = .code .ret :: k) (hv : retS X.P X.gl hp fr = some v) (hc : finS cl v = some cl') (hk : Ok X ⟨cl' :: frs, hp⟩) :
    Ok X ⟨fr :: cl :: frs, hp⟩ := by
  refine Ok.of_step (c' := ⟨cl' :: frs, hp⟩) (Nat.le_refl _) (fun θ m ms w hh => ?_) hk
  obtain ⟨T, rfl, hpre, hrest⟩ := hh.pre
  obtain ⟨hh0, hT0⟩ := hpre.inv θ (Same.refl _ _)
  cases hrest θ (Same.refl _ _) with
  | @cons _ _ cm cms h1 h2 =>
    obtain ⟨T1, rfl, hT1⟩ := h1
    have hleave := leaving_of (P := X.P) hds hh0 hpre.gok hT0 hv
    unfold finS at hc
    split at hc
    · rename_i ops i rest k htd
      split at hc
      · rename_i o ho
        cases hc
        have hfin : (mkFr cl.rx cl.fn T1 cl.todo).finish (den θ v) = mkFr cl.rx cl.fn ((Act.mk T1 []).put o.dst (den θ v)).tmps (.inRegion ops rest :: k) := by
          rw [htd]; exact fin_mk ho
        refine ⟨_, cms, w, fun _ => ⟨none, 0, 0⟩, .head (to_return hrd htodo _) (.one (step_leave_returned hleave)), Below.refl _ _, fun θ' hs _ => ⟨(hpre.inv θ' hs).1, ?_⟩⟩
        have hr' := hrest θ' hs
        cases hr' with
        | cons h1' h2' =>
          obtain ⟨T', he, hT'⟩ := h1'
          have : T' = T1 := by have := congrArg Frame.tmps he; simpa [mkFr, Frame.atR] using this.symm
          subst this
          have hleave' := leaving_of (P := X.P) hds (hpre.inv θ' hs).1 hpre.gok (hpre.inv θ' hs).2 hv
          have hveq : den θ v = den θ' v := by
            obtain ⟨-, -, -, fn, hf, hr⟩ := hleave
            obtain ⟨-, -, -, fn', hf', hr'⟩ := hleave'
            rw [hf] at hf'; cases hf'
            rw [hr] at hr'
            injection hr'
          exact .cons ⟨_, hfin, hT'.set hveq⟩ h2'
      · cases hc
    · cases hc

theorem Lies.rnm {σ : Nat → Nat} {a : Addr} {j : Nat} {cs : List SV} (h : Lies (fun t => θ (σ t)) w a j cs) : Lies θ w a j (rnmL σ cs) := by
  intro k v hk
  rw [rnmL_map, List.getElem?_map] at hk
  cases hc : cs[k]? with
  | none => simp [hc] at hk
  | some u =>
    simp [hc] at hk
    subst hk
    rw [den_rnm]
    exact h k u hc

theorem one_rnm (σ : Nat → Nat) (v : SV) : one (rnm σ v) = one v := by cases v <;> rfl

theorem VwOk.rnm {σ : Nat → Nat} {d : Ad} {v : Vw} {b : Nat} (h : VwOk (fun t => θ (σ t)) b w d v) (hb : base ≤ b) : VwOk θ base w d (v.rnm σ) := by
  cases v with
  | box o cs =>
    refine ⟨fun hn => ?_, fun ho => ?_⟩
    · obtain ⟨a, ha, hl⟩ := h.1 (by rintro rfl; exact hn rfl); exact ⟨a, ha, hl.rnm⟩
    · obtain ⟨b', h1, h2, h3⟩ := h.2 ho; exact ⟨b', h1, by omega, by rw [rnmL_length]; exact h3⟩
  | row o el n sz f =>
    obtain ⟨h1, h2, h3, h4, h5, h6⟩ := h
    refine ⟨h1, h2, h3, fun i hi => ⟨by rw [rnmL_length]; exact (h4 i hi).1, ?_⟩, fun a ha i hi => (h5 a ha i hi).rnm, fun ho => ?_⟩
    · have := (h4 i hi).2
      rw [List.all_eq_true] at this ⊢
      intro x hx
      replace hx : x ∈ rnmL σ (f i) := hx
      rw [rnmL_map, List.mem_map] at hx
      obtain ⟨y, hy, rfl⟩ := hx
      rw [one_rnm]; exact this y hy
    · rcases h6 ho with h | ⟨b', c, e1, e2, e3⟩
      · exact .inl h
      · exact .inr ⟨b', c, e1, by omega, e3⟩
  | map o k v f st => obtain ⟨b', h1, h2, h3⟩ := h; exact ⟨b', h1, fun ho => Nat.le_trans hb (h2 ho), h3⟩

theorem VwOk.ro {d : Ad} {v : Vw} {b : Nat} (h : VwOk θ b w d v) : VwOk θ base w d v.ro := by
  cases v with
  | box o cs => exact ⟨h.1, fun h => by cases h⟩
  | row o el n sz f =>
    obtain ⟨h1, h2, h3, h4, h5, h6⟩ := h
    exact ⟨h1, h2, h3, h4, h5, fun h => by cases h⟩
  | map o k v f st => obtain ⟨b', h1, h2, h3⟩ := h; exact ⟨b', h1, (fun h => by cases h), h3⟩

theorem rnm_own (σ : Nat → Nat) (v : Vw) : (v.rnm σ).own = v.own := by cases v <;> rfl
theorem rnm_live (σ : Nat → Nat) (v : Vw) : (v.rnm σ).live ↔ v.live := by
  cases v with
  | box o cs => simp only [Vw.rnm, Vw.live]; cases cs <;> simp [rnmL]
  | row o el n sz f => exact Iff.rfl
  | map o k v f st => exact Iff.rfl
theorem ro_own (v : Vw) : v.ro.own = false := by cases v <;> rfl

theorem argV_ok {σ : List Nat} {b : Nat} (h : HpOk θ base hp w) : HpOk (fun k => θ (back σ k)) b (argV σ hp) w := by
  have key : ∀ k v, (argV σ hp)[k]? = some (some v) → k < σ.length ∧ ∃ u, getV hp (σ.getD k 0) = some u ∧ v = (u.rnm (inv σ)).ro := fun k v hk => by
    unfold argV at hk
    rw [List.getElem?_map] at hk
    cases hs : σ[k]? with
    | none => simp [hs] at hk
    | some t =>
      simp [hs] at hk
      obtain ⟨u, hu, rfl⟩ := hk
      have := (List.getElem?_eq_some_iff.1 hs).1
      refine ⟨this, u, ?_, rfl⟩
      rw [List.getD_eq_getElem?_getD, hs]
      exact hu
  refine ⟨fun k v hk => ?_, fun t t' v v' ht ht' hne ho => ?_⟩
  · obtain ⟨hlt, u, hu, rfl⟩ := key k v hk
    have hb : back σ k = σ.getD k 0 := by unfold back; rw [if_pos hlt]
    have h1 := h.vw _ _ (getV_some hu)
    show VwOk _ _ _ (θ (back σ k)) _
    rw [hb]
    refine VwOk.ro (b := base) ?_
    refine VwOk.rnm (b := base) ?_ (Nat.le_refl _)
    have e : (fun t => θ (back σ (inv σ t))) = θ := funext fun t => by rw [back_inv]
    simp only [e]
    exact h1
  · obtain ⟨-, u, -, rfl⟩ := key t v ht
    rw [ro_own] at ho
    cases ho

theorem HpOk.join {σ : List Nat} {new hp0 : List (Option Vw)} {w' : World} (h : HpOk θ base hp w) (hsz : base ≤ w.heap.size) (hb : Below w.heap.size w w') (hl : hp0.length = σ.length) (hn : HpOk (fun k => θ (fwd σ hp.length k)) w.heap.size (hp0 ++ new) w') (hok : newOk new = true) :
    HpOk θ base (hp ++ new.map fun x => x.map (Vw.rnm (fwd σ hp.length))) w' := by
  have h' := h.below hb
  have key : ∀ t x, (hp ++ new.map fun x => x.map (Vw.rnm (fwd σ hp.length)))[t]? = some (some x) → (hp[t]? = some (some x) ∧ t < hp.length) ∨
      ∃ k u, t = hp.length + k ∧ (hp0 ++ new)[σ.length + k]? = some (some u) ∧ x = u.rnm (fwd σ hp.length) ∧ u.own = true := by
    intro t x ht
    rw [List.getElem?_append] at ht
    split at ht
    · rename_i hlt; exact .inl ⟨ht, hlt⟩
    · rename_i hge
      rw [List.getElem?_map] at ht
      cases hk : new[t - hp.length]? with
      | none => simp [hk] at ht
      | some y =>
        simp [hk] at ht
        obtain ⟨u, rfl, rfl⟩ := ht
        refine .inr ⟨t - hp.length, u, by omega, ?_, rfl, ?_⟩
        · rw [List.getElem?_append_right (by omega), hl]
          rw [show σ.length + (t - hp.length) - σ.length = t - hp.length by omega]
          exact hk
        · have := List.all_eq_true.1 hok (some u) (List.mem_of_getElem? hk)
          exact this
  have hf : ∀ k, fwd σ hp.length (σ.length + k) = hp.length + k := fun k => by unfold fwd; rw [if_neg (by omega)]; omega
  refine ⟨fun t x ht => ?_, fun t t' x x' ht ht' hne ho hl' a a' ha ha' => ?_⟩
  · rcases key t x ht with ⟨h1, -⟩ | ⟨k, u, rfl, h1, rfl, -⟩
    · exact h'.vw t x h1
    · have := hn.vw _ _ h1
      simp only [hf] at this
      exact this.rnm hsz
  · rcases key t x ht with ⟨h1, h2⟩ | ⟨k, u, rfl, h1, rfl, hu⟩ <;> rcases key t' x' ht' with ⟨h3, h4⟩ | ⟨k', u', rfl, h3, rfl, hu'⟩
    · exact h'.ne t t' x x' h1 h3 hne ho hl' a a' ha ha'
    · have hlt := (h.vw t x h1).lt ha (.inl ho)
      have hge : w.heap.size ≤ a'.block := by
        have h5 := hn.vw _ _ h3
        simp only [hf] at h5
        cases u' with
        | box o cs => obtain ⟨b, e1, e2, -⟩ := h5.2 hu'; rw [ha'] at e1; cases e1; exact e2
        | row o el n sz f =>
          rcases h5.2.2.2.2.2 hu' with e | ⟨b, c, e1, e2, -⟩
          · rw [e.1] at ha'; cases ha'
          · rw [ha'] at e1; cases e1; exact e2
        | map o k v f st => obtain ⟨b, e1, e2, -⟩ := h5; rw [ha'] at e1; cases e1; exact e2 hu'
      omega
    · have hlt := (h.vw t' x' h3).lt ha' hl'
      have hge : w.heap.size ≤ a.block := by
        have h5 := hn.vw _ _ h1
        simp only [hf] at h5
        cases u with
        | box o cs => obtain ⟨b, e1, e2, -⟩ := h5.2 hu; rw [ha] at e1; cases e1; exact e2
        | row o el n sz f =>
          rcases h5.2.2.2.2.2 hu with e | ⟨b, c, e1, e2, -⟩
          · rw [e.1] at ha; cases ha
          · rw [ha] at e1; cases e1; exact e2
        | map o k v f st => obtain ⟨b, e1, e2, -⟩ := h5; rw [ha] at e1; cases e1; exact e2 hu
      omega
    · refine hn.ne _ _ u u' h1 h3 (by omega) hu (hl'.imp (fun _ => hu') (fun h => (rnm_live _ _).1 h)) a a' ?_ ?_
      · simp only [hf]; exact ha
      · simp only [hf]; exact ha'

theorem call_ok {fr : SFr} {frs : List SFr} {ops : Array Oper} {i : Nat} {rest : List Nat} {k : List Item} {o : Oper} {ps qs : List Prop} {hs hs1 hs2 : List Hint} {f : FuncId} {args : List SV} {σ : List Nat} {res : SV} {new : List (Option Vw)}
    (htd : fr.todo = .inRegion ops (i :: rest) :: k) (ho : ops[i]? = some o) (hg : guardS ops fr.tmps hs o = some (ps, hs1, true)) (hop : sxOp X.P X.gl fr.tmps hp hs1 o.op = some (qs, hs2, .enter f args)) (hps : AllP ps) (hqs : AllP qs)
    (hcall : SCall X.P X.gl f (rnmL (inv σ) args) (argV σ hp) res new) (hnew : newOk new = true) (hσ : σ.all (fun t => decide (t < hp.length)) = true)
    (hk : Ok X ⟨{ fr with tmps := setT fr.tmps o.dst (rnm (fwd σ hp.length) res), todo := .inRegion ops rest :: k } :: frs, hp ++ new.map fun x => x.map (Vw.rnm (fwd σ hp.length))⟩) :
    Ok X ⟨fr :: frs, hp⟩ := by
  refine Ok.of_step (c' := ⟨{ fr with tmps := setT fr.tmps o.dst (rnm (fwd σ hp.length) res), todo := .inRegion ops rest :: k } :: frs, hp ++ new.map fun x => x.map (Vw.rnm (fwd σ hp.length))⟩) (by simp) (fun θ m ms w hh => ?_) hk
  obtain ⟨T, rfl, hpre, hrest⟩ := hh.pre
  obtain ⟨hh0, hT0⟩ := hpre.inv θ (Same.refl _ _)
  obtain ⟨as, hrun, has⟩ := sxOp_after (ds := []) hpre hop hqs
  have hw := guardS_wanted hg hps hT0
  have hlen : (argV σ hp).length = σ.length := by simp [argV]
  have hσ' : ∀ k, k < σ.length → σ.getD k 0 < hp.length := fun k hk => by
    have h1 : σ[k]? = some (σ[k]'hk) := List.getElem?_eq_getElem hk
    have := List.all_eq_true.1 hσ _ (List.getElem_mem hk)
    rw [List.getD_eq_getElem?_getD, h1]
    simpa using this
  have e1 : denL (fun k => θ (back σ k)) (rnmL (inv σ) args) = as := by
    rw [denL_rnm, has θ (Same.refl _ _)]
    congr 1
    funext t
    rw [back_inv]
  have hc := hcall (fun k => θ (back σ k)) w (argV_ok hh0) hpre.gok
  rw [e1] at hc
  obtain ⟨e, w', fr', ⟨hbel, r, rfl, nw, hnw⟩, hcomes, -, hleave⟩ := hc (mkFr fr.rx fr.fn T fr.todo :: (ms ++ X.cs))
  have hfin : (mkFr fr.rx fr.fn T fr.todo).finish r = mkFr fr.rx fr.fn ((Act.mk T []).put o.dst r).tmps (.inRegion ops rest :: k) := by
    rw [htd]; exact fin_mk ho
  have hst : step X.P (lone (mkFr fr.rx fr.fn T fr.todo) (ms ++ X.cs) w) = .next (lone (Frame.enter X.P f as.toArray .normal) (mkFr fr.rx fr.fn T fr.todo :: (ms ++ X.cs)) w) := by
    rw [htd]
    exact stepM_enter ho hw hrun
  refine ⟨_, ms, w', nw, .head hst (Steps.trans hcomes (.one (step_leave_returned hleave))), hbel.mono hpre.sz, fun θ' hs hn => ?_⟩
  obtain ⟨hh1, hT1⟩ := hpre.inv θ' hs
  have hsame : Same (argV σ hp).length (fun k => θ (back σ k)) (fun k => θ' (fwd σ hp.length k)) := fun k hk => by
    rw [hlen] at hk
    simp only [back, fwd, hk, if_true]
    exact hs _ (hσ' k hk)
  obtain ⟨hr, hh2⟩ := hnw _ hsame (fun k hk => by
    simp only [hlen, fwd, show ¬ σ.length + k < σ.length by omega, if_false]
    rw [show hp.length + (σ.length + k - σ.length) = hp.length + k by omega]
    exact hn k (by simpa using hk))
  refine ⟨hh1.join hpre.sz hbel hlen hh2 hnew, ?_⟩
  exact .cons ⟨_, hfin, hT1.set (by rw [hr, den_rnm])⟩ (hrest θ' hs)

end

end Go.Sx
