/-
  SX, part 11: a step, a run, a contract.
-/
import Derived.Test.YtehnnaanpmceiaaGreatDoorSxk
set_option linter.unusedVariables false
set_option linter.unusedSimpArgs false
namespace Go.Sx
open Go.RowKit

section
variable {X : Cx} {θ : Th} {l : List (Option SV)} {hp : List (Option Vw)} {T : Array Value} {w : World}

theorem Ok.of_step' {c c' : SC}
    (h : ∀ θ fr frs w, Holds X θ c (fr :: frs) w → ∃ fr2 frs2 w2, ∃ new : Nat → Ad, c.hp.length ≤ c'.hp.length ∧ Steps X.P (lone fr (frs ++ X.cs) w) (lone fr2 (frs2 ++ X.cs) w2) ∧
      Below X.base w w2 ∧ ∀ θ', Same c.hp.length θ θ' → (∀ k, c.hp.length + k < c'.hp.length → θ' (c.hp.length + k) = new k) → Rel X θ' c' (fr2 :: frs2) w2) (hk : Ok X c') : Ok X c := by
  intro θ fr frs w hh
  obtain ⟨_, _, _, _, hlen, -⟩ := h θ fr frs w hh
  exact Ok.of_step hlen (fun θ fr frs w hh => by
    obtain ⟨a, b, c, d, -, h⟩ := h θ fr frs w hh
    exact ⟨a, b, c, d, h⟩) hk θ fr frs w hh

section
variable {fr : SFr} {frs : List SFr} {ops : Array Oper} {i : Nat} {rest : List Nat} {k : List Item} {o : Oper} {ps qs : List Prop} {hs hs1 hs2 : List Hint}

theorem op_ok {v : SV} {hp' : List (Option Vw)}
    (htd : fr.todo = .inRegion ops (i :: rest) :: k) (ho : ops[i]? = some o) (hg : guardS ops fr.tmps hs o = some (ps, hs1, true)) (hop : sxOp X.P X.gl fr.tmps hp hs1 o.op = some (qs, hs2, .val v hp')) (hps : AllP ps) (hqs : AllP qs)
    (hk : Ok X ⟨{ fr with tmps := setT fr.tmps o.dst v, todo := .inRegion ops rest :: k } :: frs, hp'⟩) : Ok X ⟨fr :: frs, hp⟩ := by
  refine Ok.of_step' (c' := ⟨{ fr with tmps := setT fr.tmps o.dst v, todo := .inRegion ops rest :: k } :: frs, hp'⟩) (fun θ m ms w hh => ?_) hk
  obtain ⟨T, rfl, hpre, hrest⟩ := hh.pre
  obtain ⟨hh0, hT0⟩ := hpre.inv θ (Same.refl _ _)
  obtain ⟨r, w', new, hrun, hbel, hlen, hv⟩ := sxOp_after (ds := []) hpre hop hqs
  have hw := guardS_wanted hg hps hT0
  refine ⟨mkFr fr.rx fr.fn ((Act.mk T []).put o.dst r).tmps (.inRegion ops rest :: k), ms, w', new, hlen, .one ?_, hbel, fun θ' hs hn => ?_⟩
  · rw [htd]; exact stepM_value ho hw hrun
  · obtain ⟨h1, h2⟩ := hv θ' hs hn
    exact ⟨h1, .cons ⟨_, rfl, (hpre.inv θ' hs).2.set h2⟩ (hrest θ' hs)⟩

theorem op_skip_ok {hp' : List (Option Vw)}
    (htd : fr.todo = .inRegion ops (i :: rest) :: k) (ho : ops[i]? = some o) (hg : guardS ops fr.tmps hs o = some (ps, hs1, true)) (hop : sxOp X.P X.gl fr.tmps hp hs1 o.op = some (qs, hs2, .skip hp')) (hps : AllP ps) (hqs : AllP qs)
    (hk : Ok X ⟨{ fr with tmps := setT fr.tmps o.dst (.tup []), todo := .inRegion ops rest :: k } :: frs, hp'⟩) : Ok X ⟨fr :: frs, hp⟩ := by
  refine Ok.of_step' (c' := ⟨{ fr with tmps := setT fr.tmps o.dst (.tup []), todo := .inRegion ops rest :: k } :: frs, hp'⟩) (fun θ m ms w hh => ?_) hk
  obtain ⟨T, rfl, hpre, hrest⟩ := hh.pre
  obtain ⟨hh0, hT0⟩ := hpre.inv θ (Same.refl _ _)
  obtain ⟨w', hrun, hbel, hlen, hv⟩ := sxOp_after (ds := []) hpre hop hqs
  have hw := guardS_wanted hg hps hT0
  refine ⟨mkFr fr.rx fr.fn ((Act.mk T []).put o.dst undef).tmps (.inRegion ops rest :: k), ms, w', fun _ => ⟨none, 0, 0⟩, Nat.le_of_eq hlen, .one ?_, hbel, fun θ' hs hn => ?_⟩
  · rw [htd]; exact stepM_skip ho hw hrun
  · exact ⟨hv θ' hs, .cons ⟨_, rfl, (hpre.inv θ' hs).2.set (v := .tup []) rfl⟩ (hrest θ' hs)⟩

theorem op_off_ok (htd : fr.todo = .inRegion ops (i :: rest) :: k) (ho : ops[i]? = some o) (hg : guardS ops fr.tmps hs o = some (ps, hs1, false)) (hps : AllP ps)
    (hk : Ok X ⟨{ fr with tmps := setT fr.tmps o.dst (.tup []), todo := .inRegion ops rest :: k } :: frs, hp⟩) : Ok X ⟨fr :: frs, hp⟩ := by
  refine Ok.of_step' (c' := ⟨{ fr with tmps := setT fr.tmps o.dst (.tup []), todo := .inRegion ops rest :: k } :: frs, hp⟩) (fun θ m ms w hh => ?_) hk
  obtain ⟨T, rfl, hpre, hrest⟩ := hh.pre
  obtain ⟨hh0, hT0⟩ := hpre.inv θ (Same.refl _ _)
  have hw := guardS_wanted hg hps hT0
  refine ⟨mkFr fr.rx fr.fn ((Act.mk T []).put o.dst undef).tmps (.inRegion ops rest :: k), ms, w, fun _ => ⟨none, 0, 0⟩, Nat.le_refl _, .one ?_, Below.refl _ _, fun θ' hs hn => ?_⟩
  · rw [htd]; exact stepM_off ho hw
  · exact ⟨(hpre.inv θ' hs).1, .cons ⟨_, rfl, (hpre.inv θ' hs).2.set (v := .tup []) rfl⟩ (hrest θ' hs)⟩

theorem inl_ok {f : FuncId} {args : List SV} {fn : Func} {b : Code}
    (htd : fr.todo = .inRegion ops (i :: rest) :: k) (ho : ops[i]? = some o) (hg : guardS ops fr.tmps hs o = some (ps, hs1, true)) (hop : sxOp X.P X.gl fr.tmps hp hs1 o.op = some (qs, hs2, .enter f args)) (hps : AllP ps) (hqs : AllP qs)
    (hf : X.P.funcs[f]? = some fn) (hb : fn.body = some b)
    (hk : Ok X ⟨{ fn := f, tmps := args.map some ++ List.replicate (fn.ntmps - args.length) (some (.tup [])), todo := [.code b] } :: fr :: frs, hp⟩) : Ok X ⟨fr :: frs, hp⟩ := by
  refine Ok.of_step' (c' := ⟨{ fn := f, tmps := args.map some ++ List.replicate (fn.ntmps - args.length) (some (.tup [])), todo := [.code b] } :: fr :: frs, hp⟩) (fun θ m ms w hh => ?_) hk
  obtain ⟨T, rfl, hpre, hrest⟩ := hh.pre
  obtain ⟨hh0, hT0⟩ := hpre.inv θ (Same.refl _ _)
  obtain ⟨as, hrun, has⟩ := sxOp_after (ds := []) hpre hop hqs
  have hw := guardS_wanted hg hps hT0
  refine ⟨mkFr {} f (as.toArray ++ Array.replicate (fn.ntmps - as.toArray.size) undef) [.code b], mkFr fr.rx fr.fn T fr.todo :: ms, w, fun _ => ⟨none, 0, 0⟩, Nat.le_refl _, .one ?_, Below.refl _ _, fun θ' hs hn => ?_⟩
  · rw [← enter_eq hf hb]
    rw [htd]
    exact stepM_enter ho hw hrun
  · have ha := has θ' hs
    have hla : as.length = args.length := by rw [ha, denL_map]; simp
    refine ⟨(hpre.inv θ' hs).1, .cons ⟨_, rfl, ?_, fun j v hj => ?_⟩ (.cons ⟨T, rfl, (hpre.inv θ' hs).2⟩ (hrest θ' hs))⟩
    · simp [hla]
    · rw [List.getElem?_append] at hj
      simp only [List.length_map] at hj
      split at hj
      · rename_i hlt
        rw [List.getElem?_map] at hj
        cases hq : args[j]? with
        | none => simp [hq] at hj
        | some u =>
          simp [hq] at hj
          subst hj
          rw [Array.getElem?_append_left (by simp [hla, hlt])]
          rw [ha]
          exact denL_get hq
      · rename_i hge
        rw [List.getElem?_replicate] at hj
        split at hj
        · cases hj
          rw [Array.getElem?_append_right (by simp [hla]; omega)]
          simp only [List.size_toArray, hla]
          rw [Array.getElem?_replicate, if_pos (by assumption)]
          rfl
        · cases hj

end

theorem retR_ok {fr : SFr} {frs : List SFr} {c' : SC} {ps : List Prop} {hs hs' : List Hint} (htodo : fr.todo = [] ∨ ∃ k, fr.todo = .code .ret :: k) (h : retR X.P X.gl hs fr frs hp = some (ps, hs', c')) (hk : Ok X c') : Ok X ⟨fr :: frs, hp⟩ := by
  unfold retR at h
  split at h
  · split at h
    · rename_i hpl
      simp only [plainR, Bool.and_eq_true, Option.isNone_iff_eq_none, List.isEmpty_iff] at hpl
      split at h
      · rename_i v hv
        split at h
        · rename_i cl' hc
          simp only [Option.some.injEq, Prod.mk.injEq] at h
          obtain ⟨-, -, rfl⟩ := h
          exact ret_ok hpl.1 hpl.2 htodo hv hc hk
        · cases h
      · cases h
    · cases h
  · cases h

theorem condR_ok {fr : SFr} {frs : List SFr} {c' : SC} {ps : List Prop} {hs hs' : List Hint} {o : Operand} {t e : Code} {k : List Item} (htd : fr.todo = .code (.cond o t e) :: k) (h : condR hs fr frs hp (ev fr.tmps o) t e k = some (ps, hs', c')) (hps : AllP ps) (hk : Ok X c') :
    Ok X ⟨fr :: frs, hp⟩ := by
  unfold condR at h
  split at h
  · rename_i b hs'' hev
    simp only [Option.some.injEq, Prod.mk.injEq] at h
    obtain ⟨rfl, -, rfl⟩ := h
    refine Ok.go (todo' := .code t :: k) (fun θ T cs w hT => ?_) hk
    rw [htd]
    have := stepM_cond (P := X.P) (rx := fr.rx) (fn := fr.fn) (T := T) (k := k) (cs := cs) (w := w) (x := t) (y := e) (ev_den hT hev)
    rw [hps.1] at this
    exact this
  · rename_i b hs'' hev
    simp only [Option.some.injEq, Prod.mk.injEq] at h
    obtain ⟨rfl, -, rfl⟩ := h
    refine Ok.go (todo' := .code e :: k) (fun θ T cs w hT => ?_) hk
    rw [htd]
    have := stepM_cond (P := X.P) (rx := fr.rx) (fn := fr.fn) (T := T) (k := k) (cs := cs) (w := w) (x := t) (y := e) (ev_den hT hev)
    rw [hps.1] at this
    exact this
  · cases h

theorem step_ok {c c' : SC} {ps : List Prop} {hs hs' : List Hint} (h : sxStep X.P X.gl hs c = some (ps, hs', c')) (hps : AllP ps) (hk : Ok X c') : Ok X c := by
  obtain ⟨frs, hp⟩ := c
  cases frs with
  | nil => simp [sxStep] at h
  | cons fr frs =>
    have hgo : ∀ {todo' : List Item}, (∀ θ T cs w, TOk θ fr.tmps T → step X.P (lone (mkFr fr.rx fr.fn T fr.todo) cs w) = .next (lone (mkFr fr.rx fr.fn T todo') cs w)) →
        some (([] : List Prop), hs, (⟨{ fr with todo := todo' } :: frs, hp⟩ : SC)) = some (ps, hs', c') → Ok X ⟨fr :: frs, hp⟩ := by
      intro todo' hst h
      simp only [Option.some.injEq, Prod.mk.injEq] at h
      obtain ⟨-, -, rfl⟩ := h
      exact Ok.go hst hk
    simp only [sxStep] at h
    split at h
    · rename_i htd; exact retR_ok (.inl htd) h hk
    · rename_i k htd; exact retR_ok (.inr ⟨k, htd⟩) h hk
    · rename_i k htd; exact hgo (fun θ T cs w _ => by rw [htd]; exact stepR_skip) h
    · rename_i lb k htd; exact hgo (fun θ T cs w _ => by rw [htd]; exact stepR_label) h
    · rename_i id k htd; exact hgo (fun θ T cs w _ => by rw [htd]; exact stepR_inBlock) h
    · rename_i b k htd; exact hgo (fun θ T cs w _ => by rw [htd]; exact stepM_inScope) h
    · rename_i a b k htd; exact hgo (fun θ T cs w _ => by rw [htd]; exact stepR_seq) h
    · rename_i o t e k htd; exact condR_ok htd h hps hk
    · rename_i id b k htd; exact hgo (fun θ T cs w _ => by rw [htd]; exact stepR_block) h
    · rename_i b k htd; exact hgo (fun θ T cs w _ => by rw [htd]; exact stepR_loop) h
    · rename_i b k htd; exact hgo (fun θ T cs w _ => by rw [htd]; exact stepR_inLoop) h
    · rename_i b k htd; exact hgo (fun θ T cs w _ => by rw [htd]; exact stepM_scope) h
    · rename_i id k htd
      split at h
      · rename_i k' hk'; exact hgo (fun θ T cs w _ => by rw [htd]; exact stepR_exit hk') h
      · cases h
    · rename_i lb k htd
      split at h
      · rename_i k' hk'; exact hgo (fun θ T cs w _ => by rw [htd]; exact stepR_goto hk') h
      · cases h
    · rename_i id ops k htd; exact hgo (fun θ T cs w _ => by rw [htd]; exact stepR_region) h
    · rename_i id ops k htd
      split at h
      · rename_i m F kt hs1
        split at h
        · rename_i hq
          rw [Bool.and_eq_true, Bool.and_eq_true] at hq
          split at h
          · rename_i ps' hs2 res hev
            split at h
            · rename_i qs rs hs3 hp' hst hB
              simp only [Option.some.injEq, Prod.mk.injEq] at h
              obtain ⟨rfl, -, rfl⟩ := h
              obtain ⟨h1, h2⟩ := AllP_append hps
              obtain ⟨h3, h4⟩ := AllP_append h2
              exact draw_ok htd hq.1.1 hq.1.2 hq.2 hev h1 hst h3 hB h4 hk
            · cases h
          · cases h
        · cases h
      · cases h
    · rename_i ops k htd; exact hgo (fun θ T cs w _ => by rw [htd]; exact stepR_region_end) h
    · rename_i ops i rest k htd
      split at h
      · cases h
      · rename_i o ho
        split at h
        · rename_i ps' hs1 hg
          simp only [Option.some.injEq, Prod.mk.injEq] at h
          obtain ⟨rfl, -, rfl⟩ := h
          exact op_off_ok htd ho hg hps hk
        · rename_i ps' hs1 hg
          split at h
          · rename_i qs hs2 v hp' hop
            simp only [Option.some.injEq, Prod.mk.injEq] at h
            obtain ⟨rfl, -, rfl⟩ := h
            exact op_ok htd ho hg hop (AllP_append hps).1 (AllP_append hps).2 hk
          · rename_i qs hs2 hp' hop
            simp only [Option.some.injEq, Prod.mk.injEq] at h
            obtain ⟨rfl, -, rfl⟩ := h
            exact op_skip_ok htd ho hg hop (AllP_append hps).1 (AllP_append hps).2 hk
          · rename_i qs hs2 f args hop
            split at h
            · rename_i fn hf
              split at h
              · rename_i b hb
                simp only [Option.some.injEq, Prod.mk.injEq] at h
                obtain ⟨rfl, -, rfl⟩ := h
                exact inl_ok htd ho hg hop (AllP_append hps).1 (AllP_append hps).2 hf hb hk
              · cases h
            · cases h
          · rename_i qs σ res new hs2 f args hop
            split at h
            · rename_i hq
              simp only [Bool.and_eq_true] at hq
              simp only [Option.some.injEq, Prod.mk.injEq] at h
              obtain ⟨rfl, -, rfl⟩ := h
              obtain ⟨h1, h2⟩ := AllP_append hps
              obtain ⟨h3, h4⟩ := AllP_append h1
              exact call_ok htd ho hg hop h3 h4 h2.1 hq.1 hq.2 hk
            · cases h
          · cases h
        · cases h
    · cases h

/-- So many steps; what is asked on the way, in order. -/
def sxRun (P : Program) (gl : List (Nat × Vw)) : Nat → List Hint → SC → Option (List Prop × SC)
  | 0, [], c => some ([], c)
  | 0, _ :: _, _ => none
  | n + 1, hs, c => match sxStep P gl hs c with
    | some (ps, hs', c') => match sxRun P gl n hs' c' with
      | some (qs, c'') => some (ps ++ qs, c'')
      | none => none
    | none => none

theorem run_ok : ∀ {n : Nat} {hs : List Hint} {c c' : SC} {ps : List Prop}, sxRun X.P X.gl n hs c = some (ps, c') → AllP ps → Ok X c' → Ok X c
  | 0, [], c, c', ps, h, hps, hk => by
    simp only [sxRun, Option.some.injEq, Prod.mk.injEq] at h
    obtain ⟨-, rfl⟩ := h
    exact hk
  | 0, _ :: _, c, c', ps, h, hps, hk => by simp [sxRun] at h
  | n + 1, hs, c, c', ps, h, hps, hk => by
    simp only [sxRun] at h
    split at h
    · rename_i qs hs' c1 h1
      split at h
      · rename_i rs c2 h2
        simp only [Option.some.injEq, Prod.mk.injEq] at h
        obtain ⟨rfl, rfl⟩ := h
        obtain ⟨h3, h4⟩ := AllP_append hps
        exact step_ok h1 h3 (run_ok h2 h4 hk)
      · cases h
    · cases h

end

end Go.Sx
