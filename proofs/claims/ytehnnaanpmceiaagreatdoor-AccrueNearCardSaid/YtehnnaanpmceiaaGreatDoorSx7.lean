/-
  SX, part 7: every operation is what it is; one step of the machine.
-/
import Derived.Test.YtehnnaanpmceiaaGreatDoorSx6
set_option linter.unusedVariables false
set_option linter.unusedSimpArgs false
namespace Go.Sx
open Go.RowKit

section
variable {P : Program} {gl : List (Nat × Vw)} {base : Nat} {θ : Th} {l : List (Option SV)} {hp : List (Option Vw)} {T : Array Value} {w : World} {ds : List Deferred}

theorem denL_append (θ : Th) (a b : List SV) : denL θ (a ++ b) = denL θ a ++ denL θ b := by simp [denL_map]

theorem sxOp_after {hs hs' : List Hint} {o : Oper} {ps : List Prop} {e : Ef} {A : Nat → Prop} (hI : PreA A P gl base θ l hp T w) (h : sxOp P gl l hp hs o.op = some (ps, hs', e)) (hps : AllP ps) :
    AfterA A P base θ hp w ((execOp (Act.mk T ds).eval o).run P w) e := by
  cases ho : o.op <;> rw [ho] at h <;> simp only [sxOp] at h <;> try (exact sxV_after (hs := hs) hI (by rw [ho]; exact h) hps)
  case alloc e' =>
    split at h
    · rename_i i hi
      split at h
      · rename_i z hz; cases h; exact After.of_new hI (alloc_new ho hi hz)
      · cases h
    · cases h
  case box e' x =>
    split at h
    · rename_i v hv
      split at h
      · rename_i cs hc; cases h; exact After.of_new hI (box_new ho hv hc)
      · cases h
    · cases h
  case store t p x =>
    split at h
    · rename_i tg j v n hp' hv hsz
      split at h
      · rename_i cs vcs ht hc
        split at h
        · rename_i hq
          simp only [Bool.and_eq_true, beq_iff_eq, decide_eq_true_eq] at hq
          obtain ⟨⟨rfl, h1⟩, h2⟩ := hq
          cases h
          exact store_box_after hI ho hp' hv ht hsz hc h1 h2
        · cases h
      · cases h
    · rename_i tg i j v n hp' hv hsz
      split at h
      · rename_i el m sz f vcs f' hs'' ht hc
        split at h
        · rename_i hq
          simp only [Bool.and_eq_true, beq_iff_eq, decide_eq_true_eq] at hq
          obtain ⟨⟨rfl, h1⟩, h2⟩ := hq
          cases h
          exact store_row_after hI ho hp' hv ht hsz hc h1 h2 hps.1 hps.2.1
        · cases h
      · cases h
    · cases h
  case buildSlice t n parts =>
    split at h
    · rename_i el vs hu hv
      split at h
      · rename_i i rows hi hr
        split at h
        · rename_i z f hs'' hz
          split at h
          · rename_i hq
            simp only [Bool.and_eq_true, beq_iff_eq, decide_eq_true_eq] at hq
            obtain ⟨⟨⟨⟨h1, h2⟩, h3⟩, h4⟩, h5⟩ := hq
            cases h
            exact After.of_new hI (lit_new (hI.inv θ (SameA.refl _ _)).2 ho hu hi hz h1 rfl h2 h3 hv hr h4 h5 hps.1)
          · cases h
        · cases h
      · cases h
    · cases h
  case makeSlice t x y =>
    split at h
    · rename_i el k n k' n' hu hx hy
      split at h
      · rename_i i hi
        split at h
        · rename_i z hz
          split at h
          · rename_i hq
            simp only [Bool.and_eq_true, beq_iff_eq, decide_eq_true_eq] at hq
            obtain ⟨⟨h1, h2⟩, h3⟩ := hq
            cases h
            obtain ⟨rfl, h5, h6, h7, -⟩ := hps
            exact After.of_new hI (make_new (hI.inv θ (SameA.refl _ _)).2 ho hu hi hz h1 rfl h2 hx hy h3 h5 h6 h7)
          · cases h
        · cases h
      · cases h
    · cases h
  case makeMap t r =>
    cases r with
    | some _ => exact sxV_after (hs := hs) hI (by rw [ho]; exact h) hps
    | none =>
      simp only at h
      split at h
      · rename_i kt et hu
        split at h
        · cases h; exact After.of_new hI (map_new ho hu)
        · cases h
      · cases h
  case mapUpdate t m y x =>
    split at h
    · rename_i kt et tg k' a v' n hu hm hy hx
      split at h
      · rename_i k v f st k'' ht hk
        split at h
        · rename_i hq
          simp only [Bool.and_eq_true] at hq
          obtain ⟨⟨c1, c2⟩, c3⟩ := hq
          obtain rfl := IntKind_beq c1
          obtain rfl := IntKind_beq c2
          obtain rfl := IntKind_beq c3
          cases h
          exact map_update_after hI ho hu hk hm hy hx ht
        · cases h
      · cases h
    · cases h
  case entryStore t m s x =>
    split at h
    · rename_i tg s0 v' n hm hs' hx
      split at h
      · rename_i k v f s' a st ht
        split at h
        · rename_i hq
          obtain rfl := IntKind_beq hq
          cases h
          obtain ⟨rfl, -⟩ := hps
          exact entry_store_after hI ho hm hs' hx ht
        · cases h
      · cases h
    · cases h
  case slice t x lo hi mx =>
    cases mx with
    | some m => exact sxV_after (hs := hs) hI (by rw [ho]; exact h) hps
    | none =>
      simp only at h
      split at h
      · rename_i el tg n hu hx
        split at h
        · rename_i o' el' m sz f s k a k' b ht hsz ha hb
          split at h
          · rename_i hq
            rw [beq_iff_eq] at hq
            subst hq
            cases h
            obtain ⟨rfl, hps⟩ := hps
            exact slice_after hI ho hu hx ht hsz ha hb hps.1 hps.2.1
          · cases h
        · cases h
      · exact sxV_after (hs := hs) hI (by rw [ho]; exact h) hps
  case call c =>
    obtain ⟨callee, args, ats⟩ := c
    cases callee with
    | invoke r m => simp only [sxOp] at h; exact sxV_after (hs := hs) hI (by rw [ho]; exact h) hps
    | value f =>
      simp only at h
      split at h
      · exact sxV_after hI (by rw [ho]; exact h) hps
      · rename_i g first captured as hf has hne
        split at h
        · rename_i fn hfn
          split at h
          · rename_i hq
            simp only [Bool.and_eq_true, bne_iff_ne, ne_eq] at hq
            cases h
            have hrun : ∀ θ', TOk θ' l T → (execOp (Act.mk T ds).eval o).run P w = .ok (.enter g (denL θ' (first ++ as ++ captured)).toArray) w := fun θ' hT => by
              have e1 : args.map (Act.mk T ds).eval = (denL θ' as).toArray := by apply Array.ext'; rw [Array.toList_map]; exact evL_den (ds := ds) hT has
              have hb : fn.body.isNone = false := by cases hq' : fn.body <;> simp_all
              simp only [execOp, ho, resolve, ev_den hT hf, den, Deferred.ofValue, Sem.run_bind, Sem.run_pure, Result.andThen_ok, invoke, callFunc, run_program, hfn, e1]
              have hn : (fn.name == "runtime.NumGoroutine") = false := by simpa using hq.2
              rw [hn, hb]
              simp [denL_map]
            obtain ⟨hh0, hT0⟩ := hI.inv θ (SameA.refl _ _)
            refine ⟨denL θ (first ++ as ++ captured), hrun θ hT0, fun θ' hs => ?_⟩
            have h2 := hrun θ' (hI.inv θ' hs).2
            rw [hrun θ hT0] at h2
            injection h2 with h2
            injection h2 with _ h2
            injection h2
          · cases h
        · cases h
      · cases h
    | builtin b =>
      cases b <;> try (simp only [sxOp] at h; exact sxV_after (hs := hs) hI (by rw [ho]; exact h) hps)
      case append =>
        simp only at h
        split at h
        · rename_i s x t t' hargs hats
          have ea : args = #[s, x] := by apply Array.ext'; simpa using hargs
          have et : ats = #[t, t'] := by apply Array.ext'; simpa using hats
          subst ea et
          split at h
          · rename_i el sv tx m f'' hs'' hu hsv hx
            split at h
            · rename_i i ox elx m' sx f' hi htx
              split at h
              · rename_i z hz
                split at h
                · rename_i hq
                  simp only [Bool.and_eq_true, beq_iff_eq, decide_eq_true_eq] at hq
                  obtain ⟨⟨⟨⟨rfl, h1⟩, h2⟩, h3⟩, rfl⟩ := hq
                  split at h
                  · rename_i ts n
                    split at h
                    · rename_i el' n' ss f hts
                      split at h
                      · rename_i hq
                        simp only [Bool.and_eq_true, beq_iff_eq] at hq
                        obtain ⟨rfl, rfl⟩ := hq
                        cases h
                        obtain ⟨rfl, rfl, hps⟩ := hps
                        exact append_after (sx := 0) hI ho hu hi hz h1 h2 h3 hsv hx hts htx hps.1 hps.2.1
                      · cases h
                    · cases h
                  · cases h
                    obtain ⟨rfl, hps⟩ := hps
                    exact append_nil_after (sx := 0) hI ho hu hi hz h1 h2 h3 hsv hx htx hps.1 hps.2.1
                  · cases h
                · cases h
              · cases h
            · cases h
          · cases h
        · cases h

end

end Go.Sx
