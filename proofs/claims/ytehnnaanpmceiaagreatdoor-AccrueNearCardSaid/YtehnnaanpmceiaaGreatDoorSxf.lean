/-
  SX, part 15: a region whose order is open, as a whole.
-/
import Derived.Test.YtehnnaanpmceiaaGreatDoorSxe
set_option linter.unusedVariables false
set_option linter.unusedSimpArgs false
namespace Go.Sx
open Go.RowKit

section
variable {ops : Array Oper} {res : List ERn} {ok no : Nat → Bool}

theorem slotS_length : ∀ (m : Nat) (l : List (Option SV)), (slotS ops res ok no m l).length = l.length
  | 0, l => rfl
  | m + 1, l => by
    simp only [slotS]
    split
    · split
      · exact slotS_length m l
      · simp [slotS_length m l]
    · exact slotS_length m l

theorem slotS_get : ∀ {m : Nat} {l : List (Option SV)} {j : Nat} {v : SV}, (slotS ops res ok no m l)[j]? = some (some v) →
    (∃ q r, q < m ∧ dstOf ops q = some j ∧ j < l.length ∧ ok q = true ∧ res[q]? = some r ∧ r.v = v) ∨ (l[j]? = some (some v) ∧ ∀ q, q < m → no q = false → dstOf ops q ≠ some j)
  | 0, l, j, v, h => .inr ⟨h, fun q hq _ => by omega⟩
  | m + 1, l, j, v, h => by
    simp only [slotS] at h
    split at h
    · rename_i d hd
      split at h
      · rename_i hno
        rcases slotS_get h with ⟨q, r, h1, h2⟩ | ⟨h1, h2⟩
        · exact .inl ⟨q, r, by omega, h2⟩
        · refine .inr ⟨h1, fun q hq hn => ?_⟩
          rcases Nat.lt_or_ge q m with h10 | h10
          · exact h2 q h10 hn
          · rw [show q = m by omega, hno] at hn; cases hn
      · rw [List.getElem?_set] at h
        split at h
        · rename_i he
          subst he
          split at h
          · rename_i hlt
            rw [slotS_length] at hlt
            simp only [Option.some.injEq] at h
            split at h
            · rename_i hok
              cases hr : res[m]? with
              | none => simp [hr] at h
              | some r =>
                simp [hr] at h
                exact .inl ⟨m, r, by omega, hd, hlt, hok, hr, h⟩
            · cases h
          · cases h
        · rename_i he
          rcases slotS_get h with ⟨q, r, h1, h2⟩ | ⟨h1, h2⟩
          · exact .inl ⟨q, r, by omega, h2⟩
          · refine .inr ⟨h1, fun q hq hn => ?_⟩
            rcases Nat.lt_or_ge q m with h10 | h10
            · exact h2 q h10 hn
            · rw [show q = m by omega, hd]; intro e; cases e; exact he rfl
    · rename_i hd
      rcases slotS_get h with ⟨q, r, h1, h2⟩ | ⟨h1, h2⟩
      · exact .inl ⟨q, r, by omega, h2⟩
      · refine .inr ⟨h1, fun q hq hn => ?_⟩
        rcases Nat.lt_or_ge q m with h10 | h10
        · exact h2 q h10 hn
        · rw [show q = m by omega, hd]; simp

theorem heapR_get : ∀ {res : List ERn} {q0 t : Nat} {x : Vw}, (heapR ok q0 res)[t]? = some (some x) → ∃ q r k, res[q]? = some r ∧ ok (q0 + q) = true ∧ r.news[k]? = some x ∧ t = sumN (res.take q) + k
  | [], q0, t, x, h => by simp [heapR] at h
  | r :: rs, q0, t, x, h => by
    simp only [heapR] at h
    by_cases hlt : t < r.news.length
    · rw [List.getElem?_append_left (by simpa using hlt), List.getElem?_map] at h
      rw [List.getElem?_eq_getElem hlt] at h
      simp only [Option.map_some, Option.some.injEq] at h
      split at h
      · rename_i hok
        cases h
        exact ⟨0, r, t, rfl, by simpa using hok, List.getElem?_eq_getElem hlt, by simp [sumN]⟩
      · cases h
    · rw [List.getElem?_append_right (by simpa using hlt)] at h
      simp only [List.length_map] at h
      obtain ⟨q, r', k, h1, h2, h3, h4⟩ := heapR_get h
      refine ⟨q + 1, r', k, by simpa using h1, by rw [← h2]; congr 1; omega, h3, ?_⟩
      simp only [List.take_succ_cons, sumN]
      omega

theorem heapR_length : ∀ (res : List ERn) (q0 : Nat), (heapR ok q0 res).length = sumN res
  | [], _ => rfl
  | r :: rs, q0 => by simp [heapR, sumN, heapR_length rs]

theorem conL_mem : ∀ {res : List ERn} {t : Nat}, t ∈ conL res ↔ ∃ (i : Nat) (r : ERn), res[i]? = some r ∧ r.con = some t
  | [], t => by simp [conL]
  | a :: rs, t => by
    have ih := conL_mem (res := rs) (t := t)
    have hs : (∃ (i : Nat) (r : ERn), (a :: rs)[i]? = some r ∧ r.con = some t) ↔ a.con = some t ∨ ∃ (i : Nat) (r : ERn), rs[i]? = some r ∧ r.con = some t := by
      constructor
      · rintro ⟨i, r, h1, h2⟩
        cases i with
        | zero => simp at h1; subst h1; exact .inl h2
        | succ i => exact .inr ⟨i, r, by simpa using h1, h2⟩
      · rintro (h | ⟨i, r, h1, h2⟩)
        · exact ⟨0, a, rfl, h⟩
        · exact ⟨i + 1, r, by simpa using h1, h2⟩
    rw [hs]
    simp only [conL]
    split
    · rename_i u hu
      rw [List.mem_cons, ih, hu]
      simp only [Option.some.injEq]
      constructor
      · rintro (h | h)
        · exact .inl h.symm
        · exact .inr h
      · rintro (h | h)
        · exact .inl h.symm
        · exact .inr h
    · rename_i hu
      rw [ih, hu]
      simp

theorem mask_length : ∀ (cs : List Nat) (h : List (Option Vw)), (mask cs h).length = h.length
  | [], h => rfl
  | t :: r, h => by rw [mask, mask_length r]; simp

theorem mask_get : ∀ {cs : List Nat} {h : List (Option Vw)} {t : Nat} {x : Vw}, (mask cs h)[t]? = some (some x) → h[t]? = some (some x) ∧ t ∉ cs
  | [], h, t, x, hx => ⟨hx, by simp⟩
  | u :: r, h, t, x, hx => by
    obtain ⟨h1, h2⟩ := mask_get (cs := r) hx
    rw [List.getElem?_set] at h1
    split at h1
    · split at h1
      · cases h1
      · cases h1
    · rename_i hne
      exact ⟨h1, by simp only [List.mem_cons, not_or]; exact ⟨fun e => hne e.symm, h2⟩⟩

theorem heapS_length {hp : List (Option Vw)} : (heapS hp res ok).length = hp.length + sumN res := by simp [heapS, mask_length, heapR_length]

theorem heapS_get {hp : List (Option Vw)} {t : Nat} {x : Vw} (h : (heapS hp res ok)[t]? = some (some x)) : (hp[t]? = some (some x) ∧ t < hp.length) ∨ ∃ q r k, res[q]? = some r ∧ ok q = true ∧ r.news[k]? = some x ∧ t ∉ conL res ∧ t = offs hp.length res q + k := by
  obtain ⟨h, hn⟩ := mask_get h
  rw [List.getElem?_append] at h
  split at h
  · rename_i hlt; exact .inl ⟨h, hlt⟩
  · obtain ⟨q, r, k, h1, h2, h3, h4⟩ := heapR_get h
    exact .inr ⟨q, r, k, h1, by simpa using h2, h3, hn, by unfold offs; omega⟩

theorem conOk_elim {N anc t : Nat} (h : conOk N res anc (some t) = true) : N ≤ t ∧ ∀ q j, q < res.length → j < res.length → offs N res q ≤ t → t < offs N res (q + 1) → (j = q ∨ ∃ r, res[j]? = some r ∧ r.anc.testBit q = true) → anc.testBit j = true := by
  simp only [conOk, Bool.and_eq_true, decide_eq_true_eq] at h
  refine ⟨h.1, fun q j hq hj h1 h2 h3 => ?_⟩
  have h4 := List.all_eq_true.1 h.2 q (List.mem_range.2 hq)
  simp only [Bool.or_eq_true, Bool.not_eq_true', Bool.and_eq_false_iff, decide_eq_false_iff_not] at h4
  rcases h4 with h4 | h4
  · rcases h4 with h4 | h4 <;> omega
  · have h5 := List.all_eq_true.1 h4 j (List.mem_range.2 hj)
    simp only [Bool.or_eq_true, Bool.not_eq_true', Bool.or_eq_false_iff, beq_eq_false_iff_ne] at h5
    rcases h5 with ⟨h5, h6⟩ | h5
    · rcases h3 with h3 | ⟨r, h7, h8⟩
      · exact absurd h3 h5
      · rw [h7] at h6; simp [h8] at h6
    · exact h5

theorem sumN_take_succ : ∀ {res : List ERn} {q : Nat} {r : ERn}, res[q]? = some r → sumN (res.take (q + 1)) = sumN (res.take q) + r.news.length
  | [], q, r, h => by simp at h
  | a :: rs, 0, r, h => by simp at h; subst h; simp [sumN]
  | a :: rs, q + 1, r, h => by
    have := sumN_take_succ (res := rs) (q := q) (r := r) (by simpa using h)
    simp only [List.take_succ_cons, sumN] at this ⊢
    omega

theorem sumN_take_mono : ∀ {res : List ERn} {q q' : Nat}, q ≤ q' → sumN (res.take q) ≤ sumN (res.take q')
  | [], q, q', h => by simp [sumN]
  | a :: rs, 0, q', h => by simp [sumN]
  | a :: rs, q + 1, 0, h => by omega
  | a :: rs, q + 1, q' + 1, h => by
    have := sumN_take_mono (res := rs) (q := q) (q' := q') (by omega)
    simp only [List.take_succ_cons, sumN]
    omega

theorem offs_lt {N q q' k : Nat} {r : ERn} (h : res[q]? = some r) (hk : k < r.news.length) (hq : q < q') : offs N res q + k < offs N res q' := by
  have h1 := sumN_take_succ h
  have h2 := sumN_take_mono (res := res) (q := q + 1) (q' := q') hq
  unfold offs
  omega

theorem testBit_ancOf : ∀ {js : List Nat} {p : Nat}, (ancOf res js).testBit p = true ↔ ∃ j ∈ js, p = j ∨ ∃ r, res[j]? = some r ∧ r.anc.testBit p = true
  | [], p => by simp [ancOf]
  | j :: js, p => by
    simp only [ancOf, Nat.testBit_or, Bool.or_eq_true, testBit_ancOf (js := js), Nat.testBit_two_pow, decide_eq_true_eq, List.mem_cons]
    constructor
    · rintro ((h | h) | ⟨j', h1, h2⟩)
      · exact ⟨j, .inl rfl, .inl h.symm⟩
      · cases hr : res[j]? with
        | none => simp [hr] at h
        | some r => simp [hr] at h; exact ⟨j, .inl rfl, .inr ⟨r, hr, h⟩⟩
      · exact ⟨j', .inr h1, h2⟩
    · rintro ⟨j', rfl | h1, h2⟩
      · rcases h2 with rfl | ⟨r, hr, h⟩
        · exact .inl (.inl rfl)
        · exact .inl (.inr (by simp [hr, h]))
      · exact .inr ⟨j', h1, h2⟩

end

section
variable {P : Program} {gl : List (Nat × Vw)} {ops : Array Oper} {m : Nat} {l : List (Option SV)} {hp : List (Option Vw)}

/-- What the table of the open part says of its i-th operation. -/
def TabAt (P : Program) (gl : List (Nat × Vw)) (ops : Array Oper) (m : Nat) (l : List (Option SV)) (hp : List (Option Vw)) (res : List ERn) (i : Nat) : Prop :=
  ∃ o hs ps hs1 g r, ops[i]? = some o ∧ guardS ops (slotS ops (res.take i) (needsL o).contains (waits ops i) m l) hs o = some (ps, hs1, g) ∧ AllP ps ∧ res[i]? = some r ∧ r.anc = ancOf (res.take i) (needsL o) ∧
    ((g = false ∧ r.v = .tup [] ∧ r.news = [] ∧ r.con = none) ∨
      (g = true ∧ ∃ qs hs', sxE P gl (slotS ops (res.take i) (needsL o).contains (waits ops i) m l) (heapS hp (res.take i) (ancOf (res.take i) (needsL o)).testBit) hs1 o.op = some (qs, hs', r.v, r.news, r.con) ∧ AllP qs ∧ conOk hp.length (res.take i) (ancOf (res.take i) (needsL o)) r.con = true))

theorem evalE_prefix : ∀ {n : Nat} {res r : List ERn} {hs hs' : List Hint} {ps : List Prop}, evalE P gl ops m l hp n res hs = some (ps, hs', r) → ∃ s, r = res ++ s ∧ s.length = n
  | 0, res, r, hs, hs', ps, h => by simp only [evalE, Option.some.injEq, Prod.mk.injEq] at h; exact ⟨[], by rw [← h.2.2]; simp, rfl⟩
  | n + 1, res, r, hs, hs', ps, h => by
    simp only [evalE] at h
    split at h
    · cases h
    · split at h
      · split at h
        · rename_i hx
          cases h
          obtain ⟨s, h1, h2⟩ := evalE_prefix hx
          exact ⟨_, by rw [h1, List.append_assoc], by simp [h2]⟩
        · cases h
      · split at h
        · split at h
          · split at h
            · rename_i hx
              cases h
              obtain ⟨s, h1, h2⟩ := evalE_prefix hx
              exact ⟨_, by rw [h1, List.append_assoc], by simp [h2]⟩
            · cases h
          · cases h
        · cases h
      · cases h

theorem evalE_tab : ∀ {n : Nat} {res r : List ERn} {hs hs' : List Hint} {ps : List Prop}, evalE P gl ops m l hp n res hs = some (ps, hs', r) → AllP ps → ∀ i, res.length ≤ i → i < res.length + n → TabAt P gl ops m l hp r i
  | 0, res, r, hs, hs', ps, h, hps, i, h1, h2 => by omega
  | n + 1, res, r, hs, hs', ps, h, hps, i, h1, h2 => by
    have hpre := evalE_prefix h
    simp only [evalE] at h
    split at h
    · cases h
    · rename_i o ho
      split at h
      · rename_i ps1 hs1 hg
        split at h
        · rename_i qs hs2 r' hx
          simp only [Option.some.injEq, Prod.mk.injEq] at h
          obtain ⟨rfl, -, rfl⟩ := h
          obtain ⟨h3, h4⟩ := AllP_append hps
          obtain ⟨s, hs, -⟩ := evalE_prefix hx
          rcases Nat.eq_or_lt_of_le h1 with rfl | h5
          · have ht : r'.take res.length = res := by rw [hs]; simp
            refine ⟨o, _, ps1, hs1, false, _, ho, by rw [ht]; exact hg, h3, by rw [hs]; simp; rfl, by rw [ht], .inl ⟨rfl, rfl, rfl, rfl⟩⟩
          · exact evalE_tab hx h4 i (by simp; omega) (by simp; omega)
        · cases h
      · rename_i ps1 hs1 hg
        split at h
        · rename_i qs hs2 v news con hop
          split at h
          · rename_i hcon
            split at h
            · rename_i rs hs3 r' hx
              simp only [Option.some.injEq, Prod.mk.injEq] at h
              obtain ⟨rfl, -, rfl⟩ := h
              obtain ⟨h3, h4⟩ := AllP_append hps
              obtain ⟨h5, h6⟩ := AllP_append h4
              obtain ⟨s, hs, -⟩ := evalE_prefix hx
              rcases Nat.eq_or_lt_of_le h1 with rfl | h7
              · have ht : r'.take res.length = res := by rw [hs]; simp
                refine ⟨o, _, ps1, hs1, true, ⟨v, news, ancOf res (needsL o), con⟩, ho, by rw [ht]; exact hg, h3, by rw [hs]; simp, by rw [ht], .inr ⟨rfl, qs, hs2, by rw [ht]; exact hop, h5, by rw [ht]; exact hcon⟩⟩
              · exact evalE_tab hx h6 i (by simp; omega) (by simp; omega)
            · cases h
          · cases h
        · cases h
      · cases h

end

end Go.Sx
