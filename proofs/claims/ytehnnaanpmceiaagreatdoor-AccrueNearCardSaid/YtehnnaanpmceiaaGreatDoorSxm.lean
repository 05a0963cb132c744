/-
  SX: maps of numbers.
-/
import Derived.Test.YtehnnaanpmceiaaGreatDoorSx0
import Derived.MapKept
set_option linter.unusedVariables false
set_option linter.unusedSimpArgs false
namespace Go.Sx
open Go.RowKit Go.MapKept

section
variable {P : Program} {w : World} {es : Array MapEntry} {c b : Nat} {k v : IntKind} {f : Int → Int} {st : List (Int × Int)} {t kt et : TypeId}

theorem mlook_none {a : Int} : ∀ {l : List MapEntry}, (∀ e ∈ l, ∃ a x, e.key = .int k a ∧ e.val = .int v x) → (∀ e ∈ l, e.key ≠ .int k a) → mlook a l = none
  | [], _, _ => rfl
  | e :: r, h, hn => by
    obtain ⟨b, x, h1, h2⟩ := h e (.head _)
    have h3 := hn e (.head _)
    obtain ⟨ke, ve, bn⟩ := e
    simp only at h1 h2 h3
    subst h1 h2
    have hb : b ≠ a := fun e => h3 (by rw [e])
    rw [mlook, if_neg hb]
    exact mlook_none (fun e he => h e (.tail _ he)) (fun e he => hn e (.tail _ he))

theorem mlook_some {a x : Int} {e : MapEntry} : ∀ {l : List MapEntry}, (∀ e ∈ l, ∃ a x, e.key = .int k a ∧ e.val = .int v x) → (l.map (·.key)).Nodup → e ∈ l → e.key = .int k a → e.val = .int v x → mlook a l = some x
  | [], _, _, h, _, _ => by cases h
  | e' :: r, h, hn, hm, hk, hv => by
    obtain ⟨b, y, h1, h2⟩ := h e' (.head _)
    rw [List.map_cons, List.nodup_cons] at hn
    rcases List.mem_cons.1 hm with rfl | hm
    · obtain ⟨ke, ve, bn⟩ := e
      simp only at hk hv
      subst hk hv
      rw [mlook, if_pos rfl]
    · have hb : b ≠ a := by
        intro hb
        subst hb
        exact hn.1 (by rw [h1, ← hk]; exact List.mem_map.2 ⟨e, hm, rfl⟩)
      have ih := mlook_some (fun e he => h e (.tail _ he)) hn.2 hm hk hv
      obtain ⟨ke, ve, bn⟩ := e'
      simp only at h1 h2
      subst h1 h2
      rw [mlook, if_neg hb]
      exact ih

theorem keysOf (h : ∀ e ∈ es.toList, ∃ a x, e.key = .int k a ∧ e.val = .int v x) : ∀ x ∈ es.toList, IsKey (.int k) x.key := fun e he => by
  obtain ⟨a, x, h1, -⟩ := h e he
  rw [h1]; rfl

/-- What lies in an empty map. -/
theorem mapIn_empty : MapIn #[] 0 k v (fun _ => 0) [] := ⟨MapKept.stamped_empty 0, by simp, fun a => rfl, by simp⟩

theorem lookup_run {a : Int} (hm : P.underlying t = some (.map kt et)) (hd : P.underlying kt = some (.int k)) (hz : (P.info? et).bind (·.zero) = some (.int v 0)) (hb : w.heap[b]? = some (.map es c)) (h : MapIn es c k v f st) :
    (Instr.lookup t (.map (some b)) (.int k a) false).run P w = .ok (.int v (f a)) w := by
  obtain ⟨hs, h1, h2, -⟩ := h
  have hka : IsKey (.int k) (.int k a) := rfl
  rcases MapKept.findNow_spec hka es.toList 0 (keysOf h1) with ⟨e1, e2⟩ | ⟨j, e, e1, e2, e3⟩
  · have hf : f a = 0 := by rw [← h2 a, mlook_none h1 e2]; rfl
    obtain ⟨i, hi, hi2⟩ := Option.bind_eq_some_iff.1 hz
    simp only [Instr.lookup, Sem.run_bind, run_underlying hm, MapKept.run_getObj_map hb, Sem.run_pure, MapKept.run_checkKey hd hka, MapKept.run_findKey hd e1, Result.andThen_ok, zeroValue, typeInfo, run_program, hi, hi2, hf, Bool.false_eq_true, if_false]
  · have hmem : e ∈ es.toList := List.mem_of_getElem? e2
    obtain ⟨a', x, g1, g2⟩ := h1 e hmem
    have hf : f a = x := by rw [← h2 a, mlook_some h1 hs.2.2 hmem e3 g2]; rfl
    simp only [Instr.lookup, Sem.run_bind, run_underlying hm, MapKept.run_getObj_map hb, Sem.run_pure, MapKept.run_checkKey hd hka, MapKept.run_findKey hd e1, Result.andThen_ok, g2, hf, Bool.false_eq_true, if_false]

theorem mlook_append {a : Int} {r : List MapEntry} : ∀ {l : List MapEntry}, (∀ e ∈ l, ∃ a x, e.key = .int k a ∧ e.val = .int v x) → mlook a (l ++ r) = (mlook a l).or (mlook a r)
  | [], _ => rfl
  | e :: l, h => by
    obtain ⟨b, x, h1, h2⟩ := h e (.head _)
    obtain ⟨ke, ve, bn⟩ := e
    simp only at h1 h2
    subst h1 h2
    show mlook a (_ :: (l ++ r)) = _
    by_cases hb : b = a
    · rw [mlook, if_pos hb, mlook, if_pos hb]; rfl
    · rw [mlook, if_neg hb, mlook, if_neg hb]
      exact mlook_append (fun e he => h e (.tail _ he))

/-- An entry is asked for that is to be written: it has a stamp. -/
theorem mapEntry_run {a : Int} (hm : P.underlying t = some (.map kt et)) (hd : P.underlying kt = some (.int k)) (hz : (P.info? et).bind (·.zero) = some (.int v 0)) (hb : w.heap[b]? = some (.map es c)) (h : MapIn es c k v f st) :
    ∃ (s : Nat) (es' : Array MapEntry) (c' : Nat), (Instr.mapEntry t (.map (some b)) (.int k a)).run P w = .ok (.tuple #[.int v (f a), .int .i64 (s : Int)]) { w with heap := w.heap.setIfInBounds b (.map es' c') } ∧ MapIn es' c' k v f (((s : Int), a) :: st) := by
  obtain ⟨hs, h1, h2, h3⟩ := h
  have hka : IsKey (.int k) (.int k a) := rfl
  rcases MapKept.findNow_spec hka es.toList 0 (keysOf h1) with ⟨e1, e2⟩ | ⟨j, e, e1, e2, e3⟩
  · have hf : f a = 0 := by rw [← h2 a, mlook_none h1 e2]; rfl
    obtain ⟨i, hi, hi2⟩ := Option.bind_eq_some_iff.1 hz
    refine ⟨c, es.push { key := .int k a, val := .int v 0, born := c }, c + 1, ?_, MapKept.stamped_push hs e2, fun e he => ?_, fun a' => ?_, fun p hp => ?_⟩
    · simp [Instr.mapEntry, run_underlying hm, MapKept.run_getObj_map hb, MapKept.run_checkKey hd hka, MapKept.run_findKey hd e1, MapKept.run_setObj_map _ hb, Result.andThen, zeroValue, typeInfo, hi, hi2, hf, goInt]
    · rw [Array.toList_push, List.mem_append, List.mem_singleton] at he
      rcases he with he | rfl
      · exact h1 e he
      · exact ⟨a, 0, rfl, rfl⟩
    · rw [Array.toList_push, mlook_append h1]
      have := h2 a'
      cases hq : mlook a' es.toList with
      | some x => rw [hq] at this; exact this
      | none =>
        rw [hq] at this
        have h0 : f a' = 0 := this.symm
        rw [h0]
        show (mlook a' [_]).getD 0 = 0
        rw [mlook]
        split <;> rfl
    · rcases List.mem_cons.1 hp with rfl | hp
      · exact ⟨_, by rw [Array.toList_push]; exact List.mem_append_right _ (.head _), rfl, rfl⟩
      · obtain ⟨e, he, g1, g2⟩ := h3 p hp
        exact ⟨e, by rw [Array.toList_push]; exact List.mem_append_left _ he, g1, g2⟩
  · have hmem : e ∈ es.toList := List.mem_of_getElem? e2
    have hj : es[j]? = some e := by simpa using e2
    obtain ⟨a', x, g1, g2⟩ := h1 e hmem
    have hf : f a = x := by rw [← h2 a, mlook_some h1 hs.2.2 hmem e3 g2]; rfl
    have hsame : es.modify j (fun e => { e with key := .int k a }) = es := by
      apply Array.ext_getElem?
      intro i
      rw [Array.getElem?_modify]
      split
      · rename_i hij
        subst hij
        rw [hj]
        simp only [Option.map_some, Option.some.injEq]
        obtain ⟨ke, ve, bn⟩ := e
        simp only at e3
        subst e3
        rfl
      · rfl
    refine ⟨e.born, es, c, ?_, hs, h1, h2, fun p hp => ?_⟩
    · simp [Instr.mapEntry, run_underlying hm, MapKept.run_getObj_map hb, MapKept.run_checkKey hd hka, MapKept.run_findKey hd e1, hj, e3, MapKept.run_keyThatStays hka, MapKept.run_setObj_map _ hb, Result.andThen, hsame, g2, hf, goInt]
    · rcases List.mem_cons.1 hp with rfl | hp
      · exact ⟨e, hmem, rfl, e3⟩
      · exact h3 p hp

theorem mlook_mem {a x : Int} : ∀ {l : List MapEntry}, (∀ e ∈ l, ∃ a x, e.key = .int k a ∧ e.val = .int v x) → mlook a l = some x → ∃ e ∈ l, e.key = .int k a ∧ e.val = .int v x
  | [], _, h => by cases h
  | e :: r, h, hm => by
    obtain ⟨b, y, h1, h2⟩ := h e (.head _)
    obtain ⟨ke, ve, bn⟩ := e
    simp only at h1 h2
    subst h1 h2
    rw [mlook] at hm
    split at hm
    · rename_i hb
      subst hb
      cases hm
      exact ⟨_, .head _, rfl, rfl⟩
    · obtain ⟨e, he, g⟩ := mlook_mem (fun e he => h e (.tail _ he)) hm
      exact ⟨e, .tail _ he, g⟩

/-- An entry is written by its stamp. -/
theorem entryStore_run {s a x : Int} (hb : w.heap[b]? = some (.map es c)) (h : MapIn es c k v f ((s, a) :: st)) :
    ∃ (es' : Array MapEntry), (Instr.entryStore t (.map (some b)) (.int .i64 s) (.int v x)).run P w = .ok () { w with heap := w.heap.setIfInBounds b (.map es' c) } ∧ MapIn es' c k v (fun a' => if a' = a then x else f a') ((s, a) :: st) := by
  obtain ⟨hs, h1, h2, h3⟩ := h
  obtain ⟨e, he, g1, g2⟩ := h3 _ (.head _)
  simp only at g1 g2
  obtain ⟨j, hj⟩ := List.mem_iff_getElem?.1 he
  have hj0 : es[j]? = some e := by simpa using hj
  have hborn : ∀ i e', es[i]? = some e' → e'.born = e.born → i = j := by
    intro i e' hi hbe
    have h1 : (es.toList.map (·.born))[i]? = some e.born := by simp [hi, hbe]
    have h2 : (es.toList.map (·.born))[j]? = some e.born := by simp [hj0]
    exact (List.getElem?_inj (List.getElem?_eq_some_iff.1 h1).1 hs.2.1).1 (h1.trans h2.symm)
  have hidx : es.findIdx? (fun e => (e.born : Int) == s) = some j := by
    rw [Array.findIdx?_eq_some_iff_getElem]
    obtain ⟨hlt, hje⟩ := Array.getElem?_eq_some_iff.1 hj0
    refine ⟨hlt, by rw [hje]; simp [g1], fun i hi => ?_⟩
    simp only [Bool.not_eq_true, beq_eq_false_iff_ne, ne_eq]
    intro hii
    have := hborn i _ (Array.getElem?_eq_getElem (by omega)) (by omega)
    omega
  have hj' : es[j]? = some e := by simpa using hj
  have hmod : ∀ i, (es.modify j fun e => { e with val := .int v x })[i]? = if j = i then (es[i]?).map (fun e => { e with val := .int v x }) else es[i]? := fun i => Array.getElem?_modify
  have hall : ∀ e' ∈ (es.modify j fun e => { e with val := .int v x }).toList, ∃ a x, e'.key = .int k a ∧ e'.val = .int v x := by
    intro e' he'
    obtain ⟨i, hi⟩ := List.mem_iff_getElem?.1 he'
    rw [Array.getElem?_toList, hmod] at hi
    split at hi
    · rename_i hij
      subst hij
      rw [hj'] at hi
      cases hi
      exact ⟨a, x, g2, rfl⟩
    · exact h1 e' (by rw [← Array.getElem?_toList] at hi; exact List.mem_of_getElem? hi)
  have hst := MapKept.stamped_modify hs j (fun e => { e with val := .int v x }) (fun _ _ => rfl) (fun _ _ _ => rfl)
  refine ⟨es.modify j fun e => { e with val := .int v x }, ?_, hst, hall, fun a' => ?_, fun p hp => ?_⟩
  · simp [Instr.entryStore, MapKept.run_getObj_map hb, hidx, MapKept.run_setObj_map _ hb, Result.andThen, asInt, asIntOf]
  · show _ = if a' = a then x else f a'
    by_cases ha : a' = a
    · subst ha
      rw [if_pos rfl]
      have hmem : ({ e with val := .int v x } : MapEntry) ∈ (es.modify j fun e => { e with val := .int v x }).toList := by
        refine List.mem_of_getElem? (i := j) ?_
        rw [Array.getElem?_toList, hmod, if_pos rfl, hj']; rfl
      rw [mlook_some hall hst.2.2 hmem g2 rfl]; rfl
    · rw [if_neg ha, ← h2 a']
      cases hq : mlook a' es.toList with
      | some y =>
        obtain ⟨e', he', k1, k2⟩ := mlook_mem h1 hq
        obtain ⟨i, hi⟩ := List.mem_iff_getElem?.1 he'
        have hij : j ≠ i := by
          intro hij
          subst hij
          rw [hj] at hi
          cases hi
          rw [g2] at k1
          injection k1 with _ k1
          exact ha k1.symm
        have hmem : e' ∈ (es.modify j fun e => { e with val := .int v x }).toList := by
          refine List.mem_of_getElem? (i := i) ?_
          rw [Array.getElem?_toList, hmod, if_neg hij, ← Array.getElem?_toList]; exact hi
        rw [mlook_some hall hst.2.2 hmem k1 k2]
      | none =>
        cases hq' : mlook a' (es.modify j fun e => { e with val := .int v x }).toList with
        | none => rfl
        | some y =>
          obtain ⟨e', he', k1, k2⟩ := mlook_mem hall hq'
          obtain ⟨i, hi⟩ := List.mem_iff_getElem?.1 he'
          rw [Array.getElem?_toList, hmod] at hi
          split at hi
          · rename_i hij
            subst hij
            rw [hj'] at hi
            cases hi
            simp only at k1
            rw [g2] at k1
            injection k1 with _ k1
            exact absurd k1.symm ha
          · rw [← Array.getElem?_toList] at hi
            have := mlook_some h1 hs.2.2 (List.mem_of_getElem? hi) k1 k2
            rw [hq] at this; cases this
  · obtain ⟨e', he', k1, k2⟩ := h3 p hp
    obtain ⟨i, hi⟩ := List.mem_iff_getElem?.1 he'
    by_cases hij : j = i
    · subst hij
      rw [hj] at hi
      cases hi
      refine ⟨{ e with val := .int v x }, List.mem_of_getElem? (i := j) ?_, k1, k2⟩
      rw [Array.getElem?_toList, hmod, if_pos rfl, hj']; rfl
    · refine ⟨e', List.mem_of_getElem? (i := i) ?_, k1, k2⟩
      rw [Array.getElem?_toList, hmod, if_neg hij, ← Array.getElem?_toList]; exact hi

/-- A map is written. -/
theorem mapUpdate_run {a x : Int} (hm : P.underlying t = some (.map kt et)) (hd : P.underlying kt = some (.int k)) (hb : w.heap[b]? = some (.map es c)) (h : MapIn es c k v f st) :
    ∃ (es' : Array MapEntry) (c' : Nat), (Instr.mapUpdate t (.map (some b)) (.int k a) (.int v x)).run P w = .ok () { w with heap := w.heap.setIfInBounds b (.map es' c') } ∧ MapIn es' c' k v (fun a' => if a' = a then x else f a') [] := by
  obtain ⟨hs, h1, h2, h3⟩ := h
  have hka : IsKey (.int k) (.int k a) := rfl
  rcases MapKept.findNow_spec hka es.toList 0 (keysOf h1) with ⟨e1, e2⟩ | ⟨j, e, e1, e2, e3⟩
  · refine ⟨es.push { key := .int k a, val := .int v x, born := c }, c + 1, ?_, MapKept.stamped_push hs e2, fun e he => ?_, fun a' => ?_, fun p hp => by cases hp⟩
    · simp [Instr.mapUpdate, run_underlying hm, MapKept.run_getObj_map hb, MapKept.run_checkKey hd hka, MapKept.run_findKey hd e1, MapKept.run_setObj_map _ hb, Result.andThen]
    · rw [Array.toList_push, List.mem_append, List.mem_singleton] at he
      rcases he with he | rfl
      · exact h1 e he
      · exact ⟨a, x, rfl, rfl⟩
    · rw [Array.toList_push, mlook_append h1]
      have := h2 a'
      show _ = if a' = a then x else f a'
      by_cases ha : a' = a
      · subst ha
        rw [if_pos rfl, mlook_none h1 e2]
        show (mlook a' [_]).getD 0 = x
        rw [mlook, if_pos rfl]; rfl
      · rw [if_neg ha, ← this]
        cases hq : mlook a' es.toList with
        | some y => rfl
        | none =>
          show (mlook a' [_]).getD 0 = 0
          rw [mlook, if_neg (fun e => ha e.symm)]; rfl
  · have hmem : e ∈ es.toList := List.mem_of_getElem? e2
    have hj : es[j]? = some e := by simpa using e2
    have hall : ∀ e' ∈ (es.modify j fun e => { e with key := .int k a, val := .int v x }).toList, ∃ a x, e'.key = .int k a ∧ e'.val = .int v x := by
      intro e' he'
      obtain ⟨i, hi⟩ := List.mem_iff_getElem?.1 he'
      rw [Array.getElem?_toList, Array.getElem?_modify] at hi
      split at hi
      · rename_i hij
        subst hij
        rw [hj] at hi
        cases hi
        exact ⟨a, x, rfl, rfl⟩
      · exact h1 e' (by rw [← Array.getElem?_toList] at hi; exact List.mem_of_getElem? hi)
    have hst := MapKept.stamped_modify hs j (fun e => { e with key := .int k a, val := .int v x }) (fun _ _ => rfl) (fun e' _ he' => by rw [hj] at he'; cases he'; exact e3.symm)
    refine ⟨es.modify j fun e => { e with key := .int k a, val := .int v x }, c, ?_, hst, hall, fun a' => ?_, fun p hp => by cases hp⟩
    · simp [Instr.mapUpdate, run_underlying hm, MapKept.run_getObj_map hb, MapKept.run_checkKey hd hka, MapKept.run_findKey hd e1, hj, e3, MapKept.run_keyThatStays hka, MapKept.run_setObj_map _ hb, Result.andThen]
    · show _ = if a' = a then x else f a'
      by_cases ha : a' = a
      · subst ha
        rw [if_pos rfl]
        have hmem2 : ({ e with key := .int k a', val := .int v x } : MapEntry) ∈ (es.modify j fun e => { e with key := .int k a', val := .int v x }).toList := by
          refine List.mem_of_getElem? (i := j) ?_
          rw [Array.getElem?_toList, Array.getElem?_modify, if_pos rfl, hj]; rfl
        rw [mlook_some hall hst.2.2 hmem2 rfl rfl]; rfl
      · rw [if_neg ha, ← h2 a']
        cases hq : mlook a' es.toList with
        | some y =>
          obtain ⟨e', he', k1, k2⟩ := mlook_mem h1 hq
          obtain ⟨i, hi⟩ := List.mem_iff_getElem?.1 he'
          have hij : j ≠ i := by
            intro hij
            subst hij
            rw [e2] at hi
            cases hi
            rw [e3] at k1
            injection k1 with _ k1
            exact ha k1.symm
          have hmem2 : e' ∈ (es.modify j fun e => { e with key := .int k a, val := .int v x }).toList := by
            refine List.mem_of_getElem? (i := i) ?_
            rw [Array.getElem?_toList, Array.getElem?_modify, if_neg hij, ← Array.getElem?_toList]; exact hi
          rw [mlook_some hall hst.2.2 hmem2 k1 k2]
        | none =>
          cases hq' : mlook a' (es.modify j fun e => { e with key := .int k a, val := .int v x }).toList with
          | none => rfl
          | some y =>
            obtain ⟨e', he', k1, k2⟩ := mlook_mem hall hq'
            obtain ⟨i, hi⟩ := List.mem_iff_getElem?.1 he'
            rw [Array.getElem?_toList, Array.getElem?_modify] at hi
            split at hi
            · rename_i hij
              subst hij
              rw [hj] at hi
              cases hi
              simp only at k1
              injection k1 with _ k1
              exact absurd k1.symm ha
            · rw [← Array.getElem?_toList] at hi
              have := mlook_some h1 hs.2.2 (List.mem_of_getElem? hi) k1 k2
              rw [hq] at this; cases this

end
end Go.Sx
