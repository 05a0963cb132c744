/-
  A nil slice, as an empty row.
-/
import Derived.Test.YtgojmodiaffcbaaGreatDoorSC
set_option linter.unusedVariables false
set_option linter.unusedSimpArgs false
namespace Go.Sx
open Go.RowKit
/-- A nil slice is an empty row of the call's own. -/
theorem IsFin.nilsl {X : Cx} {P : Program} {gl : List (Nat × Vw)} {f : FuncId} {hp0 : List (Option Vw)} {el : TypeId} {sz : Nat} {g : Nat → List SV} {e : SV}
    (hX : IsFin X P gl f hp0 (.tup [.sl hp0.length 0, e]) [some (.row true el 0 sz g)]) : IsFin X P gl f hp0 (.tup [.val (.slice none 0 0), e]) [] := by
  obtain ⟨h1, h2, h3, hce, h4, h5, h6, h7, h8⟩ := hX
  refine ⟨h1, h2, h3, hce, h4, h5, h6, h7, fun r w' hb hr => h8 r w' hb ?_⟩
  obtain ⟨nw, hn⟩ := hr
  refine ⟨fun _ => ⟨none, 0, sz⟩, fun θ' hs hk => ?_⟩
  obtain ⟨e1, e2⟩ := hn θ' hs (fun k hk => absurd hk (Nat.not_lt_zero _))
  have eL : θ' hp0.length = ⟨none, 0, sz⟩ := hk 0 Nat.one_pos
  rw [List.append_nil] at e2
  refine ⟨?_, ⟨fun t v hv => ?_, fun t t' v v' hv hv' hne ho hl a a' ha ha' => ?_⟩⟩
  · rw [e1]
    simp only [den, denL, eL]
  · rcases Nat.lt_or_ge t hp0.length with c | c
    · rw [List.getElem?_append_left c] at hv
      exact e2.vw t v hv
    · rw [List.getElem?_append_right c] at hv
      have : t = hp0.length := by
        rcases Nat.eq_or_lt_of_le c with q | q
        · exact q.symm
        · rw [List.getElem?_eq_none (by simp only [List.length_cons, List.length_nil]; omega)] at hv; cases hv
      subst this
      rw [Nat.sub_self] at hv
      simp only [List.getElem?_cons_zero, Option.some.injEq] at hv
      subst hv
      rw [eL]
      exact ⟨rfl, Nat.le_refl _, ⟨.inl rfl, (fun a ha => by cases ha)⟩, fun i hi => absurd hi (Nat.not_lt_zero _), (fun a ha => by cases ha), fun _ => .inl ⟨rfl, rfl⟩⟩
  · have out : ∀ (s : Nat) (u : Vw) (b : _), (hp0 ++ [some (Vw.row true el 0 sz g)])[s]? = some (some u) → (θ' s).base = some b → hp0[s]? = some (some u) := fun s u b hs hb => by
      rcases Nat.lt_or_ge s hp0.length with c | c
      · rwa [List.getElem?_append_left c] at hs
      · exfalso
        have : s = hp0.length := by
          rcases Nat.eq_or_lt_of_le c with q | q
          · exact q.symm
          · rw [List.getElem?_append_right c, List.getElem?_eq_none (by simp only [List.length_cons, List.length_nil]; omega)] at hs; cases hs
        subst this
        rw [eL] at hb; cases hb
    exact e2.ne t t' v v' (out t v a hv ha) (out t' v' a' hv' ha') hne ho hl a a' ha ha'
/-- A nil slice is an empty row of the call's own: the last of the new views. -/
theorem IsFin.nil1 {X : Cx} {P : Program} {gl : List (Nat × Vw)} {f : FuncId} {hp0 new : List (Option Vw)} {el : TypeId} {sz : Nat} {g : Nat → List SV} {res res' : SV}
    (hX : IsFin X P gl f hp0 res (new ++ [some (.row true el 0 sz g)])) (hres : ∀ θ' : Th, θ' (hp0.length + new.length) = ⟨none, 0, sz⟩ → den θ' res' = den θ' res) : IsFin X P gl f hp0 res' new := by
  obtain ⟨h1, h2, h3, hce, h4, h5, h6, h7, h8⟩ := hX
  refine ⟨h1, h2, h3, hce, h4, h5, h6, h7, fun r w' hb hr => h8 r w' hb ?_⟩
  obtain ⟨nw, hn⟩ := hr
  refine ⟨fun k => if k < new.length then nw k else ⟨none, 0, sz⟩, fun θ' hs hk => ?_⟩
  obtain ⟨e1, e2⟩ := hn θ' hs (fun k hk' => (hk k (by rw [List.length_append]; show k < new.length + 1; omega)).trans (if_pos hk'))
  have eL : θ' (hp0.length + new.length) = ⟨none, 0, sz⟩ := (hk new.length (by rw [List.length_append]; show new.length < new.length + 1; omega)).trans (if_neg (Nat.lt_irrefl _))
  rw [← List.append_assoc]
  have hL : (hp0 ++ new).length = hp0.length + new.length := List.length_append
  refine ⟨?_, ⟨fun t v hv => ?_, fun t t' v v' hv hv' hne ho hl a a' ha ha' => ?_⟩⟩
  · rw [e1, hres θ' eL]
  · rcases Nat.lt_or_ge t (hp0 ++ new).length with c | c
    · rw [List.getElem?_append_left c] at hv
      exact e2.vw t v hv
    · rw [List.getElem?_append_right c] at hv
      have : t = (hp0 ++ new).length := by
        rcases Nat.eq_or_lt_of_le c with q | q
        · exact q.symm
        · rw [List.getElem?_eq_none (by simp only [List.length_cons, List.length_nil]; omega)] at hv; cases hv
      subst this
      rw [Nat.sub_self] at hv
      simp only [List.getElem?_cons_zero, Option.some.injEq] at hv
      subst hv
      rw [hL, eL]
      exact ⟨rfl, Nat.le_refl _, ⟨.inl rfl, (fun a ha => by cases ha)⟩, fun i hi => absurd hi (Nat.not_lt_zero _), (fun a ha => by cases ha), fun _ => .inl ⟨rfl, rfl⟩⟩
  · have out : ∀ (s : Nat) (u : Vw) (b : _), ((hp0 ++ new) ++ [some (Vw.row true el 0 sz g)])[s]? = some (some u) → (θ' s).base = some b → (hp0 ++ new)[s]? = some (some u) := fun s u b hs hb => by
      rcases Nat.lt_or_ge s (hp0 ++ new).length with c | c
      · rwa [List.getElem?_append_left c] at hs
      · exfalso
        have : s = (hp0 ++ new).length := by
          rcases Nat.eq_or_lt_of_le c with q | q
          · exact q.symm
          · rw [List.getElem?_append_right c, List.getElem?_eq_none (by simp only [List.length_cons, List.length_nil]; omega)] at hs; cases hs
        subst this
        rw [hL, eL] at hb; cases hb
    exact e2.ne t t' v v' (out t v a hv ha) (out t' v' a' hv' ha') hne ho hl a a' ha ha'
end Go.Sx
