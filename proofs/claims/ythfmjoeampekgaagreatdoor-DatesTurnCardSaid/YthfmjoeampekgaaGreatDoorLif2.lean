/-
  A slice of fractions, as a view.
-/
import Derived.Test.YthfmjoeampekgaaGreatDoorLift
import Derived.Deep.SlicePairs
set_option linter.unusedVariables false
set_option linter.unusedSimpArgs false
set_option maxRecDepth 100000
namespace Go.Proofs.YthfmjoeampekgaaGreatDoor
open Go Go.Sx Go.Deep Go.ChangeShapes Go.WideShapes Go.ChangeAt Go.RowKit

section
variable {H : Type} {enc : TypeId × Value → H} {P : Program} {w : World} {base : Nat} {spare : Nat → Bool} {held : Bool}

theorem trod_i64 {u : TypeId} {n : Nat} {v : Value} {y : DataW H × List MemPlace} (hu : P.underlying u = some (.int .i64)) (h : DataW.trod enc P w base spare held n u [v] = some y) : ∃ z, v = .int .i64 z := by
  cases n with
  | zero => simp [DataW.trod] at h
  | succ n =>
    unfold DataW.trod at h
    rw [hu] at h
    cases v <;> simp only at h <;> first | (cases h; done) | skip
    split at h
    · rename_i c; exact ⟨_, by rw [c.1]⟩
    · cases h

theorem cell_pairs {b0 B : Nat} {u e : TypeId} {f0 f1 : Field} {x : Value} {n : Nat} {y : DataW H × List MemPlace} (hu : P.underlying u = some (.slice e)) (he : P.underlying e = some (.struct #[f0, f1]))
    (ce : P.cellsOf e = 2) (o0 : f0.offset = 0) (o1 : f1.offset = 1) (c0 : P.cellsOf f0.type = 1) (c1 : P.cellsOf f1.type = 1) (u0 : P.underlying f0.type = some (.int .i64)) (u1 : P.underlying f1.type = some (.int .i64)) (h : Cell.okWide P w .any b0 u x)
    (ht : DataW.trod enc P w base spare held n u [x] = some y) :
    ∃ (m : Nat) (g k : Nat → Int) (d : Ad), x = den (fun _ => d) (.sl 0 m) ∧ HpOk (fun _ => d) B [some (.row false e m 2 (fun i => [I (g i), I (k i)]))] w := by
  have hok : ∀ {d : Ad} {m : Nat} {g k : Nat → Int}, d.sz = 2 → m ≤ d.cap → (m = 0 ∨ ∃ a, d.base = some a) → (∀ a, d.base = some a → a.spot = none) → (∀ a, d.base = some a → ∀ i, i < m → w.cell? (at_ a (i * 2)) = some (.int .i64 (g i)) ∧ w.cell? (at_ a (i * 2 + 1)) = some (.int .i64 (k i))) →
      HpOk (fun _ => d) B [some (.row false e m 2 (fun i => [I (g i), I (k i)]))] w := by
    intro d m g k h1 h2 h3 h4 h5
    refine ⟨fun t v hv => ?_, fun t t' v v' hv hv' hne ho => ?_⟩
    · cases t with
      | zero =>
        simp at hv; subst hv
        refine ⟨h1, h2, ⟨h3, h4⟩, fun i hi => ⟨rfl, rfl⟩, fun a ha i hi k v hk => ?_, fun h => by cases h⟩
        match k, hk with
        | 0, hk => simp at hk; subst hk; exact (h5 a ha i hi).1
        | 1, hk => simp at hk; subst hk; exact (h5 a ha i hi).2
        | k + 2, hk => simp at hk
      | succ t => simp at hv
    · cases t with
      | zero => simp at hv; subst hv; cases ho
      | succ t => simp at hv
  rcases open_slice_pairs hu he ce o0 o1 c0 c1 ht with ⟨h1, -⟩ | ⟨a, len, cap, m, n, V0, V1, D0, D1, P0, P1, h1, -, h3, -, h5, -, h7⟩
  · cases h1
    exact ⟨0, fun _ => 0, fun _ => 0, ⟨none, 0, 2⟩, rfl, hok rfl (Nat.le_refl _) (.inl rfl) (fun a ha => by cases ha) (fun a ha => by cases ha)⟩
  · cases h1
    have hsp : a.spot = none := by
      unfold Cell.okWide at h
      rw [hu] at h
      simp only at h
      unfold Cell.ok at h
      rw [hu] at h
      exact h.2.2.2.1
    have hlen : len ≤ m := by rw [h5]; split <;> omega
    have num : ∀ v : Value, (∃ z, v = .int .i64 z) → v = .int .i64 (match v with | .int _ z => z | _ => 0) := by
      rintro v ⟨z, rfl⟩; rfl
    have hat : ∀ j, a.add j = at_ a j := by
      intro j
      obtain ⟨b, o, s⟩ := a
      simp only at hsp
      subst hsp
      by_cases hi0 : j = 0 <;> simp [at_, Addr.add, hi0]
    refine ⟨len, fun i => (match V0 i with | .int _ z => z | _ => 0), fun i => (match V1 i with | .int _ z => z | _ => 0), ⟨some a, cap, 2⟩, rfl, hok rfl h3 (.inr ⟨a, rfl⟩) (fun b hb => by cases hb; exact hsp) (fun b hb i hi => ?_)⟩
    cases hb
    obtain ⟨q1, q2, q3, q4⟩ := h7 i (by omega)
    rw [hat] at q1 q2
    rw [q1, q2]
    exact ⟨congrArg some (num _ (trod_i64 u0 q3)), congrArg some (num _ (trod_i64 u1 q4))⟩

theorem rats_any {d : Ad} {B n : Nat} {e : TypeId} {g k : Nat → Int} (θ θ' : Th) (h : VwOk θ B w d (.row false e n 2 (fun i => [I (g i), I (k i)]))) : VwOk θ' B w d (.row false e n 2 (fun i => [I (g i), I (k i)])) := by
  obtain ⟨h1, h2, h3, h4, h5, h6⟩ := h
  refine ⟨h1, h2, h3, h4, fun a ha i hi k v hk => ?_, fun h => by cases h⟩
  have := h5 a ha i hi k v hk
  match k, hk with
  | 0, hk => simp at hk; subst hk; exact this
  | 1, hk => simp at hk; subst hk; exact this
  | k + 2, hk => simp at hk
end
end Go.Proofs.YthfmjoeampekgaaGreatDoor
