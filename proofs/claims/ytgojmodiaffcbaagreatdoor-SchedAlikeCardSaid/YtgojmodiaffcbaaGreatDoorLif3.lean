/-
  A slice of structs of numbers, as a view.
-/
import Derived.Test.YtgojmodiaffcbaaGreatDoorLifT
import Derived.Deep.Slices
set_option linter.unusedVariables false
set_option linter.unusedSimpArgs false
set_option maxRecDepth 100000
namespace Go.Proofs.YtgojmodiaffcbaaGreatDoor
open Go Go.Sx Go.Deep Go.ChangeShapes Go.WideShapes Go.ChangeAt Go.RowKit
section
variable {H : Type} {enc : TypeId × Value → H} {P : Program} {w : World} {base : Nat} {spare : Nat → Bool} {held : Bool}
/-- A cell's number. -/
def numAt (w : World) (a : Addr) : Int := match w.cell? a with
  | some (.int _ z) => z
  | _ => 0
theorem cell_recs {b0 B : Nat} {u e : TypeId} {fs : Array Field} {K : Nat} {x : Value} {n : Nat} {y : DataW H × List MemPlace} (hu : P.underlying u = some (.slice e)) (he : P.underlying e = some (.struct fs)) (ce : P.cellsOf e = K)
    (hF : ∀ j, j < K → ∃ f, fs[j]? = some f ∧ f.offset = j ∧ P.cellsOf f.type = 1 ∧ P.underlying f.type = some (.int .i64)) (h : Cell.okWide P w .any b0 u x)
    (ht : DataW.trod enc P w base spare held n u [x] = some y) :
    ∃ (m : Nat) (g : Nat → Nat → Int) (d : Ad), x = den (fun _ => d) (.sl 0 m) ∧ HpOk (fun _ => d) B [some (.row false e m K (fun i => (List.range K).map fun j => I (g j i)))] w := by
  have hok : ∀ {d : Ad} {m : Nat} {g : Nat → Nat → Int}, d.sz = K → m ≤ d.cap → (m = 0 ∨ ∃ a, d.base = some a) → (∀ a, d.base = some a → a.spot = none) → (∀ a, d.base = some a → ∀ i, i < m → ∀ j, j < K → w.cell? (at_ a (i * K + j)) = some (.int .i64 (g j i))) →
      HpOk (fun _ => d) B [some (.row false e m K (fun i => (List.range K).map fun j => I (g j i)))] w := by
    intro d m g h1 h2 h3 h4 h5
    refine ⟨fun t v hv => ?_, fun t t' v v' hv hv' hne ho => ?_⟩
    · cases t with
      | zero =>
        simp at hv; subst hv
        refine ⟨h1, h2, ⟨h3, h4⟩, fun i hi => ⟨by simp, ?_⟩, fun a ha i hi k v hk => ?_, fun h => by cases h⟩
        · rw [List.all_eq_true]
          intro q hq
          obtain ⟨j, -, rfl⟩ := List.mem_map.1 hq
          rfl
        · have hkk : k < K := by
            have := (List.getElem?_eq_some_iff.1 hk).1
            simpa using this
          have hv : v = I (g k i) := by
            rw [List.getElem?_map, List.getElem?_range hkk] at hk
            exact (Option.some.inj hk).symm
          subst hv
          exact h5 a ha i hi k hkk
      | succ t => simp at hv
    · cases t with
      | zero => simp at hv; subst hv; cases ho
      | succ t => simp at hv
  rcases open_slice hu ht with ⟨h1, -⟩ | ⟨a, len, cap, m, n', D, Pl, h1, -, h3, -, h5, -, h7⟩
  · cases h1
    exact ⟨0, fun _ _ => 0, ⟨none, 0, K⟩, rfl, hok rfl (Nat.le_refl _) (.inl rfl) (fun a ha => by cases ha) (fun a ha => by cases ha)⟩
  · cases h1
    have hsp : a.spot = none := by
      unfold Cell.okWide at h
      rw [hu] at h
      simp only at h
      unfold Cell.ok at h
      rw [hu] at h
      exact h.2.2.2.1
    have hlen : len ≤ m := by rw [h5]; split <;> omega
    have hat : ∀ j, a.add j = at_ a j := by
      intro j
      obtain ⟨b, o, s⟩ := a
      simp only at hsp
      subst hsp
      by_cases hi0 : j = 0 <;> simp [at_, Addr.add, hi0]
    have key : ∀ i, i < m → ∀ j, j < K → ∃ z, w.cell? (at_ a (i * K + j)) = some (.int .i64 z) := by
      intro i hi j hj
      obtain ⟨cs', e1, e2⟩ := h7 i hi
      rw [ce] at e1
      obtain ⟨_, hl, hc⟩ := World.cells?_some e1
      obtain ⟨f, f1, f2, f3, f4⟩ := hF j hj
      have hj2 : j < cs'.length := by rw [hl]; exact hj
      obtain ⟨n2, y2, t2⟩ := trod_field he e2 j f1 f3 (ds := [cs'[j]]) (by rw [f2, List.drop_eq_getElem_cons hj2]; rfl)
      obtain ⟨z, hz⟩ := trod_i64 f4 t2
      have hc2 := hc j (by omega)
      rw [add_add] at hc2
      refine ⟨z, ?_⟩
      rw [← hat, hc2, List.getElem?_eq_getElem hj2, hz]
    refine ⟨len, fun j i => numAt w (at_ a (i * K + j)), ⟨some a, cap, K⟩, rfl, hok rfl h3 (.inr ⟨a, rfl⟩) (fun b hb => by cases hb; exact hsp) (fun b hb i hi j hj => ?_)⟩
    cases hb
    obtain ⟨z, hz⟩ := key i (by omega) j hj
    unfold numAt
    rw [hz]
theorem cell_rules {b0 B : Nat} {x : Value} {n : Nat} {y : DataW H × List MemPlace} (h : Cell.okWide Tryz.prog w .any b0 25 x)
    (ht : DataW.trod enc Tryz.prog w base spare held n 25 [x] = some y) :
    ∃ (m : Nat) (g : Nat → Nat → Int) (d : Ad), x = den (fun _ => d) (.sl 0 m) ∧ HpOk (fun _ => d) B [some (.row false 83 m 8 (fun i => [I (g 0 i), I (g 1 i), I (g 2 i), I (g 3 i), I (g 4 i), I (g 5 i), I (g 6 i), I (g 7 i)]))] w :=
  cell_recs (K := 8) Tryz.underlying25 Tryz.underlying83 (by kernel_rfl) (fun j hj => by
    match j, hj with
    | 0, _ => exact ⟨_, rfl, rfl, by kernel_rfl, Tryz.underlying3⟩
    | 1, _ => exact ⟨_, rfl, rfl, by kernel_rfl, Tryz.underlying3⟩
    | 2, _ => exact ⟨_, rfl, rfl, by kernel_rfl, Tryz.underlying3⟩
    | 3, _ => exact ⟨_, rfl, rfl, by kernel_rfl, Tryz.underlying3⟩
    | 4, _ => exact ⟨_, rfl, rfl, by kernel_rfl, Tryz.underlying3⟩
    | 5, _ => exact ⟨_, rfl, rfl, by kernel_rfl, Tryz.underlying3⟩
    | 6, _ => exact ⟨_, rfl, rfl, by kernel_rfl, Tryz.underlying3⟩
    | 7, _ => exact ⟨_, rfl, rfl, by kernel_rfl, Tryz.underlying3⟩
    | j + 8, hj => omega) h ht
theorem rules_any {d : Ad} {B n : Nat} {e : TypeId} {g : Nat → Nat → Int} (θ θ' : Th) (h : VwOk θ B w d (.row false e n 8 (fun i => [I (g 0 i), I (g 1 i), I (g 2 i), I (g 3 i), I (g 4 i), I (g 5 i), I (g 6 i), I (g 7 i)]))) : VwOk θ' B w d (.row false e n 8 (fun i => [I (g 0 i), I (g 1 i), I (g 2 i), I (g 3 i), I (g 4 i), I (g 5 i), I (g 6 i), I (g 7 i)])) :=
  h.sc (n := 0) (fun t ht => absurd ht (Nat.not_lt_zero _)) (fun i => rfl)
end
end Go.Proofs.YtgojmodiaffcbaaGreatDoor
