/-
  Are two rows of numbers the same? (reference 01)
-/
import Derived.Test.YtgojmodiaffcbaaGreatDoorGl
import Derived.Test.YtgojmodiaffcbaaGreatDoorLow
import Derived.Test.YtgojmodiaffcbaaGreatDoorProg
import Derived.KernelRfl
set_option linter.unusedVariables false
set_option linter.unusedSimpArgs false
set_option linter.unusedSectionVars false
set_option maxRecDepth 100000
namespace Go.Proofs.YtgojmodiaffcbaaGreatDoor
open Go Go.Sx
variable [Env]
noncomputable def demurrageref01_Row_h0 (n1 : Nat) (g2 : Nat → Int) (n3 : Nat) (g4 : Nat → Int) (x1 : Int) : SC :=
  ⟨[⟨20, slo 26 [(0, .sl 0 n1), (1, .sl 1 n3), (5, I x1)], [.code (bodyAt Tryz.f20 [1, 1, 0, 1, 0, 0]), .inLoop (bodyAt Tryz.f20 [1, 1, 0, 1, 0, 0]), .inBlock 0, .code (bodyAt Tryz.f20 [1, 1, 1])], {}⟩], [ri n1 g2, ri n3 g4]⟩
theorem demurrageref01_Row_w0 {X : Cx} {n1 : Nat} {g2 : Nat → Int} {n3 : Nat} {g4 : Nat → Int} {res : SV} (hX : Fi X 20 [ri n1 g2, ri n3 g4] res []) (H : (((n1 : Nat) : Int) ≠ ((n3 : Nat) : Int) → B false = res) ∧ (((n1 : Nat) : Int) = ((n3 : Nat) : Int) → Ok X (demurrageref01_Row_h0 n1 g2 n3 g4 0))) :
    Ok X (entry Tryz.prog 20 [.sl 0 n1, .sl 1 n3] [ri n1 g2, ri n3 g4]) := by
  obtain ⟨H1, H2⟩ := H
  by_cases h0 : ((n1 : Nat) : Int) = ((n3 : Nat) : Int)
  · exact hX.h 22 [f_ (bne_eq_false_iff_eq.2 h0)] (oldM 2) (H2 h0)
  · obtain rfl := H1 h0
    exact hX.e [t_ (bne_iff_ne.2 h0)]
theorem demurrageref01_Row_w1 {X : Cx} {n1 : Nat} {g2 : Nat → Int} {n3 : Nat} {g4 : Nat → Int} {x1 : Int} {res : SV} (hX : Fi X 20 [ri n1 g2, ri n3 g4] res []) (H : (x1 < ((n1 : Nat) : Int) → ((0 : Int) ≤ x1 ∧ x1 < ((n1 : Nat) : Int)) ∧ ((0 : Int) ≤ x1 ∧ x1 < ((n3 : Nat) : Int)) ∧ ((g2 x1.toNat) ≠ (g4 x1.toNat) → B false = res) ∧ ((g2 x1.toNat) = (g4 x1.toNat) → Ir (x1 + 1) ∧ Ok X (demurrageref01_Row_h0 n1 g2 n3 g4 (x1 + 1)))) ∧ (¬ x1 < ((n1 : Nat) : Int) → B true = res)) :
    Ok X (demurrageref01_Row_h0 n1 g2 n3 g4 x1) := by
  obtain ⟨H1, H2⟩ := H
  by_cases h0 : x1 < ((n1 : Nat) : Int)
  · obtain ⟨h1, h2, H1, H2⟩ := H1 h0
    refine hX.go [t_ (dt h0), q_ h1, q_ (re n1), q_ h1, q_ h2, q_ (re n3), q_ h2, d_ 8] ?_
    by_cases h3 : (g2 x1.toNat) = (g4 x1.toNat)
    · obtain ⟨h4, k⟩ := H2 h3
      exact hX.h 9 [f_ (bne_eq_false_iff_eq.2 h3), q_ h4] (oldM 2) k
    · obtain rfl := H1 h3
      exact hX.e [t_ (bne_iff_ne.2 h3)]
  · obtain rfl := H2 h0
    exact hX.e [f_ (df h0)]
theorem rRow {n m : Nat} {f g : Nat → Int} (hn : n < 9223372036854775807) : S 20 [.sl 0 n, .sl 1 m] [ri n f, ri m g] (B (decide (n = m ∧ ∀ i, i < n → f i = g i))) [] := by
  refine SCall.of (by kernel_rfl) rfl ⟨fun i => rfl, fun i => rfl, trivial⟩ rfl (fun X hX => ?_)
  refine demurrageref01_Row_w0 hX ⟨fun c => ?_, fun c => ?_⟩
  · rw [decide_eq_false (fun q => c (by rw [q.1]))]
  · have hnm : n = m := by omega
    subst hnm
    have key : ∀ k i : Nat, n - i = k → i ≤ n → (∀ j, j < i → f j = g j) → Ok X (demurrageref01_Row_h0 n f n g (i : Int)) := by
      intro k
      induction k with
      | zero =>
        intro i hm hi hq
        have : i = n := by omega
        subst this
        refine demurrageref01_Row_w1 hX ⟨fun c => by omega, fun _ => ?_⟩
        rw [decide_eq_true ⟨rfl, hq⟩]
      | succ k ih =>
        intro i hm hi hq
        refine demurrageref01_Row_w1 hX ⟨fun _ => ⟨⟨by omega, by omega⟩, ⟨by omega, by omega⟩, fun c => ?_, fun c => ⟨by simp only [Ir, InR]; omega, ?_⟩⟩, fun c => by omega⟩
        · rw [decide_eq_false (fun q => c (q.2 i (by omega)))]
        · exact ih (i + 1) (by omega) (by omega) (fun j hj => by
            by_cases z : j < i
            · exact hq j z
            · rw [show j = i by omega]; exact c)
    exact key n 0 rfl (Nat.zero_le _) (fun k hk => by omega)
end Go.Proofs.YtgojmodiaffcbaaGreatDoor
