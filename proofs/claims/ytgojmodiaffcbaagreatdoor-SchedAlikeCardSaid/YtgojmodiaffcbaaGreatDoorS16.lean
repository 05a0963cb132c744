/-
  Chapter 16's laws: what they lean on.
-/
import Derived.Test.YtgojmodiaffcbaaGreatDoorRo
import Derived.Test.YtgojmodiaffcbaaGreatDoorRr
import Derived.Test.YtgojmodiaffcbaaGreatDoorProg
import Derived.KernelRfl
set_option linter.unusedVariables false
set_option linter.unusedSimpArgs false
set_option linter.unusedSectionVars false
set_option maxRecDepth 100000
namespace Go.Proofs.YtgojmodiaffcbaaGreatDoor
open Go Go.Sx
variable [EnvT]
/-- Has a loan so many months at most? -/
def shB (s e k : Int) : Bool := decide (e - s ≤ 31 * k ∧ s ≤ e)
theorem rowT {n m : Nat} {f g : Nat → Int} (h : n = m ∧ ∀ i, i < n → f i = g i) (hn : n ≤ 100000 := by decide) : S 20 [.sl 0 n, .sl 1 m] [ri n f, ri m g] (B true) [] := by
  have := rRow (n := n) (m := m) (f := f) (g := g) (by omega)
  rw [decide_eq_true h] at this
  exact this
end Go.Proofs.YtgojmodiaffcbaaGreatDoor
