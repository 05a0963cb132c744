/-
  Chapter 16's laws.
-/
import Derived.Test.YtgojmodiaffcbaaGreatDoorS16
import Derived.Test.YtgojmodiaffcbaaGreatDoorProg
import Derived.KernelRfl
set_option linter.unusedVariables false
set_option linter.unusedSimpArgs false
set_option linter.unusedSectionVars false
set_option maxRecDepth 100000
namespace Go.Proofs.YtgojmodiaffcbaaGreatDoor
open Go Go.Sx
variable [EnvT]
theorem shB_t {s e k : Int} (h : shB s e k = true) : e - s ≤ 31 * k ∧ s ≤ e := of_decide_eq_true h
theorem rRowT {n m : Nat} {f g : Nat → Int} (h : n = m ∧ ∀ i, i < n → f i = g i) (hn : n ≤ 100000) : S 20 [.sl 0 n, .sl 1 m] [ri n f, ri m g] (B true) [] := rowT h hn
theorem dM_le {s e mo : Int} {long back eom : Bool} : dM s e mo long back eom ≤ mN s e mo back eom := by unfold dM; (repeat' split) <;> omega
end Go.Proofs.YtgojmodiaffcbaaGreatDoor
