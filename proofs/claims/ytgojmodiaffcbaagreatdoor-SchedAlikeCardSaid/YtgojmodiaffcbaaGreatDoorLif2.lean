/-
  A slice of fractions, as a view.
-/
import Derived.Test.YtgojmodiaffcbaaGreatDoorLift
import Derived.Deep.SlicePairs
set_option linter.unusedVariables false
set_option linter.unusedSimpArgs false
set_option maxRecDepth 100000
namespace Go.Proofs.YtgojmodiaffcbaaGreatDoor
open Go Go.Sx Go.Deep Go.ChangeShapes Go.WideShapes Go.ChangeAt Go.RowKit
section
variable {H : Type} {enc : TypeId × Value → H} {P : Program} {w : World} {base : Nat} {spare : Nat → Bool} {held : Bool}
theorem trod_i64 {u : TypeId} {n : Nat} {v : Value} {y : DataW H × List MemPlace} (hu : P.underlying u = some (.int .i64)) (h : DataW.trod enc P w base spare held n u [v] = some y) : ∃ z, v = .int .i64 z := by
  cases n with
  | zero => simp [DataW.trod] at h
  | succ n =>
    unfold DataW.trod at h
    rw [hu] at h
    cases v <;> simp only at h <;> first | (cases h; done) | skip
    split at h
    · rename_i c; exact ⟨_, by rw [c.1]⟩
    · cases h
end
end Go.Proofs.YtgojmodiaffcbaaGreatDoor
