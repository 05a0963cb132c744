/-
  Which of a loan's steps lie between its ends (chapter 16), in plain Lean.
-/
import Derived.Test.YthfmjoeampekgaaGreatDoorGd
import Derived.Test.YthfmjoeampekgaaGreatDoorSl
set_option linter.unusedVariables false
set_option linter.unusedSimpArgs false
set_option linter.unusedSectionVars false
namespace Go.Proofs.YthfmjoeampekgaaGreatDoor
open Go Go.Sx
variable [EnvT]

/-- How many steps lie between the ends; from which place on. -/
def mN (s e mo : Int) (back eom : Bool) : Nat := if 2 ≤ gN s e mo back eom then (if btw s e (stp s e mo back eom (gN s e mo back eom - 1)).1 = true then gN s e mo back eom - 1 else gN s e mo back eom - 2) else 0
def oN (s e mo : Int) (back eom : Bool) : Nat := if back = true then gN s e mo back eom - 1 - mN s e mo back eom else 1

variable {s e mo : Int} {back eom : Bool}

theorem mN_le (h : Loan s e mo) (hs : e - s ≤ 6200 * mo) : mN s e mo back eom + 1 ≤ gN s e mo back eom := by
  have := (gN_le (back := back) (eom := eom) h hs).1
  unfold mN; (repeat' split) <;> omega

theorem st_btw (h : Loan s e mo) (hs : e - s ≤ 6200 * mo) {j : Nat} (hj : j < gN s e mo back eom) : btw s e (stp s e mo back eom j).1 = true ↔ 1 ≤ j ∧ j ≤ mN s e mo back eom := by
  obtain ⟨q1, q2, q3⟩ := gN_ok (back := back) (eom := eom) h hs
  have h0 := stp_zero (back := back) (eom := eom) h
  rcases Nat.eq_zero_or_pos j with rfl | hp
  · rw [h0]
    constructor
    · intro c
      have := btw_t.1 c
      cases back
      · simp at this
      · simp at this
    · intro c; omega
  · by_cases c : j + 1 < gN s e mo back eom
    · refine ⟨fun _ => ⟨hp, ?_⟩, fun _ => q2 j hp c⟩
      unfold mN; rw [if_pos (by omega)]; split <;> omega
    · have e1 : j = gN s e mo back eom - 1 := by omega
      unfold mN
      rw [if_pos (by omega), ← e1]
      by_cases d : btw s e (stp s e mo back eom j).1 = true
      · rw [if_pos d]; exact ⟨fun _ => ⟨hp, Nat.le_refl _⟩, fun _ => d⟩
      · rw [if_neg d]; exact ⟨fun z => absurd z d, fun z => by omega⟩

theorem oN_le (h : Loan s e mo) (hs : e - s ≤ 6200 * mo) : oN s e mo back eom + mN s e mo back eom ≤ gN s e mo back eom := by
  have := mN_le (back := back) (eom := eom) h hs
  unfold oN; split <;> omega

theorem gc_btw (h : Loan s e mo) (hs : e - s ≤ 6200 * mo) {i : Nat} (hi : i < gN s e mo back eom) : btw s e (gcV s e mo back eom i) = true ↔ oN s e mo back eom ≤ i ∧ i < oN s e mo back eom + mN s e mo back eom := by
  have hm := mN_le (back := back) (eom := eom) h hs
  unfold gcV oN
  by_cases c : back = true
  · rw [if_pos c, if_pos c, st_btw h hs (by omega)]; omega
  · rw [if_neg c, if_neg c, st_btw h hs hi]; omega

/-- How many of the first so many lie between. -/
def cB (o m j : Nat) : Nat := min j (o + m) - min j o
theorem cB_on {o m j : Nat} (h : o ≤ j ∧ j < o + m) : cB o m (j + 1) = cB o m j + 1 ∧ o + cB o m j = j := by unfold cB; omega
theorem cB_off {o m j : Nat} (h : ¬ (o ≤ j ∧ j < o + m)) : cB o m (j + 1) = cB o m j := by unfold cB; omega
theorem cB_le (o m j : Nat) : cB o m j ≤ m ∧ cB o m j ≤ j := by unfold cB; omega
theorem cB_all {o m j : Nat} (h : o + m ≤ j) : cB o m j = m := by unfold cB; omega

end Go.Proofs.YthfmjoeampekgaaGreatDoor
