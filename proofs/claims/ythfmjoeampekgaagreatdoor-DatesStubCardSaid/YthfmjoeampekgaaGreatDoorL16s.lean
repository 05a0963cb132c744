/-
  Chapter 16's laws: STUB.
-/
import Derived.Test.YthfmjoeampekgaaGreatDoorDp
import Derived.Test.YthfmjoeampekgaaGreatDoorProg
import Derived.KernelRfl
set_option linter.unusedVariables false
set_option linter.unusedSimpArgs false
set_option linter.unusedSectionVars false
set_option maxRecDepth 100000
namespace Go.Proofs.YthfmjoeampekgaaGreatDoor
open Go Go.Sx
variable [EnvT]

theorem DatesStub_w {a1 a2 a3 a4 a5 a6 a7 : Int} {a8 a9 a10 : Bool} {a11 : Int}  (H : ((chk a1 a2 a3 a4 a5 a6 a7 a11) = 0 → Ir (a6 - a5) ∧ ((shB a5 a6 200) = true → (chk a1 a2 a3 a4 a5 a6 a7 a11 = 0 → a6 - a5 ≤ 6200 * a7) ∧ ¬ (((dN a1 a2 a3 a4 a5 a6 a7 a8 false a10 a11) : Nat) : Int) < 2 ∧ (a8 = true → Ir (0 - a7) ∧ Ir ((((dN a1 a2 a3 a4 a5 a6 a7 a8 false a10 a11) : Nat) : Int) - 1) ∧ Ir (((((dN a1 a2 a3 a4 a5 a6 a7 a8 false a10 a11) : Nat) : Int) - 1) * (0 - a7)) ∧ (((mv a6 (((((dN a1 a2 a3 a4 a5 a6 a7 a8 false a10 a11) : Nat) : Int) - 1) * (0 - a7)) a10).2) = 0 → (((mv a6 (((((dN a1 a2 a3 a4 a5 a6 a7 a8 false a10 a11) : Nat) : Int) - 1) * (0 - a7)) a10).1) = a5 → (dN a1 a2 a3 a4 a5 a6 a7 a8 false a10 a11) < 9223372036854775807 ∧ (decide ((dN a1 a2 a3 a4 a5 a6 a7 a8 false a10 a11) = (dN a1 a2 a3 a4 a5 a6 a7 a8 true a10 a11) ∧ ∀ i, i < (dN a1 a2 a3 a4 a5 a6 a7 a8 false a10 a11) → (fun i => dV a5 a6 a7 false a8 a10 i) i = (fun i => dV a5 a6 a7 true a8 a10 i) i)) = true) ∧ (((mv a6 (((((dN a1 a2 a3 a4 a5 a6 a7 a8 false a10 a11) : Nat) : Int) - 1) * (0 - a7)) a10).1) ≠ a5 → ((((dN a1 a2 a3 a4 a5 a6 a7 a8 false a10 a11) : Nat) : Int) = 2 → (dN a1 a2 a3 a4 a5 a6 a7 a8 false a10 a11) < 9223372036854775807 ∧ (decide ((dN a1 a2 a3 a4 a5 a6 a7 a8 false a10 a11) = (dN a1 a2 a3 a4 a5 a6 a7 a8 true a10 a11) ∧ ∀ i, i < (dN a1 a2 a3 a4 a5 a6 a7 a8 false a10 a11) → (fun i => dV a5 a6 a7 false a8 a10 i) i = (fun i => dV a5 a6 a7 true a8 a10 i) i)) = true) ∧ ((((dN a1 a2 a3 a4 a5 a6 a7 a8 false a10 a11) : Nat) : Int) ≠ 2 → ¬ ((mv a6 (((((dN a1 a2 a3 a4 a5 a6 a7 a8 false a10 a11) : Nat) : Int) - 1) * (0 - a7)) a10).1) > a5 ∧ ((0 : Int) ≤ 0 ∧ 0 < (((dN a1 a2 a3 a4 a5 a6 a7 a8 false a10 a11) : Nat) : Int)) ∧ ((0 : Int) ≤ 2 ∧ (2 : Int) ≤ (((dN a1 a2 a3 a4 a5 a6 a7 a8 false a10 a11) : Nat) : Int)) ∧ ∃ q12 : Nat → Int, (∀ k, k < (1 + (((((dN a1 a2 a3 a4 a5 a6 a7 a8 false a10 a11) : Nat) : Int).toNat) - 2)) → q12 k = if k < 1 then (dV a5 a6 a7 false a8 a10 0) else (dV a5 a6 a7 false a8 a10 ((k - 1) + 2))) ∧ (1 + (((((dN a1 a2 a3 a4 a5 a6 a7 a8 false a10 a11) : Nat) : Int).toNat) - 2)) * 8 ≤ 140737488355328 ∧ (dN a1 a2 a3 a4 a5 a6 a7 a8 true a10 a11) < 9223372036854775807 ∧ (decide ((dN a1 a2 a3 a4 a5 a6 a7 a8 true a10 a11) = (1 + (((((dN a1 a2 a3 a4 a5 a6 a7 a8 false a10 a11) : Nat) : Int).toNat) - 2)) ∧ ∀ i, i < (dN a1 a2 a3 a4 a5 a6 a7 a8 true a10 a11) → (fun i => dV a5 a6 a7 true a8 a10 i) i = q12 i)) = true))) ∧ (((mv a6 (((((dN a1 a2 a3 a4 a5 a6 a7 a8 false a10 a11) : Nat) : Int) - 1) * (0 - a7)) a10).2) ≠ 0 → ((((dN a1 a2 a3 a4 a5 a6 a7 a8 false a10 a11) : Nat) : Int) = 2 → (dN a1 a2 a3 a4 a5 a6 a7 a8 false a10 a11) < 9223372036854775807 ∧ (decide ((dN a1 a2 a3 a4 a5 a6 a7 a8 false a10 a11) = (dN a1 a2 a3 a4 a5 a6 a7 a8 true a10 a11) ∧ ∀ i, i < (dN a1 a2 a3 a4 a5 a6 a7 a8 false a10 a11) → (fun i => dV a5 a6 a7 false a8 a10 i) i = (fun i => dV a5 a6 a7 true a8 a10 i) i)) = true) ∧ ((((dN a1 a2 a3 a4 a5 a6 a7 a8 false a10 a11) : Nat) : Int) ≠ 2 → ((0 : Int) ≤ 0 ∧ 0 < (((dN a1 a2 a3 a4 a5 a6 a7 a8 false a10 a11) : Nat) : Int)) ∧ ((0 : Int) ≤ 2 ∧ (2 : Int) ≤ (((dN a1 a2 a3 a4 a5 a6 a7 a8 false a10 a11) : Nat) : Int)) ∧ ∃ q12 : Nat → Int, (∀ k, k < (1 + (((((dN a1 a2 a3 a4 a5 a6 a7 a8 false a10 a11) : Nat) : Int).toNat) - 2)) → q12 k = if k < 1 then (dV a5 a6 a7 false a8 a10 0) else (dV a5 a6 a7 false a8 a10 ((k - 1) + 2))) ∧ (1 + (((((dN a1 a2 a3 a4 a5 a6 a7 a8 false a10 a11) : Nat) : Int).toNat) - 2)) * 8 ≤ 140737488355328 ∧ (dN a1 a2 a3 a4 a5 a6 a7 a8 true a10 a11) < 9223372036854775807 ∧ (decide ((dN a1 a2 a3 a4 a5 a6 a7 a8 true a10 a11) = (1 + (((((dN a1 a2 a3 a4 a5 a6 a7 a8 false a10 a11) : Nat) : Int).toNat) - 2)) ∧ ∀ i, i < (dN a1 a2 a3 a4 a5 a6 a7 a8 true a10 a11) → (fun i => dV a5 a6 a7 true a8 a10 i) i = q12 i)) = true))) ∧ (a8 = false → Ir ((((dN a1 a2 a3 a4 a5 a6 a7 a8 false a10 a11) : Nat) : Int) - 1) ∧ Ir (((((dN a1 a2 a3 a4 a5 a6 a7 a8 false a10 a11) : Nat) : Int) - 1) * a7) ∧ (((mv a5 (((((dN a1 a2 a3 a4 a5 a6 a7 a8 false a10 a11) : Nat) : Int) - 1) * a7) a10).2) = 0 → (((mv a5 (((((dN a1 a2 a3 a4 a5 a6 a7 a8 false a10 a11) : Nat) : Int) - 1) * a7) a10).1) = a6 → (dN a1 a2 a3 a4 a5 a6 a7 a8 false a10 a11) < 9223372036854775807 ∧ (decide ((dN a1 a2 a3 a4 a5 a6 a7 a8 false a10 a11) = (dN a1 a2 a3 a4 a5 a6 a7 a8 true a10 a11) ∧ ∀ i, i < (dN a1 a2 a3 a4 a5 a6 a7 a8 false a10 a11) → (fun i => dV a5 a6 a7 false a8 a10 i) i = (fun i => dV a5 a6 a7 true a8 a10 i) i)) = true) ∧ (((mv a5 (((((dN a1 a2 a3 a4 a5 a6 a7 a8 false a10 a11) : Nat) : Int) - 1) * a7) a10).1) ≠ a6 → ((((dN a1 a2 a3 a4 a5 a6 a7 a8 false a10 a11) : Nat) : Int) = 2 → (dN a1 a2 a3 a4 a5 a6 a7 a8 false a10 a11) < 9223372036854775807 ∧ (decide ((dN a1 a2 a3 a4 a5 a6 a7 a8 false a10 a11) = (dN a1 a2 a3 a4 a5 a6 a7 a8 true a10 a11) ∧ ∀ i, i < (dN a1 a2 a3 a4 a5 a6 a7 a8 false a10 a11) → (fun i => dV a5 a6 a7 false a8 a10 i) i = (fun i => dV a5 a6 a7 true a8 a10 i) i)) = true) ∧ ((((dN a1 a2 a3 a4 a5 a6 a7 a8 false a10 a11) : Nat) : Int) ≠ 2 → ¬ ((mv a5 (((((dN a1 a2 a3 a4 a5 a6 a7 a8 false a10 a11) : Nat) : Int) - 1) * a7) a10).1) < a6 ∧ Ir ((((dN a1 a2 a3 a4 a5 a6 a7 a8 false a10 a11) : Nat) : Int) - 2) ∧ ((0 : Int) ≤ ((((dN a1 a2 a3 a4 a5 a6 a7 a8 false a10 a11) : Nat) : Int) - 2) ∧ ((((dN a1 a2 a3 a4 a5 a6 a7 a8 false a10 a11) : Nat) : Int) - 2) ≤ (((dN a1 a2 a3 a4 a5 a6 a7 a8 false a10 a11) : Nat) : Int)) ∧ ((0 : Int) ≤ 0 ∧ (0 : Int) ≤ ((((dN a1 a2 a3 a4 a5 a6 a7 a8 false a10 a11) : Nat) : Int) - 2)) ∧ ∃ q12 : Nat → Int, (∀ k, k < (0 + ((((((dN a1 a2 a3 a4 a5 a6 a7 a8 false a10 a11) : Nat) : Int) - 2).toNat) - 0)) → q12 k = if k < 0 then 0 else (dV a5 a6 a7 false a8 a10 ((k - 0) + 0))) ∧ (0 + ((((((dN a1 a2 a3 a4 a5 a6 a7 a8 false a10 a11) : Nat) : Int) - 2).toNat) - 0)) * 8 ≤ 140737488355328 ∧ ((0 : Int) ≤ ((((dN a1 a2 a3 a4 a5 a6 a7 a8 false a10 a11) : Nat) : Int) - 1) ∧ ((((dN a1 a2 a3 a4 a5 a6 a7 a8 false a10 a11) : Nat) : Int) - 1) < (((dN a1 a2 a3 a4 a5 a6 a7 a8 false a10 a11) : Nat) : Int)) ∧ ∃ q13 : Nat → Int, (∀ k, k < ((0 + ((((((dN a1 a2 a3 a4 a5 a6 a7 a8 false a10 a11) : Nat) : Int) - 2).toNat) - 0)) + 1) → q13 k = if k < (0 + ((((((dN a1 a2 a3 a4 a5 a6 a7 a8 false a10 a11) : Nat) : Int) - 2).toNat) - 0)) then (q12 k) else (dV a5 a6 a7 false a8 a10 (((((dN a1 a2 a3 a4 a5 a6 a7 a8 false a10 a11) : Nat) : Int) - 1).toNat))) ∧ ((0 + ((((((dN a1 a2 a3 a4 a5 a6 a7 a8 false a10 a11) : Nat) : Int) - 2).toNat) - 0)) + 1) * 8 ≤ 140737488355328 ∧ (dN a1 a2 a3 a4 a5 a6 a7 a8 true a10 a11) < 9223372036854775807 ∧ (decide ((dN a1 a2 a3 a4 a5 a6 a7 a8 true a10 a11) = ((0 + ((((((dN a1 a2 a3 a4 a5 a6 a7 a8 false a10 a11) : Nat) : Int) - 2).toNat) - 0)) + 1) ∧ ∀ i, i < (dN a1 a2 a3 a4 a5 a6 a7 a8 true a10 a11) → (fun i => dV a5 a6 a7 true a8 a10 i) i = q13 i)) = true))) ∧ (((mv a5 (((((dN a1 a2 a3 a4 a5 a6 a7 a8 false a10 a11) : Nat) : Int) - 1) * a7) a10).2) ≠ 0 → ((((dN a1 a2 a3 a4 a5 a6 a7 a8 false a10 a11) : Nat) : Int) = 2 → (dN a1 a2 a3 a4 a5 a6 a7 a8 false a10 a11) < 9223372036854775807 ∧ (decide ((dN a1 a2 a3 a4 a5 a6 a7 a8 false a10 a11) = (dN a1 a2 a3 a4 a5 a6 a7 a8 true a10 a11) ∧ ∀ i, i < (dN a1 a2 a3 a4 a5 a6 a7 a8 false a10 a11) → (fun i => dV a5 a6 a7 false a8 a10 i) i = (fun i => dV a5 a6 a7 true a8 a10 i) i)) = true) ∧ ((((dN a1 a2 a3 a4 a5 a6 a7 a8 false a10 a11) : Nat) : Int) ≠ 2 → Ir ((((dN a1 a2 a3 a4 a5 a6 a7 a8 false a10 a11) : Nat) : Int) - 2) ∧ ((0 : Int) ≤ ((((dN a1 a2 a3 a4 a5 a6 a7 a8 false a10 a11) : Nat) : Int) - 2) ∧ ((((dN a1 a2 a3 a4 a5 a6 a7 a8 false a10 a11) : Nat) : Int) - 2) ≤ (((dN a1 a2 a3 a4 a5 a6 a7 a8 false a10 a11) : Nat) : Int)) ∧ ((0 : Int) ≤ 0 ∧ (0 : Int) ≤ ((((dN a1 a2 a3 a4 a5 a6 a7 a8 false a10 a11) : Nat) : Int) - 2)) ∧ ∃ q12 : Nat → Int, (∀ k, k < (0 + ((((((dN a1 a2 a3 a4 a5 a6 a7 a8 false a10 a11) : Nat) : Int) - 2).toNat) - 0)) → q12 k = if k < 0 then 0 else (dV a5 a6 a7 false a8 a10 ((k - 0) + 0))) ∧ (0 + ((((((dN a1 a2 a3 a4 a5 a6 a7 a8 false a10 a11) : Nat) : Int) - 2).toNat) - 0)) * 8 ≤ 140737488355328 ∧ ((0 : Int) ≤ ((((dN a1 a2 a3 a4 a5 a6 a7 a8 false a10 a11) : Nat) : Int) - 1) ∧ ((((dN a1 a2 a3 a4 a5 a6 a7 a8 false a10 a11) : Nat) : Int) - 1) < (((dN a1 a2 a3 a4 a5 a6 a7 a8 false a10 a11) : Nat) : Int)) ∧ ∃ q13 : Nat → Int, (∀ k, k < ((0 + ((((((dN a1 a2 a3 a4 a5 a6 a7 a8 false a10 a11) : Nat) : Int) - 2).toNat) - 0)) + 1) → q13 k = if k < (0 + ((((((dN a1 a2 a3 a4 a5 a6 a7 a8 false a10 a11) : Nat) : Int) - 2).toNat) - 0)) then (q12 k) else (dV a5 a6 a7 false a8 a10 (((((dN a1 a2 a3 a4 a5 a6 a7 a8 false a10 a11) : Nat) : Int) - 1).toNat))) ∧ ((0 + ((((((dN a1 a2 a3 a4 a5 a6 a7 a8 false a10 a11) : Nat) : Int) - 2).toNat) - 0)) + 1) * 8 ≤ 140737488355328 ∧ (dN a1 a2 a3 a4 a5 a6 a7 a8 true a10 a11) < 9223372036854775807 ∧ (decide ((dN a1 a2 a3 a4 a5 a6 a7 a8 true a10 a11) = ((0 + ((((((dN a1 a2 a3 a4 a5 a6 a7 a8 false a10 a11) : Nat) : Int) - 2).toNat) - 0)) + 1) ∧ ∀ i, i < (dN a1 a2 a3 a4 a5 a6 a7 a8 true a10 a11) → (fun i => dV a5 a6 a7 true a8 a10 i) i = q13 i)) = true)))))) :
    S 5 [.agg [I a1, I a2, I a3, I a4, I a5, I a6, I a7, B a8, B a9, B a10, I a11]] [] (B true) [] := by
  refine SCall.st fun X hX => ?_
  refine hX.go [c_ [] shown16, c_ [] (rCheck a1 a2 a3 a4 a5 a6 a7 a8 a9 a10 a11)] ?_
  by_cases h0 : (chk a1 a2 a3 a4 a5 a6 a7 a11) = 0
  · obtain ⟨h1, K2⟩ := H h0
    have h2 : Ir (31 * 200) := by decide
    refine hX.go [f_ (bne_eq_false_iff_eq.2 h0), f_ (bne_eq_false_iff_eq.2 h0), c_ [] (show S 11 [.agg [I a1, I a2, I a3, I a4, I a5, I a6, I a7, B a8, B a9, B a10, I a11], I 200] [] (B (shB a5 a6 200)) [] from rShort _ _ _ _ _ _ _ _ _ _ _ _ h1 h2), f_ (bne_eq_false_iff_eq.2 h0), f_ (bne_eq_false_iff_eq.2 h0)] ?_
    rcases bcase (shB a5 a6 200) with h3 | h3
    · obtain ⟨h4, c5, K5⟩ := K2 h3
      refine hX.go [f_ (nf h3), c_ [] (show S 14 [.agg [I a1, I a2, I a3, I a4, I a5, I a6, I a7, B a8, B false, B a10, I a11]] [] (.tup [.sl 0 (dN a1 a2 a3 a4 a5 a6 a7 a8 false a10 a11), I (chk a1 a2 a3 a4 a5 a6 a7 a11)]) [some (.row true 3 (dN a1 a2 a3 a4 a5 a6 a7 a8 false a10 a11) 1 (fun i => [I (dV a5 a6 a7 false a8 a10 i)]))] from dOf _ _ _ _ _ _ _ _ _ _ _ h4), c_ [] (show S 14 [.agg [I a1, I a2, I a3, I a4, I a5, I a6, I a7, B a8, B true, B a10, I a11]] [] (.tup [.sl 0 (dN a1 a2 a3 a4 a5 a6 a7 a8 true a10 a11), I (chk a1 a2 a3 a4 a5 a6 a7 a11)]) [some (.row true 3 (dN a1 a2 a3 a4 a5 a6 a7 a8 true a10 a11) 1 (fun i => [I (dV a5 a6 a7 true a8 a10 i)]))] from dOf _ _ _ _ _ _ _ _ _ _ _ h4), n_ 6 (f_ (bne_eq_false_iff_eq.2 h0))] ?_
      by_cases h5 : (((dN a1 a2 a3 a4 a5 a6 a7 a8 false a10 a11) : Nat) : Int) < 2
      · exact absurd h5 c5
      · obtain ⟨L6, K6⟩ := K5
        refine hX.go [f_ (df h5)] ?_
        rcases bcase a8 with h6 | h6
        · obtain ⟨h7, h8, h9, L10, K10⟩ := L6 h6
          refine hX.go [t_ h6, q_ h7, q_ h8, q_ h9, c_ [] (rMove a6 (((((dN a1 a2 a3 a4 a5 a6 a7 a8 false a10 a11) : Nat) : Int) - 1) * (0 - a7)) a10)] ?_
          by_cases h10 : ((mv a6 (((((dN a1 a2 a3 a4 a5 a6 a7 a8 false a10 a11) : Nat) : Int) - 1) * (0 - a7)) a10).2) = 0
          · obtain ⟨L11, K11⟩ := L10 h10
            refine hX.go [n_ 4 (t_ (beq_iff_eq.2 h10))] ?_
            by_cases h11 : ((mv a6 (((((dN a1 a2 a3 a4 a5 a6 a7 a8 false a10 a11) : Nat) : Int) - 1) * (0 - a7)) a10).1) = a5
            · obtain ⟨h12, HE⟩ := L11 h11
              exact (hX.to (congrArg B HE).symm).e [n_ 3 (t_ (beq_iff_eq.2 h11)), n_ 4 (t_ rt), c_ [3, 4] (show S 16 [.sl 0 (dN a1 a2 a3 a4 a5 a6 a7 a8 false a10 a11), .sl 1 (dN a1 a2 a3 a4 a5 a6 a7 a8 true a10 a11)] [some (.row false 3 (dN a1 a2 a3 a4 a5 a6 a7 a8 false a10 a11) 1 (fun i => [I (dV a5 a6 a7 false a8 a10 i)])), some (.row false 3 (dN a1 a2 a3 a4 a5 a6 a7 a8 true a10 a11) 1 (fun i => [I (dV a5 a6 a7 true a8 a10 i)]))] (B (decide ((dN a1 a2 a3 a4 a5 a6 a7 a8 false a10 a11) = (dN a1 a2 a3 a4 a5 a6 a7 a8 true a10 a11) ∧ ∀ i, i < (dN a1 a2 a3 a4 a5 a6 a7 a8 false a10 a11) → (fun i => dV a5 a6 a7 false a8 a10 i) i = (fun i => dV a5 a6 a7 true a8 a10 i) i))) [] from rRow h12), t_ rt]
            · obtain ⟨L12, K12⟩ := K11 h11
              refine hX.go [n_ 3 (f_ (beq_eq_false_iff_ne.2 h11))] ?_
              by_cases h12 : (((dN a1 a2 a3 a4 a5 a6 a7 a8 false a10 a11) : Nat) : Int) = 2
              · obtain ⟨h13, HE⟩ := L12 h12
                exact (hX.to (congrArg B HE).symm).e [t_ (beq_iff_eq.2 h12), n_ 3 (t_ rt), c_ [3, 4] (show S 16 [.sl 0 (dN a1 a2 a3 a4 a5 a6 a7 a8 false a10 a11), .sl 1 (dN a1 a2 a3 a4 a5 a6 a7 a8 true a10 a11)] [some (.row false 3 (dN a1 a2 a3 a4 a5 a6 a7 a8 false a10 a11) 1 (fun i => [I (dV a5 a6 a7 false a8 a10 i)])), some (.row false 3 (dN a1 a2 a3 a4 a5 a6 a7 a8 true a10 a11) 1 (fun i => [I (dV a5 a6 a7 true a8 a10 i)]))] (B (decide ((dN a1 a2 a3 a4 a5 a6 a7 a8 false a10 a11) = (dN a1 a2 a3 a4 a5 a6 a7 a8 true a10 a11) ∧ ∀ i, i < (dN a1 a2 a3 a4 a5 a6 a7 a8 false a10 a11) → (fun i => dV a5 a6 a7 false a8 a10 i) i = (fun i => dV a5 a6 a7 true a8 a10 i) i))) [] from rRow h13), t_ rt]
              · obtain ⟨c13, K13⟩ := K12 h12
                refine hX.go [f_ (beq_eq_false_iff_ne.2 h12), n_ 3 (t_ (beq_iff_eq.2 h10)), n_ 3 (t_ h6), t_ (beq_iff_eq.2 h10), t_ h6, t_ (beq_iff_eq.2 h10)] ?_
                by_cases h13 : ((mv a6 (((((dN a1 a2 a3 a4 a5 a6 a7 a8 false a10 a11) : Nat) : Int) - 1) * (0 - a7)) a10).1) > a5
                · exact absurd h13 c13
                · refine hX.go [n_ 4 (f_ (df h13)), n_ 3 (f_ (nf h6)), f_ (df h13), f_ (nf h6), t_ (beq_iff_eq.2 h10), f_ (df h13), t_ (beq_iff_eq.2 h10), f_ rf, t_ h6] ?_
                  refine hX.rd [3, 4] ?_
                  obtain ⟨h14, h15, q12, h16, h17, h18, HE⟩ := K13
                  exact (hX.to (congrArg B HE).symm).e [d_ 10, n_ 3 (t_ rt), q_ h14, q_ (show (dN a1 a2 a3 a4 a5 a6 a7 a8 false a10 a11) = (dN a1 a2 a3 a4 a5 a6 a7 a8 false a10 a11) from rfl), t_ rt, q_ h14, t_ rt, q_ (show ∀ k, k < 1 → (fun i => [I (dV a5 a6 a7 false a8 a10 0)]) k = [[I (dV a5 a6 a7 false a8 a10 0)]].getD k [] from by intro k hk; match k, hk with | 0, _ => rfl | k + 1, hk => omega), h_ [.row (fun i => [I (dV a5 a6 a7 false a8 a10 0)])], t_ rt, t_ rt, q_ (show (dN a1 a2 a3 a4 a5 a6 a7 a8 false a10 a11) = (dN a1 a2 a3 a4 a5 a6 a7 a8 false a10 a11) from rfl), q_ (show (0 : Int) ≤ (((dN a1 a2 a3 a4 a5 a6 a7 a8 false a10 a11) : Nat) : Int) ∧ (((dN a1 a2 a3 a4 a5 a6 a7 a8 false a10 a11) : Nat) : Int) ≤ (((dN a1 a2 a3 a4 a5 a6 a7 a8 false a10 a11) : Nat) : Int) from by first | decide | omega | (constructor <;> omega)), q_ h15, t_ rt, q_ (show (((((dN a1 a2 a3 a4 a5 a6 a7 a8 false a10 a11) : Nat) : Int).toNat) - 2) = (((((dN a1 a2 a3 a4 a5 a6 a7 a8 false a10 a11) : Nat) : Int).toNat) - 2) from rfl), q_ (re 1), q_ h17, q_ (show ∀ k, k < 1 + (((((dN a1 a2 a3 a4 a5 a6 a7 a8 false a10 a11) : Nat) : Int).toNat) - 2) → (fun i => [I (q12 i)]) k = if k < 1 then (fun i => [I (dV a5 a6 a7 false a8 a10 0)]) k else (fun i => [I (dV a5 a6 a7 false a8 a10 (i + 2))]) (k - 1) from fun k hk => by
      have e0 := h16 k hk
      by_cases c : k < 1
      · rw [if_pos c] at e0 ⊢; simp only [e0]
      · rw [if_neg c] at e0 ⊢; simp only [e0]), h_ [.row (fun i => [I (q12 i)])], t_ rt, c_ [4, 7] (show S 16 [.sl 0 (dN a1 a2 a3 a4 a5 a6 a7 a8 true a10 a11), .sl 1 (1 + (((((dN a1 a2 a3 a4 a5 a6 a7 a8 false a10 a11) : Nat) : Int).toNat) - 2))] [some (.row false 3 (dN a1 a2 a3 a4 a5 a6 a7 a8 true a10 a11) 1 (fun i => [I (dV a5 a6 a7 true a8 a10 i)])), some (.row false 3 (1 + (((((dN a1 a2 a3 a4 a5 a6 a7 a8 false a10 a11) : Nat) : Int).toNat) - 2)) 1 (fun i => [I (q12 i)]))] (B (decide ((dN a1 a2 a3 a4 a5 a6 a7 a8 true a10 a11) = (1 + (((((dN a1 a2 a3 a4 a5 a6 a7 a8 false a10 a11) : Nat) : Int).toNat) - 2)) ∧ ∀ i, i < (dN a1 a2 a3 a4 a5 a6 a7 a8 true a10 a11) → (fun i => dV a5 a6 a7 true a8 a10 i) i = q12 i))) [] from rRow h18), t_ rt]
          · obtain ⟨L11, K11⟩ := K10 h10
            refine hX.go [n_ 4 (f_ (beq_eq_false_iff_ne.2 h10)), n_ 3 (f_ rf)] ?_
            by_cases h11 : (((dN a1 a2 a3 a4 a5 a6 a7 a8 false a10 a11) : Nat) : Int) = 2
            · obtain ⟨h12, HE⟩ := L11 h11
              exact (hX.to (congrArg B HE).symm).e [t_ (beq_iff_eq.2 h11), n_ 3 (t_ rt), c_ [3, 4] (show S 16 [.sl 0 (dN a1 a2 a3 a4 a5 a6 a7 a8 false a10 a11), .sl 1 (dN a1 a2 a3 a4 a5 a6 a7 a8 true a10 a11)] [some (.row false 3 (dN a1 a2 a3 a4 a5 a6 a7 a8 false a10 a11) 1 (fun i => [I (dV a5 a6 a7 false a8 a10 i)])), some (.row false 3 (dN a1 a2 a3 a4 a5 a6 a7 a8 true a10 a11) 1 (fun i => [I (dV a5 a6 a7 true a8 a10 i)]))] (B (decide ((dN a1 a2 a3 a4 a5 a6 a7 a8 false a10 a11) = (dN a1 a2 a3 a4 a5 a6 a7 a8 true a10 a11) ∧ ∀ i, i < (dN a1 a2 a3 a4 a5 a6 a7 a8 false a10 a11) → (fun i => dV a5 a6 a7 false a8 a10 i) i = (fun i => dV a5 a6 a7 true a8 a10 i) i))) [] from rRow h12), t_ rt]
            · refine hX.go [f_ (beq_eq_false_iff_ne.2 h11), n_ 7 (f_ (beq_eq_false_iff_ne.2 h10)), f_ rf, t_ h6] ?_
              refine hX.rd [3, 4] ?_
              obtain ⟨h12, h13, q12, h14, h15, h16, HE⟩ := K11 h11
              exact (hX.to (congrArg B HE).symm).e [d_ 10, n_ 3 (t_ rt), q_ h12, q_ (show (dN a1 a2 a3 a4 a5 a6 a7 a8 false a10 a11) = (dN a1 a2 a3 a4 a5 a6 a7 a8 false a10 a11) from rfl), t_ rt, q_ h12, t_ rt, q_ (show ∀ k, k < 1 → (fun i => [I (dV a5 a6 a7 false a8 a10 0)]) k = [[I (dV a5 a6 a7 false a8 a10 0)]].getD k [] from by intro k hk; match k, hk with | 0, _ => rfl | k + 1, hk => omega), h_ [.row (fun i => [I (dV a5 a6 a7 false a8 a10 0)])], t_ rt, t_ rt, q_ (show (dN a1 a2 a3 a4 a5 a6 a7 a8 false a10 a11) = (dN a1 a2 a3 a4 a5 a6 a7 a8 false a10 a11) from rfl), q_ (show (0 : Int) ≤ (((dN a1 a2 a3 a4 a5 a6 a7 a8 false a10 a11) : Nat) : Int) ∧ (((dN a1 a2 a3 a4 a5 a6 a7 a8 false a10 a11) : Nat) : Int) ≤ (((dN a1 a2 a3 a4 a5 a6 a7 a8 false a10 a11) : Nat) : Int) from by first | decide | omega | (constructor <;> omega)), q_ h13, t_ rt, q_ (show (((((dN a1 a2 a3 a4 a5 a6 a7 a8 false a10 a11) : Nat) : Int).toNat) - 2) = (((((dN a1 a2 a3 a4 a5 a6 a7 a8 false a10 a11) : Nat) : Int).toNat) - 2) from rfl), q_ (re 1), q_ h15, q_ (show ∀ k, k < 1 + (((((dN a1 a2 a3 a4 a5 a6 a7 a8 false a10 a11) : Nat) : Int).toNat) - 2) → (fun i => [I (q12 i)]) k = if k < 1 then (fun i => [I (dV a5 a6 a7 false a8 a10 0)]) k else (fun i => [I (dV a5 a6 a7 false a8 a10 (i + 2))]) (k - 1) from fun k hk => by
      have e0 := h14 k hk
      by_cases c : k < 1
      · rw [if_pos c] at e0 ⊢; simp only [e0]
      · rw [if_neg c] at e0 ⊢; simp only [e0]), h_ [.row (fun i => [I (q12 i)])], t_ rt, c_ [4, 7] (show S 16 [.sl 0 (dN a1 a2 a3 a4 a5 a6 a7 a8 true a10 a11), .sl 1 (1 + (((((dN a1 a2 a3 a4 a5 a6 a7 a8 false a10 a11) : Nat) : Int).toNat) - 2))] [some (.row false 3 (dN a1 a2 a3 a4 a5 a6 a7 a8 true a10 a11) 1 (fun i => [I (dV a5 a6 a7 true a8 a10 i)])), some (.row false 3 (1 + (((((dN a1 a2 a3 a4 a5 a6 a7 a8 false a10 a11) : Nat) : Int).toNat) - 2)) 1 (fun i => [I (q12 i)]))] (B (decide ((dN a1 a2 a3 a4 a5 a6 a7 a8 true a10 a11) = (1 + (((((dN a1 a2 a3 a4 a5 a6 a7 a8 false a10 a11) : Nat) : Int).toNat) - 2)) ∧ ∀ i, i < (dN a1 a2 a3 a4 a5 a6 a7 a8 true a10 a11) → (fun i => dV a5 a6 a7 true a8 a10 i) i = q12 i))) [] from rRow h16), t_ rt]
        · obtain ⟨h7, h8, L9, K9⟩ := K6 h6
          refine hX.go [f_ h6, q_ h7, q_ h8, c_ [] (rMove a5 (((((dN a1 a2 a3 a4 a5 a6 a7 a8 false a10 a11) : Nat) : Int) - 1) * a7) a10)] ?_
          by_cases h9 : ((mv a5 (((((dN a1 a2 a3 a4 a5 a6 a7 a8 false a10 a11) : Nat) : Int) - 1) * a7) a10).2) = 0
          · obtain ⟨L10, K10⟩ := L9 h9
            refine hX.go [n_ 4 (t_ (beq_iff_eq.2 h9))] ?_
            by_cases h10 : ((mv a5 (((((dN a1 a2 a3 a4 a5 a6 a7 a8 false a10 a11) : Nat) : Int) - 1) * a7) a10).1) = a6
            · obtain ⟨h11, HE⟩ := L10 h10
              exact (hX.to (congrArg B HE).symm).e [n_ 3 (t_ (beq_iff_eq.2 h10)), n_ 4 (t_ rt), c_ [3, 4] (show S 16 [.sl 0 (dN a1 a2 a3 a4 a5 a6 a7 a8 false a10 a11), .sl 1 (dN a1 a2 a3 a4 a5 a6 a7 a8 true a10 a11)] [some (.row false 3 (dN a1 a2 a3 a4 a5 a6 a7 a8 false a10 a11) 1 (fun i => [I (dV a5 a6 a7 false a8 a10 i)])), some (.row false 3 (dN a1 a2 a3 a4 a5 a6 a7 a8 true a10 a11) 1 (fun i => [I (dV a5 a6 a7 true a8 a10 i)]))] (B (decide ((dN a1 a2 a3 a4 a5 a6 a7 a8 false a10 a11) = (dN a1 a2 a3 a4 a5 a6 a7 a8 true a10 a11) ∧ ∀ i, i < (dN a1 a2 a3 a4 a5 a6 a7 a8 false a10 a11) → (fun i => dV a5 a6 a7 false a8 a10 i) i = (fun i => dV a5 a6 a7 true a8 a10 i) i))) [] from rRow h11), t_ rt]
            · obtain ⟨L11, K11⟩ := K10 h10
              refine hX.go [n_ 3 (f_ (beq_eq_false_iff_ne.2 h10))] ?_
              by_cases h11 : (((dN a1 a2 a3 a4 a5 a6 a7 a8 false a10 a11) : Nat) : Int) = 2
              · obtain ⟨h12, HE⟩ := L11 h11
                exact (hX.to (congrArg B HE).symm).e [t_ (beq_iff_eq.2 h11), n_ 3 (t_ rt), c_ [3, 4] (show S 16 [.sl 0 (dN a1 a2 a3 a4 a5 a6 a7 a8 false a10 a11), .sl 1 (dN a1 a2 a3 a4 a5 a6 a7 a8 true a10 a11)] [some (.row false 3 (dN a1 a2 a3 a4 a5 a6 a7 a8 false a10 a11) 1 (fun i => [I (dV a5 a6 a7 false a8 a10 i)])), some (.row false 3 (dN a1 a2 a3 a4 a5 a6 a7 a8 true a10 a11) 1 (fun i => [I (dV a5 a6 a7 true a8 a10 i)]))] (B (decide ((dN a1 a2 a3 a4 a5 a6 a7 a8 false a10 a11) = (dN a1 a2 a3 a4 a5 a6 a7 a8 true a10 a11) ∧ ∀ i, i < (dN a1 a2 a3 a4 a5 a6 a7 a8 false a10 a11) → (fun i => dV a5 a6 a7 false a8 a10 i) i = (fun i => dV a5 a6 a7 true a8 a10 i) i))) [] from rRow h12), t_ rt]
              · obtain ⟨c12, K12⟩ := K11 h11
                refine hX.go [f_ (beq_eq_false_iff_ne.2 h11), n_ 3 (t_ (beq_iff_eq.2 h9)), n_ 3 (f_ h6), t_ (beq_iff_eq.2 h9), f_ h6, t_ (beq_iff_eq.2 h9), n_ 4 (f_ rf), n_ 3 (t_ (nt h6)), f_ rf, t_ (nt h6), t_ (beq_iff_eq.2 h9), f_ rf, t_ (beq_iff_eq.2 h9)] ?_
                by_cases h12 : ((mv a5 (((((dN a1 a2 a3 a4 a5 a6 a7 a8 false a10 a11) : Nat) : Int) - 1) * a7) a10).1) < a6
                · exact absurd h12 c12
                · refine hX.go [f_ (df h12), f_ h6] ?_
                  refine hX.rd [3, 4] ?_
                  obtain ⟨h13, h14, h15, q12, h16, h17, h18, q13, h19, h20, h21, HE⟩ := K12
                  exact (hX.to (congrArg B HE).symm).e [d_ 16, t_ rt, t_ rt, q_ (show ∀ k, k < 0 → (fun i => [I 0]) k = [].getD k [] from by intro k hk; omega), h_ [.row (fun i => [I 0])], n_ 3 (t_ rt), q_ h13, t_ rt, q_ (show (dN a1 a2 a3 a4 a5 a6 a7 a8 false a10 a11) = (dN a1 a2 a3 a4 a5 a6 a7 a8 false a10 a11) from rfl), q_ h14, q_ h15, t_ rt, q_ (show ((((((dN a1 a2 a3 a4 a5 a6 a7 a8 false a10 a11) : Nat) : Int) - 2).toNat) - 0) = ((((((dN a1 a2 a3 a4 a5 a6 a7 a8 false a10 a11) : Nat) : Int) - 2).toNat) - 0) from rfl), q_ (re 0), q_ h17, q_ (show ∀ k, k < 0 + ((((((dN a1 a2 a3 a4 a5 a6 a7 a8 false a10 a11) : Nat) : Int) - 2).toNat) - 0) → (fun i => [I (q12 i)]) k = if k < 0 then (fun i => [I 0]) k else (fun i => [I (dV a5 a6 a7 false a8 a10 (i + 0))]) (k - 0) from fun k hk => by
      have e0 := h16 k hk
      by_cases c : k < 0
      · rw [if_pos c] at e0 ⊢; simp only [e0]
      · rw [if_neg c] at e0 ⊢; simp only [e0]), h_ [.row (fun i => [I (q12 i)])], n_ 3 (t_ rt), q_ h7, t_ rt, q_ h18, q_ (show (dN a1 a2 a3 a4 a5 a6 a7 a8 false a10 a11) = (dN a1 a2 a3 a4 a5 a6 a7 a8 false a10 a11) from rfl), t_ rt, q_ h18, t_ rt, q_ (show ∀ k, k < 1 → (fun i => [I (dV a5 a6 a7 false a8 a10 (((((dN a1 a2 a3 a4 a5 a6 a7 a8 false a10 a11) : Nat) : Int) - 1).toNat))]) k = [[I (dV a5 a6 a7 false a8 a10 (((((dN a1 a2 a3 a4 a5 a6 a7 a8 false a10 a11) : Nat) : Int) - 1).toNat))]].getD k [] from by intro k hk; match k, hk with | 0, _ => rfl | k + 1, hk => omega), h_ [.row (fun i => [I (dV a5 a6 a7 false a8 a10 (((((dN a1 a2 a3 a4 a5 a6 a7 a8 false a10 a11) : Nat) : Int) - 1).toNat))])], t_ rt, q_ (re 1), q_ (show (0 + ((((((dN a1 a2 a3 a4 a5 a6 a7 a8 false a10 a11) : Nat) : Int) - 2).toNat) - 0)) = (0 + ((((((dN a1 a2 a3 a4 a5 a6 a7 a8 false a10 a11) : Nat) : Int) - 2).toNat) - 0)) from rfl), q_ h20, q_ (show ∀ k, k < (0 + ((((((dN a1 a2 a3 a4 a5 a6 a7 a8 false a10 a11) : Nat) : Int) - 2).toNat) - 0)) + 1 → (fun i => [I (q13 i)]) k = if k < (0 + ((((((dN a1 a2 a3 a4 a5 a6 a7 a8 false a10 a11) : Nat) : Int) - 2).toNat) - 0)) then (fun i => [I (q12 i)]) k else (fun i => [I (dV a5 a6 a7 false a8 a10 (((((dN a1 a2 a3 a4 a5 a6 a7 a8 false a10 a11) : Nat) : Int) - 1).toNat))]) (k - (0 + ((((((dN a1 a2 a3 a4 a5 a6 a7 a8 false a10 a11) : Nat) : Int) - 2).toNat) - 0))) from fun k hk => by
      have e0 := h19 k hk
      by_cases c : k < (0 + ((((((dN a1 a2 a3 a4 a5 a6 a7 a8 false a10 a11) : Nat) : Int) - 2).toNat) - 0))
      · rw [if_pos c] at e0 ⊢; simp only [e0]
      · rw [if_neg c] at e0 ⊢; simp only [e0]), h_ [.row (fun i => [I (q13 i)])], t_ rt, c_ [4, 9] (show S 16 [.sl 0 (dN a1 a2 a3 a4 a5 a6 a7 a8 true a10 a11), .sl 1 ((0 + ((((((dN a1 a2 a3 a4 a5 a6 a7 a8 false a10 a11) : Nat) : Int) - 2).toNat) - 0)) + 1)] [some (.row false 3 (dN a1 a2 a3 a4 a5 a6 a7 a8 true a10 a11) 1 (fun i => [I (dV a5 a6 a7 true a8 a10 i)])), some (.row false 3 ((0 + ((((((dN a1 a2 a3 a4 a5 a6 a7 a8 false a10 a11) : Nat) : Int) - 2).toNat) - 0)) + 1) 1 (fun i => [I (q13 i)]))] (B (decide ((dN a1 a2 a3 a4 a5 a6 a7 a8 true a10 a11) = ((0 + ((((((dN a1 a2 a3 a4 a5 a6 a7 a8 false a10 a11) : Nat) : Int) - 2).toNat) - 0)) + 1) ∧ ∀ i, i < (dN a1 a2 a3 a4 a5 a6 a7 a8 true a10 a11) → (fun i => dV a5 a6 a7 true a8 a10 i) i = q13 i))) [] from rRow h21), t_ rt]
          · obtain ⟨L10, K10⟩ := K9 h9
            refine hX.go [n_ 4 (f_ (beq_eq_false_iff_ne.2 h9)), n_ 3 (f_ rf)] ?_
            by_cases h10 : (((dN a1 a2 a3 a4 a5 a6 a7 a8 false a10 a11) : Nat) : Int) = 2
            · obtain ⟨h11, HE⟩ := L10 h10
              exact (hX.to (congrArg B HE).symm).e [t_ (beq_iff_eq.2 h10), n_ 3 (t_ rt), c_ [3, 4] (show S 16 [.sl 0 (dN a1 a2 a3 a4 a5 a6 a7 a8 false a10 a11), .sl 1 (dN a1 a2 a3 a4 a5 a6 a7 a8 true a10 a11)] [some (.row false 3 (dN a1 a2 a3 a4 a5 a6 a7 a8 false a10 a11) 1 (fun i => [I (dV a5 a6 a7 false a8 a10 i)])), some (.row false 3 (dN a1 a2 a3 a4 a5 a6 a7 a8 true a10 a11) 1 (fun i => [I (dV a5 a6 a7 true a8 a10 i)]))] (B (decide ((dN a1 a2 a3 a4 a5 a6 a7 a8 false a10 a11) = (dN a1 a2 a3 a4 a5 a6 a7 a8 true a10 a11) ∧ ∀ i, i < (dN a1 a2 a3 a4 a5 a6 a7 a8 false a10 a11) → (fun i => dV a5 a6 a7 false a8 a10 i) i = (fun i => dV a5 a6 a7 true a8 a10 i) i))) [] from rRow h11), t_ rt]
            · refine hX.go [f_ (beq_eq_false_iff_ne.2 h10), n_ 7 (f_ (beq_eq_false_iff_ne.2 h9)), f_ rf, f_ h6] ?_
              refine hX.rd [3, 4] ?_
              obtain ⟨h11, h12, h13, q12, h14, h15, h16, q13, h17, h18, h19, HE⟩ := K10 h10
              exact (hX.to (congrArg B HE).symm).e [d_ 16, t_ rt, t_ rt, q_ (show ∀ k, k < 0 → (fun i => [I 0]) k = [].getD k [] from by intro k hk; omega), h_ [.row (fun i => [I 0])], n_ 3 (t_ rt), q_ h11, t_ rt, q_ (show (dN a1 a2 a3 a4 a5 a6 a7 a8 false a10 a11) = (dN a1 a2 a3 a4 a5 a6 a7 a8 false a10 a11) from rfl), q_ h12, q_ h13, t_ rt, q_ (show ((((((dN a1 a2 a3 a4 a5 a6 a7 a8 false a10 a11) : Nat) : Int) - 2).toNat) - 0) = ((((((dN a1 a2 a3 a4 a5 a6 a7 a8 false a10 a11) : Nat) : Int) - 2).toNat) - 0) from rfl), q_ (re 0), q_ h15, q_ (show ∀ k, k < 0 + ((((((dN a1 a2 a3 a4 a5 a6 a7 a8 false a10 a11) : Nat) : Int) - 2).toNat) - 0) → (fun i => [I (q12 i)]) k = if k < 0 then (fun i => [I 0]) k else (fun i => [I (dV a5 a6 a7 false a8 a10 (i + 0))]) (k - 0) from fun k hk => by
      have e0 := h14 k hk
      by_cases c : k < 0
      · rw [if_pos c] at e0 ⊢; simp only [e0]
      · rw [if_neg c] at e0 ⊢; simp only [e0]), h_ [.row (fun i => [I (q12 i)])], n_ 3 (t_ rt), q_ h7, t_ rt, q_ h16, q_ (show (dN a1 a2 a3 a4 a5 a6 a7 a8 false a10 a11) = (dN a1 a2 a3 a4 a5 a6 a7 a8 false a10 a11) from rfl), t_ rt, q_ h16, t_ rt, q_ (show ∀ k, k < 1 → (fun i => [I (dV a5 a6 a7 false a8 a10 (((((dN a1 a2 a3 a4 a5 a6 a7 a8 false a10 a11) : Nat) : Int) - 1).toNat))]) k = [[I (dV a5 a6 a7 false a8 a10 (((((dN a1 a2 a3 a4 a5 a6 a7 a8 false a10 a11) : Nat) : Int) - 1).toNat))]].getD k [] from by intro k hk; match k, hk with | 0, _ => rfl | k + 1, hk => omega), h_ [.row (fun i => [I (dV a5 a6 a7 false a8 a10 (((((dN a1 a2 a3 a4 a5 a6 a7 a8 false a10 a11) : Nat) : Int) - 1).toNat))])], t_ rt, q_ (re 1), q_ (show (0 + ((((((dN a1 a2 a3 a4 a5 a6 a7 a8 false a10 a11) : Nat) : Int) - 2).toNat) - 0)) = (0 + ((((((dN a1 a2 a3 a4 a5 a6 a7 a8 false a10 a11) : Nat) : Int) - 2).toNat) - 0)) from rfl), q_ h18, q_ (show ∀ k, k < (0 + ((((((dN a1 a2 a3 a4 a5 a6 a7 a8 false a10 a11) : Nat) : Int) - 2).toNat) - 0)) + 1 → (fun i => [I (q13 i)]) k = if k < (0 + ((((((dN a1 a2 a3 a4 a5 a6 a7 a8 false a10 a11) : Nat) : Int) - 2).toNat) - 0)) then (fun i => [I (q12 i)]) k else (fun i => [I (dV a5 a6 a7 false a8 a10 (((((dN a1 a2 a3 a4 a5 a6 a7 a8 false a10 a11) : Nat) : Int) - 1).toNat))]) (k - (0 + ((((((dN a1 a2 a3 a4 a5 a6 a7 a8 false a10 a11) : Nat) : Int) - 2).toNat) - 0))) from fun k hk => by
      have e0 := h17 k hk
      by_cases c : k < (0 + ((((((dN a1 a2 a3 a4 a5 a6 a7 a8 false a10 a11) : Nat) : Int) - 2).toNat) - 0))
      · rw [if_pos c] at e0 ⊢; simp only [e0]
      · rw [if_neg c] at e0 ⊢; simp only [e0]), h_ [.row (fun i => [I (q13 i)])], t_ rt, c_ [4, 9] (show S 16 [.sl 0 (dN a1 a2 a3 a4 a5 a6 a7 a8 true a10 a11), .sl 1 ((0 + ((((((dN a1 a2 a3 a4 a5 a6 a7 a8 false a10 a11) : Nat) : Int) - 2).toNat) - 0)) + 1)] [some (.row false 3 (dN a1 a2 a3 a4 a5 a6 a7 a8 true a10 a11) 1 (fun i => [I (dV a5 a6 a7 true a8 a10 i)])), some (.row false 3 ((0 + ((((((dN a1 a2 a3 a4 a5 a6 a7 a8 false a10 a11) : Nat) : Int) - 2).toNat) - 0)) + 1) 1 (fun i => [I (q13 i)]))] (B (decide ((dN a1 a2 a3 a4 a5 a6 a7 a8 true a10 a11) = ((0 + ((((((dN a1 a2 a3 a4 a5 a6 a7 a8 false a10 a11) : Nat) : Int) - 2).toNat) - 0)) + 1) ∧ ∀ i, i < (dN a1 a2 a3 a4 a5 a6 a7 a8 true a10 a11) → (fun i => dV a5 a6 a7 true a8 a10 i) i = q13 i))) [] from rRow h19), t_ rt]
    · exact hX.e [t_ (nt h3)]
  · exact hX.e [n_ 4 (t_ (bne_iff_ne.2 h0)), t_ rt]

theorem dStub {a1 a2 a3 a4 a5 a6 a7 : Int} {a8 a9 a10 : Bool} {a11 : Int} :
    S 5 [.agg [I a1, I a2, I a3, I a4, I a5, I a6, I a7, B a8, B a9, B a10, I a11]] [] (B true) [] := by
  refine DatesStub_w (fun h0 => ?_)
  have hL := chk_loan h0
  have b1 := isDay_iff.1 hL.ds
  have b2 := isDay_iff.1 hL.de
  refine ⟨irT (by omega), fun h3 => ?_⟩
  have hm := hL.m1
  have hs : a6 - a5 ≤ 6200 * a7 := by have := (shB_t h3).1; omega
  have hmN := mN_le (back := a8) (eom := a10) hL hs
  have hgN := (gN_le (back := a8) (eom := a10) hL hs).2
  have hd := dM_le (s := a5) (e := a6) (mo := a7) (long := true) (back := a8) (eom := a10)
  have hF := dM_false (s := a5) (e := a6) (mo := a7) (back := a8) (eom := a10)
  rw [dN_eq h0, dN_eq h0]
  have q1 : farS a5 a6 a7 a8 a10 ∨ dM a5 a6 a7 false a8 a10 = 0 → dM a5 a6 a7 true a8 a10 = dM a5 a6 a7 false a8 a10 := by
    rintro (c | c)
    · rw [hF]; exact dM_far hL hs c
    · omega
  have q2 : ¬ farS a5 a6 a7 a8 a10 → dM a5 a6 a7 false a8 a10 ≠ 0 → dM a5 a6 a7 true a8 a10 + 1 = dM a5 a6 a7 false a8 a10 := by
    intro c c'
    have := dM_stub hL hs c
    omega
  have q3 : (stp a5 a6 a7 a8 a10 (dM a5 a6 a7 false a8 a10 + 1)).2 = 0 → ¬ ((stp a5 a6 a7 a8 a10 (dM a5 a6 a7 false a8 a10 + 1)).1 > a5 ∧ (stp a5 a6 a7 a8 a10 (dM a5 a6 a7 false a8 a10 + 1)).1 < a6) := by
    intro c; rw [hF] at c ⊢; exact btw_f.1 (mN_lt hL hs c).2
  have q4 : farS a5 a6 a7 a8 a10 ↔ (stp a5 a6 a7 a8 a10 (dM a5 a6 a7 false a8 a10 + 1)).2 = 0 ∧ (stp a5 a6 a7 a8 a10 (dM a5 a6 a7 false a8 a10 + 1)).1 = if a8 = true then a5 else a6 := by
    rw [hF]; exact Iff.rfl
  have q5 := fun h => rows_same (s := a5) (e := a6) (mo := a7) (back := a8) (eom := a10) (q1 h) (n := dM a5 a6 a7 false a8 a10 + 2) (m := dM a5 a6 a7 true a8 a10 + 2) rfl rfl
  have q6 : a8 = true → ¬ farS a5 a6 a7 a8 a10 → dM a5 a6 a7 false a8 a10 ≠ 0 → ∀ i, i < dM a5 a6 a7 true a8 a10 + 2 → dV a5 a6 a7 true a8 a10 i = if i < 1 then dV a5 a6 a7 false a8 a10 0 else dV a5 a6 a7 false a8 a10 ((i - 1) + 2) := fun hb c c' i hi => stub_back hL hs hb (q2 c c') (by omega)
  have q7 : a8 = false → ¬ farS a5 a6 a7 a8 a10 → dM a5 a6 a7 false a8 a10 ≠ 0 → ∀ i, i < dM a5 a6 a7 true a8 a10 + 2 → dV a5 a6 a7 true a8 a10 i = if i < dM a5 a6 a7 false a8 a10 then dV a5 a6 a7 false a8 a10 i else a6 := fun hb c c' i hi => stub_fwd hL hb (q2 c c') (by omega)
  have q8 : dV a5 a6 a7 false a8 a10 (dM a5 a6 a7 false a8 a10 + 1) = a6 := dV_last
  have hM : dM a5 a6 a7 false a8 a10 ≤ 250 := by omega
  have hM' : dM a5 a6 a7 true a8 a10 ≤ 250 := by omega
  obtain ⟨m1, m2, m3, m4⟩ := mul_le (k := ((dM a5 a6 a7 false a8 a10 + 2 : Nat) : Int) - 1) (K := dM a5 a6 a7 false a8 a10 + 1) hL (by omega) (by omega)
  have eB : a8 = true → mv a6 ((((dM a5 a6 a7 false a8 a10 + 2 : Nat) : Int) - 1) * (0 - a7)) a10 = stp a5 a6 a7 a8 a10 (dM a5 a6 a7 false a8 a10 + 1) := by
    intro hb; rw [show stp a5 a6 a7 a8 a10 = stp a5 a6 a7 true a10 by rw [hb], stp_t]; congr 1; rw [Int.zero_sub]; congr 1; omega
  have eF : a8 = false → mv a5 ((((dM a5 a6 a7 false a8 a10 + 2 : Nat) : Int) - 1) * a7) a10 = stp a5 a6 a7 a8 a10 (dM a5 a6 a7 false a8 a10 + 1) := by
    intro hb; rw [show stp a5 a6 a7 a8 a10 = stp a5 a6 a7 false a10 by rw [hb], stp_f]; congr 2; omega
  have qf : a8 = true → (stp a5 a6 a7 a8 a10 (dM a5 a6 a7 false a8 a10 + 1)).2 = 0 → (stp a5 a6 a7 a8 a10 (dM a5 a6 a7 false a8 a10 + 1)).1 < a6 := by
    intro hb c; have key : ∀ k : Nat, 1 ≤ k → (stp a5 a6 a7 a8 a10 k).2 = 0 → (stp a5 a6 a7 a8 a10 k).1 < a6 := fun k hk => by have := (stp_far hL (k := k) (eom := a10) hk).2; rw [← hb] at this; exact fun z => (this z).2
    exact key _ (by omega) c
  have qg : a8 = false → (stp a5 a6 a7 a8 a10 (dM a5 a6 a7 false a8 a10 + 1)).2 = 0 → a5 < (stp a5 a6 a7 a8 a10 (dM a5 a6 a7 false a8 a10 + 1)).1 := by
    intro hb c; have key : ∀ k : Nat, 1 ≤ k → (stp a5 a6 a7 a8 a10 k).2 = 0 → a5 < (stp a5 a6 a7 a8 a10 k).1 := fun k hk => by have := (stp_far hL (k := k) (eom := a10) hk).1; rw [← hb] at this; exact fun z => (this z).2
    exact key _ (by omega) c
  generalize dM a5 a6 a7 false a8 a10 = M at *
  generalize dM a5 a6 a7 true a8 a10 = M' at *
  generalize dV a5 a6 a7 false a8 a10 = V at *
  generalize dV a5 a6 a7 true a8 a10 = V' at *
  generalize farS a5 a6 a7 a8 a10 = F at *
  generalize hS : stp a5 a6 a7 a8 a10 (M + 1) = S' at *
  have bk : a8 = true → ¬ F → ((M + 2 : Nat) : Int) ≠ 2 → decide (M' + 2 = 1 + ((((M + 2 : Nat) : Int)).toNat - 2) ∧ ∀ i, i < M' + 2 → (fun i => V' i) i = (fun k => if k < 1 then V 0 else V ((k - 1) + 2)) i) = true := by
    intro hb c c'
    have := q2 c (by omega)
    exact decide_eq_true ⟨by omega, fun i hi => q6 hb c (by omega) i hi⟩
  have fw : a8 = false → ¬ F → ((M + 2 : Nat) : Int) ≠ 2 → decide (M' + 2 = (0 + ((((M + 2 : Nat) : Int) - 2).toNat - 0)) + 1 ∧ ∀ i, i < M' + 2 → (fun i => V' i) i = (fun k => if k < 0 + ((((M + 2 : Nat) : Int) - 2).toNat - 0) then (fun k => if k < 0 then 0 else V ((k - 0) + 0)) k else V ((((M + 2 : Nat) : Int) - 1).toNat)) i) = true := by
    intro hb c c'
    have := q2 c (by omega)
    refine decide_eq_true ⟨by omega, fun i hi => ?_⟩
    rw [show 0 + ((((M + 2 : Nat) : Int) - 2).toNat - 0) = M by omega, show (((M + 2 : Nat) : Int) - 1).toNat = M + 1 by omega, q8]
    exact q7 hb c (by omega) i hi
  refine ⟨fun _ => hs, by omega, fun hb => ?_, fun hb => ?_⟩
  · rw [eB hb]
    rw [if_pos hb] at q4
    refine ⟨irT (by have := hL.m2; omega), irT (by omega), irT (by omega), fun hz => ⟨fun hx => ⟨by omega, q5 (.inl (q4.2 ⟨hz, hx⟩))⟩, fun hx => ⟨fun h2 => ⟨by omega, q5 (.inr (by omega))⟩, fun h2 => ⟨?_, by omega, by omega, _, fun _ _ => rfl, by omega, by omega, bk hb (fun c => hx (q4.1 c).2) h2⟩⟩⟩, fun hz => ⟨fun h2 => ⟨by omega, q5 (.inr (by omega))⟩, fun h2 => ⟨by omega, by omega, _, fun _ _ => rfl, by omega, by omega, bk hb (fun c => hz (q4.1 c).1) h2⟩⟩⟩
    have h1 := q3 hz
    have h2 := qf hb hz
    omega
  · rw [eF hb]
    rw [if_neg (by rw [hb]; decide)] at q4
    refine ⟨irT (by omega), irT (by omega), fun hz => ⟨fun hx => ⟨by omega, q5 (.inl (q4.2 ⟨hz, hx⟩))⟩, fun hx => ⟨fun h2 => ⟨by omega, q5 (.inr (by omega))⟩, fun h2 => ⟨?_, irT (by omega), by omega, by omega, _, fun _ _ => rfl, by omega, by omega, _, fun _ _ => rfl, by omega, by omega, fw hb (fun c => hx (q4.1 c).2) h2⟩⟩⟩, fun hz => ⟨fun h2 => ⟨by omega, q5 (.inr (by omega))⟩, fun h2 => ⟨irT (by omega), by omega, by omega, _, fun _ _ => rfl, by omega, by omega, _, fun _ _ => rfl, by omega, by omega, fw hb (fun c => hz (q4.1 c).1) h2⟩⟩⟩
    have h1 := q3 hz
    have h2 := qg hb hz
    omega

end Go.Proofs.YthfmjoeampekgaaGreatDoor
