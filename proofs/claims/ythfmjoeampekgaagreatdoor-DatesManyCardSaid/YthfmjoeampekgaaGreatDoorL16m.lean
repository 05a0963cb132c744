/-
  Chapter 16's laws: MANY.
-/
import Derived.Test.YthfmjoeampekgaaGreatDoorDg
import Derived.Test.YthfmjoeampekgaaGreatDoorProg
import Derived.KernelRfl
set_option linter.unusedVariables false
set_option linter.unusedSimpArgs false
set_option linter.unusedSectionVars false
set_option maxRecDepth 100000
namespace Go.Proofs.YthfmjoeampekgaaGreatDoor
open Go Go.Sx
variable [EnvT]

theorem DatesMany_w {a1 a2 a3 : Int} {a4 : Bool}  (H : (0 : Int) ≤ a3 ∧ ((0 : Int) ≤ (a3 % 6) ∧ (a3 % 6) < ((6 : Nat) : Int)) ∧ Ir a2 ∧ (0 : Int) ≤ a2 ∧ Ir (1 + (a2 % 100)) ∧ Ir ((1 + (a2 % 100)) * ([1, 2, 3, 4, 6, 12].getD ((a3 % 6).toNat) 0)) ∧ ((cE a1) = 0 → (((mv a1 ((1 + (a2 % 100)) * ([1, 2, 3, 4, 6, 12].getD ((a3 % 6).toNat) 0)) false).2) = 0 → (¬ (cD a1) > 28 → (¬ ((mv a1 ((1 + (a2 % 100)) * ([1, 2, 3, 4, 6, 12].getD ((a3 % 6).toNat) 0)) false).1) > 3652000 → (chk 1 0 0 0 a1 ((mv a1 ((1 + (a2 % 100)) * ([1, 2, 3, 4, 6, 12].getD ((a3 % 6).toNat) 0)) false).1) ([1, 2, 3, 4, 6, 12].getD ((a3 % 6).toNat) 0) 0 = 0 → ((mv a1 ((1 + (a2 % 100)) * ([1, 2, 3, 4, 6, 12].getD ((a3 % 6).toNat) 0)) false).1) - a1 ≤ 6200 * ([1, 2, 3, 4, 6, 12].getD ((a3 % 6).toNat) 0)) ∧ (chk 1 0 0 0 a1 ((mv a1 ((1 + (a2 % 100)) * ([1, 2, 3, 4, 6, 12].getD ((a3 % 6).toNat) 0)) false).1) ([1, 2, 3, 4, 6, 12].getD ((a3 % 6).toNat) 0) 0) = 0 ∧ Ir ((1 + (a2 % 100)) + 1) ∧ (((dN 1 0 0 0 a1 ((mv a1 ((1 + (a2 % 100)) * ([1, 2, 3, 4, 6, 12].getD ((a3 % 6).toNat) 0)) false).1) ([1, 2, 3, 4, 6, 12].getD ((a3 % 6).toNat) 0) false a4 false 0) : Nat) : Int) = ((1 + (a2 % 100)) + 1) ∧ (dN 1 0 0 0 a1 ((mv a1 ((1 + (a2 % 100)) * ([1, 2, 3, 4, 6, 12].getD ((a3 % 6).toNat) 0)) false).1) ([1, 2, 3, 4, 6, 12].getD ((a3 % 6).toNat) 0) false a4 false 0) < 9223372036854775807 ∧ ((decide ((dN 1 0 0 0 a1 ((mv a1 ((1 + (a2 % 100)) * ([1, 2, 3, 4, 6, 12].getD ((a3 % 6).toNat) 0)) false).1) ([1, 2, 3, 4, 6, 12].getD ((a3 % 6).toNat) 0) false a4 false 0) = (dN 1 0 0 0 a1 ((mv a1 ((1 + (a2 % 100)) * ([1, 2, 3, 4, 6, 12].getD ((a3 % 6).toNat) 0)) false).1) ([1, 2, 3, 4, 6, 12].getD ((a3 % 6).toNat) 0) true a4 false 0) ∧ ∀ i, i < (dN 1 0 0 0 a1 ((mv a1 ((1 + (a2 % 100)) * ([1, 2, 3, 4, 6, 12].getD ((a3 % 6).toNat) 0)) false).1) ([1, 2, 3, 4, 6, 12].getD ((a3 % 6).toNat) 0) false a4 false 0) → (fun i => dV a1 ((mv a1 ((1 + (a2 % 100)) * ([1, 2, 3, 4, 6, 12].getD ((a3 % 6).toNat) 0)) false).1) ([1, 2, 3, 4, 6, 12].getD ((a3 % 6).toNat) 0) a4 false false i) i = (fun i => dV a1 ((mv a1 ((1 + (a2 % 100)) * ([1, 2, 3, 4, 6, 12].getD ((a3 % 6).toNat) 0)) false).1) ([1, 2, 3, 4, 6, 12].getD ((a3 % 6).toNat) 0) a4 true false i) i)) = true) ∧ Ir (((mv a1 ((1 + (a2 % 100)) * ([1, 2, 3, 4, 6, 12].getD ((a3 % 6).toNat) 0)) false).1) + 1) ∧ (chk 1 0 0 0 a1 (((mv a1 ((1 + (a2 % 100)) * ([1, 2, 3, 4, 6, 12].getD ((a3 % 6).toNat) 0)) false).1) + 1) ([1, 2, 3, 4, 6, 12].getD ((a3 % 6).toNat) 0) 0 = 0 → (((mv a1 ((1 + (a2 % 100)) * ([1, 2, 3, 4, 6, 12].getD ((a3 % 6).toNat) 0)) false).1) + 1) - a1 ≤ 6200 * ([1, 2, 3, 4, 6, 12].getD ((a3 % 6).toNat) 0)) ∧ (chk 1 0 0 0 a1 (((mv a1 ((1 + (a2 % 100)) * ([1, 2, 3, 4, 6, 12].getD ((a3 % 6).toNat) 0)) false).1) + 1) ([1, 2, 3, 4, 6, 12].getD ((a3 % 6).toNat) 0) 0) = 0 ∧ Ir ((1 + (a2 % 100)) + 2) ∧ (((dN 1 0 0 0 a1 (((mv a1 ((1 + (a2 % 100)) * ([1, 2, 3, 4, 6, 12].getD ((a3 % 6).toNat) 0)) false).1) + 1) ([1, 2, 3, 4, 6, 12].getD ((a3 % 6).toNat) 0) false false false 0) : Nat) : Int) = ((1 + (a2 % 100)) + 2) ∧ ((((dN 1 0 0 0 a1 (((mv a1 ((1 + (a2 % 100)) * ([1, 2, 3, 4, 6, 12].getD ((a3 % 6).toNat) 0)) false).1) + 1) ([1, 2, 3, 4, 6, 12].getD ((a3 % 6).toNat) 0) false true false 0) : Nat) : Int) == ((1 + (a2 % 100)) + 1)) = true))))) :
    S 7 [.agg [I a1, N .u8 a2, N .u8 a3, B a4]] [] (B true) [] := by
  refine SCall.st fun X hX => ?_
  obtain ⟨h0, h1, h2, h3, h4, h5, K6⟩ := H
  refine hX.go [c_ [] shown16, q_ (show ∀ k, k < 6 → (fun i => [I ([1, 2, 3, 4, 6, 12].getD i 0)]) k = [[I 1], [I 2], [I 3], [I 4], [I 6], [I 12]].getD k [] from by intro k hk; match k, hk with | 0, _ => rfl | 1, _ => rfl | 2, _ => rfl | 3, _ => rfl | 4, _ => rfl | 5, _ => rfl | k + 6, hk => omega), q_ h0, q_ (show (0 : Int) < 6 from by decide), q_ h1, q_ (re 6), q_ h1, q_ h2, q_ h3, q_ (show (0 : Int) < 100 from by decide), q_ h4, h_ [.row (fun i => [I ([1, 2, 3, 4, 6, 12].getD i 0)])], c_ [] (rOfT a1), q_ h5, c_ [] (rShift a1 ((1 + (a2 % 100)) * ([1, 2, 3, 4, 6, 12].getD ((a3 % 6).toNat) 0)))] ?_
  by_cases h6 : (cE a1) = 0
  · have K7 := K6 h6
    refine hX.go [n_ 3 (f_ (bne_eq_false_iff_eq.2 h6))] ?_
    by_cases h7 : ((mv a1 ((1 + (a2 % 100)) * ([1, 2, 3, 4, 6, 12].getD ((a3 % 6).toNat) 0)) false).2) = 0
    · have K8 := K7 h7
      refine hX.go [n_ 4 (f_ (bne_eq_false_iff_eq.2 h7))] ?_
      by_cases h8 : (cD a1) > 28
      · exact hX.e [n_ 3 (t_ (dt h8)), t_ rt]
      · have K9 := K8 h8
        refine hX.go [n_ 3 (f_ (df h8))] ?_
        by_cases h9 : ((mv a1 ((1 + (a2 % 100)) * ([1, 2, 3, 4, 6, 12].getD ((a3 % 6).toNat) 0)) false).1) > 3652000
        · exact hX.e [t_ (dt h9)]
        · obtain ⟨h10, c11, K11⟩ := K9 h9
          refine hX.go [f_ (df h9), c_ [] (show S 14 [.agg [I 1, I 0, I 0, I 0, I a1, I ((mv a1 ((1 + (a2 % 100)) * ([1, 2, 3, 4, 6, 12].getD ((a3 % 6).toNat) 0)) false).1), I ([1, 2, 3, 4, 6, 12].getD ((a3 % 6).toNat) 0), B false, B a4, B false, I 0]] [] (.tup [.sl 0 (dN 1 0 0 0 a1 ((mv a1 ((1 + (a2 % 100)) * ([1, 2, 3, 4, 6, 12].getD ((a3 % 6).toNat) 0)) false).1) ([1, 2, 3, 4, 6, 12].getD ((a3 % 6).toNat) 0) false a4 false 0), I (chk 1 0 0 0 a1 ((mv a1 ((1 + (a2 % 100)) * ([1, 2, 3, 4, 6, 12].getD ((a3 % 6).toNat) 0)) false).1) ([1, 2, 3, 4, 6, 12].getD ((a3 % 6).toNat) 0) 0)]) [some (.row true 3 (dN 1 0 0 0 a1 ((mv a1 ((1 + (a2 % 100)) * ([1, 2, 3, 4, 6, 12].getD ((a3 % 6).toNat) 0)) false).1) ([1, 2, 3, 4, 6, 12].getD ((a3 % 6).toNat) 0) false a4 false 0) 1 (fun i => [I (dV a1 ((mv a1 ((1 + (a2 % 100)) * ([1, 2, 3, 4, 6, 12].getD ((a3 % 6).toNat) 0)) false).1) ([1, 2, 3, 4, 6, 12].getD ((a3 % 6).toNat) 0) a4 false false i)]))] from dOf _ _ _ _ _ _ _ _ _ _ _ h10), c_ [] (show S 14 [.agg [I 1, I 0, I 0, I 0, I a1, I ((mv a1 ((1 + (a2 % 100)) * ([1, 2, 3, 4, 6, 12].getD ((a3 % 6).toNat) 0)) false).1), I ([1, 2, 3, 4, 6, 12].getD ((a3 % 6).toNat) 0), B true, B a4, B false, I 0]] [] (.tup [.sl 0 (dN 1 0 0 0 a1 ((mv a1 ((1 + (a2 % 100)) * ([1, 2, 3, 4, 6, 12].getD ((a3 % 6).toNat) 0)) false).1) ([1, 2, 3, 4, 6, 12].getD ((a3 % 6).toNat) 0) true a4 false 0), I (chk 1 0 0 0 a1 ((mv a1 ((1 + (a2 % 100)) * ([1, 2, 3, 4, 6, 12].getD ((a3 % 6).toNat) 0)) false).1) ([1, 2, 3, 4, 6, 12].getD ((a3 % 6).toNat) 0) 0)]) [some (.row true 3 (dN 1 0 0 0 a1 ((mv a1 ((1 + (a2 % 100)) * ([1, 2, 3, 4, 6, 12].getD ((a3 % 6).toNat) 0)) false).1) ([1, 2, 3, 4, 6, 12].getD ((a3 % 6).toNat) 0) true a4 false 0) 1 (fun i => [I (dV a1 ((mv a1 ((1 + (a2 % 100)) * ([1, 2, 3, 4, 6, 12].getD ((a3 % 6).toNat) 0)) false).1) ([1, 2, 3, 4, 6, 12].getD ((a3 % 6).toNat) 0) a4 true false i)]))] from dOf _ _ _ _ _ _ _ _ _ _ _ h10)] ?_
          by_cases h11 : (chk 1 0 0 0 a1 ((mv a1 ((1 + (a2 % 100)) * ([1, 2, 3, 4, 6, 12].getD ((a3 % 6).toNat) 0)) false).1) ([1, 2, 3, 4, 6, 12].getD ((a3 % 6).toNat) 0) 0) = 0
          · obtain ⟨h12, c13, K13⟩ := K11
            refine hX.go [n_ 7 (f_ (bne_eq_false_iff_eq.2 h11)), q_ h12, f_ (bne_eq_false_iff_eq.2 h11), f_ (bne_eq_false_iff_eq.2 h11)] ?_
            by_cases h13 : (((dN 1 0 0 0 a1 ((mv a1 ((1 + (a2 % 100)) * ([1, 2, 3, 4, 6, 12].getD ((a3 % 6).toNat) 0)) false).1) ([1, 2, 3, 4, 6, 12].getD ((a3 % 6).toNat) 0) false a4 false 0) : Nat) : Int) = ((1 + (a2 % 100)) + 1)
            · obtain ⟨h14, c15, K15⟩ := K13
              refine hX.go [n_ 3 (f_ (bne_eq_false_iff_eq.2 h13)), c_ [4, 5] (show S 16 [.sl 0 (dN 1 0 0 0 a1 ((mv a1 ((1 + (a2 % 100)) * ([1, 2, 3, 4, 6, 12].getD ((a3 % 6).toNat) 0)) false).1) ([1, 2, 3, 4, 6, 12].getD ((a3 % 6).toNat) 0) false a4 false 0), .sl 1 (dN 1 0 0 0 a1 ((mv a1 ((1 + (a2 % 100)) * ([1, 2, 3, 4, 6, 12].getD ((a3 % 6).toNat) 0)) false).1) ([1, 2, 3, 4, 6, 12].getD ((a3 % 6).toNat) 0) true a4 false 0)] [some (.row false 3 (dN 1 0 0 0 a1 ((mv a1 ((1 + (a2 % 100)) * ([1, 2, 3, 4, 6, 12].getD ((a3 % 6).toNat) 0)) false).1) ([1, 2, 3, 4, 6, 12].getD ((a3 % 6).toNat) 0) false a4 false 0) 1 (fun i => [I (dV a1 ((mv a1 ((1 + (a2 % 100)) * ([1, 2, 3, 4, 6, 12].getD ((a3 % 6).toNat) 0)) false).1) ([1, 2, 3, 4, 6, 12].getD ((a3 % 6).toNat) 0) a4 false false i)])), some (.row false 3 (dN 1 0 0 0 a1 ((mv a1 ((1 + (a2 % 100)) * ([1, 2, 3, 4, 6, 12].getD ((a3 % 6).toNat) 0)) false).1) ([1, 2, 3, 4, 6, 12].getD ((a3 % 6).toNat) 0) true a4 false 0) 1 (fun i => [I (dV a1 ((mv a1 ((1 + (a2 % 100)) * ([1, 2, 3, 4, 6, 12].getD ((a3 % 6).toNat) 0)) false).1) ([1, 2, 3, 4, 6, 12].getD ((a3 % 6).toNat) 0) a4 true false i)]))] (B (decide ((dN 1 0 0 0 a1 ((mv a1 ((1 + (a2 % 100)) * ([1, 2, 3, 4, 6, 12].getD ((a3 % 6).toNat) 0)) false).1) ([1, 2, 3, 4, 6, 12].getD ((a3 % 6).toNat) 0) false a4 false 0) = (dN 1 0 0 0 a1 ((mv a1 ((1 + (a2 % 100)) * ([1, 2, 3, 4, 6, 12].getD ((a3 % 6).toNat) 0)) false).1) ([1, 2, 3, 4, 6, 12].getD ((a3 % 6).toNat) 0) true a4 false 0) ∧ ∀ i, i < (dN 1 0 0 0 a1 ((mv a1 ((1 + (a2 % 100)) * ([1, 2, 3, 4, 6, 12].getD ((a3 % 6).toNat) 0)) false).1) ([1, 2, 3, 4, 6, 12].getD ((a3 % 6).toNat) 0) false a4 false 0) → (fun i => dV a1 ((mv a1 ((1 + (a2 % 100)) * ([1, 2, 3, 4, 6, 12].getD ((a3 % 6).toNat) 0)) false).1) ([1, 2, 3, 4, 6, 12].getD ((a3 % 6).toNat) 0) a4 false false i) i = (fun i => dV a1 ((mv a1 ((1 + (a2 % 100)) * ([1, 2, 3, 4, 6, 12].getD ((a3 % 6).toNat) 0)) false).1) ([1, 2, 3, 4, 6, 12].getD ((a3 % 6).toNat) 0) a4 true false i) i))) [] from rRow h14), f_ (bne_eq_false_iff_eq.2 h13), f_ (bne_eq_false_iff_eq.2 h13)] ?_
              rcases bcase (decide ((dN 1 0 0 0 a1 ((mv a1 ((1 + (a2 % 100)) * ([1, 2, 3, 4, 6, 12].getD ((a3 % 6).toNat) 0)) false).1) ([1, 2, 3, 4, 6, 12].getD ((a3 % 6).toNat) 0) false a4 false 0) = (dN 1 0 0 0 a1 ((mv a1 ((1 + (a2 % 100)) * ([1, 2, 3, 4, 6, 12].getD ((a3 % 6).toNat) 0)) false).1) ([1, 2, 3, 4, 6, 12].getD ((a3 % 6).toNat) 0) true a4 false 0) ∧ ∀ i, i < (dN 1 0 0 0 a1 ((mv a1 ((1 + (a2 % 100)) * ([1, 2, 3, 4, 6, 12].getD ((a3 % 6).toNat) 0)) false).1) ([1, 2, 3, 4, 6, 12].getD ((a3 % 6).toNat) 0) false a4 false 0) → (fun i => dV a1 ((mv a1 ((1 + (a2 % 100)) * ([1, 2, 3, 4, 6, 12].getD ((a3 % 6).toNat) 0)) false).1) ([1, 2, 3, 4, 6, 12].getD ((a3 % 6).toNat) 0) a4 false false i) i = (fun i => dV a1 ((mv a1 ((1 + (a2 % 100)) * ([1, 2, 3, 4, 6, 12].getD ((a3 % 6).toNat) 0)) false).1) ([1, 2, 3, 4, 6, 12].getD ((a3 % 6).toNat) 0) a4 true false i) i)) with h15 | h15
              · obtain ⟨h16, h17, c18, K18⟩ := K15
                refine hX.go [f_ (nf h15), q_ h16, c_ [] (show S 14 [.agg [I 1, I 0, I 0, I 0, I a1, I (((mv a1 ((1 + (a2 % 100)) * ([1, 2, 3, 4, 6, 12].getD ((a3 % 6).toNat) 0)) false).1) + 1), I ([1, 2, 3, 4, 6, 12].getD ((a3 % 6).toNat) 0), B false, B false, B false, I 0]] [] (.tup [.sl 0 (dN 1 0 0 0 a1 (((mv a1 ((1 + (a2 % 100)) * ([1, 2, 3, 4, 6, 12].getD ((a3 % 6).toNat) 0)) false).1) + 1) ([1, 2, 3, 4, 6, 12].getD ((a3 % 6).toNat) 0) false false false 0), I (chk 1 0 0 0 a1 (((mv a1 ((1 + (a2 % 100)) * ([1, 2, 3, 4, 6, 12].getD ((a3 % 6).toNat) 0)) false).1) + 1) ([1, 2, 3, 4, 6, 12].getD ((a3 % 6).toNat) 0) 0)]) [some (.row true 3 (dN 1 0 0 0 a1 (((mv a1 ((1 + (a2 % 100)) * ([1, 2, 3, 4, 6, 12].getD ((a3 % 6).toNat) 0)) false).1) + 1) ([1, 2, 3, 4, 6, 12].getD ((a3 % 6).toNat) 0) false false false 0) 1 (fun i => [I (dV a1 (((mv a1 ((1 + (a2 % 100)) * ([1, 2, 3, 4, 6, 12].getD ((a3 % 6).toNat) 0)) false).1) + 1) ([1, 2, 3, 4, 6, 12].getD ((a3 % 6).toNat) 0) false false false i)]))] from dOf _ _ _ _ _ _ _ _ _ _ _ h17), c_ [] (show S 14 [.agg [I 1, I 0, I 0, I 0, I a1, I (((mv a1 ((1 + (a2 % 100)) * ([1, 2, 3, 4, 6, 12].getD ((a3 % 6).toNat) 0)) false).1) + 1), I ([1, 2, 3, 4, 6, 12].getD ((a3 % 6).toNat) 0), B false, B true, B false, I 0]] [] (.tup [.sl 0 (dN 1 0 0 0 a1 (((mv a1 ((1 + (a2 % 100)) * ([1, 2, 3, 4, 6, 12].getD ((a3 % 6).toNat) 0)) false).1) + 1) ([1, 2, 3, 4, 6, 12].getD ((a3 % 6).toNat) 0) false true false 0), I (chk 1 0 0 0 a1 (((mv a1 ((1 + (a2 % 100)) * ([1, 2, 3, 4, 6, 12].getD ((a3 % 6).toNat) 0)) false).1) + 1) ([1, 2, 3, 4, 6, 12].getD ((a3 % 6).toNat) 0) 0)]) [some (.row true 3 (dN 1 0 0 0 a1 (((mv a1 ((1 + (a2 % 100)) * ([1, 2, 3, 4, 6, 12].getD ((a3 % 6).toNat) 0)) false).1) + 1) ([1, 2, 3, 4, 6, 12].getD ((a3 % 6).toNat) 0) false true false 0) 1 (fun i => [I (dV a1 (((mv a1 ((1 + (a2 % 100)) * ([1, 2, 3, 4, 6, 12].getD ((a3 % 6).toNat) 0)) false).1) + 1) ([1, 2, 3, 4, 6, 12].getD ((a3 % 6).toNat) 0) true false false i)]))] from dOf _ _ _ _ _ _ _ _ _ _ _ h17), n_ 3 (t_ rt)] ?_
                by_cases h18 : (chk 1 0 0 0 a1 (((mv a1 ((1 + (a2 % 100)) * ([1, 2, 3, 4, 6, 12].getD ((a3 % 6).toNat) 0)) false).1) + 1) ([1, 2, 3, 4, 6, 12].getD ((a3 % 6).toNat) 0) 0) = 0
                · obtain ⟨h19, c20, K20⟩ := K18
                  refine hX.go [n_ 7 (t_ (beq_iff_eq.2 h18)), q_ h19, t_ (beq_iff_eq.2 h18), t_ (beq_iff_eq.2 h18)] ?_
                  by_cases h20 : (((dN 1 0 0 0 a1 (((mv a1 ((1 + (a2 % 100)) * ([1, 2, 3, 4, 6, 12].getD ((a3 % 6).toNat) 0)) false).1) + 1) ([1, 2, 3, 4, 6, 12].getD ((a3 % 6).toNat) 0) false false false 0) : Nat) : Int) = ((1 + (a2 % 100)) + 2)
                  · have HE := K20
                    exact (hX.to (congrArg B HE).symm).e [n_ 4 (t_ (beq_iff_eq.2 h20)), q_ h12, t_ (beq_iff_eq.2 h20), t_ (beq_iff_eq.2 h20)]
                  · exact absurd c20 h20
                · exact absurd c18 h18
              · exact Go.Sx.nob c15 h15
            · exact absurd c13 h13
          · exact absurd c11 h11
    · exact hX.e [n_ 4 (t_ (bne_iff_ne.2 h7)), n_ 4 (t_ rt)]
  · exact hX.e [n_ 3 (t_ (bne_iff_ne.2 h6)), n_ 8 (t_ rt)]

variable {s e mo : Int} {long back eom : Bool}
/-- How many steps lie between: told by where they stand. -/
theorem mN_uniq (h : Loan s e mo) (hs : e - s ≤ 6200 * mo) {K : Nat} (h1 : ∀ j, 1 ≤ j → j ≤ K → (stp s e mo back eom j).2 = 0 ∧ s < (stp s e mo back eom j).1 ∧ (stp s e mo back eom j).1 < e)
    (h2 : (stp s e mo back eom (K + 1)).2 = 0 → ¬ (s < (stp s e mo back eom (K + 1)).1 ∧ (stp s e mo back eom (K + 1)).1 < e)) : mN s e mo back eom = K := by
  have hm := mN_le (back := back) (eom := eom) h hs
  obtain ⟨q1, -, -⟩ := gN_ok (back := back) (eom := eom) h hs
  rcases Nat.lt_trichotomy (mN s e mo back eom) K with c | c | c
  · have g := h1 (mN s e mo back eom + 1) (by omega) (by omega)
    have := btw_f.1 (mN_lt h hs g.1).2
    exact absurd ⟨g.2.1, g.2.2⟩ this
  · exact c
  · have g := q1 (K + 1) (by omega)
    have b := btw_t.1 ((st_btw h hs (by omega)).2 ⟨by omega, c⟩)
    exact absurd ⟨b.1, b.2⟩ (h2 g)

/-- A day of the 28th at most, moved, keeps its place in the month. -/
theorem mv_28 {n k : Int} (hn : isDay n = true) (hd : cD n ≤ 28) (h1 : 12 ≤ mIdx n + k) (h2 : mIdx n + k ≤ 119999) : mv n k false = (mSt (mIdx n + k) + cD n, 0) := by
  rw [mv_ok ⟨hn, h1, h2⟩]
  have := mLn_le (mIdx n + k)
  unfold tgt
  rw [Bool.false_and, if_neg (by decide), if_pos (by omega)]
theorem cD_month {m d : Int} (h1 : 12 ≤ m) (h2 : m ≤ 119999) (h3 : 1 ≤ d) (h4 : d ≤ mLn m) : cD (mSt m + d) = d := by
  obtain ⟨a1, a2, a3, a4, a5⟩ := day_idx (in_month h1 h2 h3 h4)
  rw [mIdx_month h1 h2 h3 h4] at a5; omega

structure Many (n m : Int) (K : Nat) (E : Int) : Prop where
  dn : isDay n = true
  d28 : cD n ≤ 28
  fm : frq m ≠ 0
  m1 : 1 ≤ m
  m2 : m ≤ 12
  k1 : 1 ≤ K
  k2 : K ≤ 100
  z : (mv n ((K : Int) * m) false).2 = 0
  v : (mv n ((K : Int) * m) false).1 = E
  le : E ≤ 3652000

theorem Many.step {n m E : Int} {K : Nat} (h : Many n m K E) {j : Nat} (hj : j ≤ K) : 12 ≤ mIdx n + (j : Int) * m ∧ mIdx n + (j : Int) * m ≤ 119999 ∧ (j : Int) * m ≤ (K : Int) * m ∧ mv n ((j : Int) * m) false = (mSt (mIdx n + (j : Int) * m) + cD n, 0) := by
  have hi := (mv_iff.1 h.z).2
  have hd := day_idx h.dn
  have h1 := h.m1
  have a : 0 ≤ (j : Int) * m := Int.mul_nonneg (by omega) (by omega)
  have b : (j : Int) * m ≤ (K : Int) * m := Int.mul_le_mul_of_nonneg_right (by omega) (by omega)
  exact ⟨by omega, by omega, b, mv_28 h.dn h.d28 (by omega) (by omega)⟩
theorem Many.E_eq {n m E : Int} {K : Nat} (h : Many n m K E) : E = mSt (mIdx n + (K : Int) * m) + cD n := by
  rw [← h.v, (h.step (Nat.le_refl _)).2.2.2]
theorem Many.km {n m E : Int} {K : Nat} (h : Many n m K E) : 1 ≤ (K : Int) * m ∧ (K : Int) * m ≤ 100 * m := by
  have h1 := h.m1; have := h.k1; have := h.k2
  have a : 1 * 1 ≤ (K : Int) * m := Int.mul_le_mul (by omega) h1 (by decide) (by omega)
  have b : (K : Int) * m ≤ 100 * m := Int.mul_le_mul_of_nonneg_right (by omega) (by omega)
  omega
theorem Many.far {n m E : Int} {K : Nat} (h : Many n m K E) : n < E ∧ E - n ≤ 3100 * m := by
  have hi := (mv_iff.1 h.z).2
  have hd := day_idx h.dn
  obtain ⟨k1, k2⟩ := h.km
  have e := h.E_eq
  have := mSt_le (m := mIdx n) (m' := mIdx n + (K : Int) * m) hd.1 (by omega)
  omega
theorem Many.idx {n m E : Int} {K : Nat} (h : Many n m K E) : isDay E = true ∧ mIdx E = mIdx n + (K : Int) * m ∧ cD E = cD n := by
  have hd := day_idx h.dn
  obtain ⟨s1, s2, -, -⟩ := h.step (Nat.le_refl _)
  have := mLn_le (mIdx n + (K : Int) * m)
  have d28 := h.d28
  rw [h.E_eq]
  exact ⟨in_month s1 s2 (by omega) (by omega), mIdx_month s1 s2 (by omega) (by omega), cD_month s1 s2 (by omega) (by omega)⟩
theorem Many.loan {n m E : Int} {K : Nat} (h : Many n m K E) : Loan n E m := ⟨h.dn, h.idx.1, h.far.1, h.m1, h.m2⟩
theorem Many.loan1 {n m E : Int} {K : Nat} (h : Many n m K E) : Loan n (E + 1) m := ⟨h.dn, isDay_iff.2 (by have := isDay_iff.1 h.idx.1; have := h.le; omega), by have := h.far; omega, h.m1, h.m2⟩
theorem chk_of {n e m : Int} (h : Loan n e m) (hf : frq m ≠ 0) : chk 1 0 0 0 n e m 0 = 0 := by
  unfold chk
  have h1 := h.ds; have h2 := h.de; have h3 := h.se
  rw [if_neg (by simp [hf]), if_neg (by rw [h1, h2]; decide), if_neg (by omega), if_neg (by omega)]
/-- Steps from the end go through the same days. -/
theorem Many.bak {n m E : Int} {K : Nat} (h : Many n m K E) {j : Nat} (hj : j ≤ K) : mv E ((j : Int) * (-m)) false = mv n (((K - j : Nat) : Int) * m) false := by
  obtain ⟨i1, i2, i3⟩ := h.idx
  have hd := day_idx h.dn
  have e : ((K - j : Nat) : Int) * m = (K : Int) * m - (j : Int) * m := by rw [show ((K - j : Nat) : Int) = (K : Int) - (j : Int) by omega, Int.sub_mul]
  obtain ⟨s1, s2, s3, s4⟩ := h.step (j := K - j) (by omega)
  rw [s4, Int.mul_neg]
  have ei : mIdx E + -((j : Int) * m) = mIdx n + ((K - j : Nat) : Int) * m := by omega
  rw [mv_28 i1 (by rw [i3]; exact h.d28) (by omega) (by omega), ei, i3]
theorem Many.mono {n m E : Int} {K : Nat} (h : Many n m K E) {i j : Nat} (hij : i < j) (hj : j ≤ K) : (mv n ((i : Int) * m) false).1 < (mv n ((j : Int) * m) false).1 := by
  obtain ⟨-, -, -, s4⟩ := h.step (j := i) (by omega)
  obtain ⟨-, -, -, t4⟩ := h.step (j := j) hj
  have h1 := h.m1
  exact (mv_lt (by rw [s4]) (by rw [t4]) (Int.mul_lt_mul_of_pos_right (by omega) (by omega))).2
theorem Many.zero {n m E : Int} {K : Nat} (h : Many n m K E) : (mv n (((0 : Nat) : Int) * m) false).1 = n := by
  rw [show ((0 : Nat) : Int) * m = 0 by simp, mv_zero h.dn]
theorem Many.ok {n m E : Int} {K : Nat} (h : Many n m K E) {j : Nat} (hj : j ≤ K) : (mv n ((j : Int) * m) false).2 = 0 := by rw [(h.step hj).2.2.2]
theorem Many.mn {n m E : Int} {K : Nat} (h : Many n m K E) (bk : Bool) : mN n E m bk false = K - 1 ∧ farS n E m bk false := by
  have hL := h.loan
  have hs : E - n ≤ 6200 * m := by have := h.far; have := h.m1; omega
  have k1 := h.k1
  have z0 := h.zero
  have key : mN n E m bk false = K - 1 := by
    refine mN_uniq hL hs (fun j j1 j2 => ?_) (fun z => ?_)
    · cases bk
      · rw [stp_f]
        have a := h.mono (i := 0) (j := j) (by omega) (by omega)
        have b := h.mono (i := j) (j := K) (by omega) (by omega)
        rw [z0] at a; rw [h.v] at b
        exact ⟨h.ok (by omega), a, b⟩
      · rw [stp_t, h.bak (by omega)]
        have a := h.mono (i := 0) (j := K - j) (by omega) (by omega)
        have b := h.mono (i := K - j) (j := K) (by omega) (by omega)
        rw [z0] at a; rw [h.v] at b
        exact ⟨h.ok (by omega), a, b⟩
    · rw [show K - 1 + 1 = K by omega]
      cases bk
      · rw [stp_f, h.v]; omega
      · rw [stp_t, h.bak (Nat.le_refl _), Nat.sub_self, z0]; omega
  refine ⟨key, ?_⟩
  unfold farS
  rw [key, show K - 1 + 1 = K by omega]
  cases bk
  · rw [stp_f]; exact ⟨h.ok (Nat.le_refl _), h.v⟩
  · rw [stp_t, h.bak (Nat.le_refl _), Nat.sub_self, z0]
    exact ⟨h.ok (Nat.zero_le _), rfl⟩
theorem Many.mn1 {n m E : Int} {K : Nat} (h : Many n m K E) : mN n (E + 1) m false false = K ∧ ¬ farS n (E + 1) m false false := by
  have hL := h.loan1
  have hs : E + 1 - n ≤ 6200 * m := by have := h.far; have := h.m1; omega
  have k1 := h.k1
  have z0 := h.zero
  have fin : (stp n (E + 1) m false false (K + 1)).2 = 0 → E + 1 < (stp n (E + 1) m false false (K + 1)).1 := by
    intro z
    rw [stp_f] at z ⊢
    have h1 := h.m1
    have := (mv_lt h.z z (by rw [show ((K + 1 : Nat) : Int) = (K : Int) + 1 by omega, Int.add_mul]; omega)).2
    rw [h.v] at this
    have hi := mv_iff.1 z
    obtain ⟨i1, i2, i3⟩ := h.idx
    have hd := day_idx h.dn
    have em : ((K + 1 : Nat) : Int) * m = (K : Int) * m + m := by rw [show ((K + 1 : Nat) : Int) = (K : Int) + 1 by omega, Int.add_mul, Int.one_mul]
    rw [mv_28 h.dn h.d28 hi.2.1 hi.2.2]
    have e := h.E_eq
    have := (mSt_le (m := mIdx n + (K : Int) * m) (m' := mIdx n + ((K + 1 : Nat) : Int) * m) (h.step (Nat.le_refl _)).1 (by omega)).1
    simp only
    omega
  have key : mN n (E + 1) m false false = K := by
    refine mN_uniq hL hs (fun j j1 j2 => ?_) (fun z => ?_)
    · rw [stp_f]
      have a := h.mono (i := 0) (j := j) (by omega) (by omega)
      rw [z0] at a
      refine ⟨h.ok j2, a, ?_⟩
      rcases Nat.lt_or_ge j K with c | c
      · have b := h.mono (i := j) (j := K) c (Nat.le_refl _)
        rw [h.v] at b; omega
      · rw [show j = K by omega, h.v]; omega
    · have := fin z; omega
  refine ⟨key, fun c => ?_⟩
  unfold farS at c
  rw [key, if_neg (by decide)] at c
  have := fin c.1
  omega
theorem Many.rows {n m E : Int} {K : Nat} (h : Many n m K E) (lg : Bool) (i : Nat) (hi : i ≤ K) : dV n E m lg false false i = dV n E m lg true false i := by
  have hL := h.loan
  have hs : E - n ≤ 6200 * m := by have := h.far; have := h.m1; omega
  have k1 := h.k1
  have d0 : dM n E m lg false false = K - 1 := by rw [dM_far hL hs (h.mn false).2, (h.mn false).1]
  have d1 : dM n E m lg true false = K - 1 := by rw [dM_far hL hs (h.mn true).2, (h.mn true).1]
  rcases Nat.eq_zero_or_pos i with rfl | g
  · rw [dV_zero, dV_zero]
  · rcases Nat.lt_or_ge i K with c | c
    · rw [dV_fwd hL rfl (by omega), dV_back hL hs rfl g (by omega), d1, stp_f, stp_t, h.bak (by omega), show K - (K - 1 + 1 - i) = i by omega]
    · have e0 : i = dM n E m lg false false + 1 := by omega
      have e1 : i = dM n E m lg true false + 1 := by omega
      conv => lhs; rw [e0]
      conv => rhs; rw [e1]
      rw [dV_last, dV_last]

theorem six {a : Int} (h : 0 ≤ a) : frq ([1, 2, 3, 4, 6, 12].getD ((a % 6).toNat) 0) ≠ 0 ∧ 1 ≤ [1, 2, 3, 4, 6, 12].getD ((a % 6).toNat) (0 : Int) ∧ [1, 2, 3, 4, 6, 12].getD ((a % 6).toNat) (0 : Int) ≤ 12 := by
  have : (a % 6).toNat = 0 ∨ (a % 6).toNat = 1 ∨ (a % 6).toNat = 2 ∨ (a % 6).toNat = 3 ∨ (a % 6).toNat = 4 ∨ (a % 6).toNat = 5 := by omega
  rcases this with c | c | c | c | c | c <;> rw [c] <;> exact ⟨by decide, by decide, by decide⟩

theorem dMany {a1 a2 a3 : Int} {a4 : Bool} (i2 : InR .u8 a2) (i3 : InR .u8 a3) :
    S 7 [.agg [I a1, N .u8 a2, N .u8 a3, B a4]] [] (B true) [] := by
  simp only [InR] at i2 i3
  obtain ⟨f0, m1, m2⟩ := six (a := a3) (by omega)
  refine DatesMany_w ?_
  generalize [1, 2, 3, 4, 6, 12].getD ((a3 % 6).toNat) (0 : Int) = m at *
  obtain ⟨K, hK⟩ : ∃ K : Nat, 1 + a2 % 100 = (K : Int) := ⟨(1 + a2 % 100).toNat, by omega⟩
  rw [hK]
  have kk : 0 ≤ (K : Int) * m := Int.mul_nonneg (by omega) (by omega)
  have kk' : (K : Int) * m ≤ 100 * 12 := Int.mul_le_mul (by omega) m2 (by omega) (by omega)
  refine ⟨by omega, by omega, irT (by omega), by omega, irT (by omega), irT (by omega), fun h0 hz h28 hle => ?_⟩
  have h : Many a1 m K (mv a1 ((K : Int) * m) false).1 := ⟨cE_0.1 h0, by omega, f0, m1, m2, by omega, by omega, hz, rfl, by omega⟩
  generalize (mv a1 ((K : Int) * m) false).1 = E at *
  have hL := h.loan
  have hL1 := h.loan1
  obtain ⟨fr, fs⟩ := h.far
  have hs : E - a1 ≤ 6200 * m := by omega
  have hs1 : E + 1 - a1 ≤ 6200 * m := by omega
  have c0 := chk_of hL f0
  have c1 := chk_of hL1 f0
  have b2 := isDay_iff.1 hL1.de
  obtain ⟨u1, u2⟩ := h.mn1
  have d0 : dM a1 E m a4 false false = K - 1 := by rw [dM_far hL hs (h.mn false).2, (h.mn false).1]
  have d1 : dM a1 E m a4 true false = K - 1 := by rw [dM_far hL hs (h.mn true).2, (h.mn true).1]
  have d2 : dM a1 (E + 1) m false false false = K := by rw [dM_false, u1]
  have d3 : dM a1 (E + 1) m true false false = K - 1 := by rw [dM_stub hL1 hs1 u2, u1]
  have k1 := h.k1
  rw [dN_eq c0, dN_eq c0, dN_eq c1, dN_eq c1, d0, d1, d2, d3, c0, c1]
  refine ⟨fun _ => hs, rfl, irT (by omega), by omega, by omega, decide_eq_true ⟨rfl, fun i hi => h.rows a4 i (by omega)⟩, irT (by omega), fun _ => hs1, rfl, irT (by omega), by omega, beq_iff_eq.2 (by omega)⟩

end Go.Proofs.YthfmjoeampekgaaGreatDoor
