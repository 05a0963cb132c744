/-
  Chapter 16's laws.
-/
import Derived.Test.YthfmjoeampekgaaGreatDoorS16
import Derived.Test.YthfmjoeampekgaaGreatDoorProg
import Derived.KernelRfl
set_option linter.unusedVariables false
set_option linter.unusedSimpArgs false
set_option linter.unusedSectionVars false
set_option maxRecDepth 100000
namespace Go.Proofs.YthfmjoeampekgaaGreatDoor
open Go Go.Sx
variable [EnvT]

theorem shB_t {s e k : Int} (h : shB s e k = true) : e - s ≤ 31 * k ∧ s ≤ e := of_decide_eq_true h
theorem rRowT {n m : Nat} {f g : Nat → Int} (h : n = m ∧ ∀ i, i < n → f i = g i) (hn : n ≤ 100000) : S 16 [.sl 0 n, .sl 1 m] [ri n f, ri m g] (B true) [] := rowT h hn
theorem gcN_le {a1 a2 a3 a4 a5 a6 a7 : Int} {a8 a10 : Bool} {a11 : Int} (hs : chk a1 a2 a3 a4 a5 a6 a7 a11 = 0 → a6 - a5 ≤ 6200 * a7) : gcN a1 a2 a3 a4 a5 a6 a7 a8 a10 a11 ≤ 100000 := by
  unfold gcN; split
  · rename_i h; have := gN_le (back := a8) (eom := a10) (chk_loan h) (hs h); omega
  · omega
theorem dM_le {s e mo : Int} {long back eom : Bool} : dM s e mo long back eom ≤ mN s e mo back eom := by unfold dM; (repeat' split) <;> omega
theorem dN_le {a1 a2 a3 a4 a5 a6 a7 : Int} {a8 a9 a10 : Bool} {a11 : Int} (hs : chk a1 a2 a3 a4 a5 a6 a7 a11 = 0 → a6 - a5 ≤ 6200 * a7) : dN a1 a2 a3 a4 a5 a6 a7 a8 a9 a10 a11 ≤ 100000 := by
  unfold dN; split
  · rename_i h
    have h1 := gN_le (back := a8) (eom := a10) (chk_loan h) (hs h)
    have h2 := mN_le (back := a8) (eom := a10) (chk_loan h) (hs h)
    have h3 := dM_le (s := a5) (e := a6) (mo := a7) (long := a9) (back := a8) (eom := a10)
    omega
  · omega

theorem dTells {a1 a2 a3 a4 a5 a6 a7 : Int} {a8 a9 a10 : Bool} {a11 : Int} :
    S 3 [.agg [I a1, I a2, I a3, I a4, I a5, I a6, I a7, B a8, B a9, B a10, I a11]] [] (B true) [] := by
  refine SCall.st fun X hX => ?_
  refine hX.go [c_ [] shown16, c_ [] (rCheck a1 a2 a3 a4 a5 a6 a7 a8 a9 a10 a11)] ?_
  by_cases h0 : (chk a1 a2 a3 a4 a5 a6 a7 a11) = 0
  · have hL := chk_loan h0
    have b1 := isDay_iff.1 hL.ds
    have b2 := isDay_iff.1 hL.de
    have h1 : Ir (a6 - a5) := by simp only [Ir, InR]; omega
    have h2 : Ir (31 * 200) := by decide
    refine hX.go [t_ (beq_iff_eq.2 h0), t_ (beq_iff_eq.2 h0), c_ [] (show S 11 [.agg [I a1, I a2, I a3, I a4, I a5, I a6, I a7, B a8, B a9, B a10, I a11], I 200] [] (B (shB a5 a6 200)) [] from rShort _ _ _ _ _ _ _ _ _ _ _ _ h1 h2), t_ (beq_iff_eq.2 h0), t_ (beq_iff_eq.2 h0)] ?_
    rcases bcase (shB a5 a6 200) with h3 | h3
    · have h4 : chk a1 a2 a3 a4 a5 a6 a7 a11 = 0 → a6 - a5 ≤ 6200 * a7 := fun _ => by have := (shB_t h3).1; have := hL.m1; omega
      have h5 : (gcN a1 a2 a3 a4 a5 a6 a7 a8 a10 a11) = (gcN a1 a2 a3 a4 a5 a6 a7 a8 a10 a11) ∧ ∀ i, i < (gcN a1 a2 a3 a4 a5 a6 a7 a8 a10 a11) → (fun i => (gcV a5 a6 a7 a8 a10 i)) i = (fun i => (gcV a5 a6 a7 a8 a10 i)) i := ⟨rfl, fun _ _ => rfl⟩
      have h6 : (gcN a1 a2 a3 a4 a5 a6 a7 a8 a10 a11) ≤ 100000 := gcN_le h4
      refine hX.go [f_ (nf h3), c_ [] (show S 12 [.agg [I a1, I a2, I a3, I a4, I a5, I a6, I a7, B a8, B a9, B a10, I a11]] [] (.tup [.sl 0 (gcN a1 a2 a3 a4 a5 a6 a7 a8 a10 a11), I (chk a1 a2 a3 a4 a5 a6 a7 a11)]) [some (.row true 3 (gcN a1 a2 a3 a4 a5 a6 a7 a8 a10 a11) 1 (fun i => [I (gcV a5 a6 a7 a8 a10 i)]))] from dGrid _ _ _ _ _ _ _ _ _ _ _ h4), c_ [] (show S 13 [.agg [I a1, I a2, I a3, I a4, I a5, I a6, I a7, B a8, B a9, B a10, I a11]] [] (.tup [.sl 0 (gcN a1 a2 a3 a4 a5 a6 a7 a8 a10 a11), I (chk a1 a2 a3 a4 a5 a6 a7 a11)]) [some (.row true 3 (gcN a1 a2 a3 a4 a5 a6 a7 a8 a10 a11) 1 (fun i => [I (gcV a5 a6 a7 a8 a10 i)]))] from rGrid _ _ _ _ _ _ _ _ _ _ _ h4), c_ [] (show S 14 [.agg [I a1, I a2, I a3, I a4, I a5, I a6, I a7, B a8, B a9, B a10, I a11]] [] (.tup [.sl 0 (dN a1 a2 a3 a4 a5 a6 a7 a8 a9 a10 a11), I (chk a1 a2 a3 a4 a5 a6 a7 a11)]) [some (.row true 3 (dN a1 a2 a3 a4 a5 a6 a7 a8 a9 a10 a11) 1 (fun i => [I (dV a5 a6 a7 a9 a8 a10 i)]))] from dOf _ _ _ _ _ _ _ _ _ _ _ h4), c_ [] (show S 15 [.agg [I a1, I a2, I a3, I a4, I a5, I a6, I a7, B a8, B a9, B a10, I a11]] [] (.tup [.sl 0 (dN a1 a2 a3 a4 a5 a6 a7 a8 a9 a10 a11), I (chk a1 a2 a3 a4 a5 a6 a7 a11)]) [some (.row true 3 (dN a1 a2 a3 a4 a5 a6 a7 a8 a9 a10 a11) 1 (fun i => [I (dV a5 a6 a7 a9 a8 a10 i)]))] from rOf _ _ _ _ _ _ _ _ _ _ _ h4), n_ 3 (t_ rt), c_ [1, 2] (show S 16 [.sl 0 (gcN a1 a2 a3 a4 a5 a6 a7 a8 a10 a11), .sl 1 (gcN a1 a2 a3 a4 a5 a6 a7 a8 a10 a11)] [some (.row false 3 (gcN a1 a2 a3 a4 a5 a6 a7 a8 a10 a11) 1 (fun i => [I (gcV a5 a6 a7 a8 a10 i)])), some (.row false 3 (gcN a1 a2 a3 a4 a5 a6 a7 a8 a10 a11) 1 (fun i => [I (gcV a5 a6 a7 a8 a10 i)]))] (B true) [] from rRowT h5 h6), n_ 5 (t_ rt)] ?_
      by_cases h7 : (chk a1 a2 a3 a4 a5 a6 a7 a11) = (chk a1 a2 a3 a4 a5 a6 a7 a11)
      · have h8 : (dN a1 a2 a3 a4 a5 a6 a7 a8 a9 a10 a11) = (dN a1 a2 a3 a4 a5 a6 a7 a8 a9 a10 a11) ∧ ∀ i, i < (dN a1 a2 a3 a4 a5 a6 a7 a8 a9 a10 a11) → (fun i => (dV a5 a6 a7 a9 a8 a10 i)) i = (fun i => (dV a5 a6 a7 a9 a8 a10 i)) i := ⟨rfl, fun _ _ => rfl⟩
        have h9 : (dN a1 a2 a3 a4 a5 a6 a7 a8 a9 a10 a11) ≤ 100000 := dN_le h4
        exact (hX.to (res' := B ((chk a1 a2 a3 a4 a5 a6 a7 a11) == (chk a1 a2 a3 a4 a5 a6 a7 a11))) (by rw [beq_self_eq_true])).e [n_ 3 (t_ (beq_iff_eq.2 h7)), c_ [3, 4] (show S 16 [.sl 0 (dN a1 a2 a3 a4 a5 a6 a7 a8 a9 a10 a11), .sl 1 (dN a1 a2 a3 a4 a5 a6 a7 a8 a9 a10 a11)] [some (.row false 3 (dN a1 a2 a3 a4 a5 a6 a7 a8 a9 a10 a11) 1 (fun i => [I (dV a5 a6 a7 a9 a8 a10 i)])), some (.row false 3 (dN a1 a2 a3 a4 a5 a6 a7 a8 a9 a10 a11) 1 (fun i => [I (dV a5 a6 a7 a9 a8 a10 i)]))] (B true) [] from rRowT h8 h9), t_ (beq_iff_eq.2 h7), n_ 4 (t_ rt)]
      · exact absurd rfl h7
    · exact hX.e [t_ (nt h3)]
  · have h1 : chk a1 a2 a3 a4 a5 a6 a7 a11 = 0 → a6 - a5 ≤ 6200 * a7 := fun z => absurd z h0
    have h2 : (gcN a1 a2 a3 a4 a5 a6 a7 a8 a10 a11) = (gcN a1 a2 a3 a4 a5 a6 a7 a8 a10 a11) ∧ ∀ i, i < (gcN a1 a2 a3 a4 a5 a6 a7 a8 a10 a11) → (fun i => (gcV a5 a6 a7 a8 a10 i)) i = (fun i => (gcV a5 a6 a7 a8 a10 i)) i := ⟨rfl, fun _ _ => rfl⟩
    have h3 : (gcN a1 a2 a3 a4 a5 a6 a7 a8 a10 a11) ≤ 100000 := gcN_le h1
    refine hX.go [n_ 4 (f_ (beq_eq_false_iff_ne.2 h0)), f_ rf, c_ [] (show S 12 [.agg [I a1, I a2, I a3, I a4, I a5, I a6, I a7, B a8, B a9, B a10, I a11]] [] (.tup [.sl 0 (gcN a1 a2 a3 a4 a5 a6 a7 a8 a10 a11), I (chk a1 a2 a3 a4 a5 a6 a7 a11)]) [some (.row true 3 (gcN a1 a2 a3 a4 a5 a6 a7 a8 a10 a11) 1 (fun i => [I (gcV a5 a6 a7 a8 a10 i)]))] from dGrid _ _ _ _ _ _ _ _ _ _ _ h1), c_ [] (show S 13 [.agg [I a1, I a2, I a3, I a4, I a5, I a6, I a7, B a8, B a9, B a10, I a11]] [] (.tup [.sl 0 (gcN a1 a2 a3 a4 a5 a6 a7 a8 a10 a11), I (chk a1 a2 a3 a4 a5 a6 a7 a11)]) [some (.row true 3 (gcN a1 a2 a3 a4 a5 a6 a7 a8 a10 a11) 1 (fun i => [I (gcV a5 a6 a7 a8 a10 i)]))] from rGrid _ _ _ _ _ _ _ _ _ _ _ h1), c_ [] (show S 14 [.agg [I a1, I a2, I a3, I a4, I a5, I a6, I a7, B a8, B a9, B a10, I a11]] [] (.tup [.sl 0 (dN a1 a2 a3 a4 a5 a6 a7 a8 a9 a10 a11), I (chk a1 a2 a3 a4 a5 a6 a7 a11)]) [some (.row true 3 (dN a1 a2 a3 a4 a5 a6 a7 a8 a9 a10 a11) 1 (fun i => [I (dV a5 a6 a7 a9 a8 a10 i)]))] from dOf _ _ _ _ _ _ _ _ _ _ _ h1), c_ [] (show S 15 [.agg [I a1, I a2, I a3, I a4, I a5, I a6, I a7, B a8, B a9, B a10, I a11]] [] (.tup [.sl 0 (dN a1 a2 a3 a4 a5 a6 a7 a8 a9 a10 a11), I (chk a1 a2 a3 a4 a5 a6 a7 a11)]) [some (.row true 3 (dN a1 a2 a3 a4 a5 a6 a7 a8 a9 a10 a11) 1 (fun i => [I (dV a5 a6 a7 a9 a8 a10 i)]))] from rOf _ _ _ _ _ _ _ _ _ _ _ h1), n_ 3 (t_ rt), c_ [1, 2] (show S 16 [.sl 0 (gcN a1 a2 a3 a4 a5 a6 a7 a8 a10 a11), .sl 1 (gcN a1 a2 a3 a4 a5 a6 a7 a8 a10 a11)] [some (.row false 3 (gcN a1 a2 a3 a4 a5 a6 a7 a8 a10 a11) 1 (fun i => [I (gcV a5 a6 a7 a8 a10 i)])), some (.row false 3 (gcN a1 a2 a3 a4 a5 a6 a7 a8 a10 a11) 1 (fun i => [I (gcV a5 a6 a7 a8 a10 i)]))] (B true) [] from rRowT h2 h3), n_ 5 (t_ rt)] ?_
    by_cases h4 : (chk a1 a2 a3 a4 a5 a6 a7 a11) = (chk a1 a2 a3 a4 a5 a6 a7 a11)
    · have h5 : (dN a1 a2 a3 a4 a5 a6 a7 a8 a9 a10 a11) = (dN a1 a2 a3 a4 a5 a6 a7 a8 a9 a10 a11) ∧ ∀ i, i < (dN a1 a2 a3 a4 a5 a6 a7 a8 a9 a10 a11) → (fun i => (dV a5 a6 a7 a9 a8 a10 i)) i = (fun i => (dV a5 a6 a7 a9 a8 a10 i)) i := ⟨rfl, fun _ _ => rfl⟩
      have h6 : (dN a1 a2 a3 a4 a5 a6 a7 a8 a9 a10 a11) ≤ 100000 := dN_le h1
      exact (hX.to (res' := B ((chk a1 a2 a3 a4 a5 a6 a7 a11) == (chk a1 a2 a3 a4 a5 a6 a7 a11))) (by rw [beq_self_eq_true])).e [n_ 3 (t_ (beq_iff_eq.2 h4)), c_ [3, 4] (show S 16 [.sl 0 (dN a1 a2 a3 a4 a5 a6 a7 a8 a9 a10 a11), .sl 1 (dN a1 a2 a3 a4 a5 a6 a7 a8 a9 a10 a11)] [some (.row false 3 (dN a1 a2 a3 a4 a5 a6 a7 a8 a9 a10 a11) 1 (fun i => [I (dV a5 a6 a7 a9 a8 a10 i)])), some (.row false 3 (dN a1 a2 a3 a4 a5 a6 a7 a8 a9 a10 a11) 1 (fun i => [I (dV a5 a6 a7 a9 a8 a10 i)]))] (B true) [] from rRowT h5 h6), t_ (beq_iff_eq.2 h4), n_ 4 (t_ rt)]
    · exact absurd rfl h4

end Go.Proofs.YthfmjoeampekgaaGreatDoor
