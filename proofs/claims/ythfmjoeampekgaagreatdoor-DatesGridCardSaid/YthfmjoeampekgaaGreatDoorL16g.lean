/-
  Chapter 16's laws: GRID.
-/
import Derived.Test.YthfmjoeampekgaaGreatDoorDg
import Derived.Test.YthfmjoeampekgaaGreatDoorProg
import Derived.KernelRfl
set_option linter.unusedVariables false
set_option linter.unusedSimpArgs false
set_option linter.unusedSectionVars false
set_option maxRecDepth 100000
namespace Go.Proofs.YthfmjoeampekgaaGreatDoor
open Go Go.Sx
variable [EnvT]

noncomputable def DatesGrid_h0 (x1 : Int) (x2 : Int) (x3 : Int) (x4 : Int) (x5 : Int) (x6 : Int) (x7 : Int) (x8 : Int) (x9 : Int) (b10 : Bool) (b11 : Bool) (b12 : Bool) (x13 : Int) (n1_ : Nat) (g1011 : Nat → Int) (n2_ : Nat) (g1021 : Nat → Int) : SC :=
  ⟨[⟨6, slo 152 [(1, .ptr 0 0), (3, B true), (4, .sl 1 n1_), (6, .sl 2 n2_), (8, I x1), (9, I x2)], [.code (bodyAt Tryz.f6 [1, 1, 1, 1, 1, 1, 1, 0, 1, 0, 0]), .inLoop (bodyAt Tryz.f6 [1, 1, 1, 1, 1, 1, 1, 0, 1, 0, 0]), .inBlock 0, .code (bodyAt Tryz.f6 [1, 1, 1, 1, 1, 1, 1, 1])], {}⟩], [some (.box true [I x3, I x4, I x5, I x6, I x7, I x8, I x9, B b10, B b11, B b12, I x13]), ro n1_ g1011, ro n2_ g1021]⟩
noncomputable def DatesGrid_h1 (x1 : Int) (x2 : Int) (x3 : Int) (x4 : Int) (x5 : Int) (x6 : Int) (x7 : Int) (x8 : Int) (x9 : Int) (x10 : Int) (b11 : Bool) (b12 : Bool) (b13 : Bool) (x14 : Int) (n1_ : Nat) (g1011 : Nat → Int) (n2_ : Nat) (g1021 : Nat → Int) : SC :=
  ⟨[⟨6, slo 152 [(1, .ptr 0 0), (3, B true), (4, .sl 1 n1_), (6, .sl 2 n2_), (8, I x1), (10, I x2), (11, I x3)], [.code (bodyAt Tryz.f6 [1, 1, 1, 1, 1, 1, 1, 1, 1, 0, 1, 0, 0]), .inLoop (bodyAt Tryz.f6 [1, 1, 1, 1, 1, 1, 1, 1, 1, 0, 1, 0, 0]), .inBlock 2, .code (bodyAt Tryz.f6 [1, 1, 1, 1, 1, 1, 1, 1, 1, 1])], {}⟩], [some (.box true [I x4, I x5, I x6, I x7, I x8, I x9, I x10, B b11, B b12, B b13, I x14]), ro n1_ g1011, ro n2_ g1021]⟩
noncomputable def DatesGrid_h2 (x1 : Int) (x2 : Int) (x3 : Int) (x4 : Int) (x5 : Int) (x6 : Int) (x7 : Int) (x8 : Int) (x9 : Int) (x10 : Int) (b11 : Bool) (b12 : Bool) (b13 : Bool) (x14 : Int) (n1_ : Nat) (g1011 : Nat → Int) (n2_ : Nat) (g1021 : Nat → Int) : SC :=
  ⟨[⟨6, slo 152 [(1, .ptr 0 0), (3, B true), (4, .sl 1 n1_), (6, .sl 2 n2_), (8, I x1), (10, I x2), (11, I x3)], [.code (bodyAt Tryz.f6 [1, 1, 1, 1, 1, 1, 1, 1, 1, 0, 1, 0, 0, 1, 0, 0, 0, 0, 0]), .inLoop (bodyAt Tryz.f6 [1, 1, 1, 1, 1, 1, 1, 1, 1, 0, 1, 0, 0, 1, 0, 0, 0, 0, 0]), .inBlock 4, .code (bodyAt Tryz.f6 [1, 1, 1, 1, 1, 1, 1, 1, 1, 0, 1, 0, 0, 1, 0, 0, 1]), .inBlock 3, .code (bodyAt Tryz.f6 [1, 1, 1, 1, 1, 1, 1, 1, 1, 0, 1, 0, 0, 1, 1]), .inLoop (bodyAt Tryz.f6 [1, 1, 1, 1, 1, 1, 1, 1, 1, 0, 1, 0, 0]), .inBlock 2, .code (bodyAt Tryz.f6 [1, 1, 1, 1, 1, 1, 1, 1, 1, 1])], {}⟩], [some (.box true [I x4, I x5, I x6, I x7, I x8, I x9, I x10, B b11, B b12, B b13, I x14]), ro n1_ g1011, ro n2_ g1021]⟩
theorem DatesGrid_w0 {X : Cx} {a1 a2 a3 a4 a5 a6 a7 : Int} {a8 a9 a10 : Bool} {a11 : Int}  (hX : Fi X 6 [] (B true) []) (H : ((chk a1 a2 a3 a4 a5 a6 a7 a11) = 0 → Ir (a6 - a5) ∧ ((shB a5 a6 200) = true → (¬ a5 < 366 → (¬ a6 > 3651000 → (chk a1 a2 a3 a4 a5 a6 a7 a11 = 0 → a6 - a5 ≤ 6200 * a7) ∧ ¬ (((gcN a1 a2 a3 a4 a5 a6 a7 a8 a10 a11) : Nat) : Int) < 2 ∧ ((0 : Int) ≤ 0 ∧ 0 < (((gcN a1 a2 a3 a4 a5 a6 a7 a8 a10 a11) : Nat) : Int)) ∧ ¬ (gcV a5 a6 a7 a8 a10 0) > a5 ∧ Ir ((((gcN a1 a2 a3 a4 a5 a6 a7 a8 a10 a11) : Nat) : Int) - 1) ∧ ((0 : Int) ≤ ((((gcN a1 a2 a3 a4 a5 a6 a7 a8 a10 a11) : Nat) : Int) - 1) ∧ ((((gcN a1 a2 a3 a4 a5 a6 a7 a8 a10 a11) : Nat) : Int) - 1) < (((gcN a1 a2 a3 a4 a5 a6 a7 a8 a10 a11) : Nat) : Int)) ∧ ¬ (gcV a5 a6 a7 a8 a10 (((((gcN a1 a2 a3 a4 a5 a6 a7 a8 a10 a11) : Nat) : Int) - 1).toNat)) < a6 ∧ Ok X (DatesGrid_h0 (((gcN a1 a2 a3 a4 a5 a6 a7 a8 a10 a11) : Nat) : Int) 1 a1 a2 a3 a4 a5 a6 a7 a8 a9 a10 a11 (gcN a1 a2 a3 a4 a5 a6 a7 a8 a10 a11) (fun i => gcV a5 a6 a7 a8 a10 i) (dN a1 a2 a3 a4 a5 a6 a7 a8 a9 a10 a11) (fun i => dV a5 a6 a7 a9 a8 a10 i))))))) :
    Ok X (entry Tryz.prog 6 [.agg [I a1, I a2, I a3, I a4, I a5, I a6, I a7, B a8, B a9, B a10, I a11]] []) := by
  refine hX.go [c_ [] shown16, c_ [] (rCheck a1 a2 a3 a4 a5 a6 a7 a8 a9 a10 a11)] ?_
  by_cases h0 : (chk a1 a2 a3 a4 a5 a6 a7 a11) = 0
  · obtain ⟨h1, K2⟩ := H h0
    have h2 : Ir (31 * 200) := by decide
    refine hX.go [f_ (bne_eq_false_iff_eq.2 h0), f_ (bne_eq_false_iff_eq.2 h0), c_ [] (show S 11 [.agg [I a1, I a2, I a3, I a4, I a5, I a6, I a7, B a8, B a9, B a10, I a11], I 200] [] (B (shB a5 a6 200)) [] from rShort _ _ _ _ _ _ _ _ _ _ _ _ h1 h2), f_ (bne_eq_false_iff_eq.2 h0), f_ (bne_eq_false_iff_eq.2 h0)] ?_
    rcases bcase (shB a5 a6 200) with h3 | h3
    · have K4 := K2 h3
      refine hX.go [n_ 4 (f_ (nf h3))] ?_
      by_cases h4 : a5 < 366
      · exact hX.e [n_ 4 (t_ (dt h4)), t_ rt]
      · have K5 := K4 h4
        refine hX.go [n_ 4 (f_ (df h4))] ?_
        by_cases h5 : a6 > 3651000
        · exact hX.e [t_ (dt h5)]
        · obtain ⟨h6, c7, K7⟩ := K5 h5
          refine hX.go [f_ (df h5), c_ [] (show S 12 [.agg [I a1, I a2, I a3, I a4, I a5, I a6, I a7, B a8, B a9, B a10, I a11]] [] (.tup [.sl 0 (gcN a1 a2 a3 a4 a5 a6 a7 a8 a10 a11), I (chk a1 a2 a3 a4 a5 a6 a7 a11)]) [some (.row true 3 (gcN a1 a2 a3 a4 a5 a6 a7 a8 a10 a11) 1 (fun i => [I (gcV a5 a6 a7 a8 a10 i)]))] from dGrid _ _ _ _ _ _ _ _ _ _ _ h6), c_ [] (show S 14 [.agg [I a1, I a2, I a3, I a4, I a5, I a6, I a7, B a8, B a9, B a10, I a11]] [] (.tup [.sl 0 (dN a1 a2 a3 a4 a5 a6 a7 a8 a9 a10 a11), I (chk a1 a2 a3 a4 a5 a6 a7 a11)]) [some (.row true 3 (dN a1 a2 a3 a4 a5 a6 a7 a8 a9 a10 a11) 1 (fun i => [I (dV a5 a6 a7 a9 a8 a10 i)]))] from dOf _ _ _ _ _ _ _ _ _ _ _ h6)] ?_
          by_cases h7 : (((gcN a1 a2 a3 a4 a5 a6 a7 a8 a10 a11) : Nat) : Int) < 2
          · exact absurd h7 c7
          · obtain ⟨h8, c9, K9⟩ := K7
            by_cases h9 : (gcV a5 a6 a7 a8 a10 0) > a5
            · exact absurd h9 c9
            · obtain ⟨h10, h11, c12, K12⟩ := K9
              refine hX.go [d_ 26, n_ 6 (f_ (bne_eq_false_iff_eq.2 h0)), f_ (df h7), f_ (df h7), q_ h8, q_ (show (gcN a1 a2 a3 a4 a5 a6 a7 a8 a10 a11) = (gcN a1 a2 a3 a4 a5 a6 a7 a8 a10 a11) from rfl), f_ (df h7), q_ h8, n_ 4 (f_ (df h7)), n_ 3 (f_ (df h9)), q_ h10, f_ (df h9), q_ h11, q_ (show (gcN a1 a2 a3 a4 a5 a6 a7 a8 a10 a11) = (gcN a1 a2 a3 a4 a5 a6 a7 a8 a10 a11) from rfl), f_ (df h9), q_ h11, n_ 4 (f_ (df h9))] ?_
              by_cases h12 : (gcV a5 a6 a7 a8 a10 (((((gcN a1 a2 a3 a4 a5 a6 a7 a8 a10 a11) : Nat) : Int) - 1).toNat)) < a6
              · exact absurd h12 c12
              · have k := K12
                exact hX.h 9 [f_ (df h12)] (oldM 3) k
    · exact hX.e [n_ 4 (t_ (nt h3)), n_ 5 (t_ rt)]
  · exact hX.e [n_ 4 (t_ (bne_iff_ne.2 h0)), n_ 9 (t_ rt)]
theorem DatesGrid_w1 {X : Cx} {x1 x2 x3 x4 x5 x6 x7 x8 x9 : Int} {b10 b11 b12 : Bool} {x13 : Int} {n1_ : Nat} {g1011 : Nat → Int} {n2_ : Nat} {g1021 : Nat → Int}  (hX : Fi X 6 [] (B true) []) (H : (x2 < x1 → ((0 : Int) ≤ x2 ∧ x2 < ((n1_ : Nat) : Int)) ∧ Ir (x2 - 1) ∧ ((0 : Int) ≤ (x2 - 1) ∧ (x2 - 1) < ((n1_ : Nat) : Int)) ∧ ¬ (g1011 x2.toNat) ≤ (g1011 ((x2 - 1).toNat)) ∧ Ir (x2 + 1) ∧ Ok X (DatesGrid_h0 x1 (x2 + 1) x3 x4 x5 x6 x7 x8 x9 b10 b11 b12 x13 n1_ g1011 n2_ g1021)) ∧ (¬ x2 < x1 → Ok X (DatesGrid_h1 x1 0 1 x3 x4 x5 x6 x7 x8 x9 b10 b11 b12 x13 n1_ g1011 n2_ g1021))) :
    Ok X (DatesGrid_h0 x1 x2 x3 x4 x5 x6 x7 x8 x9 b10 b11 b12 x13 n1_ g1011 n2_ g1021) := by
  obtain ⟨L0, K0⟩ := H
  by_cases h0 : x2 < x1
  · obtain ⟨h1, h2, h3, c4, K4⟩ := L0 h0
    refine hX.go [t_ (dt h0), q_ h1, q_ (re n1_), q_ h1, q_ h2, q_ h3, q_ (re n1_), q_ h3, d_ 9] ?_
    by_cases h4 : (g1011 x2.toNat) ≤ (g1011 ((x2 - 1).toNat))
    · exact absurd h4 c4
    · obtain ⟨h5, k⟩ := K4
      exact hX.h 9 [f_ (df h4), q_ h5] (oldM 3) k
  · have k := K0 h0
    exact hX.h 20 [f_ (df h0)] (oldM 3) k
theorem DatesGrid_w2 {X : Cx} {x1 x2 x3 x4 x5 x6 x7 x8 x9 x10 : Int} {b11 b12 b13 : Bool} {x14 : Int} {n1_ : Nat} {g1011 : Nat → Int} {n2_ : Nat} {g1021 : Nat → Int}  (hX : Fi X 6 [] (B true) []) (H : Ir (((n2_ : Nat) : Int) - 1) ∧ (x3 < (((n2_ : Nat) : Int) - 1) → Ok X (DatesGrid_h2 x1 x2 x3 x4 x5 x6 x7 x8 x9 x10 b11 b12 b13 x14 n1_ g1011 n2_ g1021)) ∧ (¬ x3 < (((n2_ : Nat) : Int) - 1) → (b11 = true → Ir (x1 - 1) ∧ ((0 : Int) ≤ (x1 - 1) ∧ (x1 - 1) < ((n1_ : Nat) : Int)) ∧ (g1011 ((x1 - 1).toNat)) = x9) ∧ (b11 = false → ((0 : Int) ≤ 0 ∧ 0 < ((n1_ : Nat) : Int)) ∧ ((g1011 0) == x8) = true))) :
    Ok X (DatesGrid_h1 x1 x2 x3 x4 x5 x6 x7 x8 x9 x10 b11 b12 b13 x14 n1_ g1011 n2_ g1021) := by
  obtain ⟨h0, L1, K1⟩ := H
  refine hX.go [q_ h0] ?_
  by_cases h1 : x3 < (((n2_ : Nat) : Int) - 1)
  · have k := L1 h1
    exact hX.h 7 [t_ (dt h1)] (oldM 3) k
  · obtain ⟨L2, K2⟩ := K1 h1
    refine hX.go [f_ (df h1)] ?_
    rcases bcase b11 with h2 | h2
    · obtain ⟨h3, h4, c5⟩ := L2 h2
      by_cases h5 : (g1011 ((x1 - 1).toNat)) = x9
      · exact hX.e [d_ 24, n_ 3 (t_ rt), n_ 3 (t_ h2), q_ h3, t_ h2, q_ h4, q_ (re n1_), t_ h2, q_ h4, n_ 3 (t_ h2), t_ rt, t_ h2, t_ rt, n_ 5 (t_ (beq_iff_eq.2 h5)), t_ rt, t_ (beq_iff_eq.2 h5), t_ rt]
      · exact absurd c5 h5
    · obtain ⟨h3, HE⟩ := K2 h2
      exact (hX.to (congrArg B HE).symm).e [d_ 24, n_ 3 (t_ rt), n_ 8 (f_ h2), t_ rt, f_ h2, t_ rt, n_ 4 (f_ rf), t_ (nt h2), t_ (nt h2), q_ h3, q_ (re n1_), t_ (nt h2), q_ h3, n_ 3 (t_ (nt h2)), f_ rf, t_ (nt h2), t_ rt, f_ rf, t_ rt]
theorem DatesGrid_w3 {X : Cx} {x1 x2 x3 x4 x5 x6 x7 x8 x9 x10 : Int} {b11 b12 b13 : Bool} {x14 : Int} {n1_ : Nat} {g1011 : Nat → Int} {n2_ : Nat} {g1021 : Nat → Int}  (hX : Fi X 6 [] (B true) []) (H : (x2 < x1 → ((0 : Int) ≤ x2 ∧ x2 < ((n1_ : Nat) : Int)) ∧ ((0 : Int) ≤ x3 ∧ x3 < ((n2_ : Nat) : Int)) ∧ ((g1011 x2.toNat) < (g1021 x3.toNat) → Ir (x2 + 1) ∧ Ok X (DatesGrid_h2 x1 (x2 + 1) x3 x4 x5 x6 x7 x8 x9 x10 b11 b12 b13 x14 n1_ g1011 n2_ g1021)) ∧ (¬ (g1011 x2.toNat) < (g1021 x3.toNat) → ¬ x2 ≥ x1 ∧ (g1011 x2.toNat) = (g1021 x3.toNat) ∧ Ir (x3 + 1) ∧ Ok X (DatesGrid_h1 x1 x2 (x3 + 1) x4 x5 x6 x7 x8 x9 x10 b11 b12 b13 x14 n1_ g1011 n2_ g1021))) ∧ (¬ x2 < x1 → ¬ x2 ≥ x1 ∧ ((0 : Int) ≤ x2 ∧ x2 < ((n1_ : Nat) : Int)) ∧ ((0 : Int) ≤ x3 ∧ x3 < ((n2_ : Nat) : Int)) ∧ (g1011 x2.toNat) = (g1021 x3.toNat) ∧ Ir (x3 + 1) ∧ Ok X (DatesGrid_h1 x1 x2 (x3 + 1) x4 x5 x6 x7 x8 x9 x10 b11 b12 b13 x14 n1_ g1011 n2_ g1021))) :
    Ok X (DatesGrid_h2 x1 x2 x3 x4 x5 x6 x7 x8 x9 x10 b11 b12 b13 x14 n1_ g1011 n2_ g1021) := by
  obtain ⟨L0, K0⟩ := H
  by_cases h0 : x2 < x1
  · obtain ⟨h1, h2, L3, K3⟩ := L0 h0
    refine hX.go [d_ 12, n_ 3 (t_ (dt h0)), q_ h1, q_ (re n1_), t_ (dt h0), q_ h1, n_ 3 (t_ (dt h0)), q_ h2, q_ (re n2_), t_ (dt h0), q_ h2, t_ (dt h0), t_ (dt h0)] ?_
    by_cases h3 : (g1011 x2.toNat) < (g1021 x3.toNat)
    · obtain ⟨h4, k⟩ := L3 h3
      exact hX.h 10 [t_ (dt h3), q_ h4] (oldM 3) k
    · obtain ⟨c4, K4⟩ := K3 h3
      refine hX.go [f_ (df h3)] ?_
      by_cases h4 : x2 ≥ x1
      · exact absurd h4 c4
      · obtain ⟨c5, K5⟩ := K4
        refine hX.go [d_ 12, n_ 3 (f_ (df h4)), q_ h1, q_ (re n1_), f_ (df h4), q_ h1, n_ 3 (f_ (df h4)), q_ h2, q_ (re n2_), f_ (df h4), q_ h2, f_ (df h4), f_ (df h4)] ?_
        by_cases h5 : (g1011 x2.toNat) = (g1021 x3.toNat)
        · obtain ⟨h6, k⟩ := K5
          exact hX.h 9 [f_ (bne_eq_false_iff_eq.2 h5), q_ h6] (oldM 3) k
        · exact absurd c5 h5
  · obtain ⟨c1, K1⟩ := K0 h0
    refine hX.go [d_ 12, n_ 10 (f_ (df h0)), f_ rf] ?_
    by_cases h1 : x2 ≥ x1
    · exact absurd h1 c1
    · obtain ⟨h2, h3, c4, K4⟩ := K1
      refine hX.go [d_ 12, n_ 3 (f_ (df h1)), q_ h2, q_ (re n1_), f_ (df h1), q_ h2, n_ 3 (f_ (df h1)), q_ h3, q_ (re n2_), f_ (df h1), q_ h3, f_ (df h1), f_ (df h1)] ?_
      by_cases h4 : (g1011 x2.toNat) = (g1021 x3.toNat)
      · obtain ⟨h5, k⟩ := K4
        exact hX.h 9 [f_ (bne_eq_false_iff_eq.2 h4), q_ h5] (oldM 3) k
      · exact absurd c4 h4

theorem dGridL {a1 a2 a3 a4 a5 a6 a7 : Int} {a8 a9 a10 : Bool} {a11 : Int} :
    S 6 [.agg [I a1, I a2, I a3, I a4, I a5, I a6, I a7, B a8, B a9, B a10, I a11]] [] (B true) [] := by
  refine SCall.st fun X hX => DatesGrid_w0 hX (fun h0 => ?_)
  have hL := chk_loan h0
  have b1 := isDay_iff.1 hL.ds
  have b2 := isDay_iff.1 hL.de
  refine ⟨irT (by omega), fun h3 h4 h5 => ?_⟩
  have hm := hL.m1
  have hs : a6 - a5 ≤ 6200 * a7 := by have := (shB_t h3).1; omega
  have hmN := mN_le (back := a8) (eom := a10) hL hs
  have hgN := (gN_le (back := a8) (eom := a10) hL hs).2
  have hd := dM_le (s := a5) (e := a6) (mo := a7) (long := a9) (back := a8) (eom := a10)
  have hg2 := (grid_end (back := a8) (eom := a10) hL hs (by omega) (by omega)).1
  obtain ⟨e1, e2, e3, e4⟩ := gc_ends (back := a8) (eom := a10) hL hs (by omega) (by omega)
  have r1 : ∀ i, i + 1 < gN a5 a6 a7 a8 a10 → gcV a5 a6 a7 a8 a10 i < gcV a5 a6 a7 a8 a10 (i + 1) := fun i hi => gc_rise hL hs hi
  have r2 : ∀ i j, i < j → j < gN a5 a6 a7 a8 a10 → gcV a5 a6 a7 a8 a10 i < gcV a5 a6 a7 a8 a10 j := by
    intro i j hij hj
    have := gc_mono (back := a8) (eom := a10) hL hs (k := j - i - 1) (i := i) (by omega)
    rw [show i + (j - i - 1) + 1 = j by omega] at this; exact this
  have r3 : ∀ i, 1 ≤ i → i ≤ dM a5 a6 a7 a9 a8 a10 → dV a5 a6 a7 a9 a8 a10 i = gcV a5 a6 a7 a8 a10 (dO a5 a6 a7 a9 a8 a10 + (i - 1)) := fun i h1 h2 => dV_in h1 h2
  have r4 : dO a5 a6 a7 a9 a8 a10 + dM a5 a6 a7 a9 a8 a10 ≤ gN a5 a6 a7 a8 a10 := by unfold dO; split <;> omega
  rw [dN_eq h0, gcN_eq h0]
  refine ⟨fun _ => hs, by omega, by omega, by omega, irT (by omega), by omega, ?_, ?_⟩
  · rw [show (((gN a5 a6 a7 a8 a10 : Nat) : Int) - 1).toNat = gN a5 a6 a7 a8 a10 - 1 by omega]; omega
  generalize hM : dM a5 a6 a7 a9 a8 a10 = M at *
  generalize hG : gN a5 a6 a7 a8 a10 = G at *
  generalize hO : dO a5 a6 a7 a9 a8 a10 = O at *
  generalize dV a5 a6 a7 a9 a8 a10 = V at *
  generalize gcV a5 a6 a7 a8 a10 = g at *
  -- the second loop
  have key2 : ∀ f i k : Nat, i + f = M + 1 → 1 ≤ i → k < O + i → Ok X (DatesGrid_h1 ((G : Nat) : Int) (k : Int) (i : Int) a1 a2 a3 a4 a5 a6 a7 a8 a9 a10 a11 G g (M + 2) V) := by
    intro f
    induction f with
    | zero =>
      intro i k hi h1 hk
      refine DatesGrid_w2 hX ⟨irT (by omega), fun c => absurd c (by omega), fun _ => ⟨fun hb => ⟨irT (by omega), by omega, ?_⟩, fun hb => ⟨by omega, ?_⟩⟩⟩
      · rw [show (((G : Nat) : Int) - 1).toNat = G - 1 by omega]; exact e3 hb
      · exact beq_iff_eq.2 (e4 hb)
    | succ f ih =>
      intro i k hi h1 hk
      refine DatesGrid_w2 hX ⟨irT (by omega), fun _ => ?_, fun c => absurd (show (i : Int) < (((M + 2 : Nat) : Int) - 1) by omega) c⟩
      have ei := r3 i h1 (by omega)
      have ti : ((i : Int)).toNat = i := Int.toNat_natCast i
      have key3 : ∀ d k : Nat, k + d + 1 = O + i → Ok X (DatesGrid_h2 ((G : Nat) : Int) (k : Int) (i : Int) a1 a2 a3 a4 a5 a6 a7 a8 a9 a10 a11 G g (M + 2) V) := by
        intro d
        induction d with
        | zero =>
          intro k hk
          have tk : ((k : Int)).toNat = k := Int.toNat_natCast k
          have ek : g k = V i := by rw [ei, show O + (i - 1) = k by omega]
          have nx : Ok X (DatesGrid_h1 ((G : Nat) : Int) (k : Int) ((i : Int) + 1) a1 a2 a3 a4 a5 a6 a7 a8 a9 a10 a11 G g (M + 2) V) := ih (i + 1) k (by omega) (by omega) (by omega)
          refine DatesGrid_w3 hX ⟨fun _ => ⟨by omega, by omega, fun c => ?_, fun c => ⟨by omega, ?_, irT (by omega), nx⟩⟩, fun c => absurd (show (k : Int) < (G : Int) by omega) c⟩
          · rw [ti, tk, ek] at c; omega
          · rw [ti, tk, ek]
        | succ d ihd =>
          intro k hk
          have tk : ((k : Int)).toNat = k := Int.toNat_natCast k
          have lt : g k < V i := by rw [ei]; exact r2 _ _ (by omega) (by omega)
          refine DatesGrid_w3 hX ⟨fun _ => ⟨by omega, by omega, fun c => ⟨irT (by omega), ihd (k + 1) (by omega)⟩, fun c => ?_⟩, fun c => absurd (show (k : Int) < (G : Int) by omega) c⟩
          rw [ti, tk] at c; exact absurd lt c
      exact key3 (O + i - k - 1) k (by omega)
  have key1 : ∀ f i : Nat, i + f = G → 1 ≤ i → Ok X (DatesGrid_h0 ((G : Nat) : Int) (i : Int) a1 a2 a3 a4 a5 a6 a7 a8 a9 a10 a11 G g (M + 2) V) := by
    intro f
    induction f with
    | zero =>
      intro i hi h1
      refine DatesGrid_w1 hX ⟨fun c => absurd c (by omega), fun _ => ?_⟩
      exact key2 M 1 0 (by omega) (Nat.le_refl _) (by omega)
    | succ f ih =>
      intro i hi h1
      refine DatesGrid_w1 hX ⟨fun _ => ⟨by omega, irT (by omega), by omega, ?_, irT (by omega), ih (i + 1) (by omega) (by omega)⟩, fun c => absurd (show (i : Int) < (G : Int) by omega) c⟩
      have := r1 (i - 1) (by omega)
      rw [show i - 1 + 1 = i by omega] at this
      rw [Int.toNat_natCast, show ((i : Int) - 1).toNat = i - 1 by omega]; omega
  exact key1 (G - 1) 1 (by omega) (Nat.le_refl _)

end Go.Proofs.YthfmjoeampekgaaGreatDoor
