/-
  Chapter 16's laws: RISE and STUB.
-/
import Derived.Test.YthfmjoeampekgaaGreatDoorDp
import Derived.Test.YthfmjoeampekgaaGreatDoorProg
import Derived.KernelRfl
set_option linter.unusedVariables false
set_option linter.unusedSimpArgs false
set_option linter.unusedSectionVars false
set_option maxRecDepth 100000
namespace Go.Proofs.YthfmjoeampekgaaGreatDoor
open Go Go.Sx
variable [EnvT]

noncomputable def DatesRise_h0 (x1 : Int) (x2 : Int) (x3 : Int) (x4 : Int) (x5 : Int) (x6 : Int) (x7 : Int) (x8 : Int) (x9 : Int) (b10 : Bool) (b11 : Bool) (b12 : Bool) (x13 : Int) (n1_ : Nat) (g1011 : Nat → Int) : SC :=
  ⟨[⟨4, slo 130 [(1, .ptr 0 0), (3, B true), (4, .sl 1 n1_), (6, I x1), (7, I x2)], [.code (bodyAt Tryz.f4 [1, 1, 1, 1, 1, 1, 0, 1, 0, 0]), .inLoop (bodyAt Tryz.f4 [1, 1, 1, 1, 1, 1, 0, 1, 0, 0]), .inBlock 0, .code (bodyAt Tryz.f4 [1, 1, 1, 1, 1, 1, 1])], {}⟩], [some (.box true [I x3, I x4, I x5, I x6, I x7, I x8, I x9, B b10, B b11, B b12, I x13]), ro n1_ g1011]⟩
theorem DatesRise_w0 {X : Cx} {a1 a2 a3 a4 a5 a6 a7 : Int} {a8 a9 a10 : Bool} {a11 : Int}  (hX : Fi X 4 [] (B true) []) (H : ((chk a1 a2 a3 a4 a5 a6 a7 a11) = 0 → Ir (a6 - a5) ∧ ((shB a5 a6 200) = true → (chk a1 a2 a3 a4 a5 a6 a7 a11 = 0 → a6 - a5 ≤ 6200 * a7) ∧ ¬ (((dN a1 a2 a3 a4 a5 a6 a7 a8 a9 a10 a11) : Nat) : Int) < 2 ∧ ((0 : Int) ≤ 0 ∧ 0 < (((dN a1 a2 a3 a4 a5 a6 a7 a8 a9 a10 a11) : Nat) : Int)) ∧ (dV a5 a6 a7 a9 a8 a10 0) = a5 ∧ Ir ((((dN a1 a2 a3 a4 a5 a6 a7 a8 a9 a10 a11) : Nat) : Int) - 1) ∧ ((0 : Int) ≤ ((((dN a1 a2 a3 a4 a5 a6 a7 a8 a9 a10 a11) : Nat) : Int) - 1) ∧ ((((dN a1 a2 a3 a4 a5 a6 a7 a8 a9 a10 a11) : Nat) : Int) - 1) < (((dN a1 a2 a3 a4 a5 a6 a7 a8 a9 a10 a11) : Nat) : Int)) ∧ (dV a5 a6 a7 a9 a8 a10 (((((dN a1 a2 a3 a4 a5 a6 a7 a8 a9 a10 a11) : Nat) : Int) - 1).toNat)) = a6 ∧ Ok X (DatesRise_h0 (((dN a1 a2 a3 a4 a5 a6 a7 a8 a9 a10 a11) : Nat) : Int) 0 a1 a2 a3 a4 a5 a6 a7 a8 a9 a10 a11 (dN a1 a2 a3 a4 a5 a6 a7 a8 a9 a10 a11) (fun i => dV a5 a6 a7 a9 a8 a10 i))))) :
    Ok X (entry Tryz.prog 4 [.agg [I a1, I a2, I a3, I a4, I a5, I a6, I a7, B a8, B a9, B a10, I a11]] []) := by
  refine hX.go [c_ [] shown16, c_ [] (rCheck a1 a2 a3 a4 a5 a6 a7 a8 a9 a10 a11)] ?_
  by_cases h0 : (chk a1 a2 a3 a4 a5 a6 a7 a11) = 0
  · obtain ⟨h1, K2⟩ := H h0
    have h2 : Ir (31 * 200) := by decide
    refine hX.go [f_ (bne_eq_false_iff_eq.2 h0), f_ (bne_eq_false_iff_eq.2 h0), c_ [] (show S 11 [.agg [I a1, I a2, I a3, I a4, I a5, I a6, I a7, B a8, B a9, B a10, I a11], I 200] [] (B (shB a5 a6 200)) [] from rShort _ _ _ _ _ _ _ _ _ _ _ _ h1 h2), f_ (bne_eq_false_iff_eq.2 h0), f_ (bne_eq_false_iff_eq.2 h0)] ?_
    rcases bcase (shB a5 a6 200) with h3 | h3
    · obtain ⟨h4, c5, K5⟩ := K2 h3
      refine hX.go [f_ (nf h3), c_ [] (show S 14 [.agg [I a1, I a2, I a3, I a4, I a5, I a6, I a7, B a8, B a9, B a10, I a11]] [] (.tup [.sl 0 (dN a1 a2 a3 a4 a5 a6 a7 a8 a9 a10 a11), I (chk a1 a2 a3 a4 a5 a6 a7 a11)]) [some (.row true 3 (dN a1 a2 a3 a4 a5 a6 a7 a8 a9 a10 a11) 1 (fun i => [I (dV a5 a6 a7 a9 a8 a10 i)]))] from dOf _ _ _ _ _ _ _ _ _ _ _ h4)] ?_
      by_cases h5 : (((dN a1 a2 a3 a4 a5 a6 a7 a8 a9 a10 a11) : Nat) : Int) < 2
      · exact absurd h5 c5
      · obtain ⟨h6, c7, K7⟩ := K5
        by_cases h7 : (dV a5 a6 a7 a9 a8 a10 0) = a5
        · obtain ⟨h8, h9, c10, K10⟩ := K7
          refine hX.go [d_ 22, n_ 3 (f_ (bne_eq_false_iff_eq.2 h0)), f_ (df h5), f_ (df h5), q_ h6, q_ (show (dN a1 a2 a3 a4 a5 a6 a7 a8 a9 a10 a11) = (dN a1 a2 a3 a4 a5 a6 a7 a8 a9 a10 a11) from rfl), f_ (df h5), q_ h6, n_ 4 (f_ (df h5)), n_ 3 (f_ (bne_eq_false_iff_eq.2 h7)), q_ h8, f_ (bne_eq_false_iff_eq.2 h7), q_ h9, q_ (show (dN a1 a2 a3 a4 a5 a6 a7 a8 a9 a10 a11) = (dN a1 a2 a3 a4 a5 a6 a7 a8 a9 a10 a11) from rfl), f_ (bne_eq_false_iff_eq.2 h7), q_ h9, n_ 4 (f_ (bne_eq_false_iff_eq.2 h7))] ?_
          by_cases h10 : (dV a5 a6 a7 a9 a8 a10 (((((dN a1 a2 a3 a4 a5 a6 a7 a8 a9 a10 a11) : Nat) : Int) - 1).toNat)) = a6
          · have k := K10
            exact hX.h 9 [f_ (bne_eq_false_iff_eq.2 h10)] (oldM 2) k
          · exact absurd c10 h10
        · exact absurd c7 h7
    · exact hX.e [t_ (nt h3)]
  · exact hX.e [n_ 4 (t_ (bne_iff_ne.2 h0)), t_ rt]
theorem DatesRise_w1 {X : Cx} {x1 x2 x3 x4 x5 x6 x7 x8 x9 : Int} {b10 b11 b12 : Bool} {x13 : Int} {n1_ : Nat} {g1011 : Nat → Int}  (hX : Fi X 4 [] (B true) []) (H : (x2 < x1 → (x2 > 0 → ((0 : Int) ≤ x2 ∧ x2 < ((n1_ : Nat) : Int)) ∧ Ir (x2 - 1) ∧ ((0 : Int) ≤ (x2 - 1) ∧ (x2 - 1) < ((n1_ : Nat) : Int)) ∧ ¬ (g1011 x2.toNat) ≤ (g1011 ((x2 - 1).toNat)) ∧ Ir (x2 * x9) ∧ (b10 = true → Ir (x1 - 1) ∧ Ir (x2 - (x1 - 1)) ∧ Ir ((x2 - (x1 - 1)) * x9) ∧ (x2 = 0 → Ir (x2 + 1) ∧ Ok X (DatesRise_h0 x1 (x2 + 1) x3 x4 x5 x6 x7 x8 x9 b10 b11 b12 x13 n1_ g1011)) ∧ (x2 ≠ 0 → ((mv x8 ((x2 - (x1 - 1)) * x9) b12).2) = 0 ∧ ((mv x8 ((x2 - (x1 - 1)) * x9) b12).1) = (g1011 x2.toNat) ∧ Ir (x2 + 1) ∧ Ok X (DatesRise_h0 x1 (x2 + 1) x3 x4 x5 x6 x7 x8 x9 b10 b11 b12 x13 n1_ g1011))) ∧ (b10 = false → Ir (x1 - 1) ∧ (x2 ≠ (x1 - 1) → ((mv x7 (x2 * x9) b12).2) = 0 ∧ ((mv x7 (x2 * x9) b12).1) = (g1011 x2.toNat) ∧ Ir (x2 + 1) ∧ Ok X (DatesRise_h0 x1 (x2 + 1) x3 x4 x5 x6 x7 x8 x9 b10 b11 b12 x13 n1_ g1011)) ∧ (x2 = (x1 - 1) → Ir (x2 + 1) ∧ Ok X (DatesRise_h0 x1 (x2 + 1) x3 x4 x5 x6 x7 x8 x9 b10 b11 b12 x13 n1_ g1011)))) ∧ (¬ x2 > 0 → Ir (x2 * x9) ∧ (b10 = true → Ir (x1 - 1) ∧ Ir (x2 - (x1 - 1)) ∧ Ir ((x2 - (x1 - 1)) * x9) ∧ (x2 = 0 → Ir (x2 + 1) ∧ Ok X (DatesRise_h0 x1 (x2 + 1) x3 x4 x5 x6 x7 x8 x9 b10 b11 b12 x13 n1_ g1011)) ∧ (x2 ≠ 0 → ((mv x8 ((x2 - (x1 - 1)) * x9) b12).2) = 0 ∧ ((0 : Int) ≤ x2 ∧ x2 < ((n1_ : Nat) : Int)) ∧ ((mv x8 ((x2 - (x1 - 1)) * x9) b12).1) = (g1011 x2.toNat) ∧ Ir (x2 + 1) ∧ Ok X (DatesRise_h0 x1 (x2 + 1) x3 x4 x5 x6 x7 x8 x9 b10 b11 b12 x13 n1_ g1011))) ∧ (b10 = false → Ir (x1 - 1) ∧ (x2 ≠ (x1 - 1) → ((mv x7 (x2 * x9) b12).2) = 0 ∧ ((0 : Int) ≤ x2 ∧ x2 < ((n1_ : Nat) : Int)) ∧ ((mv x7 (x2 * x9) b12).1) = (g1011 x2.toNat) ∧ Ir (x2 + 1) ∧ Ok X (DatesRise_h0 x1 (x2 + 1) x3 x4 x5 x6 x7 x8 x9 b10 b11 b12 x13 n1_ g1011)) ∧ (x2 = (x1 - 1) → Ir (x2 + 1) ∧ Ok X (DatesRise_h0 x1 (x2 + 1) x3 x4 x5 x6 x7 x8 x9 b10 b11 b12 x13 n1_ g1011)))))) :
    Ok X (DatesRise_h0 x1 x2 x3 x4 x5 x6 x7 x8 x9 b10 b11 b12 x13 n1_ g1011) := by
  by_cases h0 : x2 < x1
  · obtain ⟨L1, K1⟩ := H h0
    refine hX.go [t_ (dt h0)] ?_
    by_cases h1 : x2 > 0
    · obtain ⟨h2, h3, h4, c5, K5⟩ := L1 h1
      refine hX.go [d_ 12, n_ 3 (t_ (dt h1)), q_ h2, q_ (re n1_), t_ (dt h1), q_ h2, n_ 3 (t_ (dt h1)), q_ h3, t_ (dt h1), q_ h4, q_ (re n1_), t_ (dt h1), q_ h4, t_ (dt h1), t_ (dt h1)] ?_
      by_cases h5 : (g1011 x2.toNat) ≤ (g1011 ((x2 - 1).toNat))
      · exact absurd h5 c5
      · obtain ⟨h6, L7, K7⟩ := K5
        refine hX.go [f_ (df h5), q_ h6] ?_
        rcases bcase b10 with h7 | h7
        · obtain ⟨h8, h9, h10, L11, K11⟩ := L7 h7
          refine hX.go [t_ h7, q_ h8, q_ h9, q_ h10, c_ [] (rMove x8 ((x2 - (x1 - 1)) * x9) b12), n_ 3 (t_ h7)] ?_
          by_cases h11 : x2 = 0
          · obtain ⟨h12, k⟩ := L11 h11
            exact hX.h 38 [n_ 6 (t_ (beq_iff_eq.2 h11)), n_ 6 (f_ rf), q_ h12] (oldM 2) k
          · obtain ⟨c12, K12⟩ := K11 h11
            refine hX.go [n_ 4 (f_ (beq_eq_false_iff_ne.2 h11)), n_ 4 (f_ (nf h7)), f_ (beq_eq_false_iff_ne.2 h11), f_ (nf h7), f_ (beq_eq_false_iff_ne.2 h11), n_ 3 (t_ rt)] ?_
            by_cases h12 : ((mv x8 ((x2 - (x1 - 1)) * x9) b12).2) = 0
            · obtain ⟨c13, K13⟩ := K12
              refine hX.go [n_ 4 (f_ (bne_eq_false_iff_eq.2 h12)), q_ h2, q_ (re n1_), f_ (bne_eq_false_iff_eq.2 h12), q_ h2, f_ (bne_eq_false_iff_eq.2 h12), t_ rt, f_ (bne_eq_false_iff_eq.2 h12), t_ rt] ?_
              by_cases h13 : ((mv x8 ((x2 - (x1 - 1)) * x9) b12).1) = (g1011 x2.toNat)
              · obtain ⟨h14, k⟩ := K13
                exact hX.h 9 [f_ (bne_eq_false_iff_eq.2 h13), q_ h14] (oldM 2) k
              · exact absurd c13 h13
            · exact absurd c12 h12
        · obtain ⟨h8, L9, K9⟩ := K7 h7
          refine hX.go [f_ h7, c_ [] (rMove x7 (x2 * x9) b12), n_ 3 (f_ h7), n_ 4 (f_ rf), n_ 3 (t_ (nt h7)), q_ h8, t_ (nt h7), f_ rf, t_ (nt h7), f_ rf] ?_
          by_cases h9 : x2 = (x1 - 1)
          · obtain ⟨h10, k⟩ := K9 h9
            exact hX.h 21 [n_ 5 (f_ (Go.Sx.not_f (beq_iff_eq.2 h9))), f_ rf, q_ h10] (oldM 2) k
          · obtain ⟨c10, K10⟩ := L9 h9
            refine hX.go [n_ 3 (t_ (Go.Sx.not_t (beq_eq_false_iff_ne.2 h9)))] ?_
            by_cases h10 : ((mv x7 (x2 * x9) b12).2) = 0
            · obtain ⟨c11, K11⟩ := K10
              refine hX.go [n_ 4 (f_ (bne_eq_false_iff_eq.2 h10)), q_ h2, q_ (re n1_), f_ (bne_eq_false_iff_eq.2 h10), q_ h2, f_ (bne_eq_false_iff_eq.2 h10), t_ (Go.Sx.not_t (beq_eq_false_iff_ne.2 h9)), f_ (bne_eq_false_iff_eq.2 h10), t_ (Go.Sx.not_t (beq_eq_false_iff_ne.2 h9))] ?_
              by_cases h11 : ((mv x7 (x2 * x9) b12).1) = (g1011 x2.toNat)
              · obtain ⟨h12, k⟩ := K11
                exact hX.h 9 [f_ (bne_eq_false_iff_eq.2 h11), q_ h12] (oldM 2) k
              · exact absurd c11 h11
            · exact absurd c10 h10
    · obtain ⟨h2, L3, K3⟩ := K1 h1
      refine hX.go [d_ 12, n_ 11 (f_ (df h1)), f_ rf, q_ h2] ?_
      rcases bcase b10 with h3 | h3
      · obtain ⟨h4, h5, h6, L7, K7⟩ := L3 h3
        refine hX.go [t_ h3, q_ h4, q_ h5, q_ h6, c_ [] (rMove x8 ((x2 - (x1 - 1)) * x9) b12), n_ 3 (t_ h3)] ?_
        by_cases h7 : x2 = 0
        · obtain ⟨h8, k⟩ := L7 h7
          exact hX.h 38 [n_ 6 (t_ (beq_iff_eq.2 h7)), n_ 6 (f_ rf), q_ h8] (oldM 2) k
        · obtain ⟨c8, K8⟩ := K7 h7
          refine hX.go [n_ 4 (f_ (beq_eq_false_iff_ne.2 h7)), n_ 4 (f_ (nf h3)), f_ (beq_eq_false_iff_ne.2 h7), f_ (nf h3), f_ (beq_eq_false_iff_ne.2 h7), n_ 3 (t_ rt)] ?_
          by_cases h8 : ((mv x8 ((x2 - (x1 - 1)) * x9) b12).2) = 0
          · obtain ⟨h9, c10, K10⟩ := K8
            refine hX.go [n_ 4 (f_ (bne_eq_false_iff_eq.2 h8)), q_ h9, q_ (re n1_), f_ (bne_eq_false_iff_eq.2 h8), q_ h9, f_ (bne_eq_false_iff_eq.2 h8), t_ rt, f_ (bne_eq_false_iff_eq.2 h8), t_ rt] ?_
            by_cases h10 : ((mv x8 ((x2 - (x1 - 1)) * x9) b12).1) = (g1011 x2.toNat)
            · obtain ⟨h11, k⟩ := K10
              exact hX.h 9 [f_ (bne_eq_false_iff_eq.2 h10), q_ h11] (oldM 2) k
            · exact absurd c10 h10
          · exact absurd c8 h8
      · obtain ⟨h4, L5, K5⟩ := K3 h3
        refine hX.go [f_ h3, c_ [] (rMove x7 (x2 * x9) b12), n_ 3 (f_ h3), n_ 4 (f_ rf), n_ 3 (t_ (nt h3)), q_ h4, t_ (nt h3), f_ rf, t_ (nt h3), f_ rf] ?_
        by_cases h5 : x2 = (x1 - 1)
        · obtain ⟨h6, k⟩ := K5 h5
          exact hX.h 21 [n_ 5 (f_ (Go.Sx.not_f (beq_iff_eq.2 h5))), f_ rf, q_ h6] (oldM 2) k
        · obtain ⟨c6, K6⟩ := L5 h5
          refine hX.go [n_ 3 (t_ (Go.Sx.not_t (beq_eq_false_iff_ne.2 h5)))] ?_
          by_cases h6 : ((mv x7 (x2 * x9) b12).2) = 0
          · obtain ⟨h7, c8, K8⟩ := K6
            refine hX.go [n_ 4 (f_ (bne_eq_false_iff_eq.2 h6)), q_ h7, q_ (re n1_), f_ (bne_eq_false_iff_eq.2 h6), q_ h7, f_ (bne_eq_false_iff_eq.2 h6), t_ (Go.Sx.not_t (beq_eq_false_iff_ne.2 h5)), f_ (bne_eq_false_iff_eq.2 h6), t_ (Go.Sx.not_t (beq_eq_false_iff_ne.2 h5))] ?_
            by_cases h8 : ((mv x7 (x2 * x9) b12).1) = (g1011 x2.toNat)
            · obtain ⟨h9, k⟩ := K8
              exact hX.h 9 [f_ (bne_eq_false_iff_eq.2 h8), q_ h9] (oldM 2) k
            · exact absurd c8 h8
          · exact absurd c6 h6
  · exact hX.e [f_ (df h0)]

theorem dRise {a1 a2 a3 a4 a5 a6 a7 : Int} {a8 a9 a10 : Bool} {a11 : Int} :
    S 4 [.agg [I a1, I a2, I a3, I a4, I a5, I a6, I a7, B a8, B a9, B a10, I a11]] [] (B true) [] := by
  refine SCall.st fun X hX => DatesRise_w0 hX (fun h0 => ?_)
  have hL := chk_loan h0
  have b1 := isDay_iff.1 hL.ds
  have b2 := isDay_iff.1 hL.de
  refine ⟨irT (by omega), fun h3 => ?_⟩
  have hm := hL.m1
  have hs : a6 - a5 ≤ 6200 * a7 := by have := (shB_t h3).1; omega
  have hmN := mN_le (back := a8) (eom := a10) hL hs
  have hgN := (gN_le (back := a8) (eom := a10) hL hs).2
  have hd := dM_le (s := a5) (e := a6) (mo := a7) (long := a9) (back := a8) (eom := a10)
  rw [dN_eq h0]
  have r1 : ∀ i, i ≤ dM a5 a6 a7 a9 a8 a10 → dV a5 a6 a7 a9 a8 a10 i < dV a5 a6 a7 a9 a8 a10 (i + 1) := fun i hi => dV_rise hL hs hi
  have r2 : a8 = true → ∀ i, 1 ≤ i → i ≤ dM a5 a6 a7 a9 a8 a10 + 1 → dV a5 a6 a7 a9 a8 a10 i = (stp a5 a6 a7 a8 a10 (dM a5 a6 a7 a9 a8 a10 + 1 - i)).1 := fun hb i h1 h2 => dV_back hL hs hb h1 h2
  have r3 : a8 = false → ∀ i, i ≤ dM a5 a6 a7 a9 a8 a10 → dV a5 a6 a7 a9 a8 a10 i = (stp a5 a6 a7 a8 a10 i).1 := fun hb i h1 => dV_fwd hL hb h1
  have r4 : ∀ j, j ≤ dM a5 a6 a7 a9 a8 a10 → (stp a5 a6 a7 a8 a10 j).2 = 0 := fun j hj => stp_d (long := a9) hL hs hj
  refine ⟨fun _ => hs, by omega, by omega, dV_zero, irT (by omega), by omega, ?_, ?_⟩
  · rw [show ((((dM a5 a6 a7 a9 a8 a10 + 2 : Nat) : Int) - 1).toNat) = dM a5 a6 a7 a9 a8 a10 + 1 by omega]; exact dV_last
  generalize dM a5 a6 a7 a9 a8 a10 = M at *
  generalize dV a5 a6 a7 a9 a8 a10 = V at *
  have key : ∀ f i : Nat, i + f = M + 2 → Ok X (DatesRise_h0 ((M + 2 : Nat) : Int) (i : Int) a1 a2 a3 a4 a5 a6 a7 a8 a9 a10 a11 (M + 2) V) := by
    intro f
    induction f with
    | zero => intro i hi; exact DatesRise_w1 hX (fun c => absurd c (by omega))
    | succ f ih =>
      intro i hi
      obtain ⟨m1, m2, m3, m4⟩ := mul_le (k := (i : Int)) (K := i) hL rfl (by omega)
      obtain ⟨n1, n2, n3, n4⟩ := mul_le (k := ((M + 2 : Nat) : Int) - 1 - i) (K := M + 1 - i) hL (by omega) (by omega)
      have nn : ((i : Int) - (((M + 2 : Nat) : Int) - 1)) * a7 = -((((M + 2 : Nat) : Int) - 1 - i) * a7) := by rw [← Int.neg_mul]; congr 1; omega
      have nx : Ok X (DatesRise_h0 ((M + 2 : Nat) : Int) ((i : Int) + 1) a1 a2 a3 a4 a5 a6 a7 a8 a9 a10 a11 (M + 2) V) := ih (i + 1) (by omega)
      have ti : ((i : Int)).toNat = i := Int.toNat_natCast i
      have g1 : a8 = true → 1 ≤ i → (mv a6 (((i : Int) - (((M + 2 : Nat) : Int) - 1)) * a7) a10).2 = 0 ∧ (mv a6 (((i : Int) - (((M + 2 : Nat) : Int) - 1)) * a7) a10).1 = V ((i : Int)).toNat := by
        intro hb hi1
        have e1 : mv a6 (((i : Int) - (((M + 2 : Nat) : Int) - 1)) * a7) a10 = stp a5 a6 a7 a8 a10 (M + 1 - i) := by
          rw [hb, stp_t]; congr 1; rw [nn, Int.mul_neg, show ((M + 2 : Nat) : Int) - 1 - i = ((M + 1 - i : Nat) : Int) by omega]
        rw [e1, ti, r2 hb i hi1 (by omega)]; exact ⟨r4 _ (by omega), rfl⟩
      have g2 : a8 = false → (i : Int) ≠ ((M + 2 : Nat) : Int) - 1 → (mv a5 ((i : Int) * a7) a10).2 = 0 ∧ (mv a5 ((i : Int) * a7) a10).1 = V ((i : Int)).toNat := by
        intro hb hi1
        have e1 : mv a5 ((i : Int) * a7) a10 = stp a5 a6 a7 a8 a10 i := by rw [hb, stp_f]
        rw [e1, ti, r3 hb i (by omega)]; exact ⟨r4 _ (by omega), rfl⟩
      refine DatesRise_w1 hX (fun _ => ⟨fun c => ⟨by omega, irT (by omega), by omega, ?_, irT (by omega), fun hb => ⟨irT (by omega), irT (by omega), irT (by omega), fun z => ⟨irT (by omega), nx⟩, fun z => ⟨(g1 hb (by omega)).1, (g1 hb (by omega)).2, irT (by omega), nx⟩⟩, fun hb => ⟨irT (by omega), fun z => ⟨(g2 hb z).1, (g2 hb z).2, irT (by omega), nx⟩, fun z => ⟨irT (by omega), nx⟩⟩⟩,
        fun c => ⟨irT (by omega), fun hb => ⟨irT (by omega), irT (by omega), irT (by omega), fun z => ⟨irT (by omega), nx⟩, fun z => absurd z (by omega)⟩, fun hb => ⟨irT (by omega), fun z => ⟨(g2 hb z).1, by omega, (g2 hb z).2, irT (by omega), nx⟩, fun z => ⟨irT (by omega), nx⟩⟩⟩⟩)
      have := r1 (i - 1) (by omega)
      rw [show i - 1 + 1 = i by omega] at this
      rw [ti, show ((i : Int) - 1).toNat = i - 1 by omega]; omega
  exact key (M + 2) 0 (by omega)

end Go.Proofs.YthfmjoeampekgaaGreatDoor
