/-
  The law AccrueSplits: its contract.
-/
import Derived.Test.YtehnnaanpmceiaaGreatDoorAc2
import Derived.Test.YtehnnaanpmceiaaGreatDoorRf2
import Derived.Test.YtehnnaanpmceiaaGreatDoorProg
import Derived.KernelRfl
set_option linter.unusedVariables false
set_option linter.unusedSimpArgs false
set_option linter.unusedSectionVars false
set_option maxRecDepth 100000
namespace Go.Proofs.YtehnnaanpmceiaaGreatDoor
open Go Go.Sx
variable [Env]

theorem accrueSplits_ok {a1 a2 a3 a4 a5 a6 a7 : Int} (i1 : InR .u64 a1) (i2 : InR .u64 a2) (i3 : InR .u16 a3) : S 12 [.agg [N .u64 a1, N .u64 a2, N .u16 a3, I a4, I a5, I a6, I a7]] [] (B true) [] := by
  simp only [InR] at i1 i2 i3
  refine SCall.st fun X hX => ?_
  have add := ref_AddX a4 a5 a6 a7
  obtain ⟨s1, s2, s3, hs⟩ : ∃ s1 s2 s3, mkR (uX a4 * uX a7 + uX a6 * uX a5) (uX a5 * uX a7) = (s1, s2, s3) := ⟨_, _, _, rfl⟩
  rw [hs] at add
  refine hX.go [c_ [] shown18, c_ [] add] ?_
  by_cases h0 : s3 = 0
  · have n0 := bne_eq_false_iff_eq.2 h0
    have h1 : 3 ≤ 1000 := by omega
    refine hX.go [f_ n0, f_ n0, f_ n0, f_ n0, q_ (show ∀ k, k < 3 → (fun i => [I ([a4, a6, s1].getD i 0), I ([a5, a7, s2].getD i 0)]) k = [[I a4, I a5], [I a6, I a7], [I s1, I s2]].getD k [] from by intro k hk; match k, hk with | 0, _ => rfl | 1, _ => rfl | 2, _ => rfl | k + 3, hk => omega), h_ [.row (fun i => [I ([a4, a6, s1].getD i 0), I ([a5, a7, s2].getD i 0)])], f_ n0, c_ [4] (show S 37 [.sl 0 3] [some (.row false 29 3 2 (fun i => [I ([a4, a6, s1].getD i 0), I ([a5, a7, s2].getD i 0)]))] (B (usB (fun i => [a4, a6, s1].getD i 0) (fun i => [a5, a7, s2].getD i 0) 3)) [] from rUsual h1), f_ n0, f_ n0] ?_
    rcases (bcase (usB (fun i => [a4, a6, s1].getD i 0) (fun i => [a5, a7, s2].getD i 0) 3)).symm with u | u
    · exact hX.e [t_ (nt u)]
    · have u0 : okU a4 a5 = true := usB_at u 0 (by decide)
      have u1 : okU a6 a7 = true := usB_at u 1 (by decide)
      have u2 : okU s1 s2 = true := usB_at u 2 (by decide)
      subst h0
      obtain ⟨A, hA⟩ : ∃ M : Nat, a1 % 100000000000000 = (M : Int) := ⟨(a1 % 100000000000000).toNat, by omega⟩
      obtain ⟨E, hE⟩ : ∃ M : Nat, a2 % 100000000000000 = (M : Int) := ⟨(a2 % 100000000000000).toNat, by omega⟩
      obtain ⟨p, hp⟩ : ∃ M : Nat, a3 % 9001 = (M : Int) := ⟨(a3 % 9001).toNat, by omega⟩
      have bA : A ≤ 100000000000000 := by omega
      have bE : E ≤ 100000000000000 := by omega
      have bp : p ≤ 9000 := by omega
      have b1 : A * p ≤ 100000000000000 * 9000 := Nat.mul_le_mul bA bp
      have b2 : E * p ≤ 100000000000000 * 9000 := Nat.mul_le_mul bE bp
      have b3 : (A + E) * p = A * p + E * p := Nat.add_mul _ _ _
      obtain ⟨N, D, rfl, rfl, bN, bD0, bD, bND, hR⟩ := okU_nat u0
      obtain ⟨N2, D2, rfl, rfl, bN2, bD02, bD2, bND2, hR2⟩ := okU_nat u1
      obtain ⟨N3, D3, e1, e2, bN3, bD03, bD3, bND3, hR3⟩ := okU_nat u2
      rw [uX_nat (by omega), uX_nat (by omega), uX_nat (by omega), uX_nat (by omega)] at hs
      obtain ⟨Ns, Ds, g, e, hg, hN, hD, hD0, hRs⟩ := mkR_z (n := N * D2 + N2 * D) (d := D * D2) (Nat.mul_pos (by omega) (by omega)) (by rw [hs])
      rw [hs] at e
      have en : N3 = Ns := by have := congrArg (·.1) e; simp only at this; omega
      have ed : D3 = Ds := by have := congrArg (·.2.1) e; simp only at this; omega
      subst en ed
      subst e1 e2
      have c0 := ofV_ok (o := A) (r := p) (n := N) (d := D) (by omega) bN bD0 bD bND hR
      have c1 := ofV_ok (o := E) (r := p) (n := N) (d := D) (by omega) bN bD0 bD bND hR
      have c2 := ofV_ok (o := A + E) (r := p) (n := N) (d := D) (by omega) bN bD0 bD bND hR
      have c3 := ofV_ok (o := A) (r := p) (n := N2) (d := D2) (by omega) bN2 bD02 bD2 bND2 hR2
      have c4 := ofV_ok (o := A) (r := p) (n := N3) (d := D3) (by omega) bN3 bD03 bD3 bND3 hR3
      have X0 : 0 < 10000 * D := by omega
      have d1 := near_sum (x := A * p * N) (d := 10000 * D) (y := E * p * N) (e := 10000 * D) (z := (A + E) * p * N) (f := 10000 * D) X0 X0 X0 (by
        rw [b3, Nat.add_mul (A * p) (E * p) N, ← Nat.add_mul (A * p * N) (E * p * N) (10000 * D), Nat.mul_assoc (A * p * N + E * p * N)])
      have d2 := near_sum (x := A * p * N) (d := 10000 * D) (y := A * p * N2) (e := 10000 * D2) (z := A * p * N3) (f := 10000 * D3) X0 (by omega) (by omega) (by
        refine Nat.eq_of_mul_eq_mul_right hg ?_
        have f1 : A * p * N3 * (10000 * D * (10000 * D2)) * g = A * p * (10000 * 10000) * ((N3 * g) * (D * D2)) := by
          simp only [Nat.mul_assoc, Nat.mul_left_comm, Nat.mul_comm]
        have f2 : (A * p * N * (10000 * D2) + A * p * N2 * (10000 * D)) * (10000 * D3) * g = A * p * (10000 * 10000) * ((N * D2 + N2 * D) * (D3 * g)) := by
          simp only [Nat.add_mul, Nat.mul_add, Nat.mul_assoc, Nat.mul_left_comm, Nat.mul_comm]
        rw [f1, f2, hN, hD])
      have r0 : Ir (A : Int) := by simp only [Ir, InR]; omega
      have r1 : Ir (E : Int) := by simp only [Ir, InR]; omega
      have r2 : Ir ((A : Int) + (E : Int)) := by simp only [Ir, InR]; omega
      have rp : Ir (p : Int) := by simp only [Ir, InR]; omega
      have o0 := aOf (N : Int) (D : Int) r0 rp
      have o1 := aOf (N : Int) (D : Int) r1 rp
      have o2 := aOf (N : Int) (D : Int) r2 rp
      have o3 := aOf (N2 : Int) (D2 : Int) r0 rp
      have o4 := aOf (N3 : Int) (D3 : Int) r0 rp
      rw [← Int.natCast_add] at o2
      rw [c0] at o0
      rw [c1] at o1
      rw [c2] at o2
      rw [c3] at o3
      rw [c4] at o4
      rw [Int.natCast_add] at o2
      rw [← hA, ← hp] at o0 o3 o4
      rw [← hE, ← hp] at o1
      rw [← hA, ← hE, ← hp] at o2
      -- no number is great
      have k0 : ∀ {o n d : Nat}, o ≤ 2 * (100000000000000 * 9000) → 1 ≤ d → n ≤ 100 * d → near (o * n) (10000 * d) ≤ 100000000000000000 := fun {o n d} ho hd hn => by
        have := near_le (o * n) (10000 * d)
        have h1 : o * n ≤ 2 * (100000000000000 * 9000) * (100 * d) := Nat.mul_le_mul ho hn
        have h2 : o * n / (10000 * d) ≤ 18000000000000000 := Nat.div_le_of_le_mul (by omega)
        omega
      have m0 := k0 (o := A * p) (by omega) bD0 bND
      have m1 := k0 (o := E * p) (by omega) bD0 bND
      have m2 := k0 (o := (A + E) * p) (by omega) bD0 bND
      have m3 := k0 (o := A * p) (by omega) bD02 bND2
      have m4 := k0 (o := A * p) (by omega) bD03 bND3
      obtain ⟨x, hx⟩ : ∃ x, near (A * p * N) (10000 * D) = x := ⟨_, rfl⟩
      obtain ⟨y, hy⟩ : ∃ x, near (E * p * N) (10000 * D) = x := ⟨_, rfl⟩
      obtain ⟨z, hz⟩ : ∃ x, near ((A + E) * p * N) (10000 * D) = x := ⟨_, rfl⟩
      obtain ⟨w, hw⟩ : ∃ x, near (A * p * N2) (10000 * D2) = x := ⟨_, rfl⟩
      obtain ⟨v, hv⟩ : ∃ x, near (A * p * N3) (10000 * D3) = x := ⟨_, rfl⟩
      rw [hx] at o0 d1 d2 m0
      rw [hy] at o1 d1 m1
      rw [hz] at o2 d1 m2
      rw [hw] at o3 d2 m3
      rw [hv] at o4 d2 m4
      have h3 : (0 : Int) ≤ a1 := by omega
      have h4 : Ir (a1 % 100000000000000) := by simp only [Ir, InR]; omega
      have h5 : (0 : Int) ≤ a2 := by omega
      have h6 : Ir (a2 % 100000000000000) := by simp only [Ir, InR]; omega
      have h7 : Ir a3 := by simp only [Ir, InR]; omega
      have h8 : (0 : Int) ≤ a3 := by omega
      have h9 : Ir ((a1 % 100000000000000) + (a2 % 100000000000000)) := by simp only [Ir, InR]; omega
      have h10 : Ir ((z : Int) - (x : Int)) := by simp only [Ir, InR]; omega
      have h11 : Ir ((z : Int) - (x : Int) - (y : Int)) := by simp only [Ir, InR]; omega
      have h12 : Ir ((v : Int) - (x : Int)) := by simp only [Ir, InR]; omega
      have h13 : Ir ((v : Int) - (x : Int) - (w : Int)) := by simp only [Ir, InR]; omega
      have h14 : (z : Int) - (x : Int) - (y : Int) ≥ (-1) := by omega
      have h15 : (z : Int) - (x : Int) - (y : Int) ≤ 1 := by omega
      have h16 : (v : Int) - (x : Int) - (w : Int) ≥ (-1) := by omega
      have h17 : decide ((v : Int) - (x : Int) - (w : Int) ≤ 1) = true := decide_eq_true (by omega)
      rw [← h17] at hX
      exact hX.e [f_ (nf u), q_ h3, q_ (show (0 : Int) < 100000000000000 from by decide), q_ h4, q_ h5, q_ (show (0 : Int) < 100000000000000 from by decide), q_ h6, q_ h7, q_ h8, q_ (show (0 : Int) < 9001 from by decide), c_ [] o0, c_ [] o1, q_ h9, c_ [] o2, c_ [] o3, c_ [] o4, q_ h10, q_ h11, q_ h12, q_ h13, t_ rt, t_ rt, t_ rt, t_ rt, t_ rt, t_ rt, t_ rt, t_ rt, t_ rt, t_ rt, t_ rt, t_ rt, t_ rt, t_ rt, t_ rt, t_ rt, t_ rt, t_ rt, t_ (dt h14), t_ (dt h14), t_ (dt h14), t_ (dt h15), t_ (dt h15), t_ (dt h15), t_ (dt h16), t_ (dt h16), t_ (dt h16)]
  · have n0 := bne_iff_ne.2 h0
    exact hX.e [t_ n0, t_ n0, t_ n0, t_ n0, t_ n0, t_ n0, t_ n0, t_ rt]

end Go.Proofs.YtehnnaanpmceiaaGreatDoor
