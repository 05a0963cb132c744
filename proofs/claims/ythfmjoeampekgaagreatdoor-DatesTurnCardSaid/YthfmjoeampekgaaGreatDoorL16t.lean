/-
  Chapter 16's laws: TURN.
-/
import Derived.Test.YthfmjoeampekgaaGreatDoorDp
import Derived.Test.YthfmjoeampekgaaGreatDoorProg
import Derived.KernelRfl
set_option linter.unusedVariables false
set_option linter.unusedSimpArgs false
set_option linter.unusedSectionVars false
set_option maxRecDepth 100000
namespace Go.Proofs.YthfmjoeampekgaaGreatDoor
open Go Go.Sx
variable [EnvT]

theorem DatesTurn_w {a1 a2 a3 a4 a5 a6 a7 : Int} {a8 a9 a10 : Bool} {a11 a12 a13 a14 a15 : Int}  (H : ((chk a1 a2 a3 a4 a5 a6 a7 a11) = 0 → Ir (a6 - a5) ∧ ((shB a5 a6 100) = true → (chk a1 a2 a3 a4 a5 a6 a7 a11 = 0 → a6 - a5 ≤ 6200 * a7) ∧ Ir a12 ∧ (0 : Int) ≤ a12 ∧ Ir a13 ∧ (0 : Int) ≤ a13 ∧ Ir a14 ∧ (0 : Int) ≤ a14 ∧ Ir a15 ∧ Ir (1 + a15) ∧ (chk (1 + a15) a15 (a12 % 3) (a13 % 7) a5 a6 a7 (a14 % 5) = 0 → a6 - a5 ≤ 6200 * a7) ∧ (a8 = true → (chk a1 a2 a3 a4 a5 a6 a7 a11) = (chk (1 + a15) a15 (a12 % 3) (a13 % 7) a5 a6 a7 (a14 % 5)) ∧ (dN a1 a2 a3 a4 a5 a6 a7 a8 a9 a10 a11) < 9223372036854775807 ∧ ((decide ((dN a1 a2 a3 a4 a5 a6 a7 a8 a9 a10 a11) = (dN (1 + a15) a15 (a12 % 3) (a13 % 7) a5 a6 a7 a8 a9 a10 (a14 % 5)) ∧ ∀ i, i < (dN a1 a2 a3 a4 a5 a6 a7 a8 a9 a10 a11) → (fun i => dV a5 a6 a7 a9 a8 a10 i) i = (fun i => dV a5 a6 a7 a9 a8 a10 i) i)) = true) ∧ ((lastB a6) = false → (chk a1 a2 a3 a4 a5 a6 a7 a11) = (chk a1 a2 a3 a4 a5 a6 a7 a11) ∧ (decide ((dN a1 a2 a3 a4 a5 a6 a7 a8 a9 a10 a11) = (dN a1 a2 a3 a4 a5 a6 a7 a8 a9 (!a10) a11) ∧ ∀ i, i < (dN a1 a2 a3 a4 a5 a6 a7 a8 a9 a10 a11) → (fun i => dV a5 a6 a7 a9 a8 a10 i) i = (fun i => dV a5 a6 a7 a9 a8 (!a10) i) i)) = true)) ∧ (a8 = false → (chk a1 a2 a3 a4 a5 a6 a7 a11) = (chk (1 + a15) a15 (a12 % 3) (a13 % 7) a5 a6 a7 (a14 % 5)) ∧ (dN a1 a2 a3 a4 a5 a6 a7 a8 a9 a10 a11) < 9223372036854775807 ∧ ((decide ((dN a1 a2 a3 a4 a5 a6 a7 a8 a9 a10 a11) = (dN (1 + a15) a15 (a12 % 3) (a13 % 7) a5 a6 a7 a8 a9 a10 (a14 % 5)) ∧ ∀ i, i < (dN a1 a2 a3 a4 a5 a6 a7 a8 a9 a10 a11) → (fun i => dV a5 a6 a7 a9 a8 a10 i) i = (fun i => dV a5 a6 a7 a9 a8 a10 i) i)) = true) ∧ ((lastB a5) = false → (chk a1 a2 a3 a4 a5 a6 a7 a11) = (chk a1 a2 a3 a4 a5 a6 a7 a11) ∧ (decide ((dN a1 a2 a3 a4 a5 a6 a7 a8 a9 a10 a11) = (dN a1 a2 a3 a4 a5 a6 a7 a8 a9 (!a10) a11) ∧ ∀ i, i < (dN a1 a2 a3 a4 a5 a6 a7 a8 a9 a10 a11) → (fun i => dV a5 a6 a7 a9 a8 a10 i) i = (fun i => dV a5 a6 a7 a9 a8 (!a10) i) i)) = true))))) :
    S 8 [.agg [I a1, I a2, I a3, I a4, I a5, I a6, I a7, B a8, B a9, B a10, I a11, N .u8 a12, N .u8 a13, N .u8 a14, N .u16 a15]] [] (B true) [] := by
  refine SCall.st fun X hX => ?_
  refine hX.go [c_ [] shown16, c_ [] (rCheck a1 a2 a3 a4 a5 a6 a7 a8 a9 a10 a11)] ?_
  by_cases h0 : (chk a1 a2 a3 a4 a5 a6 a7 a11) = 0
  · obtain ⟨h1, K2⟩ := H h0
    have h2 : Ir (31 * 100) := by decide
    refine hX.go [f_ (bne_eq_false_iff_eq.2 h0), f_ (bne_eq_false_iff_eq.2 h0), c_ [] (show S 11 [.agg [I a1, I a2, I a3, I a4, I a5, I a6, I a7, B a8, B a9, B a10, I a11], I 100] [] (B (shB a5 a6 100)) [] from rShort _ _ _ _ _ _ _ _ _ _ _ _ h1 h2), f_ (bne_eq_false_iff_eq.2 h0), f_ (bne_eq_false_iff_eq.2 h0)] ?_
    rcases bcase (shB a5 a6 100) with h3 | h3
    · obtain ⟨h4, h5, h6, h7, h8, h9, h10, h11, h12, h13, L14, K14⟩ := K2 h3
      refine hX.go [f_ (nf h3), c_ [] (show S 14 [.agg [I a1, I a2, I a3, I a4, I a5, I a6, I a7, B a8, B a9, B a10, I a11]] [] (.tup [.sl 0 (dN a1 a2 a3 a4 a5 a6 a7 a8 a9 a10 a11), I (chk a1 a2 a3 a4 a5 a6 a7 a11)]) [some (.row true 3 (dN a1 a2 a3 a4 a5 a6 a7 a8 a9 a10 a11) 1 (fun i => [I (dV a5 a6 a7 a9 a8 a10 i)]))] from dOf _ _ _ _ _ _ _ _ _ _ _ h4), q_ h5, q_ h6, q_ (show (0 : Int) < 3 from by decide), q_ h7, q_ h8, q_ (show (0 : Int) < 7 from by decide), q_ h9, q_ h10, q_ (show (0 : Int) < 5 from by decide), q_ h11, q_ h12, q_ h11, c_ [] (show S 14 [.agg [I (1 + a15), I a15, I (a12 % 3), I (a13 % 7), I a5, I a6, I a7, B a8, B a9, B a10, I (a14 % 5)]] [] (.tup [.sl 0 (dN (1 + a15) a15 (a12 % 3) (a13 % 7) a5 a6 a7 a8 a9 a10 (a14 % 5)), I (chk (1 + a15) a15 (a12 % 3) (a13 % 7) a5 a6 a7 (a14 % 5))]) [some (.row true 3 (dN (1 + a15) a15 (a12 % 3) (a13 % 7) a5 a6 a7 a8 a9 a10 (a14 % 5)) 1 (fun i => [I (dV a5 a6 a7 a9 a8 a10 i)]))] from dOf _ _ _ _ _ _ _ _ _ _ _ h13), c_ [] (show S 14 [.agg [I a1, I a2, I a3, I a4, I a5, I a6, I a7, B a8, B a9, B (!a10), I a11]] [] (.tup [.sl 0 (dN a1 a2 a3 a4 a5 a6 a7 a8 a9 (!a10) a11), I (chk a1 a2 a3 a4 a5 a6 a7 a11)]) [some (.row true 3 (dN a1 a2 a3 a4 a5 a6 a7 a8 a9 (!a10) a11) 1 (fun i => [I (dV a5 a6 a7 a9 a8 (!a10) i)]))] from dOf _ _ _ _ _ _ _ _ _ _ _ h4)] ?_
      rcases bcase a8 with h14 | h14
      · obtain ⟨c15, K15⟩ := L14 h14
        refine hX.go [t_ h14, c_ [] (rLast a6), n_ 4 (t_ rt)] ?_
        by_cases h15 : (chk a1 a2 a3 a4 a5 a6 a7 a11) = (chk (1 + a15) a15 (a12 % 3) (a13 % 7) a5 a6 a7 (a14 % 5))
        · obtain ⟨h16, c17, K17⟩ := K15
          refine hX.go [n_ 3 (t_ (beq_iff_eq.2 h15)), c_ [2, 4] (show S 16 [.sl 0 (dN a1 a2 a3 a4 a5 a6 a7 a8 a9 a10 a11), .sl 1 (dN (1 + a15) a15 (a12 % 3) (a13 % 7) a5 a6 a7 a8 a9 a10 (a14 % 5))] [some (.row false 3 (dN a1 a2 a3 a4 a5 a6 a7 a8 a9 a10 a11) 1 (fun i => [I (dV a5 a6 a7 a9 a8 a10 i)])), some (.row false 3 (dN (1 + a15) a15 (a12 % 3) (a13 % 7) a5 a6 a7 a8 a9 a10 (a14 % 5)) 1 (fun i => [I (dV a5 a6 a7 a9 a8 a10 i)]))] (B (decide ((dN a1 a2 a3 a4 a5 a6 a7 a8 a9 a10 a11) = (dN (1 + a15) a15 (a12 % 3) (a13 % 7) a5 a6 a7 a8 a9 a10 (a14 % 5)) ∧ ∀ i, i < (dN a1 a2 a3 a4 a5 a6 a7 a8 a9 a10 a11) → (fun i => dV a5 a6 a7 a9 a8 a10 i) i = (fun i => dV a5 a6 a7 a9 a8 a10 i) i))) [] from rRow h16), t_ (beq_iff_eq.2 h15)] ?_
          rcases bcase (decide ((dN a1 a2 a3 a4 a5 a6 a7 a8 a9 a10 a11) = (dN (1 + a15) a15 (a12 % 3) (a13 % 7) a5 a6 a7 a8 a9 a10 (a14 % 5)) ∧ ∀ i, i < (dN a1 a2 a3 a4 a5 a6 a7 a8 a9 a10 a11) → (fun i => dV a5 a6 a7 a9 a8 a10 i) i = (fun i => dV a5 a6 a7 a9 a8 a10 i) i)) with h17 | h17
          · refine hX.go [t_ h17, t_ h17] ?_
            rcases bcase (lastB a6) with h18 | h18
            · exact hX.e [n_ 5 (t_ h18), t_ h17, t_ h18, t_ h17]
            · obtain ⟨c19, K19⟩ := K17 h18
              refine hX.go [n_ 4 (f_ h18)] ?_
              by_cases h19 : (chk a1 a2 a3 a4 a5 a6 a7 a11) = (chk a1 a2 a3 a4 a5 a6 a7 a11)
              · have HE := K19
                exact (hX.to (congrArg B HE).symm).e [n_ 3 (t_ (beq_iff_eq.2 h19)), c_ [2, 6] (show S 16 [.sl 0 (dN a1 a2 a3 a4 a5 a6 a7 a8 a9 a10 a11), .sl 1 (dN a1 a2 a3 a4 a5 a6 a7 a8 a9 (!a10) a11)] [some (.row false 3 (dN a1 a2 a3 a4 a5 a6 a7 a8 a9 a10 a11) 1 (fun i => [I (dV a5 a6 a7 a9 a8 a10 i)])), some (.row false 3 (dN a1 a2 a3 a4 a5 a6 a7 a8 a9 (!a10) a11) 1 (fun i => [I (dV a5 a6 a7 a9 a8 (!a10) i)]))] (B (decide ((dN a1 a2 a3 a4 a5 a6 a7 a8 a9 a10 a11) = (dN a1 a2 a3 a4 a5 a6 a7 a8 a9 (!a10) a11) ∧ ∀ i, i < (dN a1 a2 a3 a4 a5 a6 a7 a8 a9 a10 a11) → (fun i => dV a5 a6 a7 a9 a8 a10 i) i = (fun i => dV a5 a6 a7 a9 a8 (!a10) i) i))) [] from rRow h16), f_ h18, t_ (beq_iff_eq.2 h19), t_ h17, f_ h18, t_ h17]
              · exact absurd c19 h19
          · exact Go.Sx.nob c17 h17
        · exact absurd c15 h15
      · obtain ⟨c15, K15⟩ := K14 h14
        refine hX.go [f_ h14, c_ [] (rLast a5), n_ 4 (t_ rt)] ?_
        by_cases h15 : (chk a1 a2 a3 a4 a5 a6 a7 a11) = (chk (1 + a15) a15 (a12 % 3) (a13 % 7) a5 a6 a7 (a14 % 5))
        · obtain ⟨h16, c17, K17⟩ := K15
          refine hX.go [n_ 3 (t_ (beq_iff_eq.2 h15)), c_ [2, 4] (show S 16 [.sl 0 (dN a1 a2 a3 a4 a5 a6 a7 a8 a9 a10 a11), .sl 1 (dN (1 + a15) a15 (a12 % 3) (a13 % 7) a5 a6 a7 a8 a9 a10 (a14 % 5))] [some (.row false 3 (dN a1 a2 a3 a4 a5 a6 a7 a8 a9 a10 a11) 1 (fun i => [I (dV a5 a6 a7 a9 a8 a10 i)])), some (.row false 3 (dN (1 + a15) a15 (a12 % 3) (a13 % 7) a5 a6 a7 a8 a9 a10 (a14 % 5)) 1 (fun i => [I (dV a5 a6 a7 a9 a8 a10 i)]))] (B (decide ((dN a1 a2 a3 a4 a5 a6 a7 a8 a9 a10 a11) = (dN (1 + a15) a15 (a12 % 3) (a13 % 7) a5 a6 a7 a8 a9 a10 (a14 % 5)) ∧ ∀ i, i < (dN a1 a2 a3 a4 a5 a6 a7 a8 a9 a10 a11) → (fun i => dV a5 a6 a7 a9 a8 a10 i) i = (fun i => dV a5 a6 a7 a9 a8 a10 i) i))) [] from rRow h16), t_ (beq_iff_eq.2 h15)] ?_
          rcases bcase (decide ((dN a1 a2 a3 a4 a5 a6 a7 a8 a9 a10 a11) = (dN (1 + a15) a15 (a12 % 3) (a13 % 7) a5 a6 a7 a8 a9 a10 (a14 % 5)) ∧ ∀ i, i < (dN a1 a2 a3 a4 a5 a6 a7 a8 a9 a10 a11) → (fun i => dV a5 a6 a7 a9 a8 a10 i) i = (fun i => dV a5 a6 a7 a9 a8 a10 i) i)) with h17 | h17
          · refine hX.go [t_ h17, t_ h17] ?_
            rcases bcase (lastB a5) with h18 | h18
            · exact hX.e [n_ 5 (t_ h18), t_ h17, t_ h18, t_ h17]
            · obtain ⟨c19, K19⟩ := K17 h18
              refine hX.go [n_ 4 (f_ h18)] ?_
              by_cases h19 : (chk a1 a2 a3 a4 a5 a6 a7 a11) = (chk a1 a2 a3 a4 a5 a6 a7 a11)
              · have HE := K19
                exact (hX.to (congrArg B HE).symm).e [n_ 3 (t_ (beq_iff_eq.2 h19)), c_ [2, 6] (show S 16 [.sl 0 (dN a1 a2 a3 a4 a5 a6 a7 a8 a9 a10 a11), .sl 1 (dN a1 a2 a3 a4 a5 a6 a7 a8 a9 (!a10) a11)] [some (.row false 3 (dN a1 a2 a3 a4 a5 a6 a7 a8 a9 a10 a11) 1 (fun i => [I (dV a5 a6 a7 a9 a8 a10 i)])), some (.row false 3 (dN a1 a2 a3 a4 a5 a6 a7 a8 a9 (!a10) a11) 1 (fun i => [I (dV a5 a6 a7 a9 a8 (!a10) i)]))] (B (decide ((dN a1 a2 a3 a4 a5 a6 a7 a8 a9 a10 a11) = (dN a1 a2 a3 a4 a5 a6 a7 a8 a9 (!a10) a11) ∧ ∀ i, i < (dN a1 a2 a3 a4 a5 a6 a7 a8 a9 a10 a11) → (fun i => dV a5 a6 a7 a9 a8 a10 i) i = (fun i => dV a5 a6 a7 a9 a8 (!a10) i) i))) [] from rRow h16), f_ h18, t_ (beq_iff_eq.2 h19), t_ h17, f_ h18, t_ h17]
              · exact absurd c19 h19
          · exact Go.Sx.nob c17 h17
        · exact absurd c15 h15
    · exact hX.e [t_ (nt h3)]
  · exact hX.e [n_ 4 (t_ (bne_iff_ne.2 h0)), t_ rt]

variable {s e mo : Int} {long back eom : Bool}
theorem tgt_eom {n : Int} (h : lastB n = false) (a b : Bool) (m : Int) : tgt n a m = tgt n b m := by unfold tgt; rw [h, Bool.and_false, Bool.and_false]
theorem mv_eom {n k : Int} (h : lastB n = false) (a b : Bool) : mv n k a = mv n k b := by unfold mv; rw [tgt_eom h a b]
theorem stp_eom {a b : Bool} (h : lastB (if back = true then e else s) = false) : stp s e mo back a = stp s e mo back b := by
  funext k; unfold stp
  cases back
  · rw [if_neg (by decide)] at h; rw [if_neg (by decide), if_neg (by decide), mv_eom h a b]
  · rw [if_pos rfl] at h; rw [if_pos rfl, if_pos rfl, mv_eom h a b]
theorem gN_eom {a b : Bool} (h : stp s e mo back a = stp s e mo back b) : gN s e mo back a = gN s e mo back b := by unfold gN; rw [h]
theorem gcV_eom {a b : Bool} (h : stp s e mo back a = stp s e mo back b) : gcV s e mo back a = gcV s e mo back b := by funext i; unfold gcV; rw [h, gN_eom h]
theorem mN_eom {a b : Bool} (h : stp s e mo back a = stp s e mo back b) : mN s e mo back a = mN s e mo back b := by unfold mN; rw [h, gN_eom h]
theorem dM_eom {a b : Bool} (h : stp s e mo back a = stp s e mo back b) : dM s e mo long back a = dM s e mo long back b := by unfold dM; rw [gcV_eom h, gN_eom h, mN_eom h]
theorem dV_eom {a b : Bool} (h : stp s e mo back a = stp s e mo back b) : dV s e mo long back a = dV s e mo long back b := by unfold dV dO; rw [gcV_eom h, gN_eom h, dM_eom h]
theorem chk_turn {a1 a2 a3 a4 a5 a6 a7 a11 k c w m : Int} (h : chk a1 a2 a3 a4 a5 a6 a7 a11 = 0) (hk : 0 ≤ k) (hc : 0 ≤ c) (hw : 0 ≤ w) (hm : 0 ≤ m) (hm' : m ≤ 65535) : chk (1 + m) m (k % 3) (c % 7) a5 a6 a7 (w % 5) = 0 := by
  unfold chk at h ⊢
  split at h
  · cases h
  · rename_i h1
    rw [if_neg (by omega)]
    split at h
    · cases h
    · rename_i h2
      rw [if_neg h2]
      split at h
      · cases h
      · rename_i h3
        rw [if_neg h3, if_neg]
        have : (1 + m) * m ≤ 65536 * 65535 := Int.mul_le_mul (by omega) hm' hm (by decide)
        omega
theorem dTurn {a1 a2 a3 a4 a5 a6 a7 : Int} {a8 a9 a10 : Bool} {a11 a12 a13 a14 a15 : Int} (i12 : InR .u8 a12) (i13 : InR .u8 a13) (i14 : InR .u8 a14) (i15 : InR .u16 a15) :
    S 8 [.agg [I a1, I a2, I a3, I a4, I a5, I a6, I a7, B a8, B a9, B a10, I a11, N .u8 a12, N .u8 a13, N .u8 a14, N .u16 a15]] [] (B true) [] := by
  refine DatesTurn_w (fun h0 => ?_)
  simp only [InR] at i12 i13 i14 i15
  have hL := chk_loan h0
  have b1 := isDay_iff.1 hL.ds
  have b2 := isDay_iff.1 hL.de
  refine ⟨irT (by omega), fun h3 => ?_⟩
  have hm := hL.m1
  have hs : a6 - a5 ≤ 6200 * a7 := by have := (shB_t h3).1; omega
  have hmN := mN_le (back := a8) (eom := a10) hL hs
  have hgN := (gN_le (back := a8) (eom := a10) hL hs).2
  have hd := dM_le (s := a5) (e := a6) (mo := a7) (long := a9) (back := a8) (eom := a10)
  have hc := chk_turn (k := a12) (c := a13) (w := a14) (m := a15) h0 (by omega) (by omega) (by omega) (by omega) (by omega)
  rw [dN_eq h0, dN_eq h0, dN_eq hc, h0, hc]
  have q : lastB (if a8 = true then a6 else a5) = false → decide (dM a5 a6 a7 a9 a8 a10 + 2 = dM a5 a6 a7 a9 a8 (!a10) + 2 ∧ ∀ i, i < dM a5 a6 a7 a9 a8 a10 + 2 → (fun i => dV a5 a6 a7 a9 a8 a10 i) i = (fun i => dV a5 a6 a7 a9 a8 (!a10) i) i) = true := by
    intro h
    have := stp_eom (s := a5) (e := a6) (mo := a7) (a := a10) (b := !a10) h
    exact decide_eq_true ⟨by rw [dM_eom this], fun i _ => by show dV a5 a6 a7 a9 a8 a10 i = dV a5 a6 a7 a9 a8 (!a10) i; rw [dV_eom this]⟩
  refine ⟨fun _ => hs, irT (by omega), by omega, irT (by omega), by omega, irT (by omega), by omega, irT (by omega), irT (by omega), fun _ => hs, fun hb => ⟨rfl, by omega, decide_eq_true ⟨rfl, fun _ _ => rfl⟩, fun c => ⟨rfl, q (by rw [if_pos hb]; exact c)⟩⟩, fun hb => ⟨rfl, by omega, decide_eq_true ⟨rfl, fun _ _ => rfl⟩, fun c => ⟨rfl, q (by rw [if_neg (by rw [hb]; decide)]; exact c)⟩⟩⟩

end Go.Proofs.YthfmjoeampekgaaGreatDoor
