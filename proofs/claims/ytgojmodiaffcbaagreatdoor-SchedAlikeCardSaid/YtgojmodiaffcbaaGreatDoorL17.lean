/-
  Chapter 17's laws.
-/
import Derived.Test.YtgojmodiaffcbaaGreatDoorS17
import Derived.Test.YtgojmodiaffcbaaGreatDoorProg
import Derived.KernelRfl
set_option linter.unusedVariables false
set_option linter.unusedSimpArgs false
set_option linter.unusedSectionVars false
set_option maxRecDepth 100000
namespace Go.Proofs.YtgojmodiaffcbaaGreatDoor
open Go Go.Sx
variable [EnvT]
theorem schE_ck {t : Tms} {C : Cl} (h : schE t C = 0) : tCk t = 0 := by
  unfold schE at h
  by_cases c : tCk t = 0
  · exact c
  · rw [if_pos c] at h; exact absurd h c
theorem plN_le {t : Tms} {C : Cl} (hs : tSh t) : plN t C ≤ 252 := by
  unfold plN; split
  · rename_i h; exact (tN_le (schE_ck h) hs).2
  · omega
theorem plK_le {t : Tms} {C : Cl} (hs : tSh t) : plK t C ≤ 250 := by
  unfold plK; split
  · rename_i h; unfold tK; split
    · exact (tG_le (schE_ck h) hs).2
    · omega
  · omega
theorem lAlike_w {t : Tms} {C : Cl} {mo ra ki wa : Int}  (H : ((chk t.a1 t.a2 t.a3 t.a4 t.a5 t.a6 t.a7 t.a11) = 0 → ((shP t C 60) = true → tSh t ∧ CalOk C ∧ Ir ki ∧ ((chk mo ra (Int.tmod ki 3) t.a4 t.a5 t.a6 t.a7 t.a11) = 0 → tSh (Tms.mk mo ra (Int.tmod ki 3) t.a4 t.a5 t.a6 t.a7 t.a8 t.a9 t.a10 t.a11) ∧ Ir wa ∧ tSh (Tms.mk t.a1 t.a2 t.a3 t.a4 t.a5 t.a6 t.a7 t.a8 t.a9 t.a10 (Int.tmod wa 5)) ∧ (schE t C) = (schE (Tms.mk mo ra (Int.tmod ki 3) t.a4 t.a5 t.a6 t.a7 t.a8 t.a9 t.a10 t.a11) C) ∧ ((plN t C) = (plN (Tms.mk mo ra (Int.tmod ki 3) t.a4 t.a5 t.a6 t.a7 t.a8 t.a9 t.a10 t.a11) C) ∧ ∀ i, i < (plN t C) → (fun i => tD t i) i = (fun i => tD (Tms.mk mo ra (Int.tmod ki 3) t.a4 t.a5 t.a6 t.a7 t.a8 t.a9 t.a10 t.a11) i) i) ∧ ((plN t C) = (plN (Tms.mk mo ra (Int.tmod ki 3) t.a4 t.a5 t.a6 t.a7 t.a8 t.a9 t.a10 t.a11) C) ∧ ∀ i, i < (plN t C) → (fun i => (tR t C i).1) i = (fun i => (tR (Tms.mk mo ra (Int.tmod ki 3) t.a4 t.a5 t.a6 t.a7 t.a8 t.a9 t.a10 t.a11) C i).1) i) ∧ ((plK t C) = (plK (Tms.mk mo ra (Int.tmod ki 3) t.a4 t.a5 t.a6 t.a7 t.a8 t.a9 t.a10 t.a11) C) ∧ ∀ i, i < (plK t C) → (fun i => (tQ t C i).1) i = (fun i => (tQ (Tms.mk mo ra (Int.tmod ki 3) t.a4 t.a5 t.a6 t.a7 t.a8 t.a9 t.a10 t.a11) C i).1) i) ∧ ((plN t C - 1) = (plN (Tms.mk mo ra (Int.tmod ki 3) t.a4 t.a5 t.a6 t.a7 t.a8 t.a9 t.a10 t.a11) C - 1) ∧ ∀ i, i < (plN t C - 1) → (fun i => (tP t C i).1) i = (fun i => (tP (Tms.mk mo ra (Int.tmod ki 3) t.a4 t.a5 t.a6 t.a7 t.a8 t.a9 t.a10 t.a11) C i).1) i ∧ (fun i => (tP t C i).2.1) i = (fun i => (tP (Tms.mk mo ra (Int.tmod ki 3) t.a4 t.a5 t.a6 t.a7 t.a8 t.a9 t.a10 t.a11) C i).2.1) i) ∧ (plB t C) = (plB (Tms.mk mo ra (Int.tmod ki 3) t.a4 t.a5 t.a6 t.a7 t.a8 t.a9 t.a10 t.a11) C) ∧ (plE t C) = (plE (Tms.mk mo ra (Int.tmod ki 3) t.a4 t.a5 t.a6 t.a7 t.a8 t.a9 t.a10 t.a11) C) ∧ (plF t C) = (plF (Tms.mk mo ra (Int.tmod ki 3) t.a4 t.a5 t.a6 t.a7 t.a8 t.a9 t.a10 t.a11) C) ∧ (plN t C) ≤ 10000 ∧ (plK t C) ≤ 10000 ∧ (plN t C - 1) ≤ 10000 ∧ ((schE t C) = 0 → ((schE (Tms.mk t.a1 t.a2 t.a3 t.a4 t.a5 t.a6 t.a7 t.a8 t.a9 t.a10 (Int.tmod wa 5)) C) = 0 → ((plN t C) = (plN (Tms.mk t.a1 t.a2 t.a3 t.a4 t.a5 t.a6 t.a7 t.a8 t.a9 t.a10 (Int.tmod wa 5)) C) ∧ ∀ i, i < (plN t C) → (fun i => tD t i) i = (fun i => tD (Tms.mk t.a1 t.a2 t.a3 t.a4 t.a5 t.a6 t.a7 t.a8 t.a9 t.a10 (Int.tmod wa 5)) i) i) ∧ (plN t C) ≤ 100000)))))) :
    S 6 [.agg [I t.a1, I t.a2, I t.a3, I t.a4, I t.a5, I t.a6, I t.a7, B (t.a8), B (t.a9), B (t.a10), I t.a11, B (C.off 0), B (C.off 1), B (C.off 2), B (C.off 3), B (C.off 4), B (C.off 5), B (C.off 6), .sl 0 C.nr, .sl 1 C.nd, I mo, I ra, N .u8 ki, N .u8 wa]] (calH C) (B true) [] := by
  refine SCall.st fun X hX => ?_
  refine hX.go [c_ [] shown17, c_ [] (rCheck t.a1 t.a2 t.a3 t.a4 t.a5 t.a6 t.a7 (t.a8) (t.a9) (t.a10) t.a11)] ?_
  by_cases h0 : (chk t.a1 t.a2 t.a3 t.a4 t.a5 t.a6 t.a7 t.a11) = 0
  · have K1 := H h0
    refine hX.go [n_ 3 (f_ (bne_eq_false_iff_eq.2 h0)), c_ [0, 1] (show S 10 [.agg [I t.a1, I t.a2, I t.a3, I t.a4, I t.a5, I t.a6, I t.a7, B (t.a8), B (t.a9), B (t.a10), I t.a11], .agg [B (C.off 0), B (C.off 1), B (C.off 2), B (C.off 3), B (C.off 4), B (C.off 5), B (C.off 6), .sl 0 C.nr, .sl 1 C.nd], I 60] (calH C) (B (shP t C 60)) [] from rShort17 t (by decide)), f_ (bne_eq_false_iff_eq.2 h0), f_ (bne_eq_false_iff_eq.2 h0)] ?_
    rcases bcase (shP t C 60) with h1 | h1
    · obtain ⟨h2, h3, h4, K5⟩ := K1 h1
      refine hX.go [f_ (nf h1), c_ [0, 1] (show S 11 [.agg [I t.a1, I t.a2, I t.a3, I t.a4, I t.a5, I t.a6, I t.a7, B (t.a8), B (t.a9), B (t.a10), I t.a11], .agg [B (C.off 0), B (C.off 1), B (C.off 2), B (C.off 3), B (C.off 4), B (C.off 5), B (C.off 6), .sl 0 C.nr, .sl 1 C.nd]] (calH C) (.tup [.agg [.sl 2 (plN t C), .sl 3 (plN t C), .sl 4 (plN t C - 1), B (plB t C), I (plE t C), I (plF t C), .sl 5 (plK t C)], I (schE t C)]) [some (.row true 3 (plN t C) 1 (fun i => [I (tD t i)])), some (.row true 3 (plN t C) 1 (fun i => [I ((tR t C i).1)])), some (.row true 48 (plN t C - 1) 2 (fun i => [I ((tP t C i).1), I ((tP t C i).2.1)])), some (.row true 3 (plK t C) 1 (fun i => [I ((tQ t C i).1)]))] from sOf t h2 h3), q_ h4, q_ (show (3 : Int) ≠ 0 from by decide), h_ [.t], c_ [] (rCheck mo ra (Int.tmod ki 3) t.a4 t.a5 t.a6 t.a7 (t.a8) (t.a9) (t.a10) t.a11)] ?_
      by_cases h5 : (chk mo ra (Int.tmod ki 3) t.a4 t.a5 t.a6 t.a7 t.a11) = 0
      · obtain ⟨h6, h7, h8, c9, K9⟩ := K5 h5
        refine hX.go [f_ (bne_eq_false_iff_eq.2 h5), c_ [0, 1] (show S 11 [.agg [I mo, I ra, I (Int.tmod ki 3), I t.a4, I t.a5, I t.a6, I t.a7, B (t.a8), B (t.a9), B (t.a10), I t.a11], .agg [B (C.off 0), B (C.off 1), B (C.off 2), B (C.off 3), B (C.off 4), B (C.off 5), B (C.off 6), .sl 0 C.nr, .sl 1 C.nd]] (calH C) (.tup [.agg [.sl 2 (plN (Tms.mk mo ra (Int.tmod ki 3) t.a4 t.a5 t.a6 t.a7 t.a8 t.a9 t.a10 t.a11) C), .sl 3 (plN (Tms.mk mo ra (Int.tmod ki 3) t.a4 t.a5 t.a6 t.a7 t.a8 t.a9 t.a10 t.a11) C), .sl 4 (plN (Tms.mk mo ra (Int.tmod ki 3) t.a4 t.a5 t.a6 t.a7 t.a8 t.a9 t.a10 t.a11) C - 1), B (plB (Tms.mk mo ra (Int.tmod ki 3) t.a4 t.a5 t.a6 t.a7 t.a8 t.a9 t.a10 t.a11) C), I (plE (Tms.mk mo ra (Int.tmod ki 3) t.a4 t.a5 t.a6 t.a7 t.a8 t.a9 t.a10 t.a11) C), I (plF (Tms.mk mo ra (Int.tmod ki 3) t.a4 t.a5 t.a6 t.a7 t.a8 t.a9 t.a10 t.a11) C), .sl 5 (plK (Tms.mk mo ra (Int.tmod ki 3) t.a4 t.a5 t.a6 t.a7 t.a8 t.a9 t.a10 t.a11) C)], I (schE (Tms.mk mo ra (Int.tmod ki 3) t.a4 t.a5 t.a6 t.a7 t.a8 t.a9 t.a10 t.a11) C)]) [some (.row true 3 (plN (Tms.mk mo ra (Int.tmod ki 3) t.a4 t.a5 t.a6 t.a7 t.a8 t.a9 t.a10 t.a11) C) 1 (fun i => [I (tD (Tms.mk mo ra (Int.tmod ki 3) t.a4 t.a5 t.a6 t.a7 t.a8 t.a9 t.a10 t.a11) i)])), some (.row true 3 (plN (Tms.mk mo ra (Int.tmod ki 3) t.a4 t.a5 t.a6 t.a7 t.a8 t.a9 t.a10 t.a11) C) 1 (fun i => [I ((tR (Tms.mk mo ra (Int.tmod ki 3) t.a4 t.a5 t.a6 t.a7 t.a8 t.a9 t.a10 t.a11) C i).1)])), some (.row true 48 (plN (Tms.mk mo ra (Int.tmod ki 3) t.a4 t.a5 t.a6 t.a7 t.a8 t.a9 t.a10 t.a11) C - 1) 2 (fun i => [I ((tP (Tms.mk mo ra (Int.tmod ki 3) t.a4 t.a5 t.a6 t.a7 t.a8 t.a9 t.a10 t.a11) C i).1), I ((tP (Tms.mk mo ra (Int.tmod ki 3) t.a4 t.a5 t.a6 t.a7 t.a8 t.a9 t.a10 t.a11) C i).2.1)])), some (.row true 3 (plK (Tms.mk mo ra (Int.tmod ki 3) t.a4 t.a5 t.a6 t.a7 t.a8 t.a9 t.a10 t.a11) C) 1 (fun i => [I ((tQ (Tms.mk mo ra (Int.tmod ki 3) t.a4 t.a5 t.a6 t.a7 t.a8 t.a9 t.a10 t.a11) C i).1)]))] from sOf (Tms.mk mo ra (Int.tmod ki 3) t.a4 t.a5 t.a6 t.a7 t.a8 t.a9 t.a10 t.a11) h6 h3), q_ h7, q_ (show (5 : Int) ≠ 0 from by decide), h_ [.t], c_ [0, 1] (show S 11 [.agg [I t.a1, I t.a2, I t.a3, I t.a4, I t.a5, I t.a6, I t.a7, B (t.a8), B (t.a9), B (t.a10), I (Int.tmod wa 5)], .agg [B (C.off 0), B (C.off 1), B (C.off 2), B (C.off 3), B (C.off 4), B (C.off 5), B (C.off 6), .sl 0 C.nr, .sl 1 C.nd]] (calH C) (.tup [.agg [.sl 2 (plN (Tms.mk t.a1 t.a2 t.a3 t.a4 t.a5 t.a6 t.a7 t.a8 t.a9 t.a10 (Int.tmod wa 5)) C), .sl 3 (plN (Tms.mk t.a1 t.a2 t.a3 t.a4 t.a5 t.a6 t.a7 t.a8 t.a9 t.a10 (Int.tmod wa 5)) C), .sl 4 (plN (Tms.mk t.a1 t.a2 t.a3 t.a4 t.a5 t.a6 t.a7 t.a8 t.a9 t.a10 (Int.tmod wa 5)) C - 1), B (plB (Tms.mk t.a1 t.a2 t.a3 t.a4 t.a5 t.a6 t.a7 t.a8 t.a9 t.a10 (Int.tmod wa 5)) C), I (plE (Tms.mk t.a1 t.a2 t.a3 t.a4 t.a5 t.a6 t.a7 t.a8 t.a9 t.a10 (Int.tmod wa 5)) C), I (plF (Tms.mk t.a1 t.a2 t.a3 t.a4 t.a5 t.a6 t.a7 t.a8 t.a9 t.a10 (Int.tmod wa 5)) C), .sl 5 (plK (Tms.mk t.a1 t.a2 t.a3 t.a4 t.a5 t.a6 t.a7 t.a8 t.a9 t.a10 (Int.tmod wa 5)) C)], I (schE (Tms.mk t.a1 t.a2 t.a3 t.a4 t.a5 t.a6 t.a7 t.a8 t.a9 t.a10 (Int.tmod wa 5)) C)]) [some (.row true 3 (plN (Tms.mk t.a1 t.a2 t.a3 t.a4 t.a5 t.a6 t.a7 t.a8 t.a9 t.a10 (Int.tmod wa 5)) C) 1 (fun i => [I (tD (Tms.mk t.a1 t.a2 t.a3 t.a4 t.a5 t.a6 t.a7 t.a8 t.a9 t.a10 (Int.tmod wa 5)) i)])), some (.row true 3 (plN (Tms.mk t.a1 t.a2 t.a3 t.a4 t.a5 t.a6 t.a7 t.a8 t.a9 t.a10 (Int.tmod wa 5)) C) 1 (fun i => [I ((tR (Tms.mk t.a1 t.a2 t.a3 t.a4 t.a5 t.a6 t.a7 t.a8 t.a9 t.a10 (Int.tmod wa 5)) C i).1)])), some (.row true 48 (plN (Tms.mk t.a1 t.a2 t.a3 t.a4 t.a5 t.a6 t.a7 t.a8 t.a9 t.a10 (Int.tmod wa 5)) C - 1) 2 (fun i => [I ((tP (Tms.mk t.a1 t.a2 t.a3 t.a4 t.a5 t.a6 t.a7 t.a8 t.a9 t.a10 (Int.tmod wa 5)) C i).1), I ((tP (Tms.mk t.a1 t.a2 t.a3 t.a4 t.a5 t.a6 t.a7 t.a8 t.a9 t.a10 (Int.tmod wa 5)) C i).2.1)])), some (.row true 3 (plK (Tms.mk t.a1 t.a2 t.a3 t.a4 t.a5 t.a6 t.a7 t.a8 t.a9 t.a10 (Int.tmod wa 5)) C) 1 (fun i => [I ((tQ (Tms.mk t.a1 t.a2 t.a3 t.a4 t.a5 t.a6 t.a7 t.a8 t.a9 t.a10 (Int.tmod wa 5)) C i).1)]))] from sOf (Tms.mk t.a1 t.a2 t.a3 t.a4 t.a5 t.a6 t.a7 t.a8 t.a9 t.a10 (Int.tmod wa 5)) h8 h3), n_ 4 (t_ rt)] ?_
        by_cases h9 : (schE t C) = (schE (Tms.mk mo ra (Int.tmod ki 3) t.a4 t.a5 t.a6 t.a7 t.a8 t.a9 t.a10 t.a11) C)
        · obtain ⟨h10, h11, h12, h13, h14, h15, h16, h17, h18, h19, K20⟩ := K9
          refine hX.go [n_ 3 (t_ (beq_iff_eq.2 h9)), c_ [5, 6, 7, 8, 11, 12, 13, 14] (show S 13 [.agg [.sl 0 (plN t C), .sl 1 (plN t C), .sl 2 (plN t C - 1), B (plB t C), I (plE t C), I (plF t C), .sl 3 (plK t C)], .agg [.sl 4 (plN (Tms.mk mo ra (Int.tmod ki 3) t.a4 t.a5 t.a6 t.a7 t.a8 t.a9 t.a10 t.a11) C), .sl 5 (plN (Tms.mk mo ra (Int.tmod ki 3) t.a4 t.a5 t.a6 t.a7 t.a8 t.a9 t.a10 t.a11) C), .sl 6 (plN (Tms.mk mo ra (Int.tmod ki 3) t.a4 t.a5 t.a6 t.a7 t.a8 t.a9 t.a10 t.a11) C - 1), B (plB (Tms.mk mo ra (Int.tmod ki 3) t.a4 t.a5 t.a6 t.a7 t.a8 t.a9 t.a10 t.a11) C), I (plE (Tms.mk mo ra (Int.tmod ki 3) t.a4 t.a5 t.a6 t.a7 t.a8 t.a9 t.a10 t.a11) C), I (plF (Tms.mk mo ra (Int.tmod ki 3) t.a4 t.a5 t.a6 t.a7 t.a8 t.a9 t.a10 t.a11) C), .sl 7 (plK (Tms.mk mo ra (Int.tmod ki 3) t.a4 t.a5 t.a6 t.a7 t.a8 t.a9 t.a10 t.a11) C)]] [some (.row false 3 (plN t C) 1 (fun i => [I (tD t i)])), some (.row false 3 (plN t C) 1 (fun i => [I ((tR t C i).1)])), some (.row false 48 (plN t C - 1) 2 (fun i => [I ((tP t C i).1), I ((tP t C i).2.1)])), some (.row false 3 (plK t C) 1 (fun i => [I ((tQ t C i).1)])), some (.row false 3 (plN (Tms.mk mo ra (Int.tmod ki 3) t.a4 t.a5 t.a6 t.a7 t.a8 t.a9 t.a10 t.a11) C) 1 (fun i => [I (tD (Tms.mk mo ra (Int.tmod ki 3) t.a4 t.a5 t.a6 t.a7 t.a8 t.a9 t.a10 t.a11) i)])), some (.row false 3 (plN (Tms.mk mo ra (Int.tmod ki 3) t.a4 t.a5 t.a6 t.a7 t.a8 t.a9 t.a10 t.a11) C) 1 (fun i => [I ((tR (Tms.mk mo ra (Int.tmod ki 3) t.a4 t.a5 t.a6 t.a7 t.a8 t.a9 t.a10 t.a11) C i).1)])), some (.row false 48 (plN (Tms.mk mo ra (Int.tmod ki 3) t.a4 t.a5 t.a6 t.a7 t.a8 t.a9 t.a10 t.a11) C - 1) 2 (fun i => [I ((tP (Tms.mk mo ra (Int.tmod ki 3) t.a4 t.a5 t.a6 t.a7 t.a8 t.a9 t.a10 t.a11) C i).1), I ((tP (Tms.mk mo ra (Int.tmod ki 3) t.a4 t.a5 t.a6 t.a7 t.a8 t.a9 t.a10 t.a11) C i).2.1)])), some (.row false 3 (plK (Tms.mk mo ra (Int.tmod ki 3) t.a4 t.a5 t.a6 t.a7 t.a8 t.a9 t.a10 t.a11) C) 1 (fun i => [I ((tQ (Tms.mk mo ra (Int.tmod ki 3) t.a4 t.a5 t.a6 t.a7 t.a8 t.a9 t.a10 t.a11) C i).1)]))] (B true) [] from rSame h10 h11 h12 h13 h14 h15 h16 h17 h17 h18 h19), t_ (beq_iff_eq.2 h9), n_ 3 (t_ rt)] ?_
          by_cases h20 : (schE t C) = 0
          · have K21 := K20 h20
            refine hX.go [f_ (bne_eq_false_iff_eq.2 h20), f_ (bne_eq_false_iff_eq.2 h20), t_ rt, f_ (bne_eq_false_iff_eq.2 h20), t_ rt] ?_
            by_cases h21 : (schE (Tms.mk t.a1 t.a2 t.a3 t.a4 t.a5 t.a6 t.a7 t.a8 t.a9 t.a10 (Int.tmod wa 5)) C) = 0
            · obtain ⟨h22, h23⟩ := K21 h21
              exact hX.e [n_ 5 (f_ (bne_eq_false_iff_eq.2 h21)), c_ [5, 17] (show S 20 [.sl 0 (plN t C), .sl 1 (plN (Tms.mk t.a1 t.a2 t.a3 t.a4 t.a5 t.a6 t.a7 t.a8 t.a9 t.a10 (Int.tmod wa 5)) C)] [some (.row false 3 (plN t C) 1 (fun i => [I (tD t i)])), some (.row false 3 (plN (Tms.mk t.a1 t.a2 t.a3 t.a4 t.a5 t.a6 t.a7 t.a8 t.a9 t.a10 (Int.tmod wa 5)) C) 1 (fun i => [I (tD (Tms.mk t.a1 t.a2 t.a3 t.a4 t.a5 t.a6 t.a7 t.a8 t.a9 t.a10 (Int.tmod wa 5)) i)]))] (B true) [] from rRowT h22 h23), t_ rt, f_ (bne_eq_false_iff_eq.2 h21), t_ rt]
            · exact hX.e [n_ 5 (t_ (bne_iff_ne.2 h21)), t_ rt, t_ (bne_iff_ne.2 h21), t_ rt]
          · exact hX.e [t_ (bne_iff_ne.2 h20), t_ (bne_iff_ne.2 h20), t_ rt, t_ (bne_iff_ne.2 h20), n_ 9 (t_ rt)]
        · exact absurd c9 h9
      · exact hX.e [t_ (bne_iff_ne.2 h5)]
    · exact hX.e [t_ (nt h1)]
  · exact hX.e [n_ 5 (t_ (bne_iff_ne.2 h0)), t_ rt]
theorem alike {t : Tms} {mo ra ki : Int} {C : Cl} (h0 : tCk t = 0) (h1 : tCk (Tms.mk mo ra ki t.a4 t.a5 t.a6 t.a7 t.a8 t.a9 t.a10 t.a11) = 0) :
    tN (Tms.mk mo ra ki t.a4 t.a5 t.a6 t.a7 t.a8 t.a9 t.a10 t.a11) = tN t ∧ tK (Tms.mk mo ra ki t.a4 t.a5 t.a6 t.a7 t.a8 t.a9 t.a10 t.a11) = tK t ∧ (tE (Tms.mk mo ra ki t.a4 t.a5 t.a6 t.a7 t.a8 t.a9 t.a10 t.a11) C = tE t C) ∧ (∀ i, tP (Tms.mk mo ra ki t.a4 t.a5 t.a6 t.a7 t.a8 t.a9 t.a10 t.a11) C i = tP t C i) ∧ schE (Tms.mk mo ra ki t.a4 t.a5 t.a6 t.a7 t.a8 t.a9 t.a10 t.a11) C = schE t C := by
  generalize hu : Tms.mk mo ra ki t.a4 t.a5 t.a6 t.a7 t.a8 t.a9 t.a10 t.a11 = u at h1 ⊢
  have e4 : u.a4 = t.a4 := by rw [← hu]
  have e5 : u.a5 = t.a5 := by rw [← hu]
  have e6 : u.a6 = t.a6 := by rw [← hu]
  have e7 : u.a7 = t.a7 := by rw [← hu]
  have e8 : u.a8 = t.a8 := by rw [← hu]
  have e9 : u.a9 = t.a9 := by rw [← hu]
  have e10 : u.a10 = t.a10 := by rw [← hu]
  have e11 : u.a11 = t.a11 := by rw [← hu]
  have hN : tN u = tN t := by rw [tN_eq h0, tN_eq h1, e5, e6, e7, e8, e9, e10]
  have hG : tG u = tG t := by rw [tG_eq h0, tG_eq h1, e5, e6, e7, e8, e10]
  have hK : tK u = tK t := by unfold tK; rw [hG, e4]
  have hD : tD u = tD t := by funext i; unfold tD; rw [e5, e6, e7, e8, e9, e10]
  have hV : tV u = tV t := by funext i; unfold tV; rw [e5, e6, e7, e8, e10]
  have hR : tR u C = tR t C := by funext i; unfold tR; rw [hD, e11]
  have hQ : tQ u C = tQ t C := by funext i; unfold tQ; rw [hV, e11]
  have hE : tE u C = tE t C := by unfold tE; rw [hR, hN]
  have hP : tP u C = tP t C := by funext i; unfold tP; rw [hK, hE, hR, hQ, e4, e7, e10]
  exact ⟨hN, hK, hE, fun i => by rw [hP], by unfold schE; rw [h0, h1, hN, hG, hR, hQ, hP, e4]⟩
theorem lAlike (t : Tms) (C : Cl) (mo ra : Int) {ki wa : Int} (hk : InR .u8 ki) (hw : InR .u8 wa) : S 6 [.agg [I t.a1, I t.a2, I t.a3, I t.a4, I t.a5, I t.a6, I t.a7, B (t.a8), B (t.a9), B (t.a10), I t.a11, B (C.off 0), B (C.off 1), B (C.off 2), B (C.off 3), B (C.off 4), B (C.off 5), B (C.off 6), .sl 0 C.nr, .sl 1 C.nd, I mo, I ra, N .u8 ki, N .u8 wa]] (calH C) (B true) [] := by
  refine lAlike_w fun (h0 : tCk t = 0) h => ?_
  have hm := shP_t h (by decide)
  have hs := hm.2.1
  have l1 := plN_le (t := t) (C := C) hs
  have l2 := plK_le (t := t) (C := C) hs
  simp only [InR] at hk hw
  refine ⟨hs, hm.1, irT (by omega), fun h1 => ?_⟩
  have hA := alike (mo := mo) (ra := ra) (ki := Int.tmod ki 3) (C := C) h0 h1
  generalize hu : Tms.mk mo ra (Int.tmod ki 3) t.a4 t.a5 t.a6 t.a7 t.a8 t.a9 t.a10 t.a11 = u at hA ⊢
  have e5 : u.a5 = t.a5 := by rw [← hu]
  have e6 : u.a6 = t.a6 := by rw [← hu]
  have e7 : u.a7 = t.a7 := by rw [← hu]
  have e8 : u.a8 = t.a8 := by rw [← hu]
  have e9 : u.a9 = t.a9 := by rw [← hu]
  have e10 : u.a10 = t.a10 := by rw [← hu]
  have e11 : u.a11 = t.a11 := by rw [← hu]
  obtain ⟨hN, hK, hE, hP, hS⟩ := hA
  have hD : tD u = tD t := by funext i; unfold tD; rw [e5, e6, e7, e8, e9, e10]
  have hV : tV u = tV t := by funext i; unfold tV; rw [e5, e6, e7, e8, e10]
  have hR : tR u C = tR t C := by funext i; unfold tR; rw [hD, e11]
  have hQ : tQ u C = tQ t C := by funext i; unfold tQ; rw [hV, e11]
  have n1 : plN t C = plN u C := by unfold plN; rw [hS, hN]
  have n2 : plK t C = plK u C := by unfold plK; rw [hS, hK]
  refine ⟨fun _ => by rw [e5, e6, e7]; exact hs h0, irT (by omega), fun _ => hs h0, hS.symm, ⟨n1, fun i _ => by rw [hD]⟩, ⟨n1, fun i _ => by rw [hR]⟩, ⟨n2, fun i _ => by rw [hQ]⟩, ⟨by rw [n1], fun i _ => ⟨by show (tP t C i).1 = (tP u C i).1; rw [hP], by show (tP t C i).2.1 = (tP u C i).2.1; rw [hP]⟩⟩, by unfold plB; rw [hS, e10], by unfold plE; rw [hS, hE], by unfold plF; rw [hS, e7], by omega, by omega, by omega, fun q1 q2 => ⟨⟨?_, fun i _ => rfl⟩, by omega⟩⟩
  unfold plN
  rw [if_pos q1, if_pos q2, tN_eq h0, tN_eq (schE_ck q2)]
end Go.Proofs.YtgojmodiaffcbaaGreatDoor
