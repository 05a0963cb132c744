/-
  Plans (chapter 17): the reference.
-/
import Derived.Test.YtgojmodiaffcbaaGreatDoorSp
import Derived.Test.YtgojmodiaffcbaaGreatDoorProg
import Derived.KernelRfl
set_option linter.unusedVariables false
set_option linter.unusedSimpArgs false
set_option linter.unusedSectionVars false
set_option maxRecDepth 100000
namespace Go.Proofs.YtgojmodiaffcbaaGreatDoor
open Go Go.Sx
variable [EnvT]
noncomputable def refPts_h0 (n1 : Nat) (g2 : Nat → Int) (g3 : Nat → Int) (n4 : Nat) (g5 : Nat → Int) (g6 : Nat → Int) (x1 : Int) : SC :=
  ⟨[⟨22, slo 26 [(0, .sl 0 n1), (1, .sl 1 n4), (5, I x1)], [.code (bodyAt Tryz.f22 [1, 1, 0, 1, 0, 0]), .inLoop (bodyAt Tryz.f22 [1, 1, 0, 1, 0, 0]), .inBlock 0, .code (bodyAt Tryz.f22 [1, 1, 1])], {}⟩], [some (.row false 48 n1 2 (fun i => [I (g2 i), I (g3 i)])), some (.row false 48 n4 2 (fun i => [I (g5 i), I (g6 i)]))]⟩
theorem refPts_w0 {X : Cx} {n1 : Nat} {g2 g3 : Nat → Int} {n4 : Nat} {g5 g6 : Nat → Int} {res : SV}  (hX : Fi X 22 [some (.row false 48 n1 2 (fun i => [I (g2 i), I (g3 i)])), some (.row false 48 n4 2 (fun i => [I (g5 i), I (g6 i)]))] (res) []) (H : (((n1 : Nat) : Int) ≠ ((n4 : Nat) : Int) → (B false : SV) = res) ∧ (((n1 : Nat) : Int) = ((n4 : Nat) : Int) → Ok X (refPts_h0 n1 g2 g3 n4 g5 g6 0))) :
    Ok X (entry Tryz.prog 22 [.sl 0 n1, .sl 1 n4] [some (.row false 48 n1 2 (fun i => [I (g2 i), I (g3 i)])), some (.row false 48 n4 2 (fun i => [I (g5 i), I (g6 i)]))]) := by
  obtain ⟨L0, K0⟩ := H
  by_cases h0 : ((n1 : Nat) : Int) = ((n4 : Nat) : Int)
  · have k := K0 h0
    exact hX.h 22 [f_ (bne_eq_false_iff_eq.2 h0)] (oldM 2) k
  · have HE := L0 h0
    exact (hX.to HE.symm).e [t_ (bne_iff_ne.2 h0)]
theorem refPts_w1 {X : Cx} {n1 : Nat} {g2 g3 : Nat → Int} {n4 : Nat} {g5 g6 : Nat → Int} {x1 : Int} {res : SV}  (hX : Fi X 22 [some (.row false 48 n1 2 (fun i => [I (g2 i), I (g3 i)])), some (.row false 48 n4 2 (fun i => [I (g5 i), I (g6 i)]))] (res) []) (H : (x1 < ((n1 : Nat) : Int) → ((0 : Int) ≤ x1 ∧ x1 < ((n1 : Nat) : Int)) ∧ ((0 : Int) ≤ x1 ∧ x1 < ((n4 : Nat) : Int)) ∧ ((((g2 x1.toNat) == (g5 x1.toNat)) && (((g3 x1.toNat) == (g6 x1.toNat)) && true)) = false → (B false : SV) = res) ∧ ((((g2 x1.toNat) == (g5 x1.toNat)) && (((g3 x1.toNat) == (g6 x1.toNat)) && true)) = true → Ir (x1 + 1) ∧ Ok X (refPts_h0 n1 g2 g3 n4 g5 g6 (x1 + 1)))) ∧ (¬ x1 < ((n1 : Nat) : Int) → (B true : SV) = res)) :
    Ok X (refPts_h0 n1 g2 g3 n4 g5 g6 x1) := by
  obtain ⟨L0, K0⟩ := H
  by_cases h0 : x1 < ((n1 : Nat) : Int)
  · obtain ⟨h1, h2, L3, K3⟩ := L0 h0
    refine hX.go [t_ (dt h0), q_ h1, q_ (re n1), q_ h1, q_ h2, q_ (re n4), q_ h2, d_ 8] ?_
    rcases bcase (((g2 x1.toNat) == (g5 x1.toNat)) && (((g3 x1.toNat) == (g6 x1.toNat)) && true)) with h3 | h3
    · obtain ⟨h4, k⟩ := K3 h3
      exact hX.h 9 [f_ (nf h3), q_ h4] (oldM 2) k
    · have HE := L3 h3
      exact (hX.to HE.symm).e [t_ (nt h3)]
  · have HE := K0 h0
    exact (hX.to HE.symm).e [f_ (df h0)]
theorem refPts_l {X : Cx} {n : Nat} {g2 g3 g5 g6 : Nat → Int} {res : SV} (hX : Fi X 22 [some (.row false 48 n 2 (fun i => [I (g2 i), I (g3 i)])), some (.row false 48 n 2 (fun i => [I (g5 i), I (g6 i)]))] res []) (hn : n ≤ 10000)
    (hr : B (decide (n = n ∧ ∀ i, i < n → g2 i = g5 i ∧ g3 i = g6 i)) = res) : ∀ (f i : Nat), i + f = n → (∀ j, j < i → g2 j = g5 j ∧ g3 j = g6 j) → Ok X (refPts_h0 n g2 g3 n g5 g6 (i : Int))
  | 0, i, hi, hj => refPts_w1 hX ⟨fun c => absurd c (by omega), fun _ => by rw [← hr, decide_eq_true ⟨rfl, fun j h => hj j (by omega)⟩]⟩
  | f + 1, i, hi, hj => by
    have ti : ((i : Int)).toNat = i := Int.toNat_natCast _
    refine refPts_w1 hX ⟨fun _ => ?_, fun c => absurd (show (i : Int) < ((n : Nat) : Int) by omega) c⟩
    rw [ti]
    refine ⟨by omega, by omega, fun c => ?_, fun c => ⟨irT (by omega), refPts_l hX hn hr f (i + 1) (by omega) (fun j h => ?_)⟩⟩
    · rw [← hr, decide_eq_false (fun q => by have := q.2 i (by omega); simp [this.1, this.2] at c)]
    · rcases Nat.lt_or_ge j i with d | d
      · exact hj j d
      · rw [show j = i by omega]; simp at c; exact c
theorem rParts {n m : Nat} {g2 g3 g5 g6 : Nat → Int} (hn : n ≤ 10000) : S 22 [.sl 0 n, .sl 1 m] [some (.row false 48 n 2 (fun i => [I (g2 i), I (g3 i)])), some (.row false 48 m 2 (fun i => [I (g5 i), I (g6 i)]))] (B (decide (n = m ∧ ∀ i, i < n → g2 i = g5 i ∧ g3 i = g6 i))) [] := by
  refine SCall.st fun X hX => refPts_w0 hX ⟨fun c => ?_, fun c => ?_⟩
  · rw [decide_eq_false (fun q => c (by rw [q.1]))]
  · have e : n = m := by omega
    subst e
    exact refPts_l hX hn rfl n 0 (by omega) (fun j h => absurd h (Nat.not_lt_zero _))
theorem refShW_w {a1 a2 a3 a4 a5 a6 a7 : Int} {a8 a9 a10 : Bool} {a11 a12 : Int} {res : SV}  (H : Ir (31 * a12) ∧ ((IntKind.wrap .i64 (a6 - a5)) ≤ (31 * a12) → (B (decide (a5 ≤ a6)) : SV) = res) ∧ (¬ (IntKind.wrap .i64 (a6 - a5)) ≤ (31 * a12) → (B false : SV) = res)) :
    S 25 [.agg [I a1, I a2, I a3, I a4, I a5, I a6, I a7, B a8, B a9, B a10, I a11], I a12] [] (res) [] := by
  refine SCall.st fun X hX => ?_
  obtain ⟨h0, L1, K1⟩ := H
  refine hX.go [q_ h0, h_ [.w, .t]] ?_
  by_cases h1 : (IntKind.wrap .i64 (a6 - a5)) ≤ (31 * a12)
  · have HE := L1 h1
    exact (hX.to HE.symm).e [n_ 6 (t_ (dt h1))]
  · have HE := K1 h1
    exact (hX.to HE.symm).e [n_ 6 (f_ (df h1))]
/-- Has a loan so many months at most? (Of any days.) -/
def shW (s e k : Int) : Bool := decide (IntKind.wrap .i64 (e - s) ≤ 31 * k ∧ s ≤ e)
theorem shW_eq {s e k : Int} (h : Ir (e - s)) : shW s e k = shB s e k := by unfold shW shB; rw [wrap_InR h]
theorem rShortW (a1 a2 a3 a4 a5 a6 a7 : Int) (a8 a9 a10 : Bool) (a11 k : Int) (h1 : Ir (31 * k)) :
    S 25 [.agg [I a1, I a2, I a3, I a4, I a5, I a6, I a7, B a8, B a9, B a10, I a11], I k] [] (B (shW a5 a6 k)) [] := by
  refine refShW_w ⟨h1, fun c => ?_, fun c => ?_⟩
  · rw [show shW a5 a6 k = decide (a5 ≤ a6) by unfold shW; rw [decide_eq_decide]; constructor <;> intro h <;> first | exact h.2 | exact ⟨c, h⟩]
  · rw [show shW a5 a6 k = false from decide_eq_false (fun h => c h.1)]
theorem refSh_w {a1 a2 a3 a4 a5 a6 a7 : Int} {a8 a9 a10 : Bool} {a11 : Int} {C : Cl} {m : Int} {res : SV}  (H : ((fewB C) = false → (B false : SV) = res) ∧ ((fewB C) = true → ((calMay C) = false → (B false : SV) = res) ∧ ((calMay C) = true → Ir (31 * m) ∧ ((chk a1 a2 a3 a4 a5 a6 a7 a11) ≠ 0 → (B true : SV) = res) ∧ ((chk a1 a2 a3 a4 a5 a6 a7 a11) = 0 → (B (shW a5 a6 m) : SV) = res)))) :
    S 10 [.agg [I a1, I a2, I a3, I a4, I a5, I a6, I a7, B a8, B a9, B a10, I a11], .agg [B (C.off 0), B (C.off 1), B (C.off 2), B (C.off 3), B (C.off 4), B (C.off 5), B (C.off 6), .sl 0 C.nr, .sl 1 C.nd], I m] (calH C) (res) [] := by
  refine SCall.st fun X hX => ?_
  obtain ⟨L0, K0⟩ := H
  refine hX.go [c_ [0, 1] (show S 23 [.agg [B (C.off 0), B (C.off 1), B (C.off 2), B (C.off 3), B (C.off 4), B (C.off 5), B (C.off 6), .sl 0 C.nr, .sl 1 C.nd]] (calH C) (B (fewB C)) [] from refFew), c_ [0, 1] (show S 24 [.agg [B (C.off 0), B (C.off 1), B (C.off 2), B (C.off 3), B (C.off 4), B (C.off 5), B (C.off 6), .sl 0 C.nr, .sl 1 C.nd]] (calH C) (B (calMay C)) [] from refMay)] ?_
  rcases bcase (fewB C) with h0 | h0
  · obtain ⟨L1, K1⟩ := K0 h0
    refine hX.go [n_ 3 (f_ (nf h0))] ?_
    rcases bcase (calMay C) with h1 | h1
    · obtain ⟨h2, L3, K3⟩ := K1 h1
      refine hX.go [f_ (nf h1), c_ [] (rCheck a1 a2 a3 a4 a5 a6 a7 a8 a9 a10 a11), c_ [] (show S 25 [.agg [I a1, I a2, I a3, I a4, I a5, I a6, I a7, B a8, B a9, B a10, I a11], I m] [] (B (shW a5 a6 m)) [] from rShortW _ _ _ _ _ _ _ _ _ _ _ _ h2)] ?_
      by_cases h3 : (chk a1 a2 a3 a4 a5 a6 a7 a11) = 0
      · have HE := K3 h3
        exact (hX.to HE.symm).e [f_ (bne_eq_false_iff_eq.2 h3), f_ (bne_eq_false_iff_eq.2 h3)]
      · have HE := L3 h3
        exact (hX.to HE.symm).e [t_ (bne_iff_ne.2 h3), t_ (bne_iff_ne.2 h3)]
    · have HE := L1 h1
      exact (hX.to HE.symm).e [t_ (nt h1)]
  · have HE := L0 h0
    exact (hX.to HE.symm).e [n_ 3 (t_ (nt h0)), t_ rt]
/-- May a calendar be, of few rules and days, and is a loan short, or may its terms not be? -/
noncomputable def shP (t : Tms) (C : Cl) (m : Int) : Bool := fewB C && (calMay C && (decide (tCk t ≠ 0) || shW t.a5 t.a6 m))
theorem tCk_ir {t : Tms} (h : tCk t = 0) : Ir (t.a6 - t.a5) := by
  have hL := tCk_loan h
  have d1 := isDay_iff.1 hL.ds
  have d2 := isDay_iff.1 hL.de
  exact irT (by omega)
theorem shP_t {t : Tms} {C : Cl} {m : Int} (h : shP t C m = true) (hm : m ≤ 200) : CalOk C ∧ tSh t ∧ (tCk t = 0 → t.a6 - t.a5 ≤ 31 * m) := by
  unfold shP at h
  simp only [Bool.and_eq_true, Bool.or_eq_true, decide_eq_true_eq] at h
  obtain ⟨-, h2, h3⟩ := h
  have k : tCk t = 0 → t.a6 - t.a5 ≤ 31 * m := fun c => by
    have h4 := h3.resolve_left (fun d => d c)
    rw [shW_eq (tCk_ir c)] at h4
    exact (shB_t h4).1
  exact ⟨calMay_t.1 h2, fun c => by have := k c; have := (tCk_loan c).m1; omega, k⟩
theorem rShort17 (t : Tms) {C : Cl} {m : Int} (hm : 0 ≤ m ∧ m ≤ 1000) : S 10 [tmL t, calL C, I m] (calH C) (B (shP t C m)) [] := by
  unfold shP
  refine refSh_w ⟨fun c => by rw [c]; rfl, fun c => ⟨fun d => by rw [c, d]; rfl, fun d => ?_⟩⟩
  rw [c, d]
  exact ⟨irT (by omega), fun e => by rw [decide_eq_true (show tCk t ≠ 0 from e)]; rfl, fun e => by rw [decide_eq_false (show ¬ tCk t ≠ 0 from fun z => z e)]; rfl⟩
end Go.Proofs.YtgojmodiaffcbaaGreatDoor
