/-
  Chapter 16's laws: GRID, in plain Lean.
-/
import Derived.Test.YthfmjoeampekgaaGreatDoorDp
import Derived.Test.YthfmjoeampekgaaGreatDoorProg
import Derived.KernelRfl
set_option linter.unusedVariables false
set_option linter.unusedSimpArgs false
set_option linter.unusedSectionVars false
set_option maxRecDepth 100000
namespace Go.Proofs.YthfmjoeampekgaaGreatDoor
open Go Go.Sx
variable [EnvT]


variable {s e mo : Int} {long back eom : Bool}
theorem mIdx_mono {n n' : Int} (h : isDay n = true) (h' : isDay n' = true) (hn : n ≤ n') : mIdx n ≤ mIdx n' := by
  obtain ⟨a1, a2, a3, a4, a5⟩ := day_idx h
  obtain ⟨b1, b2, b3, b4, b5⟩ := day_idx h'
  refine Int.not_lt.1 fun c => ?_
  have h1 := (mSt_le (m := mIdx n' + 1) (m' := mIdx n) (by omega) (by omega)).1
  have h2 := mSt_succ (m := mIdx n') b1
  omega
theorem mIdx_month {m d : Int} (h1 : 12 ≤ m) (h2 : m ≤ 119999) (h3 : 1 ≤ d) (h4 : d ≤ mLn m) : mIdx (mSt m + d) = m := by
  have hd := in_month h1 h2 h3 h4
  obtain ⟨a1, a2, a3, a4, a5⟩ := day_idx hd
  have u := mSt_succ (m := m) h1
  have v := mSt_succ (m := mIdx (mSt m + d)) a1
  rcases Int.lt_trichotomy m (mIdx (mSt m + d)) with c | c | c
  · have := (mSt_le (m := m + 1) (m' := mIdx (mSt m + d)) (by omega) (by omega)).1; omega
  · exact c.symm
  · have := (mSt_le (m := mIdx (mSt m + d) + 1) (m' := m) (by omega) (by omega)).1; omega
theorem mIdx_mv {n k : Int} {eom : Bool} (h : (mv n k eom).2 = 0) : mIdx (mv n k eom).1 = mIdx n + k := by
  have h' := mv_iff.1 h
  have := tgt_ok h'.1 eom (mIdx n + k)
  rw [mv_ok h']; exact mIdx_month h'.2.1 h'.2.2 this.1 this.2
theorem idx_lo : mIdx 366 = 24 := by kernel_rfl
theorem idx_hi : mIdx 3651000 ≤ 119987 := of_decide_eq_true (by kernel_rfl)

/-- Where the ends stand well within the days, the last step is not between. -/
theorem grid_end (h : Loan s e mo) (hs : e - s ≤ 6200 * mo) (h1 : 366 ≤ s) (h2 : e ≤ 3651000) : 2 ≤ gN s e mo back eom ∧ btw s e (stp s e mo back eom (gN s e mo back eom - 1)).1 = false := by
  obtain ⟨q1, q2, q3⟩ := gN_ok (back := back) (eom := eom) h hs
  have hg := (gN_le (back := back) (eom := eom) h hs).1
  rcases q3 with ⟨a, b⟩ | q3
  · exfalso; apply a
    have hz := q1 (gN s e mo back eom - 1) (by omega)
    have hse := h.se
    have hr : s ≤ (stp s e mo back eom (gN s e mo back eom - 1)).1 ∧ (stp s e mo back eom (gN s e mo back eom - 1)).1 ≤ e := by
      by_cases c : 2 ≤ gN s e mo back eom
      · have := btw_t.1 (b c); omega
      · rw [show gN s e mo back eom - 1 = 0 by omega, stp_zero h]; cases back <;> simp <;> omega
    have b1 := isDay_iff.1 h.ds
    have b2 := isDay_iff.1 h.de
    have hx : isDay (stp s e mo back eom (gN s e mo back eom - 1)).1 = true := isDay_iff.2 (by omega)
    have i1 := mIdx_mono (n := 366) (isDay_iff.2 (by omega)) hx (by omega)
    have i2 := mIdx_mono (n' := 3651000) hx (isDay_iff.2 (by omega)) (by omega)
    rw [idx_lo] at i1
    have := idx_hi
    have hm := h.m1; have hM := h.m2
    generalize hG : gN s e mo back eom = G at *
    have em : (G : Int) * mo = ((G - 1 : Nat) : Int) * mo + mo := by rw [show (G : Int) = ((G - 1 : Nat) : Int) + 1 by omega, Int.add_mul, Int.one_mul]
    cases back
    · rw [stp_f] at hz hx i1 i2 hr ⊢
      have e1 := mIdx_mv hz
      exact mv_iff.2 ⟨h.ds, by omega, by omega⟩
    · rw [stp_t] at hz hx i1 i2 hr ⊢
      have e1 : mIdx (mv e (((G - 1 : Nat) : Int) * (-mo)) eom).1 = mIdx e + -(((G - 1 : Nat) : Int) * mo) := by rw [mIdx_mv hz, Int.mul_neg]
      rw [Int.mul_neg]
      exact mv_iff.2 ⟨h.de, by omega, by omega⟩
  · exact q3
/-- Steps rise, told from Start to End. -/
theorem gc_rise (h : Loan s e mo) (hs : e - s ≤ 6200 * mo) {i : Nat} (hi : i + 1 < gN s e mo back eom) : gcV s e mo back eom i < gcV s e mo back eom (i + 1) := by
  obtain ⟨q1, -, -⟩ := gN_ok (back := back) (eom := eom) h hs
  unfold gcV
  rcases bcase back with hb | hb
  · have := stp_mono (s := s) (e := e) (mo := mo) (back := back) (eom := eom) h (j := gN s e mo back eom - 1 - (i + 1)) (k := gN s e mo back eom - 1 - i) (by omega) (q1 _ (by omega)) (q1 _ (by omega))
    rw [if_pos hb] at this ⊢; rw [if_pos hb]; exact this
  · have := stp_mono (s := s) (e := e) (mo := mo) (back := back) (eom := eom) h (j := i) (k := i + 1) (by omega) (q1 _ (by omega)) (q1 _ (by omega))
    rw [if_neg (by rw [hb]; decide)] at this ⊢; rw [if_neg (by rw [hb]; decide)]; exact this
theorem gc_mono (h : Loan s e mo) (hs : e - s ≤ 6200 * mo) : ∀ {k i : Nat}, i + k + 1 < gN s e mo back eom → gcV s e mo back eom i < gcV s e mo back eom (i + k + 1)
  | 0, i, hk => gc_rise h hs hk
  | k + 1, i, hk => by
    have h1 := gc_mono h hs (k := k) (i := i) (by omega)
    have h2 := gc_rise h hs (back := back) (eom := eom) (i := i + k + 1) (by omega)
    rw [show i + (k + 1) + 1 = i + k + 1 + 1 by omega]; omega
theorem gc_ends (h : Loan s e mo) (hs : e - s ≤ 6200 * mo) (h1 : 366 ≤ s) (h2 : e ≤ 3651000) :
    gcV s e mo back eom 0 ≤ s ∧ e ≤ gcV s e mo back eom (gN s e mo back eom - 1) ∧ (back = true → gcV s e mo back eom (gN s e mo back eom - 1) = e) ∧ (back = false → gcV s e mo back eom 0 = s) := by
  obtain ⟨g1, g2⟩ := grid_end (back := back) (eom := eom) h hs h1 h2
  have h0 := stp_zero (back := back) (eom := eom) h
  obtain ⟨q1, -, -⟩ := gN_ok (back := back) (eom := eom) h hs
  have hz := q1 (gN s e mo back eom - 1) (by omega)
  have hb' := btw_f.1 g2
  unfold gcV
  rcases bcase back with hb | hb
  · have f := (stp_far h (k := gN s e mo back eom - 1) (eom := eom) (by omega)).2
    rw [← hb] at f
    have f' := (f hz).2
    rw [if_pos hb] at h0
    rw [if_pos hb, if_pos hb, Nat.sub_self, Nat.sub_zero, h0]
    exact ⟨by omega, Int.le_refl _, fun _ => rfl, fun c => nob hb c⟩
  · have f := (stp_far h (k := gN s e mo back eom - 1) (eom := eom) (by omega)).1
    rw [← hb] at f
    have f' := (f hz).2
    have nb : ¬ back = true := by rw [hb]; decide
    rw [if_neg nb] at h0
    rw [if_neg nb, if_neg nb, h0]
    exact ⟨Int.le_refl _, by omega, fun c => nob c hb, fun _ => rfl⟩

end Go.Proofs.YthfmjoeampekgaaGreatDoor
