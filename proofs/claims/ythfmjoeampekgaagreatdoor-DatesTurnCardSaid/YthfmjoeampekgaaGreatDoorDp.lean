/-
  A loan's days (chapter 16), in plain Lean: where they stand, that they rise.
-/
import Derived.Test.YthfmjoeampekgaaGreatDoorL16
set_option linter.unusedVariables false
set_option linter.unusedSimpArgs false
set_option linter.unusedSectionVars false
namespace Go.Proofs.YthfmjoeampekgaaGreatDoor
open Go Go.Sx
variable [EnvT]
variable {s e mo : Int} {long back eom : Bool}

theorem irT {x : Int} (h : -9000000000000000000 ≤ x ∧ x ≤ 9000000000000000000) : Ir x := by simp only [Ir, InR]; omega

theorem dV_zero : dV s e mo long back eom 0 = s := by unfold dV catV; rw [if_pos rfl]
theorem dV_last : dV s e mo long back eom (dM s e mo long back eom + 1) = e := by unfold dV catV; rw [if_neg (by omega), if_neg (by omega)]
theorem dV_in {i : Nat} (h1 : 1 ≤ i) (h2 : i ≤ dM s e mo long back eom) : dV s e mo long back eom i = gcV s e mo back eom (dO s e mo long back eom + (i - 1)) := by
  unfold dV catV; rw [if_neg (by omega), if_pos (by omega)]
theorem dV_back (h : Loan s e mo) (hs : e - s ≤ 6200 * mo) (hb : back = true) {i : Nat} (h1 : 1 ≤ i) (h2 : i ≤ dM s e mo long back eom + 1) :
    dV s e mo long back eom i = (stp s e mo back eom (dM s e mo long back eom + 1 - i)).1 := by
  have hm := mN_le (back := back) (eom := eom) h hs
  have hd := dM_le (s := s) (e := e) (mo := mo) (long := long) (back := back) (eom := eom)
  rcases Nat.lt_or_ge (dM s e mo long back eom) i with g | g
  · rw [show i = dM s e mo long back eom + 1 by omega, dV_last, Nat.sub_self, stp_zero h, if_pos hb]
  · rw [dV_in h1 g]
    unfold gcV dO
    rw [if_pos hb, if_pos hb]
    congr 2; omega
theorem dV_fwd (h : Loan s e mo) (hb : back = false) {i : Nat} (h2 : i ≤ dM s e mo long back eom) : dV s e mo long back eom i = (stp s e mo back eom i).1 := by
  rcases Nat.eq_zero_or_pos i with rfl | g
  · rw [dV_zero, stp_zero h, if_neg (by rw [hb]; decide)]
  · rw [dV_in g h2]
    unfold gcV dO
    rw [if_neg (by rw [hb]; decide), if_neg (by rw [hb]; decide)]
    congr 2; omega
theorem stp_d (h : Loan s e mo) (hs : e - s ≤ 6200 * mo) {j : Nat} (hj : j ≤ dM s e mo long back eom) : (stp s e mo back eom j).2 = 0 := by
  have hm := mN_le (back := back) (eom := eom) h hs
  have hd := dM_le (s := s) (e := e) (mo := mo) (long := long) (back := back) (eom := eom)
  exact (gN_ok (back := back) (eom := eom) h hs).1 j (by omega)
theorem stp_b (h : Loan s e mo) (hs : e - s ≤ 6200 * mo) {j : Nat} (h1 : 1 ≤ j) (hj : j ≤ dM s e mo long back eom) : s < (stp s e mo back eom j).1 ∧ (stp s e mo back eom j).1 < e := by
  have hm := mN_le (back := back) (eom := eom) h hs
  have hd := dM_le (s := s) (e := e) (mo := mo) (long := long) (back := back) (eom := eom)
  exact btw_t.1 ((st_btw h hs (by omega)).2 ⟨h1, by omega⟩)
/-- A day between stands where a step does. -/
theorem dV_mid (h : Loan s e mo) (hs : e - s ≤ 6200 * mo) {i : Nat} (h1 : 1 ≤ i) (h2 : i ≤ dM s e mo long back eom) : s < dV s e mo long back eom i ∧ dV s e mo long back eom i < e := by
  rcases bcase back with hb | hb
  · rw [dV_back h hs hb h1 (by omega)]; exact stp_b (long := long) h hs (by omega) (by omega)
  · rw [dV_fwd h hb h2]; exact stp_b (long := long) h hs h1 h2
/-- Days rise. -/
theorem dV_rise (h : Loan s e mo) (hs : e - s ≤ 6200 * mo) {i : Nat} (hi : i ≤ dM s e mo long back eom) : dV s e mo long back eom i < dV s e mo long back eom (i + 1) := by
  rcases Nat.eq_zero_or_pos i with rfl | g
  · rw [dV_zero]
    rcases Nat.eq_zero_or_pos (dM s e mo long back eom) with c | c
    · have := dV_last (s := s) (e := e) (mo := mo) (long := long) (back := back) (eom := eom)
      rw [c] at this; rw [this]; exact h.se
    · exact (dV_mid h hs (Nat.le_refl _) c).1
  · rcases Nat.lt_or_ge i (dM s e mo long back eom) with c | c
    · rcases bcase back with hb | hb
      · have := stp_mono (s := s) (e := e) (mo := mo) (back := back) (eom := eom) h (j := dM s e mo long back eom + 1 - (i + 1)) (k := dM s e mo long back eom + 1 - i) (by omega) (stp_d (long := long) h hs (by omega)) (stp_d (long := long) h hs (by omega))
        rw [if_pos hb] at this
        rw [dV_back h hs hb g (by omega), dV_back h hs hb (by omega) (by omega)]; exact this
      · have := stp_mono (s := s) (e := e) (mo := mo) (back := back) (eom := eom) h (j := i) (k := i + 1) (by omega) (stp_d (long := long) h hs (by omega)) (stp_d (long := long) h hs (by omega))
        rw [if_neg (by rw [hb]; decide)] at this
        rw [dV_fwd h hb hi, dV_fwd h hb c]; exact this
    · rw [show i + 1 = dM s e mo long back eom + 1 by omega, dV_last]; exact (dV_mid h hs g hi).2
theorem dV_mono (h : Loan s e mo) (hs : e - s ≤ 6200 * mo) : ∀ {k i : Nat}, i + k ≤ dM s e mo long back eom + 1 → dV s e mo long back eom i + (k : Int) ≤ dV s e mo long back eom (i + k)
  | 0, i, _ => by simp
  | k + 1, i, hk => by
    have h1 := dV_mono h hs (k := k) (i := i) (by omega)
    have h2 := dV_rise (long := long) (back := back) (eom := eom) h hs (i := i + k) (by omega)
    rw [show i + (k + 1) = i + k + 1 by omega]; omega

/-- With no stub, or none between, a long one is as a short one. -/
theorem dM_false : dM s e mo false back eom = mN s e mo back eom := by unfold dM; rw [if_neg (by rintro ⟨c, -⟩; cases c)]

/-- Does a step stand at the other end? -/
def farS (s e mo : Int) (back eom : Bool) : Prop := (stp s e mo back eom (mN s e mo back eom + 1)).2 = 0 ∧ (stp s e mo back eom (mN s e mo back eom + 1)).1 = (if back = true then s else e)
theorem mN_lt (h : Loan s e mo) (hs : e - s ≤ 6200 * mo) (hz : (stp s e mo back eom (mN s e mo back eom + 1)).2 = 0) : mN s e mo back eom + 2 = gN s e mo back eom ∧ btw s e (stp s e mo back eom (mN s e mo back eom + 1)).1 = false := by
  obtain ⟨q1, q2, q3⟩ := gN_ok (back := back) (eom := eom) h hs
  have hg := (gN_le (back := back) (eom := eom) h hs).1
  rcases q3 with ⟨a, b⟩ | ⟨a, b⟩
  · exfalso; apply a
    by_cases c : 2 ≤ gN s e mo back eom
    · have := b c
      have e1 : mN s e mo back eom = gN s e mo back eom - 1 := by unfold mN; rw [if_pos c, if_pos this]
      rw [e1, Nat.sub_add_cancel hg] at hz; exact hz
    · have e1 : mN s e mo back eom = 0 := by unfold mN; rw [if_neg c]
      rw [e1] at hz; rw [show gN s e mo back eom = 0 + 1 by omega]; exact hz
  · have e1 : mN s e mo back eom = gN s e mo back eom - 2 := by unfold mN; rw [if_pos a, if_neg (by rw [b]; decide)]
    refine ⟨by omega, ?_⟩
    rw [e1, show gN s e mo back eom - 2 + 1 = gN s e mo back eom - 1 by omega]; exact b
theorem has_far (h : Loan s e mo) (hs : e - s ≤ 6200 * mo) : hasB (gcV s e mo back eom) (if back = true then s else e) (gN s e mo back eom) = true ↔ farS s e mo back eom := by
  have hm := mN_le (back := back) (eom := eom) h hs
  have h0 := stp_zero (back := back) (eom := eom) h
  have hse := h.se
  obtain ⟨q1, q2, q3⟩ := gN_ok (back := back) (eom := eom) h hs
  have key : ∀ j, j < gN s e mo back eom → (stp s e mo back eom j).1 = (if back = true then s else e) → j = mN s e mo back eom + 1 := by
    intro j hj c
    rcases Nat.lt_or_ge j (mN s e mo back eom + 1) with g | g
    · exfalso
      rcases Nat.eq_zero_or_pos j with rfl | p
      · rw [h0] at c; cases back <;> simp at c <;> omega
      · have := btw_t.1 ((st_btw h hs hj).2 ⟨p, by omega⟩)
        cases back <;> simp at c <;> omega
    · have : gN s e mo back eom ≤ mN s e mo back eom + 2 := by unfold mN; (repeat' split) <;> omega
      omega
  rw [hasB_iff]
  constructor
  · rintro ⟨i, hi, hv⟩
    unfold gcV at hv
    by_cases hb : back = true
    · rw [if_pos hb] at hv
      have := key _ (by omega) hv
      rw [this] at hv
      exact ⟨q1 _ (by omega), hv⟩
    · rw [if_neg hb] at hv
      have := key _ hi hv
      rw [this] at hv
      exact ⟨q1 _ (by omega), hv⟩
  · rintro ⟨a, b⟩
    have hl := (mN_lt h hs a).1
    by_cases hb : back = true
    · refine ⟨0, by omega, ?_⟩
      unfold gcV; rw [if_pos hb, show gN s e mo back eom - 1 - 0 = mN s e mo back eom + 1 by omega]; exact b
    · refine ⟨mN s e mo back eom + 1, by omega, ?_⟩
      unfold gcV; rw [if_neg hb]; exact b
theorem dM_far (h : Loan s e mo) (hs : e - s ≤ 6200 * mo) (hf : farS s e mo back eom) : dM s e mo long back eom = mN s e mo back eom := by
  unfold dM; rw [if_neg]; rintro ⟨-, c⟩; rw [(has_far h hs).2 hf] at c; cases c
theorem dM_stub (h : Loan s e mo) (hs : e - s ≤ 6200 * mo) (hf : ¬ farS s e mo back eom) : dM s e mo true back eom = mN s e mo back eom - 1 := by
  unfold dM; rw [if_pos]
  refine ⟨rfl, ?_⟩
  cases c : hasB (gcV s e mo back eom) (if back = true then s else e) (gN s e mo back eom)
  · rfl
  · exact absurd ((has_far h hs).1 c) hf

theorem dV_long (h : dM s e mo true back eom = dM s e mo false back eom) : dV s e mo true back eom = dV s e mo false back eom := by unfold dV dO; rw [h]
/-- Of the same days. -/
theorem rows_same (h : dM s e mo true back eom = dM s e mo false back eom) {n m : Nat} (hn : n = dM s e mo false back eom + 2) (hm : m = dM s e mo true back eom + 2) :
    decide (n = m ∧ ∀ i, i < n → (fun i => dV s e mo false back eom i) i = (fun i => dV s e mo true back eom i) i) = true := by
  refine decide_eq_true ⟨by omega, fun i _ => ?_⟩
  show dV s e mo false back eom i = dV s e mo true back eom i
  rw [dV_long h]
/-- The day nearest to Start left out. -/
theorem stub_back (h : Loan s e mo) (hs : e - s ≤ 6200 * mo) (hb : back = true) (hd : dM s e mo true back eom + 1 = dM s e mo false back eom) {i : Nat} (hi : i ≤ dM s e mo true back eom + 1) :
    dV s e mo true back eom i = if i < 1 then dV s e mo false back eom 0 else dV s e mo false back eom ((i - 1) + 2) := by
  rcases Nat.eq_zero_or_pos i with rfl | g
  · rw [if_pos (by decide), dV_zero, dV_zero]
  · rw [if_neg (by omega), dV_back h hs hb g (by omega), dV_back h hs hb (by omega) (by omega)]
    congr 2; omega
theorem stub_fwd (h : Loan s e mo) (hb : back = false) (hd : dM s e mo true back eom + 1 = dM s e mo false back eom) {i : Nat} (hi : i ≤ dM s e mo true back eom + 1) :
    dV s e mo true back eom i = if i < dM s e mo false back eom then dV s e mo false back eom i else e := by
  by_cases c : i < dM s e mo false back eom
  · rw [if_pos c, dV_fwd h hb (by omega), dV_fwd h hb (by omega)]
  · rw [if_neg c, show i = dM s e mo true back eom + 1 by omega, dV_last]
theorem dN_eq {a1 a2 a3 a4 a5 a6 a7 a11 : Int} {a8 a9 a10 : Bool} (h : chk a1 a2 a3 a4 a5 a6 a7 a11 = 0) : dN a1 a2 a3 a4 a5 a6 a7 a8 a9 a10 a11 = dM a5 a6 a7 a9 a8 a10 + 2 := by unfold dN; rw [if_pos h]
theorem gcN_eq {a1 a2 a3 a4 a5 a6 a7 a11 : Int} {a8 a10 : Bool} (h : chk a1 a2 a3 a4 a5 a6 a7 a11 = 0) : gcN a1 a2 a3 a4 a5 a6 a7 a8 a10 a11 = gN a5 a6 a7 a8 a10 := by unfold gcN; rw [if_pos h]
theorem stp_t (k : Nat) : stp s e mo true eom k = mv e ((k : Int) * (-mo)) eom := by unfold stp; rw [if_pos rfl]
theorem stp_f (k : Nat) : stp s e mo false eom k = mv s ((k : Int) * mo) eom := by unfold stp; rw [if_neg (by decide)]
theorem mul_le {k : Int} {K : Nat} (h : Loan s e mo) (hk : k = (K : Int)) (hK : K ≤ 1000) : 0 ≤ k * mo ∧ k * mo ≤ 12000 ∧ k * (0 - mo) = -(k * mo) ∧ k * (-mo) = -(k * mo) := by
  have h1 := h.m1; have h2 := h.m2
  refine ⟨Int.mul_nonneg (by omega) (by omega), ?_, by rw [Int.zero_sub, Int.mul_neg], Int.mul_neg ..⟩
  have : k * mo ≤ 1000 * 12 := Int.mul_le_mul (by omega) h2 (by omega) (by decide)
  omega

end Go.Proofs.YthfmjoeampekgaaGreatDoor
