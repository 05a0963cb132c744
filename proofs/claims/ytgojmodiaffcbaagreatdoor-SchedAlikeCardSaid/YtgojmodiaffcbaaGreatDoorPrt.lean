import Derived.Test.YtgojmodiaffcbaaGreatDoorQq
import Derived.Test.YtgojmodiaffcbaaGreatDoorIcm
import Derived.Test.YtgojmodiaffcbaaGreatDoorProg
import Derived.KernelRfl
import Derived.Laws.Externs
/-
  Plain: a year's part by periods, as a sum of fractions; one denominator serves all of them.
-/
set_option linter.unusedVariables false
set_option linter.unusedSimpArgs false
set_option linter.unusedSectionVars false
namespace Go.Proofs.YtgojmodiaffcbaaGreatDoor
open Go Go.Sx
variable [Env]
/-- How many days of a period lie from a to b. -/
def ov (a b lo hi : Int) : Int := if 0 < ((if hi < b then hi else b) - (if a < lo then lo else a)) then ((if hi < b then hi else b) - (if a < lo then lo else a)) else 0
/-- What the k-th period tells. -/
def term (a b : Int) (f : Nat) (g : Nat → Int) (k : Nat) : Rat := if g k < g (k + 1) then mkRat (ov a b (g k) (g (k + 1))) (f * (g (k + 1) - g k).toNat) else 0
/-- What the first k periods tell. -/
def psum (a b : Int) (f : Nat) (g : Nat → Int) : Nat → Rat
  | 0 => 0
  | k + 1 => psum a b f g k + term a b f g k
theorem ov_nn (a b lo hi : Int) : 0 ≤ ov a b lo hi := by unfold ov; split <;> omega
theorem ov_le {a b lo hi : Int} (h : lo ≤ hi) : ov a b lo hi ≤ hi - lo := by unfold ov; split <;> (try split at *) <;> (try split at *) <;> omega
theorem mono_le {n : Nat} {g : Nat → Int} (hs : ∀ i, i < n - 1 → g i ≤ g (i + 1)) {i j : Nat} (h : i ≤ j) (hj : j ≤ n - 1) : g i ≤ g j := by
  induction j with
  | zero => have : i = 0 := by omega
            subst this; omega
  | succ j ih =>
    by_cases h1 : i = j + 1
    · subst h1; omega
    · have := ih (by omega) (by omega)
      have := hs j (by omega)
      omega
/-- The period that holds a day strictly. -/
theorem inside_len {n : Nat} {g : Nat → Int} (hs : ∀ i, i < n - 1 → g i ≤ g (i + 1)) (hd : ∀ i, i < n → 1 ≤ g i ∧ g i ≤ 3652059) (a : Int) :
    ∃ L : Nat, 1 ≤ L ∧ L ≤ 3652058 ∧ ∀ k, k < n - 1 → g k < a → a < g (k + 1) → (g (k + 1) - g k).toNat = L := by
  by_cases h : ∃ k, k < n - 1 ∧ g k < a ∧ a < g (k + 1)
  · obtain ⟨k, h1, h2, h3⟩ := h
    have d1 := hd k (by omega)
    have d2 := hd (k + 1) (by omega)
    refine ⟨(g (k + 1) - g k).toNat, by omega, by omega, fun j h4 h5 h6 => ?_⟩
    rcases Nat.lt_trichotomy j k with hj | hj | hj
    · have := mono_le hs (i := j + 1) (j := k) (by omega) (by omega); omega
    · rw [hj]
    · have := mono_le hs (i := k + 1) (j := j) (by omega) (by omega); omega
  · exact ⟨1, by omega, by omega, fun k h1 h2 h3 => absurd ⟨k, h1, h2, h3⟩ h⟩
theorem one_den {n : Nat} {g : Nat → Int} {f : Nat} (hf : 1 ≤ f) (hf2 : f ≤ 12) (hs : ∀ i, i < n - 1 → g i ≤ g (i + 1)) (hd : ∀ i, i < n → 1 ≤ g i ∧ g i ≤ 3652059) (a b : Int) :
    ∃ M : Nat, M ≠ 0 ∧ M ≤ 160050331624368 ∧ ∀ k, k < n - 1 → ∃ c : Nat, c ≤ M ∧ term a b f g k = mkRat (c : Int) M := by
  obtain ⟨La, a1, a2, a3⟩ := inside_len hs hd a
  obtain ⟨Lb, b1, b2, b3⟩ := inside_len hs hd b
  have hM : f * La * Lb ≤ 12 * 3652058 * 3652058 := Nat.mul_le_mul (Nat.mul_le_mul hf2 a2) b2
  have hM0 : f * La * Lb ≠ 0 := Nat.mul_ne_zero (Nat.mul_ne_zero (by omega) (by omega)) (by omega)
  refine ⟨f * La * Lb, hM0, by omega, fun k hk => ?_⟩
  unfold term
  by_cases hlt : g k < g (k + 1)
  · rw [if_pos hlt]
    obtain ⟨o, ho⟩ : ∃ o : Nat, ov a b (g k) (g (k + 1)) = (o : Int) := Int.eq_ofNat_of_zero_le (ov_nn _ _ _ _)
    have hle := ov_le (a := a) (b := b) (Int.le_of_lt hlt)
    obtain ⟨L, hL⟩ : ∃ L : Nat, (g (k + 1) - g k).toNat = L := ⟨_, rfl⟩
    have hol : o ≤ L := by omega
    have hL0 : L ≠ 0 := by omega
    rw [ho, hL]
    by_cases ho0 : o = 0
    · subst ho0
      exact ⟨0, Nat.zero_le _, by rw [Int.natCast_zero, Rat.zero_mkRat, Rat.zero_mkRat]⟩
    by_cases hina : g k < a ∧ a < g (k + 1)
    · have e := a3 k hk hina.1 hina.2
      rw [hL] at e
      subst e
      refine ⟨o * Lb, ?_, ?_⟩
      · exact Nat.mul_le_mul_right _ (Nat.le_trans hol (Nat.le_mul_of_pos_left _ (by omega)))
      · rw [Int.natCast_mul, Rat.mkRat_mul_right (by omega)]
    · by_cases hinb : g k < b ∧ b < g (k + 1)
      · have e := b3 k hk hinb.1 hinb.2
        rw [hL] at e
        subst e
        refine ⟨o * La, ?_, ?_⟩
        · rw [Nat.mul_right_comm]
          exact Nat.mul_le_mul_right _ (Nat.le_trans hol (Nat.le_mul_of_pos_left _ (by omega)))
        · rw [Nat.mul_right_comm f La L, Int.natCast_mul, Rat.mkRat_mul_right (by omega)]
      · have hoL : o = L := by
          unfold ov at ho
          split at ho
          · (try split at ho) <;> (try split at ho) <;> omega
          · omega
        refine ⟨La * Lb, ?_, ?_⟩
        · rw [Nat.mul_assoc]; exact Nat.le_mul_of_pos_left _ (by omega)
        · rw [hoL, Rat.mkRat_eq_iff (Nat.mul_ne_zero (by omega) hL0) hM0]
          rw [← Int.natCast_mul, ← Int.natCast_mul]
          congr 1
          rw [Nat.mul_assoc f, Nat.mul_left_comm, Nat.mul_comm L, ← Nat.mul_assoc, Nat.mul_comm f, Nat.mul_assoc]
  · rw [if_neg hlt]
    exact ⟨0, Nat.zero_le _, by rw [Int.natCast_zero, Rat.zero_mkRat]⟩
/-- All sums have that denominator. -/
theorem psum_den {n : Nat} {g : Nat → Int} {f M : Nat} {a b : Int} (hM : M ≠ 0) (h : ∀ k, k < n - 1 → ∃ c : Nat, c ≤ M ∧ term a b f g k = mkRat (c : Int) M) :
    ∀ k, k ≤ n - 1 → ∃ C : Nat, C ≤ k * M ∧ psum a b f g k = mkRat (C : Int) M
  | 0, _ => ⟨0, by omega, by rw [Int.natCast_zero, Rat.zero_mkRat]; rfl⟩
  | k + 1, hk => by
    obtain ⟨C, h1, h2⟩ := psum_den hM h k (by omega)
    obtain ⟨c, h3, h4⟩ := h k (by omega)
    refine ⟨C + c, by rw [Nat.add_mul]; omega, ?_⟩
    show psum a b f g k + term a b f g k = _
    rw [h2, h4, mkRat_add_same C c hM]
/-- One step of the sum, of the program and of the document's answer. -/
theorem psum_step {n : Nat} {g : Nat → Int} {f : Nat} (hf : 1 ≤ f) (hf2 : f ≤ 12) (hn : n ≤ 1204) (hs : ∀ i, i < n - 1 → g i ≤ g (i + 1)) (hd : ∀ i, i < n → 1 ≤ g i ∧ g i ≤ 3652059) (a b : Int) {k : Nat} (hk : k < n - 1) :
    SCall Tryz.prog GL 152 [QV (psum a b f g k), QV (term a b f g k)] [] (RQ (psum a b f g (k + 1))) [] ∧
    SCall Tryz.prog GL 18 [QV (psum a b f g k), QV (term a b f g k)] [] (RQ (psum a b f g (k + 1))) [] := by
  obtain ⟨M, h1, h2, h3⟩ := one_den hf hf2 hs hd a b
  obtain ⟨C, h4, h5⟩ := psum_den h1 h3 k (by omega)
  obtain ⟨c, h6, h7⟩ := h3 k hk
  have hkM : k * M ≤ 1203 * 160050331624368 := Nat.mul_le_mul (by omega) h2
  have e : psum a b f g (k + 1) = mkRat ((C + c : Nat) : Int) M := by
    show psum a b f g k + term a b f g k = _
    rw [h5, h7, mkRat_add_same C c h1]
  rw [e, h5, h7]
  exact ⟨r_AddQ h1 (by omega) (by omega), ref_AddQ h1 (by omega) (by omega)⟩
end Go.Proofs.YtgojmodiaffcbaaGreatDoor
set_option linter.unusedVariables false
set_option linter.unusedSimpArgs false
set_option linter.unusedSectionVars false
set_option maxRecDepth 100000
namespace Go.Proofs.YtgojmodiaffcbaaGreatDoor
open Go Go.Sx
variable [Env]
/-- A year's part, and its code: what the document says. -/
def partR (a b : Int) (n : Nat) (g : Nat → Int) (f : Int) : Int × Int × Int :=
  if isDay a = false ∨ isDay b = false then (0, 0, 3) else if a > b then (0, 0, 4) else if mayB n g f = false ∨ a < g 0 ∨ b > g (n - 1) then (0, 0, 5)
  else ((psum a b f.toNat g (n - 1)).num, ((psum a b f.toNat g (n - 1)).den : Int), 0)
/-- What 'may' tells. -/
theorem may_facts {n : Nat} {g : Nat → Int} {f : Int} (h : mayB n g f = true) : 2 ≤ n ∧ n ≤ 1204 ∧ 1 ≤ f ∧ f ≤ 12 ∧ (∀ i, i < n → 1 ≤ g i ∧ g i ≤ 3652059) ∧ (∀ i, i < n - 1 → g i ≤ g (i + 1)) ∧ g 0 < g (n - 1) := by
  unfold mayB at h
  rw [decide_eq_true_eq] at h
  obtain ⟨h1, h2, h3, h4, h5, h6, h7⟩ := h
  refine ⟨h1, h2, h3, h4, fun i hi => ?_, h6, h7⟩
  have := h5 i hi
  unfold isDay at this
  rwa [decide_eq_true_eq] at this
end Go.Proofs.YtgojmodiaffcbaaGreatDoor
