/-
  Plain: numbers by digits of base 10000, as the document's answer holds them.
-/
import Derived.Test.YtgojmodiaffcbaaGreatDoorLow
set_option linter.unusedVariables false
set_option linter.unusedSimpArgs false
namespace Go.Proofs.YtgojmodiaffcbaaGreatDoor
/-- The i-th digit. -/
def dgN (v i : Nat) : Nat := v / 10000 ^ i % 10000
def dg (v i : Nat) : Int := (dgN v i : Nat)
/-- How many digits. -/
def ln (v : Nat) : Nat := if h : v = 0 then 0 else ln (v / 10000) + 1
  termination_by v
  decreasing_by omega
theorem ln_zero : ln 0 = 0 := by rw [ln]; simp
theorem ln_pos {v : Nat} (h : v ≠ 0) : ln v = ln (v / 10000) + 1 := by rw [ln]; simp [h]
theorem B_pos (i : Nat) : 0 < 10000 ^ i := Nat.pos_of_ne_zero (by simp)
theorem lt_ln (v : Nat) : v < 10000 ^ ln v := by
  induction v using ln.induct with
  | case1 => simp [ln_zero]
  | case2 v h ih =>
    rw [ln_pos h, Nat.pow_succ]
    have := Nat.div_add_mod v 10000
    have := Nat.mod_lt v (show 0 < 10000 by decide)
    omega
theorem ln_le {v : Nat} (h : v ≠ 0) : 10000 ^ (ln v - 1) ≤ v := by
  induction v using ln.induct with
  | case1 => exact absurd rfl h
  | case2 v h' ih =>
    rw [ln_pos h']
    simp only [Nat.add_sub_cancel]
    by_cases h0 : v / 10000 = 0
    · rw [h0, ln_zero]; simp; omega
    · have h1 := ih h0
      have h2 : ln (v / 10000) = (ln (v / 10000) - 1) + 1 := by rw [ln_pos h0]; simp
      rw [h2, Nat.pow_succ]
      omega
theorem pow_lt_iff {a b : Nat} : 10000 ^ a < 10000 ^ b ↔ a < b := Nat.pow_lt_pow_iff_right (by decide)
theorem pow_le_iff {a b : Nat} : 10000 ^ a ≤ 10000 ^ b ↔ a ≤ b := Nat.pow_le_pow_iff_right (by decide)
/-- The number of digits, by its mark. -/
theorem ln_eq {v n : Nat} (h1 : v < 10000 ^ n) (h2 : n = 0 ∨ 10000 ^ (n - 1) ≤ v) : n = ln v := by
  rcases h2 with rfl | h2
  · simp at h1; subst h1; rw [ln_zero]
  · have h3 := lt_ln v
    have h0 : v ≠ 0 := by have := B_pos (n - 1); omega
    have h4 := ln_le h0
    have h5 := pow_lt_iff.1 (Nat.lt_of_le_of_lt h2 h3)
    have h6 := pow_lt_iff.1 (Nat.lt_of_le_of_lt h4 h1)
    have h7 : ln v ≠ 0 := by rw [ln_pos h0]; simp
    omega
theorem ln_le_iff {v n : Nat} : ln v ≤ n ↔ v < 10000 ^ n := by
  constructor
  · exact fun h => Nat.lt_of_lt_of_le (lt_ln v) (pow_le_iff.2 h)
  · intro h
    by_cases h0 : v = 0
    · subst h0; rw [ln_zero]; exact Nat.zero_le _
    · have := pow_lt_iff.1 (Nat.lt_of_le_of_lt (ln_le h0) h)
      omega
theorem ln5 {v : Nat} (h : v < 100000000000000000000) : ln v ≤ 5 := ln_le_iff.2 h
theorem lt_ln_iff {v n : Nat} : n < ln v ↔ 10000 ^ n ≤ v := by
  have := @ln_le_iff v n; omega
theorem ln_mono {v w : Nat} (h : v ≤ w) : ln v ≤ ln w := ln_le_iff.2 (Nat.lt_of_le_of_lt h (lt_ln w))
theorem ln_mul (v w : Nat) : ln (v * w) ≤ ln v + ln w := by
  rw [ln_le_iff, Nat.pow_add]
  exact Nat.mul_lt_mul_of_lt_of_le (lt_ln v) (Nat.le_of_lt (lt_ln w)) (B_pos _)
theorem ln_add (v w : Nat) : ln (v + w) ≤ max (ln v) (ln w) + 1 := by
  rw [ln_le_iff, Nat.pow_succ]
  have h1 : v < 10000 ^ max (ln v) (ln w) := ln_le_iff.1 (Nat.le_max_left _ _)
  have h2 : w < 10000 ^ max (ln v) (ln w) := ln_le_iff.1 (Nat.le_max_right _ _)
  omega
theorem dgN_lt (v i : Nat) : dgN v i < 10000 := Nat.mod_lt _ (by decide)
theorem dg_nn (v i : Nat) : 0 ≤ dg v i := by unfold dg; omega
theorem dgN_out {v i : Nat} (h : ln v ≤ i) : dgN v i = 0 := by
  unfold dgN; rw [Nat.div_eq_of_lt (ln_le_iff.1 h)]
theorem dg_out {v i : Nat} (h : ln v ≤ i) : dg v i = 0 := by unfold dg; rw [dgN_out h]; rfl
theorem mod_succ (v i : Nat) : v % 10000 ^ (i + 1) = v % 10000 ^ i + dgN v i * 10000 ^ i := by
  rw [Nat.pow_succ, Nat.mod_mul]; unfold dgN; rw [Nat.mul_comm (10000 ^ i)]
theorem div_step (v i : Nat) : v / 10000 ^ i / 10000 = v / 10000 ^ (i + 1) := by
  rw [Nat.pow_succ, Nat.div_div_eq_div_mul]
/-- What n digits are worth. -/
def vl (f : Nat → Nat) : Nat → Nat
  | 0 => 0
  | n + 1 => vl f n + f n * 10000 ^ n
theorem vl_succ (f : Nat → Nat) (n : Nat) : vl f (n + 1) = vl f n + f n * 10000 ^ n := rfl
theorem vl_congr {f g : Nat → Nat} : ∀ {n : Nat}, (∀ i, i < n → f i = g i) → vl f n = vl g n
  | 0, _ => rfl
  | n + 1, h => by
    unfold vl
    rw [vl_congr (n := n) (fun i hi => h i (by omega)), h n (by omega)]
theorem vl_lt {f : Nat → Nat} : ∀ {n : Nat}, (∀ i, i < n → f i < 10000) → vl f n < 10000 ^ n
  | 0, _ => by simp [vl]
  | n + 1, h => by
    have h1 := vl_lt (n := n) (fun i hi => h i (by omega))
    have h2 := h n (by omega)
    unfold vl
    rw [Nat.pow_succ]
    have : f n * 10000 ^ n ≤ 9999 * 10000 ^ n := Nat.mul_le_mul_right _ (by omega)
    omega
theorem vl_dg (v n : Nat) : vl (dgN v) n = v % 10000 ^ n := by
  induction n with
  | zero => simp [vl, Nat.mod_one]
  | succ n ih => rw [mod_succ, ← ih]; rfl
/-- Digits are their number's. -/
theorem vl_digit {f : Nat → Nat} : ∀ {n : Nat}, (∀ i, i < n → f i < 10000) → ∀ i, i < n → f i = dgN (vl f n) i
  | 0, _, i, hi => by omega
  | n + 1, h, i, hi => by
    have h1 := vl_lt (f := f) (n := n) (fun i hi => h i (by omega))
    unfold vl dgN
    by_cases h2 : i = n
    · subst h2
      rw [Nat.add_mul_div_right _ _ (B_pos i), Nat.div_eq_of_lt h1, Nat.zero_add, Nat.mod_eq_of_lt (h i hi)]
    · have h3 := vl_digit (f := f) (n := n) (fun i hi => h i (by omega)) i (by omega)
      rw [h3]
      unfold dgN
      have h4 : 10000 ^ n = 10000 ^ i * (10000 * 10000 ^ (n - i - 1)) := by
        rw [← Nat.mul_assoc, ← Nat.pow_succ, ← Nat.pow_add]; congr 1; omega
      rw [h4, show f n * (10000 ^ i * (10000 * 10000 ^ (n - i - 1))) = 10000 ^ i * (10000 * (f n * 10000 ^ (n - i - 1))) by
        rw [← Nat.mul_assoc (f n), Nat.mul_comm (f n), Nat.mul_assoc, ← Nat.mul_assoc (f n), Nat.mul_comm (f n) 10000, Nat.mul_assoc]]
      rw [Nat.add_mul_div_left _ _ (B_pos i), Nat.add_mul_mod_self_left]
/-- A store at a place. -/
theorem vl_set {f : Nat → Nat} {k x : Nat} : ∀ {n : Nat}, k < n → vl (fun i => if i = k then x else f i) n + f k * 10000 ^ k = vl f n + x * 10000 ^ k
  | 0, h => by omega
  | n + 1, h => by
    unfold vl
    by_cases h2 : k = n
    · subst h2
      rw [vl_congr (n := k) (g := f) (fun i hi => by rw [if_neg (by omega)]), if_pos rfl]
      omega
    · have := vl_set (f := f) (k := k) (x := x) (n := n) (by omega)
      rw [if_neg (by omega)]
      omega
theorem vl_zero {f : Nat → Nat} : ∀ {n : Nat}, (∀ i, i < n → f i = 0) → vl f n = 0
  | 0, _ => rfl
  | n + 1, h => by
    unfold vl; rw [vl_zero (n := n) (fun i hi => h i (by omega)), h n (by omega)]; simp
theorem mod_full {v i : Nat} (h : ln v ≤ i) : v % 10000 ^ i = v := Nat.mod_eq_of_lt (ln_le_iff.1 h)
theorem vl_cons (d : Nat) (f : Nat → Nat) : ∀ n, vl (fun k => if k < 1 then d else f (k - 1)) (1 + n) = d + 10000 * vl f n
  | 0 => by simp [vl]
  | n + 1 => by
    rw [← Nat.add_assoc, vl_succ, vl_cons d f n, vl_succ, if_neg (by omega), show 1 + n - 1 = n by omega, Nat.add_comm 1 n, Nat.pow_succ, Nat.mul_add]
    rw [Nat.mul_comm (10000 ^ n), ← Nat.mul_assoc, Nat.mul_comm (f n), Nat.mul_assoc]; omega
/-- Long division: one digit more. -/
theorem div_digit (a b j : Nat) (hb : 0 < b) : let R := a / 10000 ^ (j + 1) % b * 10000 + dgN a j
    R / b = dgN (a / b) j ∧ R % b = a / 10000 ^ j % b ∧ R < b * 10000 := by
  intro R
  have h1 : a / 10000 ^ j = a / 10000 ^ (j + 1) * 10000 + dgN a j := by
    have := Nat.div_add_mod (a / 10000 ^ j) 10000
    rw [div_step] at this; unfold dgN; omega
  have h2 := Nat.div_add_mod (a / 10000 ^ (j + 1)) b
  have h3 : a / 10000 ^ j = R + b * (a / 10000 ^ (j + 1) / b * 10000) := by
    rw [h1]
    show _ = a / 10000 ^ (j + 1) % b * 10000 + dgN a j + _
    rw [← Nat.mul_assoc]
    omega
  have h4 := Nat.mod_lt (a / 10000 ^ (j + 1)) hb
  have h5 := dgN_lt a j
  have h6 : R < b * 10000 := by show a / 10000 ^ (j + 1) % b * 10000 + dgN a j < _; omega
  refine ⟨?_, ?_, h6⟩
  · unfold dgN
    rw [Nat.div_div_eq_div_mul, Nat.mul_comm b, ← Nat.div_div_eq_div_mul, h3, Nat.add_mul_div_left _ _ hb]
    have : R / b < 10000 := (Nat.div_lt_iff_lt_mul hb).2 (by rw [Nat.mul_comm]; exact h6)
    rw [Nat.add_mul_mod_self_right, Nat.mod_eq_of_lt this]
  · rw [h3, Nat.add_mul_mod_self_left]
end Go.Proofs.YtgojmodiaffcbaaGreatDoor
