/-
  Plain: parts of days one behind the other add up; all periods together; days moved; periods of more a year.
-/
import Derived.Test.YtehnnaanpmceiaaGreatDoorPrt
set_option linter.unusedVariables false
set_option linter.unusedSimpArgs false
set_option linter.unusedSectionVars false
namespace Go.Proofs.YtehnnaanpmceiaaGreatDoor
open Go Go.Sx
variable [Env]

theorem ov_add {a b c lo hi : Int} (h1 : a ≤ b) (h2 : b ≤ c) (h3 : lo ≤ hi) : ov a b lo hi + ov b c lo hi = ov a c lo hi := by
  unfold ov
  repeat' split
  all_goals omega

theorem ov_mid {a b lo mid hi : Int} (h1 : a ≤ b) (h2 : lo ≤ mid) (h3 : mid ≤ hi) : ov a b lo mid + ov a b mid hi = ov a b lo hi := by
  unfold ov
  repeat' split
  all_goals omega

theorem mkRat_add_int (x y : Int) {M : Nat} (hM : M ≠ 0) : mkRat x M + mkRat y M = mkRat (x + y) M := by
  rw [Rat.mkRat_add_mkRat _ _ hM hM, ← Int.add_mul, Rat.mkRat_mul_right hM]

theorem term_add {a b c : Int} {f : Nat} {g : Nat → Int} {k : Nat} (hf : 1 ≤ f) (h1 : a ≤ b) (h2 : b ≤ c) : term a b f g k + term b c f g k = term a c f g k := by
  unfold term
  by_cases h : g k < g (k + 1)
  · rw [if_pos h, if_pos h, if_pos h, mkRat_add_int _ _ (Nat.mul_ne_zero (by omega) (by omega)), ov_add h1 h2 (by omega)]
  · rw [if_neg h, if_neg h, if_neg h]; exact Rat.add_zero 0

theorem psum_add {a b c : Int} {f : Nat} {g : Nat → Int} (hf : 1 ≤ f) (h1 : a ≤ b) (h2 : b ≤ c) : ∀ k, psum a b f g k + psum b c f g k = psum a c f g k
  | 0 => Rat.add_zero 0
  | k + 1 => by
    show (psum a b f g k + term a b f g k) + (psum b c f g k + term b c f g k) = psum a c f g k + term a c f g k
    rw [← psum_add hf h1 h2 k, ← term_add hf h1 h2, Rat.add_assoc, Rat.add_assoc, ← Rat.add_assoc (term a b f g k), Rat.add_comm (term a b f g k) (psum b c f g k), Rat.add_assoc]

/-- How many of the first k periods have days. -/
def cnt (g : Nat → Int) : Nat → Nat
  | 0 => 0
  | k + 1 => cnt g k + if g k < g (k + 1) then 1 else 0

theorem cnt_le (g : Nat → Int) : ∀ k, cnt g k ≤ k
  | 0 => Nat.le_refl 0
  | k + 1 => by have := cnt_le g k; show cnt g k + _ ≤ k + 1; split <;> omega

theorem psum_full {n : Nat} {f : Nat} {g : Nat → Int} (hf : 1 ≤ f) (hs : ∀ i, i < n - 1 → g i ≤ g (i + 1)) : ∀ k, k ≤ n - 1 → psum (g 0) (g (n - 1)) f g k = mkRat (cnt g k : Int) f
  | 0, _ => by show (0 : Rat) = mkRat ((0 : Nat) : Int) f; rw [Int.natCast_zero, Rat.zero_mkRat]
  | k + 1, hk => by
    show psum (g 0) (g (n - 1)) f g k + term (g 0) (g (n - 1)) f g k = mkRat ((cnt g k + if g k < g (k + 1) then 1 else 0 : Nat) : Int) f
    rw [psum_full hf hs k (by omega)]
    unfold term
    have m1 := mono_le hs (i := 0) (j := k) (by omega) (by omega)
    have m2 := mono_le hs (i := k + 1) (j := n - 1) (by omega) (by omega)
    by_cases h : g k < g (k + 1)
    · rw [if_pos h, if_pos h]
      have e1 : ov (g 0) (g (n - 1)) (g k) (g (k + 1)) = ((g (k + 1) - g k).toNat : Int) := by
        unfold ov
        repeat' split
        all_goals omega
      have hL : (g (k + 1) - g k).toNat ≠ 0 := by omega
      rw [e1]
      have e2 : mkRat (((g (k + 1) - g k).toNat : Nat) : Int) (f * (g (k + 1) - g k).toNat) = mkRat ((1 : Nat) : Int) f := by
        have := Rat.mkRat_mul_right (n := ((1 : Nat) : Int)) (d := f) (a := (g (k + 1) - g k).toNat) hL
        rw [← this]
        congr 1
        simp
      rw [e2, mkRat_add_same _ _ (by omega)]
    · rw [if_neg h, if_neg h, Rat.add_zero]
      rfl

/-- Parts are small. -/
theorem psum_small {n : Nat} {g : Nat → Int} {f : Nat} (hf : 1 ≤ f) (hf2 : f ≤ 12) (hn : n ≤ 1204) (hs : ∀ i, i < n - 1 → g i ≤ g (i + 1)) (hd : ∀ i, i < n → 1 ≤ g i ∧ g i ≤ 3652059) (a b : Int) {k : Nat} (hk : k ≤ n - 1) :
    0 ≤ (psum a b f g k).num ∧ (psum a b f g k).num ≤ 1203 * 160050331624368 ∧ (psum a b f g k).den ≤ 160050331624368 := by
  obtain ⟨M, h1, h2, h3⟩ := one_den hf hf2 hs hd a b
  obtain ⟨C, h4, h5⟩ := psum_den h1 h3 k hk
  have hkM : k * M ≤ 1203 * 160050331624368 := Nat.mul_le_mul (by omega) h2
  rw [h5]
  have n1 := num_le C h1
  have n2 := num_nat C h1
  have n3 := den_le C h1
  exact ⟨by rw [n2]; exact Int.natCast_nonneg _, by omega, by omega⟩

/-- No days, no part. -/
theorem psum_zero {a b : Int} {f : Nat} {g : Nat → Int} (h : b ≤ a) : ∀ k, psum a b f g k = 0
  | 0 => rfl
  | k + 1 => by
    show psum a b f g k + term a b f g k = 0
    rw [psum_zero h k]
    have : ∀ lo hi, ov a b lo hi = 0 := fun lo hi => by
      unfold ov
      repeat' split
      all_goals omega
    unfold term
    rw [this, Rat.zero_mkRat]
    split <;> exact Rat.add_zero 0

theorem psum_pos {n : Nat} {g : Nat → Int} {f : Nat} (hf : 1 ≤ f) (hf2 : f ≤ 12) (hs : ∀ i, i < n - 1 → g i ≤ g (i + 1)) (hd : ∀ i, i < n → 1 ≤ g i ∧ g i ≤ 3652059) {a b : Int} (hab : a ≤ b) :
    ∀ k, k ≤ n - 1 → psum a b f g k = 0 → ov a b (g 0) (g k) = 0 := by
  obtain ⟨M, h1, h2, h3⟩ := one_den hf hf2 hs hd a b
  intro k hk
  induction k with
  | zero => intro _; unfold ov; repeat' split
            all_goals omega
  | succ k ih =>
    intro h0
    obtain ⟨C, h4, h5⟩ := psum_den h1 h3 k (by omega)
    obtain ⟨c, h6, h7⟩ := h3 k (by omega)
    have e : psum a b f g (k + 1) = mkRat ((C + c : Nat) : Int) M := by
      show psum a b f g k + term a b f g k = _
      rw [h5, h7, mkRat_add_same C c h1]
    rw [e, Rat.mkRat_eq_zero h1] at h0
    have i1 := ih (by omega) (by rw [h5, Rat.mkRat_eq_zero h1]; omega)
    have hm := hs k (by omega)
    have hm0 := mono_le hs (i := 0) (j := k) (by omega) (by omega)
    have i2 : ov a b (g k) (g (k + 1)) = 0 := by
      have ht : term a b f g k = 0 := by rw [h7, Rat.mkRat_eq_zero h1]; omega
      unfold term at ht
      by_cases h : g k < g (k + 1)
      · rw [if_pos h, Rat.mkRat_eq_zero (Nat.mul_ne_zero (by omega) (by omega))] at ht
        exact ht
      · have : g k = g (k + 1) := by omega
        unfold ov
        repeat' split
        all_goals omega
    rw [← ov_mid hab hm0 hm, i1, i2]
    rfl

theorem psum_nil {n : Nat} {g : Nat → Int} {f : Nat} (hf : 1 ≤ f) (hf2 : f ≤ 12) (hs : ∀ i, i < n - 1 → g i ≤ g (i + 1)) (hd : ∀ i, i < n → 1 ≤ g i ∧ g i ≤ 3652059) {a b : Int} (hab : a ≤ b) (ha : g 0 ≤ a) (hb : b ≤ g (n - 1)) :
    (psum a b f g (n - 1)).num = 0 ↔ a = b := by
  rw [Rat.num_eq_zero]
  constructor
  · intro h
    have := psum_pos hf hf2 hs hd hab (n - 1) (Nat.le_refl _) h
    unfold ov at this
    repeat' split at this
    all_goals omega
  · intro h
    exact psum_zero (by omega) _

theorem isDay_iffP {x : Int} : isDay x = true ↔ 1 ≤ x ∧ x ≤ 3652059 := by unfold isDay; rw [decide_eq_true_eq]

/-- Parts of days that the periods hold. -/
theorem partR_in {a b f : Int} {n : Nat} {g : Nat → Int} (hm : mayB n g f = true) (h1 : g 0 ≤ a) (h2 : a ≤ b) (h3 : b ≤ g (n - 1)) : RT (partR a b n g f) = RQ (psum a b f.toNat g (n - 1)) := by
  obtain ⟨m1, m2, m3, m4, m5, m6, m7⟩ := may_facts hm
  have d1 := m5 0 (by omega)
  have d2 := m5 (n - 1) (by omega)
  have da : isDay a = true := isDay_iffP.2 (by omega)
  have db : isDay b = true := isDay_iffP.2 (by omega)
  unfold partR
  rw [if_neg (by rw [da, db]; simp), if_neg (by omega), if_neg (by rw [hm]; simp; omega)]

theorem num_toNat {q : Rat} (h : 0 ≤ q.num) : ((q.num.toNat : Nat) : Int) = q.num := Int.toNat_of_nonneg h

theorem ref_AddR {x y : Rat} (hx : 0 ≤ x.num) (hy : 0 ≤ y.num) (h1 : x.num < 9223372036854775808) (h2 : x.den < 9223372036854775808) (h3 : y.num < 9223372036854775808) (h4 : y.den < 9223372036854775808)
    (h5 : (x + y).num ≤ 4611686018427387904) (h6 : (x + y).den ≤ 4611686018427387904) : SCall Tryz.prog GL 28 [QV x, QV y] [] (RQ (x + y)) [] := by
  have := @ref_Add _ x.num.toNat x.den y.num.toNat y.den (by omega) (by omega) (by omega) (by omega) x.den_nz y.den_nz
  have e : mkRat ((x.num.toNat * y.den + y.num.toNat * x.den : Nat) : Int) (x.den * y.den) = x + y := by
    rw [Int.natCast_add, Int.natCast_mul, Int.natCast_mul, num_toNat hx, num_toNat hy]
    exact (Rat.add_def' x y).symm
  rw [mkR_q (Nat.mul_ne_zero x.den_nz y.den_nz) (by rw [e]; exact h5) (by rw [e]; exact h6), e, num_toNat hx, num_toNat hy] at this
  exact this

end Go.Proofs.YtehnnaanpmceiaaGreatDoor
