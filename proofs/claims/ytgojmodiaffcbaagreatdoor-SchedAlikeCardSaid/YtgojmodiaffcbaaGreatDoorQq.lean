/-
  Fractions as rational numbers: what New and Add hand back, of both.
-/
import Derived.Test.YtgojmodiaffcbaaGreatDoorRat
import Derived.Test.YtgojmodiaffcbaaGreatDoorRef2
set_option linter.unusedVariables false
set_option linter.unusedSimpArgs false
set_option linter.unusedSectionVars false
namespace Go.Proofs.YtgojmodiaffcbaaGreatDoor
open Go Go.Sx
variable [Env]
abbrev QV (q : Rat) : SV := .agg [I q.num, I (q.den : Int)]
abbrev RQ (q : Rat) : SV := RT (q.num, (q.den : Int), 0)
theorem num_nat (n : Nat) {d : Nat} (hd : d ≠ 0) : (mkRat (n : Int) d).num = ((n / Nat.gcd n d : Nat) : Int) := by
  rw [Rat.num_mkRat, if_neg hd, Int.natAbs_natCast, Nat.gcd_comm]; simp
theorem den_nat (n : Nat) {d : Nat} (hd : d ≠ 0) : (mkRat (n : Int) d).den = d / Nat.gcd n d := by
  rw [Rat.den_mkRat, if_neg hd, Int.natAbs_natCast, Nat.gcd_comm]
theorem mkR_q {n d : Nat} (hd : d ≠ 0) (h1 : (mkRat (n : Int) d).num ≤ 4611686018427387904) (h2 : (mkRat (n : Int) d).den ≤ 4611686018427387904) : mkR n d = ((mkRat (n : Int) d).num, ((mkRat (n : Int) d).den : Int), 0) := by
  rw [num_nat n hd] at h1
  rw [den_nat n hd] at h2
  rw [num_nat n hd, den_nat n hd]
  unfold mkR
  rw [if_neg (by omega)]
theorem num_le (n : Nat) {d : Nat} (hd : d ≠ 0) : (mkRat (n : Int) d).num ≤ n := by
  rw [num_nat n hd]; have := Nat.div_le_self n (Nat.gcd n d); omega
theorem den_le (n : Nat) {d : Nat} (hd : d ≠ 0) : (mkRat (n : Int) d).den ≤ d := by
  rw [den_nat n hd]; exact Nat.div_le_self d (Nat.gcd n d)
theorem mkR_q' {n d : Nat} (hd : d ≠ 0) (h1 : n ≤ 4611686018427387904) (h2 : d ≤ 4611686018427387904) : mkR n d = ((mkRat (n : Int) d).num, ((mkRat (n : Int) d).den : Int), 0) :=
  mkR_q hd (by have := num_le n hd; omega) (Nat.le_trans (den_le n hd) h2)
theorem r_NewQ {n d : Nat} (hd : d ≠ 0) (h1 : n ≤ 4611686018427387904) (h2 : d ≤ 4611686018427387904) : SCall Tryz.prog GL 148 [I (n : Int), I (d : Int)] [] (RQ (mkRat (n : Int) d)) [] := by
  have := @r_New _ n d (by omega) (by omega) hd
  rwa [mkR_q' hd h1 h2] at this
theorem mkRat_add_same (C c : Nat) {M : Nat} (hM : M ≠ 0) : mkRat (C : Int) M + mkRat (c : Int) M = mkRat ((C + c : Nat) : Int) M := by
  rw [Rat.mkRat_add_mkRat _ _ hM hM, ← Int.add_mul, Rat.mkRat_mul_right hM]
  congr 1
/-- The parts of a sum of two fractions of one denominator. -/
theorem add_parts {C c M : Nat} (hM : M ≠ 0) (hCM : C + c ≤ 4611686018427387904) (hM2 : M ≤ 4611686018427387904) :
    ∃ a p b q : Nat, mkRat (C : Int) M = mkRat (a : Int) p ∧ (mkRat (C : Int) M).num = (a : Int) ∧ (mkRat (C : Int) M).den = p ∧ (mkRat (c : Int) M).num = (b : Int) ∧ (mkRat (c : Int) M).den = q ∧ p ≠ 0 ∧ q ≠ 0 ∧ Nat.Coprime a p ∧ Nat.Coprime b q ∧
      a ≤ C ∧ b ≤ c ∧ p ≤ M ∧ q ≤ M ∧ a * (q / Nat.gcd p q) + b * (p / Nat.gcd p q) ≤ C + c ∧ mkR (a * q + b * p) (p * q) = ((mkRat ((C + c : Nat) : Int) M).num, ((mkRat ((C + c : Nat) : Int) M).den : Int), 0) := by
  have hg1 : 0 < Nat.gcd C M := Nat.pos_of_ne_zero fun h => hM (Nat.eq_zero_of_gcd_eq_zero_right h)
  have hg2 : 0 < Nat.gcd c M := Nat.pos_of_ne_zero fun h => hM (Nat.eq_zero_of_gcd_eq_zero_right h)
  have hC := Nat.div_mul_cancel (Nat.gcd_dvd_left C M)
  have hp := Nat.div_mul_cancel (Nat.gcd_dvd_right C M)
  have hc := Nat.div_mul_cancel (Nat.gcd_dvd_left c M)
  have hq := Nat.div_mul_cancel (Nat.gcd_dvd_right c M)
  have hcop1 := Nat.coprime_div_gcd_div_gcd hg1
  have hcop2 := Nat.coprime_div_gcd_div_gcd hg2
  have e1 := num_nat C hM
  have e2 := den_nat C hM
  have e3 := num_nat c hM
  have e4 := den_nat c hM
  generalize C / Nat.gcd C M = a at *
  generalize M / Nat.gcd C M = p at *
  generalize c / Nat.gcd c M = b at *
  generalize M / Nat.gcd c M = q at *
  generalize Nat.gcd C M = g1 at *
  generalize Nat.gcd c M = g2 at *
  have hp0 : p ≠ 0 := fun h => hM (by rw [← hp, h, Nat.zero_mul])
  have hq0 : q ≠ 0 := fun h => hM (by rw [← hq, h, Nat.zero_mul])
  have hS : mkRat (C : Int) M = mkRat (a : Int) p := by
    conv => lhs; rw [← Rat.mkRat_self (mkRat (C : Int) M)]
    rw [e1, e2]
  have hx : mkRat (c : Int) M = mkRat (b : Int) q := by
    conv => lhs; rw [← Rat.mkRat_self (mkRat (c : Int) M)]
    rw [e3, e4]
  have hsum : mkRat ((a * q + b * p : Nat) : Int) (p * q) = mkRat ((C + c : Nat) : Int) M := by
    rw [← mkRat_add_same C c hM, hS, hx, Rat.mkRat_add_mkRat _ _ hp0 hq0]
    congr 1
  -- the least common denominator divides M
  have hgp : 0 < Nat.gcd p q := Nat.pos_of_ne_zero fun h => hp0 (Nat.eq_zero_of_gcd_eq_zero_left h)
  have hl : Nat.lcm p q ∣ M := Nat.lcm_dvd ⟨g1, hp.symm⟩ ⟨g2, hq.symm⟩
  obtain ⟨t, ht⟩ := hl
  have ht0 : 0 < t := Nat.pos_of_ne_zero fun h => hM (by rw [ht, h, Nat.mul_zero])
  have hl1 : Nat.lcm p q = p * (q / Nat.gcd p q) := Nat.mul_div_assoc _ (Nat.gcd_dvd_right p q)
  have hl2 : Nat.lcm p q = q * (p / Nat.gcd p q) := by rw [Nat.lcm_comm, Nat.gcd_comm]; exact Nat.mul_div_assoc _ (Nat.gcd_dvd_right q p)
  have hg1e : g1 = q / Nat.gcd p q * t := by
    have : p * g1 = p * (q / Nat.gcd p q * t) := by rw [← Nat.mul_assoc, ← hl1, ← ht]; exact hp
    exact Nat.eq_of_mul_eq_mul_left (Nat.pos_of_ne_zero hp0) this
  have hg2e : g2 = p / Nat.gcd p q * t := by
    have : q * g2 = q * (p / Nat.gcd p q * t) := by rw [← Nat.mul_assoc, ← hl2, ← ht]; exact hq
    exact Nat.eq_of_mul_eq_mul_left (Nat.pos_of_ne_zero hq0) this
  have hle1 : a * (q / Nat.gcd p q) ≤ C := by
    rw [← hC, hg1e]
    exact Nat.mul_le_mul_left _ (Nat.le_mul_of_pos_right _ ht0)
  have hle2 : b * (p / Nat.gcd p q) ≤ c := by
    rw [← hc, hg2e]
    exact Nat.mul_le_mul_left _ (Nat.le_mul_of_pos_right _ ht0)
  have n1 := num_le (C + c) hM
  have d1 := den_le (C + c) hM
  refine ⟨a, p, b, q, hS, e1, e2, e3, e4, hp0, hq0, hcop1, hcop2, ?_, ?_, ?_, ?_, by omega, ?_⟩
  · rw [← hC]; exact Nat.le_mul_of_pos_right _ hg1
  · rw [← hc]; exact Nat.le_mul_of_pos_right _ hg2
  · rw [← hp]; exact Nat.le_mul_of_pos_right _ hg1
  · rw [← hq]; exact Nat.le_mul_of_pos_right _ hg2
  · rw [mkR_q (Nat.mul_ne_zero hp0 hq0) (by rw [hsum]; omega) (by rw [hsum]; omega), hsum]
theorem r_AddQ {C c M : Nat} (hM : M ≠ 0) (hCM : C + c ≤ 4611686018427387904) (hM2 : M ≤ 4611686018427387904) :
    SCall Tryz.prog GL 152 [QV (mkRat (C : Int) M), QV (mkRat (c : Int) M)] [] (RQ (mkRat ((C + c : Nat) : Int) M)) [] := by
  obtain ⟨a, p, b, q, -, e1, e2, e3, e4, hp, hq, h1, h2, h3, h4, h5, h6, h7, h8⟩ := add_parts hM hCM hM2
  have := @r_Add _ a p b q hp hq h1 h2 (by omega) (by omega) (by omega) (by omega) (by omega)
  rw [h8] at this
  unfold QV
  rw [e1, e2, e3, e4]
  exact this
theorem ref_AddQ {C c M : Nat} (hM : M ≠ 0) (hCM : C + c ≤ 4611686018427387904) (hM2 : M ≤ 4611686018427387904) :
    SCall Tryz.prog GL 18 [QV (mkRat (C : Int) M), QV (mkRat (c : Int) M)] [] (RQ (mkRat ((C + c : Nat) : Int) M)) [] := by
  obtain ⟨a, p, b, q, -, e1, e2, e3, e4, hp, hq, h1, h2, h3, h4, h5, h6, h7, h8⟩ := add_parts hM hCM hM2
  have := @ref_Add _ a p b q (by omega) (by omega) (by omega) (by omega) hp hq
  rw [h8] at this
  unfold QV
  rw [e1, e2, e3, e4]
  exact this
end Go.Proofs.YtgojmodiaffcbaaGreatDoor
