/-
  What is rounded to the next whole number, a half to the even one: in plain Lean, no program in sight.
-/
import Derived.Test.YtehnnaanpmceiaaGreatDoorAcc
set_option linter.unusedVariables false
set_option linter.unusedSimpArgs false
namespace Go.Proofs.YtehnnaanpmceiaaGreatDoor
open Go Go.Sx

theorem near_spec {x d : Nat} (hd : 0 < d) : 2 * x ≤ 2 * (near x d * d) + d ∧ 2 * (near x d * d) ≤ 2 * x + d ∧ (2 * x = 2 * (near x d * d) + d → near x d % 2 = 0) ∧ (2 * (near x d * d) = 2 * x + d → near x d % 2 = 0) := by
  have hx := Nat.div_add_mod' x d
  have hr := Nat.mod_lt x hd
  unfold near
  obtain ⟨q, hq⟩ : ∃ q, x / d = q := ⟨_, rfl⟩
  obtain ⟨r, hr'⟩ : ∃ r, x % d = r := ⟨_, rfl⟩
  rw [hq, hr'] at hx
  rw [hr'] at hr
  rw [hq, hr']
  split
  · rename_i c
    rw [Nat.add_mul, Nat.one_mul]
    obtain ⟨p, hp⟩ : ∃ p, q * d = p := ⟨_, rfl⟩
    rw [hp] at hx ⊢
    refine ⟨by omega, by omega, fun h => by omega, fun h => by omega⟩
  · rename_i c
    obtain ⟨p, hp⟩ : ∃ p, q * d = p := ⟨_, rfl⟩
    rw [hp] at hx ⊢
    refine ⟨by omega, by omega, fun h => by omega, fun h => by omega⟩

theorem near_le (x d : Nat) : near x d ≤ x / d + 1 := by unfold near; split <;> omega

theorem near_exact {k d : Nat} (hd : 0 < d) : near (k * d) d = k := by
  unfold near
  rw [Nat.mul_mod_left, Nat.mul_div_cancel _ hd, if_neg (by omega)]

theorem near_zero (d : Nat) : near 0 d = 0 := by
  unfold near
  rw [Nat.zero_mod, Nat.zero_div, if_neg (by omega)]

/-- A greater fraction is not rounded to less. -/
theorem near_mono {x d y e : Nat} (hd : 0 < d) (he : 0 < e) (h : x * e ≤ y * d) : near x d ≤ near y e := by
  refine Nat.le_of_not_lt (fun c => ?_)
  obtain ⟨-, s2, -, s4⟩ := near_spec (x := x) hd
  obtain ⟨t1, -, t3, -⟩ := near_spec (x := y) he
  obtain ⟨q, hq⟩ : ∃ q, near x d = q := ⟨_, rfl⟩
  obtain ⟨p, hp⟩ : ∃ p, near y e = p := ⟨_, rfl⟩
  rw [hq] at c s2 s4
  rw [hp] at c t1 t3
  have hD : 0 < d * e := Nat.mul_pos hd he
  have h1 : (2 * (q * d)) * e ≤ (2 * x + d) * e := Nat.mul_le_mul_right e s2
  have h2 : (2 * y) * d ≤ (2 * (p * e) + e) * d := Nat.mul_le_mul_right d t1
  have h3 : (p + 1) * (d * e) ≤ q * (d * e) := Nat.mul_le_mul_right _ c
  have e1 : (2 * (q * d)) * e = 2 * (q * (d * e)) := by rw [Nat.mul_assoc, Nat.mul_assoc]
  have e2 : (2 * x + d) * e = 2 * (x * e) + d * e := by rw [Nat.add_mul, Nat.mul_assoc]
  have e3 : (2 * y) * d = 2 * (y * d) := Nat.mul_assoc _ _ _
  have e4 : (2 * (p * e) + e) * d = 2 * (p * (d * e)) + d * e := by rw [Nat.add_mul, Nat.mul_assoc, Nat.mul_assoc, Nat.mul_comm e d]
  have e5 : (p + 1) * (d * e) = p * (d * e) + d * e := by rw [Nat.add_mul, Nat.one_mul]
  rw [e1, e2] at h1
  rw [e3, e4] at h2
  rw [e5] at h3
  have f1 : q * (d * e) = (p + 1) * (d * e) := by rw [e5]; omega
  have f2 : (2 * (q * d)) * e = (2 * x + d) * e := by rw [e1, e2]; omega
  have f3 : (2 * y) * d = (2 * (p * e) + e) * d := by rw [e3, e4]; omega
  have g1 := Nat.eq_of_mul_eq_mul_right hD f1
  have g2 := s4 (Nat.eq_of_mul_eq_mul_right he f2)
  have g3 := t3 (Nat.eq_of_mul_eq_mul_right hd f3)
  omega

/-- Two fractions, rounded, are one off from their sum, rounded, at most. -/
theorem near_sum {x d y e z f : Nat} (hd : 0 < d) (he : 0 < e) (hf : 0 < f) (h : z * (d * e) = (x * e + y * d) * f) : near z f ≤ near x d + near y e + 1 ∧ near x d + near y e ≤ near z f + 1 := by
  obtain ⟨s1, s2, -, -⟩ := near_spec (x := x) hd
  obtain ⟨t1, t2, -, -⟩ := near_spec (x := y) he
  obtain ⟨u1, u2, -, -⟩ := near_spec (x := z) hf
  obtain ⟨a, ha⟩ : ∃ a, near x d = a := ⟨_, rfl⟩
  obtain ⟨b, hb⟩ : ∃ b, near y e = b := ⟨_, rfl⟩
  obtain ⟨c, hc⟩ : ∃ c, near z f = c := ⟨_, rfl⟩
  rw [ha] at s1 s2 ⊢
  rw [hb] at t1 t2 ⊢
  rw [hc] at u1 u2 ⊢
  have hD : 0 < d * e * f := Nat.mul_pos (Nat.mul_pos hd he) hf
  have m1 : ∀ k j : Nat, (2 * (k * d)) * (e * f) = 2 * (k * (d * e * f)) := fun k _ => by rw [Nat.mul_assoc, Nat.mul_assoc, Nat.mul_assoc]
  have a1 : (2 * x) * (e * f) ≤ (2 * (a * d) + d) * (e * f) := Nat.mul_le_mul_right _ s1
  have a2 : (2 * (a * d)) * (e * f) ≤ (2 * x + d) * (e * f) := Nat.mul_le_mul_right _ s2
  have b1 : (2 * y) * (d * f) ≤ (2 * (b * e) + e) * (d * f) := Nat.mul_le_mul_right _ t1
  have b2 : (2 * (b * e)) * (d * f) ≤ (2 * y + e) * (d * f) := Nat.mul_le_mul_right _ t2
  have c1 : (2 * z) * (d * e) ≤ (2 * (c * f) + f) * (d * e) := Nat.mul_le_mul_right _ u1
  have c2 : (2 * (c * f)) * (d * e) ≤ (2 * z + f) * (d * e) := Nat.mul_le_mul_right _ u2
  have x1 : ∀ k, k * d * (e * f) = k * (d * e * f) := fun k => by rw [Nat.mul_assoc, Nat.mul_assoc d e f]
  have x2 : ∀ k, k * e * (d * f) = k * (d * e * f) := fun k => by rw [Nat.mul_assoc, Nat.mul_left_comm e d f, Nat.mul_assoc d e f]
  have x3 : ∀ k, k * f * (d * e) = k * (d * e * f) := fun k => by rw [Nat.mul_assoc, Nat.mul_comm f]
  have y1 : d * (e * f) = d * e * f := (Nat.mul_assoc _ _ _).symm
  have y2 : e * (d * f) = d * e * f := by rw [Nat.mul_left_comm, Nat.mul_assoc]
  have y3 : f * (d * e) = d * e * f := Nat.mul_comm _ _
  rw [Nat.add_mul, Nat.mul_assoc 2, Nat.mul_assoc 2, x1, y1] at a1 a2
  rw [Nat.add_mul, Nat.mul_assoc 2, Nat.mul_assoc 2, x2, y2] at b1 b2
  rw [Nat.add_mul, Nat.mul_assoc 2, Nat.mul_assoc 2, x3, y3] at c1 c2
  have hz : z * (d * e) = x * (e * f) + y * (d * f) := by rw [h, Nat.add_mul, Nat.mul_assoc, Nat.mul_assoc]
  rw [hz] at c1 c2
  obtain ⟨D, hDe⟩ : ∃ D, d * e * f = D := ⟨_, rfl⟩
  rw [hDe] at hD a1 a2 b1 b2 c1 c2
  constructor
  · have : 2 * (c * D) ≤ (2 * (a + b) + 3) * D := by rw [Nat.add_mul, Nat.mul_assoc, Nat.add_mul]; omega
    rw [← Nat.mul_assoc] at this
    have := Nat.le_of_mul_le_mul_right this hD
    omega
  · have : (2 * (a + b)) * D ≤ (2 * c + 3) * D := by rw [Nat.add_mul (2 * c), Nat.mul_assoc, Nat.mul_assoc, Nat.add_mul]; omega
    have := Nat.le_of_mul_le_mul_right this hD
    omega

/-- Interest within bounds. -/
theorem ofV_ok {o r n d : Nat} (hor : o * r ≤ 10000000000000000000) (hn : n ≤ 10000000000000) (hd0 : 1 ≤ d) (hd : d ≤ 10000000000000) (hnd : n ≤ 100 * d) (hR : rightB n d = true) : ofV o r n d = (((near (o * r * n) (10000 * d) : Nat) : Int), 0) := by
  unfold ofV rnd
  rw [if_pos hR, if_neg (by omega)]
  simp only [Int.toNat_natCast]
  rw [show (10000 : Int).toNat = 10000 from rfl]
  have h1 : o * r * n ≤ 10000000000000000000 * 10000000000000 := Nat.mul_le_mul hor hn
  have h2 : o * r * n ≤ 100000000000000000 * (10000 * d) := by
    have : o * r * n ≤ 10000000000000000000 * (100 * d) := Nat.mul_le_mul hor hnd
    omega
  have h3 : o * r * n / (10000 * d) ≤ 100000000000000000 := by
    refine Nat.le_of_lt_succ ((Nat.div_lt_iff_lt_mul (by omega)).2 ?_)
    rw [Nat.succ_mul]; omega
  have h4 := near_le (o * r * n) (10000 * d)
  rw [if_neg (by omega)]
  unfold tl
  rw [if_neg (by omega)]
end Go.Proofs.YtehnnaanpmceiaaGreatDoor
