import Derived.Test.YtehnnaanpmceiaaGreatDoorD64
import Derived.Test.YtehnnaanpmceiaaGreatDoorRef2
import Derived.Test.YtehnnaanpmceiaaGreatDoorProg
import Derived.KernelRfl
import Derived.Laws.Externs
set_option linter.unusedVariables false
set_option linter.unusedSimpArgs false
set_option linter.unusedSectionVars false
set_option maxRecDepth 100000
namespace Go.Proofs.YtehnnaanpmceiaaGreatDoor
open Go Go.Sx
variable [Env]

/-- To the next whole number, a half to the even one. -/
def near (n d : Nat) : Nat := if 2 * (n % d) > d ∨ 2 * (n % d) = d ∧ n / d % 2 = 1 then n / d + 1 else n / d
/-- As an int, if it isn't too great. -/
def tl (v : Nat) : Int × Int := if v > 4611686018427387904 then (0, 6) else ((v : Int), 0)
abbrev IT (r : Int × Int) : SV := .tup [I r.1, I r.2]
/-- A product, divided and rounded. -/
def rnd (a b n d per : Int) : Int × Int :=
  if a < 0 ∨ b < 0 ∨ per < 1 then (0, 1)
  else if 340282366920938463463374607431768211456 ≤ a.toNat * b.toNat * n.toNat ∨ 18446744073709551616 ≤ per.toNat * d.toNat then (0, 6)
  else tl (near (a.toNat * b.toNat * n.toNat) (per.toNat * d.toNat))

theorem cmpI_gt {a b : Nat} : cmpI (a : Int) (b : Int) > 0 ↔ b < a := by unfold cmpI; split <;> (try split) <;> omega
theorem cmpI_ge {a b : Nat} : cmpI (a : Int) (b : Int) ≥ 0 ↔ b ≤ a := by unfold cmpI; split <;> (try split) <;> omega
theorem cmpI_z {a b : Nat} : cmpI (a : Int) (b : Int) = 0 ↔ a = b := by unfold cmpI; split <;> (try split) <;> omega

theorem hl_div {q w : Nat} (h : w < 18446744073709551616) : (q * 18446744073709551616 + w) / 18446744073709551616 = q := by omega
theorem hl_mod {q w : Nat} (h : w < 18446744073709551616) : (q * 18446744073709551616 + w) % 18446744073709551616 = w := by omega

/-- Of two halves: a number of any size that they hold. -/
theorem Div_wideG {x d : Nat} (hd : d ≠ 0) (hd2 : d < 18446744073709551616) (hx : x < 340282366920938463463374607431768211456) : S 139 [wideV x, N .u64 (d : Int)] [] (.tup [wideV (x / d), N .u64 ((x % d : Nat) : Int), I 0]) [] := by
  have hp : 0 < d := Nat.pos_of_ne_zero hd
  have h1 := div64 (h := 0) (l := x / 18446744073709551616) (d := d) hp hd2 (by omega)
  have m1 := Nat.mod_lt (x / 18446744073709551616) hp
  have h2 := div64 (h := x / 18446744073709551616 % d) (l := x % 18446744073709551616) (d := d) m1 hd2 (by omega)
  rw [Nat.zero_mul, Nat.zero_add] at h1
  have := wide_Div_1 (by omega) h1 h2
  have e0 := Nat.div_add_mod (x / 18446744073709551616) d
  obtain ⟨q, hq⟩ : ∃ q, x / 18446744073709551616 / d = q := ⟨_, rfl⟩
  obtain ⟨r, hr⟩ : ∃ r, x / 18446744073709551616 % d = r := ⟨_, rfl⟩
  rw [hq, hr] at e0 this
  rw [hr] at m1
  have ex : x = d * (q * 18446744073709551616) + (r * 18446744073709551616 + x % 18446744073709551616) := by
    rw [← Nat.mul_assoc]
    omega
  have l1 : (r * 18446744073709551616 + x % 18446744073709551616) / d < 18446744073709551616 := (Nat.div_lt_iff_lt_mul hp).2 (by
    have : (r + 1) * 18446744073709551616 ≤ d * 18446744073709551616 := Nat.mul_le_mul_right _ m1
    omega)
  have e1 : x / d = q * 18446744073709551616 + (r * 18446744073709551616 + x % 18446744073709551616) / d := by
    conv => lhs; rw [ex]
    rw [Nat.mul_add_div hp]
  have e2 : x % d = (r * 18446744073709551616 + x % 18446744073709551616) % d := by
    conv => lhs; rw [ex]
    rw [Nat.mul_add_mod]
  rw [← e2] at this
  obtain ⟨w, hw⟩ : ∃ w, (r * 18446744073709551616 + x % 18446744073709551616) / d = w := ⟨_, rfl⟩
  rw [hw] at e1 l1 this
  rw [e1]
  unfold wideV
  rw [hl_div l1, hl_mod l1]
  exact this

theorem Add_over {x y : Nat} (h : 340282366920938463463374607431768211456 ≤ x + y) (hx : x < 340282366920938463463374607431768211456) (hy : y < 340282366920938463463374607431768211456) :
    S 137 [wideV x, wideV y] [] (.tup [.agg [N .u64 0, N .u64 0], I 6]) [] := by
  have h0 := @Add64 _ (x % 18446744073709551616) (y % 18446744073709551616) 0 (by decide)
  have h1 := @Add64 _ (x / 18446744073709551616) (y / 18446744073709551616) ((x % 18446744073709551616 + y % 18446744073709551616 + 0) / 18446744073709551616) (by omega)
  exact wide_Add_0 h0 h1 (by omega)



theorem wide_Times_w {a1 a2 a3 : Int} {res : SV} (H : ∃ r4 r5 : Int, S 103 [N .u64 a2, N .u64 a3] [] (.agg [N .u64 r4, N .u64 r5]) [] ∧ ∃ r6 r7 : Int, S 103 [N .u64 a1, N .u64 a3] [] (.agg [N .u64 r6, N .u64 r7]) [] ∧ (r6 ≠ 0 → (SV.tup [.agg [N .u64 0, N .u64 0], I 6]) = res) ∧ (r6 = 0 → ∃ r8 r9 r10 : Int, S 137 [.agg [N .u64 r4, N .u64 r5], .agg [N .u64 r7, N .u64 0]] [] (.tup [.agg [N .u64 r8, N .u64 r9], I r10]) [] ∧ (SV.tup [.agg [N .u64 r8, N .u64 r9], I r10]) = res)) :
    S 102 [.agg [N .u64 a1, N .u64 a2], N .u64 a3] [] res [] := by
  refine SCall.st fun X hX => ?_
  obtain ⟨r4, r5, h0, r6, r7, h1, H1, H2⟩ := H
  refine hX.go [d_ 10, c_ [] h0, c_ [] h1] ?_
  by_cases h2 : r6 = 0
  · obtain ⟨r8, r9, r10, h3, rfl⟩ := H2 h2
    exact hX.e [f_ (bne_eq_false_iff_eq.2 h2), c_ [] h3]
  · obtain rfl := H1 h2
    exact hX.e [t_ (bne_iff_ne.2 h2)]

theorem Times_wide {x n : Nat} (hx : x < 340282366920938463463374607431768211456) (hn : n < 18446744073709551616) :
    S 102 [wideV x, N .u64 (n : Int)] [] (if x * n < 340282366920938463463374607431768211456 then .tup [wideV (x * n), I 0] else .tup [.agg [N .u64 0, N .u64 0], I 6]) [] := by
  have e : x * n = x / 18446744073709551616 * n * 18446744073709551616 + x % 18446744073709551616 * n := by
    have hB : x = x / 18446744073709551616 * 18446744073709551616 + x % 18446744073709551616 := by omega
    conv => lhs; rw [hB, Nat.add_mul, Nat.mul_right_comm]
  have hlow : x % 18446744073709551616 * n ≤ 18446744073709551615 * 18446744073709551615 := Nat.mul_le_mul (by omega) (by omega)
  refine wide_Times_w ⟨_, _, Mul_wide (by omega) hn, _, _, Mul_wide (a := x / 18446744073709551616) (by omega) hn, fun c => ?_, fun c => ?_⟩
  · rw [if_neg (by omega)]
  · obtain ⟨p, hp⟩ : ∃ p, x / 18446744073709551616 * n = p := ⟨_, rfl⟩
    obtain ⟨w, hw⟩ : ∃ w, x % 18446744073709551616 * n = w := ⟨_, rfl⟩
    rw [hp] at c ⊢
    rw [hw] at hlow ⊢
    rw [hp, hw] at e
    have e1 : p * 18446744073709551616 / 18446744073709551616 = p % 18446744073709551616 := by omega
    have e2 : p * 18446744073709551616 % 18446744073709551616 = 0 := by omega
    by_cases h : x * n < 340282366920938463463374607431768211456
    · rw [if_pos h]
      have := Add_wide (x := w) (y := p * 18446744073709551616) (by omega)
      rw [show w + p * 18446744073709551616 = x * n by omega] at this
      unfold wideV at this ⊢
      rw [e1, e2] at this
      exact ⟨_, _, _, this, rfl⟩
    · rw [if_neg h]
      have := Add_over (x := w) (y := p * 18446744073709551616) (by omega) (by omega) (by omega)
      unfold wideV at this
      rw [e1, e2] at this
      exact ⟨_, _, _, this, rfl⟩



theorem round_told_w {a1 a2 : Int} {res : SV} (H : ∃ r3 r4 : Int, S 142 [N .u64 4611686018427387904] [] (.agg [N .u64 r3, N .u64 r4]) [] ∧ ∃ r5 : Int, S 164 [.agg [N .u64 a1, N .u64 a2], .agg [N .u64 r3, N .u64 r4]] [] (I r5) [] ∧ (r5 > 0 → (SV.tup [I 0, I 6]) = res) ∧ (¬ r5 > 0 → Ir a2 ∧ (SV.tup [I a2, I 0]) = res)) :
    S 140 [.agg [N .u64 a1, N .u64 a2]] [] res [] := by
  refine SCall.st fun X hX => ?_
  obtain ⟨r3, r4, h0, r5, h1, H1, H2⟩ := H
  refine hX.go [d_ 2, c_ [] h0, c_ [] h1] ?_
  by_cases h2 : r5 > 0
  · obtain rfl := H1 h2
    exact hX.e [t_ (dt h2)]
  · obtain ⟨h3, rfl⟩ := H2 h2
    exact hX.e [f_ (df h2), q_ h3]

theorem told_wide (v : Nat) : S 140 [wideV v] [] (IT (tl v)) [] := by
  refine round_told_w ⟨_, _, Of_wide (x := 4611686018427387904) (by decide), _, Cmp_wide v 4611686018427387904, fun c => ?_, fun c => ?_⟩
  · unfold tl; rw [if_pos (cmpI_gt.1 c)]
  · have h : ¬ v > 4611686018427387904 := fun h => c (cmpI_gt.2 h)
    unfold tl; rw [if_neg h, show v % 18446744073709551616 = v by omega]
    exact ⟨by simp only [Ir, InR]; omega, rfl⟩



theorem round_up_w {a1 a2 : Int} {a3 : Bool} {res : SV} (H : U64 (a2 - a1) ∧ (a1 = (a2 - a1) → (a3 = true → B true = res) ∧ (a3 = false → (a1 > (a2 - a1) → B true = res) ∧ (¬ a1 > (a2 - a1) → B false = res))) ∧ (a1 ≠ (a2 - a1) → (a1 > (a2 - a1) → B true = res) ∧ (¬ a1 > (a2 - a1) → B false = res))) :
    S 141 [N .u64 a1, N .u64 a2, B a3] [] res [] := by
  refine SCall.st fun X hX => ?_
  obtain ⟨h0, H1, H2⟩ := H
  refine hX.go [q_ h0] ?_
  by_cases h1 : a1 = (a2 - a1)
  · obtain ⟨H1, H2⟩ := H1 h1
    refine hX.go [t_ (beq_iff_eq.2 h1), t_ (beq_iff_eq.2 h1)] ?_
    rcases bcase a3 with h2 | h2
    · obtain rfl := H1 h2
      exact hX.e [t_ h2]
    · obtain ⟨H1, H2⟩ := H2 h2
      refine hX.go [f_ h2] ?_
      by_cases h3 : a1 > (a2 - a1)
      · obtain rfl := H1 h3
        exact hX.e [t_ (dt h3)]
      · obtain rfl := H2 h3
        exact hX.e [f_ (df h3)]
  · obtain ⟨H1, H2⟩ := H2 h1
    refine hX.go [f_ (beq_eq_false_iff_ne.2 h1), f_ (beq_eq_false_iff_ne.2 h1), f_ rf] ?_
    by_cases h2 : a1 > (a2 - a1)
    · obtain rfl := H1 h2
      exact hX.e [t_ (dt h2)]
    · obtain rfl := H2 h2
      exact hX.e [f_ (df h2)]

theorem up_ok {l d : Nat} {o : Bool} (h : l ≤ d) (hd : d < 18446744073709551616) : S 141 [N .u64 (l : Int), N .u64 (d : Int), B o] [] (B (decide (2 * l > d ∨ 2 * l = d ∧ o = true))) [] := by
  refine round_up_w ⟨by simp only [U64, InR]; omega, fun c => ⟨fun e => ?_, fun e => ⟨fun g => by omega, fun g => ?_⟩⟩, fun c => ⟨fun g => ?_, fun g => ?_⟩⟩
  · rw [decide_eq_true (.inr ⟨by omega, e⟩)]
  · rw [decide_eq_false (by
      rintro (q | q)
      · omega
      · rw [e] at q; exact absurd q.2 (by decide))]
  · rw [decide_eq_true (.inl (by omega))]
  · rw [decide_eq_false (by rintro (q | q) <;> omega)]



theorem round_Even_w {a1 a2 a3 : Int} {res : SV} (H : ∃ r4 r5 r6 r7 : Int, S 139 [.agg [N .u64 a1, N .u64 a2], N .u64 a3] [] (.tup [.agg [N .u64 r4, N .u64 r5], N .u64 r6, I r7]) [] ∧ (r7 ≠ 0 → (SV.tup [I 0, I r7]) = res) ∧ (r7 = 0 → ∃ r8 r9 : Int, S 140 [.agg [N .u64 r4, N .u64 r5]] [] (.tup [I r8, I r9]) [] ∧ (r9 = 0 → (0 : Int) ≤ r8 ∧ ∃ r10 : Bool, S 141 [N .u64 r6, N .u64 a3, B ((r8 % 2) == 1)] [] (B r10) [] ∧ (r10 = true → U64 r8 ∧ U64 (r8 + 1) ∧ ∃ r11 r12 : Int, S 142 [N .u64 (r8 + 1)] [] (.agg [N .u64 r11, N .u64 r12]) [] ∧ ∃ r13 r14 : Int, S 140 [.agg [N .u64 r11, N .u64 r12]] [] (.tup [I r13, I r14]) [] ∧ (SV.tup [I r13, I r14]) = res) ∧ (r10 = false → (SV.tup [I r8, I r9]) = res)) ∧ (r9 ≠ 0 → (SV.tup [I r8, I r9]) = res))) :
    S 104 [.agg [N .u64 a1, N .u64 a2], N .u64 a3] [] res [] := by
  refine SCall.st fun X hX => ?_
  obtain ⟨r4, r5, r6, r7, h0, H1, H2⟩ := H
  refine hX.go [c_ [] h0] ?_
  by_cases h1 : r7 = 0
  · obtain ⟨r8, r9, h2, H1, H2⟩ := H2 h1
    refine hX.go [f_ (bne_eq_false_iff_eq.2 h1), c_ [] h2] ?_
    by_cases h3 : r9 = 0
    · obtain ⟨h4, r10, h5, H1, H2⟩ := H1 h3
      refine hX.go [t_ (beq_iff_eq.2 h3), t_ (beq_iff_eq.2 h3), t_ (beq_iff_eq.2 h3), t_ (beq_iff_eq.2 h3), q_ h4, q_ (show (0 : Int) < 2 from by decide), t_ (beq_iff_eq.2 h3), t_ (beq_iff_eq.2 h3), c_ [] h5, t_ (beq_iff_eq.2 h3)] ?_
      rcases bcase r10 with h6 | h6
      · obtain ⟨h7, h8, r11, r12, h9, r13, r14, h10, rfl⟩ := H1 h6
        exact hX.e [t_ h6, q_ h7, q_ h8, c_ [] h9, c_ [] h10]
      · obtain rfl := H2 h6
        exact hX.e [f_ h6]
    · obtain rfl := H2 h3
      exact hX.e [f_ (beq_eq_false_iff_ne.2 h3), f_ (beq_eq_false_iff_ne.2 h3), f_ (beq_eq_false_iff_ne.2 h3), f_ (beq_eq_false_iff_ne.2 h3), f_ (beq_eq_false_iff_ne.2 h3), f_ (beq_eq_false_iff_ne.2 h3), f_ (beq_eq_false_iff_ne.2 h3), f_ rf]
  · obtain rfl := H1 h1
    exact hX.e [t_ (bne_iff_ne.2 h1)]

theorem near_ge (x d : Nat) : x / d ≤ near x d := by unfold near; split <;> omega

theorem even_ok {x d : Nat} (hd : d ≠ 0) (hd2 : d < 18446744073709551616) (hx : x < 340282366920938463463374607431768211456) : S 104 [wideV x, N .u64 (d : Int)] [] (IT (tl (near x d))) [] := by
  have hm := Nat.mod_lt x (Nat.pos_of_ne_zero hd)
  have hg := near_ge x d
  have t := told_wide (x / d)
  refine round_Even_w ⟨_, _, _, _, Div_wideG hd hd2 hx, fun c => absurd rfl c, fun _ => ⟨_, _, t, fun c => ?_, fun c => ?_⟩⟩
  · have h : ¬ x / d > 4611686018427387904 := fun h => by unfold tl at c; rw [if_pos h] at c; exact absurd c (by decide)
    have e : tl (x / d) = (((x / d : Nat) : Int), 0) := by unfold tl; rw [if_neg h]
    rw [e]
    show (0 : Int) ≤ ((x / d : Nat) : Int) ∧ _
    refine ⟨Int.natCast_nonneg _, _, up_ok (Nat.le_of_lt hm) hd2, fun u => ?_, fun u => ?_⟩
    · have u' := of_decide_eq_true u
      rw [beq_iff_eq] at u'
      have en : near x d = x / d + 1 := by
        unfold near; rw [if_pos]
        rcases u' with u' | u'
        · exact .inl u'
        · exact .inr ⟨u'.1, by have := u'.2; generalize x / d = q at *; show q % 2 = 1; simp only at this; omega⟩
      rw [en]
      have h2 := told_wide (x / d + 1)
      generalize x / d = q at *
      have h1 := Of_wide (x := q + 1) (by omega)
      exact ⟨by simp only [U64, InR]; omega, by simp only [U64, InR]; omega, _, _, h1, _, _, h2, rfl⟩
    · have u' := of_decide_eq_false u
      rw [beq_iff_eq] at u'
      have en : near x d = x / d := by
        unfold near; rw [if_neg]
        rintro (z | z)
        · exact u' (.inl z)
        · exact u' (.inr ⟨z.1, by have := z.2; generalize x / d = q at *; show (q : Int) % 2 = 1; omega⟩)
      rw [en, e]
  · have h : x / d > 4611686018427387904 := by
      rcases Nat.lt_or_ge 4611686018427387904 (x / d) with h | h
      · exact h
      · unfold tl at c; rw [if_neg (by omega)] at c; exact absurd rfl c
    unfold tl
    rw [if_pos h, if_pos (by omega)]



theorem round_Part_w {a1 a2 a3 a4 a5 : Int} {res : SV} (H : (a1 < 0 → (SV.tup [I 0, I 1]) = res) ∧ (¬ a1 < 0 → (a2 < 0 → (SV.tup [I 0, I 1]) = res) ∧ (¬ a2 < 0 → (a5 < 1 → (SV.tup [I 0, I 1]) = res) ∧ (¬ a5 < 1 → U64 a1 ∧ U64 a2 ∧ ∃ r6 r7 : Int, S 103 [N .u64 a1, N .u64 a2] [] (.agg [N .u64 r6, N .u64 r7]) [] ∧ U64 a3 ∧ ∃ r8 r9 r10 : Int, S 102 [.agg [N .u64 r6, N .u64 r7], N .u64 a3] [] (.tup [.agg [N .u64 r8, N .u64 r9], I r10]) [] ∧ U64 a5 ∧ U64 a4 ∧ ∃ r11 r12 : Int, S 103 [N .u64 a5, N .u64 a4] [] (.agg [N .u64 r11, N .u64 r12]) [] ∧ (r10 ≠ 0 → (SV.tup [I 0, I 6]) = res) ∧ (r10 = 0 → (r11 ≠ 0 → (SV.tup [I 0, I 6]) = res) ∧ (r11 = 0 → ∃ r13 r14 : Int, S 104 [.agg [N .u64 r8, N .u64 r9], N .u64 r12] [] (.tup [I r13, I r14]) [] ∧ (SV.tup [I r13, I r14]) = res)))))) :
    S 67 [I a1, I a2, .agg [I a3, I a4], I a5] [] res [] := by
  refine SCall.st fun X hX => ?_
  obtain ⟨H1, H2⟩ := H
  by_cases h0 : a1 < 0
  · obtain rfl := H1 h0
    exact hX.e [t_ (dt h0), t_ (dt h0), t_ (dt h0), t_ rt, t_ rt, t_ rt, t_ rt]
  · obtain ⟨H1, H2⟩ := H2 h0
    refine hX.go [f_ (df h0), f_ (df h0), f_ (df h0)] ?_
    by_cases h1 : a2 < 0
    · obtain rfl := H1 h1
      exact hX.e [t_ (dt h1), t_ (dt h1), t_ (dt h1), t_ rt]
    · obtain ⟨H1, H2⟩ := H2 h1
      refine hX.go [f_ (df h1), f_ (df h1), f_ (df h1)] ?_
      by_cases h2 : a5 < 1
      · obtain rfl := H1 h2
        exact hX.e [t_ (dt h2)]
      · obtain ⟨h3, h4, r6, r7, h5, h6, r8, r9, r10, h7, h8, h9, r11, r12, h10, H1, H2⟩ := H2 h2
        refine hX.go [f_ (df h2), q_ h3, q_ h4, h_ [.draw 13 [11] 1], c_ [] h5, q_ h6, c_ [] h7, q_ (re (I r10)), q_ (re (I r10)), q_ h8, q_ h9, c_ [] h10] ?_
        by_cases h11 : r10 = 0
        · obtain ⟨H1, H2⟩ := H2 h11
          refine hX.go [f_ (bne_eq_false_iff_eq.2 h11), f_ (bne_eq_false_iff_eq.2 h11), f_ (bne_eq_false_iff_eq.2 h11), f_ (bne_eq_false_iff_eq.2 h11)] ?_
          by_cases h12 : r11 = 0
          · obtain ⟨r13, r14, h13, rfl⟩ := H2 h12
            exact hX.e [f_ (bne_eq_false_iff_eq.2 h12), c_ [] h13]
          · obtain rfl := H1 h12
            exact hX.e [t_ (bne_iff_ne.2 h12)]
        · obtain rfl := H1 h11
          exact hX.e [t_ (bne_iff_ne.2 h11), t_ (bne_iff_ne.2 h11), t_ (bne_iff_ne.2 h11), t_ (bne_iff_ne.2 h11), t_ rt]

theorem rPart3 {n d : Int} (a b per : Int) (hn : 0 ≤ n) (hn2 : n < 9223372036854775808) (hd : 1 ≤ d) (hd2 : d < 9223372036854775808) (ha : a < 9223372036854775808) (hb : b < 9223372036854775808) (hp : per < 9223372036854775808) :
    S 67 [I a, I b, .agg [I n, I d], I per] [] (IT (rnd a b n d per)) [] := by
  refine round_Part_w ⟨fun c => ?_, fun c1 => ⟨fun c => ?_, fun c2 => ⟨fun c => ?_, fun c3 => ?_⟩⟩⟩
  · unfold rnd; rw [if_pos (.inl c)]
  · unfold rnd; rw [if_pos (.inr (.inl c))]
  · unfold rnd; rw [if_pos (.inr (.inr c))]
  · have hr : rnd a b n d per = if 340282366920938463463374607431768211456 ≤ a.toNat * b.toNat * n.toNat ∨ 18446744073709551616 ≤ per.toNat * d.toNat then (0, 6) else tl (near (a.toNat * b.toNat * n.toNat) (per.toNat * d.toNat)) := by
      unfold rnd; rw [if_neg (by omega)]
    rw [hr]
    clear hr
    obtain ⟨a, rfl⟩ : ∃ m : Nat, a = (m : Int) := ⟨a.toNat, by omega⟩
    obtain ⟨b, rfl⟩ : ∃ m : Nat, b = (m : Int) := ⟨b.toNat, by omega⟩
    obtain ⟨n, rfl⟩ : ∃ m : Nat, n = (m : Int) := ⟨n.toNat, by omega⟩
    obtain ⟨d, rfl⟩ : ∃ m : Nat, d = (m : Int) := ⟨d.toNat, by omega⟩
    obtain ⟨per, rfl⟩ : ∃ m : Nat, per = (m : Int) := ⟨per.toNat, by omega⟩
    simp only [Int.toNat_natCast]
    have hab : a * b ≤ 9223372036854775807 * 9223372036854775807 := Nat.mul_le_mul (by omega) (by omega)
    have hpd : per * d ≤ 9223372036854775807 * 9223372036854775807 := Nat.mul_le_mul (by omega) (by omega)
    have hpd0 : per * d ≠ 0 := Nat.mul_ne_zero (by omega) (by omega)
    have ht := Times_wide (x := a * b) (n := n) (by omega) (by omega)
    by_cases h : a * b * n < 340282366920938463463374607431768211456
    · rw [if_pos h] at ht
      refine ⟨by simp only [U64, InR]; omega, by simp only [U64, InR]; omega, _, _, Mul_wide (by omega) (by omega), by simp only [U64, InR]; omega, _, _, _, ht, by simp only [U64, InR]; omega, by simp only [U64, InR]; omega, _, _, Mul_wide (by omega) (by omega), fun c => absurd rfl c, fun _ => ⟨fun c => ?_, fun c => ?_⟩⟩
      · rw [if_pos (.inr (by omega))]
      · have hlt : per * d < 18446744073709551616 := by omega
        rw [if_neg (by omega)]
        have := even_ok hpd0 hlt h
        rw [show per * d % 18446744073709551616 = per * d from Nat.mod_eq_of_lt hlt]
        exact ⟨_, _, this, rfl⟩
    · rw [if_neg h] at ht
      refine ⟨by simp only [U64, InR]; omega, by simp only [U64, InR]; omega, _, _, Mul_wide (by omega) (by omega), by simp only [U64, InR]; omega, _, _, _, ht, by simp only [U64, InR]; omega, by simp only [U64, InR]; omega, _, _, Mul_wide (by omega) (by omega), fun c => ?_, fun c => absurd c (by decide)⟩
      rw [if_pos (.inl (by omega))]



theorem demurrageref01_Limit_w  {res : SV} {new : List (Option Vw)} (H : ∃ n1 : Nat, ∃ g2 : Nat → Int, S 97 [N .u64 4294967296] [] (.agg [.sl 0 n1]) [ro n1 g2] ∧ ∃ n3 : Nat, ∃ g4 : Nat → Int, S 63 [.agg [.sl 0 n1], .agg [.sl 0 n1]] [ri n1 g2] (.agg [.sl 1 n3]) [ro n3 g4] ∧ ∃ n5 : Nat, ∃ g6 : Nat → Int, S 63 [.agg [.sl 0 n1], .agg [.sl 0 n1]] [ri n1 g2] (.agg [.sl 1 n5]) [ro n5 g6] ∧ ∃ n7 : Nat, ∃ g8 : Nat → Int, S 63 [.agg [.sl 0 n3], .agg [.sl 1 n5]] [ri n3 g4, ri n5 g6] (.agg [.sl 2 n7]) [ro n7 g8] ∧ ((SV.agg [.sl 0 n7]) = res ∧ sameHp [ro n7 g8] new)) :
    S 105 [] [] res new := by
  refine SCall.st fun X hX => ?_
  obtain ⟨n1, g2, h0, n3, g4, h1, n5, g6, h2, n7, g8, h3, rfl, H⟩ := H
  exact (IsFin.same hX H).e [c_ [] h0, d_ 5, c_ [1] h1, c_ [1] h2, c_ [3, 4] h3] [5]

theorem Prod_self {b : Nat} (hlb : ln b ≤ 1000) : S 63 [.agg [.sl 0 (ln b)], .agg [.sl 0 (ln b)]] [BR false b] (.agg [.sl 1 (ln (b * b))]) [BR true (b * b)] :=
  SCall.dup (Prod hlb hlb) rfl (fun i => rfl) ⟨fun i => rfl, trivial⟩ rfl rfl
theorem Plus_self {b : Nat} (hlb : ln b ≤ 10000) : S 62 [.agg [.sl 0 (ln b)], .agg [.sl 0 (ln b)]] [BR false b] (.agg [.sl 1 (ln (b + b))]) [BR true (b + b)] :=
  SCall.dup (Plus hlb hlb) rfl (fun i => rfl) ⟨fun i => rfl, trivial⟩ rfl rfl

theorem Limit : S 105 [] [] (.agg [.sl 0 (ln 340282366920938463463374607431768211456)]) [BR true 340282366920938463463374607431768211456] := by
  have l1 : ln 4294967296 ≤ 1000 := Nat.le_trans (ln5 (by decide)) (by decide)
  have l2 : ln (4294967296 * 4294967296) ≤ 1000 := Nat.le_trans (ln5 (by decide)) (by decide)
  have p := Prod l2 l2
  rw [show 4294967296 * 4294967296 * (4294967296 * 4294967296) = 340282366920938463463374607431768211456 by decide] at p
  exact demurrageref01_Limit_w ⟨_, _, FromU (v := 4294967296) (by decide), _, _, Prod_self l1, _, _, Prod_self l1, _, _, p, rfl, sameHp.refl _⟩



noncomputable def demurrageref03_told_h0 (n1 : Nat) (g2 : Nat → Int) (x1 : Int) (x2 : Int) : SC :=
  ⟨[⟨106, slo 27 [(1, .ptr 1 0), (4, I x1), (5, I x2)], [.code (bodyAt Tryz.f106 [1, 1, 1, 0, 1, 0, 0]), .inLoop (bodyAt Tryz.f106 [1, 1, 1, 0, 1, 0, 0]), .inBlock 0, .code (bodyAt Tryz.f106 [1, 1, 1, 1])], {}⟩], [ri n1 g2, some (.box true [.sl 0 n1])]⟩
theorem demurrageref03_told_w0 {X : Cx} {n1 : Nat} {g2 : Nat → Int} {res : SV} (hX : Fi X 106 [ri n1 g2] res []) (H : ∃ n3 : Nat, ∃ g4 : Nat → Int, S 97 [N .u64 4611686018427387904] [] (.agg [.sl 0 n3]) [ro n3 g4] ∧ ∃ r5 : Int, S 75 [.agg [.sl 0 n1], .agg [.sl 1 n3]] [ri n1 g2, ri n3 g4] (I r5) [] ∧ (r5 > 0 → (SV.tup [I 0, I 6]) = res) ∧ (¬ r5 > 0 → Ir (((n1 : Nat) : Int) - 1) ∧ Ok X (demurrageref03_told_h0 n1 g2 0 (((n1 : Nat) : Int) - 1)))) :
    Ok X (entry Tryz.prog 106 [.agg [.sl 0 n1]] [ri n1 g2]) := by
  obtain ⟨n3, g4, h0, r5, h1, H1, H2⟩ := H
  refine hX.go [d_ 2, c_ [] h0, c_ [0, 2] h1] ?_
  by_cases h2 : r5 > 0
  · obtain rfl := H1 h2
    exact hX.e [t_ (dt h2)]
  · obtain ⟨h3, k⟩ := H2 h2
    exact hX.h 17 [f_ (df h2), q_ h3] (oldM 2) k
theorem demurrageref03_told_w1 {X : Cx} {n1 : Nat} {g2 : Nat → Int} {x1 x2 : Int} {res : SV} (hX : Fi X 106 [ri n1 g2] res []) (H : (x2 ≥ 0 → Ir (10000 * x1) ∧ ((0 : Int) ≤ x2 ∧ x2 < ((n1 : Nat) : Int)) ∧ Ir ((10000 * x1) + (g2 x2.toNat)) ∧ Ir (x2 - 1) ∧ Ok X (demurrageref03_told_h0 n1 g2 ((10000 * x1) + (g2 x2.toNat)) (x2 - 1))) ∧ (¬ x2 ≥ 0 → (SV.tup [I x1, I 0]) = res)) :
    Ok X (demurrageref03_told_h0 n1 g2 x1 x2) := by
  obtain ⟨H1, H2⟩ := H
  by_cases h0 : x2 ≥ 0
  · obtain ⟨h1, h2, h3, h4, k⟩ := H1 h0
    exact hX.h 28 [t_ (dt h0), q_ h1, q_ h2, q_ (re n1), q_ h2, q_ h3, q_ h4] (oldM 2) k
  · obtain rfl := H2 h0
    exact hX.e [f_ (df h0)]

theorem told3_loop {X : Cx} {a : Nat} (ha : a < 9223372036854775808) (hX : IsFin X Tryz.prog GL 106 [BR false a] (.tup [I (a : Int), I 0]) []) :
    ∀ (i : Nat), i ≤ ln a → Ok X (demurrageref03_told_h0 (ln a) (dg a) ((a / 10000 ^ i : Nat) : Int) ((i : Int) - 1))
  | 0, hi => by
    rw [Nat.pow_zero, Nat.div_one]
    exact demurrageref03_told_w1 hX ⟨fun c => by omega, fun _ => rfl⟩
  | j + 1, hi => by
    have hl : ln a ≤ 5 := ln_le_iff.2 (by omega)
    have e : (((j + 1 : Nat) : Int) - 1) = (j : Int) := by omega
    have h1 : 10000 * (((a / 10000 ^ (j + 1) : Nat) : Int)) + dg a j = ((a / 10000 ^ j : Nat) : Int) := by
      unfold dg dgN; rw [← div_step]; omega
    have h2 : a / 10000 ^ j ≤ a := Nat.div_le_self _ _
    have h3 := dg_nn a j
    rw [e]
    generalize a / 10000 ^ (j + 1) = p at *
    have hq : a / 10000 ^ j < 9223372036854775808 := by omega
    have ih := told3_loop ha hX j (by omega)
    generalize a / 10000 ^ j = q at *
    refine demurrageref03_told_w1 hX ⟨fun _ => ⟨by simp only [Ir, InR]; omega, by omega, ?_, by simp only [Ir, InR]; omega, ?_⟩, fun c => by omega⟩
    · rw [show (j : Int).toNat = j from rfl, h1]; simp only [Ir, InR]; omega
    · rw [show (j : Int).toNat = j from rfl, h1]
      exact ih

theorem told3 {v : Nat} (hl : ln v ≤ 1000) : S 106 [.agg [.sl 0 (ln v)]] [BR false v] (IT (tl v)) [] := by
  refine SCall.of (by kernel_rfl) rfl ⟨fun i => rfl, trivial⟩ rfl (fun X hX => ?_)
  refine demurrageref03_told_w0 hX ⟨_, _, FromU (v := 4611686018427387904) (by decide), _, Cmp (by omega) (Nat.le_trans (ln5 (by decide)) (by decide)), fun c => ?_, fun c => ?_⟩
  · unfold tl; rw [if_pos (cmpI_gt.1 c)]
  · have h : ¬ v > 4611686018427387904 := fun h => c (cmpI_gt.2 h)
    rw [show tl v = ((v : Int), 0) by unfold tl; rw [if_neg h]] at hX
    have := told3_loop (by omega) hX (ln v) (Nat.le_refl _)
    rw [Nat.div_eq_of_lt (lt_ln v)] at this
    exact ⟨by simp only [Ir, InR]; omega, this⟩



theorem demurrageref03_Near_w {n1 : Nat} {g2 : Nat → Int} {n3 : Nat} {g4 : Nat → Int} {res : SV} {new : List (Option Vw)} (H : ∃ n5 : Nat, ∃ g6 : Nat → Int, ∃ n7 : Nat, ∃ g8 : Nat → Int, S 96 [.agg [.sl 0 n1], .agg [.sl 1 n3]] [ri n1 g2, ri n3 g4] (.tup [.agg [.sl 2 n5], .agg [.sl 3 n7]]) [ro n5 g6, ro n7 g8] ∧ ∃ n9 : Nat, ∃ g10 : Nat → Int, S 62 [.agg [.sl 0 n7], .agg [.sl 0 n7]] [ri n7 g8] (.agg [.sl 1 n9]) [ro n9 g10] ∧ ∃ r11 : Int, S 75 [.agg [.sl 0 n9], .agg [.sl 1 n3]] [ri n9 g10, ri n3 g4] (I r11) [] ∧ (((n5 : Nat) : Int) > 0 → ((0 : Int) ≤ 0 ∧ 0 < ((n5 : Nat) : Int)) ∧ (0 : Int) ≤ (g6 0) ∧ (r11 > 0 → ∃ n12 : Nat, ∃ g13 : Nat → Int, S 69 [I 1] [] (.agg [.sl 0 n12]) [ro n12 g13] ∧ ∃ n14 : Nat, ∃ g15 : Nat → Int, S 62 [.agg [.sl 0 n5], .agg [.sl 1 n12]] [ri n5 g6, ri n12 g13] (.agg [.sl 2 n14]) [ro n14 g15] ∧ ((SV.agg [.sl 2 n14]) = res ∧ sameHp [ro n14 g15] new)) ∧ (¬ r11 > 0 → (r11 = 0 → (((g6 0) % 2) = 1 → ∃ n12 : Nat, ∃ g13 : Nat → Int, S 69 [I 1] [] (.agg [.sl 0 n12]) [ro n12 g13] ∧ ∃ n14 : Nat, ∃ g15 : Nat → Int, S 62 [.agg [.sl 0 n5], .agg [.sl 1 n12]] [ri n5 g6, ri n12 g13] (.agg [.sl 2 n14]) [ro n14 g15] ∧ ((SV.agg [.sl 2 n14]) = res ∧ sameHp [ro n14 g15] new)) ∧ (((g6 0) % 2) ≠ 1 → ((SV.agg [.sl 2 n5]) = res ∧ sameHp [ro n5 g6] new))) ∧ (r11 ≠ 0 → ((SV.agg [.sl 2 n5]) = res ∧ sameHp [ro n5 g6] new)))) ∧ (¬ ((n5 : Nat) : Int) > 0 → (r11 > 0 → ∃ n12 : Nat, ∃ g13 : Nat → Int, S 69 [I 1] [] (.agg [.sl 0 n12]) [ro n12 g13] ∧ ∃ n14 : Nat, ∃ g15 : Nat → Int, S 62 [.agg [.sl 0 n5], .agg [.sl 1 n12]] [ri n5 g6, ri n12 g13] (.agg [.sl 2 n14]) [ro n14 g15] ∧ ((SV.agg [.sl 2 n14]) = res ∧ sameHp [ro n14 g15] new)) ∧ (¬ r11 > 0 → (r11 = 0 → ((SV.agg [.sl 2 n5]) = res ∧ sameHp [ro n5 g6] new)) ∧ (r11 ≠ 0 → ((SV.agg [.sl 2 n5]) = res ∧ sameHp [ro n5 g6] new))))) :
    S 107 [.agg [.sl 0 n1], .agg [.sl 1 n3]] [ri n1 g2, ri n3 g4] res new := by
  refine SCall.st fun X hX => ?_
  obtain ⟨n5, g6, n7, g8, h0, n9, g10, h1, r11, h2, H1, H2⟩ := H
  refine hX.go [c_ [0, 1] h0, d_ 4, c_ [6] h1, c_ [9, 1] h2] ?_
  by_cases h3 : ((n5 : Nat) : Int) > 0
  · obtain ⟨h4, h5, H1, H2⟩ := H1 h3
    refine hX.go [t_ (dt h3), t_ (dt h3), t_ (dt h3), q_ h4, q_ (re n5), t_ (dt h3), q_ h4, t_ (dt h3), q_ h5, q_ (show (0 : Int) < 2 from by decide), t_ (dt h3), t_ (dt h3)] ?_
    by_cases h6 : r11 > 0
    · obtain ⟨n12, g13, h7, n14, g15, h8, rfl, H⟩ := H1 h6
      exact (IsFin.same hX H).e [t_ (dt h6), t_ (dt h6), t_ (dt h6), t_ (dt h6), t_ (dt h6), t_ rt, d_ 2, c_ [] h7, c_ [5, 10] h8] [11]
    · obtain ⟨H1, H2⟩ := H2 h6
      refine hX.go [f_ (df h6), f_ (df h6), f_ (df h6)] ?_
      by_cases h7 : r11 = 0
      · obtain ⟨H1, H2⟩ := H1 h7
        refine hX.go [t_ (beq_iff_eq.2 h7), f_ (df h6), t_ (beq_iff_eq.2 h7), f_ (df h6)] ?_
        by_cases h8 : ((g6 0) % 2) = 1
        · obtain ⟨n12, g13, h9, n14, g15, h10, rfl, H⟩ := H1 h8
          exact (IsFin.same hX H).e [t_ (beq_iff_eq.2 h8), d_ 2, c_ [] h9, c_ [5, 10] h10] [11]
        · obtain ⟨rfl, H⟩ := H2 h8
          exact (IsFin.same hX H).e [f_ (beq_eq_false_iff_ne.2 h8)] [5]
      · obtain ⟨rfl, H⟩ := H2 h7
        exact (IsFin.same hX H).e [f_ (beq_eq_false_iff_ne.2 h7), f_ (df h6), f_ (beq_eq_false_iff_ne.2 h7), f_ (df h6), f_ rf] [5]
  · obtain ⟨H1, H2⟩ := H2 h3
    refine hX.go [f_ (df h3), f_ (df h3), f_ (df h3), f_ (df h3), f_ (df h3), f_ (df h3), f_ (df h3)] ?_
    by_cases h4 : r11 > 0
    · obtain ⟨n12, g13, h5, n14, g15, h6, rfl, H⟩ := H1 h4
      exact (IsFin.same hX H).e [t_ (dt h4), t_ (dt h4), t_ (dt h4), t_ (dt h4), t_ (dt h4), t_ rt, d_ 2, c_ [] h5, c_ [5, 10] h6] [11]
    · obtain ⟨H1, H2⟩ := H2 h4
      refine hX.go [f_ (df h4), f_ (df h4), f_ (df h4)] ?_
      by_cases h5 : r11 = 0
      · obtain ⟨rfl, H⟩ := H1 h5
        exact (IsFin.same hX H).e [t_ (beq_iff_eq.2 h5), f_ (df h4), t_ (beq_iff_eq.2 h5), f_ (df h4), f_ rf] [5]
      · obtain ⟨rfl, H⟩ := H2 h5
        exact (IsFin.same hX H).e [f_ (beq_eq_false_iff_ne.2 h5), f_ (df h4), f_ (beq_eq_false_iff_ne.2 h5), f_ (df h4), f_ rf] [5]

theorem dg_odd (q : Nat) : dg q 0 % 2 = 1 ↔ q % 2 = 1 := by unfold dg dgN; rw [Nat.pow_zero, Nat.div_one]; omega

theorem near3 {n d : Nat} (hd : d ≠ 0) (hn : ln n ≤ 400) (hdl : ln d ≤ 400) : S 107 [.agg [.sl 0 (ln n)], .agg [.sl 1 (ln d)]] [BR false n, BR false d] (.agg [.sl 2 (ln (near n d))]) [BR true (near n d)] := by
  have hq : ln (n / d) ≤ 400 := Nat.le_trans (ln_mono (Nat.div_le_self n d)) hn
  have hr : ln (n % d) ≤ 400 := Nat.le_trans (ln_mono (Nat.mod_le n d)) hn
  have hs : ln (n % d + n % d) ≤ 10000 := by have := ln_add (n % d) (n % d); omega
  have one : ln 1 ≤ 5 := ln5 (by decide)
  have p1 := Plus (a := n / d) (b := 1) (by omega) (by omega)
  have f1 := From (v := 1) (by decide)
  have hup : (2 * (n % d) > d ∨ 2 * (n % d) = d ∧ n / d % 2 = 1) → near n d = n / d + 1 := fun h => if_pos h
  have hdn : ¬ (2 * (n % d) > d ∨ 2 * (n % d) = d ∧ n / d % 2 = 1) → near n d = n / d := fun h => if_neg h
  refine demurrageref03_Near_w ⟨_, _, _, _, Quot hd (by omega) (by omega), _, _, Plus_self (by omega), _, Cmp hs (by omega), fun c => ⟨by omega, dg_nn _ _, fun c1 => ?_, fun c1 => ⟨fun c2 => ⟨fun c3 => ?_, fun c3 => ?_⟩, fun c2 => ?_⟩⟩, fun c => ⟨fun c1 => ?_, fun c1 => ⟨fun c2 => ?_, fun c2 => ?_⟩⟩⟩
  · rw [hup (.inl (by have := cmpI_gt.1 c1; omega))]
    exact ⟨_, _, f1, _, _, p1, rfl, sameHp.refl _⟩
  · rw [hup (.inr ⟨by have := cmpI_z.1 c2; omega, (dg_odd _).1 c3⟩)]
    exact ⟨_, _, f1, _, _, p1, rfl, sameHp.refl _⟩
  · rw [hdn (by
      rintro (z | z)
      · exact c1 (cmpI_gt.2 (by omega))
      · exact c3 ((dg_odd _).2 z.2))]
    exact ⟨rfl, sameHp.refl _⟩
  · rw [hdn (by
      rintro (z | z)
      · exact c1 (cmpI_gt.2 (by omega))
      · exact c2 (cmpI_z.2 (by omega)))]
    exact ⟨rfl, sameHp.refl _⟩
  · rw [hup (.inl (by have := cmpI_gt.1 c1; omega))]
    exact ⟨_, _, f1, _, _, p1, rfl, sameHp.refl _⟩
  · have h0 : n / d = 0 := ln_zero_iff.1 (by omega)
    rw [hdn (by
      rintro (z | z)
      · exact c1 (cmpI_gt.2 (by omega))
      · rw [h0] at z; exact absurd z.2 (by decide))]
    exact ⟨rfl, sameHp.refl _⟩
  · rw [hdn (by
      rintro (z | z)
      · exact c1 (cmpI_gt.2 (by omega))
      · exact c2 (cmpI_z.2 (by omega)))]
    exact ⟨rfl, sameHp.refl _⟩



theorem demurrageref03_Part_w {a1 a2 a3 a4 a5 : Int} {res : SV} (H : (a1 < 0 → (SV.tup [I 0, I 1]) = res) ∧ (¬ a1 < 0 → (a2 < 0 → (SV.tup [I 0, I 1]) = res) ∧ (¬ a2 < 0 → (a5 < 1 → (SV.tup [I 0, I 1]) = res) ∧ (¬ a5 < 1 → ∃ n6 : Nat, ∃ g7 : Nat → Int, S 69 [I a1] [] (.agg [.sl 0 n6]) [ro n6 g7] ∧ ∃ n8 : Nat, ∃ g9 : Nat → Int, S 69 [I a2] [] (.agg [.sl 0 n8]) [ro n8 g9] ∧ ∃ n10 : Nat, ∃ g11 : Nat → Int, S 63 [.agg [.sl 0 n6], .agg [.sl 1 n8]] [ri n6 g7, ri n8 g9] (.agg [.sl 2 n10]) [ro n10 g11] ∧ ∃ n12 : Nat, ∃ g13 : Nat → Int, S 69 [I a3] [] (.agg [.sl 0 n12]) [ro n12 g13] ∧ ∃ n14 : Nat, ∃ g15 : Nat → Int, S 63 [.agg [.sl 0 n10], .agg [.sl 1 n12]] [ri n10 g11, ri n12 g13] (.agg [.sl 2 n14]) [ro n14 g15] ∧ ∃ n16 : Nat, ∃ g17 : Nat → Int, S 69 [I a5] [] (.agg [.sl 0 n16]) [ro n16 g17] ∧ ∃ n18 : Nat, ∃ g19 : Nat → Int, S 69 [I a4] [] (.agg [.sl 0 n18]) [ro n18 g19] ∧ ∃ n20 : Nat, ∃ g21 : Nat → Int, S 63 [.agg [.sl 0 n16], .agg [.sl 1 n18]] [ri n16 g17, ri n18 g19] (.agg [.sl 2 n20]) [ro n20 g21] ∧ ∃ n22 : Nat, ∃ g23 : Nat → Int, S 97 [N .u64 4294967296] [] (.agg [.sl 0 n22]) [ro n22 g23] ∧ ∃ n24 : Nat, ∃ g25 : Nat → Int, S 105 [] [] (.agg [.sl 0 n24]) [ro n24 g25] ∧ ∃ r26 : Int, S 75 [.agg [.sl 0 n14], .agg [.sl 1 n24]] [ri n14 g15, ri n24 g25] (I r26) [] ∧ (r26 ≥ 0 → (SV.tup [I 0, I 6]) = res) ∧ (¬ r26 ≥ 0 → ∃ n27 : Nat, ∃ g28 : Nat → Int, S 63 [.agg [.sl 0 n22], .agg [.sl 0 n22]] [ri n22 g23] (.agg [.sl 1 n27]) [ro n27 g28] ∧ ∃ r29 : Int, S 75 [.agg [.sl 0 n20], .agg [.sl 1 n27]] [ri n20 g21, ri n27 g28] (I r29) [] ∧ (r29 ≥ 0 → (SV.tup [I 0, I 6]) = res) ∧ (¬ r29 ≥ 0 → ∃ n30 : Nat, ∃ g31 : Nat → Int, S 107 [.agg [.sl 0 n14], .agg [.sl 1 n20]] [ri n14 g15, ri n20 g21] (.agg [.sl 2 n30]) [ro n30 g31] ∧ ∃ r32 r33 : Int, S 106 [.agg [.sl 0 n30]] [ri n30 g31] (.tup [I r32, I r33]) [] ∧ (SV.tup [I r32, I r33]) = res)))))) :
    S 68 [I a1, I a2, .agg [I a3, I a4], I a5] [] res [] := by
  refine SCall.st fun X hX => ?_
  obtain ⟨H1, H2⟩ := H
  by_cases h0 : a1 < 0
  · obtain rfl := H1 h0
    exact hX.e [t_ (dt h0), t_ (dt h0), t_ (dt h0), t_ rt, t_ rt, t_ rt, t_ rt]
  · obtain ⟨H1, H2⟩ := H2 h0
    refine hX.go [f_ (df h0), f_ (df h0), f_ (df h0)] ?_
    by_cases h1 : a2 < 0
    · obtain rfl := H1 h1
      exact hX.e [t_ (dt h1), t_ (dt h1), t_ (dt h1), t_ rt]
    · obtain ⟨H1, H2⟩ := H2 h1
      refine hX.go [f_ (df h1), f_ (df h1), f_ (df h1)] ?_
      by_cases h2 : a5 < 1
      · obtain rfl := H1 h2
        exact hX.e [t_ (dt h2)]
      · obtain ⟨n6, g7, h3, n8, g9, h4, n10, g11, h5, n12, g13, h6, n14, g15, h7, n16, g17, h8, n18, g19, h9, n20, g21, h10, n22, g23, h11, n24, g25, h12, r26, h13, H1, H2⟩ := H2 h2
        refine hX.go [f_ (df h2), d_ 10, c_ [] h3, c_ [] h4, c_ [1, 2] h5, c_ [] h6, c_ [3, 4] h7, d_ 7, c_ [] h8, c_ [] h9, c_ [7, 8] h10, c_ [] h11] ?_
        by_cases h14 : r26 ≥ 0
        · obtain rfl := H1 h14
          exact hX.e [d_ 9, c_ [] h12, c_ [5, 13] h13, t_ (dt h14), t_ (dt h14), t_ (dt h14), t_ (dt h14), t_ (dt h14), t_ (dt h14), t_ (dt h14), t_ rt]
        · obtain ⟨n27, g28, h15, r29, h16, H1, H2⟩ := H2 h14
          refine hX.go [d_ 9, c_ [] h12, c_ [5, 13] h13, f_ (df h14), f_ (df h14), f_ (df h14), f_ (df h14), c_ [11] h15, f_ (df h14), c_ [9, 14] h16, f_ (df h14), f_ (df h14)] ?_
          by_cases h17 : r29 ≥ 0
          · obtain rfl := H1 h17
            exact hX.e [t_ (dt h17)]
          · obtain ⟨n30, g31, h18, r32, r33, h19, rfl⟩ := H2 h17
            exact hX.e [f_ (df h17), c_ [5, 9] h18, c_ [15] h19]

theorem rPart3R {n d : Int} (a b per : Int) (hn : 0 ≤ n) (hn2 : n < 9223372036854775808) (hd : 1 ≤ d) (hd2 : d < 9223372036854775808) (ha : a < 9223372036854775808) (hb : b < 9223372036854775808) (hp : per < 9223372036854775808) :
    S 68 [I a, I b, .agg [I n, I d], I per] [] (IT (rnd a b n d per)) [] := by
  refine demurrageref03_Part_w ⟨fun c => ?_, fun c1 => ⟨fun c => ?_, fun c2 => ⟨fun c => ?_, fun c3 => ?_⟩⟩⟩
  · unfold rnd; rw [if_pos (.inl c)]
  · unfold rnd; rw [if_pos (.inr (.inl c))]
  · unfold rnd; rw [if_pos (.inr (.inr c))]
  · have hr : rnd a b n d per = if 340282366920938463463374607431768211456 ≤ a.toNat * b.toNat * n.toNat ∨ 18446744073709551616 ≤ per.toNat * d.toNat then (0, 6) else tl (near (a.toNat * b.toNat * n.toNat) (per.toNat * d.toNat)) := by
      unfold rnd; rw [if_neg (by omega)]
    rw [hr]
    clear hr
    obtain ⟨a, rfl⟩ : ∃ m : Nat, a = (m : Int) := ⟨a.toNat, by omega⟩
    obtain ⟨b, rfl⟩ : ∃ m : Nat, b = (m : Int) := ⟨b.toNat, by omega⟩
    obtain ⟨n, rfl⟩ : ∃ m : Nat, n = (m : Int) := ⟨n.toNat, by omega⟩
    obtain ⟨d, rfl⟩ : ∃ m : Nat, d = (m : Int) := ⟨d.toNat, by omega⟩
    obtain ⟨per, rfl⟩ : ∃ m : Nat, per = (m : Int) := ⟨per.toNat, by omega⟩
    simp only [Int.toNat_natCast]
    have l : ∀ x : Nat, x < 9223372036854775808 → ln x ≤ 5 := fun x hx => ln5 (by omega)
    have la := l a (by omega); have lb := l b (by omega); have lnn := l n (by omega); have ld := l d (by omega); have lp := l per (by omega)
    have lab := ln_mul a b
    have labn := ln_mul (a * b) n
    have lpd := ln_mul per d
    have hpd0 : per * d ≠ 0 := Nat.mul_ne_zero (by omega) (by omega)
    have lH : ln 4294967296 ≤ 5 := ln5 (by decide)
    have lL : ln 340282366920938463463374607431768211456 ≤ 10 := ln_le_iff.2 (by decide)
    have lU : ln 18446744073709551616 ≤ 5 := ln5 (by decide)
    have ph : S 63 [.agg [.sl 0 (ln 4294967296)], .agg [.sl 0 (ln 4294967296)]] [BR false 4294967296] (.agg [.sl 1 (ln 18446744073709551616)]) [BR true 18446744073709551616] := Prod_self (b := 4294967296) (by omega)
    refine ⟨_, _, From (by omega), _, _, From (by omega), _, _, Prod (by omega) (by omega), _, _, From (by omega), _, _, Prod (by omega) (by omega), _, _, From (by omega), _, _, From (by omega), _, _, Prod (by omega) (by omega), _, _, FromU (v := 4294967296) (by decide), _, _, Limit, _, Cmp (by omega) (by omega), fun c => ?_, fun c => ⟨_, _, ph, _, Cmp (by omega) (by omega), fun e => ?_, fun e => ?_⟩⟩
    · rw [if_pos (.inl (cmpI_ge.1 c))]
    · rw [if_pos (.inr (cmpI_ge.1 e))]
    · have h1 : ¬ 340282366920938463463374607431768211456 ≤ a * b * n := fun h => c (cmpI_ge.2 h)
      have h2 : ¬ 18446744073709551616 ≤ per * d := fun h => e (cmpI_ge.2 h)
      rw [if_neg (by rintro (z | z); exact h1 z; exact h2 z)]
      have hle : near (a * b * n) (per * d) ≤ a * b * n + 1 := by
        have := Nat.div_le_self (a * b * n) (per * d)
        unfold near; split <;> omega
      have := ln_add (a * b * n) 1
      have l1 := l 1 (by decide)
      exact ⟨_, _, near3 hpd0 (by omega) (by omega), _, _, told3 (Nat.le_trans (ln_mono hle) (by omega)), rfl⟩


end Go.Proofs.YtehnnaanpmceiaaGreatDoor
