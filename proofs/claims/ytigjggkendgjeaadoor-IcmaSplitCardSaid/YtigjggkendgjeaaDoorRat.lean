import Derived.Test.YtigjggkendgjeaaDoorBit
import Derived.Test.YtigjggkendgjeaaDoorProg
import Derived.KernelRfl
import Derived.Laws.Externs
set_option linter.unusedVariables false
set_option linter.unusedSimpArgs false
set_option maxRecDepth 100000
namespace Go.Proofs.YtigjggkendgjeaaDoor
open Go Go.Sx

theorem ratio_Gcd_0 {a1 : Int} {a2 : Int} (h0 : a2 = 0) :
    SCall Tryd.prog GL 51 [N .u64 a1, N .u64 a2] [] (N .u64 a1) [] :=
  SCall.path 19 [.b true] [] 0 (by kernel_rfl) rfl (by exact trivial) (AllP.c (beq_iff_eq.2 h0) AllP.n)
noncomputable def ratio_Gcd_h0 (x1 : Int) (x2 : Int) : SC :=
  ⟨[⟨51, [some (N .u64 x1), some (N .u64 x2), none, none, none, none, none, none, none, none, none, none], [.code (.seq .skip (bodyAt Tryd.f51 [1, 0, 1])), .inScope (bodyAt Tryd.f51 [1, 0])], {}⟩], []⟩
theorem ratio_Gcd_1 {X : Cx} {res : SV} {new : List (Option Vw)} {a1 : Int} {a2 : Int} (hX : IsFin X Tryd.prog GL 51 [] res new) (h0 : a2 ≠ 0) (h1 : (0 : Int) ≤ a1) (h2 : (0 : Int) < a2) (k : Ok X (ratio_Gcd_h0 a2 (a1 % a2))) :
    Ok X (entry Tryd.prog 51 [N .u64 a1, N .u64 a2] []) :=
  Ok.cutM 20 [.b false, .draw 5 [] 0] [[true, true, false, false, false, false, false, false, false, false, false, false]] [] 0 hX.P hX.gl hX.n0 (by kernel_rfl) (by kernel_rfl) (by exact trivial) (AllP.c (beq_eq_false_iff_ne.2 h0) (AllP.c h1 (AllP.c h2 AllP.n))) k
theorem ratio_Gcd_2 {X : Cx} {x1 : Int} {x2 : Int} (hX : IsFin X Tryd.prog GL 51 [] (N .u64 x1) []) (h0 : x2 = 0) :
    Ok X (ratio_Gcd_h0 x1 x2) :=
  Ok.fin 14 [.b true] [] 0 hX (by kernel_rfl) rfl (AllP.c (beq_iff_eq.2 h0) AllP.n)
theorem ratio_Gcd_3 {X : Cx} {res : SV} {new : List (Option Vw)} {x1 : Int} {x2 : Int} (hX : IsFin X Tryd.prog GL 51 [] res new) (h0 : x2 ≠ 0) (h1 : (0 : Int) ≤ x1) (h2 : (0 : Int) < x2) (k : Ok X (ratio_Gcd_h0 x2 (x1 % x2))) :
    Ok X (ratio_Gcd_h0 x1 x2) :=
  Ok.cutM 15 [.b false, .draw 5 [] 0] [[true, true, false, false, false, false, false, false, false, false, false, false]] [] 0 hX.P hX.gl hX.n0 (by kernel_rfl) (by kernel_rfl) (by exact trivial) (AllP.c (beq_eq_false_iff_ne.2 h0) (AllP.c h1 (AllP.c h2 AllP.n))) k

theorem rGcd_loop {X : Cx} {g : Nat} (hX : IsFin X Tryd.prog GL 51 [] (N .u64 (g : Int)) []) : ∀ (m a b : Nat), b ≤ m → Nat.gcd a b = g → Ok X (ratio_Gcd_h0 (a : Int) (b : Int)) := by
  intro m
  induction m with
  | zero =>
    intro a b hm hg
    have : b = 0 := by omega
    subst this
    rw [Nat.gcd_zero_right] at hg
    subst hg
    exact ratio_Gcd_2 hX rfl
  | succ m ih =>
    intro a b hm hg
    by_cases h : b = 0
    · subst h
      rw [Nat.gcd_zero_right] at hg
      subst hg
      exact ratio_Gcd_2 hX rfl
    · have h1 := Nat.mod_lt a (Nat.pos_of_ne_zero h)
      refine ratio_Gcd_3 hX (by omega) (by omega) (by omega) ?_
      refine ih b (a % b) (by omega) ?_
      rw [← hg, Nat.gcd_comm a b, Nat.gcd_rec b a, Nat.gcd_comm]

theorem rGcd (a b : Nat) : SCall Tryd.prog GL 51 [N .u64 (a : Int), N .u64 (b : Int)] [] (N .u64 ((Nat.gcd a b : Nat) : Int)) [] := by
  by_cases h : b = 0
  · subst h
    rw [Nat.gcd_zero_right]
    exact ratio_Gcd_0 rfl
  · refine SCall.of (by kernel_rfl) rfl trivial rfl (fun X hX => ?_)
    refine ratio_Gcd_1 hX (by omega) (by omega) (by omega) ?_
    refine rGcd_loop hX (a % b) b (a % b) (Nat.le_refl _) ?_
    rw [Nat.gcd_comm a b, Nat.gcd_rec b a, Nat.gcd_comm]



theorem ratio_told_0 {a1 : Int} {a2 : Int} {a3 : Int} {a4 : Int} {r5 : Int} {r6 : Int} {r7 : Int} (h0 : SCall Tryd.prog GL 53 [N .u64 4611686018427387904] [] (.agg [N .u64 r5, N .u64 r6]) []) (h1 : SCall Tryd.prog GL 64 [.agg [N .u64 a1, N .u64 a2], .agg [N .u64 r5, N .u64 r6]] [] (I r7) []) (h2 : r7 > 0) :
    SCall Tryd.prog GL 52 [.agg [N .u64 a1, N .u64 a2], .agg [N .u64 a3, N .u64 a4]] [] (.tup [.agg [I 0, I 0], I 6]) [] :=
  SCall.path 34 [.call [] (.agg [N .u64 r5, N .u64 r6]) [], .call [] (I r7) [], .b true, .b true, .b true, .b true, .b true, .b true] [] 4 (by kernel_rfl) rfl (by exact trivial) (AllP.c h0 (AllP.c h1 (AllP.c (decide_eq_true h2) (AllP.c (decide_eq_true h2) (AllP.c (decide_eq_true h2) (AllP.c (decide_eq_true h2) (AllP.c (decide_eq_true h2) (AllP.c (show true = true from rfl) AllP.n))))))))
theorem ratio_told_1 {a1 : Int} {a2 : Int} {a3 : Int} {a4 : Int} {r5 : Int} {r6 : Int} {r7 : Int} {r8 : Int} (h0 : SCall Tryd.prog GL 53 [N .u64 4611686018427387904] [] (.agg [N .u64 r5, N .u64 r6]) []) (h1 : SCall Tryd.prog GL 64 [.agg [N .u64 a1, N .u64 a2], .agg [N .u64 r5, N .u64 r6]] [] (I r7) []) (h2 : ¬ r7 > 0) (h3 : SCall Tryd.prog GL 64 [.agg [N .u64 a3, N .u64 a4], .agg [N .u64 r5, N .u64 r6]] [] (I r8) []) (h4 : r8 > 0) :
    SCall Tryd.prog GL 52 [.agg [N .u64 a1, N .u64 a2], .agg [N .u64 a3, N .u64 a4]] [] (.tup [.agg [I 0, I 0], I 6]) [] :=
  SCall.path 34 [.call [] (.agg [N .u64 r5, N .u64 r6]) [], .call [] (I r7) [], .b false, .b false, .b false, .call [] (I r8) [], .b false, .b false, .b true] [] 4 (by kernel_rfl) rfl (by exact trivial) (AllP.c h0 (AllP.c h1 (AllP.c (decide_eq_false h2) (AllP.c (decide_eq_false h2) (AllP.c (decide_eq_false h2) (AllP.c h3 (AllP.c (decide_eq_false h2) (AllP.c (decide_eq_false h2) (AllP.c (decide_eq_true h4) AllP.n)))))))))
theorem ratio_told_2 {a1 : Int} {a2 : Int} {a3 : Int} {a4 : Int} {r5 : Int} {r6 : Int} {r7 : Int} {r8 : Int} (h0 : SCall Tryd.prog GL 53 [N .u64 4611686018427387904] [] (.agg [N .u64 r5, N .u64 r6]) []) (h1 : SCall Tryd.prog GL 64 [.agg [N .u64 a1, N .u64 a2], .agg [N .u64 r5, N .u64 r6]] [] (I r7) []) (h2 : ¬ r7 > 0) (h3 : SCall Tryd.prog GL 64 [.agg [N .u64 a3, N .u64 a4], .agg [N .u64 r5, N .u64 r6]] [] (I r8) []) (h4 : ¬ r8 > 0) (h5 : InR .i64 a2) (h6 : InR .i64 a4) :
    SCall Tryd.prog GL 52 [.agg [N .u64 a1, N .u64 a2], .agg [N .u64 a3, N .u64 a4]] [] (.tup [.agg [I a2, I a4], I 0]) [] :=
  SCall.path 41 [.call [] (.agg [N .u64 r5, N .u64 r6]) [], .call [] (I r7) [], .b false, .b false, .b false, .call [] (I r8) [], .b false, .b false, .b false] [] 4 (by kernel_rfl) rfl (by exact trivial) (AllP.c h0 (AllP.c h1 (AllP.c (decide_eq_false h2) (AllP.c (decide_eq_false h2) (AllP.c (decide_eq_false h2) (AllP.c h3 (AllP.c (decide_eq_false h2) (AllP.c (decide_eq_false h2) (AllP.c (decide_eq_false h4) (AllP.c h5 (AllP.c h6 AllP.n)))))))))))

def mkT (n d : Nat) : Int × Int × Int := if n > 4611686018427387904 ∨ d > 4611686018427387904 then (0, 0, 6) else ((n : Int), (d : Int), 0)

theorem rtold (n d : Nat) : SCall Tryd.prog GL 52 [wideV n, wideV d] [] (RT (mkT n d)) [] := by
  have c0 := @Of_wide 4611686018427387904 (by decide)
  have c1 := Cmp_wide n 4611686018427387904
  have c2 := Cmp_wide d 4611686018427387904
  have hc : ∀ x : Nat, cmpI (x : Int) ((4611686018427387904 : Nat) : Int) > 0 ↔ x > 4611686018427387904 := by
    intro x; unfold cmpI; split <;> (try split) <;> omega
  unfold mkT
  by_cases h1 : n > 4611686018427387904
  · rw [if_pos (.inl h1)]
    exact ratio_told_0 c0 c1 ((hc _).2 h1)
  · by_cases h2 : d > 4611686018427387904
    · rw [if_pos (.inr h2)]
      exact ratio_told_1 c0 c1 (fun h => h1 ((hc _).1 h)) c2 ((hc _).2 h2)
    · rw [if_neg (by omega)]
      have h := @ratio_told_2 ((n / 18446744073709551616 : Nat) : Int) ((n % 18446744073709551616 : Nat) : Int) ((d / 18446744073709551616 : Nat) : Int) ((d % 18446744073709551616 : Nat) : Int) _ _ _ _ c0 c1 (fun h => h1 ((hc _).1 h)) c2 (fun h => h2 ((hc _).1 h)) (by simp only [InR]; omega) (by simp only [InR]; omega)
      rw [show n % 18446744073709551616 = n by omega, show d % 18446744073709551616 = d by omega] at h
      unfold wideV
      rw [show n % 18446744073709551616 = n by omega, show d % 18446744073709551616 = d by omega]
      exact h



theorem ratio_New_0 {a1 : Int} {a2 : Int} (h0 : a1 < 0) :
    SCall Tryd.prog GL 31 [I a1, I a2] [] (.tup [.agg [I 0, I 0], I 1]) [] :=
  SCall.path 24 [.b true, .b true, .b true, .b true] [] 1 (by kernel_rfl) rfl (by exact trivial) (AllP.c (decide_eq_true h0) (AllP.c (decide_eq_true h0) (AllP.c (decide_eq_true h0) (AllP.c (show true = true from rfl) AllP.n))))
theorem ratio_New_1 {a1 : Int} {a2 : Int} (h0 : ¬ a1 < 0) (h1 : a2 < 0) :
    SCall Tryd.prog GL 31 [I a1, I a2] [] (.tup [.agg [I 0, I 0], I 1]) [] :=
  SCall.path 24 [.b false, .b false, .b false, .b true] [] 1 (by kernel_rfl) rfl (by exact trivial) (AllP.c (decide_eq_false h0) (AllP.c (decide_eq_false h0) (AllP.c (decide_eq_false h0) (AllP.c (decide_eq_true h1) AllP.n))))
theorem ratio_New_2 {a1 : Int} {a2 : Int} (h0 : ¬ a1 < 0) (h1 : ¬ a2 < 0) (h2 : a2 = 0) :
    SCall Tryd.prog GL 31 [I a1, I a2] [] (.tup [.agg [I 0, I 0], I 7]) [] :=
  SCall.path 31 [.b false, .b false, .b false, .b false, .b true] [] 1 (by kernel_rfl) rfl (by exact trivial) (AllP.c (decide_eq_false h0) (AllP.c (decide_eq_false h0) (AllP.c (decide_eq_false h0) (AllP.c (decide_eq_false h1) (AllP.c (beq_iff_eq.2 h2) AllP.n)))))
theorem ratio_New_3 {a1 : Int} {a2 : Int} {r3 : Int} {r4 : Int} {r5 : Int} {r6 : Int} {r7 : Int} {r8 : Int} {r9 : Int} {r10 : Int} (h0 : ¬ a1 < 0) (h1 : ¬ a2 < 0) (h2 : a2 ≠ 0) (h3 : InR .u64 a1) (h4 : InR .u64 a2) (h5 : SCall Tryd.prog GL 51 [N .u64 a1, N .u64 a2] [] (N .u64 r3) []) (h6 : (0 : Int) ≤ a1) (h7 : (0 : Int) < r3) (h8 : InR .u64 (a1 / r3)) (h9 : SCall Tryd.prog GL 53 [N .u64 (a1 / r3)] [] (.agg [N .u64 r4, N .u64 r5]) []) (h10 : (0 : Int) ≤ a2) (h11 : InR .u64 (a2 / r3)) (h12 : SCall Tryd.prog GL 53 [N .u64 (a2 / r3)] [] (.agg [N .u64 r6, N .u64 r7]) []) (h13 : SCall Tryd.prog GL 52 [.agg [N .u64 r4, N .u64 r5], .agg [N .u64 r6, N .u64 r7]] [] (.tup [.agg [I r8, I r9], I r10]) []) :
    SCall Tryd.prog GL 31 [I a1, I a2] [] (.tup [.agg [I r8, I r9], I r10]) [] :=
  SCall.path 41 [.b false, .b false, .b false, .b false, .b false, .call [] (N .u64 r3) [], .draw 13 [] 0, .call [] (.agg [N .u64 r4, N .u64 r5]) [], .call [] (.agg [N .u64 r6, N .u64 r7]) [], .call [] (.tup [.agg [I r8, I r9], I r10]) []] [] 1 (by kernel_rfl) rfl (by exact trivial) (AllP.c (decide_eq_false h0) (AllP.c (decide_eq_false h0) (AllP.c (decide_eq_false h0) (AllP.c (decide_eq_false h1) (AllP.c (beq_eq_false_iff_ne.2 h2) (AllP.c h3 (AllP.c h4 (AllP.c h5 (AllP.c h3 (AllP.c h6 (AllP.c h7 (AllP.c h8 (AllP.c h9 (AllP.c h4 (AllP.c h10 (AllP.c h7 (AllP.c h11 (AllP.c h12 (AllP.c h13 AllP.n)))))))))))))))))))

theorem mkR_T (n d : Nat) : mkR n d = mkT (n / Nat.gcd n d) (d / Nat.gcd n d) := rfl

theorem r_New {n d : Nat} (hn : n < 9223372036854775808) (hd : d < 9223372036854775808) (hd0 : d ≠ 0) : SCall Tryd.prog GL 31 [I (n : Int), I (d : Int)] [] (RT (mkR n d)) [] := by
  have hg0 : Nat.gcd n d ≠ 0 := fun h => hd0 (Nat.eq_zero_of_gcd_eq_zero_right h)
  have e1 : (n : Int) / ((Nat.gcd n d : Nat) : Int) = ((n / Nat.gcd n d : Nat) : Int) := by simp
  have e2 : (d : Int) / ((Nat.gcd n d : Nat) : Int) = ((d / Nat.gcd n d : Nat) : Int) := by simp
  have l1 := Nat.div_le_self n (Nat.gcd n d)
  have l2 := Nat.div_le_self d (Nat.gcd n d)
  have c := rtold (n / Nat.gcd n d) (d / Nat.gcd n d)
  have c1 := @Of_wide (n / Nat.gcd n d) (by omega)
  have c2 := @Of_wide (d / Nat.gcd n d) (by omega)
  have c0 := rGcd n d
  rw [← mkR_T] at c
  rw [← e1] at c1
  rw [← e2] at c2
  refine ratio_New_3 (by omega) (by omega) (by omega) (by simp only [InR]; omega) (by simp only [InR]; omega) c0 (by omega) (by omega) ?_ c1 (by omega) ?_ c2 c
  · rw [e1]; generalize n / Nat.gcd n d = q at *; simp only [InR]; omega
  · rw [e2]; generalize d / Nat.gcd n d = q at *; simp only [InR]; omega



theorem ratio_Add_0 {a1 : Int} {a2 : Int} {a3 : Int} {a4 : Int} {r5 : Int} {r6 : Int} {r7 : Int} {r8 : Int} {r9 : Int} {r10 : Int} {r11 : Int} {r12 : Int} {r13 : Int} {r14 : Int} {r15 : Int} {r16 : Int} {r17 : Int} {r18 : Int} {r19 : Int} {r20 : Int} {r21 : Int} {r22 : Int} {r23 : Int} {r24 : Int} {r25 : Int} {r26 : Int} (h0 : InR .u64 a2) (h1 : InR .u64 a4) (h2 : SCall Tryd.prog GL 51 [N .u64 a2, N .u64 a4] [] (N .u64 r5) []) (h3 : InR .u64 a1) (h4 : (0 : Int) ≤ a4) (h5 : (0 : Int) < r5) (h6 : InR .u64 (a4 / r5)) (h7 : SCall Tryd.prog GL 55 [N .u64 a1, N .u64 (a4 / r5)] [] (.agg [N .u64 r6, N .u64 r7]) []) (h8 : InR .u64 a3) (h9 : (0 : Int) ≤ a2) (h10 : InR .u64 (a2 / r5)) (h11 : SCall Tryd.prog GL 55 [N .u64 a3, N .u64 (a2 / r5)] [] (.agg [N .u64 r8, N .u64 r9]) []) (h12 : SCall Tryd.prog GL 54 [.agg [N .u64 r6, N .u64 r7], .agg [N .u64 r8, N .u64 r9]] [] (.tup [.agg [N .u64 r10, N .u64 r11], I r12]) []) (h13 : SCall Tryd.prog GL 56 [.agg [N .u64 r10, N .u64 r11], N .u64 r5] [] (.tup [.agg [N .u64 r13, N .u64 r14], N .u64 r15, I r16]) []) (h14 : SCall Tryd.prog GL 51 [N .u64 r15, N .u64 r5] [] (N .u64 r17) []) (h15 : SCall Tryd.prog GL 56 [.agg [N .u64 r10, N .u64 r11], N .u64 r17] [] (.tup [.agg [N .u64 r18, N .u64 r19], N .u64 r20, I r21]) []) (h16 : (0 : Int) < r17) (h17 : InR .u64 (a4 / r17)) (h18 : SCall Tryd.prog GL 55 [N .u64 (a2 / r5), N .u64 (a4 / r17)] [] (.agg [N .u64 r22, N .u64 r23]) []) (h19 : SCall Tryd.prog GL 52 [.agg [N .u64 r18, N .u64 r19], .agg [N .u64 r22, N .u64 r23]] [] (.tup [.agg [I r24, I r25], I r26]) []) :
    SCall Tryd.prog GL 32 [.agg [I a1, I a2], .agg [I a3, I a4]] [] (.tup [.agg [I r24, I r25], I r26]) [] :=
  SCall.path 59 [.draw 7 [] 0, .call [] (N .u64 r5) [], .draw 19 [17] 1, .call [] (.agg [N .u64 r6, N .u64 r7]) [], .call [] (.agg [N .u64 r8, N .u64 r9]) [], .call [] (.tup [.agg [N .u64 r10, N .u64 r11], I r12]) [], .call [] (.tup [.agg [N .u64 r13, N .u64 r14], N .u64 r15, I r16]) [], .call [] (N .u64 r17) [], .call [] (.tup [.agg [N .u64 r18, N .u64 r19], N .u64 r20, I r21]) [], .draw 11 [] 0, .call [] (.agg [N .u64 r22, N .u64 r23]) [], .call [] (.tup [.agg [I r24, I r25], I r26]) []] [] 5 (by kernel_rfl) rfl (by exact trivial) (AllP.c h0 (AllP.c h1 (AllP.c h2 (AllP.c h3 (AllP.c h4 (AllP.c h5 (AllP.c h6 (AllP.c h7 (AllP.c h8 (AllP.c h9 (AllP.c h5 (AllP.c h10 (AllP.c h11 (AllP.c h12 (AllP.c (show (I r12 : SV) = I r12 from rfl) (AllP.c (show (I r12 : SV) = I r12 from rfl) (AllP.c h13 (AllP.c h14 (AllP.c h15 (AllP.c h9 (AllP.c h5 (AllP.c h10 (AllP.c h4 (AllP.c h16 (AllP.c h17 (AllP.c h18 (AllP.c h19 AllP.n)))))))))))))))))))))))))))

/-- Why a sum of two reduced fractions is reduced by what divides its numerator and the denominators' common part. -/
theorem sum_gcd {a p b q : Nat} (hp : p ≠ 0) (hq : q ≠ 0) (ha : Nat.Coprime a p) (hb : Nat.Coprime b q) :
    Nat.gcd (a * q + b * p) (p * q) = Nat.gcd p q * Nat.gcd (a * (q / Nat.gcd p q) + b * (p / Nat.gcd p q)) (Nat.gcd p q) := by
  have hg : 0 < Nat.gcd p q := Nat.pos_of_ne_zero fun h => hp (Nat.eq_zero_of_gcd_eq_zero_left h)
  obtain ⟨p', hp'⟩ := Nat.gcd_dvd_left p q
  obtain ⟨q', hq'⟩ := Nat.gcd_dvd_right p q
  have hc := Nat.coprime_div_gcd_div_gcd hg
  generalize Nat.gcd p q = g at *
  subst hp' hq'
  rw [Nat.mul_div_cancel_left _ hg, Nat.mul_div_cancel_left _ hg] at *
  have ha' : Nat.Coprime a p' := Nat.Coprime.coprime_dvd_right (Nat.dvd_mul_left _ _) ha
  have hb' : Nat.Coprime b q' := Nat.Coprime.coprime_dvd_right (Nat.dvd_mul_left _ _) hb
  have h1 : Nat.Coprime p' (a * q' + b * p') := by
    rw [Nat.coprime_comm]
    show Nat.gcd _ _ = 1
    rw [Nat.gcd_add_mul_right_left]
    exact Nat.Coprime.mul_left ha' (Nat.coprime_comm.1 hc)
  have h2 : Nat.Coprime q' (a * q' + b * p') := by
    rw [Nat.coprime_comm]
    show Nat.gcd _ _ = 1
    rw [Nat.gcd_mul_right_add_left]
    exact Nat.Coprime.mul_left hb' hc
  rw [show a * (g * q') + b * (g * p') = g * (a * q' + b * p') by rw [Nat.mul_add, Nat.mul_left_comm, Nat.mul_left_comm b], Nat.mul_assoc g p' (g * q'), Nat.gcd_mul_left]
  congr 1
  rw [Nat.Coprime.gcd_mul_left_cancel_right _ h1, Nat.Coprime.gcd_mul_right_cancel_right _ h2]

theorem r_Add {a p b q : Nat} (hp : p ≠ 0) (hq : q ≠ 0) (ha : Nat.Coprime a p) (hb : Nat.Coprime b q) (ha1 : a < 9223372036854775808) (hb1 : b < 9223372036854775808) (hp1 : p < 9223372036854775808) (hq1 : q < 9223372036854775808) (hs : a * (q / Nat.gcd p q) + b * (p / Nat.gcd p q) < 18446744073709551616) :
    SCall Tryd.prog GL 32 [.agg [I (a : Int), I (p : Int)], .agg [I (b : Int), I (q : Int)]] [] (RT (mkR (a * q + b * p) (p * q))) [] := by
  have hg : 0 < Nat.gcd p q := Nat.pos_of_ne_zero fun h => hp (Nat.eq_zero_of_gcd_eq_zero_left h)
  have hsum := sum_gcd hp hq ha hb
  have l1 := Nat.div_le_self q (Nat.gcd p q)
  have l2 := Nat.div_le_self p (Nat.gcd p q)
  have c2 := rGcd p q
  have c7 := @Mul_wide a (q / Nat.gcd p q) (by omega) (by omega)
  have c11 := @Mul_wide b (p / Nat.gcd p q) (by omega) (by omega)
  have c12 := @Add_wide (a * (q / Nat.gcd p q)) (b * (p / Nat.gcd p q)) (by omega)
  have c13 := @Div_wide (a * (q / Nat.gcd p q) + b * (p / Nat.gcd p q)) (Nat.gcd p q) (by omega) (by omega)
  have c14 := rGcd ((a * (q / Nat.gcd p q) + b * (p / Nat.gcd p q)) % Nat.gcd p q) (Nat.gcd p q)
  have hh : Nat.gcd ((a * (q / Nat.gcd p q) + b * (p / Nat.gcd p q)) % Nat.gcd p q) (Nat.gcd p q) = Nat.gcd (a * (q / Nat.gcd p q) + b * (p / Nat.gcd p q)) (Nat.gcd p q) := by
    rw [← Nat.gcd_rec, Nat.gcd_comm]
  rw [hh] at c14
  have hh0 : 0 < Nat.gcd (a * (q / Nat.gcd p q) + b * (p / Nat.gcd p q)) (Nat.gcd p q) := Nat.pos_of_ne_zero fun h => absurd (Nat.eq_zero_of_gcd_eq_zero_right h) (by omega)
  have hhd : Nat.gcd (a * (q / Nat.gcd p q) + b * (p / Nat.gcd p q)) (Nat.gcd p q) ∣ q := Nat.dvd_trans (Nat.gcd_dvd_right _ _) (Nat.gcd_dvd_right p q)
  have hgp := Nat.gcd_dvd_left p q
  have hgq := Nat.gcd_dvd_right p q
  have l5 := Nat.div_le_self q (Nat.gcd (a * (q / Nat.gcd p q) + b * (p / Nat.gcd p q)) (Nat.gcd p q))
  have c15 := @Div_wide (a * (q / Nat.gcd p q) + b * (p / Nat.gcd p q)) (Nat.gcd (a * (q / Nat.gcd p q) + b * (p / Nat.gcd p q)) (Nat.gcd p q)) (by omega) (by omega)
  have c18 := @Mul_wide (p / Nat.gcd p q) (q / Nat.gcd (a * (q / Nat.gcd p q) + b * (p / Nat.gcd p q)) (Nat.gcd p q)) (by omega) (by omega)
  have c19 := rtold ((a * (q / Nat.gcd p q) + b * (p / Nat.gcd p q)) / Nat.gcd (a * (q / Nat.gcd p q) + b * (p / Nat.gcd p q)) (Nat.gcd p q)) (p / Nat.gcd p q * (q / Nat.gcd (a * (q / Nat.gcd p q) + b * (p / Nat.gcd p q)) (Nat.gcd p q)))
  have e1 : (q : Int) / ((Nat.gcd p q : Nat) : Int) = ((q / Nat.gcd p q : Nat) : Int) := by simp
  have e2 : (p : Int) / ((Nat.gcd p q : Nat) : Int) = ((p / Nat.gcd p q : Nat) : Int) := by simp
  have e3 : ∀ h : Nat, (q : Int) / (h : Int) = ((q / h : Nat) : Int) := fun h => by simp
  rw [mkR_T, hsum]
  have hn : (a * q + b * p) / (Nat.gcd p q * Nat.gcd (a * (q / Nat.gcd p q) + b * (p / Nat.gcd p q)) (Nat.gcd p q)) = (a * (q / Nat.gcd p q) + b * (p / Nat.gcd p q)) / Nat.gcd (a * (q / Nat.gcd p q) + b * (p / Nat.gcd p q)) (Nat.gcd p q) := by
    rw [← Nat.div_div_eq_div_mul]
    congr 1
    exact Nat.div_eq_of_eq_mul_left hg (by rw [Nat.add_mul, Nat.mul_assoc, Nat.div_mul_cancel hgq, Nat.mul_assoc, Nat.div_mul_cancel hgp])
  have hd : p * q / (Nat.gcd p q * Nat.gcd (a * (q / Nat.gcd p q) + b * (p / Nat.gcd p q)) (Nat.gcd p q)) = p / Nat.gcd p q * (q / Nat.gcd (a * (q / Nat.gcd p q) + b * (p / Nat.gcd p q)) (Nat.gcd p q)) :=
    Nat.mul_div_mul_comm hgp hhd
  rw [hn, hd]
  generalize hG : Nat.gcd p q = g at *
  generalize hH : Nat.gcd (a * (q / g) + b * (p / g)) g = h at *
  rw [← e1] at c7
  rw [← e2] at c11 c18
  rw [← e3] at c18
  refine ratio_Add_0 (by simp only [InR]; omega) (by simp only [InR]; omega) c2 (by simp only [InR]; omega) (by omega) (by omega) ?_ c7 (by simp only [InR]; omega) (by omega) ?_ c11 c12 c13 c14 c15 (by omega) ?_ c18 c19
  · rw [e1]; generalize q / g = x at *; simp only [InR]; omega
  · rw [e2]; generalize p / g = x at *; simp only [InR]; omega
  · rw [e3]; generalize q / h = x at *; simp only [InR]; omega


end Go.Proofs.YtigjggkendgjeaaDoor
