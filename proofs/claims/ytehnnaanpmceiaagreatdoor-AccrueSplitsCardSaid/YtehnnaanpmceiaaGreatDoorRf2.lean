/-
  Fractions of the document's answer, of any ints at all: numbers below 0 are read as of 64 bits; below may be 0.
-/
import Derived.Test.YtehnnaanpmceiaaGreatDoorRef2
import Derived.Test.YtehnnaanpmceiaaGreatDoorProg
import Derived.KernelRfl
set_option linter.unusedVariables false
set_option linter.unusedSimpArgs false
set_option linter.unusedSectionVars false
set_option maxRecDepth 100000
namespace Go.Proofs.YtehnnaanpmceiaaGreatDoor
open Go Go.Sx
variable [Env]

/-- An int, as of 64 bits. -/
def uX (v : Int) : Nat := (Wu v).toNat
theorem Wu_eq (v : Int) : Wu v = v % 18446744073709551616 := rfl
theorem uX_lt (v : Int) : uX v < 18446744073709551616 := by unfold uX; rw [Wu_eq]; omega
theorem Wu_uX (v : Int) : Wu v = ((uX v : Nat) : Int) := by unfold uX; rw [Wu_eq]; omega
theorem uX_nat {n : Nat} (h : n < 9223372036854775808) : uX (n : Int) = n := by unfold uX; rw [Wu_eq]; omega

theorem FromX (v : Int) : S 69 [I v] [] (.agg [.sl 0 (ln (uX v))]) [BR true (uX v)] := by
  have h := FromU (uX_lt v)
  rw [← Wu_uX] at h
  exact SCall.st fun X hX => hX.e [h_ [.cw], c_ [] h] [1]

theorem bigX (n d : Int) : S 60 [.agg [I n, I d]] [] (.tup [.agg [.sl 0 (ln (uX n))], .agg [.sl 1 (ln (uX d))]]) [BR true (uX n), BR true (uX d)] :=
  SCall.st fun X hX => hX.e [d_ 5, c_ [] (FromX n), c_ [] (FromX d)] [3, 4]

theorem dg_zero : dg 0 = fun _ => default := funext fun i => dg_out (by rw [ln_zero]; omega)

/-- Nothing by nothing. -/
theorem Quot00 : S 96 [.agg [.sl 0 (ln 0)], .agg [.sl 1 (ln 0)]] [BR false 0, BR false 0] (.tup [.agg [.sl 2 (ln 0)], .agg [.sl 3 (ln 0)]]) [BR true 0, BR true 0] := by
  have h1 := @trim _ 0 (fun _ => 0) (fun k hk => by omega) (by decide)
  rw [show vl (fun _ => 0) 0 = 0 from rfl] at h1
  unfold BR at h1 ⊢
  rw [ln_zero, dg_zero] at h1 ⊢
  refine SCall.of (by kernel_rfl) rfl ⟨fun i => rfl, fun i => rfl, trivial⟩ rfl (fun X hX => ?_)
  refine demurrageref01_Quot_0 hX (by omega) (by omega) (by omega) (by simp only [InR]; omega) ?_
  exact demurrageref01_Quot_2 hX (by decide) h1

theorem QuotS (b : Nat) (h : ln b ≤ 500) : S 96 [.agg [.sl 0 (ln b)], .agg [.sl 0 (ln b)]] [BR false b] (.tup [.agg [.sl 1 (ln (b / b))], .agg [.sl 2 (ln (b % b))]]) [BR true (b / b), BR true (b % b)] := by
  by_cases c : b = 0
  · subst c
    exact SCall.dup Quot00 rfl (fun i => rfl) ⟨fun i => rfl, fun i => rfl, trivial⟩ rfl rfl
  · exact Quot_self c h

theorem Quot0b (b : Nat) (h : ln b ≤ 500) : S 96 [.agg [.sl 0 (ln 0)], .agg [.sl 1 (ln b)]] [BR false 0, BR false b] (.tup [.agg [.sl 2 (ln (0 / b))], .agg [.sl 3 (ln (0 % b))]]) [BR true (0 / b), BR true (0 % b)] := by
  by_cases c : b = 0
  · subst c; exact Quot00
  · exact Quot c (by rw [ln_zero]; omega) h

theorem Gcd0 (a : Nat) : S 95 [.agg [.sl 0 (ln a)], .agg [.sl 1 (ln 0)]] [BR false a, BR false 0] (.agg [.sl 0 (ln a)]) [] := by
  refine SCall.of (by kernel_rfl) rfl ⟨fun i => rfl, fun i => rfl, trivial⟩ rfl (fun X hX => ?_)
  exact demurrageref02_Gcd_0 hX (demurrageref02_Gcd_2 hX (by rw [ln_zero]; decide))

theorem MadeX {n d : Nat} (hn : ln n ≤ 500) (hd : ln d ≤ 500) : S 61 [.agg [.sl 0 (ln n)], .agg [.sl 1 (ln d)]] [BR false n, BR false d] (RT (mkR n d)) [] := by
  by_cases c : d = 0
  rotate_left
  · exact Made c hn hd
  subst c
  have e1 : n / n ≤ 1 := by
    rcases Nat.eq_zero_or_pos n with h | h
    · subst h; decide
    · rw [Nat.div_self h]; decide
  have e2 : 0 / n = 0 := Nat.zero_div n
  have l1 : ln (n / n) ≤ 500 := Nat.le_trans (ln5 (by omega)) (by decide)
  have l2 : ln (0 / n) ≤ 500 := Nat.le_trans (ln5 (by omega)) (by decide)
  have hm : ln 4611686018427387904 ≤ 500 := Nat.le_trans (ln5 (by decide)) (by decide)
  have c4 := @FromU _ 4611686018427387904 (by decide)
  have c5 := Cmp (a := n / n) (b := 4611686018427387904) (by omega) (by omega)
  have c6 := Cmp (a := 0 / n) (b := 4611686018427387904) (by omega) (by omega)
  have k5 : ¬ cmpI ((n / n : Nat) : Int) ((4611686018427387904 : Nat) : Int) > 0 := by unfold cmpI; split <;> (try split) <;> omega
  have k6 : ¬ cmpI ((0 / n : Nat) : Int) ((4611686018427387904 : Nat) : Int) > 0 := by unfold cmpI; split <;> (try split) <;> omega
  have em : mkR n 0 = (((n / n : Nat) : Int), ((0 / n : Nat) : Int), 0) := by
    unfold mkR; rw [Nat.gcd_zero_right, if_neg (by omega)]
  rw [em]
  exact SCall.st fun X hX => hX.e [c_ [0, 1] (Gcd0 n), c_ [0] (QuotS n hn), c_ [1, 0] (Quot0b n hn), c_ [] c4, c_ [6, 14] c5, f_ (df k5), f_ (df k5), f_ (df k5), c_ [10, 14] c6, f_ (df k5), f_ (df k5), f_ (df k6), d_ 3, c_ [6] (value (a := n / n) (by omega)), c_ [10] (value (a := 0 / n) (by omega))]

theorem ref_AddX (a b c d : Int) : S 28 [.agg [I a, I b], .agg [I c, I d]] [] (RT (mkR (uX a * uX d + uX c * uX b) (uX b * uX d))) [] := by
  have l : ∀ v, ln (uX v) ≤ 5 := fun v => ln_le_iff.2 (by have := uX_lt v; omega)
  have h1 := l a
  have h2 := l b
  have h3 := l c
  have h4 := l d
  have h5 := ln_mul (uX a) (uX d)
  have h6 := ln_mul (uX c) (uX b)
  have h7 := ln_mul (uX b) (uX d)
  have h8 := ln_add (uX a * uX d) (uX c * uX b)
  exact SCall.st fun X hX => hX.e [c_ [] (bigX a b), c_ [] (bigX c d), d_ 13, c_ [3, 8] (Prod (a := uX a) (b := uX d) (by omega) (by omega)), c_ [7, 4] (Prod (a := uX c) (b := uX b) (by omega) (by omega)), c_ [11, 12] (Plus (a := uX a * uX d) (b := uX c * uX b) (by omega) (by omega)), c_ [4, 8] (Prod (a := uX b) (b := uX d) (by omega) (by omega)), c_ [13, 14] (MadeX (n := uX a * uX d + uX c * uX b) (d := uX b * uX d) (by omega) (by omega))]

end Go.Proofs.YtehnnaanpmceiaaGreatDoor
