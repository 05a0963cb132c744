/-
  The laws of chapter 15 (terms): their contracts.
-/
import Derived.Test.YtehnnaanpmceiaaGreatDoorTm
import Derived.Test.YtehnnaanpmceiaaGreatDoorProg
import Derived.KernelRfl
set_option linter.unusedVariables false
set_option linter.unusedSimpArgs false
set_option linter.unusedSectionVars false
set_option maxRecDepth 100000
namespace Go.Proofs.YtehnnaanpmceiaaGreatDoor
open Go Go.Sx
variable [EnvT]

theorem shown15 : S 39 [] [] (B true) [] :=
  SCall.st fun X hX => hX.e [n_ 5 (i_), c_ [] (tKind (⟨#[101, 113, 117, 97, 108]⟩ : ByteArray)), c_ [] (tKind (⟨#[]⟩ : ByteArray)), c_ [] (tCheck 100000 500 0 0 738945 739311 3 false false false 0), t_ rt, t_ rt, c_ [] (tCheck 100000 500 0 0 738945 739311 5 false false false 0), n_ 4 (t_ rt), c_ [] (tCheck 100000 500 0 0 738945 738945 3 false false false 0), n_ 4 (t_ rt), c_ [] (tCheck 1000000000000001 500 0 0 738945 739311 3 false false false 0), n_ 4 (t_ rt), c_ [] (tCheck 100000 500 0 0 0 739311 3 false false false 0), n_ 12 (t_ rt), c_ [] (tName 2), n_ 3 (t_ rt), c_ [] (tName 3), n_ 3 (t_ rt), c_ [] (tFreq 4), n_ 3 (t_ rt), c_ [] (tFreq 5), t_ rt, t_ rt]

theorem bt_to {b : Bool} (h : b = true) : B true = B b := by rw [h]

theorem termsTells_ok {a1 a2 a3 a4 a5 a6 a7 : Int} {a8 a9 a10 : Bool} {a11 a12 : Int} {a13 : ByteArray} :
    S 14 [.agg [I a1, I a2, I a3, I a4, I a5, I a6, I a7, B a8, B a9, B a10, I a11], I a12, .val (.string a13)] [] (B true) [] := by
  refine SCall.st fun X hX => ?_
  refine hX.go [c_ [] shown15] ?_
  by_cases h0 : (a13.size : Int) > 40
  · exact hX.e [t_ (dt h0)]
  · refine hX.go [f_ (df h0), c_ [] (tKind a13), c_ [] (rKind15 a13)] ?_
    have r : ∀ x : Int, (x == x) = true := fun x => beq_self_eq_true x
    have h1 := r (chk a1 a2 a3 a4 a5 a6 a7 a11)
    have h2 : ((nm3 a12).toList == (nm3 a12).toList) = true := beq_self_eq_true _
    have h3 := r (kind3 a13).1
    have h4 := r (kind3 a13).2
    exact (hX.to (bt_to (r (frq a12)))).e [d_ 29, t_ rt, t_ rt, c_ [] (tCheck a1 a2 a3 a4 a5 a6 a7 a8 a9 a10 a11), t_ rt, t_ rt, c_ [] (rCheck a1 a2 a3 a4 a5 a6 a7 a8 a9 a10 a11), t_ rt, t_ rt, n_ 2 (t_ h1), c_ [] (tName a12), n_ 2 (t_ h1), c_ [] (rName15 a12), n_ 2 (t_ h1), n_ 4 (t_ h2), n_ 4 (t_ h3), n_ 2 (t_ h4), c_ [] (tFreq a12), n_ 2 (t_ h4), c_ [] (rFreq a12), n_ 2 (t_ h4)]

theorem chk_less {m r m' r' k c s e mo ro : Int} (h : chk m r k c s e mo ro = 0) (h1 : ¬ m' < 1) (h2 : ¬ m' > m) (h3 : ¬ r' < 0) (h4 : ¬ r' > r) : chk m' r' k c s e mo ro = 0 := by
  unfold chk at h ⊢
  by_cases c1 : k < 0 ∨ k > 2 ∨ c < 0 ∨ c > 6 ∨ ro < 0 ∨ ro > 4 ∨ frq mo = 0
  · rw [if_pos c1] at h; exact absurd h (by decide)
  rw [if_neg c1] at h ⊢
  by_cases c2 : isDay s = false ∨ isDay e = false
  · rw [if_pos c2] at h; exact absurd h (by decide)
  rw [if_neg c2] at h ⊢
  by_cases c3 : s ≥ e
  · rw [if_pos c3] at h; exact absurd h (by decide)
  rw [if_neg c3] at h ⊢
  by_cases c4 : m < 1 ∨ m > 1000000000000000 ∨ r < 0 ∨ r > 1000000 ∨ m * r > 9000000000000000000
  · rw [if_pos c4] at h; exact absurd h (by decide)
  have h5 : m' * r' ≤ m * r := Int.mul_le_mul (by omega) (by omega) (by omega) (by omega)
  rw [if_neg (by omega)]

theorem termsFree_ok {a1 a2 a3 a4 a5 a6 a7 : Int} {a8 a9 a10 : Bool} {a11 : Int} {a12 a13 a14 : Bool} {a15 a16 : Int} :
    S 15 [.agg [I a1, I a2, I a3, I a4, I a5, I a6, I a7, B a8, B a9, B a10, I a11, B a12, B a13, B a14, I a15, I a16]] [] (B true) [] := by
  have e0 : (chk a1 a2 a3 a4 a5 a6 a7 a11 != chk a1 a2 a3 a4 a5 a6 a7 a11) = false := bne_eq_false_iff_eq.2 rfl
  refine SCall.st fun X hX => ?_
  refine hX.go [c_ [] shown15, c_ [] (tCheck a1 a2 a3 a4 a5 a6 a7 a8 a9 a10 a11), c_ [] (tCheck a1 a2 a3 a4 a5 a6 a7 a12 a13 a14 a11), f_ e0, n_ 3 (t_ rt)] ?_
  by_cases h1 : (chk a1 a2 a3 a4 a5 a6 a7 a11) = 0
  · have n1 := bne_eq_false_iff_eq.2 h1
    refine hX.go [f_ n1, f_ n1, t_ rt, f_ n1, t_ rt] ?_
    by_cases h2 : a15 < 1
    · exact hX.e [n_ 4 (t_ (dt h2)), t_ rt, t_ (dt h2), n_ 19 (t_ rt)]
    · refine hX.go [n_ 4 (f_ (df h2)), t_ rt, f_ (df h2), t_ rt] ?_
      by_cases h3 : a15 > a1
      · exact hX.e [t_ (dt h3), t_ (dt h3), t_ rt, t_ (dt h3), n_ 14 (t_ rt)]
      · refine hX.go [f_ (df h3), f_ (df h3), t_ rt, f_ (df h3), t_ rt] ?_
        by_cases h4 : a16 < 0
        · exact hX.e [n_ 4 (t_ (dt h4)), t_ rt, t_ (dt h4), n_ 7 (t_ rt)]
        · refine hX.go [n_ 4 (f_ (df h4)), t_ rt, f_ (df h4), t_ rt] ?_
          by_cases h5 : a16 > a2
          · exact hX.e [n_ 3 (t_ (dt h5)), t_ rt, t_ (dt h5), t_ rt]
          · exact (hX.to (bt_to (beq_iff_eq.2 (chk_less h1 h2 h3 h4 h5)))).e [f_ (df h5), f_ (df h5), c_ [] (tCheck a15 a16 a3 a4 a5 a6 a7 a8 a9 a10 a11), f_ (df h5), t_ rt, f_ (df h5), t_ rt]
  · have n1 := bne_iff_ne.2 h1
    exact hX.e [t_ n1, t_ n1, t_ rt, t_ n1, n_ 26 (t_ rt)]

theorem chk_good {m r : Int} (h1 : 1 ≤ m) (h2 : m ≤ 1000000000000000) (h3 : 0 ≤ r) (h4 : r ≤ 1000000) : chk m r 0 0 738945 739311 3 0 = if r > 9000000000000000000 / m then 2 else 0 := by
  unfold chk
  rw [if_neg (by decide), if_neg (by decide), if_neg (by decide)]
  by_cases h : r > 9000000000000000000 / m
  · rw [if_pos h, if_pos (.inr (.inr (.inr (.inr ((both_iff h1).1 h)))))]
  · rw [if_neg h, if_neg (by have := mt (both_iff (r := r) h1).2 h; omega)]

theorem termsBoth_ok {a1 a2 : Int} (i1 : InR .u64 a1) (i2 : InR .u32 a2) : S 17 [N .u64 a1, N .u32 a2] [] (B true) [] := by
  simp only [InR] at i1 i2
  have h0 : (0 : Int) ≤ a1 := by omega
  have h1 : Ir (a1 % 1000000000000000) := by simp only [Ir, InR]; omega
  have h2 : Ir (1 + (a1 % 1000000000000000)) := by simp only [Ir, InR]; omega
  have h3 : (0 : Int) ≤ a2 := by omega
  have h4 : Ir (a2 % 1000001) := by simp only [Ir, InR]; omega
  have h5 : (0 : Int) < (1 + (a1 % 1000000000000000)) := by omega
  have h6 : Ir (9000000000000000000 / (1 + (a1 % 1000000000000000))) := by
    have h6 : 9000000000000000000 / (1 + (a1 % 1000000000000000)) ≤ 9000000000000000000 := Int.ediv_le_self _ (by decide)
    have h7 : 0 ≤ 9000000000000000000 / (1 + (a1 % 1000000000000000)) := Int.ediv_nonneg (by decide) (by omega)
    simp only [Ir, InR]; omega
  have e := chk_good (m := 1 + (a1 % 1000000000000000)) (r := a2 % 1000001) (by omega) (by omega) (by omega) (by omega)
  have h7 : (((chk (1 + (a1 % 1000000000000000)) (a2 % 1000001) 0 0 738945 739311 3 0) == 0) == decide ((a2 % 1000001) ≤ (9000000000000000000 / (1 + (a1 % 1000000000000000))))) = true := by
    rw [e]
    by_cases c : a2 % 1000001 > 9000000000000000000 / (1 + a1 % 1000000000000000)
    · rw [if_pos c, decide_eq_false (by omega)]; rfl
    · rw [if_neg c, decide_eq_true (by omega)]; rfl
  have h8 : (((chk (1 + (a1 % 1000000000000000)) (a2 % 1000001) 0 0 738945 739311 3 0) == 2) == decide ((a2 % 1000001) > (9000000000000000000 / (1 + (a1 % 1000000000000000))))) = true := by
    rw [e]
    by_cases c : a2 % 1000001 > 9000000000000000000 / (1 + a1 % 1000000000000000)
    · rw [if_pos c, decide_eq_true c]; rfl
    · rw [if_neg c, decide_eq_false c]; rfl
  have ck := tCheck (1 + (a1 % 1000000000000000)) (a2 % 1000001) 0 0 738945 739311 3 false false false 0
  refine SCall.st fun X hX => ?_
  exact (hX.to (bt_to h8)).e [c_ [] shown15, q_ h0, q_ (show (0 : Int) < 1000000000000000 from by decide), q_ h1, q_ h2, q_ h3, q_ (show (0 : Int) < 1000001 from by decide), q_ h4, q_ (show (0 : Int) ≤ 9000000000000000000 from by decide), q_ h5, q_ h6, i_, d_ 19, t_ rt, t_ rt, c_ [] ck, n_ 7 (t_ rt), n_ 2 (t_ h7), c_ [] ck, n_ 7 (t_ h7)]

/-- Names: the second half of the law, behind what is said of periods. -/
theorem nm3_out {k : Int} (h : k < 0 ∨ k > 2) : nm3 k = ⟨#[]⟩ := by unfold nm3; rw [if_neg (by omega)]
theorem nm3_eq (i : Int) (h : ¬ i < 0) (h2 : ¬ i > 2) (j : Int) : (((nm3 i).toList == (nm3 j).toList) == (i == j)) = true := by
  have e : i = 0 ∨ i = 1 ∨ i = 2 := by omega
  by_cases hj : 0 ≤ j ∧ j < 3
  · have : j = 0 ∨ j = 1 ∨ j = 2 := by omega
    rcases e with rfl | rfl | rfl <;> rcases this with rfl | rfl | rfl <;> decide +kernel
  · have e2 : (i == j) = false := beq_eq_false_iff_ne.2 (by omega)
    rw [e2, nm3_out (k := j) (by omega)]
    rcases e with rfl | rfl | rfl <;> decide +kernel

theorem nmEnd {X : Cx} {hp0 : List (Option Vw)} {c : SC} {a1 a2 : Int} (hX : Fi X 18 hp0 (B true) [])
    (k1 : a1 < 0 → (((kind3 (nm3 a1)).2 == 10) = true) → ((nm3 a1).toList == (⟨#[]⟩ : ByteArray).toList) = true → Fi X 18 hp0 (B ((kind3 (nm3 a1)).1 == 0)) [] → Ok X c)
    (k2 : ¬ a1 < 0 → a1 > 2 → (((kind3 (nm3 a1)).2 == 10) = true) → ((nm3 a1).toList == (⟨#[]⟩ : ByteArray).toList) = true → Fi X 18 hp0 (B ((kind3 (nm3 a1)).1 == 0)) [] → Ok X c)
    (k3 : ¬ a1 < 0 → ¬ a1 > 2 → ((nm3 a1).toList == (⟨#[]⟩ : ByteArray).toList) = false → ((kind3 (nm3 a1)).2 == 0) = true → ((kind3 (nm3 a1)).1 == a1) = true → Fi X 18 hp0 (B (((nm3 a1).toList == (nm3 a2).toList) == (a1 == a2))) [] → Ok X c) : Ok X c := by
  have out : ∀ h : a1 < 0 ∨ a1 > 2, ((kind3 (nm3 a1)).2 == 10) = true ∧ ((nm3 a1).toList == (⟨#[]⟩ : ByteArray).toList) = true ∧ ((kind3 (nm3 a1)).1 == 0) = true := fun h => by
    rw [nm3_out h]; decide +kernel
  by_cases h : a1 < 0
  · obtain ⟨e1, e2, e3⟩ := out (.inl h)
    exact k1 h e1 e2 (hX.to (bt_to e3))
  · by_cases h2 : a1 > 2
    · obtain ⟨e1, e2, e3⟩ := out (.inr h2)
      exact k2 h h2 e1 e2 (hX.to (bt_to e3))
    · have e : a1 = 0 ∨ a1 = 1 ∨ a1 = 2 := by omega
      exact k3 h h2 (by rcases e with rfl | rfl | rfl <;> decide +kernel) (by rcases e with rfl | rfl | rfl <;> decide +kernel) (by rcases e with rfl | rfl | rfl <;> decide +kernel) (hX.to (bt_to (nm3_eq a1 h h2 a2)))

theorem termsNames_ok {a1 a2 : Int} : S 18 [I a1, I a2] [] (B true) [] := by
  refine SCall.st fun X hX => ?_
  refine hX.go [c_ [] shown15, c_ [] (tName a1), c_ [] (tName a2), c_ [] (tKind (nm3 a1)), c_ [] (tFreq a1)] ?_
  by_cases h0 : a1 ≥ 1
  · refine hX.go [n_ 3 (t_ (dt h0))] ?_
    by_cases h1 : a1 ≤ 12
    · have h2 : (0 : Int) < a1 := by omega
      refine hX.go [t_ (dt h1), t_ (dt h1), q_ (show (0 : Int) ≤ 12 from by decide), q_ h2, t_ (dt h1), t_ (dt h1)] ?_
      by_cases h3 : (12 % a1) = 0
      · have h5 : frq a1 * a1 = 12 := by rw [frq_pos (by omega) h3]; exact Int.ediv_mul_cancel (Int.dvd_of_emod_eq_zero h3)
        have h4 : Ir ((frq a1) * a1) := by rw [h5]; decide
        refine hX.go [t_ (beq_iff_eq.2 h3), q_ h4, f_ (bne_eq_false_iff_eq.2 h5)] ?_
        exact nmEnd (a1 := a1) (a2 := a2) hX (fun c => absurd c (by omega)) (fun c1 c2 e1 e2 hX => hX.e [n_ 3 (f_ (df c1)), t_ (dt c2), n_ 3 (t_ rt), n_ 3 (t_ e2), n_ 3 (t_ e1)])
          (fun c1 c2 e1 e2 e3 hX => hX.e [n_ 3 (f_ (df c1)), f_ (df c2), n_ 3 (t_ rt), n_ 3 (t_ (nt e1)), n_ 4 (t_ e2), n_ 8 (t_ e3)])
      · refine hX.go [f_ (beq_eq_false_iff_ne.2 h3), f_ (bne_eq_false_iff_eq.2 (frq_no (.inr h3)))] ?_
        exact nmEnd (a1 := a1) (a2 := a2) hX (fun c => absurd c (by omega)) (fun c1 c2 e1 e2 hX => hX.e [n_ 3 (f_ (df c1)), t_ (dt c2), n_ 3 (t_ rt), n_ 3 (t_ e2), n_ 3 (t_ e1)])
          (fun c1 c2 e1 e2 e3 hX => hX.e [n_ 3 (f_ (df c1)), f_ (df c2), n_ 3 (t_ rt), n_ 3 (t_ (nt e1)), n_ 4 (t_ e2), n_ 8 (t_ e3)])
    · have hf : frq a1 = 0 := frq_no (.inr (by rw [Int.emod_eq_of_lt (by decide) (by omega)]; decide))
      refine hX.go [n_ 4 (f_ (df h1)), f_ rf, f_ (bne_eq_false_iff_eq.2 hf)] ?_
      exact nmEnd (a1 := a1) (a2 := a2) hX (fun c => absurd c (by omega)) (fun c1 c2 e1 e2 hX => hX.e [n_ 3 (f_ (df c1)), t_ (dt c2), n_ 3 (t_ rt), n_ 3 (t_ e2), n_ 3 (t_ e1)])
        (fun c1 c2 => absurd c2 (by omega))
  · have hf : frq a1 = 0 := frq_no (.inl (by omega))
    refine hX.go [n_ 3 (f_ (df h0)), n_ 5 (f_ rf), f_ (bne_eq_false_iff_eq.2 hf)] ?_
    exact nmEnd (a1 := a1) (a2 := a2) hX (fun c e1 e2 hX => hX.e [n_ 3 (t_ (dt c)), n_ 4 (t_ rt), n_ 3 (t_ e2), n_ 3 (t_ e1)]) (fun c1 c2 => absurd c2 (by omega))
      (fun c1 c2 e1 e2 e3 hX => hX.e [n_ 3 (f_ (df c1)), f_ (df c2), n_ 3 (t_ rt), n_ 3 (t_ (nt e1)), n_ 4 (t_ e2), n_ 8 (t_ e3)])

/-! The order of what may not be. -/
theorem ne4 {w r : Int} (k : Int) (h : w % 4 = r) (hn : r ≠ k) : (w % 4 == k) = false := beq_eq_false_iff_ne.2 (by omega)
def sw4 (r : Nat) (w : Int) (h : w % 4 = (r : Int)) : List It := match r, h with
  | 0, h => [t_ (beq_iff_eq.2 h)]
  | 1, h => [f_ (ne4 0 h (by decide)), t_ (beq_iff_eq.2 h)]
  | 2, h => [f_ (ne4 0 h (by decide)), f_ (ne4 1 h (by decide)), t_ (beq_iff_eq.2 h)]
  | 3, h => [f_ (ne4 0 h (by decide)), f_ (ne4 1 h (by decide)), f_ (ne4 2 h (by decide)), t_ (beq_iff_eq.2 h)]
  | _ + 4, h => []

def orIt (f n t b : Bool) (r : Nat) (w : Int) (h : w % 4 = (r : Int)) (hr : r < 4) (h0 : (0 : Int) ≤ w) (h1 : Ir w) (h2 : Ir (739311 + w)) (M R K C St En Mo Ro : Int) : List It :=
  [c_ [] shown15, i_] ++
  (match f with | true => [t_ rt, q_ h0, q_ (show (0 : Int) < 4 from by decide)] ++ sw4 r w h | false => [f_ rf]) ++
  (match t with | true => [t_ rt, q_ h1, q_ h2] | false => [f_ rf]) ++
  (match n with | true => [t_ rt, q_ h0, q_ (show (0 : Int) < 2 from by decide), b_ (decide (r % 2 = 1)) (show (w % 2 == 1) = decide (r % 2 = 1) by
    by_cases c : r % 2 = 1
    · rw [decide_eq_true c]; exact beq_iff_eq.2 (by omega)
    · rw [decide_eq_false c]; exact beq_eq_false_iff_ne.2 (by omega))] | false => [f_ rf]) ++
  (match b with | true => [t_ rt, q_ h0, q_ (show (0 : Int) < 4 from by decide)] ++ sw4 r w h | false => [f_ rf]) ++
  [c_ [] (tCheck M R K C St En Mo false false false Ro)] ++
  (match f, n, t, b with
    | true, _, _, _ => [t_ rt]
    | false, true, _, _ => [f_ rf, t_ rt]
    | false, false, true, _ => [f_ rf, f_ rf, t_ rt]
    | false, false, false, true => [f_ rf, f_ rf, f_ rf, t_ rt]
    | false, false, false, false => [n_ 4 (f_ rf)]) ++ [n_ 3 (t_ rt)]

def oM (b : Bool) (r : Nat) : Int := match b, r with | true, 0 => 0 | true, 3 => 1000000000000000 | _, _ => 100000
def oR (b : Bool) (r : Nat) : Int := match b, r with | true, 1 => -1 | true, 2 => 1000001 | true, 3 => 9001 | _, _ => 500
def oK (f : Bool) (r : Nat) : Int := match f, r with | true, 0 => 3 | _, _ => 0
def oC (f : Bool) (r : Nat) : Int := match f, r with | true, 1 => 7 | _, _ => 0
def oRo (f : Bool) (r : Nat) : Int := match f, r with | true, 2 => -1 | _, _ => 0
def oMo (f : Bool) (r : Nat) : Int := match f, r with | true, 3 => 0 | _, _ => 3
def oSt (n t : Bool) (r : Nat) (w : Int) : Int := match n, r % 2 with | true, 1 => 3652060 | _, _ => match t with | true => 739311 + w | false => 738945
def oEn (n : Bool) : Int := match n with | true => 0 | false => 739311
def oCode (f n t b : Bool) : Int := match f, n, t, b with | true, _, _, _ => 1 | false, true, _, _ => 3 | false, false, true, _ => 4 | false, false, false, true => 2 | false, false, false, false => 0

theorem chk_form {m r k c s e mo ro : Int} (h : k < 0 ∨ k > 2 ∨ c < 0 ∨ c > 6 ∨ ro < 0 ∨ ro > 4 ∨ frq mo = 0) : chk m r k c s e mo ro = 1 := by unfold chk; rw [if_pos h]
theorem chk_day {m r s e : Int} (h : isDay s = false ∨ isDay e = false) : chk m r 0 0 s e 3 0 = 3 := by unfold chk; rw [if_neg (by decide), if_pos h]
theorem chk_turn {m r w : Int} (h0 : 0 ≤ w) (h1 : w ≤ 255) : chk m r 0 0 (739311 + w) 739311 3 0 = 4 := by
  have : isDay (739311 + w) = true := by unfold isDay; exact decide_eq_true (by omega)
  unfold chk; rw [if_neg (by decide), this, if_neg (by decide), if_pos (by omega)]

theorem termsOrder_ok {a1 a2 a3 a4 : Bool} {a5 : Int} (i5 : InR .u8 a5) : S 16 [.agg [B a1, B a2, B a3, B a4, N .u8 a5]] [] (B true) [] := by
  simp only [InR] at i5
  have h0 : (0 : Int) ≤ a5 := by omega
  have h1 : Ir a5 := by simp only [Ir, InR]; omega
  have h2 : Ir (739311 + a5) := by simp only [Ir, InR]; omega
  have h9 : a5 ≤ 255 := by omega
  obtain ⟨r, hr, h⟩ : ∃ r : Nat, r < 4 ∧ a5 % 4 = (r : Int) := ⟨(a5 % 4).toNat, by omega, by omega⟩
  have key : (chk (oM a4 r) (oR a4 r) (oK a1 r) (oC a1 r) (oSt a2 a3 r a5) (oEn a2) (oMo a1 r) (oRo a1 r) == oCode a1 a2 a3 a4) = true := by
    rw [beq_iff_eq]
    match r, hr with
    | 0, _ => cases a1 <;> cases a2 <;> cases a3 <;> cases a4 <;> first | rfl | exact chk_form (by decide) | exact chk_day (.inr (by decide)) | exact chk_turn h0 h9
    | 1, _ => cases a1 <;> cases a2 <;> cases a3 <;> cases a4 <;> first | rfl | exact chk_form (by decide) | exact chk_day (.inr (by decide)) | exact chk_turn h0 h9
    | 2, _ => cases a1 <;> cases a2 <;> cases a3 <;> cases a4 <;> first | rfl | exact chk_form (by decide) | exact chk_day (.inr (by decide)) | exact chk_turn h0 h9
    | 3, _ => cases a1 <;> cases a2 <;> cases a3 <;> cases a4 <;> first | rfl | exact chk_form (by decide) | exact chk_day (.inr (by decide)) | exact chk_turn h0 h9
  refine SCall.st fun X hX => ?_
  have hX := hX.to (bt_to key)
  clear key
  match r, hr, h, hX with
  | 0, hr, h, hX => 
    refine IsFin.e hX (orIt a1 a2 a3 a4 0 a5 h hr h0 h1 h2 (oM a4 0) (oR a4 0) (oK a1 0) (oC a1 0) (oSt a2 a3 0 a5) (oEn a2) (oMo a1 0) (oRo a1 0)) [] ?_
    cases a1 <;> cases a2 <;> cases a3 <;> cases a4 <;> kernel_rfl
  | 1, hr, h, hX => 
    refine IsFin.e hX (orIt a1 a2 a3 a4 1 a5 h hr h0 h1 h2 (oM a4 1) (oR a4 1) (oK a1 1) (oC a1 1) (oSt a2 a3 1 a5) (oEn a2) (oMo a1 1) (oRo a1 1)) [] ?_
    cases a1 <;> cases a2 <;> cases a3 <;> cases a4 <;> kernel_rfl
  | 2, hr, h, hX => 
    refine IsFin.e hX (orIt a1 a2 a3 a4 2 a5 h hr h0 h1 h2 (oM a4 2) (oR a4 2) (oK a1 2) (oC a1 2) (oSt a2 a3 2 a5) (oEn a2) (oMo a1 2) (oRo a1 2)) [] ?_
    cases a1 <;> cases a2 <;> cases a3 <;> cases a4 <;> kernel_rfl
  | 3, hr, h, hX => 
    refine IsFin.e hX (orIt a1 a2 a3 a4 3 a5 h hr h0 h1 h2 (oM a4 3) (oR a4 3) (oK a1 3) (oC a1 3) (oSt a2 a3 3 a5) (oEn a2) (oMo a1 3) (oRo a1 3)) [] ?_
    cases a1 <;> cases a2 <;> cases a3 <;> cases a4 <;> kernel_rfl

end Go.Proofs.YtehnnaanpmceiaaGreatDoor
