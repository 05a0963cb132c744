/-
  A loan's steps (chapter 16), in plain Lean: how many there are, where they lie.
-/
import Derived.Test.YthfmjoeampekgaaGreatDoorMo
set_option linter.unusedVariables false
set_option linter.unusedSimpArgs false
set_option linter.unusedSectionVars false
namespace Go.Proofs.YthfmjoeampekgaaGreatDoor
open Go Go.Sx
variable [Env]

def btw (s e n : Int) : Bool := decide (n > s ∧ n < e)
theorem btw_t {s e n : Int} : btw s e n = true ↔ n > s ∧ n < e := by unfold btw; rw [decide_eq_true_eq]
theorem btw_f {s e n : Int} : btw s e n = false ↔ ¬ (n > s ∧ n < e) := by unfold btw; rw [decide_eq_false_iff_not]

/-- How many steps: up to the first that is no day, or that isn't between the ends any more. -/
def cntG (st : Nat → Int × Int) (s e : Int) : Nat → Nat → Nat
  | 0, k => k
  | f + 1, k => if (st k).2 ≠ 0 then k else if 1 ≤ k ∧ btw s e (st k).1 = false then k + 1 else cntG st s e f (k + 1)

theorem cntG_no {st : Nat → Int × Int} {s e : Int} {f k : Nat} (h : (st k).2 ≠ 0) : cntG st s e (f + 1) k = k := by unfold cntG; rw [if_pos h]
theorem cntG_stop {st : Nat → Int × Int} {s e : Int} {f k : Nat} (h : (st k).2 = 0) (h1 : 1 ≤ k) (h2 : btw s e (st k).1 = false) : cntG st s e (f + 1) k = k + 1 := by
  unfold cntG; rw [if_neg (by rw [h]; decide), if_pos ⟨h1, h2⟩]
theorem cntG_on {st : Nat → Int × Int} {s e : Int} {f k : Nat} (h : (st k).2 = 0) (h1 : k = 0 ∨ btw s e (st k).1 = true) : cntG st s e (f + 1) k = cntG st s e f (k + 1) := by
  conv => lhs; unfold cntG
  rw [if_neg (by rw [h]; decide), if_neg]
  rintro ⟨c1, c2⟩
  rcases h1 with h1 | h1
  · omega
  · rw [h1] at c2; cases c2

theorem cntG_ok {st : Nat → Int × Int} {s e : Int} : ∀ (f k : Nat), k ≤ cntG st s e f k ∧ cntG st s e f k ≤ k + f ∧ (∀ j, k ≤ j → j < cntG st s e f k → (st j).2 = 0) ∧ (∀ j, k ≤ j → 1 ≤ j → j + 1 < cntG st s e f k → btw s e (st j).1 = true) ∧
    (cntG st s e f k < k + f → ((st (cntG st s e f k)).2 ≠ 0 ∧ (k < cntG st s e f k → 2 ≤ cntG st s e f k → btw s e (st (cntG st s e f k - 1)).1 = true)) ∨ (k < cntG st s e f k ∧ 2 ≤ cntG st s e f k ∧ btw s e (st (cntG st s e f k - 1)).1 = false))
  | 0, k => ⟨Nat.le_refl _, Nat.le_refl _, fun j h1 h2 => absurd h2 (by unfold cntG; omega), fun j h1 _ h2 => absurd h2 (by unfold cntG; omega), fun h => absurd h (by unfold cntG; omega)⟩
  | f + 1, k => by
    by_cases h : (st k).2 = 0
    · by_cases h1 : 1 ≤ k ∧ btw s e (st k).1 = false
      · rw [cntG_stop h h1.1 h1.2]
        refine ⟨by omega, by omega, fun j a b => ?_, fun j a _ b => by omega, fun _ => .inr ⟨by omega, by omega, ?_⟩⟩
        · rw [show j = k by omega]; exact h
        · rw [Nat.add_sub_cancel]; exact h1.2
      · have h2 : k = 0 ∨ btw s e (st k).1 = true := by
          rcases Nat.eq_zero_or_pos k with c | c
          · exact .inl c
          · refine .inr ?_
            cases hb : btw s e (st k).1
            · exact absurd ⟨c, hb⟩ h1
            · rfl
        rw [cntG_on h h2]
        obtain ⟨q1, q2, q3, q4, q5⟩ := cntG_ok (st := st) (s := s) (e := e) f (k + 1)
        refine ⟨by omega, by omega, fun j a b => ?_, fun j a c b => ?_, fun c => ?_⟩
        · rcases Nat.lt_or_ge k j with g | g
          · exact q3 j g b
          · rw [show j = k by omega]; exact h
        · rcases Nat.lt_or_ge k j with g | g
          · exact q4 j g c b
          · rw [show j = k by omega]
            rcases h2 with h2 | h2
            · omega
            · exact h2
        · rcases q5 (by omega) with ⟨a, b⟩ | ⟨a, b, g⟩
          · refine .inl ⟨a, fun a1 a2 => ?_⟩
            rcases Nat.lt_or_ge (k + 1) (cntG st s e f (k + 1)) with g | g
            · exact b g a2
            · have e1 : cntG st s e f (k + 1) = k + 1 := by omega
              rw [e1, Nat.add_sub_cancel]
              rcases h2 with h2 | h2
              · omega
              · exact h2
          · exact .inr ⟨by omega, b, g⟩
    · rw [cntG_no h]
      exact ⟨Nat.le_refl _, by omega, fun j a b => by omega, fun j a _ b => by omega, fun _ => .inl ⟨h, fun c => by omega⟩⟩

/-- The step number k. -/
def stp (s e mo : Int) (back eom : Bool) (k : Nat) : Int × Int := if back = true then mv e ((k : Int) * (-mo)) eom else mv s ((k : Int) * mo) eom
/-- How many steps of a loan. -/
def gN (s e mo : Int) (back eom : Bool) : Nat := cntG (stp s e mo back eom) s e 1300 0

structure Loan (s e mo : Int) : Prop where
  ds : isDay s = true
  de : isDay e = true
  se : s < e
  m1 : 1 ≤ mo
  m2 : mo ≤ 12

theorem stp_zero {s e mo : Int} {back eom : Bool} (h : Loan s e mo) : stp s e mo back eom 0 = (if back = true then e else s, 0) := by
  unfold stp
  cases back
  · simp [mv_zero h.ds]
  · simp [mv_zero h.de]

/-- Steps go away from the anchor, by 28 days a month at least, less 30. -/
theorem stp_far {s e mo : Int} {eom : Bool} (h : Loan s e mo) {k : Nat} (hk : 1 ≤ k) : 
    ((stp s e mo false eom k).2 = 0 → s + 28 * ((k : Int) * mo) - 30 ≤ (stp s e mo false eom k).1 ∧ s < (stp s e mo false eom k).1) ∧
    ((stp s e mo true eom k).2 = 0 → (stp s e mo true eom k).1 + 28 * ((k : Int) * mo) - 30 ≤ e ∧ (stp s e mo true eom k).1 < e) := by
  have hp : 0 < (k : Int) * mo := Int.mul_pos (by omega) (by have := h.m1; omega)
  refine ⟨fun hz => ?_, fun hz => ?_⟩
  · have := mv_lt (n := s) (k := 0) (k' := (k : Int) * mo) (eom := eom) (by rw [mv_zero h.ds]) hz hp
    rw [mv_zero h.ds] at this
    unfold stp
    simpa using this
  · have hz' : (mv e ((k : Int) * (-mo)) eom).2 = 0 := by simpa [stp] using hz
    rw [Int.mul_neg] at hz'
    have := mv_lt (n := e) (k := -((k : Int) * mo)) (k' := 0) (eom := eom) hz' (by rw [mv_zero h.de]) (by omega)
    rw [mv_zero h.de] at this
    unfold stp
    rw [if_pos rfl, Int.mul_neg]
    simp only at this
    omega

/-- Steps are in order. -/
theorem stp_mono {s e mo : Int} {back eom : Bool} (h : Loan s e mo) {j k : Nat} (hj : j < k) (h1 : (stp s e mo back eom j).2 = 0) (h2 : (stp s e mo back eom k).2 = 0) :
    if back = true then (stp s e mo back eom k).1 < (stp s e mo back eom j).1 else (stp s e mo back eom j).1 < (stp s e mo back eom k).1 := by
  have hm := h.m1
  have hp : (j : Int) * mo < (k : Int) * mo := Int.mul_lt_mul_of_pos_right (by omega) (by omega)
  cases back
  · rw [if_neg (by decide)]
    unfold stp at h1 h2 ⊢
    rw [if_neg (by decide)] at h1 h2 ⊢
    rw [if_neg (by decide)]
    exact (mv_lt h1 h2 hp).2
  · rw [if_pos rfl]
    unfold stp at h1 h2 ⊢
    rw [if_pos rfl] at h1 h2 ⊢
    rw [if_pos rfl]
    rw [Int.mul_neg] at h1 h2 ⊢
    rw [Int.mul_neg]
    exact (mv_lt h2 h1 (by omega)).2

/-- Of a loan of 200 months at most there are few. -/
theorem gN_le {s e mo : Int} {back eom : Bool} (h : Loan s e mo) (hs : e - s ≤ 6200 * mo) : 1 ≤ gN s e mo back eom ∧ gN s e mo back eom ≤ 250 := by
  obtain ⟨q1, q2, q3, q4, q5⟩ := cntG_ok (st := stp s e mo back eom) (s := s) (e := e) 1300 0
  have h0 := stp_zero (back := back) (eom := eom) h
  constructor
  · unfold gN
    rw [show (1300 : Nat) = 1299 + 1 from rfl, cntG_on (by rw [h0]) (.inl rfl)]
    exact (cntG_ok 1299 1).1
  · refine Nat.not_lt.1 fun c => ?_
    unfold gN at c
    have z := q3 249 (by omega) (by omega)
    have b := btw_t.1 (q4 249 (by omega) (by omega) (by omega))
    have hm := h.m1
    have hp : ((249 : Nat) : Int) * mo = 249 * mo := rfl
    cases back
    · have := (stp_far h (k := 249) (eom := eom) (by omega)).1 z
      omega
    · have := (stp_far h (k := 249) (eom := eom) (by omega)).2 z
      omega

/-- What is known of the steps. -/
theorem gN_ok {s e mo : Int} {back eom : Bool} (h : Loan s e mo) (hs : e - s ≤ 6200 * mo) :
    (∀ j, j < gN s e mo back eom → (stp s e mo back eom j).2 = 0) ∧ (∀ j, 1 ≤ j → j + 1 < gN s e mo back eom → btw s e (stp s e mo back eom j).1 = true) ∧
    (((stp s e mo back eom (gN s e mo back eom)).2 ≠ 0 ∧ (2 ≤ gN s e mo back eom → btw s e (stp s e mo back eom (gN s e mo back eom - 1)).1 = true)) ∨ (2 ≤ gN s e mo back eom ∧ btw s e (stp s e mo back eom (gN s e mo back eom - 1)).1 = false)) := by
  obtain ⟨l1, l2⟩ := gN_le (back := back) (eom := eom) h hs
  obtain ⟨q1, q2, q3, q4, q5⟩ := cntG_ok (st := stp s e mo back eom) (s := s) (e := e) 1300 0
  refine ⟨fun j hj => q3 j (by omega) hj, fun j h1 h2 => q4 j (by omega) h1 h2, ?_⟩
  rcases q5 (by unfold gN at l2; omega) with ⟨a, b⟩ | ⟨a, b, c⟩
  · exact .inl ⟨a, fun g => b (by unfold gN at g; omega) g⟩
  · exact .inr ⟨b, c⟩

end Go.Proofs.YthfmjoeampekgaaGreatDoor
