/-
  Months, counted through: days ahead of a month, and a day so many months on; in plain Lean, no program in sight.
-/
import Derived.Test.YtgojmodiaffcbaaGreatDoorThi
set_option linter.unusedVariables false
set_option linter.unusedSimpArgs false
set_option linter.unusedSectionVars false
namespace Go.Proofs.YtgojmodiaffcbaaGreatDoor
open Go Go.Sx
variable [Env]
theorem irT {x : Int} (h : -9000000000000000000 ≤ x ∧ x ≤ 9000000000000000000) : Ir x := by simp only [Ir, InR]; omega
/-- Days ahead of a month (months counted from the year 0 on); its days; a day's month. -/
def mSt (m : Int) : Int := ahd (m / 12) + mons (m / 12) (m % 12).toNat
def mLn (m : Int) : Int := len (m / 12) (m % 12 + 1)
def mIdx (n : Int) : Int := 12 * cY n + cM n - 1
theorem mSt_succ {m : Int} (h : 12 ≤ m) : mSt (m + 1) = mSt m + mLn m := by
  unfold mSt mLn
  by_cases c : m % 12 = 11
  · have e1 : (m + 1) / 12 = m / 12 + 1 := by omega
    have e2 : (m + 1) % 12 = 0 := by omega
    rw [e1, e2, c, ahd_succ _ (by omega)]
    have h12 := mons12 (m / 12)
    have h3 : mons (m / 12) 12 = mons (m / 12) 11 + len (m / 12) 12 := rfl
    have e3 : mons (m / 12 + 1) (Int.toNat 0) = 0 := rfl
    have e4 : mons (m / 12) (Int.toNat 11) = mons (m / 12) 11 := rfl
    rw [e3, e4, show (11 : Int) + 1 = 12 from rfl]
    omega
  · have e1 : (m + 1) / 12 = m / 12 := by omega
    obtain ⟨j, hj⟩ : ∃ j : Nat, m % 12 = (j : Int) := ⟨(m % 12).toNat, by omega⟩
    have e2 : (m + 1) % 12 = ((j + 1 : Nat) : Int) := by omega
    rw [e1, e2, hj, Int.toNat_natCast, Int.toNat_natCast]
    show ahd (m / 12) + (mons (m / 12) j + len (m / 12) ((j + 1 : Nat) : Int)) = _
    rw [show ((j + 1 : Nat) : Int) = (j : Int) + 1 by omega]; omega
theorem len_ge {y m : Int} (h1 : 1 ≤ m) (h2 : m ≤ 12) : 28 ≤ len y m := by
  unfold len
  rw [if_neg (by omega)]
  split
  · omega
  · have : m = 1 ∨ m = 2 ∨ m = 3 ∨ m = 4 ∨ m = 5 ∨ m = 6 ∨ m = 7 ∨ m = 8 ∨ m = 9 ∨ m = 10 ∨ m = 11 ∨ m = 12 := by omega
    rcases this with rfl | rfl | rfl | rfl | rfl | rfl | rfl | rfl | rfl | rfl | rfl | rfl <;> decide
theorem mLn_le (m : Int) : 28 ≤ mLn m ∧ mLn m ≤ 31 := ⟨len_ge (by omega) (by omega), (len_le _ _).1⟩
theorem mSt_mono {m : Int} (h : 12 ≤ m) : ∀ k : Nat, mSt m + 28 * (k : Int) ≤ mSt (m + k) ∧ mSt (m + k) ≤ mSt m + 31 * (k : Int)
  | 0 => by simp
  | k + 1 => by
    have h1 := mSt_mono h k
    have h2 := mSt_succ (m := m + k) (by omega)
    have h3 := mLn_le (m + k)
    rw [show m + ((k + 1 : Nat) : Int) = m + (k : Int) + 1 by omega, h2]
    omega
theorem mSt_le {m m' : Int} (h : 12 ≤ m) (h' : m ≤ m') : mSt m + 28 * (m' - m) ≤ mSt m' ∧ mSt m' ≤ mSt m + 31 * (m' - m) := by
  obtain ⟨k, hk⟩ : ∃ k : Nat, m' = m + (k : Int) := ⟨(m' - m).toNat, by omega⟩
  subst hk
  have := mSt_mono h k
  omega
theorem mSt_first : mSt 12 = 0 := rfl
theorem mSt_last : mSt 120000 = 3652059 := rfl
theorem day_idx {n : Int} (h : isDay n = true) : 12 ≤ mIdx n ∧ mIdx n ≤ 119999 ∧ 1 ≤ cD n ∧ cD n ≤ mLn (mIdx n) ∧ n = mSt (mIdx n) + cD n := by
  obtain ⟨-, h1, h2, h3, h4, h5, h6, -, h8⟩ := civ_ok h
  have e1 : mIdx n / 12 = cY n := by unfold mIdx; omega
  have e2 : mIdx n % 12 = cM n - 1 := by unfold mIdx; omega
  refine ⟨by unfold mIdx; omega, by unfold mIdx; omega, h5, ?_, ?_⟩
  · unfold mLn; rw [e1, e2, show cM n - 1 + 1 = cM n by omega]; exact h6
  · unfold mSt; rw [e1, e2]; exact h8
/-- Which day of a month it comes to. -/
def tgt (n : Int) (eom : Bool) (m : Int) : Int := if (eom && lastB n) = true then mLn m else if cD n ≤ mLn m then cD n else mLn m
theorem tgt_ok {n : Int} (h : isDay n = true) (eom : Bool) (m : Int) : 1 ≤ tgt n eom m ∧ tgt n eom m ≤ mLn m := by
  obtain ⟨-, -, h1, -, -⟩ := day_idx h
  have := mLn_le m
  unfold tgt
  split
  · omega
  · split <;> omega
/-- A day so many months on; a code. -/
def mv (n k : Int) (eom : Bool) : Int × Int := if isDay n = true ∧ 12 ≤ mIdx n + k ∧ mIdx n + k ≤ 119999 then (mSt (mIdx n + k) + tgt n eom (mIdx n + k), 0) else (0, 3)
theorem mv_ok {n k : Int} {eom : Bool} (h : isDay n = true ∧ 12 ≤ mIdx n + k ∧ mIdx n + k ≤ 119999) : mv n k eom = (mSt (mIdx n + k) + tgt n eom (mIdx n + k), 0) := by unfold mv; rw [if_pos h]
theorem mv_no {n k : Int} {eom : Bool} (h : ¬ (isDay n = true ∧ 12 ≤ mIdx n + k ∧ mIdx n + k ≤ 119999)) : mv n k eom = (0, 3) := by unfold mv; rw [if_neg h]
theorem mv_iff {n k : Int} {eom : Bool} : (mv n k eom).2 = 0 ↔ isDay n = true ∧ 12 ≤ mIdx n + k ∧ mIdx n + k ≤ 119999 := by
  unfold mv; split
  · rename_i h; exact ⟨fun _ => h, fun _ => rfl⟩
  · rename_i h; exact ⟨fun c => absurd c (by decide), fun c => absurd c h⟩
theorem mv_zero {n : Int} (h : isDay n = true) (eom : Bool) : mv n 0 eom = (n, 0) := by
  obtain ⟨h1, h2, h3, h4, h5⟩ := day_idx h
  rw [mv_ok ⟨h, by omega, by omega⟩, Int.add_zero]
  have : tgt n eom (mIdx n) = cD n := by
    unfold tgt
    split
    · rename_i c
      rw [Bool.and_eq_true] at c
      have := c.2
      unfold lastB at this
      rw [Bool.and_eq_true, beq_iff_eq] at this
      have e1 : mIdx n / 12 = cY n := by
        obtain ⟨-, g1, g2, g3, g4, -⟩ := civ_ok h
        unfold mIdx; omega
      have e2 : mIdx n % 12 = cM n - 1 := by
        obtain ⟨-, g1, g2, g3, g4, -⟩ := civ_ok h
        unfold mIdx; omega
      unfold mLn; rw [e1, e2, show cM n - 1 + 1 = cM n by omega]; exact this.2.symm
    · first | rfl | exact if_pos h4
  rw [this, ← h5]
/-- A day of a month is one of the days. -/
theorem in_month {m d : Int} (h1 : 12 ≤ m) (h2 : m ≤ 119999) (h3 : 1 ≤ d) (h4 : d ≤ mLn m) : isDay (mSt m + d) = true := by
  have a := mSt_le (m := 12) (m' := m) (by decide) h1
  have b := mSt_le (m := m + 1) (m' := 120000) (by omega) (by omega)
  have c := mSt_succ h1
  rw [mSt_first] at a
  rw [mSt_last] at b
  rw [isDay_iff]; omega
theorem mv_day {n k : Int} {eom : Bool} (h : (mv n k eom).2 = 0) : isDay (mv n k eom).1 = true := by
  have h' := mv_iff.1 h
  have := tgt_ok h'.1 eom (mIdx n + k)
  rw [mv_ok h']
  exact in_month h'.2.1 h'.2.2 this.1 this.2
/-- Later months' days are later; how far. -/
theorem mv_lt {n k k' : Int} {eom : Bool} (h : (mv n k eom).2 = 0) (h' : (mv n k' eom).2 = 0) (hk : k < k') : (mv n k eom).1 + 28 * (k' - k) - 30 ≤ (mv n k' eom).1 ∧ (mv n k eom).1 < (mv n k' eom).1 := by
  have g := mv_iff.1 h
  have g' := mv_iff.1 h'
  have t := tgt_ok g.1 eom (mIdx n + k)
  have t' := tgt_ok g.1 eom (mIdx n + k')
  rw [mv_ok g, mv_ok g']
  have a := mSt_le (m := mIdx n + k + 1) (m' := mIdx n + k') (by omega) (by omega)
  have b := mSt_succ (m := mIdx n + k) (by omega)
  have c := mLn_le (mIdx n + k)
  simp only
  omega
theorem may_month {m d : Int} (h1 : 12 ≤ m) (h2 : m ≤ 119999) (h3 : 1 ≤ d) (h4 : d ≤ mLn m) : mayC (m / 12) (m % 12 + 1) d = true := by
  unfold mayC; unfold mLn at h4; exact decide_eq_true ⟨by omega, by omega, by omega, by omega, h3, h4⟩
theorem numb_month (m d : Int) : numb (m / 12) (m % 12 + 1) d = mSt m + d := by
  unfold numb mSt; rw [show m % 12 + 1 - 1 = m % 12 by omega]; omega
end Go.Proofs.YtgojmodiaffcbaaGreatDoor
