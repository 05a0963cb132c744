/-
  Days of the week; Easter (chapters 4 and 11), of both.
-/
import Derived.Test.YtgojmodiaffcbaaGreatDoorMv
import Derived.Test.YtgojmodiaffcbaaGreatDoorProg
import Derived.KernelRfl
set_option linter.unusedVariables false
set_option linter.unusedSimpArgs false
set_option linter.unusedSectionVars false
set_option maxRecDepth 100000
namespace Go.Proofs.YtgojmodiaffcbaaGreatDoor
open Go Go.Sx
variable [Env]
/-- A day's place in its week. -/
def wdy (n : Int) : Int := (n % 7 + 6) % 7
theorem civil_Weekday_w {a1 : Int} {res : SV}  (H : (0 : Int) ≤ a1 ∧ Ir ((a1 % 7) + 6) ∧ (0 : Int) ≤ ((a1 % 7) + 6) ∧ (I (((a1 % 7) + 6) % 7) : SV) = res) :
    S 156 [I a1] [] (res) [] := by
  refine SCall.st fun X hX => ?_
  obtain ⟨h0, h1, h2, HE⟩ := H
  exact (hX.to HE.symm).e [q_ h0, q_ (show (0 : Int) < 7 from by decide), q_ h1, q_ h2, q_ (show (0 : Int) < 7 from by decide)]
theorem cWeek {n : Int} (h : (0 : Int) ≤ n) : S 156 [I n] [] (I (wdy n)) [] := civil_Weekday_w ⟨h, irT (by omega), by omega, rfl⟩
theorem wdy_le (n : Int) : 0 ≤ wdy n ∧ wdy n ≤ 6 := by unfold wdy; omega
theorem nb_day {y m d : Int} (h : mayC y m d = true) : isDay (numb y m d) = true := by
  unfold mayC at h
  have h := of_decide_eq_true h
  have e1 : (12 * y + m - 1) / 12 = y := by omega
  have e2 : (12 * y + m - 1) % 12 + 1 = m := by omega
  have := numb_month (12 * y + m - 1) d
  rw [e1, e2] at this
  rw [this]
  exact in_month (by omega) (by omega) h.2.2.2.2.1 (by unfold mLn; rw [e1, e2]; exact h.2.2.2.2.2)
theorem nbV_le (y m d : Int) : 0 ≤ nbV y m d ∧ nbV y m d ≤ 3652059 := by
  unfold nbV; split
  · rename_i h; have := isDay_iff.1 (nb_day h); omega
  · omega
/-- Easter, by the program. -/
def eaH (y : Int) : Int := (((((19 * (y % 19)) + (y / 100)) - ((y / 100) / 4)) - ((((y / 100) - (((y / 100) + 8) / 25)) + 1) / 3)) + 15) % 30
def eaL (y : Int) : Int := ((((32 + (2 * ((y / 100) % 4))) + (2 * ((y % 100) / 4))) - eaH y) - ((y % 100) % 4)) % 7
def eaM (y : Int) : Int := (((y % 19) + (11 * eaH y)) + (22 * eaL y)) / 451
def eaS (y : Int) : Int := ((eaH y + eaL y) - (7 * eaM y)) + 114
def eaN (y : Int) : Int := nbV y (eaS y / 31) ((eaS y % 31) + 1)
def eaV (y : Int) : Int := if y < 1 ∨ y > 9999 then 0 else eaN y
def eaE (y : Int) : Int := if y < 1 ∨ y > 9999 then 3 else 0
theorem eaH_def (y : Int) : eaH y = (((((19 * (y % 19)) + (y / 100)) - ((y / 100) / 4)) - ((((y / 100) - (((y / 100) + 8) / 25)) + 1) / 3)) + 15) % 30 := rfl
theorem eaL_def (y : Int) : eaL y = ((((32 + (2 * ((y / 100) % 4))) + (2 * ((y % 100) / 4))) - eaH y) - ((y % 100) % 4)) % 7 := rfl
theorem eaH_le (y : Int) : 0 ≤ eaH y ∧ eaH y ≤ 29 := by rw [eaH_def]; exact ⟨Int.emod_nonneg _ (by decide), by have := Int.emod_lt_of_pos (((((19 * (y % 19)) + (y / 100)) - ((y / 100) / 4)) - ((((y / 100) - (((y / 100) + 8) / 25)) + 1) / 3)) + 15) (show (0 : Int) < 30 by decide); omega⟩
theorem eaL_le (y : Int) : 0 ≤ eaL y ∧ eaL y ≤ 6 := by rw [eaL_def]; exact ⟨Int.emod_nonneg _ (by decide), by have := Int.emod_lt_of_pos ((((32 + (2 * ((y / 100) % 4))) + (2 * ((y % 100) / 4))) - eaH y) - ((y % 100) % 4)) (show (0 : Int) < 7 by decide); omega⟩
/-- Easter, by the reference. -/
def reE (y : Int) : Int := (((((11 * ((y % 19) + 1)) + 20) + ((((8 * ((y / 100) + 1)) + 5) / 25) - 5)) - (((3 * ((y / 100) + 1)) / 4) - 12)) % 30)
def reF (y : Int) : Int := if (reE y = 25 ∧ (y % 19) + 1 > 11) ∨ reE y = 24 then reE y + 1 else reE y
def reN (y : Int) : Int := if 44 - reF y < 21 then (44 - reF y) + 30 else 44 - reF y
def reD (y : Int) : Int := nbV y 3 1 + reN y - 1 + 1
theorem len_3 (y : Int) : len y 3 = 31 := by simp [len, lens]
theorem len_4 (y : Int) : len y 4 = 30 := by simp [len, lens]
theorem mons_2 (y : Int) : mons y 2 = 59 + (if lp y = true then 1 else 0) ∧ mons y 3 = 90 + (if lp y = true then 1 else 0) := by
  cases h : lp y <;> simp [mons, len, h, lens]
/-- The first of March. -/
theorem mar_1 {y : Int} (h1 : 1 ≤ y) (h2 : y ≤ 9999) (d : Int) : numb y 3 d = 365 * y + y / 4 - y / 100 + y / 400 - 306 + d ∧ numb y 4 d = 365 * y + y / 4 - y / 100 + y / 400 - 275 + d := by
  have hl := ahd_succ y h1
  have e : ahd (y + 1) = 365 * y + y / 4 - y / 100 + y / 400 := by unfold ahd; rw [show y + 1 - 1 = y by omega]
  obtain ⟨m2, m3⟩ := mons_2 y
  constructor
  · unfold numb; rw [show ((3 : Int) - 1).toNat = 2 from rfl, m2]; omega
  · unfold numb; rw [show ((4 : Int) - 1).toNat = 3 from rfl, m3]; omega
theorem ea_m {y : Int} : eaM y = if eaL y = 6 ∧ (eaH y = 29 ∨ eaH y = 28 ∧ 10 < y % 19) then 1 else 0 := by
  have h1 := eaH_le y; have h2 := eaL_le y
  unfold eaM
  split <;> omega
/-- The moon: of both, but for a day. -/
theorem ea_moon {y : Int} (h1 : 1 ≤ y) (h2 : y ≤ 9999) : reN y = eaH y + 21 - (if eaH y = 29 ∨ eaH y = 28 ∧ 10 < y % 19 then 1 else 0) := by
  have key : (reE y + eaH y) = 23 ∨ reE y + eaH y = 53 := by
    have g1 : (3 * (y / 100 + 1)) / 4 = y / 100 - y / 100 / 4 := by omega
    have g2 : (y / 100 - (y / 100 + 8) / 25 + 1) / 3 = (8 * (y / 100 + 1) + 5) / 25 + 0 - 0 - (y / 100 - 0) + y / 100 + (y / 100 - (y / 100 + 8) / 25 + 1) / 3 - (8 * (y / 100 + 1) + 5) / 25 := by omega
    have g3 : (y / 100 - (y / 100 + 8) / 25 + 1) / 3 = (8 * (y / 100 + 1) + 5) / 25 := by omega
    rw [eaH_def]; unfold reE
    rw [g1, g3]
    omega
  have r := Int.emod_nonneg ((((11 * ((y % 19) + 1)) + 20) + ((((8 * ((y / 100) + 1)) + 5) / 25) - 5)) - (((3 * ((y / 100) + 1)) / 4) - 12)) (show (30 : Int) ≠ 0 by decide)
  have r' := Int.emod_lt_of_pos ((((11 * ((y % 19) + 1)) + 20) + ((((8 * ((y / 100) + 1)) + 5) / 25) - 5)) - (((3 * ((y / 100) + 1)) / 4) - 12)) (show (0 : Int) < 30 by decide)
  have r1 : 0 ≤ reE y ∧ reE y ≤ 29 := ⟨r, by unfold reE; omega⟩
  have h3 := eaH_le y
  unfold reN reF
  generalize reE y = e at *
  generalize eaH y = h at *
  (repeat' split) <;> omega
/-- The Sunday behind it. -/
theorem ea_sun {y : Int} (h1 : 1 ≤ y) (h2 : y ≤ 9999) : wdy (nbV y 3 1 + eaH y + 21) = 6 - eaL y := by
  have hm : nbV y 3 1 = 365 * y + y / 4 - y / 100 + y / 400 - 305 := by
    unfold nbV; rw [if_pos (by unfold mayC; rw [len_3]; exact decide_eq_true (by omega)), (mar_1 h1 h2 1).1]; omega
  rw [hm, eaL_def]
  unfold wdy
  generalize eaH y = h
  have e1 : y / 4 = 25 * (y / 100) + y % 100 / 4 := by omega
  have e2 : y / 400 = y / 100 / 4 := by omega
  rw [e1, e2]
  omega
theorem ea_ok {y : Int} (h1 : 1 ≤ y) (h2 : y ≤ 9999) : mayC y (eaS y / 31) ((eaS y % 31) + 1) = true ∧ reD y + (6 - wdy (reD y)) = eaN y ∧ 0 ≤ reN y ∧ reN y ≤ 60 := by
  have hm : nbV y 3 1 = 365 * y + y / 4 - y / 100 + y / 400 - 305 := by
    unfold nbV; rw [if_pos (by unfold mayC; rw [len_3]; exact decide_eq_true (by omega)), (mar_1 h1 h2 1).1]; omega
  have a := ea_moon h1 h2
  have b := ea_sun h1 h2
  have c := ea_m (y := y)
  have d := eaH_le y
  have e := eaL_le y
  have hS : eaS y = eaH y + eaL y - 7 * eaM y + 114 := rfl
  have hM : mayC y (eaS y / 31) ((eaS y % 31) + 1) = true ∧ eaN y = nbV y 3 1 + (eaS y - 93) := by
    have hr : 114 ≤ eaS y ∧ eaS y ≤ 148 := by rw [hS, c]; split <;> omega
    unfold eaN
    rcases (show eaS y / 31 = 3 ∨ eaS y / 31 = 4 by omega) with g | g
    · have hmay : mayC y (eaS y / 31) ((eaS y % 31) + 1) = true := by rw [g]; unfold mayC; rw [len_3]; exact decide_eq_true (by omega)
      refine ⟨hmay, ?_⟩
      conv => lhs; unfold nbV
      rw [if_pos hmay, g, (mar_1 h1 h2 _).1, hm]; omega
    · have hmay : mayC y (eaS y / 31) ((eaS y % 31) + 1) = true := by rw [g]; unfold mayC; rw [len_4]; exact decide_eq_true (by omega)
      refine ⟨hmay, ?_⟩
      conv => lhs; unfold nbV
      rw [if_pos hmay, g, (mar_1 h1 h2 _).2, hm]; omega
  refine ⟨hM.1, ?_, by rw [a]; split <;> omega, by rw [a]; split <;> omega⟩
  rw [hM.2, hS, c]
  have hD : reD y = nbV y 3 1 + eaH y + 21 - (if eaH y = 29 ∨ eaH y = 28 ∧ 10 < y % 19 then 1 else 0) := by unfold reD; rw [a]; omega
  rw [hD]
  unfold wdy at b ⊢
  generalize nbV y 3 1 = M at *
  generalize eaH y = h at *
  generalize eaL y = l at *
  (repeat' split) <;> omega
theorem easter_Day_w {a1 : Int} {res : SV}  (H : (a1 < 1 → ((.tup [I 0, I 3]) : SV) = res) ∧ (¬ a1 < 1 → (a1 > 9999 → ((.tup [I 0, I 3]) : SV) = res) ∧ (¬ a1 > 9999 → ((.tup [I (nbV a1 ((((((((((19 * (a1 % 19)) + (a1 / 100)) - ((a1 / 100) / 4)) - ((((a1 / 100) - (((a1 / 100) + 8) / 25)) + 1) / 3)) + 15) % 30) + (((((32 + (2 * ((a1 / 100) % 4))) + (2 * ((a1 % 100) / 4))) - ((((((19 * (a1 % 19)) + (a1 / 100)) - ((a1 / 100) / 4)) - ((((a1 / 100) - (((a1 / 100) + 8) / 25)) + 1) / 3)) + 15) % 30)) - ((a1 % 100) % 4)) % 7)) - (7 * ((((a1 % 19) + (11 * ((((((19 * (a1 % 19)) + (a1 / 100)) - ((a1 / 100) / 4)) - ((((a1 / 100) - (((a1 / 100) + 8) / 25)) + 1) / 3)) + 15) % 30))) + (22 * (((((32 + (2 * ((a1 / 100) % 4))) + (2 * ((a1 % 100) / 4))) - ((((((19 * (a1 % 19)) + (a1 / 100)) - ((a1 / 100) / 4)) - ((((a1 / 100) - (((a1 / 100) + 8) / 25)) + 1) / 3)) + 15) % 30)) - ((a1 % 100) % 4)) % 7))) / 451))) + 114) / 31) (((((((((((19 * (a1 % 19)) + (a1 / 100)) - ((a1 / 100) / 4)) - ((((a1 / 100) - (((a1 / 100) + 8) / 25)) + 1) / 3)) + 15) % 30) + (((((32 + (2 * ((a1 / 100) % 4))) + (2 * ((a1 % 100) / 4))) - ((((((19 * (a1 % 19)) + (a1 / 100)) - ((a1 / 100) / 4)) - ((((a1 / 100) - (((a1 / 100) + 8) / 25)) + 1) / 3)) + 15) % 30)) - ((a1 % 100) % 4)) % 7)) - (7 * ((((a1 % 19) + (11 * ((((((19 * (a1 % 19)) + (a1 / 100)) - ((a1 / 100) / 4)) - ((((a1 / 100) - (((a1 / 100) + 8) / 25)) + 1) / 3)) + 15) % 30))) + (22 * (((((32 + (2 * ((a1 / 100) % 4))) + (2 * ((a1 % 100) / 4))) - ((((((19 * (a1 % 19)) + (a1 / 100)) - ((a1 / 100) / 4)) - ((((a1 / 100) - (((a1 / 100) + 8) / 25)) + 1) / 3)) + 15) % 30)) - ((a1 % 100) % 4)) % 7))) / 451))) + 114) % 31) + 1)), I (nbE a1 ((((((((((19 * (a1 % 19)) + (a1 / 100)) - ((a1 / 100) / 4)) - ((((a1 / 100) - (((a1 / 100) + 8) / 25)) + 1) / 3)) + 15) % 30) + (((((32 + (2 * ((a1 / 100) % 4))) + (2 * ((a1 % 100) / 4))) - ((((((19 * (a1 % 19)) + (a1 / 100)) - ((a1 / 100) / 4)) - ((((a1 / 100) - (((a1 / 100) + 8) / 25)) + 1) / 3)) + 15) % 30)) - ((a1 % 100) % 4)) % 7)) - (7 * ((((a1 % 19) + (11 * ((((((19 * (a1 % 19)) + (a1 / 100)) - ((a1 / 100) / 4)) - ((((a1 / 100) - (((a1 / 100) + 8) / 25)) + 1) / 3)) + 15) % 30))) + (22 * (((((32 + (2 * ((a1 / 100) % 4))) + (2 * ((a1 % 100) / 4))) - ((((((19 * (a1 % 19)) + (a1 / 100)) - ((a1 / 100) / 4)) - ((((a1 / 100) - (((a1 / 100) + 8) / 25)) + 1) / 3)) + 15) % 30)) - ((a1 % 100) % 4)) % 7))) / 451))) + 114) / 31) (((((((((((19 * (a1 % 19)) + (a1 / 100)) - ((a1 / 100) / 4)) - ((((a1 / 100) - (((a1 / 100) + 8) / 25)) + 1) / 3)) + 15) % 30) + (((((32 + (2 * ((a1 / 100) % 4))) + (2 * ((a1 % 100) / 4))) - ((((((19 * (a1 % 19)) + (a1 / 100)) - ((a1 / 100) / 4)) - ((((a1 / 100) - (((a1 / 100) + 8) / 25)) + 1) / 3)) + 15) % 30)) - ((a1 % 100) % 4)) % 7)) - (7 * ((((a1 % 19) + (11 * ((((((19 * (a1 % 19)) + (a1 / 100)) - ((a1 / 100) / 4)) - ((((a1 / 100) - (((a1 / 100) + 8) / 25)) + 1) / 3)) + 15) % 30))) + (22 * (((((32 + (2 * ((a1 / 100) % 4))) + (2 * ((a1 % 100) / 4))) - ((((((19 * (a1 % 19)) + (a1 / 100)) - ((a1 / 100) / 4)) - ((((a1 / 100) - (((a1 / 100) + 8) / 25)) + 1) / 3)) + 15) % 30)) - ((a1 % 100) % 4)) % 7))) / 451))) + 114) % 31) + 1))]) : SV) = res))) :
    S 211 [I a1] [] (res) [] := by
  refine SCall.st fun X hX => ?_
  obtain ⟨L0, K0⟩ := H
  by_cases h0 : a1 < 1
  · have HE := L0 h0
    exact (hX.to HE.symm).e [n_ 3 (t_ (dt h0)), t_ rt]
  · obtain ⟨L1, K1⟩ := K0 h0
    refine hX.go [n_ 3 (f_ (df h0))] ?_
    by_cases h1 : a1 > 9999
    · have HE := L1 h1
      exact (hX.to HE.symm).e [t_ (dt h1)]
    · have h2 : (0 : Int) ≤ a1 := by omega
      have h3 : Ir (a1 / 100) := irT (by omega)
      have h4 : Ir (19 * (a1 % 19)) := irT (by omega)
      have h5 : Ir ((19 * (a1 % 19)) + (a1 / 100)) := irT (by omega)
      have h6 : (0 : Int) ≤ (a1 / 100) := by omega
      have h7 : Ir ((a1 / 100) / 4) := irT (by omega)
      have h8 : Ir (((19 * (a1 % 19)) + (a1 / 100)) - ((a1 / 100) / 4)) := irT (by omega)
      have h9 : Ir ((a1 / 100) + 8) := irT (by omega)
      have h10 : (0 : Int) ≤ ((a1 / 100) + 8) := by omega
      have h11 : Ir (((a1 / 100) + 8) / 25) := irT (by omega)
      have h12 : Ir ((a1 / 100) - (((a1 / 100) + 8) / 25)) := irT (by omega)
      have h13 : Ir (((a1 / 100) - (((a1 / 100) + 8) / 25)) + 1) := irT (by omega)
      have h14 : (0 : Int) ≤ (((a1 / 100) - (((a1 / 100) + 8) / 25)) + 1) := by omega
      have h15 : Ir ((((a1 / 100) - (((a1 / 100) + 8) / 25)) + 1) / 3) := irT (by omega)
      have h16 : Ir ((((19 * (a1 % 19)) + (a1 / 100)) - ((a1 / 100) / 4)) - ((((a1 / 100) - (((a1 / 100) + 8) / 25)) + 1) / 3)) := irT (by omega)
      have h17 : Ir (((((19 * (a1 % 19)) + (a1 / 100)) - ((a1 / 100) / 4)) - ((((a1 / 100) - (((a1 / 100) + 8) / 25)) + 1) / 3)) + 15) := irT (by omega)
      have h18 : (0 : Int) ≤ (((((19 * (a1 % 19)) + (a1 / 100)) - ((a1 / 100) / 4)) - ((((a1 / 100) - (((a1 / 100) + 8) / 25)) + 1) / 3)) + 15) := by omega
      have h19 : Ir (2 * ((a1 / 100) % 4)) := irT (by omega)
      have h20 : Ir (32 + (2 * ((a1 / 100) % 4))) := irT (by omega)
      have h21 : (0 : Int) ≤ (a1 % 100) := by omega
      have h22 : Ir ((a1 % 100) / 4) := irT (by omega)
      have h23 : Ir (2 * ((a1 % 100) / 4)) := irT (by omega)
      have h24 : Ir ((32 + (2 * ((a1 / 100) % 4))) + (2 * ((a1 % 100) / 4))) := irT (by omega)
      have h25 : Ir (((32 + (2 * ((a1 / 100) % 4))) + (2 * ((a1 % 100) / 4))) - ((((((19 * (a1 % 19)) + (a1 / 100)) - ((a1 / 100) / 4)) - ((((a1 / 100) - (((a1 / 100) + 8) / 25)) + 1) / 3)) + 15) % 30)) := irT (by have q1 := eaH_le a1; have q2 := eaL_le a1; simp only [← eaH_def, ← eaL_def]; omega)
      have h26 : Ir ((((32 + (2 * ((a1 / 100) % 4))) + (2 * ((a1 % 100) / 4))) - ((((((19 * (a1 % 19)) + (a1 / 100)) - ((a1 / 100) / 4)) - ((((a1 / 100) - (((a1 / 100) + 8) / 25)) + 1) / 3)) + 15) % 30)) - ((a1 % 100) % 4)) := irT (by have q1 := eaH_le a1; have q2 := eaL_le a1; simp only [← eaH_def, ← eaL_def]; omega)
      have h27 : (0 : Int) ≤ ((((32 + (2 * ((a1 / 100) % 4))) + (2 * ((a1 % 100) / 4))) - ((((((19 * (a1 % 19)) + (a1 / 100)) - ((a1 / 100) / 4)) - ((((a1 / 100) - (((a1 / 100) + 8) / 25)) + 1) / 3)) + 15) % 30)) - ((a1 % 100) % 4)) := by have q1 := eaH_le a1; have q2 := eaL_le a1; simp only [← eaH_def, ← eaL_def]; omega
      have h28 : Ir (11 * ((((((19 * (a1 % 19)) + (a1 / 100)) - ((a1 / 100) / 4)) - ((((a1 / 100) - (((a1 / 100) + 8) / 25)) + 1) / 3)) + 15) % 30)) := irT (by have q1 := eaH_le a1; have q2 := eaL_le a1; simp only [← eaH_def, ← eaL_def]; omega)
      have h29 : Ir ((a1 % 19) + (11 * ((((((19 * (a1 % 19)) + (a1 / 100)) - ((a1 / 100) / 4)) - ((((a1 / 100) - (((a1 / 100) + 8) / 25)) + 1) / 3)) + 15) % 30))) := irT (by have q1 := eaH_le a1; have q2 := eaL_le a1; simp only [← eaH_def, ← eaL_def]; omega)
      have h30 : Ir (22 * (((((32 + (2 * ((a1 / 100) % 4))) + (2 * ((a1 % 100) / 4))) - ((((((19 * (a1 % 19)) + (a1 / 100)) - ((a1 / 100) / 4)) - ((((a1 / 100) - (((a1 / 100) + 8) / 25)) + 1) / 3)) + 15) % 30)) - ((a1 % 100) % 4)) % 7)) := irT (by have q1 := eaH_le a1; have q2 := eaL_le a1; simp only [← eaH_def, ← eaL_def]; omega)
      have h31 : Ir (((a1 % 19) + (11 * ((((((19 * (a1 % 19)) + (a1 / 100)) - ((a1 / 100) / 4)) - ((((a1 / 100) - (((a1 / 100) + 8) / 25)) + 1) / 3)) + 15) % 30))) + (22 * (((((32 + (2 * ((a1 / 100) % 4))) + (2 * ((a1 % 100) / 4))) - ((((((19 * (a1 % 19)) + (a1 / 100)) - ((a1 / 100) / 4)) - ((((a1 / 100) - (((a1 / 100) + 8) / 25)) + 1) / 3)) + 15) % 30)) - ((a1 % 100) % 4)) % 7))) := irT (by have q1 := eaH_le a1; have q2 := eaL_le a1; simp only [← eaH_def, ← eaL_def]; omega)
      have h32 : (0 : Int) ≤ (((a1 % 19) + (11 * ((((((19 * (a1 % 19)) + (a1 / 100)) - ((a1 / 100) / 4)) - ((((a1 / 100) - (((a1 / 100) + 8) / 25)) + 1) / 3)) + 15) % 30))) + (22 * (((((32 + (2 * ((a1 / 100) % 4))) + (2 * ((a1 % 100) / 4))) - ((((((19 * (a1 % 19)) + (a1 / 100)) - ((a1 / 100) / 4)) - ((((a1 / 100) - (((a1 / 100) + 8) / 25)) + 1) / 3)) + 15) % 30)) - ((a1 % 100) % 4)) % 7))) := by have q1 := eaH_le a1; have q2 := eaL_le a1; simp only [← eaH_def, ← eaL_def]; omega
      have h33 : Ir ((((a1 % 19) + (11 * ((((((19 * (a1 % 19)) + (a1 / 100)) - ((a1 / 100) / 4)) - ((((a1 / 100) - (((a1 / 100) + 8) / 25)) + 1) / 3)) + 15) % 30))) + (22 * (((((32 + (2 * ((a1 / 100) % 4))) + (2 * ((a1 % 100) / 4))) - ((((((19 * (a1 % 19)) + (a1 / 100)) - ((a1 / 100) / 4)) - ((((a1 / 100) - (((a1 / 100) + 8) / 25)) + 1) / 3)) + 15) % 30)) - ((a1 % 100) % 4)) % 7))) / 451) := irT (by have q1 := eaH_le a1; have q2 := eaL_le a1; simp only [← eaH_def, ← eaL_def]; omega)
      have h34 : Ir (((((((19 * (a1 % 19)) + (a1 / 100)) - ((a1 / 100) / 4)) - ((((a1 / 100) - (((a1 / 100) + 8) / 25)) + 1) / 3)) + 15) % 30) + (((((32 + (2 * ((a1 / 100) % 4))) + (2 * ((a1 % 100) / 4))) - ((((((19 * (a1 % 19)) + (a1 / 100)) - ((a1 / 100) / 4)) - ((((a1 / 100) - (((a1 / 100) + 8) / 25)) + 1) / 3)) + 15) % 30)) - ((a1 % 100) % 4)) % 7)) := irT (by have q1 := eaH_le a1; have q2 := eaL_le a1; simp only [← eaH_def, ← eaL_def]; omega)
      have h35 : Ir (7 * ((((a1 % 19) + (11 * ((((((19 * (a1 % 19)) + (a1 / 100)) - ((a1 / 100) / 4)) - ((((a1 / 100) - (((a1 / 100) + 8) / 25)) + 1) / 3)) + 15) % 30))) + (22 * (((((32 + (2 * ((a1 / 100) % 4))) + (2 * ((a1 % 100) / 4))) - ((((((19 * (a1 % 19)) + (a1 / 100)) - ((a1 / 100) / 4)) - ((((a1 / 100) - (((a1 / 100) + 8) / 25)) + 1) / 3)) + 15) % 30)) - ((a1 % 100) % 4)) % 7))) / 451)) := irT (by have q1 := eaH_le a1; have q2 := eaL_le a1; simp only [← eaH_def, ← eaL_def]; omega)
      have h36 : Ir ((((((((19 * (a1 % 19)) + (a1 / 100)) - ((a1 / 100) / 4)) - ((((a1 / 100) - (((a1 / 100) + 8) / 25)) + 1) / 3)) + 15) % 30) + (((((32 + (2 * ((a1 / 100) % 4))) + (2 * ((a1 % 100) / 4))) - ((((((19 * (a1 % 19)) + (a1 / 100)) - ((a1 / 100) / 4)) - ((((a1 / 100) - (((a1 / 100) + 8) / 25)) + 1) / 3)) + 15) % 30)) - ((a1 % 100) % 4)) % 7)) - (7 * ((((a1 % 19) + (11 * ((((((19 * (a1 % 19)) + (a1 / 100)) - ((a1 / 100) / 4)) - ((((a1 / 100) - (((a1 / 100) + 8) / 25)) + 1) / 3)) + 15) % 30))) + (22 * (((((32 + (2 * ((a1 / 100) % 4))) + (2 * ((a1 % 100) / 4))) - ((((((19 * (a1 % 19)) + (a1 / 100)) - ((a1 / 100) / 4)) - ((((a1 / 100) - (((a1 / 100) + 8) / 25)) + 1) / 3)) + 15) % 30)) - ((a1 % 100) % 4)) % 7))) / 451))) := irT (by have q1 := eaH_le a1; have q2 := eaL_le a1; simp only [← eaH_def, ← eaL_def]; omega)
      have h37 : Ir (((((((((19 * (a1 % 19)) + (a1 / 100)) - ((a1 / 100) / 4)) - ((((a1 / 100) - (((a1 / 100) + 8) / 25)) + 1) / 3)) + 15) % 30) + (((((32 + (2 * ((a1 / 100) % 4))) + (2 * ((a1 % 100) / 4))) - ((((((19 * (a1 % 19)) + (a1 / 100)) - ((a1 / 100) / 4)) - ((((a1 / 100) - (((a1 / 100) + 8) / 25)) + 1) / 3)) + 15) % 30)) - ((a1 % 100) % 4)) % 7)) - (7 * ((((a1 % 19) + (11 * ((((((19 * (a1 % 19)) + (a1 / 100)) - ((a1 / 100) / 4)) - ((((a1 / 100) - (((a1 / 100) + 8) / 25)) + 1) / 3)) + 15) % 30))) + (22 * (((((32 + (2 * ((a1 / 100) % 4))) + (2 * ((a1 % 100) / 4))) - ((((((19 * (a1 % 19)) + (a1 / 100)) - ((a1 / 100) / 4)) - ((((a1 / 100) - (((a1 / 100) + 8) / 25)) + 1) / 3)) + 15) % 30)) - ((a1 % 100) % 4)) % 7))) / 451))) + 114) := irT (by have q1 := eaH_le a1; have q2 := eaL_le a1; simp only [← eaH_def, ← eaL_def]; omega)
      have h38 : (0 : Int) ≤ (((((((((19 * (a1 % 19)) + (a1 / 100)) - ((a1 / 100) / 4)) - ((((a1 / 100) - (((a1 / 100) + 8) / 25)) + 1) / 3)) + 15) % 30) + (((((32 + (2 * ((a1 / 100) % 4))) + (2 * ((a1 % 100) / 4))) - ((((((19 * (a1 % 19)) + (a1 / 100)) - ((a1 / 100) / 4)) - ((((a1 / 100) - (((a1 / 100) + 8) / 25)) + 1) / 3)) + 15) % 30)) - ((a1 % 100) % 4)) % 7)) - (7 * ((((a1 % 19) + (11 * ((((((19 * (a1 % 19)) + (a1 / 100)) - ((a1 / 100) / 4)) - ((((a1 / 100) - (((a1 / 100) + 8) / 25)) + 1) / 3)) + 15) % 30))) + (22 * (((((32 + (2 * ((a1 / 100) % 4))) + (2 * ((a1 % 100) / 4))) - ((((((19 * (a1 % 19)) + (a1 / 100)) - ((a1 / 100) / 4)) - ((((a1 / 100) - (((a1 / 100) + 8) / 25)) + 1) / 3)) + 15) % 30)) - ((a1 % 100) % 4)) % 7))) / 451))) + 114) := by have q1 := eaH_le a1; have q2 := eaL_le a1; simp only [← eaH_def, ← eaL_def]; omega
      have h39 : Ir ((((((((((19 * (a1 % 19)) + (a1 / 100)) - ((a1 / 100) / 4)) - ((((a1 / 100) - (((a1 / 100) + 8) / 25)) + 1) / 3)) + 15) % 30) + (((((32 + (2 * ((a1 / 100) % 4))) + (2 * ((a1 % 100) / 4))) - ((((((19 * (a1 % 19)) + (a1 / 100)) - ((a1 / 100) / 4)) - ((((a1 / 100) - (((a1 / 100) + 8) / 25)) + 1) / 3)) + 15) % 30)) - ((a1 % 100) % 4)) % 7)) - (7 * ((((a1 % 19) + (11 * ((((((19 * (a1 % 19)) + (a1 / 100)) - ((a1 / 100) / 4)) - ((((a1 / 100) - (((a1 / 100) + 8) / 25)) + 1) / 3)) + 15) % 30))) + (22 * (((((32 + (2 * ((a1 / 100) % 4))) + (2 * ((a1 % 100) / 4))) - ((((((19 * (a1 % 19)) + (a1 / 100)) - ((a1 / 100) / 4)) - ((((a1 / 100) - (((a1 / 100) + 8) / 25)) + 1) / 3)) + 15) % 30)) - ((a1 % 100) % 4)) % 7))) / 451))) + 114) / 31) := irT (by have q1 := eaH_le a1; have q2 := eaL_le a1; simp only [← eaH_def, ← eaL_def]; omega)
      have h40 : Ir (((((((((((19 * (a1 % 19)) + (a1 / 100)) - ((a1 / 100) / 4)) - ((((a1 / 100) - (((a1 / 100) + 8) / 25)) + 1) / 3)) + 15) % 30) + (((((32 + (2 * ((a1 / 100) % 4))) + (2 * ((a1 % 100) / 4))) - ((((((19 * (a1 % 19)) + (a1 / 100)) - ((a1 / 100) / 4)) - ((((a1 / 100) - (((a1 / 100) + 8) / 25)) + 1) / 3)) + 15) % 30)) - ((a1 % 100) % 4)) % 7)) - (7 * ((((a1 % 19) + (11 * ((((((19 * (a1 % 19)) + (a1 / 100)) - ((a1 / 100) / 4)) - ((((a1 / 100) - (((a1 / 100) + 8) / 25)) + 1) / 3)) + 15) % 30))) + (22 * (((((32 + (2 * ((a1 / 100) % 4))) + (2 * ((a1 % 100) / 4))) - ((((((19 * (a1 % 19)) + (a1 / 100)) - ((a1 / 100) / 4)) - ((((a1 / 100) - (((a1 / 100) + 8) / 25)) + 1) / 3)) + 15) % 30)) - ((a1 % 100) % 4)) % 7))) / 451))) + 114) % 31) + 1) := irT (by have q1 := eaH_le a1; have q2 := eaL_le a1; simp only [← eaH_def, ← eaL_def]; omega)
      have HE := K1 h1
      exact (hX.to HE.symm).e [f_ (df h1), q_ h2, q_ (show (0 : Int) < 19 from by decide), q_ h2, q_ (show (0 : Int) < 100 from by decide), q_ h3, q_ h2, q_ (show (0 : Int) < 100 from by decide), t_ rt, q_ (show (0 : Int) ≤ 0 ∧ 0 < ((3 : Nat) : Int) from by decide), q_ h4, q_ h5, q_ h6, q_ (show (0 : Int) < 4 from by decide), q_ h7, q_ h8, q_ h9, q_ h10, q_ (show (0 : Int) < 25 from by decide), q_ h11, q_ h12, q_ h13, q_ h14, q_ (show (0 : Int) < 3 from by decide), q_ h15, q_ h16, q_ h17, q_ h18, q_ (show (0 : Int) < 30 from by decide), q_ (show Ir 1 from by decide), i_, t_ rt, q_ (show (0 : Int) ≤ 1 ∧ 1 < ((3 : Nat) : Int) from by decide), q_ h6, q_ (show (0 : Int) < 4 from by decide), q_ h19, q_ h20, q_ h21, q_ (show (0 : Int) < 4 from by decide), q_ h22, q_ h23, q_ h24, q_ h25, q_ h21, q_ (show (0 : Int) < 4 from by decide), q_ h26, q_ h27, q_ (show (0 : Int) < 7 from by decide), q_ (show Ir 2 from by decide), i_, t_ rt, q_ (show (0 : Int) ≤ 2 ∧ 2 < ((3 : Nat) : Int) from by decide), q_ h28, q_ h29, q_ h30, q_ h31, q_ h32, q_ (show (0 : Int) < 451 from by decide), q_ h33, q_ (show Ir 3 from by decide), i_, f_ rf, q_ h34, q_ h35, q_ h36, q_ h37, q_ h38, q_ (show (0 : Int) < 31 from by decide), q_ h39, q_ h38, q_ (show (0 : Int) < 31 from by decide), q_ h40, c_ [] (cNumberT a1 ((((((((((19 * (a1 % 19)) + (a1 / 100)) - ((a1 / 100) / 4)) - ((((a1 / 100) - (((a1 / 100) + 8) / 25)) + 1) / 3)) + 15) % 30) + (((((32 + (2 * ((a1 / 100) % 4))) + (2 * ((a1 % 100) / 4))) - ((((((19 * (a1 % 19)) + (a1 / 100)) - ((a1 / 100) / 4)) - ((((a1 / 100) - (((a1 / 100) + 8) / 25)) + 1) / 3)) + 15) % 30)) - ((a1 % 100) % 4)) % 7)) - (7 * ((((a1 % 19) + (11 * ((((((19 * (a1 % 19)) + (a1 / 100)) - ((a1 / 100) / 4)) - ((((a1 / 100) - (((a1 / 100) + 8) / 25)) + 1) / 3)) + 15) % 30))) + (22 * (((((32 + (2 * ((a1 / 100) % 4))) + (2 * ((a1 % 100) / 4))) - ((((((19 * (a1 % 19)) + (a1 / 100)) - ((a1 / 100) / 4)) - ((((a1 / 100) - (((a1 / 100) + 8) / 25)) + 1) / 3)) + 15) % 30)) - ((a1 % 100) % 4)) % 7))) / 451))) + 114) / 31) (((((((((((19 * (a1 % 19)) + (a1 / 100)) - ((a1 / 100) / 4)) - ((((a1 / 100) - (((a1 / 100) + 8) / 25)) + 1) / 3)) + 15) % 30) + (((((32 + (2 * ((a1 / 100) % 4))) + (2 * ((a1 % 100) / 4))) - ((((((19 * (a1 % 19)) + (a1 / 100)) - ((a1 / 100) / 4)) - ((((a1 / 100) - (((a1 / 100) + 8) / 25)) + 1) / 3)) + 15) % 30)) - ((a1 % 100) % 4)) % 7)) - (7 * ((((a1 % 19) + (11 * ((((((19 * (a1 % 19)) + (a1 / 100)) - ((a1 / 100) / 4)) - ((((a1 / 100) - (((a1 / 100) + 8) / 25)) + 1) / 3)) + 15) % 30))) + (22 * (((((32 + (2 * ((a1 / 100) % 4))) + (2 * ((a1 % 100) / 4))) - ((((((19 * (a1 % 19)) + (a1 / 100)) - ((a1 / 100) / 4)) - ((((a1 / 100) - (((a1 / 100) + 8) / 25)) + 1) / 3)) + 15) % 30)) - ((a1 % 100) % 4)) % 7))) / 451))) + 114) % 31) + 1))]
theorem eaDay (y : Int) : S 211 [I y] [] (.tup [I (eaV y), I (eaE y)]) [] := by
  refine easter_Day_w ⟨fun c => ?_, fun c => ⟨fun d => ?_, fun d => ?_⟩⟩
  · unfold eaV eaE; rw [if_pos (.inl c), if_pos (.inl c)]
  · unfold eaV eaE; rw [if_pos (.inr d), if_pos (.inr d)]
  · unfold eaV eaE; rw [if_neg (by omega), if_neg (by omega)]
    have h := (ea_ok (y := y) (by omega) (by omega)).1
    have e : nbE y (eaS y / 31) ((eaS y % 31) + 1) = 0 := by unfold nbE; rw [if_pos h]
    show (SV.tup [I (eaN y), I (nbE y (eaS y / 31) ((eaS y % 31) + 1))]) = _
    rw [e]
end Go.Proofs.YtgojmodiaffcbaaGreatDoor
