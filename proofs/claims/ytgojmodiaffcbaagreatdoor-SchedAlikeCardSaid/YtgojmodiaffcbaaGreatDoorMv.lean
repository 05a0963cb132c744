/-
  A day so many months on (chapter 5), of the program and of the reference.
-/
import Derived.Test.YtgojmodiaffcbaaGreatDoorMo
import Derived.Test.YtgojmodiaffcbaaGreatDoorThi
import Derived.Test.YtgojmodiaffcbaaGreatDoorProg
import Derived.KernelRfl
set_option linter.unusedVariables false
set_option linter.unusedSimpArgs false
set_option linter.unusedSectionVars false
set_option maxRecDepth 100000
namespace Go.Proofs.YtgojmodiaffcbaaGreatDoor
open Go Go.Sx
variable [Env]
/-- The number of a day; a code. -/
def nbV (y m d : Int) : Int := if mayC y m d = true then numb y m d else 0
def nbE (y m d : Int) : Int := if mayC y m d = true then 0 else 3
theorem cNumberT (y m d : Int) : S 137 [.agg [I y, I m, I d]] [] (.tup [I (nbV y m d), I (nbE y m d)]) [] := by
  unfold nbV nbE
  rcases bcase (mayC y m d) with h | h
  · rw [if_pos h, if_pos h]; exact cNumber h
  · rw [if_neg (by rw [h]; decide), if_neg (by rw [h]; decide)]; exact cNumber_bad h
theorem rNumberT (y m d : Int) : S 55 [.agg [I y, I m, I d]] [] (.tup [I (nbV y m d), I (nbE y m d)]) [] := by
  unfold nbV nbE
  rcases bcase (mayC y m d) with h | h
  · rw [if_pos h, if_pos h]; exact rNumber h
  · rw [if_neg (by rw [h]; decide), if_neg (by rw [h]; decide)]; exact rNumber_bad h
theorem mv_bad {n k : Int} {eom : Bool} (h : cE n ≠ 0) : mv n k eom = (0, 3) := mv_no (fun c => h (cE_0.2 c.1))
theorem mv_in {n k y m d : Int} {eom : Bool} (hn : isDay n = true) (h1 : 1 ≤ m) (h2 : m ≤ 12) (hM : mIdx n + k = 12 * y + m - 1) (hy : 1 ≤ y) (hy2 : y ≤ 9999)
    (hd : d = if (eom && lastB n) = true then len y m else if cD n ≤ len y m then cD n else len y m) : mv n k eom = (nbV y m d, nbE y m d) := by
  have e1 : (mIdx n + k) / 12 = y := by omega
  have e2 : (mIdx n + k) % 12 = m - 1 := by omega
  have e3 : mLn (mIdx n + k) = len y m := by unfold mLn; rw [e1, e2, show m - 1 + 1 = m by omega]
  have ht := tgt_ok hn eom (mIdx n + k)
  have e4 : tgt n eom (mIdx n + k) = d := by unfold tgt; rw [e3]; exact hd.symm
  rw [mv_ok ⟨hn, by omega, by omega⟩, e4]
  rw [e4] at ht
  have hm := may_month (m := mIdx n + k) (by omega) (by omega) ht.1 ht.2
  have hb := numb_month (mIdx n + k) d
  rw [e1, e2, show m - 1 + 1 = m by omega] at hm hb
  unfold nbV nbE
  rw [if_pos hm, if_pos hm, hb]
theorem last_eq {n : Int} (hn : isDay n = true) : ((cY n == cY n) && ((cM n == cM n) && ((cD n == len (cY n) (cM n)) && true))) = lastB n := by
  unfold lastB; rw [hn]; simp
theorem mn_le (a b : Int) : mnI a b = if a ≤ b then a else b := by
  unfold mnI; by_cases h : b < a
  · rw [if_pos h, if_neg (by omega)]
  · rw [if_neg h, if_pos (by omega)]
theorem cE_3 {n : Int} (h : cE n ≠ 0) : cE n = 3 := by unfold cE at h ⊢; split at h <;> simp_all
theorem cMove (a1 a2 : Int) (a3 : Bool) :
    S 109 [I a1, I a2, B a3] [] (.tup [I (mv a1 a2 a3).1, I (mv a1 a2 a3).2]) [] := by
  refine SCall.st fun X hX => ?_
  refine hX.go [i_, c_ [] (cOfT a1)] ?_
  by_cases h0 : (cE a1) = 0
  · have hn := cE_0.1 h0
    obtain ⟨b1, b2, -, -, -⟩ := day_idx hn
    obtain ⟨-, c1, c2, c3, c4, c5, c6, -, -⟩ := civ_ok hn
    refine hX.go [f_ (bne_eq_false_iff_eq.2 h0), i_, i_] ?_
    by_cases h1 : a2 < (-119988)
    · exact (hX.to (res' := .tup [I 0, I 3]) (by rw [mv_no (fun ⟨_, c1, c2⟩ => by omega)])).e [n_ 3 (t_ (dt h1)), t_ rt, t_ rt]
    · refine hX.go [n_ 3 (f_ (df h1))] ?_
      by_cases h2 : a2 > 119988
      · exact (hX.to (res' := .tup [I 0, I 3]) (by rw [mv_no (fun ⟨_, c1, c2⟩ => by omega)])).e [t_ (dt h2), t_ rt]
      · have h3 : Ir (12 * (cY a1)) := by simp only [Ir, InR, mIdx] at *; omega
        have h4 : Ir ((12 * (cY a1)) + (cM a1)) := by simp only [Ir, InR, mIdx] at *; omega
        have h5 : Ir (((12 * (cY a1)) + (cM a1)) - 1) := by simp only [Ir, InR, mIdx] at *; omega
        have h6 : Ir (mIdx a1 + a2) := by simp only [Ir, InR, mIdx] at *; omega
        refine hX.go [f_ (df h2), q_ h3, q_ h4, q_ h5, q_ h6] ?_
        by_cases h7 : (mIdx a1 + a2) < 12
        · exact (hX.to (res' := .tup [I 0, I 3]) (by rw [mv_no (fun ⟨_, c1, c2⟩ => by omega)])).e [n_ 3 (t_ (dt h7)), t_ rt, t_ rt]
        · refine hX.go [n_ 3 (f_ (df h7))] ?_
          by_cases h8 : (mIdx a1 + a2) ≥ 120000
          · exact (hX.to (res' := .tup [I 0, I 3]) (by rw [mv_no (fun ⟨_, c1, c2⟩ => by omega)])).e [t_ (dt h8), t_ rt]
          · have h9 : (0 : Int) ≤ (mIdx a1 + a2) := by omega
            have h10 : Ir ((mIdx a1 + a2) / 12) := by simp only [Ir, InR, mIdx] at *; omega
            have h11 : Ir (((mIdx a1 + a2) % 12) + 1) := by simp only [Ir, InR, mIdx] at *; omega
            have h12 : (0 : Int) ≤ ((mIdx a1 + a2) / 12) := by omega
            refine hX.go [f_ (df h8), q_ h9, q_ (show (0 : Int) < 12 from by decide), q_ h10, q_ h9, q_ (show (0 : Int) < 12 from by decide), q_ h11, d_ 5, c_ [] (show S 136 [.agg [I ((mIdx a1 + a2) / 12), I (((mIdx a1 + a2) % 12) + 1), I (cD a1)]] [] (.agg [I ((mIdx a1 + a2) / 12), I (((mIdx a1 + a2) % 12) + 1), I (len ((mIdx a1 + a2) / 12) (((mIdx a1 + a2) % 12) + 1))]) [] from mEnd h12), f_ rf] ?_
            rcases bcase a3 with h13 | h13
            · refine hX.go [d_ 5, n_ 3 (t_ h13), c_ [] (show S 136 [.agg [I (cY a1), I (cM a1), I (cD a1)]] [] (.agg [I (cY a1), I (cM a1), I (len (cY a1) (cM a1))]) [] from mEnd (cY_nn _)), t_ h13, t_ h13] ?_
              rcases bcase (((cY a1) == (cY a1)) && (((cM a1) == (cM a1)) && (((cD a1) == (len (cY a1) (cM a1))) && true))) with h14 | h14
              · refine (hX.to (res' := .tup [I (nbV ((mIdx a1 + a2) / 12) ((mIdx a1 + a2) % 12 + 1) (len ((mIdx a1 + a2) / 12) (((mIdx a1 + a2) % 12) + 1))), I (nbE ((mIdx a1 + a2) / 12) ((mIdx a1 + a2) % 12 + 1) (len ((mIdx a1 + a2) / 12) (((mIdx a1 + a2) % 12) + 1)))]) (by rw [mv_in (y := (mIdx a1 + a2) / 12) (m := (mIdx a1 + a2) % 12 + 1) (d := (len ((mIdx a1 + a2) / 12) (((mIdx a1 + a2) % 12) + 1))) hn (by omega) (by omega) (by omega) (by omega) (by omega) (by rw [last_eq hn] at h14; rw [if_pos (by rw [h13, h14]; rfl)])])).e [t_ h14, c_ [] (show S 136 [.agg [I ((mIdx a1 + a2) / 12), I (((mIdx a1 + a2) % 12) + 1), I (mnI (cD a1) (len ((mIdx a1 + a2) / 12) (((mIdx a1 + a2) % 12) + 1)))]] [] (.agg [I ((mIdx a1 + a2) / 12), I (((mIdx a1 + a2) % 12) + 1), I (len ((mIdx a1 + a2) / 12) (((mIdx a1 + a2) % 12) + 1))]) [] from mEnd h12), c_ [] (cNumberT ((mIdx a1 + a2) / 12) (((mIdx a1 + a2) % 12) + 1) (len ((mIdx a1 + a2) / 12) (((mIdx a1 + a2) % 12) + 1)))]
              · refine (hX.to (res' := .tup [I (nbV ((mIdx a1 + a2) / 12) ((mIdx a1 + a2) % 12 + 1) (mnI (cD a1) (len ((mIdx a1 + a2) / 12) (((mIdx a1 + a2) % 12) + 1)))), I (nbE ((mIdx a1 + a2) / 12) ((mIdx a1 + a2) % 12 + 1) (mnI (cD a1) (len ((mIdx a1 + a2) / 12) (((mIdx a1 + a2) % 12) + 1))))]) (by rw [mv_in (y := (mIdx a1 + a2) / 12) (m := (mIdx a1 + a2) % 12 + 1) (d := (mnI (cD a1) (len ((mIdx a1 + a2) / 12) (((mIdx a1 + a2) % 12) + 1)))) hn (by omega) (by omega) (by omega) (by omega) (by omega) (by rw [last_eq hn] at h14; rw [if_neg (by rw [h13, h14]; decide)]; exact mn_le _ _)])).e [f_ h14, c_ [] (cNumberT ((mIdx a1 + a2) / 12) (((mIdx a1 + a2) % 12) + 1) (mnI (cD a1) (len ((mIdx a1 + a2) / 12) (((mIdx a1 + a2) % 12) + 1))))]
            · refine (hX.to (res' := .tup [I (nbV ((mIdx a1 + a2) / 12) ((mIdx a1 + a2) % 12 + 1) (mnI (cD a1) (len ((mIdx a1 + a2) / 12) (((mIdx a1 + a2) % 12) + 1)))), I (nbE ((mIdx a1 + a2) / 12) ((mIdx a1 + a2) % 12 + 1) (mnI (cD a1) (len ((mIdx a1 + a2) / 12) (((mIdx a1 + a2) % 12) + 1))))]) (by rw [mv_in (y := (mIdx a1 + a2) / 12) (m := (mIdx a1 + a2) % 12 + 1) (d := (mnI (cD a1) (len ((mIdx a1 + a2) / 12) (((mIdx a1 + a2) % 12) + 1)))) hn (by omega) (by omega) (by omega) (by omega) (by omega) (by rw [if_neg (by rw [h13, Bool.false_and]; decide)]; exact mn_le _ _)])).e [d_ 5, n_ 5 (f_ h13), f_ rf, c_ [] (cNumberT ((mIdx a1 + a2) / 12) (((mIdx a1 + a2) % 12) + 1) (mnI (cD a1) (len ((mIdx a1 + a2) / 12) (((mIdx a1 + a2) % 12) + 1))))]
  · exact (hX.to (res' := .tup [I 0, I (cE a1)]) (by rw [mv_bad h0]; show _ = SV.tup [I 0, I (cE a1)]; rw [cE_3 h0])).e [t_ (bne_iff_ne.2 h0)]
end Go.Proofs.YtgojmodiaffcbaaGreatDoor
