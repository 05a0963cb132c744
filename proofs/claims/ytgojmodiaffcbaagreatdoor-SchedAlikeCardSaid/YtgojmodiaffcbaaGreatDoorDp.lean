/-
  A loan's days (chapter 16), in plain Lean: where they stand, that they rise.
-/
import Derived.Test.YtgojmodiaffcbaaGreatDoorL16
set_option linter.unusedVariables false
set_option linter.unusedSimpArgs false
set_option linter.unusedSectionVars false
namespace Go.Proofs.YtgojmodiaffcbaaGreatDoor
open Go Go.Sx
variable [EnvT]
variable {s e mo : Int} {long back eom : Bool}
theorem dV_zero : dV s e mo long back eom 0 = s := by unfold dV catV; rw [if_pos rfl]
theorem dV_last : dV s e mo long back eom (dM s e mo long back eom + 1) = e := by unfold dV catV; rw [if_neg (by omega), if_neg (by omega)]
theorem dV_in {i : Nat} (h1 : 1 ≤ i) (h2 : i ≤ dM s e mo long back eom) : dV s e mo long back eom i = gcV s e mo back eom (dO s e mo long back eom + (i - 1)) := by
  unfold dV catV; rw [if_neg (by omega), if_pos (by omega)]
theorem dV_back (h : Loan s e mo) (hs : e - s ≤ 6200 * mo) (hb : back = true) {i : Nat} (h1 : 1 ≤ i) (h2 : i ≤ dM s e mo long back eom + 1) :
    dV s e mo long back eom i = (stp s e mo back eom (dM s e mo long back eom + 1 - i)).1 := by
  have hm := mN_le (back := back) (eom := eom) h hs
  have hd := dM_le (s := s) (e := e) (mo := mo) (long := long) (back := back) (eom := eom)
  rcases Nat.lt_or_ge (dM s e mo long back eom) i with g | g
  · rw [show i = dM s e mo long back eom + 1 by omega, dV_last, Nat.sub_self, stp_zero h, if_pos hb]
  · rw [dV_in h1 g]
    unfold gcV dO
    rw [if_pos hb, if_pos hb]
    congr 2; omega
theorem dV_fwd (h : Loan s e mo) (hb : back = false) {i : Nat} (h2 : i ≤ dM s e mo long back eom) : dV s e mo long back eom i = (stp s e mo back eom i).1 := by
  rcases Nat.eq_zero_or_pos i with rfl | g
  · rw [dV_zero, stp_zero h, if_neg (by rw [hb]; decide)]
  · rw [dV_in g h2]
    unfold gcV dO
    rw [if_neg (by rw [hb]; decide), if_neg (by rw [hb]; decide)]
    congr 2; omega
theorem stp_b (h : Loan s e mo) (hs : e - s ≤ 6200 * mo) {j : Nat} (h1 : 1 ≤ j) (hj : j ≤ dM s e mo long back eom) : s < (stp s e mo back eom j).1 ∧ (stp s e mo back eom j).1 < e := by
  have hm := mN_le (back := back) (eom := eom) h hs
  have hd := dM_le (s := s) (e := e) (mo := mo) (long := long) (back := back) (eom := eom)
  exact btw_t.1 ((st_btw h hs (by omega)).2 ⟨h1, by omega⟩)
/-- A day between stands where a step does. -/
theorem dV_mid (h : Loan s e mo) (hs : e - s ≤ 6200 * mo) {i : Nat} (h1 : 1 ≤ i) (h2 : i ≤ dM s e mo long back eom) : s < dV s e mo long back eom i ∧ dV s e mo long back eom i < e := by
  rcases bcase back with hb | hb
  · rw [dV_back h hs hb h1 (by omega)]; exact stp_b (long := long) h hs (by omega) (by omega)
  · rw [dV_fwd h hb h2]; exact stp_b (long := long) h hs h1 h2
theorem dN_eq {a1 a2 a3 a4 a5 a6 a7 a11 : Int} {a8 a9 a10 : Bool} (h : chk a1 a2 a3 a4 a5 a6 a7 a11 = 0) : dN a1 a2 a3 a4 a5 a6 a7 a8 a9 a10 a11 = dM a5 a6 a7 a9 a8 a10 + 2 := by unfold dN; rw [if_pos h]
theorem gcN_eq {a1 a2 a3 a4 a5 a6 a7 a11 : Int} {a8 a10 : Bool} (h : chk a1 a2 a3 a4 a5 a6 a7 a11 = 0) : gcN a1 a2 a3 a4 a5 a6 a7 a8 a10 a11 = gN a5 a6 a7 a8 a10 := by unfold gcN; rw [if_pos h]
end Go.Proofs.YtgojmodiaffcbaaGreatDoor
