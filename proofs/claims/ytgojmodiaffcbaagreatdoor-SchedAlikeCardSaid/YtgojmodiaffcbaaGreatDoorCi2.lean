import Derived.Test.YtgojmodiaffcbaaGreatDoorCiv
import Derived.Test.YtgojmodiaffcbaaGreatDoorSC
import Derived.Test.YtgojmodiaffcbaaGreatDoorProg
import Derived.KernelRfl
import Derived.Laws.Externs
set_option linter.unusedVariables false
set_option linter.unusedSimpArgs false
set_option linter.unusedSectionVars false
set_option maxRecDepth 100000
namespace Go.Proofs.YtgojmodiaffcbaaGreatDoor
open Go Go.Sx
variable [Env]
theorem civil_May_w {a1 a2 a3 : Int} {res : SV} (H : (a1 ≥ 1 → (a1 ≤ 9999 → (a3 ≥ 1 → (0 : Int) ≤ a1 ∧ B (decide (a3 ≤ (len a1 a2))) = res) ∧ (¬ a3 ≥ 1 → B false = res)) ∧ (¬ a1 ≤ 9999 → B false = res)) ∧ (¬ a1 ≥ 1 → B false = res)) :
    S 166 [.agg [I a1, I a2, I a3]] [] res [] := by
  refine SCall.st fun X hX => ?_
  obtain ⟨H1, H2⟩ := H
  by_cases h0 : a1 ≥ 1
  · obtain ⟨H1, H2⟩ := H1 h0
    by_cases h1 : a1 ≤ 9999
    · obtain ⟨H1, H2⟩ := H1 h1
      by_cases h2 : a3 ≥ 1
      · obtain ⟨h3, rfl⟩ := H1 h2
        exact hX.e [d_ 21, t_ (dt h0), t_ (dt h0), t_ (dt h0), t_ (dt h0), t_ (dt h1), t_ (dt h1), t_ (dt h1), t_ (dt h1), t_ (dt h2), t_ (dt h2), t_ (dt h2), t_ (dt h2), t_ (dt h2), t_ (dt h2), t_ (dt h2), c_ [] (show S 123 [I a1, I a2] [] (I (len a1 a2)) [] from cLength h3), t_ (dt h2), t_ (dt h2)]
      · obtain rfl := H2 h2
        exact hX.e [d_ 21, t_ (dt h0), t_ (dt h0), t_ (dt h0), t_ (dt h0), t_ (dt h1), t_ (dt h1), t_ (dt h1), t_ (dt h1), f_ (df h2), f_ (df h2), f_ (df h2), f_ (df h2), f_ (df h2), f_ (df h2), f_ (df h2), f_ (df h2), f_ (df h2)]
    · obtain rfl := H2 h1
      exact hX.e [d_ 21, t_ (dt h0), t_ (dt h0), t_ (dt h0), t_ (dt h0), f_ (df h1), f_ (df h1), f_ (df h1), f_ (df h1), f_ rf, f_ rf, f_ rf, f_ rf, f_ rf, f_ rf, f_ rf, f_ rf, f_ rf]
  · obtain rfl := H2 h0
    exact hX.e [d_ 21, f_ (df h0), f_ (df h0), f_ (df h0), f_ (df h0), f_ rf, f_ rf, f_ rf, f_ rf, f_ rf, f_ rf, f_ rf, f_ rf, f_ rf, f_ rf, f_ rf, f_ rf, f_ rf]
theorem cMayC (y m d : Int) : SCall Tryz.prog GL 166 [.agg [I y, I m, I d]] [] (B (mayC y m d)) [] := by
  have hl : d ≥ 1 → d ≤ len y m → 1 ≤ m ∧ m ≤ 12 := fun h1 h2 => by
    unfold len at h2
    split at h2 <;> omega
  refine civil_May_w ⟨fun h1 => ⟨fun h2 => ⟨fun h3 => ⟨by omega, ?_⟩, fun h3 => ?_⟩, fun h2 => ?_⟩, fun h1 => ?_⟩
  · rw [show mayC y m d = decide (d ≤ len y m) by
      unfold mayC
      rw [decide_eq_decide]
      constructor
      · intro h; omega
      · intro h; have := hl h3 h; omega]
  all_goals (rw [show mayC y m d = false by unfold mayC; rw [decide_eq_false_iff_not]; omega])
theorem civil_Number_0 {a1 a2 a3 : Int} {r4 : Bool} (h0 : S 166 [.agg [I a1, I a2, I a3]] [] (B r4) []) (h1 : r4 = false) :
    S 137 [.agg [I a1, I a2, I a3]] [] (.tup [I 0, I 3]) [] :=
  SCall.path 19 [.call [] (B r4) [], tb] [] 1 (by kernel_rfl) rfl (by exact trivial) (ca h0 (ca (nt h1) na))
noncomputable def civil_Number_h0 (x1 : Int) (x2 : Int) (x3 : Int) (x4 : Int) (x5 : Int) : SC :=
  ⟨[⟨137, slo 40 [(1, .ptr 0 0), (5, I x1), (6, I x2)], [.code (bodyAt Tryz.f137 [1, 1, 1, 1, 0, 1, 0, 0]), .inLoop (bodyAt Tryz.f137 [1, 1, 1, 1, 0, 1, 0, 0]), .inBlock 0, .code (bodyAt Tryz.f137 [1, 1, 1, 1, 1])], {}⟩], [some (.box true [I x3, I x4, I x5])]⟩
theorem civil_Number_1 {X : Cx} {res : SV} {new : List (Option Vw)} {a1 a2 a3 : Int} {r4 : Bool} (hX : Fi X 137 [] res new) (h0 : S 166 [.agg [I a1, I a2, I a3]] [] (B r4) []) (h1 : r4 = true) (h2 : Ir (a1 - 1)) (h3 : Ir ((a1 - 1) * 365)) (h4 : (0 : Int) ≤ (a1 - 1)) (h5 : Ir ((a1 - 1) / 4)) (h6 : Ir (((a1 - 1) * 365) + ((a1 - 1) / 4))) (h7 : Ir ((a1 - 1) / 100)) (h8 : Ir ((((a1 - 1) * 365) + ((a1 - 1) / 4)) - ((a1 - 1) / 100))) (h9 : Ir ((a1 - 1) / 400)) (h10 : Ir (((((a1 - 1) * 365) + ((a1 - 1) / 4)) - ((a1 - 1) / 100)) + ((a1 - 1) / 400))) (h11 : Ir ((((((a1 - 1) * 365) + ((a1 - 1) / 4)) - ((a1 - 1) / 100)) + ((a1 - 1) / 400)) + a3)) (k : Ok X (civil_Number_h0 ((((((a1 - 1) * 365) + ((a1 - 1) / 4)) - ((a1 - 1) / 100)) + ((a1 - 1) / 400)) + a3) 1 a1 a2 a3)) :
    Ok X (entry Tryz.prog 137 [.agg [I a1, I a2, I a3]] []) :=
  Ok.cutM 47 [.call [] (B r4) [], fb] [msk 40 [1, 5, 6]] [.old 0] 0 hX.P hX.gl hX.n0 (by kernel_rfl) (by kernel_rfl) (by exact ⟨rfl, trivial⟩) (ca h0 (ca (nf h1) (ca h2 (ca h3 (ca h4 (ca (show (0 : Int) < 4 from by decide) (ca h5 (ca h6 (ca h4 (ca (show (0 : Int) < 100 from by decide) (ca h7 (ca h8 (ca h4 (ca (show (0 : Int) < 400 from by decide) (ca h9 (ca h10 (ca h11 na))))))))))))))))) k
theorem civil_Number_2 {X : Cx} {res : SV} {new : List (Option Vw)} {x1 x2 x3 x4 x5 : Int} (hX : Fi X 137 [] res new) (h0 : x2 < x4) (h1 : (0 : Int) ≤ x3) (h2 : Ir (x1 + (len x3 x2))) (h3 : Ir (x2 + 1)) (k : Ok X (civil_Number_h0 (x1 + (len x3 x2)) (x2 + 1) x3 x4 x5)) :
    Ok X (civil_Number_h0 x1 x2 x3 x4 x5) :=
  Ok.cutM 28 [tb, .call [] (I (len x3 x2)) []] [msk 40 [1, 5, 6]] [.old 0] 0 hX.P hX.gl hX.n0 (by kernel_rfl) (by kernel_rfl) (by exact ⟨rfl, trivial⟩) (ca (dt h0) (ca (show S 123 [I x3, I x2] [] (I (len x3 x2)) [] from cLength h1) (ca h2 (ca h3 na)))) k
theorem civil_Number_3 {X : Cx} {x1 x2 x3 x4 x5 : Int} (hX : Fi X 137 [] (.tup [I x1, I 0]) []) (h0 : ¬ x2 < x4) :
    Ok X (civil_Number_h0 x1 x2 x3 x4 x5) :=
  Ok.fin 16 [fb] [] 1 hX (by kernel_rfl) rfl (ca (df h0) na)
theorem cNumber_loop {X : Cx} {y m d : Int} (hy : 1 ≤ y) (hy2 : y ≤ 9999) (hm : 1 ≤ m) (hm2 : m ≤ 12) (hd : 1 ≤ d) (hd2 : d ≤ 31) (hX : IsFin X Tryz.prog GL 137 [] (.tup [I (numb y m d), I 0]) []) :
    ∀ (j k : Nat), (m - 1 - k : Int) = (j : Int) → Ok X (civil_Number_h0 (ahd y + d + mons y k) ((k : Int) + 1) y m d)
  | 0, k, hj => by
    have e : k = (m - 1).toNat := by omega
    subst e
    exact civil_Number_3 hX (by omega)
  | j + 1, k, hj => by
    have ih := cNumber_loop hy hy2 hm hm2 hd hd2 hX j (k + 1) (by omega)
    have hb : 0 ≤ ahd y ∧ ahd y ≤ 4000000 := by unfold ahd; omega
    have h1 := mons_le y k
    have h2 := len_le y ((k : Int) + 1)
    refine civil_Number_2 hX (by omega) (by omega) (by simp only [InR]; omega) (by simp only [InR]; omega) ?_
    rw [show ahd y + d + mons y (k + 1) = ahd y + d + mons y k + len y ((k : Int) + 1) by
      show ahd y + d + (mons y k + len y ((k + 1 : Nat) : Int)) = _
      rw [show (((k + 1 : Nat)) : Int) = (k : Int) + 1 by omega]; omega] at ih
    rw [show (((k + 1 : Nat)) : Int) = (k : Int) + 1 by omega] at ih
    exact ih
theorem cNumber {y m d : Int} (h : mayC y m d = true) : SCall Tryz.prog GL 137 [.agg [I y, I m, I d]] [] (.tup [I (numb y m d), I 0]) [] := by
  have h' := h
  unfold mayC at h'
  rw [decide_eq_true_eq] at h'
  obtain ⟨a1, a2, a3, a4, a5, a6⟩ := h'
  have h2 := len_le y m
  have hb : 0 ≤ ahd y ∧ ahd y ≤ 4000000 := by unfold ahd; omega
  refine SCall.of (by kernel_rfl) rfl trivial rfl (fun X hX => ?_)
  have := cNumber_loop a1 a2 a3 a4 a5 (by omega) hX (m - 1).toNat 0 (by omega)
  refine civil_Number_1 hX (cMayC y m d) h (by simp only [InR]; omega) (by simp only [InR]; omega) (by omega) (by simp only [InR]; omega) (by simp only [InR]; omega) (by simp only [InR]; omega) (by simp only [InR]; omega) (by simp only [InR]; omega) (by simp only [InR]; omega) (by simp only [InR]; omega) ?_
  rw [show ahd y + d + mons y 0 = ((((((y - 1) * 365) + ((y - 1) / 4)) - ((y - 1) / 100)) + ((y - 1) / 400)) + d) by simp only [mons]; unfold ahd; omega] at this
  exact this
theorem cNumber_bad {y m d : Int} (h : mayC y m d = false) : SCall Tryz.prog GL 137 [.agg [I y, I m, I d]] [] (.tup [I 0, I 3]) [] :=
  civil_Number_0 (cMayC y m d) h
theorem ahd_mono {a b : Int} (h : a ≤ b) : ahd a ≤ ahd b := by unfold ahd; omega
/-- A day's year, month, day; a code: whatever the number. -/
def cY (n : Int) : Int := if isDay n = true then (civOf n).1 else 0
def cM (n : Int) : Int := if isDay n = true then (civOf n).2.1 else 0
def cD (n : Int) : Int := if isDay n = true then (civOf n).2.2 else 0
def cE (n : Int) : Int := if isDay n = true then 0 else 3
theorem isDay_iff {n : Int} : isDay n = true ↔ 1 ≤ n ∧ n ≤ 3652059 := by unfold isDay; rw [decide_eq_true_eq]
theorem cOfT (n : Int) : SCall Tryz.prog GL 102 [I n] [] (.tup [.agg [I (cY n), I (cM n), I (cD n)], I (cE n)]) [] := by
  unfold cY cM cD cE
  by_cases h : isDay n = true
  · simp only [h, if_true]; rw [isDay_iff] at h; exact cOf h.1 h.2
  · simp only [h]; rw [isDay_iff] at h; exact cOf_bad h
theorem cY_nn (n : Int) : 0 ≤ cY n := by
  unfold cY
  split
  · rename_i h; rw [isDay_iff] at h; obtain ⟨M, -, -, -, h1, -⟩ := civOf_ok h.1 h.2; omega
  · omega
/-- What a day is made of. -/
theorem civ_ok {n : Int} (h : isDay n = true) : cE n = 0 ∧ 1 ≤ cM n ∧ cM n ≤ 12 ∧ 1 ≤ cY n ∧ cY n ≤ 9999 ∧ 1 ≤ cD n ∧ cD n ≤ len (cY n) (cM n) ∧ cD n ≤ 31 ∧ n = ahd (cY n) + mons (cY n) (cM n - 1).toNat + cD n := by
  have h' := isDay_iff.1 h
  obtain ⟨M, e, h1, h2, h3, h4, h5, h6, h7⟩ := civOf_ok h'.1 h'.2
  have e1 : cM n = (M : Int) := by unfold cM; rw [if_pos h]; exact e
  have e2 : cY n = (civOf n).1 := by unfold cY; rw [if_pos h]
  have e3 : cD n = (civOf n).2.2 := by unfold cD; rw [if_pos h]
  have := (len_le (cY n) (cM n)).1
  rw [e1, e2] at this
  refine ⟨by unfold cE; rw [if_pos h], by omega, by omega, by omega, by omega, by omega, by rw [e1, e2, e3]; exact h6, by omega, ?_⟩
  rw [e1, e2, e3, show ((M : Int) - 1).toNat = M - 1 by omega]
  exact h7
end Go.Proofs.YtgojmodiaffcbaaGreatDoor
