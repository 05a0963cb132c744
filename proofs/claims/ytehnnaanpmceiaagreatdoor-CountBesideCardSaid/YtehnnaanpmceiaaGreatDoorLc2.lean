import Derived.Test.YtehnnaanpmceiaaGreatDoorLc1
import Derived.Test.YtehnnaanpmceiaaGreatDoorRgt
import Derived.Test.YtehnnaanpmceiaaGreatDoorPl
import Derived.Test.YtehnnaanpmceiaaGreatDoorProg
import Derived.KernelRfl
import Derived.Laws.Externs
set_option linter.unusedVariables false
set_option linter.unusedSimpArgs false
set_option linter.unusedSectionVars false
set_option maxRecDepth 100000
namespace Go.Proofs.YtehnnaanpmceiaaGreatDoor
open Go Go.Sx
variable [Env]

theorem demurragelaw10_CountBeside_w {a1 a2 a3 : Int} {a4 : Bool} {a5 a6 : Int} {n7 : Nat} {g8 : Nat → Int} {a9 : Bool} {a10 a11 : Int} {n12 : Nat} {g13 : Nat → Int} {res : SV} (H : (((n7 : Nat) : Int) > 60 → B true = res) ∧ (¬ ((n7 : Nat) : Int) > 60 → (((n12 : Nat) : Int) > 60 → B true = res) ∧ (¬ ((n12 : Nat) : Int) > 60 → Ir a1 ∧ (0 : Int) ≤ a1 ∧ ((a1 % 7) = 0 → (((((partC (a1 % 7) a2 a3 a4 a5 a6 n7 g8).1) == ((partC (a1 % 7) a2 a3 a4 a10 a11 n12 g13).1)) && ((((partC (a1 % 7) a2 a3 a4 a5 a6 n7 g8).2.1) == ((partC (a1 % 7) a2 a3 a4 a10 a11 n12 g13).2.1)) && true)) = true → B (((partC (a1 % 7) a2 a3 a4 a5 a6 n7 g8).2.2) == ((partC (a1 % 7) a2 a3 a4 a10 a11 n12 g13).2.2)) = res) ∧ (((((partC (a1 % 7) a2 a3 a4 a5 a6 n7 g8).1) == ((partC (a1 % 7) a2 a3 a4 a10 a11 n12 g13).1)) && ((((partC (a1 % 7) a2 a3 a4 a5 a6 n7 g8).2.1) == ((partC (a1 % 7) a2 a3 a4 a10 a11 n12 g13).2.1)) && true)) = false → B false = res)) ∧ ((a1 % 7) ≠ 0 → ((a1 % 7) = 2 → (((((partC (a1 % 7) a2 a3 a4 a5 a6 n7 g8).1) == ((partC (a1 % 7) a2 a3 a9 a5 a11 n12 g13).1)) && ((((partC (a1 % 7) a2 a3 a4 a5 a6 n7 g8).2.1) == ((partC (a1 % 7) a2 a3 a9 a5 a11 n12 g13).2.1)) && true)) = true → B (((partC (a1 % 7) a2 a3 a4 a5 a6 n7 g8).2.2) == ((partC (a1 % 7) a2 a3 a9 a5 a11 n12 g13).2.2)) = res) ∧ (((((partC (a1 % 7) a2 a3 a4 a5 a6 n7 g8).1) == ((partC (a1 % 7) a2 a3 a9 a5 a11 n12 g13).1)) && ((((partC (a1 % 7) a2 a3 a4 a5 a6 n7 g8).2.1) == ((partC (a1 % 7) a2 a3 a9 a5 a11 n12 g13).2.1)) && true)) = false → B false = res)) ∧ ((a1 % 7) ≠ 2 → ((a1 % 7) = 6 → (((((partC (a1 % 7) a2 a3 a4 a5 a6 n7 g8).1) == ((partC (a1 % 7) a2 a3 a9 a10 a6 n7 g8).1)) && ((((partC (a1 % 7) a2 a3 a4 a5 a6 n7 g8).2.1) == ((partC (a1 % 7) a2 a3 a9 a10 a6 n7 g8).2.1)) && true)) = true → B (((partC (a1 % 7) a2 a3 a4 a5 a6 n7 g8).2.2) == ((partC (a1 % 7) a2 a3 a9 a10 a6 n7 g8).2.2)) = res) ∧ (((((partC (a1 % 7) a2 a3 a4 a5 a6 n7 g8).1) == ((partC (a1 % 7) a2 a3 a9 a10 a6 n7 g8).1)) && ((((partC (a1 % 7) a2 a3 a4 a5 a6 n7 g8).2.1) == ((partC (a1 % 7) a2 a3 a9 a10 a6 n7 g8).2.1)) && true)) = false → B false = res)) ∧ ((a1 % 7) ≠ 6 → (((((partC (a1 % 7) a2 a3 a4 a5 a6 n7 g8).1) == ((partC (a1 % 7) a2 a3 a9 a10 a11 n12 g13).1)) && ((((partC (a1 % 7) a2 a3 a4 a5 a6 n7 g8).2.1) == ((partC (a1 % 7) a2 a3 a9 a10 a11 n12 g13).2.1)) && true)) = true → B (((partC (a1 % 7) a2 a3 a4 a5 a6 n7 g8).2.2) == ((partC (a1 % 7) a2 a3 a9 a10 a11 n12 g13).2.2)) = res) ∧ (((((partC (a1 % 7) a2 a3 a4 a5 a6 n7 g8).1) == ((partC (a1 % 7) a2 a3 a9 a10 a11 n12 g13).1)) && ((((partC (a1 % 7) a2 a3 a4 a5 a6 n7 g8).2.1) == ((partC (a1 % 7) a2 a3 a9 a10 a11 n12 g13).2.1)) && true)) = false → B false = res))))))) :
    S 5 [.agg [N .u8 a1, I a2, I a3, B a4, I a5, I a6, .sl 0 n7, B a9, I a10, I a11, .sl 1 n12]] [ri n7 g8, ri n12 g13] res [] := by
  obtain ⟨H1, H2⟩ := H
  by_cases h0 : ((n7 : Nat) : Int) > 60
  · obtain rfl := H1 h0
    exact SCall.p 62 [.call [] (B true) [], tb, tb, tb, tb, tb, tb] [] 5 (ca (show S 19 [] [] (B true) [] from shown10) (ca (dt h0) (ca (dt h0) (ca (dt h0) (ca (dt h0) (ca (dt h0) (ca rt na))))))) (by exact ⟨fun _ => rfl, fun _ => rfl, trivial⟩)
  · obtain ⟨H1, H2⟩ := H2 h0
    by_cases h1 : ((n12 : Nat) : Int) > 60
    · obtain rfl := H1 h1
      exact SCall.p 62 [.call [] (B true) [], fb, fb, fb, fb, fb, tb] [] 5 (ca (show S 19 [] [] (B true) [] from shown10) (ca (df h0) (ca (df h0) (ca (df h0) (ca (df h0) (ca (df h0) (ca (dt h1) na))))))) (by exact ⟨fun _ => rfl, fun _ => rfl, trivial⟩)
    · obtain ⟨h2, h3, H1, H2⟩ := H2 h1
      by_cases h4 : (a1 % 7) = 0
      · obtain ⟨H1, H2⟩ := H1 h4
        rcases bcase ((((partC (a1 % 7) a2 a3 a4 a5 a6 n7 g8).1) == ((partC (a1 % 7) a2 a3 a4 a10 a11 n12 g13).1)) && ((((partC (a1 % 7) a2 a3 a4 a5 a6 n7 g8).2.1) == ((partC (a1 % 7) a2 a3 a4 a10 a11 n12 g13).2.1)) && true)) with h5 | h5
        · obtain rfl := H1 h5
          exact SCall.p 133 [.call [] (B true) [], fb, fb, fb, fb, fb, fb, tb, .call [0] (RT (partC (a1 % 7) a2 a3 a4 a5 a6 n7 g8)) [], .call [1] (RT (partC (a1 % 7) a2 a3 a4 a10 a11 n12 g13)) [], tb, tb, tb, tb, tb, tb, tb, tb] [] 8 (ca (show S 19 [] [] (B true) [] from shown10) (ca (df h0) (ca (df h0) (ca (df h0) (ca (df h0) (ca (df h0) (ca (df h1) (ca h2 (ca h3 (ca (show (0 : Int) < 7 from by decide) (ca (beq_iff_eq.2 h4) (ca (show S 20 [I (a1 % 7), I a2, I a3, .agg [B a4, I a5, I a6, .sl 0 n7]] [ri n7 g8] (RT (partC (a1 % 7) a2 a3 a4 a5 a6 n7 g8)) [] from cPart _ _ _) (ca (show S 20 [I (a1 % 7), I a2, I a3, .agg [B a4, I a10, I a11, .sl 0 n12]] [ri n12 g13] (RT (partC (a1 % 7) a2 a3 a4 a10 a11 n12 g13)) [] from cPart _ _ _) (ca rt (ca rt (ca rt (ca rt (ca h5 (ca h5 (ca h5 (ca h5 na))))))))))))))))))))) (by exact ⟨fun _ => rfl, fun _ => rfl, trivial⟩)
        · obtain rfl := H2 h5
          exact SCall.p 133 [.call [] (B true) [], fb, fb, fb, fb, fb, fb, tb, .call [0] (RT (partC (a1 % 7) a2 a3 a4 a5 a6 n7 g8)) [], .call [1] (RT (partC (a1 % 7) a2 a3 a4 a10 a11 n12 g13)) [], tb, tb, tb, tb, fb, fb, fb, fb] [] 8 (ca (show S 19 [] [] (B true) [] from shown10) (ca (df h0) (ca (df h0) (ca (df h0) (ca (df h0) (ca (df h0) (ca (df h1) (ca h2 (ca h3 (ca (show (0 : Int) < 7 from by decide) (ca (beq_iff_eq.2 h4) (ca (show S 20 [I (a1 % 7), I a2, I a3, .agg [B a4, I a5, I a6, .sl 0 n7]] [ri n7 g8] (RT (partC (a1 % 7) a2 a3 a4 a5 a6 n7 g8)) [] from cPart _ _ _) (ca (show S 20 [I (a1 % 7), I a2, I a3, .agg [B a4, I a10, I a11, .sl 0 n12]] [ri n12 g13] (RT (partC (a1 % 7) a2 a3 a4 a10 a11 n12 g13)) [] from cPart _ _ _) (ca rt (ca rt (ca rt (ca rt (ca h5 (ca h5 (ca h5 (ca h5 na))))))))))))))))))))) (by exact ⟨fun _ => rfl, fun _ => rfl, trivial⟩)
      · obtain ⟨H1, H2⟩ := H2 h4
        by_cases h5 : (a1 % 7) = 2
        · obtain ⟨H1, H2⟩ := H1 h5
          rcases bcase ((((partC (a1 % 7) a2 a3 a4 a5 a6 n7 g8).1) == ((partC (a1 % 7) a2 a3 a9 a5 a11 n12 g13).1)) && ((((partC (a1 % 7) a2 a3 a4 a5 a6 n7 g8).2.1) == ((partC (a1 % 7) a2 a3 a9 a5 a11 n12 g13).2.1)) && true)) with h6 | h6
          · obtain rfl := H1 h6
            exact SCall.p 139 [.call [] (B true) [], fb, fb, fb, fb, fb, fb, fb, tb, .call [0] (RT (partC (a1 % 7) a2 a3 a4 a5 a6 n7 g8)) [], .call [1] (RT (partC (a1 % 7) a2 a3 a9 a5 a11 n12 g13)) [], tb, tb, tb, tb, tb, tb, tb, tb] [] 8 (ca (show S 19 [] [] (B true) [] from shown10) (ca (df h0) (ca (df h0) (ca (df h0) (ca (df h0) (ca (df h0) (ca (df h1) (ca h2 (ca h3 (ca (show (0 : Int) < 7 from by decide) (ca (beq_eq_false_iff_ne.2 h4) (ca (beq_iff_eq.2 h5) (ca (show S 20 [I (a1 % 7), I a2, I a3, .agg [B a4, I a5, I a6, .sl 0 n7]] [ri n7 g8] (RT (partC (a1 % 7) a2 a3 a4 a5 a6 n7 g8)) [] from cPart _ _ _) (ca (show S 20 [I (a1 % 7), I a2, I a3, .agg [B a9, I a5, I a11, .sl 0 n12]] [ri n12 g13] (RT (partC (a1 % 7) a2 a3 a9 a5 a11 n12 g13)) [] from cPart _ _ _) (ca rt (ca rt (ca rt (ca rt (ca h6 (ca h6 (ca h6 (ca h6 na)))))))))))))))))))))) (by exact ⟨fun _ => rfl, fun _ => rfl, trivial⟩)
          · obtain rfl := H2 h6
            exact SCall.p 139 [.call [] (B true) [], fb, fb, fb, fb, fb, fb, fb, tb, .call [0] (RT (partC (a1 % 7) a2 a3 a4 a5 a6 n7 g8)) [], .call [1] (RT (partC (a1 % 7) a2 a3 a9 a5 a11 n12 g13)) [], tb, tb, tb, tb, fb, fb, fb, fb] [] 8 (ca (show S 19 [] [] (B true) [] from shown10) (ca (df h0) (ca (df h0) (ca (df h0) (ca (df h0) (ca (df h0) (ca (df h1) (ca h2 (ca h3 (ca (show (0 : Int) < 7 from by decide) (ca (beq_eq_false_iff_ne.2 h4) (ca (beq_iff_eq.2 h5) (ca (show S 20 [I (a1 % 7), I a2, I a3, .agg [B a4, I a5, I a6, .sl 0 n7]] [ri n7 g8] (RT (partC (a1 % 7) a2 a3 a4 a5 a6 n7 g8)) [] from cPart _ _ _) (ca (show S 20 [I (a1 % 7), I a2, I a3, .agg [B a9, I a5, I a11, .sl 0 n12]] [ri n12 g13] (RT (partC (a1 % 7) a2 a3 a9 a5 a11 n12 g13)) [] from cPart _ _ _) (ca rt (ca rt (ca rt (ca rt (ca h6 (ca h6 (ca h6 (ca h6 na)))))))))))))))))))))) (by exact ⟨fun _ => rfl, fun _ => rfl, trivial⟩)
        · obtain ⟨H1, H2⟩ := H2 h5
          by_cases h6 : (a1 % 7) = 6
          · obtain ⟨H1, H2⟩ := H1 h6
            rcases bcase ((((partC (a1 % 7) a2 a3 a4 a5 a6 n7 g8).1) == ((partC (a1 % 7) a2 a3 a9 a10 a6 n7 g8).1)) && ((((partC (a1 % 7) a2 a3 a4 a5 a6 n7 g8).2.1) == ((partC (a1 % 7) a2 a3 a9 a10 a6 n7 g8).2.1)) && true)) with h7 | h7
            · obtain rfl := H1 h7
              exact SCall.p 152 [.call [] (B true) [], fb, fb, fb, fb, fb, fb, fb, fb, tb, .call [0] (RT (partC (a1 % 7) a2 a3 a4 a5 a6 n7 g8)) [], .call [0] (RT (partC (a1 % 7) a2 a3 a9 a10 a6 n7 g8)) [], tb, tb, tb, tb, tb, tb, tb, tb] [] 8 (ca (show S 19 [] [] (B true) [] from shown10) (ca (df h0) (ca (df h0) (ca (df h0) (ca (df h0) (ca (df h0) (ca (df h1) (ca h2 (ca h3 (ca (show (0 : Int) < 7 from by decide) (ca (beq_eq_false_iff_ne.2 h4) (ca (beq_eq_false_iff_ne.2 h5) (ca (beq_iff_eq.2 h6) (ca (show S 20 [I (a1 % 7), I a2, I a3, .agg [B a4, I a5, I a6, .sl 0 n7]] [ri n7 g8] (RT (partC (a1 % 7) a2 a3 a4 a5 a6 n7 g8)) [] from cPart _ _ _) (ca (show S 20 [I (a1 % 7), I a2, I a3, .agg [B a9, I a10, I a6, .sl 0 n7]] [ri n7 g8] (RT (partC (a1 % 7) a2 a3 a9 a10 a6 n7 g8)) [] from cPart _ _ _) (ca rt (ca rt (ca rt (ca rt (ca h7 (ca h7 (ca h7 (ca h7 na))))))))))))))))))))))) (by exact ⟨fun _ => rfl, fun _ => rfl, trivial⟩)
            · obtain rfl := H2 h7
              exact SCall.p 152 [.call [] (B true) [], fb, fb, fb, fb, fb, fb, fb, fb, tb, .call [0] (RT (partC (a1 % 7) a2 a3 a4 a5 a6 n7 g8)) [], .call [0] (RT (partC (a1 % 7) a2 a3 a9 a10 a6 n7 g8)) [], tb, tb, tb, tb, fb, fb, fb, fb] [] 8 (ca (show S 19 [] [] (B true) [] from shown10) (ca (df h0) (ca (df h0) (ca (df h0) (ca (df h0) (ca (df h0) (ca (df h1) (ca h2 (ca h3 (ca (show (0 : Int) < 7 from by decide) (ca (beq_eq_false_iff_ne.2 h4) (ca (beq_eq_false_iff_ne.2 h5) (ca (beq_iff_eq.2 h6) (ca (show S 20 [I (a1 % 7), I a2, I a3, .agg [B a4, I a5, I a6, .sl 0 n7]] [ri n7 g8] (RT (partC (a1 % 7) a2 a3 a4 a5 a6 n7 g8)) [] from cPart _ _ _) (ca (show S 20 [I (a1 % 7), I a2, I a3, .agg [B a9, I a10, I a6, .sl 0 n7]] [ri n7 g8] (RT (partC (a1 % 7) a2 a3 a9 a10 a6 n7 g8)) [] from cPart _ _ _) (ca rt (ca rt (ca rt (ca rt (ca h7 (ca h7 (ca h7 (ca h7 na))))))))))))))))))))))) (by exact ⟨fun _ => rfl, fun _ => rfl, trivial⟩)
          · obtain ⟨H1, H2⟩ := H2 h6
            rcases bcase ((((partC (a1 % 7) a2 a3 a4 a5 a6 n7 g8).1) == ((partC (a1 % 7) a2 a3 a9 a10 a11 n12 g13).1)) && ((((partC (a1 % 7) a2 a3 a4 a5 a6 n7 g8).2.1) == ((partC (a1 % 7) a2 a3 a9 a10 a11 n12 g13).2.1)) && true)) with h7 | h7
            · obtain rfl := H1 h7
              exact SCall.p 140 [.call [] (B true) [], fb, fb, fb, fb, fb, fb, fb, fb, fb, .call [0] (RT (partC (a1 % 7) a2 a3 a4 a5 a6 n7 g8)) [], .call [1] (RT (partC (a1 % 7) a2 a3 a9 a10 a11 n12 g13)) [], tb, tb, tb, tb, tb, tb, tb, tb] [] 8 (ca (show S 19 [] [] (B true) [] from shown10) (ca (df h0) (ca (df h0) (ca (df h0) (ca (df h0) (ca (df h0) (ca (df h1) (ca h2 (ca h3 (ca (show (0 : Int) < 7 from by decide) (ca (beq_eq_false_iff_ne.2 h4) (ca (beq_eq_false_iff_ne.2 h5) (ca (beq_eq_false_iff_ne.2 h6) (ca (show S 20 [I (a1 % 7), I a2, I a3, .agg [B a4, I a5, I a6, .sl 0 n7]] [ri n7 g8] (RT (partC (a1 % 7) a2 a3 a4 a5 a6 n7 g8)) [] from cPart _ _ _) (ca (show S 20 [I (a1 % 7), I a2, I a3, .agg [B a9, I a10, I a11, .sl 0 n12]] [ri n12 g13] (RT (partC (a1 % 7) a2 a3 a9 a10 a11 n12 g13)) [] from cPart _ _ _) (ca rt (ca rt (ca rt (ca rt (ca h7 (ca h7 (ca h7 (ca h7 na))))))))))))))))))))))) (by exact ⟨fun _ => rfl, fun _ => rfl, trivial⟩)
            · obtain rfl := H2 h7
              exact SCall.p 140 [.call [] (B true) [], fb, fb, fb, fb, fb, fb, fb, fb, fb, .call [0] (RT (partC (a1 % 7) a2 a3 a4 a5 a6 n7 g8)) [], .call [1] (RT (partC (a1 % 7) a2 a3 a9 a10 a11 n12 g13)) [], tb, tb, tb, tb, fb, fb, fb, fb] [] 8 (ca (show S 19 [] [] (B true) [] from shown10) (ca (df h0) (ca (df h0) (ca (df h0) (ca (df h0) (ca (df h0) (ca (df h1) (ca h2 (ca h3 (ca (show (0 : Int) < 7 from by decide) (ca (beq_eq_false_iff_ne.2 h4) (ca (beq_eq_false_iff_ne.2 h5) (ca (beq_eq_false_iff_ne.2 h6) (ca (show S 20 [I (a1 % 7), I a2, I a3, .agg [B a4, I a5, I a6, .sl 0 n7]] [ri n7 g8] (RT (partC (a1 % 7) a2 a3 a4 a5 a6 n7 g8)) [] from cPart _ _ _) (ca (show S 20 [I (a1 % 7), I a2, I a3, .agg [B a9, I a10, I a11, .sl 0 n12]] [ri n12 g13] (RT (partC (a1 % 7) a2 a3 a9 a10 a11 n12 g13)) [] from cPart _ _ _) (ca rt (ca rt (ca rt (ca rt (ca h7 (ca h7 (ca h7 (ca h7 na))))))))))))))))))))))) (by exact ⟨fun _ => rfl, fun _ => rfl, trivial⟩)

theorem countBeside_ok {k a b : Int} {o1 o2 : Bool} {e1 f1 e2 f2 : Int} {n1 n2 : Nat} {g1 g2 : Nat → Int} (hk : InR .u8 k) : S 5 [.agg [N .u8 k, I a, I b, B o1, I e1, I f1, .sl 0 n1, B o2, I e2, I f2, .sl 1 n2]] [ri n1 g1, ri n2 g2] (B true) [] := by
  simp only [InR] at hk
  refine demurragelaw10_CountBeside_w ⟨fun _ => rfl, fun _ => ⟨fun _ => rfl, fun _ => ⟨by simp only [Ir, InR]; omega, by omega, fun h => ?_, fun h0 => ⟨fun h => ?_, fun h2 => ⟨fun h => ?_, fun h6 => ?_⟩⟩⟩⟩⟩
  · simp [partC, h]
  · simp [partC, h]
  · simp [partC, h]
  · simp [partC, h0, h2, h6]



theorem demurragelaw10_CountZero_w {a1 a2 a3 : Int} {a4 : Bool} {a5 a6 : Int} {n7 : Nat} {g8 : Nat → Int} {res : SV} (H : Ir a1 ∧ (0 : Int) ≤ a1 ∧ ((isDay a2) = false → (((partC (a1 % 7) a2 a2 a4 a5 2 2 (fun i => [1, 3652059].getD i 0)).2.2) = 3 → (((partC (a1 % 7) a2 a3 a4 a5 2 2 (fun i => [1, 3652059].getD i 0)).2.2) = 3 → (((((partC (a1 % 7) a2 a2 a4 a5 2 2 (fun i => [1, 3652059].getD i 0)).1) == 0) && ((((partC (a1 % 7) a2 a2 a4 a5 2 2 (fun i => [1, 3652059].getD i 0)).2.1) == 0) && true)) = true → B ((((partC (a1 % 7) a2 a3 a4 a5 2 2 (fun i => [1, 3652059].getD i 0)).1) == 0) && ((((partC (a1 % 7) a2 a3 a4 a5 2 2 (fun i => [1, 3652059].getD i 0)).2.1) == 0) && true)) = res) ∧ (((((partC (a1 % 7) a2 a2 a4 a5 2 2 (fun i => [1, 3652059].getD i 0)).1) == 0) && ((((partC (a1 % 7) a2 a2 a4 a5 2 2 (fun i => [1, 3652059].getD i 0)).2.1) == 0) && true)) = false → B false = res)) ∧ (((partC (a1 % 7) a2 a3 a4 a5 2 2 (fun i => [1, 3652059].getD i 0)).2.2) ≠ 3 → B false = res)) ∧ (((partC (a1 % 7) a2 a2 a4 a5 2 2 (fun i => [1, 3652059].getD i 0)).2.2) ≠ 3 → B false = res)) ∧ ((isDay a2) = true → (((((partC (a1 % 7) a2 a2 a4 a5 2 2 (fun i => [1, 3652059].getD i 0)).1) == 0) && ((((partC (a1 % 7) a2 a2 a4 a5 2 2 (fun i => [1, 3652059].getD i 0)).2.1) == 1) && true)) = false → B false = res) ∧ (((((partC (a1 % 7) a2 a2 a4 a5 2 2 (fun i => [1, 3652059].getD i 0)).1) == 0) && ((((partC (a1 % 7) a2 a2 a4 a5 2 2 (fun i => [1, 3652059].getD i 0)).2.1) == 1) && true)) = true → (((partC (a1 % 7) a2 a2 a4 a5 2 2 (fun i => [1, 3652059].getD i 0)).2.2) ≠ 0 → B false = res) ∧ (((partC (a1 % 7) a2 a2 a4 a5 2 2 (fun i => [1, 3652059].getD i 0)).2.2) = 0 → ((isDay a3) = false → B (((partC (a1 % 7) a2 a3 a4 a5 2 2 (fun i => [1, 3652059].getD i 0)).2.2) == 3) = res) ∧ ((isDay a3) = true → ((decide (a2 > a3) == (((partC (a1 % 7) a2 a3 a4 a5 2 2 (fun i => [1, 3652059].getD i 0)).2.2) == 4)) = true → ((decide (a2 ≤ a3) == (((partC (a1 % 7) a2 a3 a4 a5 2 2 (fun i => [1, 3652059].getD i 0)).2.2) == 0)) = true → (((partC (a1 % 7) a2 a3 a4 a5 2 2 (fun i => [1, 3652059].getD i 0)).2.2) ≠ 0 → B true = res) ∧ (((partC (a1 % 7) a2 a3 a4 a5 2 2 (fun i => [1, 3652059].getD i 0)).2.2) = 0 → ∃ r9 : Bool, S 27 [.agg [I ((partC (a1 % 7) a2 a3 a4 a5 2 2 (fun i => [1, 3652059].getD i 0)).1), I ((partC (a1 % 7) a2 a3 a4 a5 2 2 (fun i => [1, 3652059].getD i 0)).2.1)]] [] (B r9) [] ∧ B r9 = res)) ∧ ((decide (a2 ≤ a3) == (((partC (a1 % 7) a2 a3 a4 a5 2 2 (fun i => [1, 3652059].getD i 0)).2.2) == 0)) = false → B false = res)) ∧ ((decide (a2 > a3) == (((partC (a1 % 7) a2 a3 a4 a5 2 2 (fun i => [1, 3652059].getD i 0)).2.2) == 4)) = false → B false = res)))))) :
    S 6 [.agg [N .u8 a1, I a2, I a3, B a4, I a5, I a6, .sl 0 n7]] [ri n7 g8] res [] := by
  obtain ⟨h0, h1, H1, H2⟩ := H
  rcases bcase (isDay a2) with h2 | h2
  · obtain ⟨H1, H2⟩ := H2 h2
    rcases bcase ((((partC (a1 % 7) a2 a2 a4 a5 2 2 (fun i => [1, 3652059].getD i 0)).1) == 0) && ((((partC (a1 % 7) a2 a2 a4 a5 2 2 (fun i => [1, 3652059].getD i 0)).2.1) == 1) && true)) with h3 | h3
    · obtain ⟨H1, H2⟩ := H2 h3
      by_cases h4 : ((partC (a1 % 7) a2 a2 a4 a5 2 2 (fun i => [1, 3652059].getD i 0)).2.2) = 0
      · obtain ⟨H1, H2⟩ := H2 h4
        rcases bcase (isDay a3) with h5 | h5
        · obtain ⟨H1, H2⟩ := H2 h5
          rcases bcase (decide (a2 > a3) == (((partC (a1 % 7) a2 a3 a4 a5 2 2 (fun i => [1, 3652059].getD i 0)).2.2) == 4)) with h6 | h6
          · obtain ⟨H1, H2⟩ := H1 h6
            rcases bcase (decide (a2 ≤ a3) == (((partC (a1 % 7) a2 a3 a4 a5 2 2 (fun i => [1, 3652059].getD i 0)).2.2) == 0)) with h7 | h7
            · obtain ⟨H1, H2⟩ := H1 h7
              by_cases h8 : ((partC (a1 % 7) a2 a3 a4 a5 2 2 (fun i => [1, 3652059].getD i 0)).2.2) = 0
              · obtain ⟨r9, h9, rfl⟩ := H2 h8
                exact SCall.p 141 [.call [] (B true) [], .row (fun i => [I ([1, 3652059].getD i 0)]), .call [3] (RT (partC (a1 % 7) a2 a2 a4 a5 2 2 (fun i => [1, 3652059].getD i 0))) [], .call [3] (RT (partC (a1 % 7) a2 a3 a4 a5 2 2 (fun i => [1, 3652059].getD i 0))) [], .call [] (B (isDay a2)) [], fb, fb, fb, fb, fb, .call [] (B (isDay a3)) [], fb, tb, tb, tb, tb, tb, tb, tb, tb, tb, tb, tb, tb, tb, tb, tb, tb, tb, fb, fb, .call [] (B r9) [], tb, fb, tb] [] 6 (ca (show S 19 [] [] (B true) [] from shown10) (ca h0 (ca h1 (ca (show (0 : Int) < 7 from by decide) (ca (show ∀ k, k < 2 → (fun i => [I ([1, 3652059].getD i 0)]) k = [[I 1], [I 3652059]].getD k [] from by intro k hk; match k, hk with | 0, _ => rfl | 1, _ => rfl | k + 2, hk => omega) (ca (show S 20 [I (a1 % 7), I a2, I a2, .agg [B a4, I a5, I 2, .sl 0 2]] [some (.row false 3 2 1 (fun i => [I ([1, 3652059].getD i 0)]))] (RT (partC (a1 % 7) a2 a2 a4 a5 2 2 (fun i => [1, 3652059].getD i 0))) [] from cPart _ _ _) (ca (show S 20 [I (a1 % 7), I a2, I a3, .agg [B a4, I a5, I 2, .sl 0 2]] [some (.row false 3 2 1 (fun i => [I ([1, 3652059].getD i 0)]))] (RT (partC (a1 % 7) a2 a3 a4 a5 2 2 (fun i => [1, 3652059].getD i 0))) [] from cPart _ _ _) (ca (rDay a2) (ca (nf h2) (ca (nf h3) (ca (nf h3) (ca (nf h3) (ca (bne_eq_false_iff_eq.2 h4) (ca (rDay a3) (ca (nf h5) (ca rt (ca rt (ca rt (ca rt (ca rt (ca rt (ca rt (ca h6 (ca h6 (ca h6 (ca h6 (ca h6 (ca h6 (ca h6 (ca h7 (ca h7 (ca h7 (ca (bne_eq_false_iff_eq.2 h8) (ca (bne_eq_false_iff_eq.2 h8) (ca h9 (ca h7 (ca (bne_eq_false_iff_eq.2 h8) (ca h7 na)))))))))))))))))))))))))))))))))))))) (by exact ⟨fun _ => rfl, trivial⟩)
              · obtain rfl := H1 h8
                exact SCall.p 141 [.call [] (B true) [], .row (fun i => [I ([1, 3652059].getD i 0)]), .call [3] (RT (partC (a1 % 7) a2 a2 a4 a5 2 2 (fun i => [1, 3652059].getD i 0))) [], .call [3] (RT (partC (a1 % 7) a2 a3 a4 a5 2 2 (fun i => [1, 3652059].getD i 0))) [], .call [] (B (isDay a2)) [], fb, fb, fb, fb, fb, .call [] (B (isDay a3)) [], fb, tb, tb, tb, tb, tb, tb, tb, tb, tb, tb, tb, tb, tb, tb, tb, tb, tb, tb, tb, tb, tb, tb] [] 6 (ca (show S 19 [] [] (B true) [] from shown10) (ca h0 (ca h1 (ca (show (0 : Int) < 7 from by decide) (ca (show ∀ k, k < 2 → (fun i => [I ([1, 3652059].getD i 0)]) k = [[I 1], [I 3652059]].getD k [] from by intro k hk; match k, hk with | 0, _ => rfl | 1, _ => rfl | k + 2, hk => omega) (ca (show S 20 [I (a1 % 7), I a2, I a2, .agg [B a4, I a5, I 2, .sl 0 2]] [some (.row false 3 2 1 (fun i => [I ([1, 3652059].getD i 0)]))] (RT (partC (a1 % 7) a2 a2 a4 a5 2 2 (fun i => [1, 3652059].getD i 0))) [] from cPart _ _ _) (ca (show S 20 [I (a1 % 7), I a2, I a3, .agg [B a4, I a5, I 2, .sl 0 2]] [some (.row false 3 2 1 (fun i => [I ([1, 3652059].getD i 0)]))] (RT (partC (a1 % 7) a2 a3 a4 a5 2 2 (fun i => [1, 3652059].getD i 0))) [] from cPart _ _ _) (ca (rDay a2) (ca (nf h2) (ca (nf h3) (ca (nf h3) (ca (nf h3) (ca (bne_eq_false_iff_eq.2 h4) (ca (rDay a3) (ca (nf h5) (ca rt (ca rt (ca rt (ca rt (ca rt (ca rt (ca rt (ca h6 (ca h6 (ca h6 (ca h6 (ca h6 (ca h6 (ca h6 (ca h7 (ca h7 (ca h7 (ca (bne_iff_ne.2 h8) (ca (bne_iff_ne.2 h8) (ca h7 (ca (bne_iff_ne.2 h8) (ca h7 na))))))))))))))))))))))))))))))))))))) (by exact ⟨fun _ => rfl, trivial⟩)
            · obtain rfl := H2 h7
              exact SCall.p 141 [.call [] (B true) [], .row (fun i => [I ([1, 3652059].getD i 0)]), .call [3] (RT (partC (a1 % 7) a2 a2 a4 a5 2 2 (fun i => [1, 3652059].getD i 0))) [], .call [3] (RT (partC (a1 % 7) a2 a3 a4 a5 2 2 (fun i => [1, 3652059].getD i 0))) [], .call [] (B (isDay a2)) [], fb, fb, fb, fb, fb, .call [] (B (isDay a3)) [], fb, tb, tb, tb, tb, tb, tb, tb, tb, tb, tb, tb, tb, tb, tb, fb, fb, fb, fb, fb] [] 6 (ca (show S 19 [] [] (B true) [] from shown10) (ca h0 (ca h1 (ca (show (0 : Int) < 7 from by decide) (ca (show ∀ k, k < 2 → (fun i => [I ([1, 3652059].getD i 0)]) k = [[I 1], [I 3652059]].getD k [] from by intro k hk; match k, hk with | 0, _ => rfl | 1, _ => rfl | k + 2, hk => omega) (ca (show S 20 [I (a1 % 7), I a2, I a2, .agg [B a4, I a5, I 2, .sl 0 2]] [some (.row false 3 2 1 (fun i => [I ([1, 3652059].getD i 0)]))] (RT (partC (a1 % 7) a2 a2 a4 a5 2 2 (fun i => [1, 3652059].getD i 0))) [] from cPart _ _ _) (ca (show S 20 [I (a1 % 7), I a2, I a3, .agg [B a4, I a5, I 2, .sl 0 2]] [some (.row false 3 2 1 (fun i => [I ([1, 3652059].getD i 0)]))] (RT (partC (a1 % 7) a2 a3 a4 a5 2 2 (fun i => [1, 3652059].getD i 0))) [] from cPart _ _ _) (ca (rDay a2) (ca (nf h2) (ca (nf h3) (ca (nf h3) (ca (nf h3) (ca (bne_eq_false_iff_eq.2 h4) (ca (rDay a3) (ca (nf h5) (ca rt (ca rt (ca rt (ca rt (ca rt (ca rt (ca rt (ca h6 (ca h6 (ca h6 (ca h6 (ca h6 (ca h6 (ca h6 (ca h7 (ca h7 (ca h7 (ca h7 (ca h7 na)))))))))))))))))))))))))))))))))) (by exact ⟨fun _ => rfl, trivial⟩)
          · obtain rfl := H2 h6
            exact SCall.p 141 [.call [] (B true) [], .row (fun i => [I ([1, 3652059].getD i 0)]), .call [3] (RT (partC (a1 % 7) a2 a2 a4 a5 2 2 (fun i => [1, 3652059].getD i 0))) [], .call [3] (RT (partC (a1 % 7) a2 a3 a4 a5 2 2 (fun i => [1, 3652059].getD i 0))) [], .call [] (B (isDay a2)) [], fb, fb, fb, fb, fb, .call [] (B (isDay a3)) [], fb, tb, tb, tb, tb, tb, tb, tb, fb, fb, fb, fb, fb, fb, fb, fb, fb, fb, fb, fb] [] 6 (ca (show S 19 [] [] (B true) [] from shown10) (ca h0 (ca h1 (ca (show (0 : Int) < 7 from by decide) (ca (show ∀ k, k < 2 → (fun i => [I ([1, 3652059].getD i 0)]) k = [[I 1], [I 3652059]].getD k [] from by intro k hk; match k, hk with | 0, _ => rfl | 1, _ => rfl | k + 2, hk => omega) (ca (show S 20 [I (a1 % 7), I a2, I a2, .agg [B a4, I a5, I 2, .sl 0 2]] [some (.row false 3 2 1 (fun i => [I ([1, 3652059].getD i 0)]))] (RT (partC (a1 % 7) a2 a2 a4 a5 2 2 (fun i => [1, 3652059].getD i 0))) [] from cPart _ _ _) (ca (show S 20 [I (a1 % 7), I a2, I a3, .agg [B a4, I a5, I 2, .sl 0 2]] [some (.row false 3 2 1 (fun i => [I ([1, 3652059].getD i 0)]))] (RT (partC (a1 % 7) a2 a3 a4 a5 2 2 (fun i => [1, 3652059].getD i 0))) [] from cPart _ _ _) (ca (rDay a2) (ca (nf h2) (ca (nf h3) (ca (nf h3) (ca (nf h3) (ca (bne_eq_false_iff_eq.2 h4) (ca (rDay a3) (ca (nf h5) (ca rt (ca rt (ca rt (ca rt (ca rt (ca rt (ca rt (ca h6 (ca h6 (ca h6 (ca h6 (ca h6 (ca h6 (ca h6 (ca rf (ca rf (ca rf (ca rf (ca rf na)))))))))))))))))))))))))))))))))) (by exact ⟨fun _ => rfl, trivial⟩)
        · obtain rfl := H1 h5
          exact SCall.p 120 [.call [] (B true) [], .row (fun i => [I ([1, 3652059].getD i 0)]), .call [3] (RT (partC (a1 % 7) a2 a2 a4 a5 2 2 (fun i => [1, 3652059].getD i 0))) [], .call [3] (RT (partC (a1 % 7) a2 a3 a4 a5 2 2 (fun i => [1, 3652059].getD i 0))) [], .call [] (B (isDay a2)) [], fb, fb, fb, fb, fb, .call [] (B (isDay a3)) [], tb, tb, tb, tb] [] 6 (ca (show S 19 [] [] (B true) [] from shown10) (ca h0 (ca h1 (ca (show (0 : Int) < 7 from by decide) (ca (show ∀ k, k < 2 → (fun i => [I ([1, 3652059].getD i 0)]) k = [[I 1], [I 3652059]].getD k [] from by intro k hk; match k, hk with | 0, _ => rfl | 1, _ => rfl | k + 2, hk => omega) (ca (show S 20 [I (a1 % 7), I a2, I a2, .agg [B a4, I a5, I 2, .sl 0 2]] [some (.row false 3 2 1 (fun i => [I ([1, 3652059].getD i 0)]))] (RT (partC (a1 % 7) a2 a2 a4 a5 2 2 (fun i => [1, 3652059].getD i 0))) [] from cPart _ _ _) (ca (show S 20 [I (a1 % 7), I a2, I a3, .agg [B a4, I a5, I 2, .sl 0 2]] [some (.row false 3 2 1 (fun i => [I ([1, 3652059].getD i 0)]))] (RT (partC (a1 % 7) a2 a3 a4 a5 2 2 (fun i => [1, 3652059].getD i 0))) [] from cPart _ _ _) (ca (rDay a2) (ca (nf h2) (ca (nf h3) (ca (nf h3) (ca (nf h3) (ca (bne_eq_false_iff_eq.2 h4) (ca (rDay a3) (ca (nt h5) (ca rt (ca rt (ca rt na)))))))))))))))))) (by exact ⟨fun _ => rfl, trivial⟩)
      · obtain rfl := H1 h4
        exact SCall.p 106 [.call [] (B true) [], .row (fun i => [I ([1, 3652059].getD i 0)]), .call [3] (RT (partC (a1 % 7) a2 a2 a4 a5 2 2 (fun i => [1, 3652059].getD i 0))) [], .call [3] (RT (partC (a1 % 7) a2 a3 a4 a5 2 2 (fun i => [1, 3652059].getD i 0))) [], .call [] (B (isDay a2)) [], fb, fb, fb, fb, tb] [] 6 (ca (show S 19 [] [] (B true) [] from shown10) (ca h0 (ca h1 (ca (show (0 : Int) < 7 from by decide) (ca (show ∀ k, k < 2 → (fun i => [I ([1, 3652059].getD i 0)]) k = [[I 1], [I 3652059]].getD k [] from by intro k hk; match k, hk with | 0, _ => rfl | 1, _ => rfl | k + 2, hk => omega) (ca (show S 20 [I (a1 % 7), I a2, I a2, .agg [B a4, I a5, I 2, .sl 0 2]] [some (.row false 3 2 1 (fun i => [I ([1, 3652059].getD i 0)]))] (RT (partC (a1 % 7) a2 a2 a4 a5 2 2 (fun i => [1, 3652059].getD i 0))) [] from cPart _ _ _) (ca (show S 20 [I (a1 % 7), I a2, I a3, .agg [B a4, I a5, I 2, .sl 0 2]] [some (.row false 3 2 1 (fun i => [I ([1, 3652059].getD i 0)]))] (RT (partC (a1 % 7) a2 a3 a4 a5 2 2 (fun i => [1, 3652059].getD i 0))) [] from cPart _ _ _) (ca (rDay a2) (ca (nf h2) (ca (nf h3) (ca (nf h3) (ca (nf h3) (ca (bne_iff_ne.2 h4) na))))))))))))) (by exact ⟨fun _ => rfl, trivial⟩)
    · obtain rfl := H1 h3
      exact SCall.p 106 [.call [] (B true) [], .row (fun i => [I ([1, 3652059].getD i 0)]), .call [3] (RT (partC (a1 % 7) a2 a2 a4 a5 2 2 (fun i => [1, 3652059].getD i 0))) [], .call [3] (RT (partC (a1 % 7) a2 a3 a4 a5 2 2 (fun i => [1, 3652059].getD i 0))) [], .call [] (B (isDay a2)) [], fb, tb, tb, tb, tb] [] 6 (ca (show S 19 [] [] (B true) [] from shown10) (ca h0 (ca h1 (ca (show (0 : Int) < 7 from by decide) (ca (show ∀ k, k < 2 → (fun i => [I ([1, 3652059].getD i 0)]) k = [[I 1], [I 3652059]].getD k [] from by intro k hk; match k, hk with | 0, _ => rfl | 1, _ => rfl | k + 2, hk => omega) (ca (show S 20 [I (a1 % 7), I a2, I a2, .agg [B a4, I a5, I 2, .sl 0 2]] [some (.row false 3 2 1 (fun i => [I ([1, 3652059].getD i 0)]))] (RT (partC (a1 % 7) a2 a2 a4 a5 2 2 (fun i => [1, 3652059].getD i 0))) [] from cPart _ _ _) (ca (show S 20 [I (a1 % 7), I a2, I a3, .agg [B a4, I a5, I 2, .sl 0 2]] [some (.row false 3 2 1 (fun i => [I ([1, 3652059].getD i 0)]))] (RT (partC (a1 % 7) a2 a3 a4 a5 2 2 (fun i => [1, 3652059].getD i 0))) [] from cPart _ _ _) (ca (rDay a2) (ca (nf h2) (ca (nt h3) (ca (nt h3) (ca (nt h3) (ca rt na))))))))))))) (by exact ⟨fun _ => rfl, trivial⟩)
  · obtain ⟨H1, H2⟩ := H1 h2
    by_cases h3 : ((partC (a1 % 7) a2 a2 a4 a5 2 2 (fun i => [1, 3652059].getD i 0)).2.2) = 3
    · obtain ⟨H1, H2⟩ := H1 h3
      by_cases h4 : ((partC (a1 % 7) a2 a3 a4 a5 2 2 (fun i => [1, 3652059].getD i 0)).2.2) = 3
      · obtain ⟨H1, H2⟩ := H1 h4
        rcases bcase ((((partC (a1 % 7) a2 a2 a4 a5 2 2 (fun i => [1, 3652059].getD i 0)).1) == 0) && ((((partC (a1 % 7) a2 a2 a4 a5 2 2 (fun i => [1, 3652059].getD i 0)).2.1) == 0) && true)) with h5 | h5
        · obtain rfl := H1 h5
          exact SCall.p 112 [.call [] (B true) [], .row (fun i => [I ([1, 3652059].getD i 0)]), .call [3] (RT (partC (a1 % 7) a2 a2 a4 a5 2 2 (fun i => [1, 3652059].getD i 0))) [], .call [3] (RT (partC (a1 % 7) a2 a3 a4 a5 2 2 (fun i => [1, 3652059].getD i 0))) [], .call [] (B (isDay a2)) [], tb, tb, tb, tb, tb, tb, tb, tb, tb, tb, tb, tb, tb, tb, tb] [] 6 (ca (show S 19 [] [] (B true) [] from shown10) (ca h0 (ca h1 (ca (show (0 : Int) < 7 from by decide) (ca (show ∀ k, k < 2 → (fun i => [I ([1, 3652059].getD i 0)]) k = [[I 1], [I 3652059]].getD k [] from by intro k hk; match k, hk with | 0, _ => rfl | 1, _ => rfl | k + 2, hk => omega) (ca (show S 20 [I (a1 % 7), I a2, I a2, .agg [B a4, I a5, I 2, .sl 0 2]] [some (.row false 3 2 1 (fun i => [I ([1, 3652059].getD i 0)]))] (RT (partC (a1 % 7) a2 a2 a4 a5 2 2 (fun i => [1, 3652059].getD i 0))) [] from cPart _ _ _) (ca (show S 20 [I (a1 % 7), I a2, I a3, .agg [B a4, I a5, I 2, .sl 0 2]] [some (.row false 3 2 1 (fun i => [I ([1, 3652059].getD i 0)]))] (RT (partC (a1 % 7) a2 a3 a4 a5 2 2 (fun i => [1, 3652059].getD i 0))) [] from cPart _ _ _) (ca (rDay a2) (ca (nt h2) (ca rt (ca rt (ca rt (ca (beq_iff_eq.2 h3) (ca (beq_iff_eq.2 h3) (ca (beq_iff_eq.2 h3) (ca (beq_iff_eq.2 h4) (ca (beq_iff_eq.2 h4) (ca (beq_iff_eq.2 h4) (ca (beq_iff_eq.2 h4) (ca h5 (ca h5 (ca h5 (ca h5 na))))))))))))))))))))))) (by exact ⟨fun _ => rfl, trivial⟩)
        · obtain rfl := H2 h5
          exact SCall.p 112 [.call [] (B true) [], .row (fun i => [I ([1, 3652059].getD i 0)]), .call [3] (RT (partC (a1 % 7) a2 a2 a4 a5 2 2 (fun i => [1, 3652059].getD i 0))) [], .call [3] (RT (partC (a1 % 7) a2 a3 a4 a5 2 2 (fun i => [1, 3652059].getD i 0))) [], .call [] (B (isDay a2)) [], tb, tb, tb, tb, tb, tb, tb, tb, tb, tb, tb, fb, fb, fb, fb] [] 6 (ca (show S 19 [] [] (B true) [] from shown10) (ca h0 (ca h1 (ca (show (0 : Int) < 7 from by decide) (ca (show ∀ k, k < 2 → (fun i => [I ([1, 3652059].getD i 0)]) k = [[I 1], [I 3652059]].getD k [] from by intro k hk; match k, hk with | 0, _ => rfl | 1, _ => rfl | k + 2, hk => omega) (ca (show S 20 [I (a1 % 7), I a2, I a2, .agg [B a4, I a5, I 2, .sl 0 2]] [some (.row false 3 2 1 (fun i => [I ([1, 3652059].getD i 0)]))] (RT (partC (a1 % 7) a2 a2 a4 a5 2 2 (fun i => [1, 3652059].getD i 0))) [] from cPart _ _ _) (ca (show S 20 [I (a1 % 7), I a2, I a3, .agg [B a4, I a5, I 2, .sl 0 2]] [some (.row false 3 2 1 (fun i => [I ([1, 3652059].getD i 0)]))] (RT (partC (a1 % 7) a2 a3 a4 a5 2 2 (fun i => [1, 3652059].getD i 0))) [] from cPart _ _ _) (ca (rDay a2) (ca (nt h2) (ca rt (ca rt (ca rt (ca (beq_iff_eq.2 h3) (ca (beq_iff_eq.2 h3) (ca (beq_iff_eq.2 h3) (ca (beq_iff_eq.2 h4) (ca (beq_iff_eq.2 h4) (ca (beq_iff_eq.2 h4) (ca (beq_iff_eq.2 h4) (ca h5 (ca h5 (ca h5 (ca h5 na))))))))))))))))))))))) (by exact ⟨fun _ => rfl, trivial⟩)
      · obtain rfl := H2 h4
        exact SCall.p 112 [.call [] (B true) [], .row (fun i => [I ([1, 3652059].getD i 0)]), .call [3] (RT (partC (a1 % 7) a2 a2 a4 a5 2 2 (fun i => [1, 3652059].getD i 0))) [], .call [3] (RT (partC (a1 % 7) a2 a3 a4 a5 2 2 (fun i => [1, 3652059].getD i 0))) [], .call [] (B (isDay a2)) [], tb, tb, tb, tb, tb, tb, tb, fb, fb, fb, fb, fb, fb, fb, fb] [] 6 (ca (show S 19 [] [] (B true) [] from shown10) (ca h0 (ca h1 (ca (show (0 : Int) < 7 from by decide) (ca (show ∀ k, k < 2 → (fun i => [I ([1, 3652059].getD i 0)]) k = [[I 1], [I 3652059]].getD k [] from by intro k hk; match k, hk with | 0, _ => rfl | 1, _ => rfl | k + 2, hk => omega) (ca (show S 20 [I (a1 % 7), I a2, I a2, .agg [B a4, I a5, I 2, .sl 0 2]] [some (.row false 3 2 1 (fun i => [I ([1, 3652059].getD i 0)]))] (RT (partC (a1 % 7) a2 a2 a4 a5 2 2 (fun i => [1, 3652059].getD i 0))) [] from cPart _ _ _) (ca (show S 20 [I (a1 % 7), I a2, I a3, .agg [B a4, I a5, I 2, .sl 0 2]] [some (.row false 3 2 1 (fun i => [I ([1, 3652059].getD i 0)]))] (RT (partC (a1 % 7) a2 a3 a4 a5 2 2 (fun i => [1, 3652059].getD i 0))) [] from cPart _ _ _) (ca (rDay a2) (ca (nt h2) (ca rt (ca rt (ca rt (ca (beq_iff_eq.2 h3) (ca (beq_iff_eq.2 h3) (ca (beq_iff_eq.2 h3) (ca (beq_eq_false_iff_ne.2 h4) (ca (beq_eq_false_iff_ne.2 h4) (ca (beq_eq_false_iff_ne.2 h4) (ca (beq_eq_false_iff_ne.2 h4) (ca rf (ca rf (ca rf (ca rf na))))))))))))))))))))))) (by exact ⟨fun _ => rfl, trivial⟩)
    · obtain rfl := H2 h3
      exact SCall.p 112 [.call [] (B true) [], .row (fun i => [I ([1, 3652059].getD i 0)]), .call [3] (RT (partC (a1 % 7) a2 a2 a4 a5 2 2 (fun i => [1, 3652059].getD i 0))) [], .call [3] (RT (partC (a1 % 7) a2 a3 a4 a5 2 2 (fun i => [1, 3652059].getD i 0))) [], .call [] (B (isDay a2)) [], tb, tb, tb, tb, fb, fb, fb, fb, fb, fb, fb, fb, fb, fb, fb] [] 6 (ca (show S 19 [] [] (B true) [] from shown10) (ca h0 (ca h1 (ca (show (0 : Int) < 7 from by decide) (ca (show ∀ k, k < 2 → (fun i => [I ([1, 3652059].getD i 0)]) k = [[I 1], [I 3652059]].getD k [] from by intro k hk; match k, hk with | 0, _ => rfl | 1, _ => rfl | k + 2, hk => omega) (ca (show S 20 [I (a1 % 7), I a2, I a2, .agg [B a4, I a5, I 2, .sl 0 2]] [some (.row false 3 2 1 (fun i => [I ([1, 3652059].getD i 0)]))] (RT (partC (a1 % 7) a2 a2 a4 a5 2 2 (fun i => [1, 3652059].getD i 0))) [] from cPart _ _ _) (ca (show S 20 [I (a1 % 7), I a2, I a3, .agg [B a4, I a5, I 2, .sl 0 2]] [some (.row false 3 2 1 (fun i => [I ([1, 3652059].getD i 0)]))] (RT (partC (a1 % 7) a2 a3 a4 a5 2 2 (fun i => [1, 3652059].getD i 0))) [] from cPart _ _ _) (ca (rDay a2) (ca (nt h2) (ca rt (ca rt (ca rt (ca (beq_eq_false_iff_ne.2 h3) (ca (beq_eq_false_iff_ne.2 h3) (ca (beq_eq_false_iff_ne.2 h3) (ca rf (ca rf (ca rf (ca rf (ca rf (ca rf (ca rf (ca rf na))))))))))))))))))))))) (by exact ⟨fun _ => rfl, trivial⟩)

theorem mkRat_zero' (M : Nat) : mkRat ((0 : Nat) : Int) M = 0 := by rw [Int.natCast_zero, Rat.zero_mkRat]

theorem mons_near (y : Int) (i : Nat) (h : i ≤ 11) : 30 * (i : Int) - 1 ≤ mons y i ∧ mons y i ≤ 30 * (i : Int) + 5 := by
  have : i = 0 ∨ i = 1 ∨ i = 2 ∨ i = 3 ∨ i = 4 ∨ i = 5 ∨ i = 6 ∨ i = 7 ∨ i = 8 ∨ i = 9 ∨ i = 10 ∨ i = 11 := by omega
  rcases this with rfl | rfl | rfl | rfl | rfl | rfl | rfl | rfl | rfl | rfl | rfl | rfl <;> cases hl : lp y <;> simp [mons, len, hl, lens]

theorem len_ge {y m : Int} (h1 : 1 ≤ m) (h2 : m ≤ 12) : 28 ≤ len y m := by
  have : m = 1 ∨ m = 2 ∨ m = 3 ∨ m = 4 ∨ m = 5 ∨ m = 6 ∨ m = 7 ∨ m = 8 ∨ m = 9 ∨ m = 10 ∨ m = 11 ∨ m = 12 := by omega
  rcases this with rfl | rfl | rfl | rfl | rfl | rfl | rfl | rfl | rfl | rfl | rfl | rfl <;> cases hl : lp y <;> simp [len, hl, lens]

/-- Months of 30 days are about days that are. -/
theorem near7 {a b d1 d2 : Int} (ha : isDay a = true) (hb : isDay b = true) (h : a ≤ b) (h1 : cD a - 2 ≤ d1 ∧ d1 ≤ cD a + 2) (h2 : cD b - 2 ≤ d2 ∧ d2 ≤ cD b + 2) :
    n7 (cY a) (cM a) (cY b) (cM b) d1 d2 ≤ b - a + 10 ∧ b - a ≤ n7 (cY a) (cM a) (cY b) (cM b) d1 d2 + 5 * (cY b - cY a) + (cY b - cY a) / 4 + 12 ∧ 365 * (cY b - cY a) ≤ b - a + 366 ∧ 0 ≤ cY b - cY a := by
  have hy := yr_mono ha hb h
  obtain ⟨-, a1, a2, a3, a4, a5, a6, a7, a8⟩ := civ_ok ha
  obtain ⟨-, b1, b2, b3, b4, b5, b6, b7, b8⟩ := civ_ok hb
  have m1 := mons_near (cY a) (cM a - 1).toNat (by omega)
  have m2 := mons_near (cY b) (cM b - 1).toNat (by omega)
  have d := day_yr ha
  have d' := day_yr hb
  have e : 0 ≤ ahd (cY b) - ahd (cY a) - 365 * (cY b - cY a) ∧ ahd (cY b) - ahd (cY a) - 365 * (cY b - cY a) ≤ (cY b - cY a) / 4 + 1 := by unfold ahd; omega
  have e2 := ahd_succ (cY a) (by omega)
  unfold n7
  refine ⟨by omega, by omega, ?_, by omega⟩
  split at e2 <;> omega

/-- What parts are by six ways: a fraction that is right, about days by 360. -/
theorem frac {k a b : Int} (hk : 0 ≤ k ∧ k ≤ 5) (ha : isDay a = true) (hb : isDay b = true) (h : a ≤ b) (eom : Bool) (e f : Int) (n : Nat) (g : Nat → Int) :
    ∃ C M : Nat, M ≠ 0 ∧ M ≤ 133590 ∧ C ≤ 100000000000 ∧ partC k a b eom e f n g = ((mkRat (C : Int) M).num, ((mkRat (C : Int) M).den : Int), 0) ∧
      360 * (C : Int) - (b - a) * (M : Int) ≤ (60 + (b - a) / 50) * (M : Int) ∧ (b - a) * (M : Int) - 360 * (C : Int) ≤ (60 + (b - a) / 50) * (M : Int) := by
  have w : whyR a b = 0 := why_0.2 ⟨ha, hb, by omega⟩
  have da := isDay_iff.1 ha
  have db := isDay_iff.1 hb
  have q : ∀ (u : Int) (d : Nat), 0 ≤ u → u ≤ 100000000000 → d ≠ 0 → d ≤ 1000000 → mkI u (d : Int) = ((mkRat ((u.toNat : Nat) : Int) d).num, ((mkRat ((u.toNat : Nat) : Int) d).den : Int), 0) := fun u d q1 q2 q3 q4 => by
    have := mkI_q (n := u) (d := (d : Int)) (by omega) (by omega)
    rw [Int.toNat_natCast] at this
    rw [this, show ((u.toNat : Nat) : Int) = u by omega]
  have ca := civ_ok ha
  have cb := civ_ok hb
  have seven : ∀ d : Int × Int, (cD a - 2 ≤ d.1 ∧ d.1 ≤ cD a + 2) → (cD b - 2 ≤ d.2 ∧ d.2 ≤ cD b + 2) → partC k a b eom e f n g = r7 a b d → ∃ C M : Nat, M ≠ 0 ∧ M ≤ 133590 ∧ C ≤ 100000000000 ∧ partC k a b eom e f n g = ((mkRat (C : Int) M).num, ((mkRat (C : Int) M).den : Int), 0) ∧
      360 * (C : Int) - (b - a) * (M : Int) ≤ (60 + (b - a) / 50) * (M : Int) ∧ (b - a) * (M : Int) - 360 * (C : Int) ≤ (60 + (b - a) / 50) * (M : Int) := fun d h1 h2 he => by
    have hn := near7 ha hb h h1 h2
    rw [he]
    unfold r7 p7
    rw [if_pos w]
    by_cases hneg : n7 (cY a) (cM a) (cY b) (cM b) d.1 d.2 < 0
    · rw [if_pos hneg]
      refine ⟨0, 360, by decide, by decide, by decide, q 0 360 (by decide) (by decide) (by decide) (by decide), by omega, by omega⟩
    · rw [if_neg hneg]
      refine ⟨(n7 (cY a) (cM a) (cY b) (cM b) d.1 d.2).toNat, 360, by decide, by decide, by omega, q _ 360 (by omega) (by omega) (by decide) (by decide), by omega, by omega⟩
  have hk' : k = 0 ∨ k = 1 ∨ k = 2 ∨ k = 3 ∨ k = 4 ∨ k = 5 := by omega
  have lastD : ∀ n, isDay n = true → lastB n = true → 28 ≤ cD n := fun n hn hl => by
    have c := civ_ok hn
    have := len_ge (y := cY n) c.2.1 c.2.2.1
    unfold lastB at hl
    rw [hn, Bool.true_and, beq_iff_eq] at hl
    omega
  rcases hk' with rfl | rfl | rfl | rfl | rfl | rfl
  · refine seven _ ?_ ?_ rfl
    · show _ ≤ (if (if (eom && (lastB a && (cM a == 2))) = true then (30 : Int) else cD a) = 31 then (30 : Int) else (if (eom && (lastB a && (cM a == 2))) = true then (30 : Int) else cD a)) ∧ (if (if (eom && (lastB a && (cM a == 2))) = true then (30 : Int) else cD a) = 31 then (30 : Int) else (if (eom && (lastB a && (cM a == 2))) = true then (30 : Int) else cD a)) ≤ _
      by_cases c1 : (eom && (lastB a && (cM a == 2))) = true
      · have := lastD a ha (by simp only [Bool.and_eq_true] at c1; exact c1.2.1)
        rw [if_pos c1]; simp; omega
      · rw [if_neg c1]; split <;> omega
    · simp only [usD]
      by_cases c2 : (eom && (lastB a && (cM a == 2)) && (lastB b && (cM b == 2))) = true
      · have := lastD b hb (by simp only [Bool.and_eq_true] at c2; exact c2.2.1)
        simp only [c2, if_true]; split <;> omega
      · simp only [c2, if_false, Bool.false_eq_true]; split <;> omega
  · refine seven _ ?_ ?_ rfl
    · simp only; split <;> omega
    · simp only; split <;> omega
  · refine seven _ ?_ ?_ rfl
    · simp only; split
      · rename_i c; have := lastD a ha c; omega
      · omega
    · simp only; split
      · rename_i c; have := lastD b hb c.1; omega
      · omega
  · refine ⟨(b - a).toNat, 360, by decide, by decide, by omega, ?_, by omega, by omega⟩
    rw [← q (b - a) 360 (by omega) (by omega) (by decide) (by decide)]
    show r8 a b 360 = _
    unfold r8; rw [if_pos w]; rfl
  · refine ⟨(b - a).toNat, 365, by decide, by decide, by omega, ?_, by omega, by omega⟩
    rw [← q (b - a) 365 (by omega) (by omega) (by decide) (by decide)]
    show r8 a b 365 = _
    unfold r8; rw [if_pos w]; rfl
  · have s1 := lD_span w
    refine ⟨(b - a - (lD b - lD a)).toNat * 366 + (lD b - lD a).toNat * 365, 365 * 366, by decide, by decide, by omega, ?_, by omega, by omega⟩
    show r8Y a b = _
    unfold r8Y q8; rw [if_pos w]

theorem may2 : mayB 2 (fun i => [(1 : Int), 3652059].getD i 0) 2 = true := by decide +kernel

theorem q_small {C M : Nat} (hM : M ≠ 0) (hM2 : M ≤ 133590) (hC : C ≤ 100000000000) : 0 ≤ (mkRat (C : Int) M).num ∧ (mkRat (C : Int) M).num ≤ 4611686018427387904 ∧ (mkRat (C : Int) M).den ≤ 4611686018427387904 := by
  have h1 := num_le C hM
  have h2 := den_le C hM
  have h3 : 0 ≤ (mkRat (C : Int) M).num := by rw [num_nat C hM]; exact Int.natCast_nonneg _
  omega

theorem zero_ok {k a b : Int} (hk : 0 ≤ k ∧ k ≤ 6) (ha : isDay a = true) (hb : isDay b = true) (h : a ≤ b) (eom : Bool) (e : Int) :
    ∃ q : Rat, 0 ≤ q.num ∧ q.num ≤ 4611686018427387904 ∧ q.den ≤ 4611686018427387904 ∧ partC k a b eom e 2 2 (fun i => [(1 : Int), 3652059].getD i 0) = (q.num, (q.den : Int), 0) ∧ (a = b → q = 0) := by
  have da := isDay_iff.1 ha
  have db := isDay_iff.1 hb
  by_cases h6 : k = 6
  · subst h6
    obtain ⟨m1, m2, m3, m4, m5, m6, m7⟩ := may_facts may2
    have s := psum_small (f := 2) (by decide) (by decide) m2 m6 m5 a b (Nat.le_refl (2 - 1))
    refine ⟨psum a b 2 (fun i => [(1 : Int), 3652059].getD i 0) (2 - 1), by omega, by omega, by omega, ?_, fun hab => psum_zero (by omega) _⟩
    show partR a b 2 _ 2 = _
    unfold partR
    rw [if_neg (by simp [ha, hb]), if_neg (by omega), if_neg (by rw [may2]; simp; omega)]
    rfl
  · obtain ⟨C, M, hM, hM2, hC, he, -⟩ := frac (k := k) (by omega) ha hb h eom e 2 2 (fun i => [(1 : Int), 3652059].getD i 0)
    have s := q_small hM hM2 hC
    refine ⟨_, s.1, s.2.1, s.2.2, he, fun hab => ?_⟩
    subst hab
    have w : whyR a a = 0 := why_0.2 ⟨ha, ha, by omega⟩
    have z : ∀ d : Nat, d ≠ 0 → d ≤ 1000 → mkI 0 (d : Int) = (0, 1, 0) := fun d h1 h2 => by
      have := mkI_q (n := 0) (d := (d : Int)) (by omega) (by omega)
      rw [this, Rat.zero_mkRat]; rfl
    have c := civ_ok ha
    have sev : ∀ d : Int × Int, d.2 ≤ d.1 → r7 a a d = (0, 1, 0) := fun d hd => by
      unfold r7 p7 n7
      rw [if_pos w]
      by_cases hlt : 360 * (cY a - cY a) + 30 * (cM a - cM a) + (d.2 - d.1) < 0
      · rw [if_pos hlt]; exact z 360 (by decide) (by decide)
      · rw [if_neg hlt, show 360 * (cY a - cY a) + 30 * (cM a - cM a) + (d.2 - d.1) = 0 by omega]; exact z 360 (by decide) (by decide)
    have hz : partC k a a eom e 2 2 (fun i => [(1 : Int), 3652059].getD i 0) = (0, 1, 0) := by
      have hk' : k = 0 ∨ k = 1 ∨ k = 2 ∨ k = 3 ∨ k = 4 ∨ k = 5 := by omega
      rcases hk' with rfl | rfl | rfl | rfl | rfl | rfl
      · refine sev _ ?_
        simp only [usD]
        cases eom <;> cases (lastB a && (cM a == 2)) <;> simp <;> repeat' split
        all_goals omega
      · exact sev _ (by simp only; split <;> omega)
      · refine sev _ ?_
        simp only
        by_cases hl : lastB a = true
        · simp only [hl, if_true, true_and]; split
          · omega
          · rename_i hh
            have hh' : a = e ∧ cM a = 2 := Classical.not_not.1 hh
            have : cD a = len (cY a) (cM a) := by unfold lastB at hl; rw [ha, Bool.true_and, beq_iff_eq] at hl; exact hl
            have h29 : len (cY a) (cM a) ≤ 29 := by rw [hh'.2]; unfold len; rw [if_neg (by decide)]; split <;> simp [lens]
            omega
        · rw [if_neg hl, if_neg (fun q => hl q.1)]; omega
      · show r8 a a 360 = _
        unfold r8; rw [if_pos w, show a - a = 0 by omega]; exact z 360 (by decide) (by decide)
      · show r8 a a 365 = _
        unfold r8; rw [if_pos w, show a - a = 0 by omega]; exact z 365 (by decide) (by decide)
      · show r8Y a a = _
        unfold r8Y q8; rw [if_pos w, show lD a - lD a = 0 by omega, show a - a - 0 = 0 by omega]
        show ((mkRat ((0 : Nat) : Int) _).num, ((mkRat ((0 : Nat) : Int) _).den : Int), (0 : Int)) = _
        rw [mkRat_zero']; rfl
    rw [hz] at he
    have e1 : (mkRat (C : Int) M).num = 0 := (Prod.mk.inj he).1.symm
    exact Rat.num_eq_zero.1 e1

theorem partC_code {k a b : Int} (hk : 0 ≤ k ∧ k ≤ 6) (h : whyR a b ≠ 0) (eom : Bool) (e f : Int) (n : Nat) (g : Nat → Int) : partC k a b eom e f n g = (0, 0, whyR a b) := by
  have hk' : k = 0 ∨ k = 1 ∨ k = 2 ∨ k = 3 ∨ k = 4 ∨ k = 5 ∨ k = 6 := by omega
  rcases hk' with rfl | rfl | rfl | rfl | rfl | rfl | rfl
  · exact r7_bad h
  · exact r7_bad h
  · exact r7_bad h
  · exact r8_bad h
  · exact r8_bad h
  · exact r8Y_bad h
  · show partR a b n g f = _
    unfold partR whyR
    unfold whyR at h
    by_cases hd : isDay a = true ∧ isDay b = true
    · rw [if_pos hd] at h ⊢
      rw [if_neg (by simp [hd.1, hd.2])]
      by_cases hab : a > b
      · rw [if_pos hab, if_pos hab]
      · rw [if_neg hab] at h; exact absurd rfl h
    · rw [if_neg hd, if_pos]
      cases h1 : isDay a
      · exact .inl rfl
      · cases h2 : isDay b
        · exact .inr rfl
        · exact absurd ⟨h1, h2⟩ hd

theorem countZero_ok {k a b : Int} {o : Bool} {e f : Int} {n : Nat} {g : Nat → Int} (hk : InR .u8 k) : S 6 [.agg [N .u8 k, I a, I b, B o, I e, I f, .sl 0 n]] [ri n g] (B true) [] := by
  simp only [InR] at hk
  have h7 : 0 ≤ k % 7 ∧ k % 7 ≤ 6 := by omega
  refine demurragelaw10_CountZero_w ⟨by simp only [Ir, InR]; omega, by omega, fun ha => ?_, fun ha => ?_⟩
  · have w1 : ∀ c, whyR a c = 3 := fun c => by unfold whyR; rw [if_neg (by rw [ha]; simp)]
    rw [partC_code h7 (by rw [w1]; decide), partC_code h7 (by rw [w1]; decide), w1, w1]
    simp
  · obtain ⟨q0, -, -, -, e0, z0⟩ := zero_ok h7 ha ha (Int.le_refl a) o e
    rw [e0, z0 rfl]
    refine ⟨fun c => absurd c (by decide), fun _ => ⟨fun c => absurd rfl c, fun _ => ⟨fun hb => ?_, fun hb => ?_⟩⟩⟩
    · have w : whyR a b = 3 := by unfold whyR; rw [if_neg (by rw [hb]; simp)]
      rw [partC_code h7 (by rw [w]; decide), w]; rfl
    · by_cases hab : a > b
      · have w : whyR a b = 4 := by unfold whyR; rw [if_pos ⟨ha, hb⟩, if_pos hab]
        rw [partC_code h7 (by rw [w]; decide), w]
        have h2 : ¬ a ≤ b := by omega
        simp [hab, h2]
      · obtain ⟨q, q1, q2, q3, e1, -⟩ := zero_ok h7 ha hb (by omega) o e
        rw [e1]
        have h2 : a ≤ b := by omega
        refine ⟨fun _ => ⟨fun _ => ⟨fun c => absurd rfl c, fun _ => ⟨true, ?_, rfl⟩⟩, fun c => by simp [h2] at c⟩, fun c => by simp [hab] at c⟩
        have := rRight q.num (q.den : Int)
        rwa [right_q q1 q2 q3] at this



theorem demurragelaw10_CountRight_w {a1 a2 a3 : Int} {a4 : Bool} {a5 a6 : Int} {n7 : Nat} {g8 : Nat → Int} {res : SV} (H : Ir a1 ∧ (0 : Int) ≤ a1 ∧ ((isDay a2) = false → B true = res) ∧ ((isDay a2) = true → ((isDay a3) = false → B true = res) ∧ ((isDay a3) = true → (a2 > a3 → B true = res) ∧ (¬ a2 > a3 → Ir (a3 - a2) ∧ ((a3 - a2) > 36500 → B true = res) ∧ (¬ (a3 - a2) > 36500 → (((n7 : Nat) : Int) > 60 → B true = res) ∧ (¬ ((n7 : Nat) : Int) > 60 → (((partC (a1 % 6) a2 a3 a4 a5 a6 n7 g8).2.2) ≠ 0 → B false = res) ∧ (((partC (a1 % 6) a2 a3 a4 a5 a6 n7 g8).2.2) = 0 → ∃ r9 : Bool, S 27 [.agg [I ((partC (a1 % 6) a2 a3 a4 a5 a6 n7 g8).1), I ((partC (a1 % 6) a2 a3 a4 a5 a6 n7 g8).2.1)]] [] (B r9) [] ∧ (r9 = false → B false = res) ∧ (r9 = true → Ir (360 * ((partC (a1 % 6) a2 a3 a4 a5 a6 n7 g8).1)) ∧ Ir ((a3 - a2) * ((partC (a1 % 6) a2 a3 a4 a5 a6 n7 g8).2.1)) ∧ Ir ((360 * ((partC (a1 % 6) a2 a3 a4 a5 a6 n7 g8).1)) - ((a3 - a2) * ((partC (a1 % 6) a2 a3 a4 a5 a6 n7 g8).2.1))) ∧ (((360 * ((partC (a1 % 6) a2 a3 a4 a5 a6 n7 g8).1)) - ((a3 - a2) * ((partC (a1 % 6) a2 a3 a4 a5 a6 n7 g8).2.1))) < 0 → Ir (0 - ((360 * ((partC (a1 % 6) a2 a3 a4 a5 a6 n7 g8).1)) - ((a3 - a2) * ((partC (a1 % 6) a2 a3 a4 a5 a6 n7 g8).2.1)))) ∧ (0 : Int) ≤ (a3 - a2) ∧ Ir ((a3 - a2) / 50) ∧ Ir (60 + ((a3 - a2) / 50)) ∧ Ir ((60 + ((a3 - a2) / 50)) * ((partC (a1 % 6) a2 a3 a4 a5 a6 n7 g8).2.1)) ∧ B (decide ((0 - ((360 * ((partC (a1 % 6) a2 a3 a4 a5 a6 n7 g8).1)) - ((a3 - a2) * ((partC (a1 % 6) a2 a3 a4 a5 a6 n7 g8).2.1)))) ≤ ((60 + ((a3 - a2) / 50)) * ((partC (a1 % 6) a2 a3 a4 a5 a6 n7 g8).2.1)))) = res) ∧ (¬ ((360 * ((partC (a1 % 6) a2 a3 a4 a5 a6 n7 g8).1)) - ((a3 - a2) * ((partC (a1 % 6) a2 a3 a4 a5 a6 n7 g8).2.1))) < 0 → (0 : Int) ≤ (a3 - a2) ∧ Ir ((a3 - a2) / 50) ∧ Ir (60 + ((a3 - a2) / 50)) ∧ Ir ((60 + ((a3 - a2) / 50)) * ((partC (a1 % 6) a2 a3 a4 a5 a6 n7 g8).2.1)) ∧ B (decide (((360 * ((partC (a1 % 6) a2 a3 a4 a5 a6 n7 g8).1)) - ((a3 - a2) * ((partC (a1 % 6) a2 a3 a4 a5 a6 n7 g8).2.1))) ≤ ((60 + ((a3 - a2) / 50)) * ((partC (a1 % 6) a2 a3 a4 a5 a6 n7 g8).2.1)))) = res))))))))) :
    S 8 [.agg [N .u8 a1, I a2, I a3, B a4, I a5, I a6, .sl 0 n7]] [ri n7 g8] res [] := by
  obtain ⟨h0, h1, H1, H2⟩ := H
  rcases bcase (isDay a2) with h2 | h2
  · obtain ⟨H1, H2⟩ := H2 h2
    rcases bcase (isDay a3) with h3 | h3
    · obtain ⟨H1, H2⟩ := H2 h3
      by_cases h4 : a2 > a3
      · obtain rfl := H1 h4
        exact SCall.p 77 [.call [] (B true) [], .call [] (B (isDay a2)) [], fb, fb, .call [] (B (isDay a3)) [], fb, fb, fb, fb, fb, fb, tb, tb, tb, tb, tb, tb, tb, tb, tb, tb, tb] [] 3 (ca (show S 19 [] [] (B true) [] from shown10) (ca h0 (ca h1 (ca (show (0 : Int) < 6 from by decide) (ca (rDay a2) (ca (nf h2) (ca (nf h2) (ca (rDay a3) (ca (nf h2) (ca (nf h2) (ca (nf h3) (ca (nf h3) (ca (nf h3) (ca (nf h3) (ca (dt h4) (ca (dt h4) (ca (dt h4) (ca (dt h4) (ca (dt h4) (ca rt (ca rt (ca rt (ca rt (ca rt (ca rt na))))))))))))))))))))))))) (by exact ⟨fun _ => rfl, trivial⟩)
      · obtain ⟨h5, H1, H2⟩ := H2 h4
        by_cases h6 : (a3 - a2) > 36500
        · obtain rfl := H1 h6
          exact SCall.p 77 [.call [] (B true) [], .call [] (B (isDay a2)) [], fb, fb, .call [] (B (isDay a3)) [], fb, fb, fb, fb, fb, fb, fb, fb, fb, fb, fb, tb, tb, tb, tb, tb, tb] [] 3 (ca (show S 19 [] [] (B true) [] from shown10) (ca h0 (ca h1 (ca (show (0 : Int) < 6 from by decide) (ca (rDay a2) (ca (nf h2) (ca (nf h2) (ca (rDay a3) (ca (nf h2) (ca (nf h2) (ca (nf h3) (ca (nf h3) (ca (nf h3) (ca (nf h3) (ca (df h4) (ca (df h4) (ca (df h4) (ca h5 (ca (df h4) (ca (df h4) (ca (dt h6) (ca (dt h6) (ca (dt h6) (ca (dt h6) (ca (dt h6) (ca rt na)))))))))))))))))))))))))) (by exact ⟨fun _ => rfl, trivial⟩)
        · obtain ⟨H1, H2⟩ := H2 h6
          by_cases h7 : ((n7 : Nat) : Int) > 60
          · obtain rfl := H1 h7
            exact SCall.p 77 [.call [] (B true) [], .call [] (B (isDay a2)) [], fb, fb, .call [] (B (isDay a3)) [], fb, fb, fb, fb, fb, fb, fb, fb, fb, fb, fb, fb, fb, fb, fb, fb, tb] [] 3 (ca (show S 19 [] [] (B true) [] from shown10) (ca h0 (ca h1 (ca (show (0 : Int) < 6 from by decide) (ca (rDay a2) (ca (nf h2) (ca (nf h2) (ca (rDay a3) (ca (nf h2) (ca (nf h2) (ca (nf h3) (ca (nf h3) (ca (nf h3) (ca (nf h3) (ca (df h4) (ca (df h4) (ca (df h4) (ca h5 (ca (df h4) (ca (df h4) (ca (df h6) (ca (df h6) (ca (df h6) (ca (df h6) (ca (df h6) (ca (dt h7) na)))))))))))))))))))))))))) (by exact ⟨fun _ => rfl, trivial⟩)
          · obtain ⟨H1, H2⟩ := H2 h7
            by_cases h8 : ((partC (a1 % 6) a2 a3 a4 a5 a6 n7 g8).2.2) = 0
            · obtain ⟨r9, h9, H1, H2⟩ := H2 h8
              rcases bcase r9 with h10 | h10
              · obtain ⟨h11, h12, h13, H1, H2⟩ := H2 h10
                by_cases h14 : ((360 * ((partC (a1 % 6) a2 a3 a4 a5 a6 n7 g8).1)) - ((a3 - a2) * ((partC (a1 % 6) a2 a3 a4 a5 a6 n7 g8).2.1))) < 0
                · obtain ⟨h15, h16, h17, h18, h19, rfl⟩ := H1 h14
                  exact SCall.p 143 [.call [] (B true) [], .call [] (B (isDay a2)) [], fb, fb, .call [] (B (isDay a3)) [], fb, fb, fb, fb, fb, fb, fb, fb, fb, fb, fb, fb, fb, fb, fb, fb, fb, .call [0] (RT (partC (a1 % 6) a2 a3 a4 a5 a6 n7 g8)) [], fb, fb, .call [] (B r9) [], fb, fb, fb, tb, tb, tb, tb, tb, tb, tb, tb, tb, tb, tb, tb] [] 4 (ca (show S 19 [] [] (B true) [] from shown10) (ca h0 (ca h1 (ca (show (0 : Int) < 6 from by decide) (ca (rDay a2) (ca (nf h2) (ca (nf h2) (ca (rDay a3) (ca (nf h2) (ca (nf h2) (ca (nf h3) (ca (nf h3) (ca (nf h3) (ca (nf h3) (ca (df h4) (ca (df h4) (ca (df h4) (ca h5 (ca (df h4) (ca (df h4) (ca (df h6) (ca (df h6) (ca (df h6) (ca (df h6) (ca (df h6) (ca (df h7) (ca (show S 20 [I (a1 % 6), I a2, I a3, .agg [B a4, I a5, I a6, .sl 0 n7]] [ri n7 g8] (RT (partC (a1 % 6) a2 a3 a4 a5 a6 n7 g8)) [] from cPart _ _ _) (ca (bne_eq_false_iff_eq.2 h8) (ca (bne_eq_false_iff_eq.2 h8) (ca h9 (ca (bne_eq_false_iff_eq.2 h8) (ca (bne_eq_false_iff_eq.2 h8) (ca (nf h10) (ca h11 (ca h5 (ca h12 (ca h13 (ca (dt h14) (ca h15 (ca rt (ca rt (ca rt (ca rt (ca h5 (ca rt (ca h16 (ca (show (0 : Int) < 50 from by decide) (ca h17 (ca rt (ca h18 (ca rt (ca rt (ca rt (ca h19 (ca rt (ca rt na)))))))))))))))))))))))))))))))))))))))))))))))))))))))) (by exact ⟨fun _ => rfl, trivial⟩)
                · obtain ⟨h15, h16, h17, h18, rfl⟩ := H2 h14
                  exact SCall.p 139 [.call [] (B true) [], .call [] (B (isDay a2)) [], fb, fb, .call [] (B (isDay a3)) [], fb, fb, fb, fb, fb, fb, fb, fb, fb, fb, fb, fb, fb, fb, fb, fb, fb, .call [0] (RT (partC (a1 % 6) a2 a3 a4 a5 a6 n7 g8)) [], fb, fb, .call [] (B r9) [], fb, fb, fb, fb, tb, tb, tb, tb, tb, tb, tb, tb, tb, tb, tb] [] 4 (ca (show S 19 [] [] (B true) [] from shown10) (ca h0 (ca h1 (ca (show (0 : Int) < 6 from by decide) (ca (rDay a2) (ca (nf h2) (ca (nf h2) (ca (rDay a3) (ca (nf h2) (ca (nf h2) (ca (nf h3) (ca (nf h3) (ca (nf h3) (ca (nf h3) (ca (df h4) (ca (df h4) (ca (df h4) (ca h5 (ca (df h4) (ca (df h4) (ca (df h6) (ca (df h6) (ca (df h6) (ca (df h6) (ca (df h6) (ca (df h7) (ca (show S 20 [I (a1 % 6), I a2, I a3, .agg [B a4, I a5, I a6, .sl 0 n7]] [ri n7 g8] (RT (partC (a1 % 6) a2 a3 a4 a5 a6 n7 g8)) [] from cPart _ _ _) (ca (bne_eq_false_iff_eq.2 h8) (ca (bne_eq_false_iff_eq.2 h8) (ca h9 (ca (bne_eq_false_iff_eq.2 h8) (ca (bne_eq_false_iff_eq.2 h8) (ca (nf h10) (ca h11 (ca h5 (ca h12 (ca h13 (ca (df h14) (ca rt (ca rt (ca rt (ca rt (ca h5 (ca rt (ca h15 (ca (show (0 : Int) < 50 from by decide) (ca h16 (ca rt (ca h17 (ca rt (ca rt (ca rt (ca h18 (ca rt (ca rt na))))))))))))))))))))))))))))))))))))))))))))))))))))))) (by exact ⟨fun _ => rfl, trivial⟩)
              · obtain rfl := H1 h10
                exact SCall.p 103 [.call [] (B true) [], .call [] (B (isDay a2)) [], fb, fb, .call [] (B (isDay a3)) [], fb, fb, fb, fb, fb, fb, fb, fb, fb, fb, fb, fb, fb, fb, fb, fb, fb, .call [0] (RT (partC (a1 % 6) a2 a3 a4 a5 a6 n7 g8)) [], fb, fb, .call [] (B r9) [], fb, fb, tb] [] 4 (ca (show S 19 [] [] (B true) [] from shown10) (ca h0 (ca h1 (ca (show (0 : Int) < 6 from by decide) (ca (rDay a2) (ca (nf h2) (ca (nf h2) (ca (rDay a3) (ca (nf h2) (ca (nf h2) (ca (nf h3) (ca (nf h3) (ca (nf h3) (ca (nf h3) (ca (df h4) (ca (df h4) (ca (df h4) (ca h5 (ca (df h4) (ca (df h4) (ca (df h6) (ca (df h6) (ca (df h6) (ca (df h6) (ca (df h6) (ca (df h7) (ca (show S 20 [I (a1 % 6), I a2, I a3, .agg [B a4, I a5, I a6, .sl 0 n7]] [ri n7 g8] (RT (partC (a1 % 6) a2 a3 a4 a5 a6 n7 g8)) [] from cPart _ _ _) (ca (bne_eq_false_iff_eq.2 h8) (ca (bne_eq_false_iff_eq.2 h8) (ca h9 (ca (bne_eq_false_iff_eq.2 h8) (ca (bne_eq_false_iff_eq.2 h8) (ca (nt h10) na))))))))))))))))))))))))))))))))) (by exact ⟨fun _ => rfl, trivial⟩)
            · obtain rfl := H1 h8
              exact SCall.p 103 [.call [] (B true) [], .call [] (B (isDay a2)) [], fb, fb, .call [] (B (isDay a3)) [], fb, fb, fb, fb, fb, fb, fb, fb, fb, fb, fb, fb, fb, fb, fb, fb, fb, .call [0] (RT (partC (a1 % 6) a2 a3 a4 a5 a6 n7 g8)) [], tb, tb, tb, tb, tb] [] 4 (ca (show S 19 [] [] (B true) [] from shown10) (ca h0 (ca h1 (ca (show (0 : Int) < 6 from by decide) (ca (rDay a2) (ca (nf h2) (ca (nf h2) (ca (rDay a3) (ca (nf h2) (ca (nf h2) (ca (nf h3) (ca (nf h3) (ca (nf h3) (ca (nf h3) (ca (df h4) (ca (df h4) (ca (df h4) (ca h5 (ca (df h4) (ca (df h4) (ca (df h6) (ca (df h6) (ca (df h6) (ca (df h6) (ca (df h6) (ca (df h7) (ca (show S 20 [I (a1 % 6), I a2, I a3, .agg [B a4, I a5, I a6, .sl 0 n7]] [ri n7 g8] (RT (partC (a1 % 6) a2 a3 a4 a5 a6 n7 g8)) [] from cPart _ _ _) (ca (bne_iff_ne.2 h8) (ca (bne_iff_ne.2 h8) (ca (bne_iff_ne.2 h8) (ca (bne_iff_ne.2 h8) (ca rt na)))))))))))))))))))))))))))))))) (by exact ⟨fun _ => rfl, trivial⟩)
    · obtain rfl := H1 h3
      exact SCall.p 77 [.call [] (B true) [], .call [] (B (isDay a2)) [], fb, fb, .call [] (B (isDay a3)) [], fb, fb, tb, tb, tb, tb, tb, tb, tb, tb, tb, tb, tb, tb, tb, tb, tb] [] 3 (ca (show S 19 [] [] (B true) [] from shown10) (ca h0 (ca h1 (ca (show (0 : Int) < 6 from by decide) (ca (rDay a2) (ca (nf h2) (ca (nf h2) (ca (rDay a3) (ca (nf h2) (ca (nf h2) (ca (nt h3) (ca (nt h3) (ca (nt h3) (ca (nt h3) (ca rt (ca rt (ca rt (ca rt (ca rt (ca rt (ca rt (ca rt (ca rt (ca rt (ca rt na))))))))))))))))))))))))) (by exact ⟨fun _ => rfl, trivial⟩)
  · obtain rfl := H1 h2
    exact SCall.p 77 [.call [] (B true) [], .call [] (B (isDay a2)) [], tb, tb, tb, tb, tb, tb, tb, tb, tb, tb, tb, tb, tb, tb, tb, tb, tb, tb, tb] [] 3 (ca (show S 19 [] [] (B true) [] from shown10) (ca h0 (ca h1 (ca (show (0 : Int) < 6 from by decide) (ca (rDay a2) (ca (nt h2) (ca (nt h2) (ca (nt h2) (ca (nt h2) (ca rt (ca rt (ca rt (ca rt (ca rt (ca rt (ca rt (ca rt (ca rt (ca rt (ca rt (ca rt (ca rt (ca rt (ca rt na)))))))))))))))))))))))) (by exact ⟨fun _ => rfl, trivial⟩)

theorem scale {C M : Nat} (hM : M ≠ 0) {t r : Int} (h1 : 360 * (C : Int) - t * (M : Int) ≤ r * (M : Int)) (h2 : t * (M : Int) - 360 * (C : Int) ≤ r * (M : Int)) :
    360 * (mkRat (C : Int) M).num - t * ((mkRat (C : Int) M).den : Int) ≤ r * ((mkRat (C : Int) M).den : Int) ∧ 0 - (360 * (mkRat (C : Int) M).num - t * ((mkRat (C : Int) M).den : Int)) ≤ r * ((mkRat (C : Int) M).den : Int) := by
  have hg : 0 < Nat.gcd C M := Nat.pos_of_ne_zero fun h => hM (Nat.eq_zero_of_gcd_eq_zero_right h)
  rw [num_nat C hM, den_nat C hM]
  have eC := Nat.div_mul_cancel (Nat.gcd_dvd_left C M)
  have eM := Nat.div_mul_cancel (Nat.gcd_dvd_right C M)
  generalize hx : C / Nat.gcd C M = x at *
  generalize hy : M / Nat.gcd C M = y at *
  generalize Nat.gcd C M = g at *
  have eC' : (C : Int) = (x : Int) * (g : Int) := by rw [← eC]; simp
  have eM' : (M : Int) = (y : Int) * (g : Int) := by rw [← eM]; simp
  have hg' : (0 : Int) < (g : Int) := by omega
  rw [eC', eM'] at h1 h2
  have a1 : (360 * (x : Int) - t * (y : Int)) * (g : Int) ≤ (r * (y : Int)) * (g : Int) := by
    rw [Int.sub_mul, Int.mul_assoc, Int.mul_assoc, Int.mul_assoc]; exact h1
  have a2 : (t * (y : Int) - 360 * (x : Int)) * (g : Int) ≤ (r * (y : Int)) * (g : Int) := by
    rw [Int.sub_mul, Int.mul_assoc, Int.mul_assoc, Int.mul_assoc]; exact h2
  have b1 := Int.le_of_mul_le_mul_right a1 hg'
  have b2 := Int.le_of_mul_le_mul_right a2 hg'
  exact ⟨b1, by omega⟩

theorem countRight_ok {k a b : Int} {o : Bool} {e f : Int} {n : Nat} {g : Nat → Int} (hk : InR .u8 k) : S 8 [.agg [N .u8 k, I a, I b, B o, I e, I f, .sl 0 n]] [ri n g] (B true) [] := by
  simp only [InR] at hk
  refine demurragelaw10_CountRight_w ⟨by simp only [Ir, InR]; omega, by omega, fun _ => rfl, fun ha => ⟨fun _ => rfl, fun hb => ⟨fun _ => rfl, fun hab => ?_⟩⟩⟩
  have da := isDay_iff.1 ha
  have db := isDay_iff.1 hb
  refine ⟨by simp only [Ir, InR]; omega, fun _ => rfl, fun ht => ⟨fun _ => rfl, fun _ => ?_⟩⟩
  obtain ⟨C, M, hM, hM2, hC, he, n1, n2⟩ := frac (k := k % 6) (by omega) ha hb (by omega) o e f n g
  have s := q_small hM hM2 hC
  have d2 := den_le C hM
  have d1 := num_le C hM
  have hs := scale hM n1 n2
  rw [he]
  have hr := rRight (mkRat (C : Int) M).num ((mkRat (C : Int) M).den : Int)
  rw [right_q s.1 s.2.1 s.2.2] at hr
  generalize (mkRat (C : Int) M).num = x at *
  generalize (mkRat (C : Int) M).den = y at *
  have p1 : (b - a) * (y : Int) ≤ 36500 * 133590 := Int.mul_le_mul (by omega) (by omega) (by omega) (by omega)
  have p0 : 0 ≤ (b - a) * (y : Int) := Int.mul_nonneg (by omega) (by omega)
  have p2 : (60 + (b - a) / 50) * (y : Int) ≤ 800 * 133590 := Int.mul_le_mul (by omega) (by omega) (by omega) (by omega)
  have p3 : 0 ≤ (60 + (b - a) / 50) * (y : Int) := Int.mul_nonneg (by omega) (by omega)
  refine ⟨fun c => absurd rfl c, fun _ => ⟨true, hr, fun c => (by cases c), fun _ => ⟨by simp only [Ir, InR]; omega, by simp only [Ir, InR]; omega, by simp only [Ir, InR]; omega, fun _ => ⟨by simp only [Ir, InR]; omega, by omega, by simp only [Ir, InR]; omega, by simp only [Ir, InR]; omega, by simp only [Ir, InR]; omega, ?_⟩, fun _ => ⟨by omega, by simp only [Ir, InR]; omega, by simp only [Ir, InR]; omega, by simp only [Ir, InR]; omega, ?_⟩⟩⟩⟩
  · rw [decide_eq_true hs.2]
  · rw [decide_eq_true hs.1]


end Go.Proofs.YtehnnaanpmceiaaGreatDoor
