import Derived.Test.YtehnnaanpmceiaaGreatDoorCnN
import Derived.Test.YtehnnaanpmceiaaGreatDoorProg
import Derived.KernelRfl
import Derived.Laws.Externs
set_option linter.unusedVariables false
set_option linter.unusedSimpArgs false
set_option linter.unusedSectionVars false
set_option maxRecDepth 100000
namespace Go.Proofs.YtehnnaanpmceiaaGreatDoor
open Go Go.Sx
variable [Env]

theorem demurragelaw10_shown_w  {res : SV} (H : (((((r8 1 91 360).1) == 1) && ((((r8 1 91 360).2.1) == 4) && true)) = true → (((r8 1 91 360).2.2) = 0 → (1 = 1 → (((kindC (⟨#[97, 99, 116, 47, 97, 99, 116]⟩ : ByteArray)).1) = 5 → (((kindC (⟨#[97, 99, 116, 47, 97, 99, 116]⟩ : ByteArray)).2) = 0 → (((kindC (⟨#[97, 99, 116]⟩ : ByteArray)).2) = 10 → (((nmC 0).toList == (⟨#[51, 48, 47, 51, 54, 48]⟩ : ByteArray).toList) = true → B ((nmC (-1)).toList == (⟨#[]⟩ : ByteArray).toList) = res) ∧ (((nmC 0).toList == (⟨#[51, 48, 47, 51, 54, 48]⟩ : ByteArray).toList) = false → B false = res)) ∧ (((kindC (⟨#[97, 99, 116]⟩ : ByteArray)).2) ≠ 10 → B false = res)) ∧ (((kindC (⟨#[97, 99, 116, 47, 97, 99, 116]⟩ : ByteArray)).2) ≠ 0 → B false = res)) ∧ (((kindC (⟨#[97, 99, 116, 47, 97, 99, 116]⟩ : ByteArray)).1) ≠ 5 → B false = res)) ∧ (1 ≠ 1 → B false = res)) ∧ (((r8 1 91 360).2.2) ≠ 0 → B false = res)) ∧ (((((r8 1 91 360).1) == 1) && ((((r8 1 91 360).2.1) == 4) && true)) = false → B false = res)) :
    S 19 [] [] res [] := by
  obtain ⟨H1, H2⟩ := H
  rcases bcase ((((r8 1 91 360).1) == 1) && ((((r8 1 91 360).2.1) == 4) && true)) with h0 | h0
  · obtain ⟨H1, H2⟩ := H1 h0
    by_cases h1 : ((r8 1 91 360).2.2) = 0
    · obtain ⟨H1, H2⟩ := H1 h1
      by_cases h2 : 1 = 1
      · obtain ⟨H1, H2⟩ := H1 h2
        by_cases h3 : ((kindC (⟨#[97, 99, 116, 47, 97, 99, 116]⟩ : ByteArray)).1) = 5
        · obtain ⟨H1, H2⟩ := H1 h3
          by_cases h4 : ((kindC (⟨#[97, 99, 116, 47, 97, 99, 116]⟩ : ByteArray)).2) = 0
          · obtain ⟨H1, H2⟩ := H1 h4
            by_cases h5 : ((kindC (⟨#[97, 99, 116]⟩ : ByteArray)).2) = 10
            · obtain ⟨H1, H2⟩ := H1 h5
              rcases bcase ((nmC 0).toList == (⟨#[51, 48, 47, 51, 54, 48]⟩ : ByteArray).toList) with h6 | h6
              · obtain rfl := H1 h6
                exact SCall.p 79 [.call [] (RT (r8 1 91 360)) [], .call [] (.tup [.agg [I 0, I 0], I 1]) [], .call [] (.tup [I ((kindC (⟨#[97, 99, 116, 47, 97, 99, 116]⟩ : ByteArray)).1), I ((kindC (⟨#[97, 99, 116, 47, 97, 99, 116]⟩ : ByteArray)).2)]) [], .call [] (.tup [I ((kindC (⟨#[97, 99, 116]⟩ : ByteArray)).1), I ((kindC (⟨#[97, 99, 116]⟩ : ByteArray)).2)]) [], tb, tb, tb, tb, tb, tb, tb, tb, tb, tb, tb, tb, tb, tb, tb, tb, .call [] (.val (.string (nmC 0))) [], tb, tb, tb, .call [] (.val (.string (nmC (-1)))) [], tb, tb] [] 2 (ca (show S 20 [I 3, I 1, I 91, .agg [B false, I 0, I 0, .val (.slice none 0 0)]] [] (RT (r8 1 91 360)) [] from cPart3n_w rfl) (ca (show S 20 [I 7, I 1, I 91, .agg [B false, I 0, I 0, .val (.slice none 0 0)]] [] (.tup [.agg [I 0, I 0], I 1]) [] from cPart7n_w rfl) (ca (cKind (⟨#[97, 99, 116, 47, 97, 99, 116]⟩ : ByteArray)) (ca (cKind (⟨#[97, 99, 116]⟩ : ByteArray)) (ca h0 (ca h0 (ca h0 (ca (beq_iff_eq.2 h1) (ca (beq_iff_eq.2 h1) (ca (beq_iff_eq.2 h1) (ca (beq_iff_eq.2 h2) (ca (beq_iff_eq.2 h2) (ca (beq_iff_eq.2 h2) (ca (beq_iff_eq.2 h3) (ca (beq_iff_eq.2 h3) (ca (beq_iff_eq.2 h3) (ca (beq_iff_eq.2 h4) (ca (beq_iff_eq.2 h4) (ca (beq_iff_eq.2 h4) (ca (beq_iff_eq.2 h5) (ca (cName 0) (ca (beq_iff_eq.2 h5) (ca (beq_iff_eq.2 h5) (ca h6 (ca (cName (-1)) (ca h6 (ca h6 na)))))))))))))))))))))))))))
              · obtain rfl := H2 h6
                exact SCall.p 79 [.call [] (RT (r8 1 91 360)) [], .call [] (.tup [.agg [I 0, I 0], I 1]) [], .call [] (.tup [I ((kindC (⟨#[97, 99, 116, 47, 97, 99, 116]⟩ : ByteArray)).1), I ((kindC (⟨#[97, 99, 116, 47, 97, 99, 116]⟩ : ByteArray)).2)]) [], .call [] (.tup [I ((kindC (⟨#[97, 99, 116]⟩ : ByteArray)).1), I ((kindC (⟨#[97, 99, 116]⟩ : ByteArray)).2)]) [], tb, tb, tb, tb, tb, tb, tb, tb, tb, tb, tb, tb, tb, tb, tb, tb, .call [] (.val (.string (nmC 0))) [], tb, tb, fb, fb, fb] [] 2 (ca (show S 20 [I 3, I 1, I 91, .agg [B false, I 0, I 0, .val (.slice none 0 0)]] [] (RT (r8 1 91 360)) [] from cPart3n_w rfl) (ca (show S 20 [I 7, I 1, I 91, .agg [B false, I 0, I 0, .val (.slice none 0 0)]] [] (.tup [.agg [I 0, I 0], I 1]) [] from cPart7n_w rfl) (ca (cKind (⟨#[97, 99, 116, 47, 97, 99, 116]⟩ : ByteArray)) (ca (cKind (⟨#[97, 99, 116]⟩ : ByteArray)) (ca h0 (ca h0 (ca h0 (ca (beq_iff_eq.2 h1) (ca (beq_iff_eq.2 h1) (ca (beq_iff_eq.2 h1) (ca (beq_iff_eq.2 h2) (ca (beq_iff_eq.2 h2) (ca (beq_iff_eq.2 h2) (ca (beq_iff_eq.2 h3) (ca (beq_iff_eq.2 h3) (ca (beq_iff_eq.2 h3) (ca (beq_iff_eq.2 h4) (ca (beq_iff_eq.2 h4) (ca (beq_iff_eq.2 h4) (ca (beq_iff_eq.2 h5) (ca (cName 0) (ca (beq_iff_eq.2 h5) (ca (beq_iff_eq.2 h5) (ca h6 (ca h6 (ca h6 na))))))))))))))))))))))))))
            · obtain rfl := H2 h5
              exact SCall.p 79 [.call [] (RT (r8 1 91 360)) [], .call [] (.tup [.agg [I 0, I 0], I 1]) [], .call [] (.tup [I ((kindC (⟨#[97, 99, 116, 47, 97, 99, 116]⟩ : ByteArray)).1), I ((kindC (⟨#[97, 99, 116, 47, 97, 99, 116]⟩ : ByteArray)).2)]) [], .call [] (.tup [I ((kindC (⟨#[97, 99, 116]⟩ : ByteArray)).1), I ((kindC (⟨#[97, 99, 116]⟩ : ByteArray)).2)]) [], tb, tb, tb, tb, tb, tb, tb, tb, tb, tb, tb, tb, tb, tb, tb, fb, fb, fb, fb, fb, fb] [] 2 (ca (show S 20 [I 3, I 1, I 91, .agg [B false, I 0, I 0, .val (.slice none 0 0)]] [] (RT (r8 1 91 360)) [] from cPart3n_w rfl) (ca (show S 20 [I 7, I 1, I 91, .agg [B false, I 0, I 0, .val (.slice none 0 0)]] [] (.tup [.agg [I 0, I 0], I 1]) [] from cPart7n_w rfl) (ca (cKind (⟨#[97, 99, 116, 47, 97, 99, 116]⟩ : ByteArray)) (ca (cKind (⟨#[97, 99, 116]⟩ : ByteArray)) (ca h0 (ca h0 (ca h0 (ca (beq_iff_eq.2 h1) (ca (beq_iff_eq.2 h1) (ca (beq_iff_eq.2 h1) (ca (beq_iff_eq.2 h2) (ca (beq_iff_eq.2 h2) (ca (beq_iff_eq.2 h2) (ca (beq_iff_eq.2 h3) (ca (beq_iff_eq.2 h3) (ca (beq_iff_eq.2 h3) (ca (beq_iff_eq.2 h4) (ca (beq_iff_eq.2 h4) (ca (beq_iff_eq.2 h4) (ca (beq_eq_false_iff_ne.2 h5) (ca (beq_eq_false_iff_ne.2 h5) (ca (beq_eq_false_iff_ne.2 h5) (ca rf (ca rf (ca rf na)))))))))))))))))))))))))
          · obtain rfl := H2 h4
            exact SCall.p 79 [.call [] (RT (r8 1 91 360)) [], .call [] (.tup [.agg [I 0, I 0], I 1]) [], .call [] (.tup [I ((kindC (⟨#[97, 99, 116, 47, 97, 99, 116]⟩ : ByteArray)).1), I ((kindC (⟨#[97, 99, 116, 47, 97, 99, 116]⟩ : ByteArray)).2)]) [], .call [] (.tup [I ((kindC (⟨#[97, 99, 116]⟩ : ByteArray)).1), I ((kindC (⟨#[97, 99, 116]⟩ : ByteArray)).2)]) [], tb, tb, tb, tb, tb, tb, tb, tb, tb, tb, tb, tb, fb, fb, fb, fb, fb, fb, fb, fb, fb] [] 2 (ca (show S 20 [I 3, I 1, I 91, .agg [B false, I 0, I 0, .val (.slice none 0 0)]] [] (RT (r8 1 91 360)) [] from cPart3n_w rfl) (ca (show S 20 [I 7, I 1, I 91, .agg [B false, I 0, I 0, .val (.slice none 0 0)]] [] (.tup [.agg [I 0, I 0], I 1]) [] from cPart7n_w rfl) (ca (cKind (⟨#[97, 99, 116, 47, 97, 99, 116]⟩ : ByteArray)) (ca (cKind (⟨#[97, 99, 116]⟩ : ByteArray)) (ca h0 (ca h0 (ca h0 (ca (beq_iff_eq.2 h1) (ca (beq_iff_eq.2 h1) (ca (beq_iff_eq.2 h1) (ca (beq_iff_eq.2 h2) (ca (beq_iff_eq.2 h2) (ca (beq_iff_eq.2 h2) (ca (beq_iff_eq.2 h3) (ca (beq_iff_eq.2 h3) (ca (beq_iff_eq.2 h3) (ca (beq_eq_false_iff_ne.2 h4) (ca (beq_eq_false_iff_ne.2 h4) (ca (beq_eq_false_iff_ne.2 h4) (ca rf (ca rf (ca rf (ca rf (ca rf (ca rf na)))))))))))))))))))))))))
        · obtain rfl := H2 h3
          exact SCall.p 79 [.call [] (RT (r8 1 91 360)) [], .call [] (.tup [.agg [I 0, I 0], I 1]) [], .call [] (.tup [I ((kindC (⟨#[97, 99, 116, 47, 97, 99, 116]⟩ : ByteArray)).1), I ((kindC (⟨#[97, 99, 116, 47, 97, 99, 116]⟩ : ByteArray)).2)]) [], .call [] (.tup [I ((kindC (⟨#[97, 99, 116]⟩ : ByteArray)).1), I ((kindC (⟨#[97, 99, 116]⟩ : ByteArray)).2)]) [], tb, tb, tb, tb, tb, tb, tb, tb, tb, fb, fb, fb, fb, fb, fb, fb, fb, fb, fb, fb, fb] [] 2 (ca (show S 20 [I 3, I 1, I 91, .agg [B false, I 0, I 0, .val (.slice none 0 0)]] [] (RT (r8 1 91 360)) [] from cPart3n_w rfl) (ca (show S 20 [I 7, I 1, I 91, .agg [B false, I 0, I 0, .val (.slice none 0 0)]] [] (.tup [.agg [I 0, I 0], I 1]) [] from cPart7n_w rfl) (ca (cKind (⟨#[97, 99, 116, 47, 97, 99, 116]⟩ : ByteArray)) (ca (cKind (⟨#[97, 99, 116]⟩ : ByteArray)) (ca h0 (ca h0 (ca h0 (ca (beq_iff_eq.2 h1) (ca (beq_iff_eq.2 h1) (ca (beq_iff_eq.2 h1) (ca (beq_iff_eq.2 h2) (ca (beq_iff_eq.2 h2) (ca (beq_iff_eq.2 h2) (ca (beq_eq_false_iff_ne.2 h3) (ca (beq_eq_false_iff_ne.2 h3) (ca (beq_eq_false_iff_ne.2 h3) (ca rf (ca rf (ca rf (ca rf (ca rf (ca rf (ca rf (ca rf (ca rf na)))))))))))))))))))))))))
      · obtain rfl := H2 h2
        exact SCall.p 79 [.call [] (RT (r8 1 91 360)) [], .call [] (.tup [.agg [I 0, I 0], I 1]) [], .call [] (.tup [I ((kindC (⟨#[97, 99, 116, 47, 97, 99, 116]⟩ : ByteArray)).1), I ((kindC (⟨#[97, 99, 116, 47, 97, 99, 116]⟩ : ByteArray)).2)]) [], .call [] (.tup [I ((kindC (⟨#[97, 99, 116]⟩ : ByteArray)).1), I ((kindC (⟨#[97, 99, 116]⟩ : ByteArray)).2)]) [], tb, tb, tb, tb, tb, tb, fb, fb, fb, fb, fb, fb, fb, fb, fb, fb, fb, fb, fb, fb, fb] [] 2 (ca (show S 20 [I 3, I 1, I 91, .agg [B false, I 0, I 0, .val (.slice none 0 0)]] [] (RT (r8 1 91 360)) [] from cPart3n_w rfl) (ca (show S 20 [I 7, I 1, I 91, .agg [B false, I 0, I 0, .val (.slice none 0 0)]] [] (.tup [.agg [I 0, I 0], I 1]) [] from cPart7n_w rfl) (ca (cKind (⟨#[97, 99, 116, 47, 97, 99, 116]⟩ : ByteArray)) (ca (cKind (⟨#[97, 99, 116]⟩ : ByteArray)) (ca h0 (ca h0 (ca h0 (ca (beq_iff_eq.2 h1) (ca (beq_iff_eq.2 h1) (ca (beq_iff_eq.2 h1) (ca (beq_eq_false_iff_ne.2 h2) (ca (beq_eq_false_iff_ne.2 h2) (ca (beq_eq_false_iff_ne.2 h2) (ca rf (ca rf (ca rf (ca rf (ca rf (ca rf (ca rf (ca rf (ca rf (ca rf (ca rf (ca rf na)))))))))))))))))))))))))
    · obtain rfl := H2 h1
      exact SCall.p 79 [.call [] (RT (r8 1 91 360)) [], .call [] (.tup [.agg [I 0, I 0], I 1]) [], .call [] (.tup [I ((kindC (⟨#[97, 99, 116, 47, 97, 99, 116]⟩ : ByteArray)).1), I ((kindC (⟨#[97, 99, 116, 47, 97, 99, 116]⟩ : ByteArray)).2)]) [], .call [] (.tup [I ((kindC (⟨#[97, 99, 116]⟩ : ByteArray)).1), I ((kindC (⟨#[97, 99, 116]⟩ : ByteArray)).2)]) [], tb, tb, tb, fb, fb, fb, fb, fb, fb, fb, fb, fb, fb, fb, fb, fb, fb, fb, fb, fb, fb] [] 2 (ca (show S 20 [I 3, I 1, I 91, .agg [B false, I 0, I 0, .val (.slice none 0 0)]] [] (RT (r8 1 91 360)) [] from cPart3n_w rfl) (ca (show S 20 [I 7, I 1, I 91, .agg [B false, I 0, I 0, .val (.slice none 0 0)]] [] (.tup [.agg [I 0, I 0], I 1]) [] from cPart7n_w rfl) (ca (cKind (⟨#[97, 99, 116, 47, 97, 99, 116]⟩ : ByteArray)) (ca (cKind (⟨#[97, 99, 116]⟩ : ByteArray)) (ca h0 (ca h0 (ca h0 (ca (beq_eq_false_iff_ne.2 h1) (ca (beq_eq_false_iff_ne.2 h1) (ca (beq_eq_false_iff_ne.2 h1) (ca rf (ca rf (ca rf (ca rf (ca rf (ca rf (ca rf (ca rf (ca rf (ca rf (ca rf (ca rf (ca rf (ca rf (ca rf na)))))))))))))))))))))))))
  · obtain rfl := H2 h0
    exact SCall.p 79 [.call [] (RT (r8 1 91 360)) [], .call [] (.tup [.agg [I 0, I 0], I 1]) [], .call [] (.tup [I ((kindC (⟨#[97, 99, 116, 47, 97, 99, 116]⟩ : ByteArray)).1), I ((kindC (⟨#[97, 99, 116, 47, 97, 99, 116]⟩ : ByteArray)).2)]) [], .call [] (.tup [I ((kindC (⟨#[97, 99, 116]⟩ : ByteArray)).1), I ((kindC (⟨#[97, 99, 116]⟩ : ByteArray)).2)]) [], fb, fb, fb, fb, fb, fb, fb, fb, fb, fb, fb, fb, fb, fb, fb, fb, fb, fb, fb, fb, fb] [] 2 (ca (show S 20 [I 3, I 1, I 91, .agg [B false, I 0, I 0, .val (.slice none 0 0)]] [] (RT (r8 1 91 360)) [] from cPart3n_w rfl) (ca (show S 20 [I 7, I 1, I 91, .agg [B false, I 0, I 0, .val (.slice none 0 0)]] [] (.tup [.agg [I 0, I 0], I 1]) [] from cPart7n_w rfl) (ca (cKind (⟨#[97, 99, 116, 47, 97, 99, 116]⟩ : ByteArray)) (ca (cKind (⟨#[97, 99, 116]⟩ : ByteArray)) (ca h0 (ca h0 (ca h0 (ca rf (ca rf (ca rf (ca rf (ca rf (ca rf (ca rf (ca rf (ca rf (ca rf (ca rf (ca rf (ca rf (ca rf (ca rf (ca rf (ca rf (ca rf na)))))))))))))))))))))))))

theorem shown10 : S 19 [] [] (B true) [] := by
  have e1 : r8 1 91 360 = (1, 4, 0) := by decide +kernel
  have e2 : kindC (⟨#[97, 99, 116, 47, 97, 99, 116]⟩ : ByteArray) = (5, 0) := by decide +kernel
  have e3 : kindC (⟨#[97, 99, 116]⟩ : ByteArray) = (0, 10) := by decide +kernel
  have e4 : ((nmC 0).toList == (⟨#[51, 48, 47, 51, 54, 48]⟩ : ByteArray).toList) = true := by decide +kernel
  have e5 : ((nmC (-1)).toList == (⟨#[]⟩ : ByteArray).toList) = true := by decide +kernel
  refine demurragelaw10_shown_w ?_
  rw [e1, e2, e3, e4, e5]
  simp



theorem demurragelaw10_CountTells_w {a1 a2 a3 : Int} {a4 : Bool} {a5 a6 : Int} {n7 : Nat} {g8 : Nat → Int} {a9 : ByteArray} {res : SV} (H : (((n7 : Nat) : Int) > 60 → B true = res) ∧ (¬ ((n7 : Nat) : Int) > 60 → ((a9.size : Int) > 40 → B true = res) ∧ (¬ (a9.size : Int) > 40 → (((((partC a1 a2 a3 a4 a5 a6 n7 g8).1) == ((partC a1 a2 a3 a4 a5 a6 n7 g8).1)) && ((((partC a1 a2 a3 a4 a5 a6 n7 g8).2.1) == ((partC a1 a2 a3 a4 a5 a6 n7 g8).2.1)) && true)) = true → (((partC a1 a2 a3 a4 a5 a6 n7 g8).2.2) = ((partC a1 a2 a3 a4 a5 a6 n7 g8).2.2) → (((nmC a1).toList == (nmC a1).toList) = true → (((kindC a9).1) = ((kindC a9).1) → B (((kindC a9).2) == ((kindC a9).2)) = res) ∧ (((kindC a9).1) ≠ ((kindC a9).1) → B false = res)) ∧ (((nmC a1).toList == (nmC a1).toList) = false → B false = res)) ∧ (((partC a1 a2 a3 a4 a5 a6 n7 g8).2.2) ≠ ((partC a1 a2 a3 a4 a5 a6 n7 g8).2.2) → B false = res)) ∧ (((((partC a1 a2 a3 a4 a5 a6 n7 g8).1) == ((partC a1 a2 a3 a4 a5 a6 n7 g8).1)) && ((((partC a1 a2 a3 a4 a5 a6 n7 g8).2.1) == ((partC a1 a2 a3 a4 a5 a6 n7 g8).2.1)) && true)) = false → B false = res)))) :
    S 3 [.agg [I a1, I a2, I a3, B a4, I a5, I a6, .sl 0 n7, .val (.string a9)]] [ri n7 g8] res [] := by
  obtain ⟨H1, H2⟩ := H
  by_cases h0 : ((n7 : Nat) : Int) > 60
  · obtain rfl := H1 h0
    exact SCall.p 60 [.call [] (B true) [], tb, tb, tb, tb, tb] [] 3 (ca (show S 19 [] [] (B true) [] from shown10) (ca (dt h0) (ca (dt h0) (ca (dt h0) (ca (dt h0) (ca rt na)))))) (by exact ⟨fun _ => rfl, trivial⟩)
  · obtain ⟨H1, H2⟩ := H2 h0
    by_cases h1 : (a9.size : Int) > 40
    · obtain rfl := H1 h1
      exact SCall.p 60 [.call [] (B true) [], fb, fb, fb, fb, tb] [] 3 (ca (show S 19 [] [] (B true) [] from shown10) (ca (df h0) (ca (df h0) (ca (df h0) (ca (df h0) (ca (dt h1) na)))))) (by exact ⟨fun _ => rfl, trivial⟩)
    · obtain ⟨H1, H2⟩ := H2 h1
      rcases bcase ((((partC a1 a2 a3 a4 a5 a6 n7 g8).1) == ((partC a1 a2 a3 a4 a5 a6 n7 g8).1)) && ((((partC a1 a2 a3 a4 a5 a6 n7 g8).2.1) == ((partC a1 a2 a3 a4 a5 a6 n7 g8).2.1)) && true)) with h2 | h2
      · obtain ⟨H1, H2⟩ := H1 h2
        by_cases h3 : ((partC a1 a2 a3 a4 a5 a6 n7 g8).2.2) = ((partC a1 a2 a3 a4 a5 a6 n7 g8).2.2)
        · obtain ⟨H1, H2⟩ := H1 h3
          rcases bcase ((nmC a1).toList == (nmC a1).toList) with h4 | h4
          · obtain ⟨H1, H2⟩ := H1 h4
            by_cases h5 : ((kindC a9).1) = ((kindC a9).1)
            · obtain rfl := H1 h5
              exact SCall.p 136 [.call [] (B true) [], fb, fb, fb, fb, fb, .call [0] (RT (partC a1 a2 a3 a4 a5 a6 n7 g8)) [], .call [0] (RT (partC a1 a2 a3 a4 a5 a6 n7 g8)) [], .call [] (.tup [I ((kindC a9).1), I ((kindC a9).2)]) [], .call [] (.tup [I ((kindC a9).1), I ((kindC a9).2)]) [], tb, tb, tb, tb, tb, tb, tb, tb, tb, tb, .call [] (.val (.string (nmC a1))) [], tb, tb, .call [] (.val (.string (nmC a1))) [], tb, tb, tb, tb, tb, tb, tb, tb, tb, tb] [] 5 (ca (show S 19 [] [] (B true) [] from shown10) (ca (df h0) (ca (df h0) (ca (df h0) (ca (df h0) (ca (df h1) (ca (show S 20 [I a1, I a2, I a3, .agg [B a4, I a5, I a6, .sl 0 n7]] [ri n7 g8] (RT (partC a1 a2 a3 a4 a5 a6 n7 g8)) [] from cPart _ _ _) (ca (show S 21 [I a1, I a2, I a3, .agg [B a4, I a5, I a6, .sl 0 n7]] [ri n7 g8] (RT (partC a1 a2 a3 a4 a5 a6 n7 g8)) [] from rPart _ _ _) (ca (cKind a9) (ca (rKind a9) (ca rt (ca rt (ca rt (ca rt (ca h2 (ca h2 (ca h2 (ca h2 (ca (beq_iff_eq.2 h3) (ca (beq_iff_eq.2 h3) (ca (cName a1) (ca (beq_iff_eq.2 h3) (ca (beq_iff_eq.2 h3) (ca (rName a1) (ca (beq_iff_eq.2 h3) (ca (beq_iff_eq.2 h3) (ca h4 (ca h4 (ca h4 (ca h4 (ca (beq_iff_eq.2 h5) (ca (beq_iff_eq.2 h5) (ca (beq_iff_eq.2 h5) (ca (beq_iff_eq.2 h5) na)))))))))))))))))))))))))))))))))) (by exact ⟨fun _ => rfl, trivial⟩)
            · obtain rfl := H2 h5
              exact SCall.p 136 [.call [] (B true) [], fb, fb, fb, fb, fb, .call [0] (RT (partC a1 a2 a3 a4 a5 a6 n7 g8)) [], .call [0] (RT (partC a1 a2 a3 a4 a5 a6 n7 g8)) [], .call [] (.tup [I ((kindC a9).1), I ((kindC a9).2)]) [], .call [] (.tup [I ((kindC a9).1), I ((kindC a9).2)]) [], tb, tb, tb, tb, tb, tb, tb, tb, tb, tb, .call [] (.val (.string (nmC a1))) [], tb, tb, .call [] (.val (.string (nmC a1))) [], tb, tb, tb, tb, tb, tb, fb, fb, fb, fb] [] 5 (ca (show S 19 [] [] (B true) [] from shown10) (ca (df h0) (ca (df h0) (ca (df h0) (ca (df h0) (ca (df h1) (ca (show S 20 [I a1, I a2, I a3, .agg [B a4, I a5, I a6, .sl 0 n7]] [ri n7 g8] (RT (partC a1 a2 a3 a4 a5 a6 n7 g8)) [] from cPart _ _ _) (ca (show S 21 [I a1, I a2, I a3, .agg [B a4, I a5, I a6, .sl 0 n7]] [ri n7 g8] (RT (partC a1 a2 a3 a4 a5 a6 n7 g8)) [] from rPart _ _ _) (ca (cKind a9) (ca (rKind a9) (ca rt (ca rt (ca rt (ca rt (ca h2 (ca h2 (ca h2 (ca h2 (ca (beq_iff_eq.2 h3) (ca (beq_iff_eq.2 h3) (ca (cName a1) (ca (beq_iff_eq.2 h3) (ca (beq_iff_eq.2 h3) (ca (rName a1) (ca (beq_iff_eq.2 h3) (ca (beq_iff_eq.2 h3) (ca h4 (ca h4 (ca h4 (ca h4 (ca (beq_eq_false_iff_ne.2 h5) (ca (beq_eq_false_iff_ne.2 h5) (ca (beq_eq_false_iff_ne.2 h5) (ca (beq_eq_false_iff_ne.2 h5) na)))))))))))))))))))))))))))))))))) (by exact ⟨fun _ => rfl, trivial⟩)
          · obtain rfl := H2 h4
            exact SCall.p 136 [.call [] (B true) [], fb, fb, fb, fb, fb, .call [0] (RT (partC a1 a2 a3 a4 a5 a6 n7 g8)) [], .call [0] (RT (partC a1 a2 a3 a4 a5 a6 n7 g8)) [], .call [] (.tup [I ((kindC a9).1), I ((kindC a9).2)]) [], .call [] (.tup [I ((kindC a9).1), I ((kindC a9).2)]) [], tb, tb, tb, tb, tb, tb, tb, tb, tb, tb, .call [] (.val (.string (nmC a1))) [], tb, tb, .call [] (.val (.string (nmC a1))) [], tb, tb, fb, fb, fb, fb, fb, fb, fb, fb] [] 5 (ca (show S 19 [] [] (B true) [] from shown10) (ca (df h0) (ca (df h0) (ca (df h0) (ca (df h0) (ca (df h1) (ca (show S 20 [I a1, I a2, I a3, .agg [B a4, I a5, I a6, .sl 0 n7]] [ri n7 g8] (RT (partC a1 a2 a3 a4 a5 a6 n7 g8)) [] from cPart _ _ _) (ca (show S 21 [I a1, I a2, I a3, .agg [B a4, I a5, I a6, .sl 0 n7]] [ri n7 g8] (RT (partC a1 a2 a3 a4 a5 a6 n7 g8)) [] from rPart _ _ _) (ca (cKind a9) (ca (rKind a9) (ca rt (ca rt (ca rt (ca rt (ca h2 (ca h2 (ca h2 (ca h2 (ca (beq_iff_eq.2 h3) (ca (beq_iff_eq.2 h3) (ca (cName a1) (ca (beq_iff_eq.2 h3) (ca (beq_iff_eq.2 h3) (ca (rName a1) (ca (beq_iff_eq.2 h3) (ca (beq_iff_eq.2 h3) (ca h4 (ca h4 (ca h4 (ca h4 (ca rf (ca rf (ca rf (ca rf na)))))))))))))))))))))))))))))))))) (by exact ⟨fun _ => rfl, trivial⟩)
        · obtain rfl := H2 h3
          exact SCall.p 136 [.call [] (B true) [], fb, fb, fb, fb, fb, .call [0] (RT (partC a1 a2 a3 a4 a5 a6 n7 g8)) [], .call [0] (RT (partC a1 a2 a3 a4 a5 a6 n7 g8)) [], .call [] (.tup [I ((kindC a9).1), I ((kindC a9).2)]) [], .call [] (.tup [I ((kindC a9).1), I ((kindC a9).2)]) [], tb, tb, tb, tb, tb, tb, tb, tb, fb, fb, fb, fb, fb, fb, fb, fb, fb, fb, fb, fb, fb, fb] [] 5 (ca (show S 19 [] [] (B true) [] from shown10) (ca (df h0) (ca (df h0) (ca (df h0) (ca (df h0) (ca (df h1) (ca (show S 20 [I a1, I a2, I a3, .agg [B a4, I a5, I a6, .sl 0 n7]] [ri n7 g8] (RT (partC a1 a2 a3 a4 a5 a6 n7 g8)) [] from cPart _ _ _) (ca (show S 21 [I a1, I a2, I a3, .agg [B a4, I a5, I a6, .sl 0 n7]] [ri n7 g8] (RT (partC a1 a2 a3 a4 a5 a6 n7 g8)) [] from rPart _ _ _) (ca (cKind a9) (ca (rKind a9) (ca rt (ca rt (ca rt (ca rt (ca h2 (ca h2 (ca h2 (ca h2 (ca (beq_eq_false_iff_ne.2 h3) (ca (beq_eq_false_iff_ne.2 h3) (ca (beq_eq_false_iff_ne.2 h3) (ca (beq_eq_false_iff_ne.2 h3) (ca (beq_eq_false_iff_ne.2 h3) (ca (beq_eq_false_iff_ne.2 h3) (ca rf (ca rf (ca rf (ca rf (ca rf (ca rf (ca rf (ca rf na)))))))))))))))))))))))))))))))) (by exact ⟨fun _ => rfl, trivial⟩)
      · obtain rfl := H2 h2
        exact SCall.p 136 [.call [] (B true) [], fb, fb, fb, fb, fb, .call [0] (RT (partC a1 a2 a3 a4 a5 a6 n7 g8)) [], .call [0] (RT (partC a1 a2 a3 a4 a5 a6 n7 g8)) [], .call [] (.tup [I ((kindC a9).1), I ((kindC a9).2)]) [], .call [] (.tup [I ((kindC a9).1), I ((kindC a9).2)]) [], tb, tb, tb, tb, fb, fb, fb, fb, fb, fb, fb, fb, fb, fb, fb, fb, fb, fb, fb, fb, fb, fb] [] 5 (ca (show S 19 [] [] (B true) [] from shown10) (ca (df h0) (ca (df h0) (ca (df h0) (ca (df h0) (ca (df h1) (ca (show S 20 [I a1, I a2, I a3, .agg [B a4, I a5, I a6, .sl 0 n7]] [ri n7 g8] (RT (partC a1 a2 a3 a4 a5 a6 n7 g8)) [] from cPart _ _ _) (ca (show S 21 [I a1, I a2, I a3, .agg [B a4, I a5, I a6, .sl 0 n7]] [ri n7 g8] (RT (partC a1 a2 a3 a4 a5 a6 n7 g8)) [] from rPart _ _ _) (ca (cKind a9) (ca (rKind a9) (ca rt (ca rt (ca rt (ca rt (ca h2 (ca h2 (ca h2 (ca h2 (ca rf (ca rf (ca rf (ca rf (ca rf (ca rf (ca rf (ca rf (ca rf (ca rf (ca rf (ca rf (ca rf (ca rf na)))))))))))))))))))))))))))))))) (by exact ⟨fun _ => rfl, trivial⟩)

theorem countTells_ok {k a b : Int} {eom : Bool} {e f : Int} {n : Nat} {g : Nat → Int} {s : ByteArray} : S 3 [.agg [I k, I a, I b, B eom, I e, I f, .sl 0 n, .val (.string s)]] [ri n g] (B true) [] :=
  demurragelaw10_CountTells_w (by simp)



theorem demurragelaw10_CountNames_w {a1 a2 : Int} {res : SV} (H : (a1 < 0 → (((nmC a1).toList == (⟨#[]⟩ : ByteArray).toList) = true → (((kindC (nmC a1)).2) = 10 → B (((kindC (nmC a1)).1) == 0) = res) ∧ (((kindC (nmC a1)).2) ≠ 10 → B false = res)) ∧ (((nmC a1).toList == (⟨#[]⟩ : ByteArray).toList) = false → B false = res)) ∧ (¬ a1 < 0 → (a1 > 6 → (((nmC a1).toList == (⟨#[]⟩ : ByteArray).toList) = true → (((kindC (nmC a1)).2) = 10 → B (((kindC (nmC a1)).1) == 0) = res) ∧ (((kindC (nmC a1)).2) ≠ 10 → B false = res)) ∧ (((nmC a1).toList == (⟨#[]⟩ : ByteArray).toList) = false → B false = res)) ∧ (¬ a1 > 6 → (((nmC a1).toList == (⟨#[]⟩ : ByteArray).toList) = false → (((kindC (nmC a1)).2) = 0 → (((kindC (nmC a1)).1) = a1 → B (((nmC a1).toList == (nmC a2).toList) == (a1 == a2)) = res) ∧ (((kindC (nmC a1)).1) ≠ a1 → B false = res)) ∧ (((kindC (nmC a1)).2) ≠ 0 → B false = res)) ∧ (((nmC a1).toList == (⟨#[]⟩ : ByteArray).toList) = true → B false = res)))) :
    S 4 [I a1, I a2] [] res [] := by
  obtain ⟨H1, H2⟩ := H
  by_cases h0 : a1 < 0
  · obtain ⟨H1, H2⟩ := H1 h0
    rcases bcase ((nmC a1).toList == (⟨#[]⟩ : ByteArray).toList) with h1 | h1
    · obtain ⟨H1, H2⟩ := H1 h1
      by_cases h2 : ((kindC (nmC a1)).2) = 10
      · obtain rfl := H1 h2
        exact SCall.p 59 [.call [] (B true) [], .call [] (.val (.string (nmC a1))) [], .call [] (.val (.string (nmC a2))) [], .call [] (.tup [I ((kindC (nmC a1)).1), I ((kindC (nmC a1)).2)]) [], tb, tb, tb, tb, tb, tb, tb, tb, tb, tb, tb, tb, tb] [] 0 (ca (show S 19 [] [] (B true) [] from shown10) (ca (cName a1) (ca (cName a2) (ca (cKind (nmC a1)) (ca (dt h0) (ca (dt h0) (ca (dt h0) (ca rt (ca rt (ca rt (ca rt (ca h1 (ca h1 (ca h1 (ca (beq_iff_eq.2 h2) (ca (beq_iff_eq.2 h2) (ca (beq_iff_eq.2 h2) na)))))))))))))))))
      · obtain rfl := H2 h2
        exact SCall.p 59 [.call [] (B true) [], .call [] (.val (.string (nmC a1))) [], .call [] (.val (.string (nmC a2))) [], .call [] (.tup [I ((kindC (nmC a1)).1), I ((kindC (nmC a1)).2)]) [], tb, tb, tb, tb, tb, tb, tb, tb, tb, tb, fb, fb, fb] [] 0 (ca (show S 19 [] [] (B true) [] from shown10) (ca (cName a1) (ca (cName a2) (ca (cKind (nmC a1)) (ca (dt h0) (ca (dt h0) (ca (dt h0) (ca rt (ca rt (ca rt (ca rt (ca h1 (ca h1 (ca h1 (ca (beq_eq_false_iff_ne.2 h2) (ca (beq_eq_false_iff_ne.2 h2) (ca (beq_eq_false_iff_ne.2 h2) na)))))))))))))))))
    · obtain rfl := H2 h1
      exact SCall.p 59 [.call [] (B true) [], .call [] (.val (.string (nmC a1))) [], .call [] (.val (.string (nmC a2))) [], .call [] (.tup [I ((kindC (nmC a1)).1), I ((kindC (nmC a1)).2)]) [], tb, tb, tb, tb, tb, tb, tb, fb, fb, fb, fb, fb, fb] [] 0 (ca (show S 19 [] [] (B true) [] from shown10) (ca (cName a1) (ca (cName a2) (ca (cKind (nmC a1)) (ca (dt h0) (ca (dt h0) (ca (dt h0) (ca rt (ca rt (ca rt (ca rt (ca h1 (ca h1 (ca h1 (ca rf (ca rf (ca rf na)))))))))))))))))
  · obtain ⟨H1, H2⟩ := H2 h0
    by_cases h1 : a1 > 6
    · obtain ⟨H1, H2⟩ := H1 h1
      rcases bcase ((nmC a1).toList == (⟨#[]⟩ : ByteArray).toList) with h2 | h2
      · obtain ⟨H1, H2⟩ := H1 h2
        by_cases h3 : ((kindC (nmC a1)).2) = 10
        · obtain rfl := H1 h3
          exact SCall.p 59 [.call [] (B true) [], .call [] (.val (.string (nmC a1))) [], .call [] (.val (.string (nmC a2))) [], .call [] (.tup [I ((kindC (nmC a1)).1), I ((kindC (nmC a1)).2)]) [], fb, fb, fb, tb, tb, tb, tb, tb, tb, tb, tb, tb, tb] [] 0 (ca (show S 19 [] [] (B true) [] from shown10) (ca (cName a1) (ca (cName a2) (ca (cKind (nmC a1)) (ca (df h0) (ca (df h0) (ca (df h0) (ca (dt h1) (ca rt (ca rt (ca rt (ca h2 (ca h2 (ca h2 (ca (beq_iff_eq.2 h3) (ca (beq_iff_eq.2 h3) (ca (beq_iff_eq.2 h3) na)))))))))))))))))
        · obtain rfl := H2 h3
          exact SCall.p 59 [.call [] (B true) [], .call [] (.val (.string (nmC a1))) [], .call [] (.val (.string (nmC a2))) [], .call [] (.tup [I ((kindC (nmC a1)).1), I ((kindC (nmC a1)).2)]) [], fb, fb, fb, tb, tb, tb, tb, tb, tb, tb, fb, fb, fb] [] 0 (ca (show S 19 [] [] (B true) [] from shown10) (ca (cName a1) (ca (cName a2) (ca (cKind (nmC a1)) (ca (df h0) (ca (df h0) (ca (df h0) (ca (dt h1) (ca rt (ca rt (ca rt (ca h2 (ca h2 (ca h2 (ca (beq_eq_false_iff_ne.2 h3) (ca (beq_eq_false_iff_ne.2 h3) (ca (beq_eq_false_iff_ne.2 h3) na)))))))))))))))))
      · obtain rfl := H2 h2
        exact SCall.p 59 [.call [] (B true) [], .call [] (.val (.string (nmC a1))) [], .call [] (.val (.string (nmC a2))) [], .call [] (.tup [I ((kindC (nmC a1)).1), I ((kindC (nmC a1)).2)]) [], fb, fb, fb, tb, tb, tb, tb, fb, fb, fb, fb, fb, fb] [] 0 (ca (show S 19 [] [] (B true) [] from shown10) (ca (cName a1) (ca (cName a2) (ca (cKind (nmC a1)) (ca (df h0) (ca (df h0) (ca (df h0) (ca (dt h1) (ca rt (ca rt (ca rt (ca h2 (ca h2 (ca h2 (ca rf (ca rf (ca rf na)))))))))))))))))
    · obtain ⟨H1, H2⟩ := H2 h1
      rcases bcase ((nmC a1).toList == (⟨#[]⟩ : ByteArray).toList) with h2 | h2
      · obtain rfl := H2 h2
        exact SCall.p 70 [.call [] (B true) [], .call [] (.val (.string (nmC a1))) [], .call [] (.val (.string (nmC a2))) [], .call [] (.tup [I ((kindC (nmC a1)).1), I ((kindC (nmC a1)).2)]) [], fb, fb, fb, fb, tb, tb, tb, fb, fb, fb, fb, fb, fb, fb, fb, fb, fb, fb, fb, fb, fb, fb] [] 0 (ca (show S 19 [] [] (B true) [] from shown10) (ca (cName a1) (ca (cName a2) (ca (cKind (nmC a1)) (ca (df h0) (ca (df h0) (ca (df h0) (ca (df h1) (ca rt (ca rt (ca rt (ca (nf h2) (ca (nf h2) (ca (nf h2) (ca rf (ca rf (ca rf (ca rf (ca rf (ca rf (ca rf (ca rf (ca rf (ca rf (ca rf (ca rf na))))))))))))))))))))))))))
      · obtain ⟨H1, H2⟩ := H1 h2
        by_cases h3 : ((kindC (nmC a1)).2) = 0
        · obtain ⟨H1, H2⟩ := H1 h3
          by_cases h4 : ((kindC (nmC a1)).1) = a1
          · obtain rfl := H1 h4
            exact SCall.p 70 [.call [] (B true) [], .call [] (.val (.string (nmC a1))) [], .call [] (.val (.string (nmC a2))) [], .call [] (.tup [I ((kindC (nmC a1)).1), I ((kindC (nmC a1)).2)]) [], fb, fb, fb, fb, tb, tb, tb, tb, tb, tb, tb, tb, tb, tb, tb, tb, tb, tb, tb, tb, tb, tb] [] 0 (ca (show S 19 [] [] (B true) [] from shown10) (ca (cName a1) (ca (cName a2) (ca (cKind (nmC a1)) (ca (df h0) (ca (df h0) (ca (df h0) (ca (df h1) (ca rt (ca rt (ca rt (ca (nt h2) (ca (nt h2) (ca (nt h2) (ca (beq_iff_eq.2 h3) (ca (beq_iff_eq.2 h3) (ca (beq_iff_eq.2 h3) (ca (beq_iff_eq.2 h3) (ca (beq_iff_eq.2 h4) (ca (beq_iff_eq.2 h4) (ca (beq_iff_eq.2 h4) (ca (beq_iff_eq.2 h4) (ca (beq_iff_eq.2 h4) (ca (beq_iff_eq.2 h4) (ca (beq_iff_eq.2 h4) (ca (beq_iff_eq.2 h4) na))))))))))))))))))))))))))
          · obtain rfl := H2 h4
            exact SCall.p 70 [.call [] (B true) [], .call [] (.val (.string (nmC a1))) [], .call [] (.val (.string (nmC a2))) [], .call [] (.tup [I ((kindC (nmC a1)).1), I ((kindC (nmC a1)).2)]) [], fb, fb, fb, fb, tb, tb, tb, tb, tb, tb, tb, tb, tb, tb, fb, fb, fb, fb, fb, fb, fb, fb] [] 0 (ca (show S 19 [] [] (B true) [] from shown10) (ca (cName a1) (ca (cName a2) (ca (cKind (nmC a1)) (ca (df h0) (ca (df h0) (ca (df h0) (ca (df h1) (ca rt (ca rt (ca rt (ca (nt h2) (ca (nt h2) (ca (nt h2) (ca (beq_iff_eq.2 h3) (ca (beq_iff_eq.2 h3) (ca (beq_iff_eq.2 h3) (ca (beq_iff_eq.2 h3) (ca (beq_eq_false_iff_ne.2 h4) (ca (beq_eq_false_iff_ne.2 h4) (ca (beq_eq_false_iff_ne.2 h4) (ca (beq_eq_false_iff_ne.2 h4) (ca (beq_eq_false_iff_ne.2 h4) (ca (beq_eq_false_iff_ne.2 h4) (ca (beq_eq_false_iff_ne.2 h4) (ca (beq_eq_false_iff_ne.2 h4) na))))))))))))))))))))))))))
        · obtain rfl := H2 h3
          exact SCall.p 70 [.call [] (B true) [], .call [] (.val (.string (nmC a1))) [], .call [] (.val (.string (nmC a2))) [], .call [] (.tup [I ((kindC (nmC a1)).1), I ((kindC (nmC a1)).2)]) [], fb, fb, fb, fb, tb, tb, tb, tb, tb, tb, fb, fb, fb, fb, fb, fb, fb, fb, fb, fb, fb, fb] [] 0 (ca (show S 19 [] [] (B true) [] from shown10) (ca (cName a1) (ca (cName a2) (ca (cKind (nmC a1)) (ca (df h0) (ca (df h0) (ca (df h0) (ca (df h1) (ca rt (ca rt (ca rt (ca (nt h2) (ca (nt h2) (ca (nt h2) (ca (beq_eq_false_iff_ne.2 h3) (ca (beq_eq_false_iff_ne.2 h3) (ca (beq_eq_false_iff_ne.2 h3) (ca (beq_eq_false_iff_ne.2 h3) (ca rf (ca rf (ca rf (ca rf (ca rf (ca rf (ca rf (ca rf na))))))))))))))))))))))))))

theorem countNames_ok {i j : Int} : S 4 [I i, I j] [] (B true) [] := by
  refine demurragelaw10_CountNames_w ?_
  have out : ∀ k : Int, k < 0 ∨ k > 6 → nmC k = (⟨#[]⟩ : ByteArray) := fun k h => by
    unfold nmC; rw [if_neg (by omega), if_neg (by omega), if_neg (by omega), if_neg (by omega), if_neg (by omega), if_neg (by omega), if_neg (by omega)]
  have e0 : kindC (⟨#[]⟩ : ByteArray) = (0, 10) := by decide +kernel
  by_cases h : i < 0 ∨ i > 6
  · rw [out i h, e0]
    simp only [beq_self_eq_true]
    rcases h with h | h
    · simp [h]
    · have : ¬ i < 0 := by omega
      simp [h, this]
  · have h1 : ¬ i < 0 := by omega
    have h2 : ¬ i > 6 := by omega
    have hj : j < 0 ∨ j > 6 ∨ j = 0 ∨ j = 1 ∨ j = 2 ∨ j = 3 ∨ j = 4 ∨ j = 5 ∨ j = 6 := by omega
    have key : ((nmC i).toList == (⟨#[]⟩ : ByteArray).toList) = false ∧ kindC (nmC i) = (i, 0) ∧ ∀ k : Int, ((nmC i).toList == (nmC k).toList) = (i == k) := by
      have hi : i = 0 ∨ i = 1 ∨ i = 2 ∨ i = 3 ∨ i = 4 ∨ i = 5 ∨ i = 6 := by omega
      have hk : ∀ k : Int, k < 0 ∨ k > 6 ∨ k = 0 ∨ k = 1 ∨ k = 2 ∨ k = 3 ∨ k = 4 ∨ k = 5 ∨ k = 6 := fun k => by omega
      have hne : ∀ k : Int, k < 0 ∨ k > 6 → (i == k) = false := fun k h => by rw [beq_eq_false_iff_ne]; omega
      rcases hi with rfl | rfl | rfl | rfl | rfl | rfl | rfl <;> refine ⟨by decide +kernel, by decide +kernel, fun k => ?_⟩ <;> rcases hk k with h | h | rfl | rfl | rfl | rfl | rfl | rfl | rfl <;>
        first
        | (rw [out _ (.inl h), hne _ (.inl h)]; decide +kernel)
        | (rw [out _ (.inr h), hne _ (.inr h)]; decide +kernel)
        | decide +kernel
    obtain ⟨k1, k2, k3⟩ := key
    rw [k1, k2, k3]
    simp [h1, h2]


end Go.Proofs.YtehnnaanpmceiaaGreatDoor
