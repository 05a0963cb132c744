import Derived.Test.YtehnnaanpmceiaaGreatDoorAcc
import Derived.Test.YtehnnaanpmceiaaGreatDoorProg
import Derived.KernelRfl
import Derived.Laws.Externs
set_option linter.unusedVariables false
set_option linter.unusedSimpArgs false
set_option linter.unusedSectionVars false
set_option maxRecDepth 100000
namespace Go.Proofs.YtehnnaanpmceiaaGreatDoor
open Go Go.Sx
variable [Env]

theorem demurragelaw18_shown_w  {res : SV} (H : Ir 100000 ∧ Ir 500 ∧ Ir 1000 ∧ Ir 3000 ∧ Ir (-1) ∧ Ir 1 ∧ 2 ≤ 1000 ∧ (((ofV 100000 500 1 4).1) = 1250 → (((ofV 100000 500 1 4).2) = 0 → (((ofV 1000 500 1 4).1) = 12 → (((ofV 1000 500 1 4).2) = 0 → (((ofV 3000 500 1 4).1) = 38 → (((ofV 3000 500 1 4).2) = 0 → (((ofV (-1) 500 1 4).2) = 1 → (((ofV 1 500 2 4).2) = 1 → (allN 1000 500 (fun i => 1) (fun i => 4) 2) < 9223372036854775807 ∧ ((decide ((allN 1000 500 (fun i => 1) (fun i => 4) 2) = 2 ∧ ∀ i, i < (allN 1000 500 (fun i => 1) (fun i => 4) 2) → (fun i => (ofV 1000 500 ((fun i => 1) i) ((fun i => 4) i)).1) i = (fun i => [12, 12].getD i 0) i)) = true → ((allE 1000 500 (fun i => 1) (fun i => 4) 2) = 0 → (((btV (r8 1 91 360) 100000 500).1) = 1250 → B (((btV (r8 1 91 360) 100000 500).2) == 0) = res) ∧ (((btV (r8 1 91 360) 100000 500).1) ≠ 1250 → B false = res)) ∧ ((allE 1000 500 (fun i => 1) (fun i => 4) 2) ≠ 0 → B false = res)) ∧ ((decide ((allN 1000 500 (fun i => 1) (fun i => 4) 2) = 2 ∧ ∀ i, i < (allN 1000 500 (fun i => 1) (fun i => 4) 2) → (fun i => (ofV 1000 500 ((fun i => 1) i) ((fun i => 4) i)).1) i = (fun i => [12, 12].getD i 0) i)) = false → B false = res)) ∧ (((ofV 1 500 2 4).2) ≠ 1 → B false = res)) ∧ (((ofV (-1) 500 1 4).2) ≠ 1 → B false = res)) ∧ (((ofV 3000 500 1 4).2) ≠ 0 → B false = res)) ∧ (((ofV 3000 500 1 4).1) ≠ 38 → B false = res)) ∧ (((ofV 1000 500 1 4).2) ≠ 0 → B false = res)) ∧ (((ofV 1000 500 1 4).1) ≠ 12 → B false = res)) ∧ (((ofV 100000 500 1 4).2) ≠ 0 → B false = res)) ∧ (((ofV 100000 500 1 4).1) ≠ 1250 → B false = res)) :
    S 29 [] [] res [] := by
  refine SCall.st fun X hX => ?_
  obtain ⟨h0, h1, h2, h3, h4, h5, h6, H1, H2⟩ := H
  refine hX.go [c_ [] (show S 35 [I 100000, I 500, .agg [I 1, I 4]] [] (.tup [I ((ofV 100000 500 1 4).1), I ((ofV 100000 500 1 4).2)]) [] from aOf _ _ h0 h1), c_ [] (show S 35 [I 1000, I 500, .agg [I 1, I 4]] [] (.tup [I ((ofV 1000 500 1 4).1), I ((ofV 1000 500 1 4).2)]) [] from aOf _ _ h2 h1), c_ [] (show S 35 [I 3000, I 500, .agg [I 1, I 4]] [] (.tup [I ((ofV 3000 500 1 4).1), I ((ofV 3000 500 1 4).2)]) [] from aOf _ _ h3 h1), c_ [] (show S 35 [I (-1), I 500, .agg [I 1, I 4]] [] (.tup [I ((ofV (-1) 500 1 4).1), I ((ofV (-1) 500 1 4).2)]) [] from aOf _ _ h4 h1), c_ [] (show S 35 [I 1, I 500, .agg [I 2, I 4]] [] (.tup [I ((ofV 1 500 2 4).1), I ((ofV 1 500 2 4).2)]) [] from aOf _ _ h5 h1), q_ (show ∀ k, k < 2 → (fun i => [I 1, I 4]) k = [[I 1, I 4], [I 1, I 4]].getD k [] from by intro k hk; match k, hk with | 0, _ => rfl | 1, _ => rfl | k + 2, hk => omega), h_ [.row (fun i => [I 1, I 4])], c_ [1] (show S 30 [I 1000, I 500, .sl 0 2] [some (.row false 29 2 2 (fun i => [I 1, I 4]))] (.tup [.sl 1 (allN 1000 500 (fun i => 1) (fun i => 4) 2), I (allE 1000 500 (fun i => 1) (fun i => 4) 2)]) [some (.row true 3 (allN 1000 500 (fun i => 1) (fun i => 4) 2) 1 (fun i => [I ((ofV 1000 500 ((fun i => 1) i) ((fun i => 4) i)).1)]))] from aAll h2 h1 h6), c_ [] (show S 32 [.agg [I 0, I 500, I 0, I 3, I 0, I 0, I 0, B false, B false, B false, I 0], .agg [B false, I 0, I 0, .val (.slice none 0 0)], I 100000, I 1, I 91] [] (.tup [I ((btV (r8 1 91 360) 100000 500).1), I ((btV (r8 1 91 360) 100000 500).2)]) [] from aBetn h0 h1)] ?_
  by_cases h7 : ((ofV 100000 500 1 4).1) = 1250
  · obtain ⟨H1, H2⟩ := H1 h7
    refine hX.go [t_ (beq_iff_eq.2 h7), t_ (beq_iff_eq.2 h7), t_ (beq_iff_eq.2 h7)] ?_
    by_cases h8 : ((ofV 100000 500 1 4).2) = 0
    · obtain ⟨H1, H2⟩ := H1 h8
      refine hX.go [t_ (beq_iff_eq.2 h8), t_ (beq_iff_eq.2 h8), t_ (beq_iff_eq.2 h8)] ?_
      by_cases h9 : ((ofV 1000 500 1 4).1) = 12
      · obtain ⟨H1, H2⟩ := H1 h9
        refine hX.go [t_ (beq_iff_eq.2 h9), t_ (beq_iff_eq.2 h9), t_ (beq_iff_eq.2 h9)] ?_
        by_cases h10 : ((ofV 1000 500 1 4).2) = 0
        · obtain ⟨H1, H2⟩ := H1 h10
          refine hX.go [t_ (beq_iff_eq.2 h10), t_ (beq_iff_eq.2 h10), t_ (beq_iff_eq.2 h10)] ?_
          by_cases h11 : ((ofV 3000 500 1 4).1) = 38
          · obtain ⟨H1, H2⟩ := H1 h11
            refine hX.go [t_ (beq_iff_eq.2 h11), t_ (beq_iff_eq.2 h11), t_ (beq_iff_eq.2 h11)] ?_
            by_cases h12 : ((ofV 3000 500 1 4).2) = 0
            · obtain ⟨H1, H2⟩ := H1 h12
              refine hX.go [t_ (beq_iff_eq.2 h12), t_ (beq_iff_eq.2 h12), t_ (beq_iff_eq.2 h12)] ?_
              by_cases h13 : ((ofV (-1) 500 1 4).2) = 1
              · obtain ⟨H1, H2⟩ := H1 h13
                refine hX.go [t_ (beq_iff_eq.2 h13), t_ (beq_iff_eq.2 h13), t_ (beq_iff_eq.2 h13)] ?_
                by_cases h14 : ((ofV 1 500 2 4).2) = 1
                · obtain ⟨h15, H1, H2⟩ := H1 h14
                  refine hX.go [t_ (beq_iff_eq.2 h14), t_ (beq_iff_eq.2 h14), q_ (show ∀ k, k < 2 → (fun i => [I ([12, 12].getD i 0)]) k = [[I 12], [I 12]].getD k [] from by intro k hk; match k, hk with | 0, _ => rfl | 1, _ => rfl | k + 2, hk => omega), h_ [.row (fun i => [I ([12, 12].getD i 0)])], t_ (beq_iff_eq.2 h14), c_ [2, 3] (show S 34 [.sl 0 (allN 1000 500 (fun i => 1) (fun i => 4) 2), .sl 1 2] [some (.row false 3 (allN 1000 500 (fun i => 1) (fun i => 4) 2) 1 (fun i => [I ((ofV 1000 500 ((fun i => 1) i) ((fun i => 4) i)).1)])), some (.row false 3 2 1 (fun i => [I ([12, 12].getD i 0)]))] (B (decide ((allN 1000 500 (fun i => 1) (fun i => 4) 2) = 2 ∧ ∀ i, i < (allN 1000 500 (fun i => 1) (fun i => 4) 2) → (fun i => (ofV 1000 500 ((fun i => 1) i) ((fun i => 4) i)).1) i = (fun i => [12, 12].getD i 0) i))) [] from rRow h15), t_ (beq_iff_eq.2 h14)] ?_
                  rcases bcase (decide ((allN 1000 500 (fun i => 1) (fun i => 4) 2) = 2 ∧ ∀ i, i < (allN 1000 500 (fun i => 1) (fun i => 4) 2) → (fun i => (ofV 1000 500 ((fun i => 1) i) ((fun i => 4) i)).1) i = (fun i => [12, 12].getD i 0) i)) with h16 | h16
                  · obtain ⟨H1, H2⟩ := H1 h16
                    refine hX.go [t_ h16, t_ h16, t_ h16] ?_
                    by_cases h17 : (allE 1000 500 (fun i => 1) (fun i => 4) 2) = 0
                    · obtain ⟨H1, H2⟩ := H1 h17
                      refine hX.go [t_ (beq_iff_eq.2 h17), t_ (beq_iff_eq.2 h17), t_ (beq_iff_eq.2 h17)] ?_
                      by_cases h18 : ((btV (r8 1 91 360) 100000 500).1) = 1250
                      · obtain rfl := H1 h18
                        exact hX.e [t_ (beq_iff_eq.2 h18), t_ (beq_iff_eq.2 h18), t_ (beq_iff_eq.2 h18)]
                      · obtain rfl := H2 h18
                        exact hX.e [f_ (beq_eq_false_iff_ne.2 h18), f_ (beq_eq_false_iff_ne.2 h18), f_ (beq_eq_false_iff_ne.2 h18)]
                    · obtain rfl := H2 h17
                      exact hX.e [f_ (beq_eq_false_iff_ne.2 h17), f_ (beq_eq_false_iff_ne.2 h17), f_ (beq_eq_false_iff_ne.2 h17), f_ rf, f_ rf, f_ rf]
                  · obtain rfl := H2 h16
                    exact hX.e [f_ h16, f_ h16, f_ h16, f_ rf, f_ rf, f_ rf, f_ rf, f_ rf, f_ rf]
                · obtain rfl := H2 h14
                  exact hX.e [f_ (beq_eq_false_iff_ne.2 h14), f_ (beq_eq_false_iff_ne.2 h14), f_ (beq_eq_false_iff_ne.2 h14), f_ (beq_eq_false_iff_ne.2 h14), f_ rf, f_ rf, f_ rf, f_ rf, f_ rf, f_ rf, f_ rf, f_ rf, f_ rf]
              · obtain rfl := H2 h13
                exact hX.e [f_ (beq_eq_false_iff_ne.2 h13), f_ (beq_eq_false_iff_ne.2 h13), f_ (beq_eq_false_iff_ne.2 h13), f_ rf, f_ rf, f_ rf, f_ rf, f_ rf, f_ rf, f_ rf, f_ rf, f_ rf, f_ rf, f_ rf, f_ rf, f_ rf]
            · obtain rfl := H2 h12
              exact hX.e [f_ (beq_eq_false_iff_ne.2 h12), f_ (beq_eq_false_iff_ne.2 h12), f_ (beq_eq_false_iff_ne.2 h12), f_ rf, f_ rf, f_ rf, f_ rf, f_ rf, f_ rf, f_ rf, f_ rf, f_ rf, f_ rf, f_ rf, f_ rf, f_ rf, f_ rf, f_ rf, f_ rf]
          · obtain rfl := H2 h11
            exact hX.e [f_ (beq_eq_false_iff_ne.2 h11), f_ (beq_eq_false_iff_ne.2 h11), f_ (beq_eq_false_iff_ne.2 h11), f_ rf, f_ rf, f_ rf, f_ rf, f_ rf, f_ rf, f_ rf, f_ rf, f_ rf, f_ rf, f_ rf, f_ rf, f_ rf, f_ rf, f_ rf, f_ rf, f_ rf, f_ rf, f_ rf]
        · obtain rfl := H2 h10
          exact hX.e [f_ (beq_eq_false_iff_ne.2 h10), f_ (beq_eq_false_iff_ne.2 h10), f_ (beq_eq_false_iff_ne.2 h10), f_ rf, f_ rf, f_ rf, f_ rf, f_ rf, f_ rf, f_ rf, f_ rf, f_ rf, f_ rf, f_ rf, f_ rf, f_ rf, f_ rf, f_ rf, f_ rf, f_ rf, f_ rf, f_ rf, f_ rf, f_ rf, f_ rf]
      · obtain rfl := H2 h9
        exact hX.e [f_ (beq_eq_false_iff_ne.2 h9), f_ (beq_eq_false_iff_ne.2 h9), f_ (beq_eq_false_iff_ne.2 h9), f_ rf, f_ rf, f_ rf, f_ rf, f_ rf, f_ rf, f_ rf, f_ rf, f_ rf, f_ rf, f_ rf, f_ rf, f_ rf, f_ rf, f_ rf, f_ rf, f_ rf, f_ rf, f_ rf, f_ rf, f_ rf, f_ rf, f_ rf, f_ rf, f_ rf]
    · obtain rfl := H2 h8
      exact hX.e [f_ (beq_eq_false_iff_ne.2 h8), f_ (beq_eq_false_iff_ne.2 h8), f_ (beq_eq_false_iff_ne.2 h8), f_ rf, f_ rf, f_ rf, f_ rf, f_ rf, f_ rf, f_ rf, f_ rf, f_ rf, f_ rf, f_ rf, f_ rf, f_ rf, f_ rf, f_ rf, f_ rf, f_ rf, f_ rf, f_ rf, f_ rf, f_ rf, f_ rf, f_ rf, f_ rf, f_ rf, f_ rf, f_ rf, f_ rf]
  · obtain rfl := H2 h7
    exact hX.e [f_ (beq_eq_false_iff_ne.2 h7), f_ (beq_eq_false_iff_ne.2 h7), f_ (beq_eq_false_iff_ne.2 h7), f_ rf, f_ rf, f_ rf, f_ rf, f_ rf, f_ rf, f_ rf, f_ rf, f_ rf, f_ rf, f_ rf, f_ rf, f_ rf, f_ rf, f_ rf, f_ rf, f_ rf, f_ rf, f_ rf, f_ rf, f_ rf, f_ rf, f_ rf, f_ rf, f_ rf, f_ rf, f_ rf, f_ rf, f_ rf, f_ rf, f_ rf]

theorem shown18 : S 29 [] [] (B true) [] := by
  have e1 : r8 1 91 360 = (1, 4, 0) := by decide +kernel
  have e2 : btV (1, 4, 0) 100000 500 = (1250, 0) := by decide +kernel
  have e3 : ofV 100000 500 1 4 = (1250, 0) := by decide +kernel
  have e4 : ofV 1000 500 1 4 = (12, 0) := by decide +kernel
  have e5 : ofV 3000 500 1 4 = (38, 0) := by decide +kernel
  have e6 : ofV (-1) 500 1 4 = (0, 1) := by decide +kernel
  have e7 : ofV 1 500 2 4 = (0, 1) := by decide +kernel
  have e8 : allE 1000 500 (fun _ => 1) (fun _ => 4) 2 = 0 := by decide +kernel
  have e9 : allN 1000 500 (fun _ => 1) (fun _ => 4) 2 = 2 := by decide +kernel
  have e10 : allN 1000 500 (fun _ => 1) (fun _ => 4) 2 = 2 ∧ ∀ i, i < allN 1000 500 (fun _ => 1) (fun _ => 4) 2 → (fun i : Nat => (ofV 1000 500 ((fun _ => 1) i) ((fun _ => 4) i)).1) i = (fun i => [12, 12].getD i 0) i := by
    rw [e9]
    refine ⟨rfl, fun i hi => ?_⟩
    match i, hi with
    | 0, _ => simp only [e4]; rfl
    | 1, _ => simp only [e4]; rfl
  exact demurragelaw18_shown_w ⟨by decide, by decide, by decide, by decide, by decide, by decide, by decide, ⟨fun _ => ⟨fun _ => ⟨fun _ => ⟨fun _ => ⟨fun _ => ⟨fun _ => ⟨fun _ => ⟨fun _ => ⟨by rw [e9]; decide, fun _ => ⟨fun _ => ⟨fun _ => by rw [e1, e2]; rfl, fun z => absurd (by rw [e1, e2]) z⟩, fun z => absurd e8 z⟩, fun z => absurd z (by rw [decide_eq_true e10]; decide)⟩, fun z => absurd (by rw [e7]) z⟩, fun z => absurd (by rw [e6]) z⟩, fun z => absurd (by rw [e5]) z⟩, fun z => absurd (by rw [e5]) z⟩, fun z => absurd (by rw [e4]) z⟩, fun z => absurd (by rw [e4]) z⟩, fun z => absurd (by rw [e3]) z⟩, fun z => absurd (by rw [e3]) z⟩⟩



noncomputable def demurragelaw18_AccrueTells_h0 (n3 : Nat) (g4 : Nat → Int) (g5 : Nat → Int) (n20 : Nat) (g21 : Nat → Int) (x1 : Int) (x2 : Int) (x3 : Int) : SC :=
  ⟨[⟨9, slo 135 [(3, I x1), (4, I x2), (5, .sl 0 n3), (10, B true), (19, I x3)], [.code (bodyAt Tryz.f9 [1, 1, 1, 1, 1, 1, 1, 1, 1, 1, 1, 1, 1, 1, 1, 0, 1, 0, 0]), .inLoop (bodyAt Tryz.f9 [1, 1, 1, 1, 1, 1, 1, 1, 1, 1, 1, 1, 1, 1, 1, 0, 1, 0, 0]), .inBlock 0, .code (bodyAt Tryz.f9 [1, 1, 1, 1, 1, 1, 1, 1, 1, 1, 1, 1, 1, 1, 1, 1])], {}⟩], [some (.row false 29 n3 2 (fun i => [I (g4 i), I (g5 i)])), ri n20 g21]⟩
theorem demurragelaw18_AccrueTells_w0 {X : Cx} {a1 a2 : Int} {n3 : Nat} {g4 g5 : Nat → Int} {a6 a7 a8 a9 a10 a11 a12 : Int} {a13 a14 a15 : Bool} {a16 : Int} {a17 : Bool} {a18 a19 : Int} {n20 : Nat} {g21 : Nat → Int} {a22 a23 : Int} {res : SV} (hX : Fi X 9 [some (.row false 29 n3 2 (fun i => [I (g4 i), I (g5 i)])), ri n20 g21] res []) (H : (((n3 : Nat) : Int) > 20 → B true = res) ∧ (¬ ((n3 : Nat) : Int) > 20 → (((n20 : Nat) : Int) > 60 → B true = res) ∧ (¬ ((n20 : Nat) : Int) > 60 → Ir a1 ∧ Ir a2 ∧ n3 ≤ 1000 ∧ Ir a7 ∧ (allN a1 a2 g4 g5 n3) < 9223372036854775807 ∧ ((decide ((allN a1 a2 g4 g5 n3) = (allN a1 a2 g4 g5 n3) ∧ ∀ i, i < (allN a1 a2 g4 g5 n3) → (fun i => (ofV a1 a2 (g4 i) (g5 i)).1) i = (fun i => (ofV a1 a2 (g4 i) (g5 i)).1) i)) = false → B false = res) ∧ ((decide ((allN a1 a2 g4 g5 n3) = (allN a1 a2 g4 g5 n3) ∧ ∀ i, i < (allN a1 a2 g4 g5 n3) → (fun i => (ofV a1 a2 (g4 i) (g5 i)).1) i = (fun i => (ofV a1 a2 (g4 i) (g5 i)).1) i)) = true → ((allE a1 a2 g4 g5 n3) ≠ (allE a1 a2 g4 g5 n3) → B false = res) ∧ ((allE a1 a2 g4 g5 n3) = (allE a1 a2 g4 g5 n3) → (((btV (partC a9 a22 a23 a17 a18 a19 n20 g21) a1 a7).1) ≠ ((btV (partC a9 a22 a23 a17 a18 a19 n20 g21) a1 a7).1) → B false = res) ∧ (((btV (partC a9 a22 a23 a17 a18 a19 n20 g21) a1 a7).1) = ((btV (partC a9 a22 a23 a17 a18 a19 n20 g21) a1 a7).1) → (((btV (partC a9 a22 a23 a17 a18 a19 n20 g21) a1 a7).2) ≠ ((btV (partC a9 a22 a23 a17 a18 a19 n20 g21) a1 a7).2) → B false = res) ∧ (((btV (partC a9 a22 a23 a17 a18 a19 n20 g21) a1 a7).2) = ((btV (partC a9 a22 a23 a17 a18 a19 n20 g21) a1 a7).2) → Ok X (demurragelaw18_AccrueTells_h0 n3 g4 g5 n20 g21 a1 a2 0)))))))) :
    Ok X (entry Tryz.prog 9 [.agg [I a1, I a2, .sl 0 n3, I a6, I a7, I a8, I a9, I a10, I a11, I a12, B a13, B a14, B a15, I a16, B a17, I a18, I a19, .sl 1 n20, I a22, I a23]] [some (.row false 29 n3 2 (fun i => [I (g4 i), I (g5 i)])), ri n20 g21]) := by
  obtain ⟨H1, H2⟩ := H
  refine hX.go [c_ [] (show S 29 [] [] (B true) [] from shown18)] ?_
  by_cases h0 : ((n3 : Nat) : Int) > 20
  · obtain rfl := H1 h0
    exact hX.e [t_ (dt h0), t_ (dt h0), t_ (dt h0), t_ (dt h0), t_ (dt h0), t_ rt]
  · obtain ⟨H1, H2⟩ := H2 h0
    refine hX.go [f_ (df h0), f_ (df h0), f_ (df h0), f_ (df h0), f_ (df h0)] ?_
    by_cases h1 : ((n20 : Nat) : Int) > 60
    · obtain rfl := H1 h1
      exact hX.e [t_ (dt h1)]
    · obtain ⟨h2, h3, h4, h5, h6, H1, H2⟩ := H2 h1
      refine hX.go [f_ (df h1), c_ [0] (show S 30 [I a1, I a2, .sl 0 n3] [some (.row false 29 n3 2 (fun i => [I (g4 i), I (g5 i)]))] (.tup [.sl 1 (allN a1 a2 g4 g5 n3), I (allE a1 a2 g4 g5 n3)]) [some (.row true 3 (allN a1 a2 g4 g5 n3) 1 (fun i => [I ((ofV a1 a2 (g4 i) (g5 i)).1)]))] from aAll h2 h3 h4), c_ [0] (show S 31 [I a1, I a2, .sl 0 n3] [some (.row false 29 n3 2 (fun i => [I (g4 i), I (g5 i)]))] (.tup [.sl 1 (allN a1 a2 g4 g5 n3), I (allE a1 a2 g4 g5 n3)]) [some (.row true 3 (allN a1 a2 g4 g5 n3) 1 (fun i => [I ((ofV a1 a2 (g4 i) (g5 i)).1)]))] from a18All h2 h3 h4), c_ [1] (show S 32 [.agg [I a6, I a7, I a8, I a9, I a10, I a11, I a12, B a13, B a14, B a15, I a16], .agg [B a17, I a18, I a19, .sl 0 n20], I a1, I a22, I a23] [ri n20 g21] (.tup [I ((btV (partC a9 a22 a23 a17 a18 a19 n20 g21) a1 a7).1), I ((btV (partC a9 a22 a23 a17 a18 a19 n20 g21) a1 a7).2)]) [] from aBet h2 h5), c_ [1] (show S 33 [.agg [I a6, I a7, I a8, I a9, I a10, I a11, I a12, B a13, B a14, B a15, I a16], .agg [B a17, I a18, I a19, .sl 0 n20], I a1, I a22, I a23] [ri n20 g21] (.tup [I ((btV (partC a9 a22 a23 a17 a18 a19 n20 g21) a1 a7).1), I ((btV (partC a9 a22 a23 a17 a18 a19 n20 g21) a1 a7).2)]) [] from a18Bet h2 h5), c_ [5, 6] (show S 34 [.sl 0 (allN a1 a2 g4 g5 n3), .sl 1 (allN a1 a2 g4 g5 n3)] [some (.row false 3 (allN a1 a2 g4 g5 n3) 1 (fun i => [I ((ofV a1 a2 (g4 i) (g5 i)).1)])), some (.row false 3 (allN a1 a2 g4 g5 n3) 1 (fun i => [I ((ofV a1 a2 (g4 i) (g5 i)).1)]))] (B (decide ((allN a1 a2 g4 g5 n3) = (allN a1 a2 g4 g5 n3) ∧ ∀ i, i < (allN a1 a2 g4 g5 n3) → (fun i => (ofV a1 a2 (g4 i) (g5 i)).1) i = (fun i => (ofV a1 a2 (g4 i) (g5 i)).1) i))) [] from rRow h6)] ?_
      rcases bcase (decide ((allN a1 a2 g4 g5 n3) = (allN a1 a2 g4 g5 n3) ∧ ∀ i, i < (allN a1 a2 g4 g5 n3) → (fun i => (ofV a1 a2 (g4 i) (g5 i)).1) i = (fun i => (ofV a1 a2 (g4 i) (g5 i)).1) i)) with h7 | h7
      · obtain ⟨H1, H2⟩ := H2 h7
        refine hX.go [f_ (nf h7), f_ (nf h7), f_ (nf h7), f_ (nf h7)] ?_
        by_cases h8 : (allE a1 a2 g4 g5 n3) = (allE a1 a2 g4 g5 n3)
        · obtain ⟨H1, H2⟩ := H2 h8
          refine hX.go [f_ (bne_eq_false_iff_eq.2 h8), f_ (bne_eq_false_iff_eq.2 h8), f_ (bne_eq_false_iff_eq.2 h8), f_ (bne_eq_false_iff_eq.2 h8)] ?_
          by_cases h9 : ((btV (partC a9 a22 a23 a17 a18 a19 n20 g21) a1 a7).1) = ((btV (partC a9 a22 a23 a17 a18 a19 n20 g21) a1 a7).1)
          · obtain ⟨H1, H2⟩ := H2 h9
            refine hX.go [f_ (bne_eq_false_iff_eq.2 h9), f_ (bne_eq_false_iff_eq.2 h9), f_ (bne_eq_false_iff_eq.2 h9), f_ (bne_eq_false_iff_eq.2 h9)] ?_
            by_cases h10 : ((btV (partC a9 a22 a23 a17 a18 a19 n20 g21) a1 a7).2) = ((btV (partC a9 a22 a23 a17 a18 a19 n20 g21) a1 a7).2)
            · exact hX.h 9 [f_ (bne_eq_false_iff_eq.2 h10)] (oldM 2) (H2 h10)
            · obtain rfl := H1 h10
              exact hX.e [t_ (bne_iff_ne.2 h10)]
          · obtain rfl := H1 h9
            exact hX.e [t_ (bne_iff_ne.2 h9), t_ (bne_iff_ne.2 h9), t_ (bne_iff_ne.2 h9), t_ (bne_iff_ne.2 h9), t_ rt]
        · obtain rfl := H1 h8
          exact hX.e [t_ (bne_iff_ne.2 h8), t_ (bne_iff_ne.2 h8), t_ (bne_iff_ne.2 h8), t_ (bne_iff_ne.2 h8), t_ rt, t_ rt, t_ rt, t_ rt, t_ rt]
      · obtain rfl := H1 h7
        exact hX.e [t_ (nt h7), t_ (nt h7), t_ (nt h7), t_ (nt h7), t_ rt, t_ rt, t_ rt, t_ rt, t_ rt, t_ rt, t_ rt, t_ rt, t_ rt]
theorem demurragelaw18_AccrueTells_w1 {X : Cx} {n3 : Nat} {g4 g5 : Nat → Int} {n20 : Nat} {g21 : Nat → Int} {x1 x2 x3 : Int} {res : SV} (hX : Fi X 9 [some (.row false 29 n3 2 (fun i => [I (g4 i), I (g5 i)])), ri n20 g21] res []) (H : (x3 < ((n3 : Nat) : Int) → ((0 : Int) ≤ x3 ∧ x3 < ((n3 : Nat) : Int)) ∧ Ir x1 ∧ Ir x2 ∧ (((ofV x1 x2 (g4 x3.toNat) (g5 x3.toNat)).1) ≠ ((ofV x1 x2 (g4 x3.toNat) (g5 x3.toNat)).1) → B false = res) ∧ (((ofV x1 x2 (g4 x3.toNat) (g5 x3.toNat)).1) = ((ofV x1 x2 (g4 x3.toNat) (g5 x3.toNat)).1) → (((ofV x1 x2 (g4 x3.toNat) (g5 x3.toNat)).2) ≠ ((ofV x1 x2 (g4 x3.toNat) (g5 x3.toNat)).2) → B false = res) ∧ (((ofV x1 x2 (g4 x3.toNat) (g5 x3.toNat)).2) = ((ofV x1 x2 (g4 x3.toNat) (g5 x3.toNat)).2) → Ir (x3 + 1) ∧ Ok X (demurragelaw18_AccrueTells_h0 n3 g4 g5 n20 g21 x1 x2 (x3 + 1))))) ∧ (¬ x3 < ((n3 : Nat) : Int) → B true = res)) :
    Ok X (demurragelaw18_AccrueTells_h0 n3 g4 g5 n20 g21 x1 x2 x3) := by
  obtain ⟨H1, H2⟩ := H
  by_cases h0 : x3 < ((n3 : Nat) : Int)
  · obtain ⟨h1, h2, h3, H1, H2⟩ := H1 h0
    refine hX.go [t_ (dt h0), q_ h1, q_ (re n3), q_ h1, c_ [] (show S 35 [I x1, I x2, .agg [I (g4 x3.toNat), I (g5 x3.toNat)]] [] (.tup [I ((ofV x1 x2 (g4 x3.toNat) (g5 x3.toNat)).1), I ((ofV x1 x2 (g4 x3.toNat) (g5 x3.toNat)).2)]) [] from aOf _ _ h2 h3), q_ h1, q_ (re n3), q_ h1, c_ [] (show S 36 [I x1, I x2, .agg [I (g4 x3.toNat), I (g5 x3.toNat)]] [] (.tup [I ((ofV x1 x2 (g4 x3.toNat) (g5 x3.toNat)).1), I ((ofV x1 x2 (g4 x3.toNat) (g5 x3.toNat)).2)]) [] from a18Of _ _ h2 h3)] ?_
    by_cases h4 : ((ofV x1 x2 (g4 x3.toNat) (g5 x3.toNat)).1) = ((ofV x1 x2 (g4 x3.toNat) (g5 x3.toNat)).1)
    · obtain ⟨H1, H2⟩ := H2 h4
      refine hX.go [f_ (bne_eq_false_iff_eq.2 h4), f_ (bne_eq_false_iff_eq.2 h4), f_ (bne_eq_false_iff_eq.2 h4), f_ (bne_eq_false_iff_eq.2 h4)] ?_
      by_cases h5 : ((ofV x1 x2 (g4 x3.toNat) (g5 x3.toNat)).2) = ((ofV x1 x2 (g4 x3.toNat) (g5 x3.toNat)).2)
      · obtain ⟨h6, k⟩ := H2 h5
        exact hX.h 9 [f_ (bne_eq_false_iff_eq.2 h5), q_ h6] (oldM 2) k
      · obtain rfl := H1 h5
        exact hX.e [t_ (bne_iff_ne.2 h5)]
    · obtain rfl := H1 h4
      exact hX.e [t_ (bne_iff_ne.2 h4), t_ (bne_iff_ne.2 h4), t_ (bne_iff_ne.2 h4), t_ (bne_iff_ne.2 h4), t_ rt]
  · obtain rfl := H2 h0
    exact hX.e [f_ (df h0)]

theorem accrueTells_ok {a1 a2 a6 a7 a8 a9 a10 a11 a12 a16 a18 a19 a22 a23 : Int} {a13 a14 a15 a17 : Bool} {n3 n20 : Nat} {g4 g5 g21 : Nat → Int} (i1 : Ir a1) (i2 : Ir a2) (i7 : Ir a7) :
    S 9 [.agg [I a1, I a2, .sl 0 n3, I a6, I a7, I a8, I a9, I a10, I a11, I a12, B a13, B a14, B a15, I a16, B a17, I a18, I a19, .sl 1 n20, I a22, I a23]] [rr n3 g4 g5, ri n20 g21] (B true) [] := by
  refine SCall.of (by kernel_rfl) rfl ⟨fun i => rfl, fun i => rfl, trivial⟩ rfl (fun X hX => ?_)
  have key : n3 ≤ 20 → ∀ m i : Nat, n3 - i = m → i ≤ n3 → Ok X (demurragelaw18_AccrueTells_h0 n3 g4 g5 n20 g21 a1 a2 (i : Int)) := by
    intro h20 m
    induction m with
    | zero =>
      intro i hm hi
      exact demurragelaw18_AccrueTells_w1 hX ⟨fun c => by omega, fun _ => rfl⟩
    | succ m ih =>
      intro i hm hi
      exact demurragelaw18_AccrueTells_w1 hX ⟨fun _ => ⟨⟨by omega, by omega⟩, i1, i2, fun c => absurd rfl c, fun _ => ⟨fun c => absurd rfl c, fun _ => ⟨by simp only [Ir, InR]; omega, ih (i + 1) (by omega) (by omega)⟩⟩⟩, fun c => by omega⟩
  have hN : n3 ≤ 20 → allN a1 a2 g4 g5 n3 < 9223372036854775807 := fun h => by unfold allN; split <;> omega
  exact demurragelaw18_AccrueTells_w0 hX ⟨fun _ => rfl, fun c => ⟨fun _ => rfl, fun _ => ⟨i1, i2, by omega, i7, hN (by omega), fun z => absurd z (by rw [decide_eq_true ⟨rfl, fun _ _ => rfl⟩]; decide),
    fun _ => ⟨fun z => absurd rfl z, fun _ => ⟨fun z => absurd rfl z, fun _ => ⟨fun z => absurd rfl z, fun _ => key (by omega) n3 0 rfl (Nat.zero_le _)⟩⟩⟩⟩⟩⟩


end Go.Proofs.YtehnnaanpmceiaaGreatDoor
