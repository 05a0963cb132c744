import Derived.Test.YtehnnaanpmceiaaGreatDoorLc1
import Derived.Test.YtehnnaanpmceiaaGreatDoorPl
import Derived.Test.YtehnnaanpmceiaaGreatDoorProg
import Derived.KernelRfl
import Derived.Laws.Externs
set_option linter.unusedVariables false
set_option linter.unusedSimpArgs false
set_option linter.unusedSectionVars false
set_option maxRecDepth 100000
namespace Go.Proofs.YtehnnaanpmceiaaGreatDoor
open Go Go.Sx
variable [Env]

noncomputable def demurragelaw10_CountAdds_h0 (x1 : Int) (x2 : Int) (x3 : Int) (x4 : Int) (x5 : Int) (b6 : Bool) (x7 : Int) (x8 : Int) (n3_ : Nat) (g1031 : Nat → Int) : SC :=
  ⟨[⟨7, slo 162 [(4, I x1), (5, I x2), (6, I x3), (8, B true), (9, I x4), (10, .ptr 2 0), (11, I x5)], [.code (bodyAt Tryz.f7 [1, 1, 1, 1, 1, 1, 1, 1, 1, 1, 0, 1, 0, 0]), .inLoop (bodyAt Tryz.f7 [1, 1, 1, 1, 1, 1, 1, 1, 1, 1, 0, 1, 0, 0]), .inBlock 0, .code (bodyAt Tryz.f7 [1, 1, 1, 1, 1, 1, 1, 1, 1, 1, 1])], {}⟩], [none, none, some (.box true [B b6, I x7, I x8, .sl 3 n3_]), ro n3_ g1031]⟩
theorem demurragelaw10_CountAdds_w0 {X : Cx} {a1 a2 a3 a4 a5 : Int} {res : SV} (hX : Fi X 7 [] res []) (H : (0 : Int) ≤ a1 ∧ ((0 : Int) ≤ (a1 % 5) ∧ (a1 % 5) < ((5 : Nat) : Int)) ∧ ((isDay a2) = false → B true = res) ∧ ((isDay a2) = true → ((isDay a3) = false → B true = res) ∧ ((isDay a3) = true → ((isDay a4) = false → B true = res) ∧ ((isDay a4) = true → (a2 > a3 → B true = res) ∧ (¬ a2 > a3 → (a3 > a4 → B true = res) ∧ (¬ a3 > a4 → Ir (a4 - a2) ∧ ((a4 - a2) > 3000 → B true = res) ∧ (¬ (a4 - a2) > 3000 → Ir a5 ∧ (0 : Int) ≤ a5 ∧ Ir (1 + (a5 % 12)) ∧ Ok X (demurragelaw10_CountAdds_h0 a2 a3 a4 ([1, 3, 4, 5, 6].getD ((a1 % 5).toNat) 0) a2 false 0 (1 + (a5 % 12)) 0 (fun _ => default))))))))) :
    Ok X (entry Tryz.prog 7 [.agg [N .u8 a1, I a2, I a3, I a4, N .u8 a5]] []) := by
  obtain ⟨h0, h1, H1, H2⟩ := H
  rcases bcase (isDay a2) with h2 | h2
  · obtain ⟨H1, H2⟩ := H2 h2
    rcases bcase (isDay a3) with h3 | h3
    · obtain ⟨H1, H2⟩ := H2 h3
      rcases bcase (isDay a4) with h4 | h4
      · obtain ⟨H1, H2⟩ := H2 h4
        by_cases h5 : a2 > a3
        · obtain rfl := H1 h5
          exact Ok.f hX 88 [.call [] (B true) [], .row (fun i => [I ([1, 3, 4, 5, 6].getD i 0)]), .call [] (B (isDay a2)) [], fb, fb, .call [] (B (isDay a3)) [], fb, fb, fb, fb, .call [] (B (isDay a4)) [], fb, fb, fb, fb, fb, fb, tb, tb, tb, tb, tb, tb, tb, tb, tb, tb] [] 2 (ca (show S 19 [] [] (B true) [] from shown10) (ca (show ∀ k, k < 5 → (fun i => [I ([1, 3, 4, 5, 6].getD i 0)]) k = [[I 1], [I 3], [I 4], [I 5], [I 6]].getD k [] from by intro k hk; match k, hk with | 0, _ => rfl | 1, _ => rfl | 2, _ => rfl | 3, _ => rfl | 4, _ => rfl | k + 5, hk => omega) (ca h0 (ca (show (0 : Int) < 5 from by decide) (ca h1 (ca (re 5) (ca h1 (ca (rDay a2) (ca (nf h2) (ca (nf h2) (ca (rDay a3) (ca (nf h2) (ca (nf h2) (ca (nf h3) (ca (nf h3) (ca (rDay a4) (ca (nf h3) (ca (nf h3) (ca (nf h4) (ca (nf h4) (ca (nf h4) (ca (nf h4) (ca (dt h5) (ca (dt h5) (ca (dt h5) (ca (dt h5) (ca rt (ca rt (ca rt (ca rt (ca rt (ca rt na))))))))))))))))))))))))))))))))
        · obtain ⟨H1, H2⟩ := H2 h5
          by_cases h6 : a3 > a4
          · obtain rfl := H1 h6
            exact Ok.f hX 88 [.call [] (B true) [], .row (fun i => [I ([1, 3, 4, 5, 6].getD i 0)]), .call [] (B (isDay a2)) [], fb, fb, .call [] (B (isDay a3)) [], fb, fb, fb, fb, .call [] (B (isDay a4)) [], fb, fb, fb, fb, fb, fb, fb, fb, fb, fb, tb, tb, tb, tb, tb, tb] [] 2 (ca (show S 19 [] [] (B true) [] from shown10) (ca (show ∀ k, k < 5 → (fun i => [I ([1, 3, 4, 5, 6].getD i 0)]) k = [[I 1], [I 3], [I 4], [I 5], [I 6]].getD k [] from by intro k hk; match k, hk with | 0, _ => rfl | 1, _ => rfl | 2, _ => rfl | 3, _ => rfl | 4, _ => rfl | k + 5, hk => omega) (ca h0 (ca (show (0 : Int) < 5 from by decide) (ca h1 (ca (re 5) (ca h1 (ca (rDay a2) (ca (nf h2) (ca (nf h2) (ca (rDay a3) (ca (nf h2) (ca (nf h2) (ca (nf h3) (ca (nf h3) (ca (rDay a4) (ca (nf h3) (ca (nf h3) (ca (nf h4) (ca (nf h4) (ca (nf h4) (ca (nf h4) (ca (df h5) (ca (df h5) (ca (df h5) (ca (df h5) (ca (dt h6) (ca (dt h6) (ca (dt h6) (ca (dt h6) (ca (dt h6) (ca rt na))))))))))))))))))))))))))))))))
          · obtain ⟨h7, H1, H2⟩ := H2 h6
            by_cases h8 : (a4 - a2) > 3000
            · obtain rfl := H1 h8
              exact Ok.f hX 88 [.call [] (B true) [], .row (fun i => [I ([1, 3, 4, 5, 6].getD i 0)]), .call [] (B (isDay a2)) [], fb, fb, .call [] (B (isDay a3)) [], fb, fb, fb, fb, .call [] (B (isDay a4)) [], fb, fb, fb, fb, fb, fb, fb, fb, fb, fb, fb, fb, fb, fb, fb, tb] [] 2 (ca (show S 19 [] [] (B true) [] from shown10) (ca (show ∀ k, k < 5 → (fun i => [I ([1, 3, 4, 5, 6].getD i 0)]) k = [[I 1], [I 3], [I 4], [I 5], [I 6]].getD k [] from by intro k hk; match k, hk with | 0, _ => rfl | 1, _ => rfl | 2, _ => rfl | 3, _ => rfl | 4, _ => rfl | k + 5, hk => omega) (ca h0 (ca (show (0 : Int) < 5 from by decide) (ca h1 (ca (re 5) (ca h1 (ca (rDay a2) (ca (nf h2) (ca (nf h2) (ca (rDay a3) (ca (nf h2) (ca (nf h2) (ca (nf h3) (ca (nf h3) (ca (rDay a4) (ca (nf h3) (ca (nf h3) (ca (nf h4) (ca (nf h4) (ca (nf h4) (ca (nf h4) (ca (df h5) (ca (df h5) (ca (df h5) (ca (df h5) (ca (df h6) (ca (df h6) (ca (df h6) (ca h7 (ca (df h6) (ca (df h6) (ca (dt h8) na)))))))))))))))))))))))))))))))))
            · obtain ⟨h9, h10, h11, k⟩ := H2 h8
              exact Ok.c hX 102 [.call [] (B true) [], .row (fun i => [I ([1, 3, 4, 5, 6].getD i 0)]), .call [] (B (isDay a2)) [], fb, fb, .call [] (B (isDay a3)) [], fb, fb, fb, fb, .call [] (B (isDay a4)) [], fb, fb, fb, fb, fb, fb, fb, fb, fb, fb, fb, fb, fb, fb, fb, fb] [msk 162 [4, 5, 6, 8, 9, 10, 11]] [.old 1000, .old 1001, .old 2, .nil 1] (ca (show S 19 [] [] (B true) [] from shown10) (ca (show ∀ k, k < 5 → (fun i => [I ([1, 3, 4, 5, 6].getD i 0)]) k = [[I 1], [I 3], [I 4], [I 5], [I 6]].getD k [] from by intro k hk; match k, hk with | 0, _ => rfl | 1, _ => rfl | 2, _ => rfl | 3, _ => rfl | 4, _ => rfl | k + 5, hk => omega) (ca h0 (ca (show (0 : Int) < 5 from by decide) (ca h1 (ca (re 5) (ca h1 (ca (rDay a2) (ca (nf h2) (ca (nf h2) (ca (rDay a3) (ca (nf h2) (ca (nf h2) (ca (nf h3) (ca (nf h3) (ca (rDay a4) (ca (nf h3) (ca (nf h3) (ca (nf h4) (ca (nf h4) (ca (nf h4) (ca (nf h4) (ca (df h5) (ca (df h5) (ca (df h5) (ca (df h5) (ca (df h6) (ca (df h6) (ca (df h6) (ca h7 (ca (df h6) (ca (df h6) (ca (df h8) (ca h9 (ca h10 (ca (show (0 : Int) < 12 from by decide) (ca h11 na))))))))))))))))))))))))))))))))))))) k
      · obtain rfl := H1 h4
        exact Ok.f hX 88 [.call [] (B true) [], .row (fun i => [I ([1, 3, 4, 5, 6].getD i 0)]), .call [] (B (isDay a2)) [], fb, fb, .call [] (B (isDay a3)) [], fb, fb, fb, fb, .call [] (B (isDay a4)) [], fb, fb, tb, tb, tb, tb, tb, tb, tb, tb, tb, tb, tb, tb, tb, tb] [] 2 (ca (show S 19 [] [] (B true) [] from shown10) (ca (show ∀ k, k < 5 → (fun i => [I ([1, 3, 4, 5, 6].getD i 0)]) k = [[I 1], [I 3], [I 4], [I 5], [I 6]].getD k [] from by intro k hk; match k, hk with | 0, _ => rfl | 1, _ => rfl | 2, _ => rfl | 3, _ => rfl | 4, _ => rfl | k + 5, hk => omega) (ca h0 (ca (show (0 : Int) < 5 from by decide) (ca h1 (ca (re 5) (ca h1 (ca (rDay a2) (ca (nf h2) (ca (nf h2) (ca (rDay a3) (ca (nf h2) (ca (nf h2) (ca (nf h3) (ca (nf h3) (ca (rDay a4) (ca (nf h3) (ca (nf h3) (ca (nt h4) (ca (nt h4) (ca (nt h4) (ca (nt h4) (ca rt (ca rt (ca rt (ca rt (ca rt (ca rt (ca rt (ca rt (ca rt (ca rt na))))))))))))))))))))))))))))))))
    · obtain rfl := H1 h3
      exact Ok.f hX 88 [.call [] (B true) [], .row (fun i => [I ([1, 3, 4, 5, 6].getD i 0)]), .call [] (B (isDay a2)) [], fb, fb, .call [] (B (isDay a3)) [], fb, fb, tb, tb, tb, tb, tb, tb, tb, tb, tb, tb, tb, tb, tb, tb, tb, tb, tb, tb] [] 2 (ca (show S 19 [] [] (B true) [] from shown10) (ca (show ∀ k, k < 5 → (fun i => [I ([1, 3, 4, 5, 6].getD i 0)]) k = [[I 1], [I 3], [I 4], [I 5], [I 6]].getD k [] from by intro k hk; match k, hk with | 0, _ => rfl | 1, _ => rfl | 2, _ => rfl | 3, _ => rfl | 4, _ => rfl | k + 5, hk => omega) (ca h0 (ca (show (0 : Int) < 5 from by decide) (ca h1 (ca (re 5) (ca h1 (ca (rDay a2) (ca (nf h2) (ca (nf h2) (ca (rDay a3) (ca (nf h2) (ca (nf h2) (ca (nt h3) (ca (nt h3) (ca (nt h3) (ca (nt h3) (ca rt (ca rt (ca rt (ca rt (ca rt (ca rt (ca rt (ca rt (ca rt (ca rt (ca rt (ca rt (ca rt (ca rt na)))))))))))))))))))))))))))))))
  · obtain rfl := H1 h2
    exact Ok.f hX 88 [.call [] (B true) [], .row (fun i => [I ([1, 3, 4, 5, 6].getD i 0)]), .call [] (B (isDay a2)) [], tb, tb, tb, tb, tb, tb, tb, tb, tb, tb, tb, tb, tb, tb, tb, tb, tb, tb, tb, tb, tb, tb] [] 2 (ca (show S 19 [] [] (B true) [] from shown10) (ca (show ∀ k, k < 5 → (fun i => [I ([1, 3, 4, 5, 6].getD i 0)]) k = [[I 1], [I 3], [I 4], [I 5], [I 6]].getD k [] from by intro k hk; match k, hk with | 0, _ => rfl | 1, _ => rfl | 2, _ => rfl | 3, _ => rfl | 4, _ => rfl | k + 5, hk => omega) (ca h0 (ca (show (0 : Int) < 5 from by decide) (ca h1 (ca (re 5) (ca h1 (ca (rDay a2) (ca (nt h2) (ca (nt h2) (ca (nt h2) (ca (nt h2) (ca rt (ca rt (ca rt (ca rt (ca rt (ca rt (ca rt (ca rt (ca rt (ca rt (ca rt (ca rt (ca rt (ca rt (ca rt (ca rt (ca rt (ca rt na))))))))))))))))))))))))))))))
theorem demurragelaw10_CountAdds_w1 {X : Cx} {x1 x2 x3 x4 x5 : Int} {b6 : Bool} {x7 x8 : Int} {n3_ : Nat} {g1031 : Nat → Int} {res : SV} (hX : Fi X 7 [] res []) (H : Ir (x3 + 366) ∧ (x5 < (x3 + 366) → (x5 ≤ 3652059 → ∃ q5009 : Nat → Int, (∀ k, k < (n3_ + 1) → q5009 k = if k < n3_ then (g1031 k) else x5) ∧ (n3_ + 1) * 8 ≤ 140737488355328 ∧ Ir (x5 + 365) ∧ Ok X (demurragelaw10_CountAdds_h0 x1 x2 x3 x4 (x5 + 365) b6 x7 x8 (n3_ + 1) q5009)) ∧ (¬ x5 ≤ 3652059 → Ir (x5 + 365) ∧ Ok X (demurragelaw10_CountAdds_h0 x1 x2 x3 x4 (x5 + 365) b6 x7 x8 n3_ g1031))) ∧ (¬ x5 < (x3 + 366) → (x4 = 6 → (((partC x4 x1 x3 b6 x7 x8 n3_ g1031).2.2) = 5 → (((n3_ : Nat) : Int) < 2 → B true = res) ∧ (¬ ((n3_ : Nat) : Int) < 2 → Ir (((n3_ : Nat) : Int) - 1) ∧ ((0 : Int) ≤ (((n3_ : Nat) : Int) - 1) ∧ (((n3_ : Nat) : Int) - 1) < ((n3_ : Nat) : Int)) ∧ B (decide ((g1031 ((((n3_ : Nat) : Int) - 1).toNat)) < x3)) = res)) ∧ (((partC x4 x1 x3 b6 x7 x8 n3_ g1031).2.2) ≠ 5 → ∃ r5009 r5010 r5011 : Int, S 28 [.agg [I ((partC x4 x1 x2 b6 x7 x8 n3_ g1031).1), I ((partC x4 x1 x2 b6 x7 x8 n3_ g1031).2.1)], .agg [I ((partC x4 x2 x3 b6 x7 x8 n3_ g1031).1), I ((partC x4 x2 x3 b6 x7 x8 n3_ g1031).2.1)]] [] (.tup [.agg [I r5009, I r5010], I r5011]) [] ∧ (((partC x4 x1 x2 b6 x7 x8 n3_ g1031).2.2) = 0 → (((partC x4 x2 x3 b6 x7 x8 n3_ g1031).2.2) = 0 → (((partC x4 x1 x3 b6 x7 x8 n3_ g1031).2.2) = 0 → B ((r5009 == ((partC x4 x1 x3 b6 x7 x8 n3_ g1031).1)) && ((r5010 == ((partC x4 x1 x3 b6 x7 x8 n3_ g1031).2.1)) && true)) = res) ∧ (((partC x4 x1 x3 b6 x7 x8 n3_ g1031).2.2) ≠ 0 → B false = res)) ∧ (((partC x4 x2 x3 b6 x7 x8 n3_ g1031).2.2) ≠ 0 → B false = res)) ∧ (((partC x4 x1 x2 b6 x7 x8 n3_ g1031).2.2) ≠ 0 → B false = res))) ∧ (x4 ≠ 6 → ∃ r5009 r5010 r5011 : Int, S 28 [.agg [I ((partC x4 x1 x2 b6 x7 x8 n3_ g1031).1), I ((partC x4 x1 x2 b6 x7 x8 n3_ g1031).2.1)], .agg [I ((partC x4 x2 x3 b6 x7 x8 n3_ g1031).1), I ((partC x4 x2 x3 b6 x7 x8 n3_ g1031).2.1)]] [] (.tup [.agg [I r5009, I r5010], I r5011]) [] ∧ (((partC x4 x1 x2 b6 x7 x8 n3_ g1031).2.2) = 0 → (((partC x4 x2 x3 b6 x7 x8 n3_ g1031).2.2) = 0 → (((partC x4 x1 x3 b6 x7 x8 n3_ g1031).2.2) = 0 → B ((r5009 == ((partC x4 x1 x3 b6 x7 x8 n3_ g1031).1)) && ((r5010 == ((partC x4 x1 x3 b6 x7 x8 n3_ g1031).2.1)) && true)) = res) ∧ (((partC x4 x1 x3 b6 x7 x8 n3_ g1031).2.2) ≠ 0 → B false = res)) ∧ (((partC x4 x2 x3 b6 x7 x8 n3_ g1031).2.2) ≠ 0 → B false = res)) ∧ (((partC x4 x1 x2 b6 x7 x8 n3_ g1031).2.2) ≠ 0 → B false = res)))) :
    Ok X (demurragelaw10_CountAdds_h0 x1 x2 x3 x4 x5 b6 x7 x8 n3_ g1031) := by
  obtain ⟨h0, H1, H2⟩ := H
  by_cases h1 : x5 < (x3 + 366)
  · obtain ⟨H1, H2⟩ := H1 h1
    by_cases h2 : x5 ≤ 3652059
    · obtain ⟨q5009, h3, h4, h5, k⟩ := H1 h2
      exact Ok.c hX 34 [tb, tb, .row (fun i => [I x5]), .row (fun i => [I (q5009 i)])] [msk 162 [4, 5, 6, 8, 9, 10, 11]] [.old 1000, .old 1001, .old 2, .old 5] (ca h0 (ca (dt h1) (ca (dt h2) (ca (show ∀ k, k < 1 → (fun i => [I x5]) k = [[I x5]].getD k [] from by intro k hk; match k, hk with | 0, _ => rfl | k + 1, hk => omega) (ca (re 1) (ca (re n3_) (ca h4 (ca (show ∀ k, k < n3_ + 1 → (fun i => [I (q5009 i)]) k = if k < n3_ then (fun i => [I (g1031 i)]) k else (fun i => [I x5]) (k - n3_) from fun k hk => by
      have e0 := h3 k hk
      by_cases c : k < n3_
      · rw [if_pos c] at e0 ⊢; simp only [e0]
      · rw [if_neg c] at e0 ⊢; simp only [e0]) (ca h5 na))))))))) k
    · obtain ⟨h3, k⟩ := H2 h2
      exact Ok.c hX 26 [tb, fb] [msk 162 [4, 5, 6, 8, 9, 10, 11]] [.old 1000, .old 1001, .old 2, .old 3] (ca h0 (ca (dt h1) (ca (df h2) (ca h3 na)))) k
  · obtain ⟨H1, H2⟩ := H2 h1
    by_cases h2 : x4 = 6
    · obtain ⟨H1, H2⟩ := H1 h2
      by_cases h3 : ((partC x4 x1 x3 b6 x7 x8 n3_ g1031).2.2) = 5
      · obtain ⟨H1, H2⟩ := H1 h3
        by_cases h4 : ((n3_ : Nat) : Int) < 2
        · obtain rfl := H1 h4
          exact Ok.f hX 89 [fb, .call [3] (RT (partC x4 x1 x2 b6 x7 x8 n3_ g1031)) [], .call [3] (RT (partC x4 x2 x3 b6 x7 x8 n3_ g1031)) [], .call [3] (RT (partC x4 x1 x3 b6 x7 x8 n3_ g1031)) [], tb, tb, tb, tb, tb, tb, tb, tb, tb, tb, tb, tb, tb] [] 7 (ca h0 (ca (df h1) (ca (show S 20 [I x4, I x1, I x2, .agg [B b6, I x7, I x8, .sl 0 n3_]] [ri n3_ g1031] (RT (partC x4 x1 x2 b6 x7 x8 n3_ g1031)) [] from cPart _ _ _) (ca (show S 20 [I x4, I x2, I x3, .agg [B b6, I x7, I x8, .sl 0 n3_]] [ri n3_ g1031] (RT (partC x4 x2 x3 b6 x7 x8 n3_ g1031)) [] from cPart _ _ _) (ca (show S 20 [I x4, I x1, I x3, .agg [B b6, I x7, I x8, .sl 0 n3_]] [ri n3_ g1031] (RT (partC x4 x1 x3 b6 x7 x8 n3_ g1031)) [] from cPart _ _ _) (ca (beq_iff_eq.2 h2) (ca (beq_iff_eq.2 h2) (ca (beq_iff_eq.2 h2) (ca (beq_iff_eq.2 h3) (ca rt (ca rt (ca rt (ca rt (ca rt (ca (dt h4) (ca (dt h4) (ca (dt h4) (ca (dt h4) na))))))))))))))))))
        · obtain ⟨h5, h6, rfl⟩ := H2 h4
          exact Ok.f hX 89 [fb, .call [3] (RT (partC x4 x1 x2 b6 x7 x8 n3_ g1031)) [], .call [3] (RT (partC x4 x2 x3 b6 x7 x8 n3_ g1031)) [], .call [3] (RT (partC x4 x1 x3 b6 x7 x8 n3_ g1031)) [], tb, tb, tb, tb, tb, tb, tb, tb, tb, fb, fb, tb, tb, tb, tb, tb, tb, tb, tb, tb, tb, fb, tb, fb] [] 7 (ca h0 (ca (df h1) (ca (show S 20 [I x4, I x1, I x2, .agg [B b6, I x7, I x8, .sl 0 n3_]] [ri n3_ g1031] (RT (partC x4 x1 x2 b6 x7 x8 n3_ g1031)) [] from cPart _ _ _) (ca (show S 20 [I x4, I x2, I x3, .agg [B b6, I x7, I x8, .sl 0 n3_]] [ri n3_ g1031] (RT (partC x4 x2 x3 b6 x7 x8 n3_ g1031)) [] from cPart _ _ _) (ca (show S 20 [I x4, I x1, I x3, .agg [B b6, I x7, I x8, .sl 0 n3_]] [ri n3_ g1031] (RT (partC x4 x1 x3 b6 x7 x8 n3_ g1031)) [] from cPart _ _ _) (ca (beq_iff_eq.2 h2) (ca (beq_iff_eq.2 h2) (ca (beq_iff_eq.2 h2) (ca (beq_iff_eq.2 h3) (ca rt (ca rt (ca rt (ca rt (ca rt (ca (df h4) (ca (df h4) (ca rt (ca rt (ca rt (ca rt (ca rt (ca rt (ca h5 (ca rt (ca h6 (ca (re n3_) (ca rt (ca h6 (ca rt (ca rt (ca (df h4) (ca rt (ca (df h4) na)))))))))))))))))))))))))))))))))
      · obtain ⟨r5009, r5010, r5011, h4, H1, H2⟩ := H2 h3
        by_cases h5 : ((partC x4 x1 x2 b6 x7 x8 n3_ g1031).2.2) = 0
        · obtain ⟨H1, H2⟩ := H1 h5
          by_cases h6 : ((partC x4 x2 x3 b6 x7 x8 n3_ g1031).2.2) = 0
          · obtain ⟨H1, H2⟩ := H1 h6
            by_cases h7 : ((partC x4 x1 x3 b6 x7 x8 n3_ g1031).2.2) = 0
            · obtain rfl := H1 h7
              exact Ok.f hX 98 [fb, .call [3] (RT (partC x4 x1 x2 b6 x7 x8 n3_ g1031)) [], .call [3] (RT (partC x4 x2 x3 b6 x7 x8 n3_ g1031)) [], .call [3] (RT (partC x4 x1 x3 b6 x7 x8 n3_ g1031)) [], tb, tb, tb, fb, .call [] (.tup [.agg [I r5009, I r5010], I r5011]) [], tb, tb, tb, tb, tb, tb, tb, tb, tb, tb, tb, tb, tb] [] 8 (ca h0 (ca (df h1) (ca (show S 20 [I x4, I x1, I x2, .agg [B b6, I x7, I x8, .sl 0 n3_]] [ri n3_ g1031] (RT (partC x4 x1 x2 b6 x7 x8 n3_ g1031)) [] from cPart _ _ _) (ca (show S 20 [I x4, I x2, I x3, .agg [B b6, I x7, I x8, .sl 0 n3_]] [ri n3_ g1031] (RT (partC x4 x2 x3 b6 x7 x8 n3_ g1031)) [] from cPart _ _ _) (ca (show S 20 [I x4, I x1, I x3, .agg [B b6, I x7, I x8, .sl 0 n3_]] [ri n3_ g1031] (RT (partC x4 x1 x3 b6 x7 x8 n3_ g1031)) [] from cPart _ _ _) (ca (beq_iff_eq.2 h2) (ca (beq_iff_eq.2 h2) (ca (beq_iff_eq.2 h2) (ca (beq_eq_false_iff_ne.2 h3) (ca h4 (ca rt (ca rt (ca rt (ca (beq_iff_eq.2 h5) (ca (beq_iff_eq.2 h5) (ca (beq_iff_eq.2 h5) (ca (beq_iff_eq.2 h6) (ca (beq_iff_eq.2 h6) (ca (beq_iff_eq.2 h6) (ca (beq_iff_eq.2 h7) (ca (beq_iff_eq.2 h7) (ca (beq_iff_eq.2 h7) (ca (beq_iff_eq.2 h7) na)))))))))))))))))))))))
            · obtain rfl := H2 h7
              exact Ok.f hX 98 [fb, .call [3] (RT (partC x4 x1 x2 b6 x7 x8 n3_ g1031)) [], .call [3] (RT (partC x4 x2 x3 b6 x7 x8 n3_ g1031)) [], .call [3] (RT (partC x4 x1 x3 b6 x7 x8 n3_ g1031)) [], tb, tb, tb, fb, .call [] (.tup [.agg [I r5009, I r5010], I r5011]) [], tb, tb, tb, tb, tb, tb, tb, tb, tb, fb, fb, fb, fb] [] 8 (ca h0 (ca (df h1) (ca (show S 20 [I x4, I x1, I x2, .agg [B b6, I x7, I x8, .sl 0 n3_]] [ri n3_ g1031] (RT (partC x4 x1 x2 b6 x7 x8 n3_ g1031)) [] from cPart _ _ _) (ca (show S 20 [I x4, I x2, I x3, .agg [B b6, I x7, I x8, .sl 0 n3_]] [ri n3_ g1031] (RT (partC x4 x2 x3 b6 x7 x8 n3_ g1031)) [] from cPart _ _ _) (ca (show S 20 [I x4, I x1, I x3, .agg [B b6, I x7, I x8, .sl 0 n3_]] [ri n3_ g1031] (RT (partC x4 x1 x3 b6 x7 x8 n3_ g1031)) [] from cPart _ _ _) (ca (beq_iff_eq.2 h2) (ca (beq_iff_eq.2 h2) (ca (beq_iff_eq.2 h2) (ca (beq_eq_false_iff_ne.2 h3) (ca h4 (ca rt (ca rt (ca rt (ca (beq_iff_eq.2 h5) (ca (beq_iff_eq.2 h5) (ca (beq_iff_eq.2 h5) (ca (beq_iff_eq.2 h6) (ca (beq_iff_eq.2 h6) (ca (beq_iff_eq.2 h6) (ca (beq_eq_false_iff_ne.2 h7) (ca (beq_eq_false_iff_ne.2 h7) (ca (beq_eq_false_iff_ne.2 h7) (ca (beq_eq_false_iff_ne.2 h7) na)))))))))))))))))))))))
          · obtain rfl := H2 h6
            exact Ok.f hX 98 [fb, .call [3] (RT (partC x4 x1 x2 b6 x7 x8 n3_ g1031)) [], .call [3] (RT (partC x4 x2 x3 b6 x7 x8 n3_ g1031)) [], .call [3] (RT (partC x4 x1 x3 b6 x7 x8 n3_ g1031)) [], tb, tb, tb, fb, .call [] (.tup [.agg [I r5009, I r5010], I r5011]) [], tb, tb, tb, tb, tb, tb, fb, fb, fb, fb, fb, fb, fb] [] 8 (ca h0 (ca (df h1) (ca (show S 20 [I x4, I x1, I x2, .agg [B b6, I x7, I x8, .sl 0 n3_]] [ri n3_ g1031] (RT (partC x4 x1 x2 b6 x7 x8 n3_ g1031)) [] from cPart _ _ _) (ca (show S 20 [I x4, I x2, I x3, .agg [B b6, I x7, I x8, .sl 0 n3_]] [ri n3_ g1031] (RT (partC x4 x2 x3 b6 x7 x8 n3_ g1031)) [] from cPart _ _ _) (ca (show S 20 [I x4, I x1, I x3, .agg [B b6, I x7, I x8, .sl 0 n3_]] [ri n3_ g1031] (RT (partC x4 x1 x3 b6 x7 x8 n3_ g1031)) [] from cPart _ _ _) (ca (beq_iff_eq.2 h2) (ca (beq_iff_eq.2 h2) (ca (beq_iff_eq.2 h2) (ca (beq_eq_false_iff_ne.2 h3) (ca h4 (ca rt (ca rt (ca rt (ca (beq_iff_eq.2 h5) (ca (beq_iff_eq.2 h5) (ca (beq_iff_eq.2 h5) (ca (beq_eq_false_iff_ne.2 h6) (ca (beq_eq_false_iff_ne.2 h6) (ca (beq_eq_false_iff_ne.2 h6) (ca rf (ca rf (ca rf (ca rf na)))))))))))))))))))))))
        · obtain rfl := H2 h5
          exact Ok.f hX 98 [fb, .call [3] (RT (partC x4 x1 x2 b6 x7 x8 n3_ g1031)) [], .call [3] (RT (partC x4 x2 x3 b6 x7 x8 n3_ g1031)) [], .call [3] (RT (partC x4 x1 x3 b6 x7 x8 n3_ g1031)) [], tb, tb, tb, fb, .call [] (.tup [.agg [I r5009, I r5010], I r5011]) [], tb, tb, tb, fb, fb, fb, fb, fb, fb, fb, fb, fb, fb] [] 8 (ca h0 (ca (df h1) (ca (show S 20 [I x4, I x1, I x2, .agg [B b6, I x7, I x8, .sl 0 n3_]] [ri n3_ g1031] (RT (partC x4 x1 x2 b6 x7 x8 n3_ g1031)) [] from cPart _ _ _) (ca (show S 20 [I x4, I x2, I x3, .agg [B b6, I x7, I x8, .sl 0 n3_]] [ri n3_ g1031] (RT (partC x4 x2 x3 b6 x7 x8 n3_ g1031)) [] from cPart _ _ _) (ca (show S 20 [I x4, I x1, I x3, .agg [B b6, I x7, I x8, .sl 0 n3_]] [ri n3_ g1031] (RT (partC x4 x1 x3 b6 x7 x8 n3_ g1031)) [] from cPart _ _ _) (ca (beq_iff_eq.2 h2) (ca (beq_iff_eq.2 h2) (ca (beq_iff_eq.2 h2) (ca (beq_eq_false_iff_ne.2 h3) (ca h4 (ca rt (ca rt (ca rt (ca (beq_eq_false_iff_ne.2 h5) (ca (beq_eq_false_iff_ne.2 h5) (ca (beq_eq_false_iff_ne.2 h5) (ca rf (ca rf (ca rf (ca rf (ca rf (ca rf (ca rf na)))))))))))))))))))))))
    · obtain ⟨r5009, r5010, r5011, h3, H1, H2⟩ := H2 h2
      by_cases h4 : ((partC x4 x1 x2 b6 x7 x8 n3_ g1031).2.2) = 0
      · obtain ⟨H1, H2⟩ := H1 h4
        by_cases h5 : ((partC x4 x2 x3 b6 x7 x8 n3_ g1031).2.2) = 0
        · obtain ⟨H1, H2⟩ := H1 h5
          by_cases h6 : ((partC x4 x1 x3 b6 x7 x8 n3_ g1031).2.2) = 0
          · obtain rfl := H1 h6
            exact Ok.f hX 98 [fb, .call [3] (RT (partC x4 x1 x2 b6 x7 x8 n3_ g1031)) [], .call [3] (RT (partC x4 x2 x3 b6 x7 x8 n3_ g1031)) [], .call [3] (RT (partC x4 x1 x3 b6 x7 x8 n3_ g1031)) [], fb, fb, fb, fb, .call [] (.tup [.agg [I r5009, I r5010], I r5011]) [], tb, tb, tb, tb, tb, tb, tb, tb, tb, tb, tb, tb, tb] [] 8 (ca h0 (ca (df h1) (ca (show S 20 [I x4, I x1, I x2, .agg [B b6, I x7, I x8, .sl 0 n3_]] [ri n3_ g1031] (RT (partC x4 x1 x2 b6 x7 x8 n3_ g1031)) [] from cPart _ _ _) (ca (show S 20 [I x4, I x2, I x3, .agg [B b6, I x7, I x8, .sl 0 n3_]] [ri n3_ g1031] (RT (partC x4 x2 x3 b6 x7 x8 n3_ g1031)) [] from cPart _ _ _) (ca (show S 20 [I x4, I x1, I x3, .agg [B b6, I x7, I x8, .sl 0 n3_]] [ri n3_ g1031] (RT (partC x4 x1 x3 b6 x7 x8 n3_ g1031)) [] from cPart _ _ _) (ca (beq_eq_false_iff_ne.2 h2) (ca (beq_eq_false_iff_ne.2 h2) (ca (beq_eq_false_iff_ne.2 h2) (ca rf (ca h3 (ca rt (ca rt (ca rt (ca (beq_iff_eq.2 h4) (ca (beq_iff_eq.2 h4) (ca (beq_iff_eq.2 h4) (ca (beq_iff_eq.2 h5) (ca (beq_iff_eq.2 h5) (ca (beq_iff_eq.2 h5) (ca (beq_iff_eq.2 h6) (ca (beq_iff_eq.2 h6) (ca (beq_iff_eq.2 h6) (ca (beq_iff_eq.2 h6) na)))))))))))))))))))))))
          · obtain rfl := H2 h6
            exact Ok.f hX 98 [fb, .call [3] (RT (partC x4 x1 x2 b6 x7 x8 n3_ g1031)) [], .call [3] (RT (partC x4 x2 x3 b6 x7 x8 n3_ g1031)) [], .call [3] (RT (partC x4 x1 x3 b6 x7 x8 n3_ g1031)) [], fb, fb, fb, fb, .call [] (.tup [.agg [I r5009, I r5010], I r5011]) [], tb, tb, tb, tb, tb, tb, tb, tb, tb, fb, fb, fb, fb] [] 8 (ca h0 (ca (df h1) (ca (show S 20 [I x4, I x1, I x2, .agg [B b6, I x7, I x8, .sl 0 n3_]] [ri n3_ g1031] (RT (partC x4 x1 x2 b6 x7 x8 n3_ g1031)) [] from cPart _ _ _) (ca (show S 20 [I x4, I x2, I x3, .agg [B b6, I x7, I x8, .sl 0 n3_]] [ri n3_ g1031] (RT (partC x4 x2 x3 b6 x7 x8 n3_ g1031)) [] from cPart _ _ _) (ca (show S 20 [I x4, I x1, I x3, .agg [B b6, I x7, I x8, .sl 0 n3_]] [ri n3_ g1031] (RT (partC x4 x1 x3 b6 x7 x8 n3_ g1031)) [] from cPart _ _ _) (ca (beq_eq_false_iff_ne.2 h2) (ca (beq_eq_false_iff_ne.2 h2) (ca (beq_eq_false_iff_ne.2 h2) (ca rf (ca h3 (ca rt (ca rt (ca rt (ca (beq_iff_eq.2 h4) (ca (beq_iff_eq.2 h4) (ca (beq_iff_eq.2 h4) (ca (beq_iff_eq.2 h5) (ca (beq_iff_eq.2 h5) (ca (beq_iff_eq.2 h5) (ca (beq_eq_false_iff_ne.2 h6) (ca (beq_eq_false_iff_ne.2 h6) (ca (beq_eq_false_iff_ne.2 h6) (ca (beq_eq_false_iff_ne.2 h6) na)))))))))))))))))))))))
        · obtain rfl := H2 h5
          exact Ok.f hX 98 [fb, .call [3] (RT (partC x4 x1 x2 b6 x7 x8 n3_ g1031)) [], .call [3] (RT (partC x4 x2 x3 b6 x7 x8 n3_ g1031)) [], .call [3] (RT (partC x4 x1 x3 b6 x7 x8 n3_ g1031)) [], fb, fb, fb, fb, .call [] (.tup [.agg [I r5009, I r5010], I r5011]) [], tb, tb, tb, tb, tb, tb, fb, fb, fb, fb, fb, fb, fb] [] 8 (ca h0 (ca (df h1) (ca (show S 20 [I x4, I x1, I x2, .agg [B b6, I x7, I x8, .sl 0 n3_]] [ri n3_ g1031] (RT (partC x4 x1 x2 b6 x7 x8 n3_ g1031)) [] from cPart _ _ _) (ca (show S 20 [I x4, I x2, I x3, .agg [B b6, I x7, I x8, .sl 0 n3_]] [ri n3_ g1031] (RT (partC x4 x2 x3 b6 x7 x8 n3_ g1031)) [] from cPart _ _ _) (ca (show S 20 [I x4, I x1, I x3, .agg [B b6, I x7, I x8, .sl 0 n3_]] [ri n3_ g1031] (RT (partC x4 x1 x3 b6 x7 x8 n3_ g1031)) [] from cPart _ _ _) (ca (beq_eq_false_iff_ne.2 h2) (ca (beq_eq_false_iff_ne.2 h2) (ca (beq_eq_false_iff_ne.2 h2) (ca rf (ca h3 (ca rt (ca rt (ca rt (ca (beq_iff_eq.2 h4) (ca (beq_iff_eq.2 h4) (ca (beq_iff_eq.2 h4) (ca (beq_eq_false_iff_ne.2 h5) (ca (beq_eq_false_iff_ne.2 h5) (ca (beq_eq_false_iff_ne.2 h5) (ca rf (ca rf (ca rf (ca rf na)))))))))))))))))))))))
      · obtain rfl := H2 h4
        exact Ok.f hX 98 [fb, .call [3] (RT (partC x4 x1 x2 b6 x7 x8 n3_ g1031)) [], .call [3] (RT (partC x4 x2 x3 b6 x7 x8 n3_ g1031)) [], .call [3] (RT (partC x4 x1 x3 b6 x7 x8 n3_ g1031)) [], fb, fb, fb, fb, .call [] (.tup [.agg [I r5009, I r5010], I r5011]) [], tb, tb, tb, fb, fb, fb, fb, fb, fb, fb, fb, fb, fb] [] 8 (ca h0 (ca (df h1) (ca (show S 20 [I x4, I x1, I x2, .agg [B b6, I x7, I x8, .sl 0 n3_]] [ri n3_ g1031] (RT (partC x4 x1 x2 b6 x7 x8 n3_ g1031)) [] from cPart _ _ _) (ca (show S 20 [I x4, I x2, I x3, .agg [B b6, I x7, I x8, .sl 0 n3_]] [ri n3_ g1031] (RT (partC x4 x2 x3 b6 x7 x8 n3_ g1031)) [] from cPart _ _ _) (ca (show S 20 [I x4, I x1, I x3, .agg [B b6, I x7, I x8, .sl 0 n3_]] [ri n3_ g1031] (RT (partC x4 x1 x3 b6 x7 x8 n3_ g1031)) [] from cPart _ _ _) (ca (beq_eq_false_iff_ne.2 h2) (ca (beq_eq_false_iff_ne.2 h2) (ca (beq_eq_false_iff_ne.2 h2) (ca rf (ca h3 (ca rt (ca rt (ca rt (ca (beq_eq_false_iff_ne.2 h4) (ca (beq_eq_false_iff_ne.2 h4) (ca (beq_eq_false_iff_ne.2 h4) (ca rf (ca rf (ca rf (ca rf (ca rf (ca rf (ca rf na)))))))))))))))))))))))

theorem mons_mono (y : Int) {i j : Nat} (h : i ≤ j) : mons y i ≤ mons y j := by
  induction j with
  | zero => have : i = 0 := by omega
            subst this; exact Int.le_refl _
  | succ j ih =>
    by_cases h1 : i = j + 1
    · subst h1; exact Int.le_refl _
    · have := ih (by omega)
      have := (len_le y ((j + 1 : Nat) : Int)).2
      show mons y i ≤ mons y j + len y ((j + 1 : Nat) : Int)
      omega

/-- Days' stand-ins by 30E/360 rise with days. -/
def eN (n : Int) : Int := 360 * cY n + 30 * cM n + mnI (cD n) 30
theorem eN_mono {a b : Int} (ha : isDay a = true) (hb : isDay b = true) (h : a ≤ b) : eN a ≤ eN b := by
  have hy := yr_mono ha hb h
  obtain ⟨-, a1, a2, a3, a4, a5, a6, a7, a8⟩ := civ_ok ha
  obtain ⟨-, b1, b2, b3, b4, b5, b6, b7, b8⟩ := civ_ok hb
  unfold eN mnI
  by_cases h1 : cY a = cY b
  · by_cases h2 : cM a = cM b
    · rw [h1, h2] at a8
      split <;> split <;> omega
    · by_cases h3 : cM a < cM b
      · split <;> split <;> omega
      · exfalso
        have e : (cM b - 1).toNat + 1 ≤ (cM a - 1).toNat := by omega
        have := mons_mono (cY b) e
        have e2 : mons (cY b) ((cM b - 1).toNat + 1) = mons (cY b) (cM b - 1).toNat + len (cY b) (((cM b - 1).toNat + 1 : Nat) : Int) := rfl
        rw [show ((((cM b - 1).toNat + 1 : Nat)) : Int) = cM b by omega] at e2
        rw [h1] at a8
        omega
  · split <;> split <;> omega

/-- By four ways parts are of one denominator, and add up. -/
theorem lin_ok {k a b c : Int} (hk : k = 1 ∨ k = 3 ∨ k = 4 ∨ k = 5) (ha : isDay a = true) (hb : isDay b = true) (hc : isDay c = true) (h1 : a ≤ b) (h2 : b ≤ c) (eom : Bool) (e f : Int) (n : Nat) (g : Nat → Int) :
    ∃ M x y : Nat, M ≠ 0 ∧ M ≤ 1000000 ∧ x + y ≤ 100000000000 ∧ partC k a b eom e f n g = ((mkRat (x : Int) M).num, ((mkRat (x : Int) M).den : Int), 0) ∧ partC k b c eom e f n g = ((mkRat (y : Int) M).num, ((mkRat (y : Int) M).den : Int), 0) ∧
      partC k a c eom e f n g = ((mkRat ((x + y : Nat) : Int) M).num, ((mkRat ((x + y : Nat) : Int) M).den : Int), 0) := by
  have wab : whyR a b = 0 := why_0.2 ⟨ha, hb, by omega⟩
  have wbc : whyR b c = 0 := why_0.2 ⟨hb, hc, by omega⟩
  have wac : whyR a c = 0 := why_0.2 ⟨ha, hc, by omega⟩
  have da := isDay_iff.1 ha
  have db := isDay_iff.1 hb
  have dc := isDay_iff.1 hc
  have q : ∀ (u : Int) (d : Nat), 0 ≤ u → u ≤ 100000000000 → d ≠ 0 → d ≤ 1000000 → mkI u (d : Int) = ((mkRat ((u.toNat : Nat) : Int) d).num, ((mkRat ((u.toNat : Nat) : Int) d).den : Int), 0) := fun u d q1 q2 q3 q4 => by
    have := mkI_q (n := u) (d := (d : Int)) (by omega) (by omega)
    rw [Int.toNat_natCast] at this
    rw [this, show ((u.toNat : Nat) : Int) = u by omega]
  rcases hk with rfl | rfl | rfl | rfl
  · have m1 := eN_mono ha hb h1
    have m2 := eN_mono hb hc h2
    have hB : ∀ n, isDay n = true → 0 ≤ eN n ∧ eN n ≤ 4000000 := fun n hn => by
      have := civ_ok hn
      unfold eN mnI; split <;> omega
    have b1 := hB a ha
    have b2 := hB c hc
    have key : ∀ u v, whyR u v = 0 → isDay u = true → isDay v = true → eN u ≤ eN v → partC 1 u v eom e f n g = mkI (eN v - eN u) ((360 : Nat) : Int) := fun u v w hu hv hm => by
      have c1 := civ_ok hu
      have c2 := civ_ok hv
      show r7E u v = _
      unfold r7E r7 p7 n7
      rw [if_pos w]
      have e1 : (if cD u = 31 then (30 : Int) else cD u) = mnI (cD u) 30 := by unfold mnI; split <;> split <;> omega
      have e2 : (if cD v = 31 then (30 : Int) else cD v) = mnI (cD v) 30 := by unfold mnI; split <;> split <;> omega
      simp only [e1, e2]
      rw [show 360 * (cY v - cY u) + 30 * (cM v - cM u) + (mnI (cD v) 30 - mnI (cD u) 30) = eN v - eN u by unfold eN; omega, if_neg (by omega)]
      rfl
    refine ⟨360, (eN b - eN a).toNat, (eN c - eN b).toNat, by decide, by decide, by omega, ?_, ?_, ?_⟩
    · rw [key a b wab ha hb m1]; exact q _ _ (by omega) (by omega) (by decide) (by decide)
    · rw [key b c wbc hb hc m2]; exact q _ _ (by omega) (by omega) (by decide) (by decide)
    · rw [key a c wac ha hc (by omega), q _ _ (by omega) (by omega) (by decide) (by decide), show (eN c - eN a).toNat = (eN b - eN a).toNat + (eN c - eN b).toNat by omega]
  · have key : ∀ u v, whyR u v = 0 → partC 3 u v eom e f n g = mkI (v - u) ((360 : Nat) : Int) := fun u v w => by
      show r8 u v 360 = _
      unfold r8; rw [if_pos w]; rfl
    refine ⟨360, (b - a).toNat, (c - b).toNat, by decide, by decide, by omega, ?_, ?_, ?_⟩
    · rw [key a b wab]; exact q _ _ (by omega) (by omega) (by decide) (by decide)
    · rw [key b c wbc]; exact q _ _ (by omega) (by omega) (by decide) (by decide)
    · rw [key a c wac, q _ _ (by omega) (by omega) (by decide) (by decide), show (c - a).toNat = (b - a).toNat + (c - b).toNat by omega]
  · have key : ∀ u v, whyR u v = 0 → partC 4 u v eom e f n g = mkI (v - u) ((365 : Nat) : Int) := fun u v w => by
      show r8 u v 365 = _
      unfold r8; rw [if_pos w]; rfl
    refine ⟨365, (b - a).toNat, (c - b).toNat, by decide, by decide, by omega, ?_, ?_, ?_⟩
    · rw [key a b wab]; exact q _ _ (by omega) (by omega) (by decide) (by decide)
    · rw [key b c wbc]; exact q _ _ (by omega) (by omega) (by decide) (by decide)
    · rw [key a c wac, q _ _ (by omega) (by omega) (by decide) (by decide), show (c - a).toNat = (b - a).toNat + (c - b).toNat by omega]
  · have s1 := lD_span wab
    have s2 := lD_span wbc
    have s3 := lD_span wac
    have key : ∀ u v, whyR u v = 0 → partC 5 u v eom e f n g = ((q8 (v - u - (lD v - lD u)) (lD v - lD u)).num, ((q8 (v - u - (lD v - lD u)) (lD v - lD u)).den : Int), 0) := fun u v w => by
      show r8Y u v = _
      unfold r8Y; rw [if_pos w]
    refine ⟨365 * 366, (b - a - (lD b - lD a)).toNat * 366 + (lD b - lD a).toNat * 365, (c - b - (lD c - lD b)).toNat * 366 + (lD c - lD b).toNat * 365, by decide, by decide, by omega, ?_, ?_, ?_⟩
    · rw [key a b wab]; rfl
    · rw [key b c wbc]; rfl
    · rw [key a c wac]
      unfold q8
      rw [show (c - a - (lD c - lD a)).toNat * 366 + (lD c - lD a).toNat * 365 = (b - a - (lD b - lD a)).toNat * 366 + (lD b - lD a).toNat * 365 + ((c - b - (lD c - lD b)).toNat * 366 + (lD c - lD b).toNat * 365) by omega]

theorem cadds_loop {X : Cx} {a b c k f : Int} (hk : k = 1 ∨ k = 3 ∨ k = 4 ∨ k = 5 ∨ k = 6) (ha : isDay a = true) (hb : isDay b = true) (hc : isDay c = true) (h1 : a ≤ b) (h2 : b ≤ c) (h3 : c - a ≤ 3000) (hf : 1 ≤ f ∧ f ≤ 12)
    (hX : Fi X 7 [] (B true) []) :
    ∀ (m j N : Nat) (g : Nat → Int), (c + 366 - (a + 365 * (j : Int))).toNat ≤ m → N ≤ j → (N = j ∨ a + 365 * (N : Int) > 3652059) → (∀ i, i < N → g i = a + 365 * (i : Int) ∧ g i ≤ 3652059) → a + 365 * (j : Int) ≤ c + 366 + 365 → Ok X (demurragelaw10_CountAdds_h0 a b c k (a + 365 * (j : Int)) false 0 f N g) := by
  have da := isDay_iff.1 ha
  have db := isDay_iff.1 hb
  have dc := isDay_iff.1 hc
  have fin : ∀ (j N : Nat) (g : Nat → Int), ¬ a + 365 * (j : Int) < c + 366 → N ≤ j → (∀ i, i < N → g i = a + 365 * (i : Int) ∧ g i ≤ 3652059) → a + 365 * (j : Int) ≤ c + 366 + 365 → Ok X (demurragelaw10_CountAdds_h0 a b c k (a + 365 * (j : Int)) false 0 f N g) := fun j N g hj hN hg hjc => by
    refine demurragelaw10_CountAdds_w1 hX ⟨by simp only [Ir, InR]; omega, fun q => absurd q hj, fun _ => ⟨fun hk6 => ?_, fun hk6 => ?_⟩⟩
    · subst hk6
      have hmay : 2 ≤ N → mayB N g f = true := fun hN2 => by
        refine decide_eq_true ⟨hN2, by omega, by omega, by omega, fun i hi => ?_, fun i hi => ?_, ?_⟩
        · have := hg i hi; exact isDay_iff.2 (by omega)
        · have := hg i (by omega); have := hg (i + 1) (by omega); omega
        · have := hg 0 (by omega); have := hg (N - 1) (by omega); omega
      have hpart : ∀ u v, isDay u = true → isDay v = true → u ≤ v → partC 6 u v false 0 f N g = partR u v N g f := fun u v _ _ _ => rfl
      by_cases hN2 : N < 2
      · have hm : mayB N g f = false := decide_eq_false fun q => by omega
        have hac : partR a c N g f = (0, 0, 5) := by
          unfold partR; rw [if_neg (by simp [ha, hc]), if_neg (by omega), if_pos (.inl hm)]
        rw [show partC 6 a c false 0 f N g = (0, 0, 5) from hac]
        exact ⟨fun _ => ⟨fun _ => rfl, fun q => by omega⟩, fun q => absurd rfl q⟩
      · have hm := hmay (by omega)
        have hg0 := (hg 0 (by omega)).1
        by_cases hlast : c > g (N - 1)
        · have hac : partR a c N g f = (0, 0, 5) := by
            unfold partR; rw [if_neg (by simp [ha, hc]), if_neg (by omega), if_pos (.inr (.inr hlast))]
          rw [show partC 6 a c false 0 f N g = (0, 0, 5) from hac]
          refine ⟨fun _ => ⟨fun q => by omega, fun _ => ⟨by simp only [Ir, InR]; omega, by omega, ?_⟩⟩, fun q => absurd rfl q⟩
          rw [show (((N : Nat) : Int) - 1).toNat = N - 1 by omega, decide_eq_true (by omega)]
        · obtain ⟨m1, m2, m3, m4, m5, m6, m7⟩ := may_facts hm
          have hq : ∀ u v, isDay u = true → isDay v = true → a ≤ u → u ≤ v → v ≤ c → partC 6 u v false 0 f N g = ((psum u v f.toNat g (N - 1)).num, ((psum u v f.toNat g (N - 1)).den : Int), 0) := fun u v hu hv q1 q2 q3 => by
            show partR u v N g f = _
            unfold partR; rw [if_neg (by simp [hu, hv]), if_neg (by omega), if_neg (by rw [hm]; simp; omega)]
          rw [hq a c ha hc (by omega) (by omega) (by omega), hq a b ha hb (by omega) (by omega) (by omega), hq b c hb hc (by omega) (by omega) (by omega)]
          refine ⟨fun q => absurd (show (0 : Int) = 5 from q) (by decide), fun _ => ?_⟩
          have hf1 : 1 ≤ f.toNat := by omega
          have hf2 : f.toNat ≤ 12 := by omega
          have s1 := psum_small hf1 hf2 m2 m6 m5 a b (Nat.le_refl (N - 1))
          have s2 := psum_small hf1 hf2 m2 m6 m5 b c (Nat.le_refl (N - 1))
          have s3 := psum_small hf1 hf2 m2 m6 m5 a c (Nat.le_refl (N - 1))
          have hadd := psum_add (f := f.toNat) (g := g) hf1 (a := a) (b := b) (c := c) (by omega) (by omega) (N - 1)
          have hx := ref_AddR (x := psum a b f.toNat g (N - 1)) (y := psum b c f.toNat g (N - 1)) (by omega) (by omega) (by omega) (by omega) (by omega) (by omega) (by rw [hadd]; omega) (by rw [hadd]; omega)
          rw [hadd] at hx
          exact ⟨_, _, _, hx, fun _ => ⟨fun _ => ⟨fun _ => by simp, fun q => absurd rfl q⟩, fun q => absurd rfl q⟩, fun q => absurd rfl q⟩
    · have hk' : k = 1 ∨ k = 3 ∨ k = 4 ∨ k = 5 := by rcases hk with h | h | h | h | h <;> simp [h] <;> exact absurd h hk6
      obtain ⟨M, x, y, hM, hM2, hxy, e1, e2, e3⟩ := lin_ok hk' ha hb hc h1 h2 false 0 f N g
      rw [e1, e2, e3]
      have hx := ref_AddQ (C := x) (c := y) (M := M) hM (by omega) (by omega)
      exact ⟨_, _, _, hx, fun _ => ⟨fun _ => ⟨fun _ => by simp, fun q => absurd rfl q⟩, fun q => absurd rfl q⟩, fun q => absurd rfl q⟩
  intro m
  induction m with
  | zero => intro j N g hm hN _ hg hjc; exact fin j N g (by omega) hN hg hjc
  | succ m ih =>
    intro j N g hm hN hor hg hjc
    by_cases hlt : a + 365 * (j : Int) < c + 366
    · refine demurragelaw10_CountAdds_w1 hX ⟨by simp only [Ir, InR]; omega, fun _ => ⟨fun hd => ?_, fun hd => ?_⟩, fun q => absurd hlt q⟩
      · have hNj : N = j := by omega
        subst hNj
        refine ⟨fun i => if i < N then g i else a + 365 * (N : Int), fun i _ => rfl, by omega, by simp only [Ir, InR]; omega, ?_⟩
        have := ih (N + 1) (N + 1) (fun i => if i < N then g i else a + 365 * (N : Int)) (by omega) (by omega) (.inl rfl) (fun i hi => ?_) (by omega)
        · rwa [show a + 365 * (((N + 1 : Nat)) : Int) = a + 365 * (N : Int) + 365 by omega] at this
        · by_cases hi2 : i < N
          · simp only [hi2, if_true]; exact hg i hi2
          · have : i = N := by omega
            subst this
            simp only [hi2, if_false]; exact ⟨trivial, by omega⟩
      · refine ⟨by simp only [Ir, InR]; omega, ?_⟩
        have := ih (j + 1) N g (by omega) (by omega) (.inr (by omega)) hg (by omega)
        rwa [show a + 365 * (((j + 1 : Nat)) : Int) = a + 365 * (j : Int) + 365 by omega] at this
    · exact fin j N g hlt hN hg hjc

theorem countAdds_ok {k a b c f : Int} (hk : InR .u8 k) (hf : InR .u8 f) : S 7 [.agg [N .u8 k, I a, I b, I c, N .u8 f]] [] (B true) [] := by
  simp only [InR] at hk hf
  refine SCall.of (by kernel_rfl) rfl trivial rfl (fun X hX => ?_)
  refine demurragelaw10_CountAdds_w0 hX ⟨by omega, by omega, fun _ => rfl, fun ha => ⟨fun _ => rfl, fun hb => ⟨fun _ => rfl, fun hc => ⟨fun _ => rfl, fun h1 => ⟨fun _ => rfl, fun h2 => ?_⟩⟩⟩⟩⟩
  have da := isDay_iff.1 ha
  have dc := isDay_iff.1 hc
  refine ⟨by simp only [Ir, InR]; omega, fun _ => rfl, fun h3 => ⟨by simp only [Ir, InR]; omega, by omega, by simp only [Ir, InR]; omega, ?_⟩⟩
  have hk5 : [(1 : Int), 3, 4, 5, 6].getD ((k % 5).toNat) 0 = 1 ∨ [(1 : Int), 3, 4, 5, 6].getD ((k % 5).toNat) 0 = 3 ∨ [(1 : Int), 3, 4, 5, 6].getD ((k % 5).toNat) 0 = 4 ∨ [(1 : Int), 3, 4, 5, 6].getD ((k % 5).toNat) 0 = 5 ∨ [(1 : Int), 3, 4, 5, 6].getD ((k % 5).toNat) 0 = 6 := by
    have : (k % 5).toNat = 0 ∨ (k % 5).toNat = 1 ∨ (k % 5).toNat = 2 ∨ (k % 5).toNat = 3 ∨ (k % 5).toNat = 4 := by omega
    rcases this with h | h | h | h | h <;> rw [h] <;> simp
  have := cadds_loop hk5 ha hb hc (by omega) (by omega) (by omega) (f := 1 + f % 12) (by omega) hX (c + 366 - a).toNat 0 0 (fun _ => default) (by omega) (by omega) (.inl rfl) (fun i hi => by omega) (by omega)
  rwa [show a + 365 * ((0 : Nat) : Int) = a by omega] at this


end Go.Proofs.YtehnnaanpmceiaaGreatDoor
