/-
  Chapter 16's laws: what they lean on.
-/
import Derived.Test.YthfmjoeampekgaaGreatDoorRo
import Derived.Test.YthfmjoeampekgaaGreatDoorRr
import Derived.Test.YthfmjoeampekgaaGreatDoorProg
import Derived.KernelRfl
set_option linter.unusedVariables false
set_option linter.unusedSimpArgs false
set_option linter.unusedSectionVars false
set_option maxRecDepth 100000
namespace Go.Proofs.YthfmjoeampekgaaGreatDoor
open Go Go.Sx
variable [EnvT]

/-- Has a loan so many months at most? -/
def shB (s e k : Int) : Bool := decide (e - s ≤ 31 * k ∧ s ≤ e)
theorem rShort (a1 a2 a3 a4 a5 a6 a7 : Int) (a8 a9 a10 : Bool) (a11 k : Int) (h0 : Ir (a6 - a5)) (h1 : Ir (31 * k)) :
    S 11 [.agg [I a1, I a2, I a3, I a4, I a5, I a6, I a7, B a8, B a9, B a10, I a11], I k] [] (B (shB a5 a6 k)) [] := by
  refine SCall.st fun X hX => ?_
  refine hX.go [q_ h0, q_ h1] ?_
  by_cases h2 : (a6 - a5) ≤ (31 * k)
  · exact (hX.to (show _ = B (decide (a5 ≤ a6)) by unfold shB; by_cases h3 : a5 ≤ a6 <;> simp [h2, h3])).e [n_ 6 (t_ (dt h2))]
  · exact (hX.to (show _ = B false by unfold shB; simp [h2])).e [n_ 6 (f_ (df h2))]
theorem lDay (a1 a2 a3 : Int) : S 21 [I a1, I a2, I a3] [] (I (nbV a1 a2 a3)) [] :=
  SCall.st fun X hX => hX.e [c_ [] (rNumberT a1 a2 a3)]

/-- The document's days. -/
def wantL : List Int := [nbV 2024 1 15, nbV 2024 2 20, nbV 2024 5 20, nbV 2024 8 20, nbV 2024 11 20, nbV 2025 2 20]
def wantG : List Int := [nbV 2023 11 20, nbV 2024 2 20, nbV 2024 5 20, nbV 2024 8 20, nbV 2024 11 20, nbV 2025 2 20]

theorem rowT {n m : Nat} {f g : Nat → Int} (h : n = m ∧ ∀ i, i < n → f i = g i) (hn : n ≤ 100000 := by decide) : S 16 [.sl 0 n, .sl 1 m] [ri n f, ri m g] (B true) [] := by
  have := rRow (n := n) (m := m) (f := f) (g := g) (by omega)
  rw [decide_eq_true h] at this
  exact this

theorem sOf1 : S 14 [.agg [I 1, I 0, I 0, I 0, I (nbV 2024 1 15), I (nbV 2025 2 20), I 3, B true, B false, B false, I 0]] [] (.tup [.sl 0 6, I 0]) [ro 6 (fun i => wantL.getD i 0)] := by
  have h := dOf 1 0 0 0 (nbV 2024 1 15) (nbV 2025 2 20) 3 true false false 0 (fun _ => of_decide_eq_true (by kernel_rfl))
  rw [show dN 1 0 0 0 (nbV 2024 1 15) (nbV 2025 2 20) 3 true false false 0 = 6 by kernel_rfl, show chk 1 0 0 0 (nbV 2024 1 15) (nbV 2025 2 20) 3 0 = 0 by kernel_rfl] at h
  refine SCall.same h trivial ⟨⟨rfl, rfl, rfl, rfl, fun i hi => ?_⟩, trivial⟩
  match i, hi with | 0, _ => (show _ = _; kernel_rfl) | 1, _ => (show _ = _; kernel_rfl) | 2, _ => (show _ = _; kernel_rfl) | 3, _ => (show _ = _; kernel_rfl) | 4, _ => (show _ = _; kernel_rfl) | 5, _ => (show _ = _; kernel_rfl) | i + 6, hi => omega
theorem sOf2 : S 14 [.agg [I 1, I 0, I 0, I 0, I (nbV 2024 1 15), I (nbV 2025 2 20), I 3, B true, B true, B false, I 0]] [] (.tup [.sl 0 5, I 0]) [ro 5 (fun i => (wantL.eraseIdx 1).getD i 0)] := by
  have h := dOf 1 0 0 0 (nbV 2024 1 15) (nbV 2025 2 20) 3 true true false 0 (fun _ => of_decide_eq_true (by kernel_rfl))
  rw [show dN 1 0 0 0 (nbV 2024 1 15) (nbV 2025 2 20) 3 true true false 0 = 5 by kernel_rfl, show chk 1 0 0 0 (nbV 2024 1 15) (nbV 2025 2 20) 3 0 = 0 by kernel_rfl] at h
  refine SCall.same h trivial ⟨⟨rfl, rfl, rfl, rfl, fun i hi => ?_⟩, trivial⟩
  match i, hi with | 0, _ => (show _ = _; kernel_rfl) | 1, _ => (show _ = _; kernel_rfl) | 2, _ => (show _ = _; kernel_rfl) | 3, _ => (show _ = _; kernel_rfl) | 4, _ => (show _ = _; kernel_rfl) | i + 5, hi => omega
theorem sOf5 : S 14 [.agg [I 1, I 0, I 0, I 0, I (nbV 2024 1 15), I (nbV 2025 2 20), I 5, B true, B true, B false, I 0]] [] (.tup [.sl 0 0, I 1]) [ro 0 (fun i => 0)] := by
  have h := dOf 1 0 0 0 (nbV 2024 1 15) (nbV 2025 2 20) 5 true true false 0 (fun _ => of_decide_eq_true (by kernel_rfl))
  rw [show dN 1 0 0 0 (nbV 2024 1 15) (nbV 2025 2 20) 5 true true false 0 = 0 by kernel_rfl, show chk 1 0 0 0 (nbV 2024 1 15) (nbV 2025 2 20) 5 0 = 1 by kernel_rfl] at h
  exact SCall.same h trivial ⟨⟨rfl, rfl, rfl, rfl, fun i hi => absurd hi (Nat.not_lt_zero _)⟩, trivial⟩
theorem sGr1 : S 12 [.agg [I 1, I 0, I 0, I 0, I (nbV 2024 1 15), I (nbV 2025 2 20), I 3, B true, B true, B false, I 0]] [] (.tup [.sl 0 6, I 0]) [ro 6 (fun i => wantG.getD i 0)] := by
  have h := dGrid 1 0 0 0 (nbV 2024 1 15) (nbV 2025 2 20) 3 true true false 0 (fun _ => of_decide_eq_true (by kernel_rfl))
  rw [show gcN 1 0 0 0 (nbV 2024 1 15) (nbV 2025 2 20) 3 true false 0 = 6 by kernel_rfl, show chk 1 0 0 0 (nbV 2024 1 15) (nbV 2025 2 20) 3 0 = 0 by kernel_rfl] at h
  refine SCall.same h trivial ⟨⟨rfl, rfl, rfl, rfl, fun i hi => ?_⟩, trivial⟩
  match i, hi with | 0, _ => (show _ = _; kernel_rfl) | 1, _ => (show _ = _; kernel_rfl) | 2, _ => (show _ = _; kernel_rfl) | 3, _ => (show _ = _; kernel_rfl) | 4, _ => (show _ = _; kernel_rfl) | 5, _ => (show _ = _; kernel_rfl) | i + 6, hi => omega

theorem shown16 :
    S 9 [] [] (B true) [] := by
  refine SCall.st fun X hX => ?_
  refine hX.go [c_ [] (lDay 2024 1 15), c_ [] (lDay 2025 2 20), c_ [] sOf1, c_ [] sOf2, c_ [] sGr1, c_ [] sOf5, c_ [] (lDay 2024 1 15), c_ [] (lDay 2024 2 20), c_ [] (lDay 2024 5 20), c_ [] (lDay 2024 8 20), c_ [] (lDay 2024 11 20), c_ [] (lDay 2025 2 20), q_ (show ∀ k, k < 6 → (fun i => [I ([(nbV 2024 1 15), (nbV 2024 2 20), (nbV 2024 5 20), (nbV 2024 8 20), (nbV 2024 11 20), (nbV 2025 2 20)].getD i 0)]) k = [[I (nbV 2024 1 15)], [I (nbV 2024 2 20)], [I (nbV 2024 5 20)], [I (nbV 2024 8 20)], [I (nbV 2024 11 20)], [I (nbV 2025 2 20)]].getD k [] from by intro k hk; match k, hk with | 0, _ => rfl | 1, _ => rfl | 2, _ => rfl | 3, _ => rfl | 4, _ => rfl | 5, _ => rfl | k + 6, hk => omega), h_ [.row (fun i => [I ([(nbV 2024 1 15), (nbV 2024 2 20), (nbV 2024 5 20), (nbV 2024 8 20), (nbV 2024 11 20), (nbV 2025 2 20)].getD i 0)])], f_ rf] ?_
  refine hX.rd [1, 2, 3, 4, 5] ?_
  have h0 : 6 = 6 ∧ ∀ i, i < 6 → (fun i => (wantL.getD i 0)) i = (fun i => ([(nbV 2024 1 15), (nbV 2024 2 20), (nbV 2024 5 20), (nbV 2024 8 20), (nbV 2024 11 20), (nbV 2025 2 20)].getD i 0)) i := ⟨rfl, fun i hi => by match i, hi with | 0, _ => (show _ = _; kernel_rfl) | 1, _ => (show _ = _; kernel_rfl) | 2, _ => (show _ = _; kernel_rfl) | 3, _ => (show _ = _; kernel_rfl) | 4, _ => (show _ = _; kernel_rfl) | 5, _ => (show _ = _; kernel_rfl) | i + 6, hi => omega⟩
  obtain ⟨q1, h1⟩ : ∃ q1 : Nat → Int, ∀ k, k < (1 + (6 - 2)) → q1 k = if k < 1 then ([(nbV 2024 1 15), (nbV 2024 2 20), (nbV 2024 5 20), (nbV 2024 8 20), (nbV 2024 11 20), (nbV 2025 2 20)].getD 0 0) else ([(nbV 2024 1 15), (nbV 2024 2 20), (nbV 2024 5 20), (nbV 2024 8 20), (nbV 2024 11 20), (nbV 2025 2 20)].getD ((k - 1) + 2) 0) := ⟨_, fun k _ => rfl⟩
  have h2 : (1 + (6 - 2)) * 8 ≤ 140737488355328 := by omega
  have h3 : 5 = (1 + (6 - 2)) ∧ ∀ i, i < 5 → (fun i => ((wantL.eraseIdx 1).getD i 0)) i = (fun i => (q1 i)) i := ⟨rfl, fun i hi => by show _ = q1 i; rw [h1 i (by omega)]; match i, hi with | 0, _ => (show _ = _; kernel_rfl) | 1, _ => (show _ = _; kernel_rfl) | 2, _ => (show _ = _; kernel_rfl) | 3, _ => (show _ = _; kernel_rfl) | 4, _ => (show _ = _; kernel_rfl) | i + 5, hi => omega⟩
  have h5 : (6 - 1) = (6 - 1) ∧ ∀ i, i < (6 - 1) → (fun i => (wantG.getD (i + 1) 0)) i = (fun i => ([(nbV 2024 1 15), (nbV 2024 2 20), (nbV 2024 5 20), (nbV 2024 8 20), (nbV 2024 11 20), (nbV 2025 2 20)].getD (i + 1) 0)) i := ⟨rfl, fun i hi => by match i, hi with | 0, _ => (show _ = _; kernel_rfl) | 1, _ => (show _ = _; kernel_rfl) | 2, _ => (show _ = _; kernel_rfl) | 3, _ => (show _ = _; kernel_rfl) | 4, _ => (show _ = _; kernel_rfl) | 5, _ => (show _ = _; kernel_rfl) | i + 6, hi => omega⟩
  exact hX.e [d_ 34, c_ [1, 5] (show S 16 [.sl 0 6, .sl 1 6] [some (.row false 3 6 1 (fun i => [I (wantL.getD i 0)])), some (.row false 3 6 1 (fun i => [I ([(nbV 2024 1 15), (nbV 2024 2 20), (nbV 2024 5 20), (nbV 2024 8 20), (nbV 2024 11 20), (nbV 2025 2 20)].getD i 0)]))] (B true) [] from rowT h0), n_ 6 (t_ rt), q_ (show (0 : Int) ≤ 0 ∧ 0 < ((6 : Nat) : Int) from by decide), q_ (re 6), t_ rt, q_ (show (0 : Int) ≤ 0 ∧ 0 < ((6 : Nat) : Int) from by decide), t_ rt, q_ (show ∀ k, k < 1 → (fun i => [I ([(nbV 2024 1 15), (nbV 2024 2 20), (nbV 2024 5 20), (nbV 2024 8 20), (nbV 2024 11 20), (nbV 2025 2 20)].getD 0 0)]) k = [[I ([(nbV 2024 1 15), (nbV 2024 2 20), (nbV 2024 5 20), (nbV 2024 8 20), (nbV 2024 11 20), (nbV 2025 2 20)].getD 0 0)]].getD k [] from by intro k hk; match k, hk with | 0, _ => rfl | k + 1, hk => omega), h_ [.row (fun i => [I ([(nbV 2024 1 15), (nbV 2024 2 20), (nbV 2024 5 20), (nbV 2024 8 20), (nbV 2024 11 20), (nbV 2025 2 20)].getD 0 0)])], t_ rt, t_ rt, q_ (re 6), q_ (show (0 : Int) ≤ ((6 : Nat) : Int) ∧ ((6 : Nat) : Int) ≤ ((6 : Nat) : Int) from by first | decide | omega | (constructor <;> omega)), q_ (show (0 : Int) ≤ 2 ∧ (2 : Int) ≤ ((6 : Nat) : Int) from by first | decide | omega | (constructor <;> omega)), t_ rt, q_ (show (6 - 2) = (6 - 2) from rfl), q_ (re 1), q_ h2, q_ (show ∀ k, k < 1 + (6 - 2) → (fun i => [I (q1 i)]) k = if k < 1 then (fun i => [I ([(nbV 2024 1 15), (nbV 2024 2 20), (nbV 2024 5 20), (nbV 2024 8 20), (nbV 2024 11 20), (nbV 2025 2 20)].getD 0 0)]) k else (fun i => [I ([(nbV 2024 1 15), (nbV 2024 2 20), (nbV 2024 5 20), (nbV 2024 8 20), (nbV 2024 11 20), (nbV 2025 2 20)].getD (i + 2) 0)]) (k - 1) from fun k hk => by
      have e0 := h1 k hk
      by_cases c : k < 1
      · rw [if_pos c] at e0 ⊢; simp only [e0]
      · rw [if_neg c] at e0 ⊢; simp only [e0]), h_ [.row (fun i => [I (q1 i)])], t_ rt, c_ [2, 8] (show S 16 [.sl 0 5, .sl 1 (1 + (6 - 2))] [some (.row false 3 5 1 (fun i => [I ((wantL.eraseIdx 1).getD i 0)])), some (.row false 3 (1 + (6 - 2)) 1 (fun i => [I (q1 i)]))] (B true) [] from rowT h3), n_ 6 (t_ rt), q_ (show (0 : Int) ≤ 0 ∧ 0 < ((6 : Nat) : Int) from by decide), q_ (re 6), t_ rt, q_ (show (0 : Int) ≤ 0 ∧ 0 < ((6 : Nat) : Int) from by decide), t_ rt, c_ [] (lDay 2023 11 20), n_ 4 (t_ rt), q_ (re 6), q_ (show (0 : Int) ≤ ((6 : Nat) : Int) ∧ ((6 : Nat) : Int) ≤ ((6 : Nat) : Int) from by first | decide | omega | (constructor <;> omega)), q_ (show (0 : Int) ≤ 1 ∧ (1 : Int) ≤ ((6 : Nat) : Int) from by first | decide | omega | (constructor <;> omega)), t_ rt, t_ rt, q_ (re 6), q_ (show (0 : Int) ≤ ((6 : Nat) : Int) ∧ ((6 : Nat) : Int) ≤ ((6 : Nat) : Int) from by first | decide | omega | (constructor <;> omega)), q_ (show (0 : Int) ≤ 1 ∧ (1 : Int) ≤ ((6 : Nat) : Int) from by first | decide | omega | (constructor <;> omega)), t_ rt, c_ [9, 10] (show S 16 [.sl 0 (6 - 1), .sl 1 (6 - 1)] [some (.row false 3 (6 - 1) 1 (fun i => [I (wantG.getD (i + 1) 0)])), some (.row false 3 (6 - 1) 1 (fun i => [I ([(nbV 2024 1 15), (nbV 2024 2 20), (nbV 2024 5 20), (nbV 2024 8 20), (nbV 2024 11 20), (nbV 2025 2 20)].getD (i + 1) 0)]))] (B true) [] from rowT h5), n_ 7 (t_ rt)]

end Go.Proofs.YthfmjoeampekgaaGreatDoor
