import Derived.Test.YtehnnaanpmceiaaGreatDoorRat
import Derived.Test.YtehnnaanpmceiaaGreatDoorRef2
import Derived.Test.YtehnnaanpmceiaaGreatDoorSC
import Derived.Test.YtehnnaanpmceiaaGreatDoorProg
import Derived.KernelRfl
import Derived.Laws.Externs
set_option linter.unusedVariables false
set_option linter.unusedSimpArgs false
set_option linter.unusedSectionVars false
set_option maxRecDepth 100000
namespace Go.Proofs.YtehnnaanpmceiaaGreatDoor
open Go Go.Sx
variable [Env]

/-- Is a fraction right? -/
def rightB (n d : Int) : Bool := decide (0 ≤ n ∧ n ≤ 4611686018427387904 ∧ 1 ≤ d ∧ d ≤ 4611686018427387904 ∧ Nat.gcd n.toNat d.toNat = 1)



theorem demurrageref02_divides_w {a1 a2 : Int} {res : SV} (H : (0 : Int) ≤ a2 ∧ (0 : Int) < a1 ∧ B ((a2 % a1) == 0) = res) :
    S 59 [I a1, I a2] [] res [] := by
  refine SCall.st fun X hX => ?_
  obtain ⟨h0, h1, rfl⟩ := H
  exact hX.e [q_ h0, q_ h1]

theorem rdivides {a : Int} (h : 0 < a) : S 59 [I a, I 1] [] (B (a == 1)) [] :=
  demurrageref02_divides_w ⟨by decide, h, by
    rw [show ((1 % a) == 0) = (a == 1) by
      by_cases h1 : a = 1
      · subst h1; rfl
      · rw [beq_eq_false_iff_ne.2 h1, Int.emod_eq_of_lt (by decide) (by omega)]; rfl]⟩



noncomputable def demurrageref02_Right_h0 (x1 : Int) (x2 : Int) : SC :=
  ⟨[⟨27, slo 37 [(3, I x1), (4, I x2)], [.code (bodyAt Tryz.f27 [1, 1, 1, 1, 0, 0, 0]), .inLoop (bodyAt Tryz.f27 [1, 1, 1, 1, 0, 0, 0]), .inBlock 0, .code (bodyAt Tryz.f27 [1, 1, 1, 1, 1])], {}⟩], []⟩
theorem demurrageref02_Right_w0 {X : Cx} {a1 a2 : Int} {res : SV} (hX : Fi X 27 [] res []) (H : (a1 < 0 → B false = res) ∧ (¬ a1 < 0 → (a1 > 4611686018427387904 → B false = res) ∧ (¬ a1 > 4611686018427387904 → (a2 < 1 → B false = res) ∧ (¬ a2 < 1 → (a2 > 4611686018427387904 → B false = res) ∧ (¬ a2 > 4611686018427387904 → Ok X (demurrageref02_Right_h0 a1 a2)))))) :
    Ok X (entry Tryz.prog 27 [.agg [I a1, I a2]] []) := by
  obtain ⟨H1, H2⟩ := H
  by_cases h0 : a1 < 0
  · obtain rfl := H1 h0
    exact hX.e [t_ (dt h0), t_ (dt h0), t_ (dt h0), t_ (dt h0), t_ rt, t_ rt, t_ rt, t_ rt, t_ rt, t_ rt, t_ rt, t_ rt, t_ rt]
  · obtain ⟨H1, H2⟩ := H2 h0
    refine hX.go [f_ (df h0), f_ (df h0), f_ (df h0), f_ (df h0)] ?_
    by_cases h1 : a1 > 4611686018427387904
    · obtain rfl := H1 h1
      exact hX.e [t_ (dt h1), t_ (dt h1), t_ (dt h1), t_ (dt h1), t_ rt, t_ rt, t_ rt, t_ rt, t_ rt]
    · obtain ⟨H1, H2⟩ := H2 h1
      refine hX.go [f_ (df h1), f_ (df h1), f_ (df h1), f_ (df h1)] ?_
      by_cases h2 : a2 < 1
      · obtain rfl := H1 h2
        exact hX.e [t_ (dt h2), t_ (dt h2), t_ (dt h2), t_ (dt h2), t_ rt]
      · obtain ⟨H1, H2⟩ := H2 h2
        refine hX.go [f_ (df h2), f_ (df h2), f_ (df h2), f_ (df h2)] ?_
        by_cases h3 : a2 > 4611686018427387904
        · obtain rfl := H1 h3
          exact hX.e [t_ (dt h3)]
        · exact hX.h 17 [f_ (df h3)] (oldM 0) (H2 h3)
theorem demurrageref02_Right_w1 {X : Cx} {x1 x2 : Int} {res : SV} (hX : Fi X 27 [] res []) (H : (x2 > 0 → (0 : Int) ≤ x1 ∧ (0 : Int) < x2 ∧ Ok X (demurrageref02_Right_h0 x2 (x1 % x2))) ∧ (¬ x2 > 0 → ∃ r5003 : Bool, S 59 [I x1, I 1] [] (B r5003) [] ∧ B r5003 = res)) :
    Ok X (demurrageref02_Right_h0 x1 x2) := by
  obtain ⟨H1, H2⟩ := H
  by_cases h0 : x2 > 0
  · obtain ⟨h1, h2, k⟩ := H1 h0
    exact hX.h 27 [t_ (dt h0), q_ h1, q_ h2] (oldM 0) k
  · obtain ⟨r5003, h1, rfl⟩ := H2 h0
    exact hX.e [f_ (df h0), c_ [] h1]

theorem rRight_loop {X : Cx} {g : Nat} (hX : Fi X 27 [] (B (decide (g = 1))) []) : ∀ (m a b : Nat), b ≤ m → (0 < a ∨ 0 < b) → Nat.gcd a b = g → Ok X (demurrageref02_Right_h0 (a : Int) (b : Int)) := by
  intro m
  induction m with
  | zero =>
    intro a b hb hab hg
    have : b = 0 := by omega
    subst this
    rw [Nat.gcd_zero_right] at hg
    subst hg
    refine demurrageref02_Right_w1 hX ⟨fun c => by omega, fun c => ⟨_, rdivides (by omega), ?_⟩⟩
    rw [show ((a : Int) == 1) = decide (a = 1) by
      by_cases h : a = 1
      · subst h; rfl
      · rw [decide_eq_false h, beq_eq_false_iff_ne]; omega]
  | succ m ih =>
    intro a b hb hab hg
    by_cases h0 : b = 0
    · subst h0
      exact ih a 0 (by omega) hab hg
    · refine demurrageref02_Right_w1 hX ⟨fun c => ⟨by omega, by omega, ?_⟩, fun c => by omega⟩
      have hlt := Nat.mod_lt a (Nat.pos_of_ne_zero h0)
      have := ih b (a % b) (by omega) (.inl (by omega)) (by rw [Nat.gcd_comm, ← Nat.gcd_rec, Nat.gcd_comm]; exact hg)
      rwa [Int.natCast_emod] at this

theorem rRight (n d : Int) : S 27 [.agg [I n, I d]] [] (B (rightB n d)) [] := by
  refine SCall.of (by kernel_rfl) rfl trivial rfl (fun X hX => ?_)
  have hf : ¬ (0 ≤ n ∧ n ≤ 4611686018427387904 ∧ 1 ≤ d ∧ d ≤ 4611686018427387904) → rightB n d = false := fun h => decide_eq_false fun q => h ⟨q.1, q.2.1, q.2.2.1, q.2.2.2.1⟩
  refine demurrageref02_Right_w0 hX ⟨fun h => by rw [hf (by omega)], fun h1 => ⟨fun h => by rw [hf (by omega)], fun h2 => ⟨fun h => by rw [hf (by omega)], fun h3 => ⟨fun h => by rw [hf (by omega)], fun h4 => ?_⟩⟩⟩⟩
  rw [show rightB n d = decide (Nat.gcd n.toNat d.toNat = 1) by unfold rightB; rw [decide_eq_decide]; exact ⟨fun h => h.2.2.2.2, fun h => ⟨by omega, by omega, by omega, by omega, h⟩⟩] at hX
  have := rRight_loop hX d.toNat n.toNat d.toNat (Nat.le_refl _) (.inr (by omega)) rfl
  rwa [show ((n.toNat : Nat) : Int) = n by omega, show ((d.toNat : Nat) : Int) = d by omega] at this



theorem ratio_Right_w {a1 a2 : Int} {res : SV} (H : (a1 ≥ 0 → (a1 ≤ 4611686018427387904 → (a2 ≥ 1 → (a2 ≤ 4611686018427387904 → U64 a1 ∧ U64 a2 ∧ ∃ r3 : Int, S 101 [N .u64 a1, N .u64 a2] [] (N .u64 r3) [] ∧ B (r3 == 1) = res) ∧ (¬ a2 ≤ 4611686018427387904 → B false = res)) ∧ (¬ a2 ≥ 1 → B false = res)) ∧ (¬ a1 ≤ 4611686018427387904 → B false = res)) ∧ (¬ a1 ≥ 0 → B false = res)) :
    S 66 [.agg [I a1, I a2]] [] res [] := by
  refine SCall.st fun X hX => ?_
  obtain ⟨H1, H2⟩ := H
  by_cases h0 : a1 ≥ 0
  · obtain ⟨H1, H2⟩ := H1 h0
    refine hX.go [t_ (dt h0), t_ (dt h0), t_ (dt h0), t_ (dt h0)] ?_
    by_cases h1 : a1 ≤ 4611686018427387904
    · obtain ⟨H1, H2⟩ := H1 h1
      refine hX.go [t_ (dt h1), t_ (dt h1), t_ (dt h1), t_ (dt h1)] ?_
      by_cases h2 : a2 ≥ 1
      · obtain ⟨H1, H2⟩ := H1 h2
        refine hX.go [t_ (dt h2), t_ (dt h2), t_ (dt h2), t_ (dt h2)] ?_
        by_cases h3 : a2 ≤ 4611686018427387904
        · obtain ⟨h4, h5, r3, h6, rfl⟩ := H1 h3
          exact hX.e [t_ (dt h3), t_ (dt h3), t_ (dt h3), q_ h4, t_ (dt h3), t_ (dt h3), t_ (dt h3), q_ h5, t_ (dt h3), c_ [] h6, t_ (dt h3), t_ (dt h3)]
        · obtain rfl := H2 h3
          exact hX.e [f_ (df h3), f_ (df h3), f_ (df h3), f_ (df h3), f_ (df h3), f_ (df h3), f_ (df h3), f_ (df h3), f_ (df h3)]
      · obtain rfl := H2 h2
        exact hX.e [f_ (df h2), f_ (df h2), f_ (df h2), f_ (df h2), f_ rf, f_ rf, f_ rf, f_ rf, f_ rf, f_ rf, f_ rf, f_ rf, f_ rf]
    · obtain rfl := H2 h1
      exact hX.e [f_ (df h1), f_ (df h1), f_ (df h1), f_ (df h1), f_ rf, f_ rf, f_ rf, f_ rf, f_ rf, f_ rf, f_ rf, f_ rf, f_ rf, f_ rf, f_ rf, f_ rf, f_ rf]
  · obtain rfl := H2 h0
    exact hX.e [f_ (df h0), f_ (df h0), f_ (df h0), f_ (df h0), f_ rf, f_ rf, f_ rf, f_ rf, f_ rf, f_ rf, f_ rf, f_ rf, f_ rf, f_ rf, f_ rf, f_ rf, f_ rf, f_ rf, f_ rf, f_ rf, f_ rf]

theorem cRight (n d : Int) : S 66 [.agg [I n, I d]] [] (B (rightB n d)) [] := by
  have hf : ¬ (0 ≤ n ∧ n ≤ 4611686018427387904 ∧ 1 ≤ d ∧ d ≤ 4611686018427387904) → rightB n d = false := fun h => decide_eq_false fun q => h ⟨q.1, q.2.1, q.2.2.1, q.2.2.2.1⟩
  refine ratio_Right_w ⟨fun h1 => ⟨fun h2 => ⟨fun h3 => ⟨fun h4 => ?_, fun h => by rw [hf (by omega)]⟩, fun h => by rw [hf (by omega)]⟩, fun h => by rw [hf (by omega)]⟩, fun h => by rw [hf (by omega)]⟩
  have hg := rGcd n.toNat d.toNat
  rw [show ((n.toNat : Nat) : Int) = n by omega, show ((d.toNat : Nat) : Int) = d by omega] at hg
  refine ⟨by simp only [InR]; omega, by simp only [InR]; omega, _, hg, ?_⟩
  rw [show (((Nat.gcd n.toNat d.toNat : Nat) : Int) == 1) = rightB n d by
    unfold rightB
    by_cases h : Nat.gcd n.toNat d.toNat = 1
    · rw [decide_eq_true ⟨h1, h2, h3, h4, h⟩, h]; rfl
    · rw [decide_eq_false (fun q => h q.2.2.2.2), beq_eq_false_iff_ne]; omega]

theorem right_q {q : Rat} (h : 0 ≤ q.num) (h1 : q.num ≤ 4611686018427387904) (h2 : q.den ≤ 4611686018427387904) : rightB q.num (q.den : Int) = true := by
  have := q.den_pos
  refine decide_eq_true ⟨h, h1, by omega, by omega, ?_⟩
  have := q.reduced
  rw [show q.num.toNat = q.num.natAbs by omega, Int.toNat_natCast]
  exact this


end Go.Proofs.YtehnnaanpmceiaaGreatDoor
