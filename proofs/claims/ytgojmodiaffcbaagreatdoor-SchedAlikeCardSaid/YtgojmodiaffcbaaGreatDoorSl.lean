/-
  Functions of slices, at rows of numbers: Clone, Contains, Concat of three.
-/
import Derived.Test.YtgojmodiaffcbaaGreatDoorGl
import Derived.Test.YtgojmodiaffcbaaGreatDoorLow
import Derived.Test.YtgojmodiaffcbaaGreatDoorProg
import Derived.KernelRfl
set_option linter.unusedVariables false
set_option linter.unusedSimpArgs false
set_option linter.unusedSectionVars false
set_option maxRecDepth 100000
namespace Go.Proofs.YtgojmodiaffcbaaGreatDoor
open Go Go.Sx
variable [Env]
theorem sClone {n : Nat} {g : Nat → Int} (h0 : 0 < n) (hn : n ≤ 10000) : S 85 [.sl 0 n] [ri n g] (.sl 1 n) [ro n g] := by
  refine SCall.st fun X hX => ?_
  obtain ⟨q, h1⟩ : ∃ q : Nat → Int, ∀ k, k < (0 + n) → q k = if k < 0 then 0 else (g (k - 0)) := ⟨_, fun k _ => rfl⟩
  have h2 : (0 + n) * 8 ≤ 140737488355328 := by omega
  have hX' : IsFin X Tryz.prog GL 85 [ri n g] (.sl 1 (0 + n)) [ro (0 + n) q] := by
    rw [Nat.zero_add]
    refine IsFin.same hX ⟨⟨rfl, rfl, rfl, rfl, fun i hi => ?_⟩, trivial⟩
    show [I (q i)] = [I (g i)]
    rw [h1 i (by omega), if_neg (Nat.not_lt_zero _), Nat.sub_zero]
  exact hX'.e [q_ (re n), q_ h0, f_ rf, q_ (show ∀ k, k < 0 → (fun i => [I 0]) k = [].getD k [] from by intro k hk; omega), q_ (re n), q_ (re 0), q_ h2, q_ (show ∀ k, k < 0 + n → (fun i => [I (q i)]) k = if k < 0 then (fun i => [I 0]) k else (fun i => [I (g i)]) (k - 0) from fun k hk => by
      have e0 := h1 k hk
      by_cases c : k < 0
      · rw [if_pos c] at e0 ⊢; simp only [e0]
      · rw [if_neg c] at e0 ⊢; simp only [e0]), h_ [.row (fun i => [I 0]), .row (fun i => [I (q i)])]] [2]
/-- Is a number among the first n? -/
def hasB (g : Nat → Int) (v : Int) : Nat → Bool
  | 0 => false
  | n + 1 => hasB g v n || (g n == v)
theorem hasB_iff {g : Nat → Int} {v : Int} : ∀ {n : Nat}, hasB g v n = true ↔ ∃ i, i < n ∧ g i = v
  | 0 => ⟨fun h => (by cases h), fun ⟨i, hi, _⟩ => absurd hi (Nat.not_lt_zero _)⟩
  | n + 1 => by
    rw [hasB, Bool.or_eq_true, hasB_iff (n := n), beq_iff_eq]
    constructor
    · rintro (⟨i, hi, h⟩ | h)
      · exact ⟨i, by omega, h⟩
      · exact ⟨n, by omega, h⟩
    · rintro ⟨i, hi, h⟩
      by_cases c : i < n
      · exact .inl ⟨i, c, h⟩
      · rw [show n = i by omega]; exact .inr h
theorem hasB_no {g : Nat → Int} {v : Int} {n : Nat} (h : ∀ i, i < n → g i ≠ v) : hasB g v n = false := by
  rw [← Bool.not_eq_true, hasB_iff]; rintro ⟨i, hi, e⟩; exact h i hi e
noncomputable def slices_Contains_int_int__h0 (n1 : Nat) (g2 : Nat → Int) (x1 : Int) (x2 : Int) (x3 : Int) (x4 : Int) : SC :=
  ⟨[⟨99, slo 19 [(0, .sl 0 n1), (1, I x1), (7, I x2), (8, I x3)], [.code (bodyAt Tryz.f99 [1, 0, 1, 0, 0]), .inLoop (bodyAt Tryz.f99 [1, 0, 1, 0, 0]), .inBlock 0, .code (bodyAt Tryz.f99 [1, 1])], {}⟩, ⟨88, [none, none, none, none, none, some (.sl 0 n1), some (I x4), none, none], [.inRegion (opsAt Tryz.f88 [1, 0]) [2, 3, 4], .code (bodyAt Tryz.f88 [1, 1])], {}⟩], [ri n1 g2]⟩
theorem sHas_loop {X : Cx} {n : Nat} {g : Nat → Int} {v : Int} (hn : n ≤ 10000) (hX : Fi X 88 [ri n g] (B (hasB g v n)) []) : ∀ (f i : Nat) (x : Int), x = (i : Int) → n = i + f → (∀ j, j < i → g j ≠ v) →
    Ok X (slices_Contains_int_int__h0 n g v (n : Int) x v) := by
  intro f
  induction f with
  | zero =>
    intro i x hx hi hj
    have h0 : ¬ x < (n : Int) := by omega
    exact (hX.to (show _ = B (decide (((-1) : Int) ≥ 0)) by rw [hasB_no (fun j hj' => hj j (by omega))]; rfl)).e [f_ (df h0)]
  | succ f ih =>
    intro i x hx hi hj
    have h0 : x < (n : Int) := by omega
    have h1 : (0 : Int) ≤ x ∧ x < ((n : Nat) : Int) := by omega
    refine hX.go [t_ (dt h0), q_ h1, q_ (re n), q_ h1] ?_
    have e1 : x.toNat = i := by omega
    by_cases h2 : v = (g x.toNat)
    · exact (hX.to (show _ = B (decide (x ≥ 0)) by rw [hasB_iff.2 ⟨i, by omega, by rw [← e1]; exact h2.symm⟩, decide_eq_true h1.1])).e [t_ (beq_iff_eq.2 h2)]
    · have h3 : Ir (x + 1) := by simp only [Ir, InR]; omega
      refine hX.h 8 [f_ (beq_eq_false_iff_ne.2 h2), q_ h3] (oldM 1) (show Ok X (slices_Contains_int_int__h0 n g v (n : Int) (x + 1) v) from ih (i + 1) _ (by omega) (by omega) (fun j hj' => ?_))
      by_cases c : j < i
      · exact hj j c
      · rw [show j = i by omega, ← e1]; exact fun e => h2 e.symm
theorem sHas {n : Nat} {g : Nat → Int} {v : Int} (hn : n ≤ 10000) : S 88 [.sl 0 n, I v] [ri n g] (B (hasB g v n)) [] :=
  SCall.st fun X hX => hX.h 22 [i_] (oldM 1) (show Ok X (slices_Contains_int_int__h0 n g v ((n : Nat) : Int) 0 v) from sHas_loop hn hX n 0 0 rfl (by omega) (fun j hj => absurd hj (Nat.not_lt_zero _)))
/-- One, some, and one more. -/
def catV (a : Int) (g : Nat → Int) (n : Nat) (b : Int) (i : Nat) : Int := if i = 0 then a else if i < n + 1 then g (i - 1) else b
theorem sCat {a : Int} {n : Nat} {g : Nat → Int} {b : Int} (hn : n ≤ 10000) :
    S 89 [.sl 0 3] [some (.row false 26 3 1 (lrow [[.sl 1 1], [.sl 2 n], [.sl 3 1]])), some (.row false 3 1 1 (fun i => [I a])), ri n g, some (.row false 3 1 1 (fun i => [I b]))] (.sl 4 (n + 2)) [ro (n + 2) (catV a g n b)] := by
  refine SCall.st (hh := ⟨fun i => (by match i with | 0 => rfl | 1 => rfl | 2 => rfl | i + 3 => rfl), fun _ => rfl, fun _ => rfl, fun _ => rfl, trivial⟩) fun X hX => ?_
  have h0 : Ir (1 + ((n : Nat) : Int)) := by simp only [Ir, InR]; omega
  have h1 : ¬ (1 + ((n : Nat) : Int)) < 0 := by omega
  have h2 : Ir ((1 + ((n : Nat) : Int)) + 1) := by simp only [Ir, InR]; omega
  have h3 : ¬ ((1 + ((n : Nat) : Int)) + 1) < 0 := by omega
  have h4 : Ir (((1 + ((n : Nat) : Int)) + 1) - 0) := by simp only [Ir, InR]; omega
  have h5 : (((1 + ((n : Nat) : Int)) + 1) - 0) > 0 := by omega
  have h6 : (0 : Int) < (((1 + ((n : Nat) : Int)) + 1) - 0) := by omega
  have h7 : ((((1 + ((n : Nat) : Int)) + 1) - 0).toNat) * 8 ≤ 140737488355328 := by omega
  have h8 : (0 : Int) ≤ 0 ∧ 0 ≤ ((((((1 + ((n : Nat) : Int)) + 1) - 0).toNat) : Nat) : Int) := by omega
  obtain ⟨q1, h9⟩ : ∃ q1 : Nat → Int, ∀ k, k < 1 → q1 k = if k < 0 then 0 else a := ⟨_, fun k _ => rfl⟩
  obtain ⟨q2, h10⟩ : ∃ q2 : Nat → Int, ∀ k, k < (1 + n) → q2 k = if k < 1 then (q1 k) else (g (k - 1)) := ⟨_, fun k _ => rfl⟩
  have h11 : (1 + n) * 8 ≤ 140737488355328 := by omega
  obtain ⟨q3, h12⟩ : ∃ q3 : Nat → Int, ∀ k, k < ((1 + n) + 1) → q3 k = if k < (1 + n) then (q2 k) else b := ⟨_, fun k _ => rfl⟩
  have h13 : ((1 + n) + 1) * 8 ≤ 140737488355328 := by omega
  have hX' : IsFin X Tryz.prog GL 89 [some (.row false 26 3 1 (lrow [[.sl 1 1], [.sl 2 n], [.sl 3 1]])), some (.row false 3 1 1 (fun i => [I a])), ri n g, some (.row false 3 1 1 (fun i => [I b]))] (.sl 4 ((1 + n) + 1)) [ro ((1 + n) + 1) q3] := by
    have e : (1 + n) + 1 = n + 2 := by omega
    rw [e]
    refine IsFin.same hX ⟨⟨rfl, rfl, rfl, rfl, fun i hi => ?_⟩, trivial⟩
    show [I (q3 i)] = [I (catV a g n b i)]
    rw [h12 i (by omega)]
    unfold catV
    by_cases c1 : i = 0
    · rw [if_pos (by omega), h10 i (by omega), if_pos (by omega), h9 i (by omega), if_neg (by omega), if_pos c1]
    · rw [if_neg c1]
      by_cases c2 : i < n + 1
      · rw [if_pos (by omega), h10 i (by omega), if_neg (by omega), if_pos c2]
      · rw [if_neg (by omega), if_neg c2]
  exact hX'.e [t_ rt, q_ (show (0 : Int) ≤ 0 ∧ 0 < ((3 : Nat) : Int) from by decide), q_ (re 3), q_ (show (0 : Int) ≤ 0 ∧ 0 < ((3 : Nat) : Int) from by decide), q_ (show Ir 1 from by decide), f_ rf, q_ (show Ir 1 from by decide), t_ rt, q_ (show (0 : Int) ≤ 1 ∧ 1 < ((3 : Nat) : Int) from by decide), q_ (re 3), q_ (show (0 : Int) ≤ 1 ∧ 1 < ((3 : Nat) : Int) from by decide), q_ h0, f_ (df h1), q_ (show Ir 2 from by decide), t_ rt, q_ (show (0 : Int) ≤ 2 ∧ 2 < ((3 : Nat) : Int) from by decide), q_ (re 3), q_ (show (0 : Int) ≤ 2 ∧ 2 < ((3 : Nat) : Int) from by decide), q_ h2, f_ (df h3), q_ (show Ir 3 from by decide), f_ rf, i_, f_ (df h3), q_ (show Ir 0 from by decide), q_ h4, t_ (dt h5), q_ (show (0 : Int) = 0 from rfl), q_ h6, q_ h7, q_ h8, q_ (show ((((1 + ((n : Nat) : Int)) + 1) - 0).toNat) = ((((1 + ((n : Nat) : Int)) + 1) - 0).toNat) from rfl), h_ [.cut], t_ rt, q_ (show (0 : Int) ≤ 0 ∧ 0 < ((3 : Nat) : Int) from by decide), q_ (re 3), q_ (show (0 : Int) ≤ 0 ∧ 0 < ((3 : Nat) : Int) from by decide), q_ (re 1), q_ (re 0), q_ (show (0 + 1) * 8 ≤ 140737488355328 from by first | decide | omega | (constructor <;> omega)), q_ (show ∀ k, k < 0 + 1 → (fun i => [I (q1 i)]) k = if k < 0 then (fun i => [I 0]) k else (fun i => [I a]) (k - 0) from fun k hk => by
      have e0 := h9 k hk
      by_cases c : k < 0
      · rw [if_pos c] at e0 ⊢; simp only [e0]
      · rw [if_neg c] at e0 ⊢; simp only [e0]), q_ (show Ir 1 from by decide), h_ [.row (fun i => [I (q1 i)])], t_ rt, q_ (show (0 : Int) ≤ 1 ∧ 1 < ((3 : Nat) : Int) from by decide), q_ (re 3), q_ (show (0 : Int) ≤ 1 ∧ 1 < ((3 : Nat) : Int) from by decide), q_ (re n), q_ (re 1), q_ h11, q_ (show ∀ k, k < 1 + n → (fun i => [I (q2 i)]) k = if k < 1 then (fun i => [I (q1 i)]) k else (fun i => [I (g i)]) (k - 1) from fun k hk => by
      have e0 := h10 k hk
      by_cases c : k < 1
      · rw [if_pos c] at e0 ⊢; simp only [e0]
      · rw [if_neg c] at e0 ⊢; simp only [e0]), q_ (show Ir 2 from by decide), h_ [.row (fun i => [I (q2 i)])], t_ rt, q_ (show (0 : Int) ≤ 2 ∧ 2 < ((3 : Nat) : Int) from by decide), q_ (re 3), q_ (show (0 : Int) ≤ 2 ∧ 2 < ((3 : Nat) : Int) from by decide), q_ (re 1), q_ (show (1 + n) = (1 + n) from rfl), q_ h13, q_ (show ∀ k, k < (1 + n) + 1 → (fun i => [I (q3 i)]) k = if k < (1 + n) then (fun i => [I (q2 i)]) k else (fun i => [I b]) (k - (1 + n)) from fun k hk => by
      have e0 := h12 k hk
      by_cases c : k < (1 + n)
      · rw [if_pos c] at e0 ⊢; simp only [e0]
      · rw [if_neg c] at e0 ⊢; simp only [e0]), q_ (show Ir 3 from by decide), h_ [.row (fun i => [I (q3 i)])], f_ rf] [8]
/-- The same, with the slices' row told otherwise. -/
theorem sCatF {a : Int} {n : Nat} {g : Nat → Int} {b : Int} (f : Nat → List SV) (hn : n ≤ 10000) (hf : ∀ i, i < 3 → f i = lrow [[.sl 1 1], [.sl 2 n], [.sl 3 1]] i) :
    S 89 [.sl 0 3] [some (.row false 26 3 1 f), some (.row false 3 1 1 (fun i => [I a])), ri n g, some (.row false 3 1 1 (fun i => [I b]))] (.sl 4 (n + 2)) [ro (n + 2) (catV a g n b)] :=
  SCall.same (sCat hn) ⟨⟨rfl, rfl, rfl, rfl, hf⟩, Vw.same_refl _, Vw.same_refl _, Vw.same_refl _, trivial⟩ ⟨Vw.same_refl _, trivial⟩
end Go.Proofs.YtgojmodiaffcbaaGreatDoor
