import Derived.Test.YtigjggkendgjeaaDoorCiv
import Derived.Test.YtigjggkendgjeaaDoorProg
import Derived.KernelRfl
import Derived.Laws.Externs
set_option linter.unusedVariables false
set_option linter.unusedSimpArgs false
set_option maxRecDepth 100000
namespace Go.Proofs.YtigjggkendgjeaaDoor
open Go Go.Sx

/-- What may be days of periods. -/
def mayB (n : Nat) (g : Nat → Int) (f : Int) : Bool :=
  decide (2 ≤ n ∧ n ≤ 1204 ∧ 1 ≤ f ∧ f ≤ 12 ∧ (∀ i, i < n → isDay (g i) = true) ∧ (∀ i, i < n - 1 → g i ≤ g (i + 1)) ∧ g 0 < g (n - 1))

def sortedB (n : Nat) (g : Nat → Int) : Bool := decide (∀ i, i < n - 1 → g i ≤ g (i + 1))



theorem icma_day_0 {a1 : Int} {r2 : Int} {r3 : Int} {r4 : Int} {r5 : Int} (h0 : SCall Tryd.prog GL 38 [I a1] [] (.tup [.agg [I r2, I r3, I r4], I r5]) []) :
    SCall Tryd.prog GL 22 [I a1] [] (B (r5 == 0)) [] :=
  SCall.path 21 [.call [] (.tup [.agg [I r2, I r3, I r4], I r5]) []] [] 1 (by kernel_rfl) rfl (by exact trivial) (AllP.c h0 AllP.n)

theorem iday (n : Int) : SCall Tryd.prog GL 22 [I n] [] (B (isDay n)) [] := by
  unfold isDay
  by_cases h : 1 ≤ n ∧ n ≤ 3652059
  · rw [decide_eq_true h]
    exact icma_day_0 (cOf h.1 h.2)
  · rw [decide_eq_false h]
    exact icma_day_0 (cOf_bad h)



noncomputable def slices_IsSorted_int_int__h0 (n1 : Nat) (g2 : Nat → Int) (x1 : Int) : SC :=
  ⟨[⟨23, [some (.sl 0 n1), none, none, some (I x1), none, none, none, none, none, none, none, none, none, none, none, none, none, none, none, none, none], [.code (bodyAt Tryd.f23 [1, 0, 1, 0, 0]), .inLoop (bodyAt Tryd.f23 [1, 0, 1, 0, 0]), .inBlock 0, .code (bodyAt Tryd.f23 [1, 1])], {}⟩], [some (.row false 3 n1 1 (fun i => [I (g2 i)]))]⟩
theorem slices_IsSorted_int_int__0 {X : Cx} {res : SV} {new : List (Option Vw)} {n1 : Nat} {g2 : Nat → Int} (hX : IsFin X Tryd.prog GL 23 [some (.row false 3 n1 1 (fun i => [I (g2 i)]))] res new) (h0 : InR .i64 (((n1 : Nat) : Int) - 1)) (k : Ok X (slices_IsSorted_int_int__h0 n1 g2 (((n1 : Nat) : Int) - 1))) :
    Ok X (entry Tryd.prog 23 [.sl 0 n1] [some (.row false 3 n1 1 (fun i => [I (g2 i)]))]) :=
  Ok.cutM 14 [] [[true, false, false, true, false, false, false, false, false, false, false, false, false, false, false, false, false, false, false, false, false]] [.old 0] 1 hX.P hX.gl hX.n0 (by kernel_rfl) (by kernel_rfl) (by exact ⟨fun _ => rfl, trivial⟩) (AllP.c h0 AllP.n) k
theorem slices_IsSorted_int_int__1 {X : Cx} {n1 : Nat} {g2 : Nat → Int} {x1 : Int} (hX : IsFin X Tryd.prog GL 23 [some (.row false 3 n1 1 (fun i => [I (g2 i)]))] (B false) []) (h0 : x1 > 0) (h1 : (0 : Int) ≤ x1 ∧ x1 < ((n1 : Nat) : Int)) (h2 : InR .i64 (x1 - 1)) (h3 : (0 : Int) ≤ (x1 - 1) ∧ (x1 - 1) < ((n1 : Nat) : Int)) (h4 : (g2 x1.toNat) < (g2 ((x1 - 1).toNat))) :
    Ok X (slices_IsSorted_int_int__h0 n1 g2 x1) :=
  Ok.fin 19 [.b true, .draw 9 [] 0, .call [] (B (decide ((g2 x1.toNat) < (g2 ((x1 - 1).toNat))))) [], .b true] [] 1 hX (by kernel_rfl) rfl (AllP.c (decide_eq_true h0) (AllP.c h1 (AllP.c (show n1 = n1 from rfl) (AllP.c h1 (AllP.c h2 (AllP.c h3 (AllP.c (show n1 = n1 from rfl) (AllP.c h3 (AllP.c (show SCall Tryd.prog GL 39 [I (g2 x1.toNat), I (g2 ((x1 - 1).toNat))] [] (B (decide ((g2 x1.toNat) < (g2 ((x1 - 1).toNat))))) [] from cmp_Less_i) (AllP.c (decide_eq_true h4) AllP.n))))))))))
theorem slices_IsSorted_int_int__2 {X : Cx} {res : SV} {new : List (Option Vw)} {n1 : Nat} {g2 : Nat → Int} {x1 : Int} (hX : IsFin X Tryd.prog GL 23 [some (.row false 3 n1 1 (fun i => [I (g2 i)]))] res new) (h0 : x1 > 0) (h1 : (0 : Int) ≤ x1 ∧ x1 < ((n1 : Nat) : Int)) (h2 : InR .i64 (x1 - 1)) (h3 : (0 : Int) ≤ (x1 - 1) ∧ (x1 - 1) < ((n1 : Nat) : Int)) (h4 : ¬ (g2 x1.toNat) < (g2 ((x1 - 1).toNat))) (k : Ok X (slices_IsSorted_int_int__h0 n1 g2 (x1 - 1))) :
    Ok X (slices_IsSorted_int_int__h0 n1 g2 x1) :=
  Ok.cutM 23 [.b true, .draw 9 [] 0, .call [] (B (decide ((g2 x1.toNat) < (g2 ((x1 - 1).toNat))))) [], .b false] [[true, false, false, true, false, false, false, false, false, false, false, false, false, false, false, false, false, false, false, false, false]] [.old 0] 1 hX.P hX.gl hX.n0 (by kernel_rfl) (by kernel_rfl) (by exact ⟨fun _ => rfl, trivial⟩) (AllP.c (decide_eq_true h0) (AllP.c h1 (AllP.c (show n1 = n1 from rfl) (AllP.c h1 (AllP.c h2 (AllP.c h3 (AllP.c (show n1 = n1 from rfl) (AllP.c h3 (AllP.c (show SCall Tryd.prog GL 39 [I (g2 x1.toNat), I (g2 ((x1 - 1).toNat))] [] (B (decide ((g2 x1.toNat) < (g2 ((x1 - 1).toNat))))) [] from cmp_Less_i) (AllP.c (decide_eq_false h4) (AllP.c h2 AllP.n))))))))))) k
theorem slices_IsSorted_int_int__3 {X : Cx} {n1 : Nat} {g2 : Nat → Int} {x1 : Int} (hX : IsFin X Tryd.prog GL 23 [some (.row false 3 n1 1 (fun i => [I (g2 i)]))] (B true) []) (h0 : ¬ x1 > 0) :
    Ok X (slices_IsSorted_int_int__h0 n1 g2 x1) :=
  Ok.fin 12 [.b false] [] 1 hX (by kernel_rfl) rfl (AllP.c (decide_eq_false h0) AllP.n)

theorem sorted_loop {X : Cx} {n : Nat} {g : Nat → Int} (hn : n ≤ 1204) (hX : IsFin X Tryd.prog GL 23 [some (.row false 3 n 1 (fun i => [I (g i)]))] (B (sortedB n g)) []) :
    ∀ (i : Nat), i ≤ n - 1 → (∀ j, i ≤ j → j < n - 1 → g j ≤ g (j + 1)) → Ok X (slices_IsSorted_int_int__h0 n g (i : Int))
  | 0, hi, h => by
    refine slices_IsSorted_int_int__3 ?_ (by omega)
    have : sortedB n g = true := decide_eq_true (fun j hj => h j (by omega) hj)
    rwa [this] at hX
  | i + 1, hi, h => by
    have e : (((i + 1 : Nat) : Int) - 1).toNat = i := by omega
    have e2 : (((i + 1 : Nat) : Int)).toNat = i + 1 := by omega
    by_cases hlt : g (i + 1) < g i
    · refine slices_IsSorted_int_int__1 ?_ (by omega) (by omega) (by simp only [InR]; omega) (by omega) (by rw [e, e2]; exact hlt)
      have : sortedB n g = false := decide_eq_false (fun hh => by have := hh i (by omega); omega)
      rwa [this] at hX
    · refine slices_IsSorted_int_int__2 hX (by omega) (by omega) (by simp only [InR]; omega) (by omega) (by rw [e, e2]; exact hlt) ?_
      rw [show (((i + 1 : Nat) : Int) - 1) = (i : Int) by omega]
      refine sorted_loop hn hX i (by omega) (fun j h1 h2 => ?_)
      by_cases hj : j = i
      · subst hj; omega
      · exact h j (by omega) h2

theorem sorted_ok {n : Nat} {g : Nat → Int} (hn : n ≤ 1204) : SCall Tryd.prog GL 23 [.sl 0 n] [some (.row false 3 n 1 (fun i => [I (g i)]))] (B (sortedB n g)) [] := by
  refine SCall.of (by kernel_rfl) rfl ⟨fun i => rfl, trivial⟩ rfl (fun X hX => ?_)
  refine slices_IsSorted_int_int__0 hX (by simp only [InR]; omega) ?_
  by_cases h0 : n = 0
  · subst h0
    refine slices_IsSorted_int_int__3 ?_ (by omega)
    have : sortedB 0 g = true := decide_eq_true (fun j hj => by omega)
    rwa [this] at hX
  · have := sorted_loop hn hX (n - 1) (Nat.le_refl _) (fun j h1 h2 => by omega)
    rwa [show ((n - 1 : Nat) : Int) = (n : Int) - 1 by omega] at this



theorem icma_May_0 {n1 : Nat} {g2 : Nat → Int} {a3 : Int} (h0 : ((n1 : Nat) : Int) < 2) :
    SCall Tryd.prog GL 11 [.sl 0 n1, I a3] [some (.row false 3 n1 1 (fun i => [I (g2 i)]))] (B false) [] :=
  SCall.path 29 [.b true, .b true, .b true, .b true, .b true, .b true, .b true, .b true, .b true, .b true, .b true] [] 1 (by kernel_rfl) rfl (by exact ⟨fun _ => rfl, trivial⟩) (AllP.c (decide_eq_true h0) (AllP.c (decide_eq_true h0) (AllP.c (decide_eq_true h0) (AllP.c (decide_eq_true h0) (AllP.c (show true = true from rfl) (AllP.c (show true = true from rfl) (AllP.c (show true = true from rfl) (AllP.c (show true = true from rfl) (AllP.c (show true = true from rfl) (AllP.c (show true = true from rfl) (AllP.c (show true = true from rfl) AllP.n)))))))))))
theorem icma_May_1 {n1 : Nat} {g2 : Nat → Int} {a3 : Int} (h0 : ¬ ((n1 : Nat) : Int) < 2) (h1 : ((n1 : Nat) : Int) > 1204) :
    SCall Tryd.prog GL 11 [.sl 0 n1, I a3] [some (.row false 3 n1 1 (fun i => [I (g2 i)]))] (B false) [] :=
  SCall.path 29 [.b false, .b false, .b false, .b false, .b true, .b true, .b true, .b true, .b true, .b true, .b true] [] 1 (by kernel_rfl) rfl (by exact ⟨fun _ => rfl, trivial⟩) (AllP.c (decide_eq_false h0) (AllP.c (decide_eq_false h0) (AllP.c (decide_eq_false h0) (AllP.c (decide_eq_false h0) (AllP.c (decide_eq_true h1) (AllP.c (decide_eq_true h1) (AllP.c (decide_eq_true h1) (AllP.c (show true = true from rfl) (AllP.c (show true = true from rfl) (AllP.c (show true = true from rfl) (AllP.c (show true = true from rfl) AllP.n)))))))))))
theorem icma_May_2 {n1 : Nat} {g2 : Nat → Int} {a3 : Int} (h0 : ¬ ((n1 : Nat) : Int) < 2) (h1 : ¬ ((n1 : Nat) : Int) > 1204) (h2 : a3 < 1) :
    SCall Tryd.prog GL 11 [.sl 0 n1, I a3] [some (.row false 3 n1 1 (fun i => [I (g2 i)]))] (B false) [] :=
  SCall.path 29 [.b false, .b false, .b false, .b false, .b false, .b false, .b false, .b true, .b true, .b true, .b true] [] 1 (by kernel_rfl) rfl (by exact ⟨fun _ => rfl, trivial⟩) (AllP.c (decide_eq_false h0) (AllP.c (decide_eq_false h0) (AllP.c (decide_eq_false h0) (AllP.c (decide_eq_false h0) (AllP.c (decide_eq_false h1) (AllP.c (decide_eq_false h1) (AllP.c (decide_eq_false h1) (AllP.c (decide_eq_true h2) (AllP.c (decide_eq_true h2) (AllP.c (decide_eq_true h2) (AllP.c (show true = true from rfl) AllP.n)))))))))))
theorem icma_May_3 {n1 : Nat} {g2 : Nat → Int} {a3 : Int} (h0 : ¬ ((n1 : Nat) : Int) < 2) (h1 : ¬ ((n1 : Nat) : Int) > 1204) (h2 : ¬ a3 < 1) (h3 : a3 > 12) :
    SCall Tryd.prog GL 11 [.sl 0 n1, I a3] [some (.row false 3 n1 1 (fun i => [I (g2 i)]))] (B false) [] :=
  SCall.path 29 [.b false, .b false, .b false, .b false, .b false, .b false, .b false, .b false, .b false, .b false, .b true] [] 1 (by kernel_rfl) rfl (by exact ⟨fun _ => rfl, trivial⟩) (AllP.c (decide_eq_false h0) (AllP.c (decide_eq_false h0) (AllP.c (decide_eq_false h0) (AllP.c (decide_eq_false h0) (AllP.c (decide_eq_false h1) (AllP.c (decide_eq_false h1) (AllP.c (decide_eq_false h1) (AllP.c (decide_eq_false h2) (AllP.c (decide_eq_false h2) (AllP.c (decide_eq_false h2) (AllP.c (decide_eq_true h3) AllP.n)))))))))))
noncomputable def icma_May_h0 (n1 : Nat) (g2 : Nat → Int) (x1 : Int) (x2 : Int) : SC :=
  ⟨[⟨37, [some (.sl 0 n1), some (.fn (.func 21) [] []), none, none, none, none, none, some (I x1), some (I x2), none, none, none, none, none, none, none, none, none, none], [.code (bodyAt Tryd.f37 [1, 0, 1, 0, 0]), .inLoop (bodyAt Tryd.f37 [1, 0, 1, 0, 0]), .inBlock 0, .code (bodyAt Tryd.f37 [1, 1])], {}⟩, ⟨20, [none, none, none, none, none, some (.sl 0 n1), some (.fn (.func 21) [] []), none, none], [.inRegion (opsAt Tryd.f20 [1, 0]) [2, 3, 4], .code (bodyAt Tryd.f20 [1, 1])], {}⟩, ⟨11, [some (.sl 0 n1), none, none, none, none, none, none, none, none, none, none, none, none, none, none, none, none, none, none, none, none, none, some (.sl 0 n1), none, none, none, none, none, none, none, none, none, none, none, none, none, none, none, none, none, none, none], [.inRegion (opsAt Tryd.f11 [1, 1, 0]) [1, 2, 3], .code (bodyAt Tryd.f11 [1, 1, 1])], {}⟩], [some (.row false 3 n1 1 (fun i => [I (g2 i)]))]⟩
theorem icma_May_4 {X : Cx} {res : SV} {new : List (Option Vw)} {n1 : Nat} {g2 : Nat → Int} {a3 : Int} (hX : IsFin X Tryd.prog GL 11 [some (.row false 3 n1 1 (fun i => [I (g2 i)]))] res new) (h0 : ¬ ((n1 : Nat) : Int) < 2) (h1 : ¬ ((n1 : Nat) : Int) > 1204) (h2 : ¬ a3 < 1) (h3 : ¬ a3 > 12) (k : Ok X (icma_May_h0 n1 g2 ((n1 : Nat) : Int) 0)) :
    Ok X (entry Tryd.prog 11 [.sl 0 n1, I a3] [some (.row false 3 n1 1 (fun i => [I (g2 i)]))]) :=
  Ok.cutM 52 [.b false, .b false, .b false, .b false, .b false, .b false, .b false, .b false, .b false, .b false, .b false, .inl, .inl] [[true, true, false, false, false, false, false, true, true, false, false, false, false, false, false, false, false, false, false], [false, false, false, false, false, true, true, false, false], [true, false, false, false, false, false, false, false, false, false, false, false, false, false, false, false, false, false, false, false, false, false, true, false, false, false, false, false, false, false, false, false, false, false, false, false, false, false, false, false, false, false]] [.old 0] 1 hX.P hX.gl hX.n0 (by kernel_rfl) (by kernel_rfl) (by exact ⟨fun _ => rfl, trivial⟩) (AllP.c (decide_eq_false h0) (AllP.c (decide_eq_false h0) (AllP.c (decide_eq_false h0) (AllP.c (decide_eq_false h0) (AllP.c (decide_eq_false h1) (AllP.c (decide_eq_false h1) (AllP.c (decide_eq_false h1) (AllP.c (decide_eq_false h2) (AllP.c (decide_eq_false h2) (AllP.c (decide_eq_false h2) (AllP.c (decide_eq_false h3) AllP.n))))))))))) k
theorem icma_May_5 {X : Cx} {n1 : Nat} {g2 : Nat → Int} {x1 : Int} {x2 : Int} {r5003 : Bool} {r5004 : Bool} (hX : IsFin X Tryd.prog GL 11 [some (.row false 3 n1 1 (fun i => [I (g2 i)]))] (B (decide ((g2 0) < (g2 ((((n1 : Nat) : Int) - 1).toNat))))) []) (h0 : x2 < x1) (h1 : (0 : Int) ≤ x2 ∧ x2 < ((n1 : Nat) : Int)) (h2 : SCall Tryd.prog GL 22 [I (g2 x2.toNat)] [] (B r5003) []) (h3 : r5003 = false) (h4 : ¬ x2 ≥ 0) (h5 : SCall Tryd.prog GL 23 [.sl 0 n1] [some (.row false 3 n1 1 (fun i => [I (g2 i)]))] (B r5004) []) (h6 : r5004 = true) (h7 : (0 : Int) ≤ 0 ∧ 0 < ((n1 : Nat) : Int)) (h8 : InR .i64 (((n1 : Nat) : Int) - 1)) (h9 : (0 : Int) ≤ (((n1 : Nat) : Int) - 1) ∧ (((n1 : Nat) : Int) - 1) < ((n1 : Nat) : Int)) :
    Ok X (icma_May_h0 n1 g2 x1 x2) :=
  Ok.fin 55 [.b true, .inl, .call [] (B r5003) [], .b true, .draw 15 [] 0, .b true, .b true, .call [0] (B r5004) [], .b true, .b true, .b true, .b true, .b true, .b true, .b true, .b true, .b true, .b true, .b true, .b true] [] 1 hX (by kernel_rfl) rfl (AllP.c (decide_eq_true h0) (AllP.c h1 (AllP.c (show n1 = n1 from rfl) (AllP.c h1 (AllP.c h2 (AllP.c (Go.Sx.not_t (h3)) (AllP.c (Go.Sx.not_t (decide_eq_false h4)) (AllP.c (Go.Sx.not_t (decide_eq_false h4)) (AllP.c h5 (AllP.c (Go.Sx.not_t (decide_eq_false h4)) (AllP.c h6 (AllP.c h6 (AllP.c h7 (AllP.c (show n1 = n1 from rfl) (AllP.c h6 (AllP.c h7 (AllP.c h6 (AllP.c h6 (AllP.c h6 (AllP.c h6 (AllP.c h8 (AllP.c h6 (AllP.c h9 (AllP.c (show n1 = n1 from rfl) (AllP.c h6 (AllP.c h9 (AllP.c h6 (AllP.c h6 AllP.n))))))))))))))))))))))))))))
theorem icma_May_6 {X : Cx} {n1 : Nat} {g2 : Nat → Int} {x1 : Int} {x2 : Int} {r5003 : Bool} {r5004 : Bool} (hX : IsFin X Tryd.prog GL 11 [some (.row false 3 n1 1 (fun i => [I (g2 i)]))] (B false) []) (h0 : x2 < x1) (h1 : (0 : Int) ≤ x2 ∧ x2 < ((n1 : Nat) : Int)) (h2 : SCall Tryd.prog GL 22 [I (g2 x2.toNat)] [] (B r5003) []) (h3 : r5003 = false) (h4 : ¬ x2 ≥ 0) (h5 : SCall Tryd.prog GL 23 [.sl 0 n1] [some (.row false 3 n1 1 (fun i => [I (g2 i)]))] (B r5004) []) (h6 : r5004 = false) :
    Ok X (icma_May_h0 n1 g2 x1 x2) :=
  Ok.fin 55 [.b true, .inl, .call [] (B r5003) [], .b true, .draw 15 [] 0, .b true, .b true, .call [0] (B r5004) [], .b true, .b false, .b false, .b false, .b false, .b false, .b false, .b false, .b false, .b false, .b false, .b false] [] 1 hX (by kernel_rfl) rfl (AllP.c (decide_eq_true h0) (AllP.c h1 (AllP.c (show n1 = n1 from rfl) (AllP.c h1 (AllP.c h2 (AllP.c (Go.Sx.not_t (h3)) (AllP.c (Go.Sx.not_t (decide_eq_false h4)) (AllP.c (Go.Sx.not_t (decide_eq_false h4)) (AllP.c h5 (AllP.c (Go.Sx.not_t (decide_eq_false h4)) (AllP.c h6 (AllP.c h6 (AllP.c h6 (AllP.c h6 (AllP.c h6 (AllP.c h6 (AllP.c h6 (AllP.c h6 (AllP.c h6 (AllP.c h6 (AllP.c h6 AllP.n)))))))))))))))))))))
theorem icma_May_7 {X : Cx} {n1 : Nat} {g2 : Nat → Int} {x1 : Int} {x2 : Int} {r5003 : Bool} (hX : IsFin X Tryd.prog GL 11 [some (.row false 3 n1 1 (fun i => [I (g2 i)]))] (B false) []) (h0 : x2 < x1) (h1 : (0 : Int) ≤ x2 ∧ x2 < ((n1 : Nat) : Int)) (h2 : SCall Tryd.prog GL 22 [I (g2 x2.toNat)] [] (B r5003) []) (h3 : r5003 = false) (h4 : x2 ≥ 0) :
    Ok X (icma_May_h0 n1 g2 x1 x2) :=
  Ok.fin 55 [.b true, .inl, .call [] (B r5003) [], .b true, .draw 15 [] 0, .b false, .b false, .b false, .b false, .b false, .b false, .b false, .b false, .b false, .b false, .b false, .b false, .b false, .b false] [] 1 hX (by kernel_rfl) rfl (AllP.c (decide_eq_true h0) (AllP.c h1 (AllP.c (show n1 = n1 from rfl) (AllP.c h1 (AllP.c h2 (AllP.c (Go.Sx.not_t (h3)) (AllP.c (Go.Sx.not_f (decide_eq_true h4)) (AllP.c (Go.Sx.not_f (decide_eq_true h4)) (AllP.c (Go.Sx.not_f (decide_eq_true h4)) (AllP.c (show false = false from rfl) (AllP.c (show false = false from rfl) (AllP.c (show false = false from rfl) (AllP.c (show false = false from rfl) (AllP.c (show false = false from rfl) (AllP.c (show false = false from rfl) (AllP.c (show false = false from rfl) (AllP.c (show false = false from rfl) (AllP.c (show false = false from rfl) (AllP.c (show false = false from rfl) (AllP.c (show false = false from rfl) AllP.n))))))))))))))))))))
theorem icma_May_8 {X : Cx} {res : SV} {new : List (Option Vw)} {n1 : Nat} {g2 : Nat → Int} {x1 : Int} {x2 : Int} {r5003 : Bool} (hX : IsFin X Tryd.prog GL 11 [some (.row false 3 n1 1 (fun i => [I (g2 i)]))] res new) (h0 : x2 < x1) (h1 : (0 : Int) ≤ x2 ∧ x2 < ((n1 : Nat) : Int)) (h2 : SCall Tryd.prog GL 22 [I (g2 x2.toNat)] [] (B r5003) []) (h3 : r5003 = true) (h4 : InR .i64 (x2 + 1)) (k : Ok X (icma_May_h0 n1 g2 x1 (x2 + 1))) :
    Ok X (icma_May_h0 n1 g2 x1 x2) :=
  Ok.cutM 43 [.b true, .inl, .call [] (B r5003) [], .b false] [[true, true, false, false, false, false, false, true, true, false, false, false, false, false, false, false, false, false, false], [false, false, false, false, false, true, true, false, false], [true, false, false, false, false, false, false, false, false, false, false, false, false, false, false, false, false, false, false, false, false, false, true, false, false, false, false, false, false, false, false, false, false, false, false, false, false, false, false, false, false, false]] [.old 0] 1 hX.P hX.gl hX.n0 (by kernel_rfl) (by kernel_rfl) (by exact ⟨fun _ => rfl, trivial⟩) (AllP.c (decide_eq_true h0) (AllP.c h1 (AllP.c (show n1 = n1 from rfl) (AllP.c h1 (AllP.c h2 (AllP.c (Go.Sx.not_f (h3)) (AllP.c h4 AllP.n))))))) k
theorem icma_May_9 {X : Cx} {n1 : Nat} {g2 : Nat → Int} {x1 : Int} {x2 : Int} {r5003 : Bool} (hX : IsFin X Tryd.prog GL 11 [some (.row false 3 n1 1 (fun i => [I (g2 i)]))] (B (decide ((g2 0) < (g2 ((((n1 : Nat) : Int) - 1).toNat))))) []) (h0 : ¬ x2 < x1) (h1 : SCall Tryd.prog GL 23 [.sl 0 n1] [some (.row false 3 n1 1 (fun i => [I (g2 i)]))] (B r5003) []) (h2 : r5003 = true) (h3 : (0 : Int) ≤ 0 ∧ 0 < ((n1 : Nat) : Int)) (h4 : InR .i64 (((n1 : Nat) : Int) - 1)) (h5 : (0 : Int) ≤ (((n1 : Nat) : Int) - 1) ∧ (((n1 : Nat) : Int) - 1) < ((n1 : Nat) : Int)) :
    Ok X (icma_May_h0 n1 g2 x1 x2) :=
  Ok.fin 25 [.b false, .draw 15 [] 0, .b true, .b true, .call [0] (B r5003) [], .b true, .b true, .b true, .b true, .b true, .b true, .b true, .b true, .b true, .b true, .b true, .b true] [] 1 hX (by kernel_rfl) rfl (AllP.c (decide_eq_false h0) (AllP.c (show (!decide (((-1) : Int) ≥ 0)) = true from rfl) (AllP.c (show (!decide (((-1) : Int) ≥ 0)) = true from rfl) (AllP.c h1 (AllP.c (show (!decide (((-1) : Int) ≥ 0)) = true from rfl) (AllP.c h2 (AllP.c h2 (AllP.c h3 (AllP.c (show n1 = n1 from rfl) (AllP.c h2 (AllP.c h3 (AllP.c h2 (AllP.c h2 (AllP.c h2 (AllP.c h2 (AllP.c h4 (AllP.c h2 (AllP.c h5 (AllP.c (show n1 = n1 from rfl) (AllP.c h2 (AllP.c h5 (AllP.c h2 (AllP.c h2 AllP.n)))))))))))))))))))))))
theorem icma_May_10 {X : Cx} {n1 : Nat} {g2 : Nat → Int} {x1 : Int} {x2 : Int} {r5003 : Bool} (hX : IsFin X Tryd.prog GL 11 [some (.row false 3 n1 1 (fun i => [I (g2 i)]))] (B false) []) (h0 : ¬ x2 < x1) (h1 : SCall Tryd.prog GL 23 [.sl 0 n1] [some (.row false 3 n1 1 (fun i => [I (g2 i)]))] (B r5003) []) (h2 : r5003 = false) :
    Ok X (icma_May_h0 n1 g2 x1 x2) :=
  Ok.fin 25 [.b false, .draw 15 [] 0, .b true, .b true, .call [0] (B r5003) [], .b true, .b false, .b false, .b false, .b false, .b false, .b false, .b false, .b false, .b false, .b false, .b false] [] 1 hX (by kernel_rfl) rfl (AllP.c (decide_eq_false h0) (AllP.c (show (!decide (((-1) : Int) ≥ 0)) = true from rfl) (AllP.c (show (!decide (((-1) : Int) ≥ 0)) = true from rfl) (AllP.c h1 (AllP.c (show (!decide (((-1) : Int) ≥ 0)) = true from rfl) (AllP.c h2 (AllP.c h2 (AllP.c h2 (AllP.c h2 (AllP.c h2 (AllP.c h2 (AllP.c h2 (AllP.c h2 (AllP.c h2 (AllP.c h2 (AllP.c h2 AllP.n))))))))))))))))

theorem may_split {n : Nat} {g : Nat → Int} {f : Int} (h1 : ¬ ((n : Nat) : Int) < 2) (h2 : ¬ ((n : Nat) : Int) > 1204) (h3 : ¬ f < 1) (h4 : ¬ f > 12) :
    mayB n g f = (decide (∀ i, i < n → isDay (g i) = true) && (sortedB n g && decide (g 0 < g (n - 1)))) := by
  unfold mayB sortedB
  rw [Bool.eq_iff_iff]
  simp only [decide_eq_true_eq, Bool.and_eq_true]
  constructor
  · rintro ⟨-, -, -, -, a, b, c⟩; exact ⟨a, b, c⟩
  · rintro ⟨a, b, c⟩; exact ⟨by omega, by omega, by omega, by omega, a, b, c⟩

theorem imay_loop {X : Cx} {n : Nat} {g : Nat → Int} {f : Int} (h1 : ¬ ((n : Nat) : Int) < 2) (h2 : ¬ ((n : Nat) : Int) > 1204) (h3 : ¬ f < 1) (h4 : ¬ f > 12) (hX : IsFin X Tryd.prog GL 11 [some (.row false 3 n 1 (fun i => [I (g i)]))] (B (mayB n g f)) []) :
    ∀ (m i : Nat), n - i = m → i ≤ n → (∀ j, j < i → isDay (g j) = true) → Ok X (icma_May_h0 n g (n : Int) (i : Int))
  | 0, i, hm, hi, h => by
    have hall : (decide (∀ i, i < n → isDay (g i) = true)) = true := decide_eq_true (fun j hj => h j (by omega))
    rw [may_split h1 h2 h3 h4, hall, Bool.true_and] at hX
    cases hs : sortedB n g
    · rw [hs, Bool.false_and] at hX
      exact icma_May_10 hX (by omega) (sorted_ok (by omega)) hs
    · rw [hs, Bool.true_and] at hX
      refine icma_May_9 ?_ (by omega) (sorted_ok (by omega)) hs (by omega) (by simp only [InR]; omega) (by omega)
      rw [show (((n : Nat) : Int) - 1).toNat = n - 1 by omega]
      exact hX
  | m + 1, i, hm, hi, h => by
    have e : (i : Int).toNat = i := rfl
    cases hd : isDay (g i)
    · have hall : (decide (∀ i, i < n → isDay (g i) = true)) = false := decide_eq_false (fun hh => by rw [hh i (by omega)] at hd; cases hd)
      rw [may_split h1 h2 h3 h4, hall, Bool.false_and] at hX
      exact icma_May_7 hX (by omega) (by omega) (iday _) hd (by omega)
    · refine icma_May_8 hX (by omega) (by omega) (iday _) hd (by simp only [InR]; omega) ?_
      have := imay_loop h1 h2 h3 h4 hX m (i + 1) (by omega) (by omega) (fun j hj => by
        by_cases hji : j = i
        · subst hji; exact hd
        · exact h j (by omega))
      rwa [show (((i + 1 : Nat)) : Int) = (i : Int) + 1 by omega] at this

theorem imay {n : Nat} {g : Nat → Int} {f : Int} : SCall Tryd.prog GL 11 [.sl 0 n, I f] [some (.row false 3 n 1 (fun i => [I (g i)]))] (B (mayB n g f)) [] := by
  by_cases h1 : ((n : Nat) : Int) < 2
  · rw [show mayB n g f = false from decide_eq_false (by omega)]; exact icma_May_0 h1
  by_cases h2 : ((n : Nat) : Int) > 1204
  · rw [show mayB n g f = false from decide_eq_false (by omega)]; exact icma_May_1 h1 h2
  by_cases h3 : f < 1
  · rw [show mayB n g f = false from decide_eq_false (by omega)]; exact icma_May_2 h1 h2 h3
  by_cases h4 : f > 12
  · rw [show mayB n g f = false from decide_eq_false (by omega)]; exact icma_May_3 h1 h2 h3 h4
  refine SCall.of (by kernel_rfl) rfl ⟨fun i => rfl, trivial⟩ rfl (fun X hX => ?_)
  exact icma_May_4 hX h1 h2 h3 h4 (imay_loop h1 h2 h3 h4 hX n 0 rfl (by omega) (fun j hj => by omega))



theorem demurrageref09_May_0 {n1 : Nat} {g2 : Nat → Int} {a3 : Int} (h0 : ((n1 : Nat) : Int) < 2) :
    SCall Tryd.prog GL 12 [.sl 0 n1, I a3] [some (.row false 3 n1 1 (fun i => [I (g2 i)]))] (B false) [] :=
  SCall.path 33 [.b true, .b true, .b true, .b true, .b true, .b true, .b true, .b true, .b true, .b true] [] 1 (by kernel_rfl) rfl (by exact ⟨fun _ => rfl, trivial⟩) (AllP.c (decide_eq_true h0) (AllP.c (decide_eq_true h0) (AllP.c (decide_eq_true h0) (AllP.c (show true = true from rfl) (AllP.c (show true = true from rfl) (AllP.c (show true = true from rfl) (AllP.c (show true = true from rfl) (AllP.c (show true = true from rfl) (AllP.c (show true = true from rfl) (AllP.c (show true = true from rfl) AllP.n))))))))))
theorem demurrageref09_May_1 {n1 : Nat} {g2 : Nat → Int} {a3 : Int} (h0 : ¬ ((n1 : Nat) : Int) < 2) (h1 : ((n1 : Nat) : Int) > 1204) :
    SCall Tryd.prog GL 12 [.sl 0 n1, I a3] [some (.row false 3 n1 1 (fun i => [I (g2 i)]))] (B false) [] :=
  SCall.path 33 [.b false, .b false, .b false, .b true, .b true, .b true, .b true, .b true, .b true, .b true] [] 1 (by kernel_rfl) rfl (by exact ⟨fun _ => rfl, trivial⟩) (AllP.c (decide_eq_false h0) (AllP.c (decide_eq_false h0) (AllP.c (decide_eq_false h0) (AllP.c (decide_eq_true h1) (AllP.c (decide_eq_true h1) (AllP.c (decide_eq_true h1) (AllP.c (show true = true from rfl) (AllP.c (show true = true from rfl) (AllP.c (show true = true from rfl) (AllP.c (show true = true from rfl) AllP.n))))))))))
theorem demurrageref09_May_2 {n1 : Nat} {g2 : Nat → Int} {a3 : Int} (h0 : ¬ ((n1 : Nat) : Int) < 2) (h1 : ¬ ((n1 : Nat) : Int) > 1204) (h2 : a3 < 1) :
    SCall Tryd.prog GL 12 [.sl 0 n1, I a3] [some (.row false 3 n1 1 (fun i => [I (g2 i)]))] (B false) [] :=
  SCall.path 33 [.b false, .b false, .b false, .b false, .b false, .b false, .b true, .b true, .b true, .b true] [] 1 (by kernel_rfl) rfl (by exact ⟨fun _ => rfl, trivial⟩) (AllP.c (decide_eq_false h0) (AllP.c (decide_eq_false h0) (AllP.c (decide_eq_false h0) (AllP.c (decide_eq_false h1) (AllP.c (decide_eq_false h1) (AllP.c (decide_eq_false h1) (AllP.c (decide_eq_true h2) (AllP.c (decide_eq_true h2) (AllP.c (decide_eq_true h2) (AllP.c (show true = true from rfl) AllP.n))))))))))
theorem demurrageref09_May_3 {n1 : Nat} {g2 : Nat → Int} {a3 : Int} (h0 : ¬ ((n1 : Nat) : Int) < 2) (h1 : ¬ ((n1 : Nat) : Int) > 1204) (h2 : ¬ a3 < 1) (h3 : a3 > 12) :
    SCall Tryd.prog GL 12 [.sl 0 n1, I a3] [some (.row false 3 n1 1 (fun i => [I (g2 i)]))] (B false) [] :=
  SCall.path 33 [.b false, .b false, .b false, .b false, .b false, .b false, .b false, .b false, .b false, .b true] [] 1 (by kernel_rfl) rfl (by exact ⟨fun _ => rfl, trivial⟩) (AllP.c (decide_eq_false h0) (AllP.c (decide_eq_false h0) (AllP.c (decide_eq_false h0) (AllP.c (decide_eq_false h1) (AllP.c (decide_eq_false h1) (AllP.c (decide_eq_false h1) (AllP.c (decide_eq_false h2) (AllP.c (decide_eq_false h2) (AllP.c (decide_eq_false h2) (AllP.c (decide_eq_true h3) AllP.n))))))))))
noncomputable def demurrageref09_May_h0 (n1 : Nat) (g2 : Nat → Int) (x1 : Int) (x2 : Int) : SC :=
  ⟨[⟨12, [some (.sl 0 n1), none, none, none, none, some (I x1), some (I x2), none, none, none, none, none, none, none, none, none, none, none, none, none, none, none, none, none, none, none, none, none, none, none, none, none, none, none, none, none, none, none, none, none, none, none, none, none, none, none, none, none, none, none, none, none, none, none, none, none, none, none, none, none, none], [.code (bodyAt Tryd.f12 [1, 1, 1, 0, 1, 0, 0]), .inLoop (bodyAt Tryd.f12 [1, 1, 1, 0, 1, 0, 0]), .inBlock 0, .code (bodyAt Tryd.f12 [1, 1, 1, 1])], {}⟩], [some (.row false 3 n1 1 (fun i => [I (g2 i)]))]⟩
theorem demurrageref09_May_4 {X : Cx} {res : SV} {new : List (Option Vw)} {n1 : Nat} {g2 : Nat → Int} {a3 : Int} (hX : IsFin X Tryd.prog GL 12 [some (.row false 3 n1 1 (fun i => [I (g2 i)]))] res new) (h0 : ¬ ((n1 : Nat) : Int) < 2) (h1 : ¬ ((n1 : Nat) : Int) > 1204) (h2 : ¬ a3 < 1) (h3 : ¬ a3 > 12) (k : Ok X (demurrageref09_May_h0 n1 g2 ((n1 : Nat) : Int) 0)) :
    Ok X (entry Tryd.prog 12 [.sl 0 n1, I a3] [some (.row false 3 n1 1 (fun i => [I (g2 i)]))]) :=
  Ok.cutM 37 [.b false, .b false, .b false, .b false, .b false, .b false, .b false, .b false, .b false, .b false] [[true, false, false, false, false, true, true, false, false, false, false, false, false, false, false, false, false, false, false, false, false, false, false, false, false, false, false, false, false, false, false, false, false, false, false, false, false, false, false, false, false, false, false, false, false, false, false, false, false, false, false, false, false, false, false, false, false, false, false, false, false]] [.old 0] 1 hX.P hX.gl hX.n0 (by kernel_rfl) (by kernel_rfl) (by exact ⟨fun _ => rfl, trivial⟩) (AllP.c (decide_eq_false h0) (AllP.c (decide_eq_false h0) (AllP.c (decide_eq_false h0) (AllP.c (decide_eq_false h1) (AllP.c (decide_eq_false h1) (AllP.c (decide_eq_false h1) (AllP.c (decide_eq_false h2) (AllP.c (decide_eq_false h2) (AllP.c (decide_eq_false h2) (AllP.c (decide_eq_false h3) AllP.n)))))))))) k
theorem demurrageref09_May_5 {X : Cx} {n1 : Nat} {g2 : Nat → Int} {x1 : Int} {x2 : Int} {r5003 : Bool} (hX : IsFin X Tryd.prog GL 12 [some (.row false 3 n1 1 (fun i => [I (g2 i)]))] (B false) []) (h0 : x2 < x1) (h1 : (0 : Int) ≤ x2 ∧ x2 < ((n1 : Nat) : Int)) (h2 : SCall Tryd.prog GL 15 [I (g2 x2.toNat)] [] (B r5003) []) (h3 : r5003 = false) :
    Ok X (demurrageref09_May_h0 n1 g2 x1 x2) :=
  Ok.fin 31 [.b true, .call [] (B r5003) [], .draw 15 [] 0, .b true, .b true, .b true, .b true, .b true, .b true] [] 1 hX (by kernel_rfl) rfl (AllP.c (decide_eq_true h0) (AllP.c h1 (AllP.c (show n1 = n1 from rfl) (AllP.c h1 (AllP.c h2 (AllP.c (Go.Sx.not_t (h3)) (AllP.c (Go.Sx.not_t (h3)) (AllP.c (Go.Sx.not_t (h3)) (AllP.c (Go.Sx.not_t (h3)) (AllP.c (Go.Sx.not_t (h3)) (AllP.c (show true = true from rfl) AllP.n)))))))))))
theorem demurrageref09_May_6 {X : Cx} {n1 : Nat} {g2 : Nat → Int} {x1 : Int} {x2 : Int} {r5003 : Bool} (hX : IsFin X Tryd.prog GL 12 [some (.row false 3 n1 1 (fun i => [I (g2 i)]))] (B false) []) (h0 : x2 < x1) (h1 : (0 : Int) ≤ x2 ∧ x2 < ((n1 : Nat) : Int)) (h2 : SCall Tryd.prog GL 15 [I (g2 x2.toNat)] [] (B r5003) []) (h3 : r5003 = true) (h4 : x2 > 0) (h5 : InR .i64 (x2 - 1)) (h6 : (0 : Int) ≤ (x2 - 1) ∧ (x2 - 1) < ((n1 : Nat) : Int)) (h7 : (g2 x2.toNat) < (g2 ((x2 - 1).toNat))) :
    Ok X (demurrageref09_May_h0 n1 g2 x1 x2) :=
  Ok.fin 31 [.b true, .call [] (B r5003) [], .draw 15 [] 0, .b false, .b false, .b false, .b true, .b true, .b true, .b true, .b true, .b true, .b true, .b true, .b true, .b true, .b false, .b true, .b false, .b true] [] 1 hX (by kernel_rfl) rfl (AllP.c (decide_eq_true h0) (AllP.c h1 (AllP.c (show n1 = n1 from rfl) (AllP.c h1 (AllP.c h2 (AllP.c (Go.Sx.not_f (h3)) (AllP.c (Go.Sx.not_f (h3)) (AllP.c (Go.Sx.not_f (h3)) (AllP.c (decide_eq_true h4) (AllP.c (decide_eq_true h4) (AllP.c (decide_eq_true h4) (AllP.c h1 (AllP.c (show n1 = n1 from rfl) (AllP.c (decide_eq_true h4) (AllP.c h1 (AllP.c (decide_eq_true h4) (AllP.c (decide_eq_true h4) (AllP.c (decide_eq_true h4) (AllP.c h5 (AllP.c (decide_eq_true h4) (AllP.c h6 (AllP.c (show n1 = n1 from rfl) (AllP.c (decide_eq_true h4) (AllP.c h6 (AllP.c (decide_eq_true h4) (AllP.c (Go.Sx.not_f (h3)) (AllP.c (decide_eq_true h4) (AllP.c (Go.Sx.not_f (h3)) (AllP.c (decide_eq_true h7) AllP.n)))))))))))))))))))))))))))))
theorem demurrageref09_May_7 {X : Cx} {res : SV} {new : List (Option Vw)} {n1 : Nat} {g2 : Nat → Int} {x1 : Int} {x2 : Int} {r5003 : Bool} (hX : IsFin X Tryd.prog GL 12 [some (.row false 3 n1 1 (fun i => [I (g2 i)]))] res new) (h0 : x2 < x1) (h1 : (0 : Int) ≤ x2 ∧ x2 < ((n1 : Nat) : Int)) (h2 : SCall Tryd.prog GL 15 [I (g2 x2.toNat)] [] (B r5003) []) (h3 : r5003 = true) (h4 : x2 > 0) (h5 : InR .i64 (x2 - 1)) (h6 : (0 : Int) ≤ (x2 - 1) ∧ (x2 - 1) < ((n1 : Nat) : Int)) (h7 : ¬ (g2 x2.toNat) < (g2 ((x2 - 1).toNat))) (h8 : InR .i64 (x2 + 1)) (k : Ok X (demurrageref09_May_h0 n1 g2 x1 (x2 + 1))) :
    Ok X (demurrageref09_May_h0 n1 g2 x1 x2) :=
  Ok.cutM 35 [.b true, .call [] (B r5003) [], .draw 15 [] 0, .b false, .b false, .b false, .b true, .b true, .b true, .b true, .b true, .b true, .b true, .b true, .b true, .b true, .b false, .b true, .b false, .b false] [[true, false, false, false, false, true, true, false, false, false, false, false, false, false, false, false, false, false, false, false, false, false, false, false, false, false, false, false, false, false, false, false, false, false, false, false, false, false, false, false, false, false, false, false, false, false, false, false, false, false, false, false, false, false, false, false, false, false, false, false, false]] [.old 0] 1 hX.P hX.gl hX.n0 (by kernel_rfl) (by kernel_rfl) (by exact ⟨fun _ => rfl, trivial⟩) (AllP.c (decide_eq_true h0) (AllP.c h1 (AllP.c (show n1 = n1 from rfl) (AllP.c h1 (AllP.c h2 (AllP.c (Go.Sx.not_f (h3)) (AllP.c (Go.Sx.not_f (h3)) (AllP.c (Go.Sx.not_f (h3)) (AllP.c (decide_eq_true h4) (AllP.c (decide_eq_true h4) (AllP.c (decide_eq_true h4) (AllP.c h1 (AllP.c (show n1 = n1 from rfl) (AllP.c (decide_eq_true h4) (AllP.c h1 (AllP.c (decide_eq_true h4) (AllP.c (decide_eq_true h4) (AllP.c (decide_eq_true h4) (AllP.c h5 (AllP.c (decide_eq_true h4) (AllP.c h6 (AllP.c (show n1 = n1 from rfl) (AllP.c (decide_eq_true h4) (AllP.c h6 (AllP.c (decide_eq_true h4) (AllP.c (Go.Sx.not_f (h3)) (AllP.c (decide_eq_true h4) (AllP.c (Go.Sx.not_f (h3)) (AllP.c (decide_eq_false h7) (AllP.c h8 AllP.n)))))))))))))))))))))))))))))) k
theorem demurrageref09_May_8 {X : Cx} {res : SV} {new : List (Option Vw)} {n1 : Nat} {g2 : Nat → Int} {x1 : Int} {x2 : Int} {r5003 : Bool} (hX : IsFin X Tryd.prog GL 12 [some (.row false 3 n1 1 (fun i => [I (g2 i)]))] res new) (h0 : x2 < x1) (h1 : (0 : Int) ≤ x2 ∧ x2 < ((n1 : Nat) : Int)) (h2 : SCall Tryd.prog GL 15 [I (g2 x2.toNat)] [] (B r5003) []) (h3 : r5003 = true) (h4 : ¬ x2 > 0) (h5 : InR .i64 (x2 + 1)) (k : Ok X (demurrageref09_May_h0 n1 g2 x1 (x2 + 1))) :
    Ok X (demurrageref09_May_h0 n1 g2 x1 x2) :=
  Ok.cutM 35 [.b true, .call [] (B r5003) [], .draw 15 [] 0, .b false, .b false, .b false, .b false, .b false, .b false, .b false, .b false, .b false, .b false, .b false, .b false, .b false, .b false, .b false, .b false, .b false] [[true, false, false, false, false, true, true, false, false, false, false, false, false, false, false, false, false, false, false, false, false, false, false, false, false, false, false, false, false, false, false, false, false, false, false, false, false, false, false, false, false, false, false, false, false, false, false, false, false, false, false, false, false, false, false, false, false, false, false, false, false]] [.old 0] 1 hX.P hX.gl hX.n0 (by kernel_rfl) (by kernel_rfl) (by exact ⟨fun _ => rfl, trivial⟩) (AllP.c (decide_eq_true h0) (AllP.c h1 (AllP.c (show n1 = n1 from rfl) (AllP.c h1 (AllP.c h2 (AllP.c (Go.Sx.not_f (h3)) (AllP.c (Go.Sx.not_f (h3)) (AllP.c (Go.Sx.not_f (h3)) (AllP.c (decide_eq_false h4) (AllP.c (decide_eq_false h4) (AllP.c (decide_eq_false h4) (AllP.c (decide_eq_false h4) (AllP.c (decide_eq_false h4) (AllP.c (decide_eq_false h4) (AllP.c (decide_eq_false h4) (AllP.c (decide_eq_false h4) (AllP.c (decide_eq_false h4) (AllP.c (decide_eq_false h4) (AllP.c (Go.Sx.not_f (h3)) (AllP.c (decide_eq_false h4) (AllP.c (Go.Sx.not_f (h3)) (AllP.c (show false = false from rfl) (AllP.c h5 AllP.n))))))))))))))))))))))) k
theorem demurrageref09_May_9 {X : Cx} {n1 : Nat} {g2 : Nat → Int} {x1 : Int} {x2 : Int} (hX : IsFin X Tryd.prog GL 12 [some (.row false 3 n1 1 (fun i => [I (g2 i)]))] (B (decide ((g2 0) < (g2 ((x1 - 1).toNat))))) []) (h0 : ¬ x2 < x1) (h1 : (0 : Int) ≤ 0 ∧ 0 < ((n1 : Nat) : Int)) (h2 : InR .i64 (x1 - 1)) (h3 : (0 : Int) ≤ (x1 - 1) ∧ (x1 - 1) < ((n1 : Nat) : Int)) :
    Ok X (demurrageref09_May_h0 n1 g2 x1 x2) :=
  Ok.fin 14 [.b false, .draw 8 [] 0] [] 1 hX (by kernel_rfl) rfl (AllP.c (decide_eq_false h0) (AllP.c h1 (AllP.c (show n1 = n1 from rfl) (AllP.c h1 (AllP.c h2 (AllP.c h3 (AllP.c (show n1 = n1 from rfl) (AllP.c h3 AllP.n))))))))

theorem rmay_loop {X : Cx} {n : Nat} {g : Nat → Int} {f : Int} (h1 : ¬ ((n : Nat) : Int) < 2) (h2 : ¬ ((n : Nat) : Int) > 1204) (h3 : ¬ f < 1) (h4 : ¬ f > 12) (hX : IsFin X Tryd.prog GL 12 [some (.row false 3 n 1 (fun i => [I (g i)]))] (B (mayB n g f)) []) :
    ∀ (m i : Nat), n - i = m → i ≤ n → (∀ j, j < i → isDay (g j) = true) → (∀ j, j + 1 < i → g j ≤ g (j + 1)) → Ok X (demurrageref09_May_h0 n g (n : Int) (i : Int))
  | 0, i, hm, hi, h, hs => by
    have hall : (decide (∀ i, i < n → isDay (g i) = true)) = true := decide_eq_true (fun j hj => h j (by omega))
    have hsort : sortedB n g = true := decide_eq_true (fun j hj => hs j (by omega))
    rw [may_split h1 h2 h3 h4, hall, hsort, Bool.true_and, Bool.true_and] at hX
    refine demurrageref09_May_9 ?_ (by omega) (by omega) (by simp only [InR]; omega) (by omega)
    rw [show (((n : Nat) : Int) - 1).toNat = n - 1 by omega]
    exact hX
  | m + 1, i, hm, hi, h, hs => by
    have e : (i : Int).toNat = i := rfl
    cases hd : isDay (g i)
    · have hall : (decide (∀ i, i < n → isDay (g i) = true)) = false := decide_eq_false (fun hh => by rw [hh i (by omega)] at hd; cases hd)
      rw [may_split h1 h2 h3 h4, hall, Bool.false_and] at hX
      exact demurrageref09_May_5 hX (by omega) (by omega) (rDay _) hd
    · have hnext := fun hs' => rmay_loop h1 h2 h3 h4 hX m (i + 1) (by omega) (by omega) (fun j hj => by
        by_cases hji : j = i
        · subst hji; exact hd
        · exact h j (by omega)) hs'
      rw [show (((i + 1 : Nat)) : Int) = (i : Int) + 1 by omega] at hnext
      by_cases hi0 : i = 0
      · subst hi0
        exact demurrageref09_May_8 hX (by omega) (by omega) (rDay _) hd (by omega) (by simp only [InR]; omega) (hnext (fun j hj => by omega))
      · have e2 : ((i : Int) - 1).toNat = i - 1 := by omega
        by_cases hlt : g i < g (i - 1)
        · have hsort : sortedB n g = false := decide_eq_false (fun hh => by have := hh (i - 1) (by omega); rw [show i - 1 + 1 = i by omega] at this; omega)
          rw [may_split h1 h2 h3 h4, hsort, Bool.false_and, Bool.and_false] at hX
          exact demurrageref09_May_6 hX (by omega) (by omega) (rDay _) hd (by omega) (by simp only [InR]; omega) (by omega) (by rw [e2]; exact hlt)
        · refine demurrageref09_May_7 hX (by omega) (by omega) (rDay _) hd (by omega) (by simp only [InR]; omega) (by omega) (by rw [e2]; exact hlt) (by simp only [InR]; omega) (hnext (fun j hj => ?_))
          by_cases hji : j + 1 = i
          · subst hji; simp at hlt; exact hlt
          · exact hs j (by omega)

theorem rmay {n : Nat} {g : Nat → Int} {f : Int} : SCall Tryd.prog GL 12 [.sl 0 n, I f] [some (.row false 3 n 1 (fun i => [I (g i)]))] (B (mayB n g f)) [] := by
  by_cases h1 : ((n : Nat) : Int) < 2
  · rw [show mayB n g f = false from decide_eq_false (by omega)]; exact demurrageref09_May_0 h1
  by_cases h2 : ((n : Nat) : Int) > 1204
  · rw [show mayB n g f = false from decide_eq_false (by omega)]; exact demurrageref09_May_1 h1 h2
  by_cases h3 : f < 1
  · rw [show mayB n g f = false from decide_eq_false (by omega)]; exact demurrageref09_May_2 h1 h2 h3
  by_cases h4 : f > 12
  · rw [show mayB n g f = false from decide_eq_false (by omega)]; exact demurrageref09_May_3 h1 h2 h3 h4
  refine SCall.of (by kernel_rfl) rfl ⟨fun i => rfl, trivial⟩ rfl (fun X hX => ?_)
  exact demurrageref09_May_4 hX h1 h2 h3 h4 (rmay_loop h1 h2 h3 h4 hX n 0 rfl (by omega) (fun j hj => by omega) (fun j hj => by omega))


end Go.Proofs.YtigjggkendgjeaaDoor
