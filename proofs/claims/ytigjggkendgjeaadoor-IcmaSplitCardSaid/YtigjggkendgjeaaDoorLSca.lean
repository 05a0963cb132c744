import Derived.Test.YtigjggkendgjeaaDoorLaw
import Derived.Test.YtigjggkendgjeaaDoorPl
import Derived.Test.YtigjggkendgjeaaDoorProg
import Derived.KernelRfl
import Derived.Laws.Externs
set_option linter.unusedVariables false
set_option linter.unusedSimpArgs false
set_option maxRecDepth 100000
namespace Go.Proofs.YtigjggkendgjeaaDoor
open Go Go.Sx

theorem term_half (a b : Int) {f : Nat} (g : Nat → Int) (k : Nat) : term a b (2 * f) g k = term a b f g k * mkRat 1 2 := by
  unfold term
  by_cases h : g k < g (k + 1)
  · rw [if_pos h, if_pos h, Rat.mkRat_mul_mkRat, Int.mul_one, Nat.mul_comm _ 2, Nat.mul_assoc]
  · rw [if_neg h, if_neg h, Rat.zero_mul]

theorem psum_half (a b : Int) {f : Nat} (g : Nat → Int) : ∀ k, psum a b (2 * f) g k = psum a b f g k * mkRat 1 2
  | 0 => (Rat.zero_mul _).symm
  | k + 1 => by
    show psum a b (2 * f) g k + term a b (2 * f) g k = (psum a b f g k + term a b f g k) * mkRat 1 2
    rw [psum_half a b g k, term_half, Rat.add_mul]

theorem ov_move (a b lo hi d : Int) : ov (a + d) (b + d) (lo + d) (hi + d) = ov a b lo hi := by
  unfold ov
  repeat' split
  all_goals omega

theorem psum_move {a b d : Int} {f : Nat} {g q : Nat → Int} : ∀ k, (∀ j, j ≤ k → q j = g j + d) → psum (a + d) (b + d) f q k = psum a b f g k
  | 0, _ => rfl
  | k + 1, h => by
    show psum (a + d) (b + d) f q k + term (a + d) (b + d) f q k = psum a b f g k + term a b f g k
    rw [psum_move k (fun j hj => h j (by omega))]
    unfold term
    rw [h k (by omega), h (k + 1) (by omega), ov_move, show g (k + 1) + d - (g k + d) = g (k + 1) - g k by omega]
    by_cases hlt : g k < g (k + 1)
    · rw [if_pos hlt, if_pos (by omega)]
    · rw [if_neg hlt, if_neg (by omega)]

theorem may_move {n : Nat} {g q : Nat → Int} {f d : Int} (h : mayB n g f = true) (hd : 0 ≤ d) (hq : ∀ j, j < n → q j = g j + d) (hl : g (n - 1) + d ≤ 3652059) : mayB n q f = true := by
  obtain ⟨m1, m2, m3, m4, m5, m6, m7⟩ := may_facts h
  refine decide_eq_true ⟨m1, m2, m3, m4, fun i hi => ?_, fun i hi => ?_, ?_⟩
  · have := m5 i hi
    have := mono_le m6 (i := i) (j := n - 1) (by omega) (by omega)
    rw [hq i hi]
    exact isDay_iff.2 (by omega)
  · have := m6 i hi
    rw [hq i (by omega), hq (i + 1) (by omega)]
    omega
  · rw [hq 0 (by omega), hq (n - 1) (by omega)]
    omega

theorem may_freq {n : Nat} {g : Nat → Int} {f f' : Int} (h : mayB n g f = true) (h1 : 1 ≤ f') (h2 : f' ≤ 12) : mayB n g f' = true := by
  unfold mayB at h ⊢
  rw [decide_eq_true_eq] at h ⊢
  exact ⟨h.1, h.2.1, h1, h2, h.2.2.2.2⟩

/-- What code 0 tells. -/
theorem partR_ok {a b f : Int} {n : Nat} {g : Nat → Int} (h : (partR a b n g f).2.2 = 0) : mayB n g f = true ∧ g 0 ≤ a ∧ a ≤ b ∧ b ≤ g (n - 1) := by
  unfold partR at h
  split at h
  · cases h
  · split at h
    · cases h
    · rename_i h1
      split at h
      · cases h
      · rename_i h2
        refine ⟨?_, by omega, by omega, by omega⟩
        cases hm : mayB n g f
        · exact absurd (Or.inl hm) h2
        · rfl

theorem mulH {x : Rat} (hx : 0 ≤ x.num) (h1 : x.num < 9223372036854775808) (h2 : x.den < 9223372036854775808) (h5 : (x * mkRat 1 2).num ≤ 4611686018427387904) (h6 : (x * mkRat 1 2).den ≤ 4611686018427387904) :
    SCall Tryd.prog GL 16 [QV x, .agg [I 1, I 2]] [] (RQ (x * mkRat 1 2)) [] := by
  have e1 : (mkRat 1 2).num = 1 := by decide +kernel
  have e2 : (mkRat 1 2).den = 2 := by decide +kernel
  have := @ref_MulR x (mkRat 1 2) hx (by rw [e1]; omega) h1 h2 (by rw [e1]; omega) (by rw [e2]; omega) h5 h6
  unfold QV at this
  rw [e1, e2] at this
  exact this



theorem demurragelaw09_IcmaScales_0 {a1 : Int} {a2 : Int} {n3 : Nat} {g4 : Nat → Int} {a5 : Int} {a6 : Int} (h0 : InR .i64 a5) (h1 : (0 : Int) ≤ a5) (h2 : InR .i64 (1 + (a5 % 6))) (h3 : ((n3 : Nat) : Int) > 40) :
    SCall Tryd.prog GL 7 [.agg [I a1, I a2, .sl 0 n3, N .u8 a5, N .u16 a6]] [some (.row false 3 n3 1 (fun i => [I (g4 i)]))] (B true) [] :=
  SCall.path 67 [.call [] (B true) [], .b true, .b true, .b true, .b true, .b true, .b true] [] 2 (by kernel_rfl) rfl (by exact ⟨fun _ => rfl, trivial⟩) (AllP.c (show SCall Tryd.prog GL 8 [] [] (B true) [] from shown_ok) (AllP.c h0 (AllP.c h1 (AllP.c (show (0 : Int) < 6 from by decide) (AllP.c h2 (AllP.c (decide_eq_true h3) (AllP.c (decide_eq_true h3) (AllP.c (decide_eq_true h3) (AllP.c (decide_eq_true h3) (AllP.c (decide_eq_true h3) (AllP.c (show true = true from rfl) AllP.n)))))))))))
theorem demurragelaw09_IcmaScales_1 {a1 : Int} {a2 : Int} {n3 : Nat} {g4 : Nat → Int} {a5 : Int} {a6 : Int} {r7 : Bool} (h0 : InR .i64 a5) (h1 : (0 : Int) ≤ a5) (h2 : InR .i64 (1 + (a5 % 6))) (h3 : ¬ ((n3 : Nat) : Int) > 40) (h4 : SCall Tryd.prog GL 12 [.sl 0 n3, I (1 + (a5 % 6))] [some (.row false 3 n3 1 (fun i => [I (g4 i)]))] (B r7) []) (h5 : r7 = false) :
    SCall Tryd.prog GL 7 [.agg [I a1, I a2, .sl 0 n3, N .u8 a5, N .u16 a6]] [some (.row false 3 n3 1 (fun i => [I (g4 i)]))] (B true) [] :=
  SCall.path 67 [.call [] (B true) [], .b false, .b false, .b false, .call [0] (B r7) [], .b false, .b false, .b true] [] 2 (by kernel_rfl) rfl (by exact ⟨fun _ => rfl, trivial⟩) (AllP.c (show SCall Tryd.prog GL 8 [] [] (B true) [] from shown_ok) (AllP.c h0 (AllP.c h1 (AllP.c (show (0 : Int) < 6 from by decide) (AllP.c h2 (AllP.c (decide_eq_false h3) (AllP.c (decide_eq_false h3) (AllP.c (decide_eq_false h3) (AllP.c h4 (AllP.c (decide_eq_false h3) (AllP.c (decide_eq_false h3) (AllP.c (Go.Sx.not_t (h5)) AllP.n))))))))))))
theorem demurragelaw09_IcmaScales_2 {a1 : Int} {a2 : Int} {n3 : Nat} {g4 : Nat → Int} {a5 : Int} {a6 : Int} {r7 : Bool} {r8 : Int} {r9 : Int} {r10 : Int} (h0 : InR .i64 a5) (h1 : (0 : Int) ≤ a5) (h2 : InR .i64 (1 + (a5 % 6))) (h3 : ¬ ((n3 : Nat) : Int) > 40) (h4 : SCall Tryd.prog GL 12 [.sl 0 n3, I (1 + (a5 % 6))] [some (.row false 3 n3 1 (fun i => [I (g4 i)]))] (B r7) []) (h5 : r7 = true) (h6 : SCall Tryd.prog GL 9 [I a1, I a2, .sl 0 n3, I (1 + (a5 % 6))] [some (.row false 3 n3 1 (fun i => [I (g4 i)]))] (.tup [.agg [I r8, I r9], I r10]) []) (h7 : r10 ≠ 0) :
    SCall Tryd.prog GL 7 [.agg [I a1, I a2, .sl 0 n3, N .u8 a5, N .u16 a6]] [some (.row false 3 n3 1 (fun i => [I (g4 i)]))] (B true) [] :=
  SCall.path 89 [.call [] (B true) [], .b false, .b false, .b false, .call [0] (B r7) [], .b false, .b false, .b false, .call [0] (.tup [.agg [I r8, I r9], I r10]) [], .b true] [] 3 (by kernel_rfl) rfl (by exact ⟨fun _ => rfl, trivial⟩) (AllP.c (show SCall Tryd.prog GL 8 [] [] (B true) [] from shown_ok) (AllP.c h0 (AllP.c h1 (AllP.c (show (0 : Int) < 6 from by decide) (AllP.c h2 (AllP.c (decide_eq_false h3) (AllP.c (decide_eq_false h3) (AllP.c (decide_eq_false h3) (AllP.c h4 (AllP.c (decide_eq_false h3) (AllP.c (decide_eq_false h3) (AllP.c (Go.Sx.not_f (h5)) (AllP.c h6 (AllP.c (bne_iff_ne.2 h7) AllP.n))))))))))))))
theorem demurragelaw09_IcmaScales_6 {a1 : Int} {a2 : Int} {n3 : Nat} {g4 : Nat → Int} {a5 : Int} {a6 : Int} {r7 : Bool} {r8 : Int} {r9 : Int} {r10 : Int} {r11 : Int} {r12 : Int} {r13 : Int} {r14 : Int} {r15 : Int} {r16 : Int} (h0 : InR .i64 a5) (h1 : (0 : Int) ≤ a5) (h2 : InR .i64 (1 + (a5 % 6))) (h3 : ¬ ((n3 : Nat) : Int) > 40) (h4 : SCall Tryd.prog GL 12 [.sl 0 n3, I (1 + (a5 % 6))] [some (.row false 3 n3 1 (fun i => [I (g4 i)]))] (B r7) []) (h5 : r7 = true) (h6 : SCall Tryd.prog GL 9 [I a1, I a2, .sl 0 n3, I (1 + (a5 % 6))] [some (.row false 3 n3 1 (fun i => [I (g4 i)]))] (.tup [.agg [I r8, I r9], I r10]) []) (h7 : r10 = 0) (h8 : InR .i64 (2 * (1 + (a5 % 6)))) (h9 : SCall Tryd.prog GL 9 [I a1, I a2, .sl 0 n3, I (2 * (1 + (a5 % 6)))] [some (.row false 3 n3 1 (fun i => [I (g4 i)]))] (.tup [.agg [I r11, I r12], I r13]) []) (h10 : SCall Tryd.prog GL 16 [.agg [I r8, I r9], .agg [I 1, I 2]] [] (.tup [.agg [I r14, I r15], I r16]) []) (h11 : r13 = 0) (h12 : r16 = 0) (h13 : ((r11 == r14) && ((r12 == r15) && true)) = true) (h14 : InR .i64 a6) (h15 : InR .i64 (((n3 : Nat) : Int) - 1)) (h16 : (0 : Int) ≤ (((n3 : Nat) : Int) - 1) ∧ (((n3 : Nat) : Int) - 1) < ((n3 : Nat) : Int)) (h17 : InR .i64 ((g4 ((((n3 : Nat) : Int) - 1).toNat)) + a6)) (h18 : ((g4 ((((n3 : Nat) : Int) - 1).toNat)) + a6) > 3652059) :
    SCall Tryd.prog GL 7 [.agg [I a1, I a2, .sl 0 n3, N .u8 a5, N .u16 a6]] [some (.row false 3 n3 1 (fun i => [I (g4 i)]))] (B true) [] :=
  SCall.path 154 [.call [] (B true) [], .b false, .b false, .b false, .call [0] (B r7) [], .b false, .b false, .b false, .call [0] (.tup [.agg [I r8, I r9], I r10]) [], .b false, .call [0] (.tup [.agg [I r11, I r12], I r13]) [], .call [] (.tup [.agg [I r14, I r15], I r16]) [], .b false, .b false, .b false, .b false, .b false, .b false, .b false, .b false, .b true] [] 5 (by kernel_rfl) rfl (by exact ⟨fun _ => rfl, trivial⟩) (AllP.c (show SCall Tryd.prog GL 8 [] [] (B true) [] from shown_ok) (AllP.c h0 (AllP.c h1 (AllP.c (show (0 : Int) < 6 from by decide) (AllP.c h2 (AllP.c (decide_eq_false h3) (AllP.c (decide_eq_false h3) (AllP.c (decide_eq_false h3) (AllP.c h4 (AllP.c (decide_eq_false h3) (AllP.c (decide_eq_false h3) (AllP.c (Go.Sx.not_f (h5)) (AllP.c h6 (AllP.c (bne_eq_false_iff_eq.2 h7) (AllP.c h8 (AllP.c h9 (AllP.c h10 (AllP.c (bne_eq_false_iff_eq.2 h11) (AllP.c (bne_eq_false_iff_eq.2 h11) (AllP.c (bne_eq_false_iff_eq.2 h11) (AllP.c (bne_eq_false_iff_eq.2 h12) (AllP.c (bne_eq_false_iff_eq.2 h12) (AllP.c (bne_eq_false_iff_eq.2 h12) (AllP.c (bne_eq_false_iff_eq.2 h12) (AllP.c (Go.Sx.not_f (h13)) (AllP.c h14 (AllP.c h15 (AllP.c h16 (AllP.c (show n3 = n3 from rfl) (AllP.c h16 (AllP.c h17 (AllP.c (decide_eq_true h18) AllP.n))))))))))))))))))))))))))))))))
noncomputable def demurragelaw09_IcmaScales_h0 (n3 : Nat) (g4 : Nat → Int) (x1 : Int) (x2 : Int) (x3 : Int) (x4 : Int) (x5 : Int) (x6 : Int) (x7 : Int) (n3_ : Nat) (g1031 : Nat → Int) : SC :=
  ⟨[⟨7, [none, none, none, some (I x1), some (I x2), some (.sl 0 n3), none, none, some (B true), some (I x3), some (.ptr 2 0), none, none, none, none, none, some (I x4), some (.sl 3 n3_), some (I x5), none, none, none, none, none, none, none, none, none, none, none, none, none, none, none, none, none, none, none, none, none, none, none, none, none, none, none, none, none, none, none, none, none, none, none, none, none, none, none, none, none, none, none, none, none, none, none, none, none, none, none, none, none, none, none, none, none, none, none, none, none, none, none, none, none, none, none, none, none, none, none, none, none, none, none, none, none, none, none, none, none, none, none, none, none, none, none, none, none, none, none, none, none, none, none, none, none, none, none, none, none, none, none, none, none, none, none, none, none, none, none, none, none], [.code (bodyAt Tryd.f7 [1, 1, 1, 1, 1, 1, 1, 1, 1, 1, 1, 1, 1, 1, 1, 1, 1, 0, 1, 0, 0]), .inLoop (bodyAt Tryd.f7 [1, 1, 1, 1, 1, 1, 1, 1, 1, 1, 1, 1, 1, 1, 1, 1, 1, 0, 1, 0, 0]), .inBlock 0, .code (bodyAt Tryd.f7 [1, 1, 1, 1, 1, 1, 1, 1, 1, 1, 1, 1, 1, 1, 1, 1, 1, 1])], {}⟩], [some (.row false 3 n3 1 (fun i => [I (g4 i)])), none, some (.box true [I x6, I x7]), some (.row true 3 n3_ 1 (fun i => [I (g1031 i)]))]⟩
theorem demurragelaw09_IcmaScales_7 {X : Cx} {res : SV} {new : List (Option Vw)} {a1 : Int} {a2 : Int} {n3 : Nat} {g4 : Nat → Int} {a5 : Int} {a6 : Int} {r7 : Bool} {r8 : Int} {r9 : Int} {r10 : Int} {r11 : Int} {r12 : Int} {r13 : Int} {r14 : Int} {r15 : Int} {r16 : Int} (hX : IsFin X Tryd.prog GL 7 [some (.row false 3 n3 1 (fun i => [I (g4 i)]))] res new) (h0 : InR .i64 a5) (h1 : (0 : Int) ≤ a5) (h2 : InR .i64 (1 + (a5 % 6))) (h3 : ¬ ((n3 : Nat) : Int) > 40) (h4 : SCall Tryd.prog GL 12 [.sl 0 n3, I (1 + (a5 % 6))] [some (.row false 3 n3 1 (fun i => [I (g4 i)]))] (B r7) []) (h5 : r7 = true) (h6 : SCall Tryd.prog GL 9 [I a1, I a2, .sl 0 n3, I (1 + (a5 % 6))] [some (.row false 3 n3 1 (fun i => [I (g4 i)]))] (.tup [.agg [I r8, I r9], I r10]) []) (h7 : r10 = 0) (h8 : InR .i64 (2 * (1 + (a5 % 6)))) (h9 : SCall Tryd.prog GL 9 [I a1, I a2, .sl 0 n3, I (2 * (1 + (a5 % 6)))] [some (.row false 3 n3 1 (fun i => [I (g4 i)]))] (.tup [.agg [I r11, I r12], I r13]) []) (h10 : SCall Tryd.prog GL 16 [.agg [I r8, I r9], .agg [I 1, I 2]] [] (.tup [.agg [I r14, I r15], I r16]) []) (h11 : r13 = 0) (h12 : r16 = 0) (h13 : ((r11 == r14) && ((r12 == r15) && true)) = true) (h14 : InR .i64 a6) (h15 : InR .i64 (((n3 : Nat) : Int) - 1)) (h16 : (0 : Int) ≤ (((n3 : Nat) : Int) - 1) ∧ (((n3 : Nat) : Int) - 1) < ((n3 : Nat) : Int)) (h17 : InR .i64 ((g4 ((((n3 : Nat) : Int) - 1).toNat)) + a6)) (h18 : ¬ ((g4 ((((n3 : Nat) : Int) - 1).toNat)) + a6) > 3652059) (k : Ok X (demurragelaw09_IcmaScales_h0 n3 g4 a1 a2 (1 + (a5 % 6)) a6 0 r8 r9 0 (fun _ => default))) :
    Ok X (entry Tryd.prog 7 [.agg [I a1, I a2, .sl 0 n3, N .u8 a5, N .u16 a6]] [some (.row false 3 n3 1 (fun i => [I (g4 i)]))]) :=
  Ok.cutM 161 [.call [] (B true) [], .b false, .b false, .b false, .call [0] (B r7) [], .b false, .b false, .b false, .call [0] (.tup [.agg [I r8, I r9], I r10]) [], .b false, .call [0] (.tup [.agg [I r11, I r12], I r13]) [], .call [] (.tup [.agg [I r14, I r15], I r16]) [], .b false, .b false, .b false, .b false, .b false, .b false, .b false, .b false, .b false] [[false, false, false, true, true, true, false, false, true, true, true, false, false, false, false, false, true, true, true, false, false, false, false, false, false, false, false, false, false, false, false, false, false, false, false, false, false, false, false, false, false, false, false, false, false, false, false, false, false, false, false, false, false, false, false, false, false, false, false, false, false, false, false, false, false, false, false, false, false, false, false, false, false, false, false, false, false, false, false, false, false, false, false, false, false, false, false, false, false, false, false, false, false, false, false, false, false, false, false, false, false, false, false, false, false, false, false, false, false, false, false, false, false, false, false, false, false, false, false, false, false, false, false, false, false, false, false, false, false, false, false, false]] [.old 0, .old 1001, .old 2, .nil 1] 1 hX.P hX.gl hX.n0 (by kernel_rfl) (by kernel_rfl) (by exact ⟨fun _ => rfl, rfl, fun _ => rfl, trivial⟩) (AllP.c (show SCall Tryd.prog GL 8 [] [] (B true) [] from shown_ok) (AllP.c h0 (AllP.c h1 (AllP.c (show (0 : Int) < 6 from by decide) (AllP.c h2 (AllP.c (decide_eq_false h3) (AllP.c (decide_eq_false h3) (AllP.c (decide_eq_false h3) (AllP.c h4 (AllP.c (decide_eq_false h3) (AllP.c (decide_eq_false h3) (AllP.c (Go.Sx.not_f (h5)) (AllP.c h6 (AllP.c (bne_eq_false_iff_eq.2 h7) (AllP.c h8 (AllP.c h9 (AllP.c h10 (AllP.c (bne_eq_false_iff_eq.2 h11) (AllP.c (bne_eq_false_iff_eq.2 h11) (AllP.c (bne_eq_false_iff_eq.2 h11) (AllP.c (bne_eq_false_iff_eq.2 h12) (AllP.c (bne_eq_false_iff_eq.2 h12) (AllP.c (bne_eq_false_iff_eq.2 h12) (AllP.c (bne_eq_false_iff_eq.2 h12) (AllP.c (Go.Sx.not_f (h13)) (AllP.c h14 (AllP.c h15 (AllP.c h16 (AllP.c (show n3 = n3 from rfl) (AllP.c h16 (AllP.c h17 (AllP.c (decide_eq_false h18) AllP.n)))))))))))))))))))))))))))))))) k
theorem demurragelaw09_IcmaScales_8 {X : Cx} {res : SV} {new : List (Option Vw)} {n3 : Nat} {g4 : Nat → Int} {x1 : Int} {x2 : Int} {x3 : Int} {x4 : Int} {x5 : Int} {x6 : Int} {x7 : Int} {n3_ : Nat} {g1031 : Nat → Int} {q5008 : Nat → Int} (hX : IsFin X Tryd.prog GL 7 [some (.row false 3 n3 1 (fun i => [I (g4 i)]))] res new) (h0 : x5 < ((n3 : Nat) : Int)) (h1 : (0 : Int) ≤ x5 ∧ x5 < ((n3 : Nat) : Int)) (h2 : InR .i64 ((g4 x5.toNat) + x4)) (h3 : ∀ k, k < (n3_ + 1) → q5008 k = if k < n3_ then (g1031 k) else ((g4 x5.toNat) + x4)) (h4 : (n3_ + 1) * 8 ≤ 140737488355328) (h5 : InR .i64 (x5 + 1)) (k : Ok X (demurragelaw09_IcmaScales_h0 n3 g4 x1 x2 x3 x4 (x5 + 1) x6 x7 (n3_ + 1) q5008)) :
    Ok X (demurragelaw09_IcmaScales_h0 n3 g4 x1 x2 x3 x4 x5 x6 x7 n3_ g1031) :=
  Ok.cutM 31 [.b true, .row (fun i => [I ((g4 x5.toNat) + x4)]), .row (fun i => [I (q5008 i)])] [[false, false, false, true, true, true, false, false, true, true, true, false, false, false, false, false, true, true, true, false, false, false, false, false, false, false, false, false, false, false, false, false, false, false, false, false, false, false, false, false, false, false, false, false, false, false, false, false, false, false, false, false, false, false, false, false, false, false, false, false, false, false, false, false, false, false, false, false, false, false, false, false, false, false, false, false, false, false, false, false, false, false, false, false, false, false, false, false, false, false, false, false, false, false, false, false, false, false, false, false, false, false, false, false, false, false, false, false, false, false, false, false, false, false, false, false, false, false, false, false, false, false, false, false, false, false, false, false, false, false, false, false]] [.old 0, .old 1001, .old 2, .old 5] 1 hX.P hX.gl hX.n0 (by kernel_rfl) (by kernel_rfl) (by exact ⟨fun _ => rfl, rfl, fun _ => rfl, trivial⟩) (AllP.c (decide_eq_true h0) (AllP.c h1 (AllP.c (show n3 = n3 from rfl) (AllP.c h1 (AllP.c h2 (AllP.c (show ∀ k, k < 1 → (fun i => [I ((g4 x5.toNat) + x4)]) k = [[I ((g4 x5.toNat) + x4)]].getD k [] from by intro k hk; match k, hk with | 0, _ => rfl | k + 1, hk => omega) (AllP.c (show 1 = 1 from rfl) (AllP.c (show n3_ = n3_ from rfl) (AllP.c h4 (AllP.c (show ∀ k, k < n3_ + 1 → (fun i => [I (q5008 i)]) k = if k < n3_ then (fun i => [I (g1031 i)]) k else (fun i => [I ((g4 x5.toNat) + x4)]) (k - n3_) from fun k hk => by
      have e0 := h3 k hk
      by_cases c : k < n3_
      · rw [if_pos c] at e0 ⊢; simp only [e0]
      · rw [if_neg c] at e0 ⊢; simp only [e0]) (AllP.c h5 AllP.n))))))))))) k
theorem demurragelaw09_IcmaScales_9 {X : Cx} {n3 : Nat} {g4 : Nat → Int} {x1 : Int} {x2 : Int} {x3 : Int} {x4 : Int} {x5 : Int} {x6 : Int} {x7 : Int} {n3_ : Nat} {g1031 : Nat → Int} {r5008 : Int} {r5009 : Int} {r5010 : Int} (hX : IsFin X Tryd.prog GL 7 [some (.row false 3 n3 1 (fun i => [I (g4 i)]))] (B ((r5008 == x6) && ((r5009 == x7) && true))) []) (h0 : ¬ x5 < ((n3 : Nat) : Int)) (h1 : InR .i64 (x1 + x4)) (h2 : InR .i64 (x2 + x4)) (h3 : SCall Tryd.prog GL 9 [I (x1 + x4), I (x2 + x4), .sl 0 n3_, I x3] [some (.row false 3 n3_ 1 (fun i => [I (g1031 i)]))] (.tup [.agg [I r5008, I r5009], I r5010]) []) (h4 : r5010 = 0) :
    Ok X (demurragelaw09_IcmaScales_h0 n3 g4 x1 x2 x3 x4 x5 x6 x7 n3_ g1031) :=
  Ok.fin 42 [.b false, .call [3] (.tup [.agg [I r5008, I r5009], I r5010]) [], .b true, .b true, .b true, .b true, .b true, .b true, .b true] [] 5 hX (by kernel_rfl) rfl (AllP.c (decide_eq_false h0) (AllP.c h1 (AllP.c h2 (AllP.c h3 (AllP.c (show true = true from rfl) (AllP.c (show true = true from rfl) (AllP.c (show true = true from rfl) (AllP.c (beq_iff_eq.2 h4) (AllP.c (beq_iff_eq.2 h4) (AllP.c (beq_iff_eq.2 h4) (AllP.c (beq_iff_eq.2 h4) AllP.n)))))))))))

theorem scales_loop {X : Cx} {n : Nat} {g : Nat → Int} {a b f d : Int} (hd0 : 0 ≤ d) (hd1 : d ≤ 65535) (hm : mayB n g f = true) (hl : g (n - 1) + d ≤ 3652059) (ha : g 0 ≤ a) (hab : a ≤ b) (hb : b ≤ g (n - 1))
    (hX : IsFin X Tryd.prog GL 7 [some (.row false 3 n 1 (fun i => [I (g i)]))] (B true) []) :
    ∀ m i q, i + m = n → (∀ j, j < i → q j = g j + d) → Ok X (demurragelaw09_IcmaScales_h0 n g a b f d (i : Int) (psum a b f.toNat g (n - 1)).num ((psum a b f.toNat g (n - 1)).den : Int) i q)
  | 0, i, q, h, hq => by
    have hi : i = n := by omega
    subst hi
    obtain ⟨m1, m2, m3, m4, m5, m6, m7⟩ := may_facts hm
    have d1 := m5 0 (by omega)
    have d2 := m5 (i - 1) (by omega)
    have hp := @ipart i q (a + d) (b + d) f
    rw [partR_in (may_move hm hd0 hq hl) (by rw [hq 0 (by omega)]; omega) (by omega) (by rw [hq (i - 1) (by omega)]; omega), psum_move (g := g) (i - 1) (fun j hj => hq j (by omega))] at hp
    refine demurragelaw09_IcmaScales_9 ?_ (by omega) (by simp only [InR]; omega) (by simp only [InR]; omega) hp rfl
    simpa using hX
  | m + 1, i, q, h, hq => by
    obtain ⟨m1, m2, m3, m4, m5, m6, m7⟩ := may_facts hm
    have di := m5 i (by omega)
    have e : (i : Int).toNat = i := rfl
    refine demurragelaw09_IcmaScales_8 (q5008 := fun k => if k < i then q k else g i + d) hX (by omega) (by omega) (by rw [e]; simp only [InR]; omega) (fun k hk => by rw [e]) (by omega) (by simp only [InR]; omega) ?_
    have := scales_loop hd0 hd1 hm hl ha hab hb hX m (i + 1) (fun k => if k < i then q k else g i + d) (by omega) (fun j hj => by
      by_cases hji : j < i
      · simp only [if_pos hji]; exact hq j hji
      · simp only [if_neg hji]; rw [show j = i by omega])
    rw [show (((i + 1 : Nat)) : Int) = (i : Int) + 1 by omega] at this
    exact this

theorem scales_ok {n : Nat} {g : Nat → Int} {a b a5 a6 : Int} (i5 : InR .u8 a5) (i6 : InR .u16 a6) :
    SCall Tryd.prog GL 7 [.agg [I a, I b, .sl 0 n, N .u8 a5, N .u16 a6]] [some (.row false 3 n 1 (fun i => [I (g i)]))] (B true) [] := by
  simp only [InR] at i5 i6
  have b5 : 0 ≤ a5 % 6 ∧ a5 % 6 < 6 := by omega
  have q0 : InR .i64 a5 := by simp only [InR]; omega
  have q1 : (0 : Int) ≤ a5 := by omega
  have q2 : InR .i64 (1 + a5 % 6) := by simp only [InR]; omega
  by_cases h : ((n : Nat) : Int) > 40
  · exact demurragelaw09_IcmaScales_0 q0 q1 q2 h
  cases hm : mayB n g (1 + a5 % 6)
  · exact demurragelaw09_IcmaScales_1 q0 q1 q2 h rmay hm
  by_cases hc : (partR a b n g (1 + a5 % 6)).2.2 = 0
  · obtain ⟨-, ha, hab, hb⟩ := partR_ok hc
    obtain ⟨m1, m2, m3, m4, m5, m6, m7⟩ := may_facts hm
    have d1 := m5 0 (by omega)
    have d2 := m5 (n - 1) (by omega)
    have hp := @ipart n g a b (1 + a5 % 6)
    rw [partR_in hm ha hab hb] at hp
    have hp2 := @ipart n g a b (2 * (1 + a5 % 6))
    rw [partR_in (may_freq hm (by omega) (by omega)) ha hab hb, show (2 * (1 + a5 % 6)).toNat = 2 * (1 + a5 % 6).toNat by omega, psum_half] at hp2
    have s1 := psum_small (f := (1 + a5 % 6).toNat) (by omega) (by omega) m2 m6 m5 a b (Nat.le_refl (n - 1))
    have s2 := psum_small (f := 2 * (1 + a5 % 6).toNat) (by omega) (by omega) m2 m6 m5 a b (Nat.le_refl (n - 1))
    rw [psum_half] at s2
    have hmul := @mulH (psum a b (1 + a5 % 6).toNat g (n - 1)) (by omega) (by omega) (by omega) (by omega) (by omega)
    have eg : (((n : Nat) : Int) - 1).toNat = n - 1 := by omega
    have q15 : InR .i64 (((n : Nat) : Int) - 1) := by simp only [InR]; omega
    have q16 : (0 : Int) ≤ ((n : Nat) : Int) - 1 ∧ ((n : Nat) : Int) - 1 < ((n : Nat) : Int) := by omega
    by_cases hl : g (((n : Nat) : Int) - 1).toNat + a6 > 3652059
    · exact demurragelaw09_IcmaScales_6 q0 q1 q2 h rmay hm hp rfl (by simp only [InR]; omega) hp2 hmul rfl rfl (by simp) (by simp only [InR]; omega) q15 q16 (by rw [eg]; simp only [InR]; omega) hl
    · refine SCall.of (by kernel_rfl) rfl ⟨fun i => rfl, trivial⟩ rfl (fun X hX => ?_)
      have hl' := hl
      rw [eg] at hl'
      exact demurragelaw09_IcmaScales_7 hX q0 q1 q2 h rmay hm hp rfl (by simp only [InR]; omega) hp2 hmul rfl rfl (by simp) (by simp only [InR]; omega) q15 q16 (by rw [eg]; simp only [InR]; omega) hl
        (scales_loop (by omega) (by omega) hm (by omega) ha hab hb hX n 0 _ (by omega) (fun j hj => by omega))
  · exact demurragelaw09_IcmaScales_2 q0 q1 q2 h rmay hm ipart hc


end Go.Proofs.YtigjggkendgjeaaDoor
