import Derived.Test.YtigjggkendgjeaaDoorLaw
import Derived.Test.YtigjggkendgjeaaDoorPl
import Derived.Test.YtigjggkendgjeaaDoorProg
import Derived.KernelRfl
import Derived.Laws.Externs
set_option linter.unusedVariables false
set_option linter.unusedSimpArgs false
set_option maxRecDepth 100000
namespace Go.Proofs.YtigjggkendgjeaaDoor
open Go Go.Sx

theorem mkRat_one (k : Nat) (hk : k ≠ 0) : (mkRat ((1 : Nat) : Int) k).num = 1 ∧ ((mkRat ((1 : Nat) : Int) k).den : Int) = k := by
  rw [num_nat 1 hk, den_nat 1 hk, Nat.gcd_one_left]
  simp

abbrev g2 (x n : Int) : Nat → Int := fun i => [x, x + n].getD i 0
abbrev g4 (x n : Int) : Nat → Int := fun i => [x, x, x + n, x + n].getD i 0

theorem ov_in {x n lo w : Int} (h1 : 0 ≤ lo) (h2 : 0 ≤ w) (h3 : lo + w ≤ n) : ov (x + lo) (x + (lo + w)) x (x + n) = w := by
  unfold ov
  repeat' split
  all_goals omega

theorem whole2 {x n lo w : Int} {k : Nat} (hn : 1 ≤ n) (h1 : 0 ≤ lo) (h2 : 0 ≤ w) (h3 : lo + w ≤ n) : psum (x + lo) (x + (lo + w)) k (g2 x n) (2 - 1) = mkRat w (k * n.toNat) := by
  show 0 + term (x + lo) (x + (lo + w)) k (g2 x n) 0 = _
  rw [Rat.zero_add]
  unfold term
  show (if x < x + n then mkRat (ov (x + lo) (x + (lo + w)) x (x + n)) (k * (x + n - x).toNat) else 0) = _
  rw [if_pos (by omega), ov_in h1 h2 h3, show x + n - x = n by omega]

theorem whole4 {x n lo w : Int} {k : Nat} (hn : 1 ≤ n) (h1 : 0 ≤ lo) (h2 : 0 ≤ w) (h3 : lo + w ≤ n) : psum (x + lo) (x + (lo + w)) k (g4 x n) (4 - 1) = mkRat w (k * n.toNat) := by
  show 0 + term (x + lo) (x + (lo + w)) k (g4 x n) 0 + term (x + lo) (x + (lo + w)) k (g4 x n) 1 + term (x + lo) (x + (lo + w)) k (g4 x n) 2 = _
  have t0 : term (x + lo) (x + (lo + w)) k (g4 x n) 0 = 0 := if_neg (by show ¬ x < x; omega)
  have t2 : term (x + lo) (x + (lo + w)) k (g4 x n) 2 = 0 := if_neg (by show ¬ x + n < x + n; omega)
  rw [t0, t2, Rat.add_zero, Rat.add_zero, Rat.zero_add]
  unfold term
  show (if x < x + n then mkRat (ov (x + lo) (x + (lo + w)) x (x + n)) (k * (x + n - x).toNat) else 0) = _
  rw [if_pos (by omega), ov_in h1 h2 h3, show x + n - x = n by omega]

theorem may2 {x n f : Int} (h1 : 1 ≤ x) (h2 : x + n ≤ 3652059) (hn : 1 ≤ n) (hf : 1 ≤ f) (hf2 : f ≤ 12) : mayB 2 (g2 x n) f = true := by
  refine decide_eq_true ⟨by omega, by omega, hf, hf2, fun i hi => ?_, fun i hi => ?_, by show x < x + n; omega⟩
  · match i, hi with
    | 0, _ => exact isDay_iff.2 (by show 1 ≤ x ∧ x ≤ _; omega)
    | 1, _ => exact isDay_iff.2 (by show 1 ≤ x + n ∧ x + n ≤ _; omega)
  · match i, hi with
    | 0, _ => show x ≤ x + n; omega

theorem may4 {x n f : Int} (h1 : 1 ≤ x) (h2 : x + n ≤ 3652059) (hn : 1 ≤ n) (hf : 1 ≤ f) (hf2 : f ≤ 12) : mayB 4 (g4 x n) f = true := by
  refine decide_eq_true ⟨by omega, by omega, hf, hf2, fun i hi => ?_, fun i hi => ?_, by show x < x + n; omega⟩
  · match i, hi with
    | 0, _ => exact isDay_iff.2 (by show 1 ≤ x ∧ x ≤ _; omega)
    | 1, _ => exact isDay_iff.2 (by show 1 ≤ x ∧ x ≤ _; omega)
    | 2, _ => exact isDay_iff.2 (by show 1 ≤ x + n ∧ x + n ≤ _; omega)
    | 3, _ => exact isDay_iff.2 (by show 1 ≤ x + n ∧ x + n ≤ _; omega)
  · match i, hi with
    | 0, _ => show x ≤ x; omega
    | 1, _ => show x ≤ x + n; omega
    | 2, _ => show x + n ≤ x + n; omega

theorem part2 {x n lo w k : Int} (h1 : 1 ≤ x) (h2 : x + n ≤ 3652059) (hn : 1 ≤ n) (hf : 1 ≤ k) (hf2 : k ≤ 12) (l1 : 0 ≤ lo) (l2 : 0 ≤ w) (l3 : lo + w ≤ n) :
    SCall Tryd.prog GL 9 [I (x + lo), I (x + (lo + w)), .sl 0 2, I k] [some (.row false 3 2 1 (fun i => [I (g2 x n i)]))] (RQ (mkRat w (k.toNat * n.toNat))) [] := by
  have h := @ipart 2 (g2 x n) (x + lo) (x + (lo + w)) k
  rw [partR_in (may2 h1 h2 hn hf hf2) (by show x ≤ _; omega) (by omega) (by show _ ≤ x + n; omega), whole2 hn l1 l2 l3] at h
  exact h

theorem part4 {x n lo w k : Int} (h1 : 1 ≤ x) (h2 : x + n ≤ 3652059) (hn : 1 ≤ n) (hf : 1 ≤ k) (hf2 : k ≤ 12) (l1 : 0 ≤ lo) (l2 : 0 ≤ w) (l3 : lo + w ≤ n) :
    SCall Tryd.prog GL 9 [I (x + lo), I (x + (lo + w)), .sl 0 4, I k] [some (.row false 3 4 1 (fun i => [I (g4 x n i)]))] (RQ (mkRat w (k.toNat * n.toNat))) [] := by
  have h := @ipart 4 (g4 x n) (x + lo) (x + (lo + w)) k
  rw [partR_in (may4 h1 h2 hn hf hf2) (by show x ≤ _; omega) (by omega) (by show _ ≤ x + n; omega), whole4 hn l1 l2 l3] at h
  exact h

theorem newW {n w k : Int} (hn : 1 ≤ n) (hn2 : n ≤ 2000) (hf : 1 ≤ k) (hf2 : k ≤ 12) (l2 : 0 ≤ w) (l3 : w ≤ 2000) :
    SCall Tryd.prog GL 13 [I w, I (k * n)] [] (RQ (mkRat w (k.toNat * n.toNat))) [] := by
  obtain ⟨N, rfl⟩ := Int.eq_ofNat_of_zero_le (show 0 ≤ n by omega)
  obtain ⟨W, rfl⟩ := Int.eq_ofNat_of_zero_le l2
  obtain ⟨K, rfl⟩ := Int.eq_ofNat_of_zero_le (show 0 ≤ k by omega)
  have hb : K * N ≤ 12 * 2000 := Nat.mul_le_mul (by omega) (by omega)
  have := @ref_NewQ W (K * N) (Nat.mul_ne_zero (by omega) (by omega)) (by omega) (by omega)
  rw [Int.natCast_mul] at this
  exact this

theorem one_whole {n k : Int} (hn : 1 ≤ n) (hf : 1 ≤ k) : (mkRat n (k.toNat * n.toNat)).num = 1 ∧ ((mkRat n (k.toNat * n.toNat)).den : Int) = k := by
  obtain ⟨N, rfl⟩ := Int.eq_ofNat_of_zero_le (show 0 ≤ n by omega)
  obtain ⟨K, rfl⟩ := Int.eq_ofNat_of_zero_le (show 0 ≤ k by omega)
  have e : mkRat (N : Int) ((K : Int).toNat * (N : Int).toNat) = mkRat ((1 : Nat) : Int) K := by
    have := Rat.mkRat_mul_right (n := ((1 : Nat) : Int)) (d := K) (a := N) (by omega)
    rw [← this]
    simp
  rw [e]
  exact mkRat_one K (by omega)



theorem demurragelaw09_IcmaWhole_0 {a1 : Int} {a2 : Int} {a3 : Int} {a4 : Int} {a5 : Int} {a6 : Bool} {r7 : Bool} (h0 : InR .i64 a2) (h1 : (0 : Int) ≤ a2) (h2 : InR .i64 (1 + (a2 % 2000))) (h3 : SCall Tryd.prog GL 15 [I a1] [] (B r7) []) (h4 : r7 = false) :
    SCall Tryd.prog GL 5 [.agg [I a1, N .u16 a2, N .u16 a3, N .u16 a4, N .u8 a5, B a6]] [] (B true) [] :=
  SCall.path 73 [.call [] (B true) [], .call [] (B r7) [], .b true, .b true, .b true, .b true, .b true, .b true] [] 1 (by kernel_rfl) rfl (by exact trivial) (AllP.c (show SCall Tryd.prog GL 8 [] [] (B true) [] from shown_ok) (AllP.c h0 (AllP.c h1 (AllP.c (show (0 : Int) < 2000 from by decide) (AllP.c h2 (AllP.c h3 (AllP.c (Go.Sx.not_t (h4)) (AllP.c (Go.Sx.not_t (h4)) (AllP.c (Go.Sx.not_t (h4)) (AllP.c (Go.Sx.not_t (h4)) (AllP.c (Go.Sx.not_t (h4)) (AllP.c (show true = true from rfl) AllP.n))))))))))))
theorem demurragelaw09_IcmaWhole_1 {a1 : Int} {a2 : Int} {a3 : Int} {a4 : Int} {a5 : Int} {a6 : Bool} {r7 : Bool} (h0 : InR .i64 a2) (h1 : (0 : Int) ≤ a2) (h2 : InR .i64 (1 + (a2 % 2000))) (h3 : SCall Tryd.prog GL 15 [I a1] [] (B r7) []) (h4 : r7 = true) (h5 : InR .i64 (a1 + (1 + (a2 % 2000)))) (h6 : (a1 + (1 + (a2 % 2000))) > 3652059) :
    SCall Tryd.prog GL 5 [.agg [I a1, N .u16 a2, N .u16 a3, N .u16 a4, N .u8 a5, B a6]] [] (B true) [] :=
  SCall.path 73 [.call [] (B true) [], .call [] (B r7) [], .b false, .b false, .b false, .b false, .b false, .b true] [] 1 (by kernel_rfl) rfl (by exact trivial) (AllP.c (show SCall Tryd.prog GL 8 [] [] (B true) [] from shown_ok) (AllP.c h0 (AllP.c h1 (AllP.c (show (0 : Int) < 2000 from by decide) (AllP.c h2 (AllP.c h3 (AllP.c (Go.Sx.not_f (h4)) (AllP.c (Go.Sx.not_f (h4)) (AllP.c (Go.Sx.not_f (h4)) (AllP.c h5 (AllP.c (Go.Sx.not_f (h4)) (AllP.c (Go.Sx.not_f (h4)) (AllP.c (decide_eq_true h6) AllP.n)))))))))))))
theorem demurragelaw09_IcmaWhole_2 {a1 : Int} {a2 : Int} {a3 : Int} {a4 : Int} {a5 : Int} {a6 : Bool} {r7 : Bool} {r8 : Int} {r9 : Int} {r10 : Int} {r11 : Int} {r12 : Int} {r13 : Int} {r14 : Int} {r15 : Int} {r16 : Int} (h0 : InR .i64 a2) (h1 : (0 : Int) ≤ a2) (h2 : InR .i64 (1 + (a2 % 2000))) (h3 : SCall Tryd.prog GL 15 [I a1] [] (B r7) []) (h4 : r7 = true) (h5 : InR .i64 (a1 + (1 + (a2 % 2000)))) (h6 : ¬ (a1 + (1 + (a2 % 2000))) > 3652059) (h7 : InR .i64 a5) (h8 : (0 : Int) ≤ a5) (h9 : InR .i64 (1 + (a5 % 12))) (h10 : a6 = true) (h11 : InR .i64 a3) (h12 : InR .i64 ((1 + (a2 % 2000)) + 1)) (h13 : (0 : Int) ≤ a3) (h14 : (0 : Int) < ((1 + (a2 % 2000)) + 1)) (h15 : InR .i64 a4) (h16 : InR .i64 (((1 + (a2 % 2000)) + 1) - (a3 % ((1 + (a2 % 2000)) + 1)))) (h17 : (0 : Int) ≤ a4) (h18 : (0 : Int) < (((1 + (a2 % 2000)) + 1) - (a3 % ((1 + (a2 % 2000)) + 1)))) (h19 : InR .i64 ((a3 % ((1 + (a2 % 2000)) + 1)) + (a4 % (((1 + (a2 % 2000)) + 1) - (a3 % ((1 + (a2 % 2000)) + 1)))))) (h20 : InR .i64 (a1 + (a3 % ((1 + (a2 % 2000)) + 1)))) (h21 : InR .i64 (a1 + ((a3 % ((1 + (a2 % 2000)) + 1)) + (a4 % (((1 + (a2 % 2000)) + 1) - (a3 % ((1 + (a2 % 2000)) + 1))))))) (h22 : SCall Tryd.prog GL 9 [I (a1 + (a3 % ((1 + (a2 % 2000)) + 1))), I (a1 + ((a3 % ((1 + (a2 % 2000)) + 1)) + (a4 % (((1 + (a2 % 2000)) + 1) - (a3 % ((1 + (a2 % 2000)) + 1)))))), .sl 0 4, I (1 + (a5 % 12))] [some (.row false 3 4 1 (fun i => [I ([a1, a1, (a1 + (1 + (a2 % 2000))), (a1 + (1 + (a2 % 2000)))].getD i 0)]))] (.tup [.agg [I r8, I r9], I r10]) []) (h23 : SCall Tryd.prog GL 9 [I a1, I (a1 + (1 + (a2 % 2000))), .sl 0 4, I (1 + (a5 % 12))] [some (.row false 3 4 1 (fun i => [I ([a1, a1, (a1 + (1 + (a2 % 2000))), (a1 + (1 + (a2 % 2000)))].getD i 0)]))] (.tup [.agg [I r11, I r12], I r13]) []) (h24 : InR .i64 (((a3 % ((1 + (a2 % 2000)) + 1)) + (a4 % (((1 + (a2 % 2000)) + 1) - (a3 % ((1 + (a2 % 2000)) + 1))))) - (a3 % ((1 + (a2 % 2000)) + 1)))) (h25 : InR .i64 ((1 + (a5 % 12)) * (1 + (a2 % 2000)))) (h26 : SCall Tryd.prog GL 13 [I (((a3 % ((1 + (a2 % 2000)) + 1)) + (a4 % (((1 + (a2 % 2000)) + 1) - (a3 % ((1 + (a2 % 2000)) + 1))))) - (a3 % ((1 + (a2 % 2000)) + 1))), I ((1 + (a5 % 12)) * (1 + (a2 % 2000)))] [] (.tup [.agg [I r14, I r15], I r16]) []) (h27 : r10 = 0) (h28 : ((r8 == r14) && ((r9 == r15) && true)) = true) (h29 : r13 = 0) :
    SCall Tryd.prog GL 5 [.agg [I a1, N .u16 a2, N .u16 a3, N .u16 a4, N .u8 a5, B a6]] [] (B ((r11 == 1) && ((r12 == (1 + (a5 % 12))) && true))) [] :=
  SCall.path 200 [.call [] (B true) [], .call [] (B r7) [], .b false, .b false, .b false, .b false, .b false, .b false, .row (fun i => [I ([a1, (a1 + (1 + (a2 % 2000)))].getD i 0)]), .b true, .row (fun i => [I ([a1, a1, (a1 + (1 + (a2 % 2000))), (a1 + (1 + (a2 % 2000)))].getD i 0)]), .call [2] (.tup [.agg [I r8, I r9], I r10]) [], .call [2] (.tup [.agg [I r11, I r12], I r13]) [], .call [] (.tup [.agg [I r14, I r15], I r16]) [], .b true, .b true, .b true, .b true, .b true, .b true, .b true, .b true, .b true, .b true, .b true, .b true, .b true, .b true, .b true] [] 6 (by kernel_rfl) rfl (by exact trivial) (AllP.c (show SCall Tryd.prog GL 8 [] [] (B true) [] from shown_ok) (AllP.c h0 (AllP.c h1 (AllP.c (show (0 : Int) < 2000 from by decide) (AllP.c h2 (AllP.c h3 (AllP.c (Go.Sx.not_f (h4)) (AllP.c (Go.Sx.not_f (h4)) (AllP.c (Go.Sx.not_f (h4)) (AllP.c h5 (AllP.c (Go.Sx.not_f (h4)) (AllP.c (Go.Sx.not_f (h4)) (AllP.c (decide_eq_false h6) (AllP.c h7 (AllP.c h8 (AllP.c (show (0 : Int) < 12 from by decide) (AllP.c h9 (AllP.c h5 (AllP.c (show ∀ k, k < 2 → (fun i => [I ([a1, (a1 + (1 + (a2 % 2000)))].getD i 0)]) k = [[I a1], [I (a1 + (1 + (a2 % 2000)))]].getD k [] from by intro k hk; match k, hk with | 0, _ => rfl | 1, _ => rfl | k + 2, hk => omega) (AllP.c h10 (AllP.c h5 (AllP.c h5 (AllP.c (show ∀ k, k < 4 → (fun i => [I ([a1, a1, (a1 + (1 + (a2 % 2000))), (a1 + (1 + (a2 % 2000)))].getD i 0)]) k = [[I a1], [I a1], [I (a1 + (1 + (a2 % 2000)))], [I (a1 + (1 + (a2 % 2000)))]].getD k [] from by intro k hk; match k, hk with | 0, _ => rfl | 1, _ => rfl | 2, _ => rfl | 3, _ => rfl | k + 4, hk => omega) (AllP.c h11 (AllP.c h12 (AllP.c h13 (AllP.c h14 (AllP.c h15 (AllP.c h12 (AllP.c h16 (AllP.c h17 (AllP.c h18 (AllP.c h19 (AllP.c h20 (AllP.c h21 (AllP.c h22 (AllP.c h5 (AllP.c h23 (AllP.c h24 (AllP.c h25 (AllP.c h26 (AllP.c (show true = true from rfl) (AllP.c (show true = true from rfl) (AllP.c (show true = true from rfl) (AllP.c (beq_iff_eq.2 h27) (AllP.c (beq_iff_eq.2 h27) (AllP.c (beq_iff_eq.2 h27) (AllP.c (beq_iff_eq.2 h27) (AllP.c h28 (AllP.c h28 (AllP.c h28 (AllP.c (beq_iff_eq.2 h29) (AllP.c (beq_iff_eq.2 h29) (AllP.c (beq_iff_eq.2 h29) (AllP.c (beq_iff_eq.2 h29) (AllP.c (beq_iff_eq.2 h29) AllP.n))))))))))))))))))))))))))))))))))))))))))))))))))))))))
theorem demurragelaw09_IcmaWhole_6 {a1 : Int} {a2 : Int} {a3 : Int} {a4 : Int} {a5 : Int} {a6 : Bool} {r7 : Bool} {r8 : Int} {r9 : Int} {r10 : Int} {r11 : Int} {r12 : Int} {r13 : Int} {r14 : Int} {r15 : Int} {r16 : Int} (h0 : InR .i64 a2) (h1 : (0 : Int) ≤ a2) (h2 : InR .i64 (1 + (a2 % 2000))) (h3 : SCall Tryd.prog GL 15 [I a1] [] (B r7) []) (h4 : r7 = true) (h5 : InR .i64 (a1 + (1 + (a2 % 2000)))) (h6 : ¬ (a1 + (1 + (a2 % 2000))) > 3652059) (h7 : InR .i64 a5) (h8 : (0 : Int) ≤ a5) (h9 : InR .i64 (1 + (a5 % 12))) (h10 : a6 = false) (h11 : InR .i64 a3) (h12 : InR .i64 ((1 + (a2 % 2000)) + 1)) (h13 : (0 : Int) ≤ a3) (h14 : (0 : Int) < ((1 + (a2 % 2000)) + 1)) (h15 : InR .i64 a4) (h16 : InR .i64 (((1 + (a2 % 2000)) + 1) - (a3 % ((1 + (a2 % 2000)) + 1)))) (h17 : (0 : Int) ≤ a4) (h18 : (0 : Int) < (((1 + (a2 % 2000)) + 1) - (a3 % ((1 + (a2 % 2000)) + 1)))) (h19 : InR .i64 ((a3 % ((1 + (a2 % 2000)) + 1)) + (a4 % (((1 + (a2 % 2000)) + 1) - (a3 % ((1 + (a2 % 2000)) + 1)))))) (h20 : InR .i64 (a1 + (a3 % ((1 + (a2 % 2000)) + 1)))) (h21 : InR .i64 (a1 + ((a3 % ((1 + (a2 % 2000)) + 1)) + (a4 % (((1 + (a2 % 2000)) + 1) - (a3 % ((1 + (a2 % 2000)) + 1))))))) (h22 : SCall Tryd.prog GL 9 [I (a1 + (a3 % ((1 + (a2 % 2000)) + 1))), I (a1 + ((a3 % ((1 + (a2 % 2000)) + 1)) + (a4 % (((1 + (a2 % 2000)) + 1) - (a3 % ((1 + (a2 % 2000)) + 1)))))), .sl 0 2, I (1 + (a5 % 12))] [some (.row false 3 2 1 (fun i => [I ([a1, (a1 + (1 + (a2 % 2000)))].getD i 0)]))] (.tup [.agg [I r8, I r9], I r10]) []) (h23 : SCall Tryd.prog GL 9 [I a1, I (a1 + (1 + (a2 % 2000))), .sl 0 2, I (1 + (a5 % 12))] [some (.row false 3 2 1 (fun i => [I ([a1, (a1 + (1 + (a2 % 2000)))].getD i 0)]))] (.tup [.agg [I r11, I r12], I r13]) []) (h24 : InR .i64 (((a3 % ((1 + (a2 % 2000)) + 1)) + (a4 % (((1 + (a2 % 2000)) + 1) - (a3 % ((1 + (a2 % 2000)) + 1))))) - (a3 % ((1 + (a2 % 2000)) + 1)))) (h25 : InR .i64 ((1 + (a5 % 12)) * (1 + (a2 % 2000)))) (h26 : SCall Tryd.prog GL 13 [I (((a3 % ((1 + (a2 % 2000)) + 1)) + (a4 % (((1 + (a2 % 2000)) + 1) - (a3 % ((1 + (a2 % 2000)) + 1))))) - (a3 % ((1 + (a2 % 2000)) + 1))), I ((1 + (a5 % 12)) * (1 + (a2 % 2000)))] [] (.tup [.agg [I r14, I r15], I r16]) []) (h27 : r10 = 0) (h28 : ((r8 == r14) && ((r9 == r15) && true)) = true) (h29 : r13 = 0) :
    SCall Tryd.prog GL 5 [.agg [I a1, N .u16 a2, N .u16 a3, N .u16 a4, N .u8 a5, B a6]] [] (B ((r11 == 1) && ((r12 == (1 + (a5 % 12))) && true))) [] :=
  SCall.path 189 [.call [] (B true) [], .call [] (B r7) [], .b false, .b false, .b false, .b false, .b false, .b false, .row (fun i => [I ([a1, (a1 + (1 + (a2 % 2000)))].getD i 0)]), .b false, .call [1] (.tup [.agg [I r8, I r9], I r10]) [], .call [1] (.tup [.agg [I r11, I r12], I r13]) [], .call [] (.tup [.agg [I r14, I r15], I r16]) [], .b true, .b true, .b true, .b true, .b true, .b true, .b true, .b true, .b true, .b true, .b true, .b true, .b true, .b true, .b true] [] 5 (by kernel_rfl) rfl (by exact trivial) (AllP.c (show SCall Tryd.prog GL 8 [] [] (B true) [] from shown_ok) (AllP.c h0 (AllP.c h1 (AllP.c (show (0 : Int) < 2000 from by decide) (AllP.c h2 (AllP.c h3 (AllP.c (Go.Sx.not_f (h4)) (AllP.c (Go.Sx.not_f (h4)) (AllP.c (Go.Sx.not_f (h4)) (AllP.c h5 (AllP.c (Go.Sx.not_f (h4)) (AllP.c (Go.Sx.not_f (h4)) (AllP.c (decide_eq_false h6) (AllP.c h7 (AllP.c h8 (AllP.c (show (0 : Int) < 12 from by decide) (AllP.c h9 (AllP.c h5 (AllP.c (show ∀ k, k < 2 → (fun i => [I ([a1, (a1 + (1 + (a2 % 2000)))].getD i 0)]) k = [[I a1], [I (a1 + (1 + (a2 % 2000)))]].getD k [] from by intro k hk; match k, hk with | 0, _ => rfl | 1, _ => rfl | k + 2, hk => omega) (AllP.c h10 (AllP.c h11 (AllP.c h12 (AllP.c h13 (AllP.c h14 (AllP.c h15 (AllP.c h12 (AllP.c h16 (AllP.c h17 (AllP.c h18 (AllP.c h19 (AllP.c h20 (AllP.c h21 (AllP.c h22 (AllP.c h5 (AllP.c h23 (AllP.c h24 (AllP.c h25 (AllP.c h26 (AllP.c (show true = true from rfl) (AllP.c (show true = true from rfl) (AllP.c (show true = true from rfl) (AllP.c (beq_iff_eq.2 h27) (AllP.c (beq_iff_eq.2 h27) (AllP.c (beq_iff_eq.2 h27) (AllP.c (beq_iff_eq.2 h27) (AllP.c h28 (AllP.c h28 (AllP.c h28 (AllP.c (beq_iff_eq.2 h29) (AllP.c (beq_iff_eq.2 h29) (AllP.c (beq_iff_eq.2 h29) (AllP.c (beq_iff_eq.2 h29) (AllP.c (beq_iff_eq.2 h29) AllP.n)))))))))))))))))))))))))))))))))))))))))))))))))))))

theorem whole_ok {x a2 a3 a4 a5 : Int} {t : Bool} (i2 : InR .u16 a2) (i3 : InR .u16 a3) (i4 : InR .u16 a4) (i5 : InR .u8 a5) :
    SCall Tryd.prog GL 5 [.agg [I x, N .u16 a2, N .u16 a3, N .u16 a4, N .u8 a5, B t]] [] (B true) [] := by
  simp only [InR] at i2 i3 i4 i5
  have b2 : 0 ≤ a2 % 2000 ∧ a2 % 2000 < 2000 := by omega
  have b5 : 0 ≤ a5 % 12 ∧ a5 % 12 < 12 := by omega
  cases hd : isDay x
  · exact demurragelaw09_IcmaWhole_0 (by simp only [InR]; omega) (by omega) (by simp only [InR]; omega) (rDay _) hd
  have hd' := isDay_iff.1 hd
  by_cases h : x + (1 + a2 % 2000) > 3652059
  · exact demurragelaw09_IcmaWhole_1 (by simp only [InR]; omega) (by omega) (by simp only [InR]; omega) (rDay _) hd (by simp only [InR]; omega) h
  have b3 : 0 ≤ a3 % (1 + a2 % 2000 + 1) ∧ a3 % (1 + a2 % 2000 + 1) < 1 + a2 % 2000 + 1 := ⟨Int.emod_nonneg _ (by omega), Int.emod_lt_of_pos _ (by omega)⟩
  have b4 : 0 ≤ a4 % (1 + a2 % 2000 + 1 - a3 % (1 + a2 % 2000 + 1)) ∧ a4 % (1 + a2 % 2000 + 1 - a3 % (1 + a2 % 2000 + 1)) < 1 + a2 % 2000 + 1 - a3 % (1 + a2 % 2000 + 1) :=
    ⟨Int.emod_nonneg _ (by omega), Int.emod_lt_of_pos _ (by omega)⟩
  have ew : ∀ lo w : Int, lo + w - lo = w := fun lo w => by omega
  have hb1 : 0 ≤ (1 + a5 % 12) * (1 + a2 % 2000) := Int.mul_nonneg (by omega) (by omega)
  have hb2 : (1 + a5 % 12) * (1 + a2 % 2000) ≤ 12 * 2000 := Int.mul_le_mul (by omega) (by omega) (by omega) (by omega)
  have hnew := @newW (1 + a2 % 2000) (a4 % (1 + a2 % 2000 + 1 - a3 % (1 + a2 % 2000 + 1))) (1 + a5 % 12) (by omega) (by omega) (by omega) (by omega) (by omega) (by omega)
  have e1 := @one_whole (1 + a2 % 2000) (1 + a5 % 12) (by omega) (by omega)
  cases t
  · have p1 := @part2 x (1 + a2 % 2000) (a3 % (1 + a2 % 2000 + 1)) (a4 % (1 + a2 % 2000 + 1 - a3 % (1 + a2 % 2000 + 1))) (1 + a5 % 12) (by omega) (by omega) (by omega) (by omega) (by omega) (by omega) (by omega) (by omega)
    have p2 := @part2 x (1 + a2 % 2000) 0 (1 + a2 % 2000) (1 + a5 % 12) (by omega) (by omega) (by omega) (by omega) (by omega) (by omega) (by omega) (by omega)
    rw [Int.add_zero, Int.zero_add] at p2
    have := demurragelaw09_IcmaWhole_6 (by simp only [InR]; omega) (by omega) (by simp only [InR]; omega) (rDay _) hd (by simp only [InR]; omega) h (by simp only [InR]; omega) (by omega) (by simp only [InR]; omega) rfl (by simp only [InR]; omega) (by simp only [InR]; omega) (by omega) (by omega) (by simp only [InR]; omega) (by simp only [InR]; omega) (by omega) (by omega) (by simp only [InR]; omega) (by simp only [InR]; omega) (by simp only [InR]; omega) p1 p2 (by simp only [InR]; omega) (by simp only [InR]; omega) (by rw [ew]; exact hnew) rfl (by simp) rfl
    rw [e1.1, e1.2] at this
    simpa using this
  · have p1 := @part4 x (1 + a2 % 2000) (a3 % (1 + a2 % 2000 + 1)) (a4 % (1 + a2 % 2000 + 1 - a3 % (1 + a2 % 2000 + 1))) (1 + a5 % 12) (by omega) (by omega) (by omega) (by omega) (by omega) (by omega) (by omega) (by omega)
    have p2 := @part4 x (1 + a2 % 2000) 0 (1 + a2 % 2000) (1 + a5 % 12) (by omega) (by omega) (by omega) (by omega) (by omega) (by omega) (by omega) (by omega)
    rw [Int.add_zero, Int.zero_add] at p2
    have := demurragelaw09_IcmaWhole_2 (by simp only [InR]; omega) (by omega) (by simp only [InR]; omega) (rDay _) hd (by simp only [InR]; omega) h (by simp only [InR]; omega) (by omega) (by simp only [InR]; omega) rfl (by simp only [InR]; omega) (by simp only [InR]; omega) (by omega) (by omega) (by simp only [InR]; omega) (by simp only [InR]; omega) (by omega) (by omega) (by simp only [InR]; omega) (by simp only [InR]; omega) (by simp only [InR]; omega) p1 p2 (by simp only [InR]; omega) (by simp only [InR]; omega) (by rw [ew]; exact hnew) rfl (by simp) rfl
    rw [e1.1, e1.2] at this
    simpa using this


end Go.Proofs.YtigjggkendgjeaaDoor
