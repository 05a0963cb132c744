import Derived.Test.YtigjggkendgjeaaDoorLSca
import Derived.Test.YtigjggkendgjeaaDoorProg
import Derived.KernelRfl
import Derived.Laws.Externs
set_option linter.unusedVariables false
set_option linter.unusedSimpArgs false
set_option maxRecDepth 100000
namespace Go.Proofs.YtigjggkendgjeaaDoor
open Go Go.Sx

theorem psum_congr {a b : Int} {f : Nat} {g q : Nat → Int} : ∀ k, (∀ j, j ≤ k → q j = g j) → psum a b f q k = psum a b f g k
  | 0, _ => rfl
  | k + 1, h => by
    show psum a b f q k + term a b f q k = psum a b f g k + term a b f g k
    rw [psum_congr k (fun j hj => h j (by omega))]
    unfold term
    rw [h k (by omega), h (k + 1) (by omega)]

theorem psum_shift {a b : Int} {f s N : Nat} {g q : Nat → Int} (h0 : psum a b f q (s + 1) = psum a b f g s) (h : ∀ j, s ≤ j → j ≤ N → q (j + 1) = g j) : ∀ m, s + m ≤ N → psum a b f q (s + m + 1) = psum a b f g (s + m)
  | 0, _ => h0
  | m + 1, hk => by
    show psum a b f q (s + m + 1) + term a b f q (s + m + 1) = psum a b f g (s + m) + term a b f g (s + m)
    rw [psum_shift h0 h m (by omega)]
    unfold term
    rw [h (s + m) (by omega) (by omega), show q (s + m + 1 + 1) = g (s + m + 1) from h (s + m + 1) (by omega) (by omega)]

theorem term_none {a b : Int} {f : Nat} {g : Nat → Int} {k : Nat} (h : ov a b (g k) (g (k + 1)) = 0) : term a b f g k = 0 := by
  unfold term
  rw [h, Rat.zero_mkRat]
  split <;> rfl

abbrev dupF (g : Nat → Int) (s : Nat) : Nat → Int := fun i => if i ≤ s then g i else g (i - 1)
abbrev aheadF (g : Nat → Int) (v : Int) : Nat → Int := fun i => if i < 1 then v else g (i - 1)
abbrev behindF (g : Nat → Int) (n : Nat) (v : Int) : Nat → Int := fun i => if i < n then g i else v

theorem psum_dupF {a b : Int} {f s N : Nat} {g : Nat → Int} (hs : s ≤ N) : psum a b f (dupF g s) (N + 1) = psum a b f g N := by
  have h0 : psum a b f (dupF g s) (s + 1) = psum a b f g s := by
    show psum a b f (dupF g s) s + term a b f (dupF g s) s = _
    have e1 : dupF g s s = g s := if_pos (Nat.le_refl s)
    have e2 : dupF g s (s + 1) = g s := by show (if s + 1 ≤ s then _ else _) = _; rw [if_neg (by omega)]; rfl
    rw [term_none (by rw [e1, e2]; unfold ov; repeat' split
                      all_goals omega), Rat.add_zero]
    exact psum_congr s (fun j hj => if_pos hj)
  have := psum_shift (N := N) h0 (fun j h1 h2 => by show (if j + 1 ≤ s then _ else _) = _; rw [if_neg (by omega)]; rfl) (N - s) (by omega)
  rwa [show s + (N - s) = N by omega] at this

theorem psum_aheadF {a b v : Int} {f N : Nat} {g : Nat → Int} (ha : g 0 ≤ a) (hv : v ≤ g 0) : psum a b f (aheadF g v) (N + 1) = psum a b f g N := by
  have h0 : psum a b f (aheadF g v) (0 + 1) = psum a b f g 0 := by
    show 0 + term a b f (aheadF g v) 0 = 0
    rw [term_none (by show ov a b v (g 0) = 0; unfold ov; repeat' split
                      all_goals omega), Rat.add_zero]
  have := psum_shift (N := N) h0 (fun j h1 h2 => rfl) N (by omega)
  rwa [Nat.zero_add] at this

theorem psum_behindF {a b v : Int} {f N : Nat} {g : Nat → Int} (hb : b ≤ g N) (hv : g N ≤ v) : psum a b f (behindF g (N + 1) v) (N + 1) = psum a b f g N := by
  show psum a b f (behindF g (N + 1) v) N + term a b f (behindF g (N + 1) v) N = _
  have e1 : behindF g (N + 1) v N = g N := if_pos (by omega)
  have e2 : behindF g (N + 1) v (N + 1) = v := if_neg (by omega)
  rw [term_none (by rw [e1, e2]; unfold ov; repeat' split
                    all_goals omega), Rat.add_zero]
  exact psum_congr N (fun j hj => if_pos (by omega))

theorem may_of {n : Nat} {q : Nat → Int} {f : Int} (h1 : 2 ≤ n) (h2 : n ≤ 1204) (h3 : 1 ≤ f) (h4 : f ≤ 12) (h5 : ∀ i, i < n → 1 ≤ q i ∧ q i ≤ 3652059) (h6 : ∀ i, i < n - 1 → q i ≤ q (i + 1)) (h7 : q 0 < q (n - 1)) : mayB n q f = true :=
  decide_eq_true ⟨h1, h2, h3, h4, fun i hi => isDay_iff.2 (h5 i hi), h6, h7⟩

theorem part_dupF {a b f : Int} {n s L : Nat} {g : Nat → Int} (hm : mayB n g f = true) (hn : n ≤ 40) (ha : g 0 ≤ a) (hab : a ≤ b) (hb : b ≤ g (n - 1)) (hs : s < n) (hL : L = n + 1) : RT (partR a b L (dupF g s) f) = RQ (psum a b f.toNat g (n - 1)) := by
  subst hL
  obtain ⟨m1, m2, m3, m4, m5, m6, m7⟩ := may_facts hm
  have e0 : dupF g s 0 = g 0 := if_pos (by omega)
  have en : dupF g s n = g (n - 1) := if_neg (by omega)
  have hm' : mayB (n + 1) (dupF g s) f = true := by
    refine may_of (by omega) (by omega) m3 m4 (fun i hi => ?_) (fun i hi => ?_) ?_
    · show 1 ≤ (if i ≤ s then g i else g (i - 1)) ∧ (if i ≤ s then g i else g (i - 1)) ≤ 3652059
      split
      · exact m5 i (by omega)
      · exact m5 (i - 1) (by omega)
    · show (if i ≤ s then g i else g (i - 1)) ≤ (if i + 1 ≤ s then g (i + 1) else g (i + 1 - 1))
      split
      · split
        · exact m6 i (by omega)
        · rw [Nat.add_sub_cancel]; exact Int.le_refl _
      · rw [if_neg (by omega)]
        have := m6 (i - 1) (by omega)
        rwa [show i - 1 + 1 = i by omega] at this
    · rw [Nat.add_sub_cancel, e0, en]; exact m7
  rw [partR_in hm' (by rw [e0]; exact ha) hab (by rw [Nat.add_sub_cancel, en]; exact hb)]
  have := psum_dupF (a := a) (b := b) (f := f.toNat) (g := g) (s := s) (N := n - 1) (by omega)
  rw [show n - 1 + 1 = n by omega] at this
  rw [Nat.add_sub_cancel, this]

theorem part_aheadF {a b f v : Int} {n L : Nat} {g : Nat → Int} (hm : mayB n g f = true) (hn : n ≤ 40) (ha : g 0 ≤ a) (hab : a ≤ b) (hb : b ≤ g (n - 1)) (hv : 1 ≤ v) (hv2 : v ≤ g 0) (hL : L = n + 1) : RT (partR a b L (aheadF g v) f) = RQ (psum a b f.toNat g (n - 1)) := by
  subst hL
  obtain ⟨m1, m2, m3, m4, m5, m6, m7⟩ := may_facts hm
  have d0 := m5 0 (by omega)
  have e0 : aheadF g v 0 = v := rfl
  have en : aheadF g v n = g (n - 1) := if_neg (by omega)
  have hm' : mayB (n + 1) (aheadF g v) f = true := by
    refine may_of (by omega) (by omega) m3 m4 (fun i hi => ?_) (fun i hi => ?_) ?_
    · show 1 ≤ (if i < 1 then v else g (i - 1)) ∧ (if i < 1 then v else g (i - 1)) ≤ 3652059
      split
      · omega
      · exact m5 (i - 1) (by omega)
    · show (if i < 1 then v else g (i - 1)) ≤ g i
      split
      · rw [show i = 0 by omega]; exact hv2
      · have := m6 (i - 1) (by omega)
        rwa [show i - 1 + 1 = i by omega] at this
    · rw [Nat.add_sub_cancel, e0, en]; omega
  rw [partR_in hm' (by rw [e0]; omega) hab (by rw [Nat.add_sub_cancel, en]; exact hb)]
  have := psum_aheadF (a := a) (b := b) (f := f.toNat) (g := g) (N := n - 1) ha hv2
  rw [show n - 1 + 1 = n by omega] at this
  rw [Nat.add_sub_cancel, this]

theorem part_behindF {a b f v : Int} {n L : Nat} {g : Nat → Int} (hm : mayB n g f = true) (hn : n ≤ 40) (ha : g 0 ≤ a) (hab : a ≤ b) (hb : b ≤ g (n - 1)) (hv : v ≤ 3652059) (hv2 : g (n - 1) ≤ v) (hL : L = n + 1) : RT (partR a b L (behindF g n v) f) = RQ (psum a b f.toNat g (n - 1)) := by
  subst hL
  obtain ⟨m1, m2, m3, m4, m5, m6, m7⟩ := may_facts hm
  have dn := m5 (n - 1) (by omega)
  have e0 : behindF g n v 0 = g 0 := if_pos (by omega)
  have en : behindF g n v n = v := if_neg (by omega)
  have hm' : mayB (n + 1) (behindF g n v) f = true := by
    refine may_of (by omega) (by omega) m3 m4 (fun i hi => ?_) (fun i hi => ?_) ?_
    · show 1 ≤ (if i < n then g i else v) ∧ (if i < n then g i else v) ≤ 3652059
      split
      · exact m5 i (by omega)
      · omega
    · show (if i < n then g i else v) ≤ (if i + 1 < n then g (i + 1) else v)
      rw [if_pos (by omega)]
      split
      · exact m6 i (by omega)
      · rw [show i = n - 1 by omega]; exact hv2
    · rw [Nat.add_sub_cancel, e0, en]; omega
  rw [partR_in hm' (by rw [e0]; exact ha) hab (by rw [Nat.add_sub_cancel, en]; omega)]
  have := psum_behindF (a := a) (b := b) (f := f.toNat) (g := g) (N := n - 1) (v := v) hb hv2
  rw [show n - 1 + 1 = n by omega] at this
  rw [Nat.add_sub_cancel, this]

theorem ipart_at {n : Nat} {g : Nat → Int} {a b f : Int} {q : Rat} (h : RT (partR a b n g f) = RQ q) : SCall Tryd.prog GL 9 [I a, I b, .sl 0 n, I f] [some (.row false 3 n 1 (fun i => [I (g i)]))] (RQ q) [] := by
  rw [← h]; exact ipart

theorem partR_nil {a b f : Int} {n : Nat} {g : Nat → Int} (h : (partR a b n g f).2.2 ≠ 0) : (partR a b n g f).1 = 0 ∧ (partR a b n g f).2.1 = 0 := by
  unfold partR at h ⊢
  by_cases h1 : isDay a = false ∨ isDay b = false
  · simp only [if_pos h1]; exact ⟨trivial, trivial⟩
  by_cases h2 : a > b
  · simp only [if_neg h1, if_pos h2]; exact ⟨trivial, trivial⟩
  by_cases h3 : mayB n g f = false ∨ a < g 0 ∨ b > g (n - 1)
  · simp only [if_neg h1, if_neg h2, if_pos h3]; exact ⟨trivial, trivial⟩
  · rw [if_neg h1, if_neg h2, if_neg h3] at h
    exact absurd rfl h



theorem demurragelaw09_IcmaSplit_0 {a1 : Int} {a2 : Int} {n3 : Nat} {g4 : Nat → Int} {a5 : Int} {a6 : Int} {a7 : Int} (h0 : ((n3 : Nat) : Int) > 40) :
    SCall Tryd.prog GL 6 [.agg [I a1, I a2, .sl 0 n3, I a5, N .u8 a6, N .u16 a7]] [some (.row false 3 n3 1 (fun i => [I (g4 i)]))] (B true) [] :=
  SCall.path 65 [.call [] (B true) [], .b true, .b true, .b true, .b true, .b true, .b true] [] 2 (by kernel_rfl) rfl (by exact ⟨fun _ => rfl, trivial⟩) (AllP.c (show SCall Tryd.prog GL 8 [] [] (B true) [] from shown_ok) (AllP.c (decide_eq_true h0) (AllP.c (decide_eq_true h0) (AllP.c (decide_eq_true h0) (AllP.c (decide_eq_true h0) (AllP.c (decide_eq_true h0) (AllP.c (show true = true from rfl) AllP.n)))))))
theorem demurragelaw09_IcmaSplit_1 {a1 : Int} {a2 : Int} {n3 : Nat} {g4 : Nat → Int} {a5 : Int} {a6 : Int} {a7 : Int} {r8 : Bool} (h0 : ¬ ((n3 : Nat) : Int) > 40) (h1 : SCall Tryd.prog GL 12 [.sl 0 n3, I a5] [some (.row false 3 n3 1 (fun i => [I (g4 i)]))] (B r8) []) (h2 : r8 = false) :
    SCall Tryd.prog GL 6 [.agg [I a1, I a2, .sl 0 n3, I a5, N .u8 a6, N .u16 a7]] [some (.row false 3 n3 1 (fun i => [I (g4 i)]))] (B true) [] :=
  SCall.path 65 [.call [] (B true) [], .b false, .b false, .b false, .call [0] (B r8) [], .b false, .b false, .b true] [] 2 (by kernel_rfl) rfl (by exact ⟨fun _ => rfl, trivial⟩) (AllP.c (show SCall Tryd.prog GL 8 [] [] (B true) [] from shown_ok) (AllP.c (decide_eq_false h0) (AllP.c (decide_eq_false h0) (AllP.c (decide_eq_false h0) (AllP.c h1 (AllP.c (decide_eq_false h0) (AllP.c (decide_eq_false h0) (AllP.c (Go.Sx.not_t (h2)) AllP.n))))))))
theorem demurragelaw09_IcmaSplit_2 {a1 : Int} {a2 : Int} {n3 : Nat} {g4 : Nat → Int} {a5 : Int} {a6 : Int} {a7 : Int} {r8 : Bool} {r9 : Int} {r10 : Int} {r11 : Int} (h0 : ¬ ((n3 : Nat) : Int) > 40) (h1 : SCall Tryd.prog GL 12 [.sl 0 n3, I a5] [some (.row false 3 n3 1 (fun i => [I (g4 i)]))] (B r8) []) (h2 : r8 = true) (h3 : SCall Tryd.prog GL 9 [I a1, I a2, .sl 0 n3, I a5] [some (.row false 3 n3 1 (fun i => [I (g4 i)]))] (.tup [.agg [I r9, I r10], I r11]) []) (h4 : r11 ≠ 0) :
    SCall Tryd.prog GL 6 [.agg [I a1, I a2, .sl 0 n3, I a5, N .u8 a6, N .u16 a7]] [some (.row false 3 n3 1 (fun i => [I (g4 i)]))] (B ((r9 == 0) && ((r10 == 0) && true))) [] :=
  SCall.path 98 [.call [] (B true) [], .b false, .b false, .b false, .call [0] (B r8) [], .b false, .b false, .b false, .call [0] (.tup [.agg [I r9, I r10], I r11]) [], .b true, .b true, .b true, .b true, .b true] [] 3 (by kernel_rfl) rfl (by exact ⟨fun _ => rfl, trivial⟩) (AllP.c (show SCall Tryd.prog GL 8 [] [] (B true) [] from shown_ok) (AllP.c (decide_eq_false h0) (AllP.c (decide_eq_false h0) (AllP.c (decide_eq_false h0) (AllP.c h1 (AllP.c (decide_eq_false h0) (AllP.c (decide_eq_false h0) (AllP.c (Go.Sx.not_f (h2)) (AllP.c h3 (AllP.c (bne_iff_ne.2 h4) (AllP.c (show true = true from rfl) (AllP.c (show true = true from rfl) (AllP.c (show true = true from rfl) (AllP.c (show true = true from rfl) AllP.n))))))))))))))
theorem demurragelaw09_IcmaSplit_3 {a1 : Int} {a2 : Int} {n3 : Nat} {g4 : Nat → Int} {a5 : Int} {a6 : Int} {a7 : Int} {r8 : Bool} {r9 : Int} {r10 : Int} {r11 : Int} {q12 : Nat → Int} {q13 : Nat → Int} {q14 : Nat → Int} {q15 : Nat → Int} {q16 : Nat → Int} {q17 : Nat → Int} {q18 : Nat → Int} {r19 : Int} {r20 : Int} {r21 : Int} {r22 : Int} {r23 : Int} {r24 : Int} {r25 : Int} {r26 : Int} {r27 : Int} (h0 : ¬ ((n3 : Nat) : Int) > 40) (h1 : SCall Tryd.prog GL 12 [.sl 0 n3, I a5] [some (.row false 3 n3 1 (fun i => [I (g4 i)]))] (B r8) []) (h2 : r8 = true) (h3 : SCall Tryd.prog GL 9 [I a1, I a2, .sl 0 n3, I a5] [some (.row false 3 n3 1 (fun i => [I (g4 i)]))] (.tup [.agg [I r9, I r10], I r11]) []) (h4 : r11 = 0) (h5 : InR .i64 a6) (h6 : (0 : Int) ≤ a6) (h7 : (0 : Int) < ((n3 : Nat) : Int)) (h8 : (0 : Int) ≤ (a6 % ((n3 : Nat) : Int)) ∧ (a6 % ((n3 : Nat) : Int)) ≤ ((n3 : Nat) : Int)) (h9 : (0 : Int) ≤ 0 ∧ (0 : Int) ≤ (a6 % ((n3 : Nat) : Int))) (h10 : ∀ k, k < (0 + (((a6 % ((n3 : Nat) : Int)).toNat) - 0)) → q12 k = if k < 0 then 0 else (g4 ((k - 0) + 0))) (h11 : (0 + (((a6 % ((n3 : Nat) : Int)).toNat) - 0)) * 8 ≤ 140737488355328) (h12 : (0 : Int) ≤ (a6 % ((n3 : Nat) : Int)) ∧ (a6 % ((n3 : Nat) : Int)) < ((n3 : Nat) : Int)) (h13 : ∀ k, k < ((0 + (((a6 % ((n3 : Nat) : Int)).toNat) - 0)) + 1) → q13 k = if k < (0 + (((a6 % ((n3 : Nat) : Int)).toNat) - 0)) then (q12 k) else (g4 ((a6 % ((n3 : Nat) : Int)).toNat))) (h14 : ((0 + (((a6 % ((n3 : Nat) : Int)).toNat) - 0)) + 1) * 8 ≤ 140737488355328) (h15 : (0 : Int) ≤ (a6 % ((n3 : Nat) : Int)) ∧ ((a6 % ((n3 : Nat) : Int)) : Int) ≤ ((n3 : Nat) : Int)) (h16 : ∀ k, k < (((0 + (((a6 % ((n3 : Nat) : Int)).toNat) - 0)) + 1) + ((((n3 : Nat) : Int).toNat) - ((a6 % ((n3 : Nat) : Int)).toNat))) → q14 k = if k < ((0 + (((a6 % ((n3 : Nat) : Int)).toNat) - 0)) + 1) then (q13 k) else (g4 ((k - ((0 + (((a6 % ((n3 : Nat) : Int)).toNat) - 0)) + 1)) + ((a6 % ((n3 : Nat) : Int)).toNat)))) (h17 : (((0 + (((a6 % ((n3 : Nat) : Int)).toNat) - 0)) + 1) + ((((n3 : Nat) : Int).toNat) - ((a6 % ((n3 : Nat) : Int)).toNat))) * 8 ≤ 140737488355328) (h18 : ∀ k, k < (0 + n3) → q15 k = if k < 0 then 0 else (g4 (k - 0))) (h19 : (0 + n3) * 8 ≤ 140737488355328) (h20 : (0 : Int) ≤ 0 ∧ 0 < ((n3 : Nat) : Int)) (h21 : InR .i64 a7) (h22 : InR .i64 (1 + a7)) (h23 : (g4 0) > (1 + a7)) (h24 : InR .i64 ((g4 0) - 1)) (h25 : InR .i64 (((g4 0) - 1) - a7)) (h26 : ∀ k, k < (1 + n3) → q16 k = if k < 1 then (((g4 0) - 1) - a7) else (g4 (k - 1))) (h27 : (1 + n3) * 8 ≤ 140737488355328) (h28 : ∀ k, k < (0 + n3) → q17 k = if k < 0 then 0 else (g4 (k - 0))) (h29 : InR .i64 (((n3 : Nat) : Int) - 1)) (h30 : (0 : Int) ≤ (((n3 : Nat) : Int) - 1) ∧ (((n3 : Nat) : Int) - 1) < ((n3 : Nat) : Int)) (h31 : InR .i64 ((g4 ((((n3 : Nat) : Int) - 1).toNat)) + 1)) (h32 : InR .i64 (((g4 ((((n3 : Nat) : Int) - 1).toNat)) + 1) + a7)) (h33 : (((g4 ((((n3 : Nat) : Int) - 1).toNat)) + 1) + a7) ≤ 3652059) (h34 : ∀ k, k < ((0 + n3) + 1) → q18 k = if k < (0 + n3) then (q17 k) else (((g4 ((((n3 : Nat) : Int) - 1).toNat)) + 1) + a7)) (h35 : ((0 + n3) + 1) * 8 ≤ 140737488355328) (h36 : SCall Tryd.prog GL 9 [I a1, I a2, .sl 0 (((0 + (((a6 % ((n3 : Nat) : Int)).toNat) - 0)) + 1) + ((((n3 : Nat) : Int).toNat) - ((a6 % ((n3 : Nat) : Int)).toNat))), I a5] [some (.row false 3 (((0 + (((a6 % ((n3 : Nat) : Int)).toNat) - 0)) + 1) + ((((n3 : Nat) : Int).toNat) - ((a6 % ((n3 : Nat) : Int)).toNat))) 1 (fun i => [I (q14 i)]))] (.tup [.agg [I r19, I r20], I r21]) []) (h37 : SCall Tryd.prog GL 9 [I a1, I a2, .sl 0 (1 + n3), I a5] [some (.row false 3 (1 + n3) 1 (fun i => [I (q16 i)]))] (.tup [.agg [I r22, I r23], I r24]) []) (h38 : SCall Tryd.prog GL 9 [I a1, I a2, .sl 0 ((0 + n3) + 1), I a5] [some (.row false 3 ((0 + n3) + 1) 1 (fun i => [I (q18 i)]))] (.tup [.agg [I r25, I r26], I r27]) []) (h39 : r21 = 0) (h40 : r24 = 0) (h41 : r27 = 0) (h42 : ((r19 == r9) && ((r20 == r10) && true)) = true) (h43 : ((r22 == r9) && ((r23 == r10) && true)) = true) :
    SCall Tryd.prog GL 6 [.agg [I a1, I a2, .sl 0 n3, I a5, N .u8 a6, N .u16 a7]] [some (.row false 3 n3 1 (fun i => [I (g4 i)]))] (B ((r25 == r9) && ((r26 == r10) && true))) [] :=
  SCall.path 245 [.call [] (B true) [], .b false, .b false, .b false, .call [0] (B r8) [], .b false, .b false, .b false, .call [0] (.tup [.agg [I r9, I r10], I r11]) [], .b false, .draw 14 [] 0, .row (fun i => [I 0]), .row (fun i => [I (q12 i)]), .row (fun i => [I (g4 ((a6 % ((n3 : Nat) : Int)).toNat))]), .row (fun i => [I (q13 i)]), .row (fun i => [I (q14 i)]), .row (fun i => [I 0]), .row (fun i => [I (q15 i)]), .b true, .row (fun i => [I (((g4 0) - 1) - a7)]), .row (fun i => [I (q16 i)]), .row (fun i => [I 0]), .row (fun i => [I (q17 i)]), .b true, .row (fun i => [I (((g4 ((((n3 : Nat) : Int) - 1).toNat)) + 1) + a7)]), .row (fun i => [I (q18 i)]), .call [9] (.tup [.agg [I r19, I r20], I r21]) [], .call [13] (.tup [.agg [I r22, I r23], I r24]) [], .call [17] (.tup [.agg [I r25, I r26], I r27]) [], .b true, .b true, .b true, .b true, .b true, .b true, .b true, .b true, .b true, .b true, .b true, .b true, .b true, .b true, .b true, .b true, .b true, .b true, .b true, .b true, .b true] [] 21 (by kernel_rfl) rfl (by exact ⟨fun _ => rfl, trivial⟩) (AllP.c (show SCall Tryd.prog GL 8 [] [] (B true) [] from shown_ok) (AllP.c (decide_eq_false h0) (AllP.c (decide_eq_false h0) (AllP.c (decide_eq_false h0) (AllP.c h1 (AllP.c (decide_eq_false h0) (AllP.c (decide_eq_false h0) (AllP.c (Go.Sx.not_f (h2)) (AllP.c h3 (AllP.c (bne_eq_false_iff_eq.2 h4) (AllP.c h5 (AllP.c h6 (AllP.c h7 (AllP.c (show ∀ k, k < 0 → (fun i => [I 0]) k = [].getD k [] from by intro k hk; omega) (AllP.c (show n3 = n3 from rfl) (AllP.c h8 (AllP.c h9 (AllP.c (show (((a6 % ((n3 : Nat) : Int)).toNat) - 0) = (((a6 % ((n3 : Nat) : Int)).toNat) - 0) from rfl) (AllP.c (show 0 = 0 from rfl) (AllP.c h11 (AllP.c (show ∀ k, k < 0 + (((a6 % ((n3 : Nat) : Int)).toNat) - 0) → (fun i => [I (q12 i)]) k = if k < 0 then (fun i => [I 0]) k else (fun i => [I (g4 (i + 0))]) (k - 0) from fun k hk => by
      have e0 := h10 k hk
      by_cases c : k < 0
      · rw [if_pos c] at e0 ⊢; simp only [e0]
      · rw [if_neg c] at e0 ⊢; simp only [e0]) (AllP.c h12 (AllP.c (show n3 = n3 from rfl) (AllP.c h12 (AllP.c (show ∀ k, k < 1 → (fun i => [I (g4 ((a6 % ((n3 : Nat) : Int)).toNat))]) k = [[I (g4 ((a6 % ((n3 : Nat) : Int)).toNat))]].getD k [] from by intro k hk; match k, hk with | 0, _ => rfl | k + 1, hk => omega) (AllP.c (show 1 = 1 from rfl) (AllP.c (show (0 + (((a6 % ((n3 : Nat) : Int)).toNat) - 0)) = (0 + (((a6 % ((n3 : Nat) : Int)).toNat) - 0)) from rfl) (AllP.c h14 (AllP.c (show ∀ k, k < (0 + (((a6 % ((n3 : Nat) : Int)).toNat) - 0)) + 1 → (fun i => [I (q13 i)]) k = if k < (0 + (((a6 % ((n3 : Nat) : Int)).toNat) - 0)) then (fun i => [I (q12 i)]) k else (fun i => [I (g4 ((a6 % ((n3 : Nat) : Int)).toNat))]) (k - (0 + (((a6 % ((n3 : Nat) : Int)).toNat) - 0))) from fun k hk => by
      have e0 := h13 k hk
      by_cases c : k < (0 + (((a6 % ((n3 : Nat) : Int)).toNat) - 0))
      · rw [if_pos c] at e0 ⊢; simp only [e0]
      · rw [if_neg c] at e0 ⊢; simp only [e0]) (AllP.c (show n3 = n3 from rfl) (AllP.c (show (0 : Int) ≤ ((n3 : Nat) : Int) ∧ ((n3 : Nat) : Int) ≤ ((n3 : Nat) : Int) from by first | decide | omega | (constructor <;> omega)) (AllP.c h15 (AllP.c (show ((((n3 : Nat) : Int).toNat) - ((a6 % ((n3 : Nat) : Int)).toNat)) = ((((n3 : Nat) : Int).toNat) - ((a6 % ((n3 : Nat) : Int)).toNat)) from rfl) (AllP.c (show ((0 + (((a6 % ((n3 : Nat) : Int)).toNat) - 0)) + 1) = ((0 + (((a6 % ((n3 : Nat) : Int)).toNat) - 0)) + 1) from rfl) (AllP.c h17 (AllP.c (show ∀ k, k < ((0 + (((a6 % ((n3 : Nat) : Int)).toNat) - 0)) + 1) + ((((n3 : Nat) : Int).toNat) - ((a6 % ((n3 : Nat) : Int)).toNat)) → (fun i => [I (q14 i)]) k = if k < ((0 + (((a6 % ((n3 : Nat) : Int)).toNat) - 0)) + 1) then (fun i => [I (q13 i)]) k else (fun i => [I (g4 (i + ((a6 % ((n3 : Nat) : Int)).toNat)))]) (k - ((0 + (((a6 % ((n3 : Nat) : Int)).toNat) - 0)) + 1)) from fun k hk => by
      have e0 := h16 k hk
      by_cases c : k < ((0 + (((a6 % ((n3 : Nat) : Int)).toNat) - 0)) + 1)
      · rw [if_pos c] at e0 ⊢; simp only [e0]
      · rw [if_neg c] at e0 ⊢; simp only [e0]) (AllP.c (show ∀ k, k < 0 → (fun i => [I 0]) k = [].getD k [] from by intro k hk; omega) (AllP.c (show n3 = n3 from rfl) (AllP.c (show 0 = 0 from rfl) (AllP.c h19 (AllP.c (show ∀ k, k < 0 + n3 → (fun i => [I (q15 i)]) k = if k < 0 then (fun i => [I 0]) k else (fun i => [I (g4 i)]) (k - 0) from fun k hk => by
      have e0 := h18 k hk
      by_cases c : k < 0
      · rw [if_pos c] at e0 ⊢; simp only [e0]
      · rw [if_neg c] at e0 ⊢; simp only [e0]) (AllP.c h20 (AllP.c (show n3 = n3 from rfl) (AllP.c h20 (AllP.c h21 (AllP.c h22 (AllP.c (decide_eq_true h23) (AllP.c h20 (AllP.c (show n3 = n3 from rfl) (AllP.c h20 (AllP.c h24 (AllP.c h21 (AllP.c h25 (AllP.c (show ∀ k, k < 1 → (fun i => [I (((g4 0) - 1) - a7)]) k = [[I (((g4 0) - 1) - a7)]].getD k [] from by intro k hk; match k, hk with | 0, _ => rfl | k + 1, hk => omega) (AllP.c (show n3 = n3 from rfl) (AllP.c (show 1 = 1 from rfl) (AllP.c h27 (AllP.c (show ∀ k, k < 1 + n3 → (fun i => [I (q16 i)]) k = if k < 1 then (fun i => [I (((g4 0) - 1) - a7)]) k else (fun i => [I (g4 i)]) (k - 1) from fun k hk => by
      have e0 := h26 k hk
      by_cases c : k < 1
      · rw [if_pos c] at e0 ⊢; simp only [e0]
      · rw [if_neg c] at e0 ⊢; simp only [e0]) (AllP.c (show ∀ k, k < 0 → (fun i => [I 0]) k = [].getD k [] from by intro k hk; omega) (AllP.c (show n3 = n3 from rfl) (AllP.c (show 0 = 0 from rfl) (AllP.c h19 (AllP.c (show ∀ k, k < 0 + n3 → (fun i => [I (q17 i)]) k = if k < 0 then (fun i => [I 0]) k else (fun i => [I (g4 i)]) (k - 0) from fun k hk => by
      have e0 := h28 k hk
      by_cases c : k < 0
      · rw [if_pos c] at e0 ⊢; simp only [e0]
      · rw [if_neg c] at e0 ⊢; simp only [e0]) (AllP.c h29 (AllP.c h30 (AllP.c (show n3 = n3 from rfl) (AllP.c h30 (AllP.c h31 (AllP.c h21 (AllP.c h32 (AllP.c (decide_eq_true h33) (AllP.c h29 (AllP.c h30 (AllP.c (show n3 = n3 from rfl) (AllP.c h30 (AllP.c h31 (AllP.c h21 (AllP.c h32 (AllP.c (show ∀ k, k < 1 → (fun i => [I (((g4 ((((n3 : Nat) : Int) - 1).toNat)) + 1) + a7)]) k = [[I (((g4 ((((n3 : Nat) : Int) - 1).toNat)) + 1) + a7)]].getD k [] from by intro k hk; match k, hk with | 0, _ => rfl | k + 1, hk => omega) (AllP.c (show 1 = 1 from rfl) (AllP.c (show (0 + n3) = (0 + n3) from rfl) (AllP.c h35 (AllP.c (show ∀ k, k < (0 + n3) + 1 → (fun i => [I (q18 i)]) k = if k < (0 + n3) then (fun i => [I (q17 i)]) k else (fun i => [I (((g4 ((((n3 : Nat) : Int) - 1).toNat)) + 1) + a7)]) (k - (0 + n3)) from fun k hk => by
      have e0 := h34 k hk
      by_cases c : k < (0 + n3)
      · rw [if_pos c] at e0 ⊢; simp only [e0]
      · rw [if_neg c] at e0 ⊢; simp only [e0]) (AllP.c h36 (AllP.c h37 (AllP.c h38 (AllP.c (show true = true from rfl) (AllP.c (show true = true from rfl) (AllP.c (show true = true from rfl) (AllP.c (beq_iff_eq.2 h39) (AllP.c (beq_iff_eq.2 h39) (AllP.c (beq_iff_eq.2 h39) (AllP.c (beq_iff_eq.2 h40) (AllP.c (beq_iff_eq.2 h40) (AllP.c (beq_iff_eq.2 h40) (AllP.c (beq_iff_eq.2 h41) (AllP.c (beq_iff_eq.2 h41) (AllP.c (beq_iff_eq.2 h41) (AllP.c (beq_iff_eq.2 h41) (AllP.c h42 (AllP.c h42 (AllP.c h42 (AllP.c h42 (AllP.c h43 (AllP.c h43 (AllP.c h43 (AllP.c h43 AllP.n)))))))))))))))))))))))))))))))))))))))))))))))))))))))))))))))))))))))))))))))))))))))))))))))))))))))))))
theorem demurragelaw09_IcmaSplit_9 {a1 : Int} {a2 : Int} {n3 : Nat} {g4 : Nat → Int} {a5 : Int} {a6 : Int} {a7 : Int} {r8 : Bool} {r9 : Int} {r10 : Int} {r11 : Int} {q12 : Nat → Int} {q13 : Nat → Int} {q14 : Nat → Int} {q15 : Nat → Int} {q16 : Nat → Int} {q17 : Nat → Int} {r18 : Int} {r19 : Int} {r20 : Int} {r21 : Int} {r22 : Int} {r23 : Int} {r24 : Int} {r25 : Int} {r26 : Int} (h0 : ¬ ((n3 : Nat) : Int) > 40) (h1 : SCall Tryd.prog GL 12 [.sl 0 n3, I a5] [some (.row false 3 n3 1 (fun i => [I (g4 i)]))] (B r8) []) (h2 : r8 = true) (h3 : SCall Tryd.prog GL 9 [I a1, I a2, .sl 0 n3, I a5] [some (.row false 3 n3 1 (fun i => [I (g4 i)]))] (.tup [.agg [I r9, I r10], I r11]) []) (h4 : r11 = 0) (h5 : InR .i64 a6) (h6 : (0 : Int) ≤ a6) (h7 : (0 : Int) < ((n3 : Nat) : Int)) (h8 : (0 : Int) ≤ (a6 % ((n3 : Nat) : Int)) ∧ (a6 % ((n3 : Nat) : Int)) ≤ ((n3 : Nat) : Int)) (h9 : (0 : Int) ≤ 0 ∧ (0 : Int) ≤ (a6 % ((n3 : Nat) : Int))) (h10 : ∀ k, k < (0 + (((a6 % ((n3 : Nat) : Int)).toNat) - 0)) → q12 k = if k < 0 then 0 else (g4 ((k - 0) + 0))) (h11 : (0 + (((a6 % ((n3 : Nat) : Int)).toNat) - 0)) * 8 ≤ 140737488355328) (h12 : (0 : Int) ≤ (a6 % ((n3 : Nat) : Int)) ∧ (a6 % ((n3 : Nat) : Int)) < ((n3 : Nat) : Int)) (h13 : ∀ k, k < ((0 + (((a6 % ((n3 : Nat) : Int)).toNat) - 0)) + 1) → q13 k = if k < (0 + (((a6 % ((n3 : Nat) : Int)).toNat) - 0)) then (q12 k) else (g4 ((a6 % ((n3 : Nat) : Int)).toNat))) (h14 : ((0 + (((a6 % ((n3 : Nat) : Int)).toNat) - 0)) + 1) * 8 ≤ 140737488355328) (h15 : (0 : Int) ≤ (a6 % ((n3 : Nat) : Int)) ∧ ((a6 % ((n3 : Nat) : Int)) : Int) ≤ ((n3 : Nat) : Int)) (h16 : ∀ k, k < (((0 + (((a6 % ((n3 : Nat) : Int)).toNat) - 0)) + 1) + ((((n3 : Nat) : Int).toNat) - ((a6 % ((n3 : Nat) : Int)).toNat))) → q14 k = if k < ((0 + (((a6 % ((n3 : Nat) : Int)).toNat) - 0)) + 1) then (q13 k) else (g4 ((k - ((0 + (((a6 % ((n3 : Nat) : Int)).toNat) - 0)) + 1)) + ((a6 % ((n3 : Nat) : Int)).toNat)))) (h17 : (((0 + (((a6 % ((n3 : Nat) : Int)).toNat) - 0)) + 1) + ((((n3 : Nat) : Int).toNat) - ((a6 % ((n3 : Nat) : Int)).toNat))) * 8 ≤ 140737488355328) (h18 : ∀ k, k < (0 + n3) → q15 k = if k < 0 then 0 else (g4 (k - 0))) (h19 : (0 + n3) * 8 ≤ 140737488355328) (h20 : (0 : Int) ≤ 0 ∧ 0 < ((n3 : Nat) : Int)) (h21 : InR .i64 a7) (h22 : InR .i64 (1 + a7)) (h23 : (g4 0) > (1 + a7)) (h24 : InR .i64 ((g4 0) - 1)) (h25 : InR .i64 (((g4 0) - 1) - a7)) (h26 : ∀ k, k < (1 + n3) → q16 k = if k < 1 then (((g4 0) - 1) - a7) else (g4 (k - 1))) (h27 : (1 + n3) * 8 ≤ 140737488355328) (h28 : ∀ k, k < (0 + n3) → q17 k = if k < 0 then 0 else (g4 (k - 0))) (h29 : InR .i64 (((n3 : Nat) : Int) - 1)) (h30 : (0 : Int) ≤ (((n3 : Nat) : Int) - 1) ∧ (((n3 : Nat) : Int) - 1) < ((n3 : Nat) : Int)) (h31 : InR .i64 ((g4 ((((n3 : Nat) : Int) - 1).toNat)) + 1)) (h32 : InR .i64 (((g4 ((((n3 : Nat) : Int) - 1).toNat)) + 1) + a7)) (h33 : ¬ (((g4 ((((n3 : Nat) : Int) - 1).toNat)) + 1) + a7) ≤ 3652059) (h34 : SCall Tryd.prog GL 9 [I a1, I a2, .sl 0 (((0 + (((a6 % ((n3 : Nat) : Int)).toNat) - 0)) + 1) + ((((n3 : Nat) : Int).toNat) - ((a6 % ((n3 : Nat) : Int)).toNat))), I a5] [some (.row false 3 (((0 + (((a6 % ((n3 : Nat) : Int)).toNat) - 0)) + 1) + ((((n3 : Nat) : Int).toNat) - ((a6 % ((n3 : Nat) : Int)).toNat))) 1 (fun i => [I (q14 i)]))] (.tup [.agg [I r18, I r19], I r20]) []) (h35 : SCall Tryd.prog GL 9 [I a1, I a2, .sl 0 (1 + n3), I a5] [some (.row false 3 (1 + n3) 1 (fun i => [I (q16 i)]))] (.tup [.agg [I r21, I r22], I r23]) []) (h36 : SCall Tryd.prog GL 9 [I a1, I a2, .sl 0 (0 + n3), I a5] [some (.row false 3 (0 + n3) 1 (fun i => [I (q17 i)]))] (.tup [.agg [I r24, I r25], I r26]) []) (h37 : r20 = 0) (h38 : r23 = 0) (h39 : r26 = 0) (h40 : ((r18 == r9) && ((r19 == r10) && true)) = true) (h41 : ((r21 == r9) && ((r22 == r10) && true)) = true) :
    SCall Tryd.prog GL 6 [.agg [I a1, I a2, .sl 0 n3, I a5, N .u8 a6, N .u16 a7]] [some (.row false 3 n3 1 (fun i => [I (g4 i)]))] (B ((r24 == r9) && ((r25 == r10) && true))) [] :=
  SCall.path 231 [.call [] (B true) [], .b false, .b false, .b false, .call [0] (B r8) [], .b false, .b false, .b false, .call [0] (.tup [.agg [I r9, I r10], I r11]) [], .b false, .draw 14 [] 0, .row (fun i => [I 0]), .row (fun i => [I (q12 i)]), .row (fun i => [I (g4 ((a6 % ((n3 : Nat) : Int)).toNat))]), .row (fun i => [I (q13 i)]), .row (fun i => [I (q14 i)]), .row (fun i => [I 0]), .row (fun i => [I (q15 i)]), .b true, .row (fun i => [I (((g4 0) - 1) - a7)]), .row (fun i => [I (q16 i)]), .row (fun i => [I 0]), .row (fun i => [I (q17 i)]), .b false, .call [9] (.tup [.agg [I r18, I r19], I r20]) [], .call [13] (.tup [.agg [I r21, I r22], I r23]) [], .call [15] (.tup [.agg [I r24, I r25], I r26]) [], .b true, .b true, .b true, .b true, .b true, .b true, .b true, .b true, .b true, .b true, .b true, .b true, .b true, .b true, .b true, .b true, .b true, .b true, .b true, .b true, .b true] [] 19 (by kernel_rfl) rfl (by exact ⟨fun _ => rfl, trivial⟩) (AllP.c (show SCall Tryd.prog GL 8 [] [] (B true) [] from shown_ok) (AllP.c (decide_eq_false h0) (AllP.c (decide_eq_false h0) (AllP.c (decide_eq_false h0) (AllP.c h1 (AllP.c (decide_eq_false h0) (AllP.c (decide_eq_false h0) (AllP.c (Go.Sx.not_f (h2)) (AllP.c h3 (AllP.c (bne_eq_false_iff_eq.2 h4) (AllP.c h5 (AllP.c h6 (AllP.c h7 (AllP.c (show ∀ k, k < 0 → (fun i => [I 0]) k = [].getD k [] from by intro k hk; omega) (AllP.c (show n3 = n3 from rfl) (AllP.c h8 (AllP.c h9 (AllP.c (show (((a6 % ((n3 : Nat) : Int)).toNat) - 0) = (((a6 % ((n3 : Nat) : Int)).toNat) - 0) from rfl) (AllP.c (show 0 = 0 from rfl) (AllP.c h11 (AllP.c (show ∀ k, k < 0 + (((a6 % ((n3 : Nat) : Int)).toNat) - 0) → (fun i => [I (q12 i)]) k = if k < 0 then (fun i => [I 0]) k else (fun i => [I (g4 (i + 0))]) (k - 0) from fun k hk => by
      have e0 := h10 k hk
      by_cases c : k < 0
      · rw [if_pos c] at e0 ⊢; simp only [e0]
      · rw [if_neg c] at e0 ⊢; simp only [e0]) (AllP.c h12 (AllP.c (show n3 = n3 from rfl) (AllP.c h12 (AllP.c (show ∀ k, k < 1 → (fun i => [I (g4 ((a6 % ((n3 : Nat) : Int)).toNat))]) k = [[I (g4 ((a6 % ((n3 : Nat) : Int)).toNat))]].getD k [] from by intro k hk; match k, hk with | 0, _ => rfl | k + 1, hk => omega) (AllP.c (show 1 = 1 from rfl) (AllP.c (show (0 + (((a6 % ((n3 : Nat) : Int)).toNat) - 0)) = (0 + (((a6 % ((n3 : Nat) : Int)).toNat) - 0)) from rfl) (AllP.c h14 (AllP.c (show ∀ k, k < (0 + (((a6 % ((n3 : Nat) : Int)).toNat) - 0)) + 1 → (fun i => [I (q13 i)]) k = if k < (0 + (((a6 % ((n3 : Nat) : Int)).toNat) - 0)) then (fun i => [I (q12 i)]) k else (fun i => [I (g4 ((a6 % ((n3 : Nat) : Int)).toNat))]) (k - (0 + (((a6 % ((n3 : Nat) : Int)).toNat) - 0))) from fun k hk => by
      have e0 := h13 k hk
      by_cases c : k < (0 + (((a6 % ((n3 : Nat) : Int)).toNat) - 0))
      · rw [if_pos c] at e0 ⊢; simp only [e0]
      · rw [if_neg c] at e0 ⊢; simp only [e0]) (AllP.c (show n3 = n3 from rfl) (AllP.c (show (0 : Int) ≤ ((n3 : Nat) : Int) ∧ ((n3 : Nat) : Int) ≤ ((n3 : Nat) : Int) from by first | decide | omega | (constructor <;> omega)) (AllP.c h15 (AllP.c (show ((((n3 : Nat) : Int).toNat) - ((a6 % ((n3 : Nat) : Int)).toNat)) = ((((n3 : Nat) : Int).toNat) - ((a6 % ((n3 : Nat) : Int)).toNat)) from rfl) (AllP.c (show ((0 + (((a6 % ((n3 : Nat) : Int)).toNat) - 0)) + 1) = ((0 + (((a6 % ((n3 : Nat) : Int)).toNat) - 0)) + 1) from rfl) (AllP.c h17 (AllP.c (show ∀ k, k < ((0 + (((a6 % ((n3 : Nat) : Int)).toNat) - 0)) + 1) + ((((n3 : Nat) : Int).toNat) - ((a6 % ((n3 : Nat) : Int)).toNat)) → (fun i => [I (q14 i)]) k = if k < ((0 + (((a6 % ((n3 : Nat) : Int)).toNat) - 0)) + 1) then (fun i => [I (q13 i)]) k else (fun i => [I (g4 (i + ((a6 % ((n3 : Nat) : Int)).toNat)))]) (k - ((0 + (((a6 % ((n3 : Nat) : Int)).toNat) - 0)) + 1)) from fun k hk => by
      have e0 := h16 k hk
      by_cases c : k < ((0 + (((a6 % ((n3 : Nat) : Int)).toNat) - 0)) + 1)
      · rw [if_pos c] at e0 ⊢; simp only [e0]
      · rw [if_neg c] at e0 ⊢; simp only [e0]) (AllP.c (show ∀ k, k < 0 → (fun i => [I 0]) k = [].getD k [] from by intro k hk; omega) (AllP.c (show n3 = n3 from rfl) (AllP.c (show 0 = 0 from rfl) (AllP.c h19 (AllP.c (show ∀ k, k < 0 + n3 → (fun i => [I (q15 i)]) k = if k < 0 then (fun i => [I 0]) k else (fun i => [I (g4 i)]) (k - 0) from fun k hk => by
      have e0 := h18 k hk
      by_cases c : k < 0
      · rw [if_pos c] at e0 ⊢; simp only [e0]
      · rw [if_neg c] at e0 ⊢; simp only [e0]) (AllP.c h20 (AllP.c (show n3 = n3 from rfl) (AllP.c h20 (AllP.c h21 (AllP.c h22 (AllP.c (decide_eq_true h23) (AllP.c h20 (AllP.c (show n3 = n3 from rfl) (AllP.c h20 (AllP.c h24 (AllP.c h21 (AllP.c h25 (AllP.c (show ∀ k, k < 1 → (fun i => [I (((g4 0) - 1) - a7)]) k = [[I (((g4 0) - 1) - a7)]].getD k [] from by intro k hk; match k, hk with | 0, _ => rfl | k + 1, hk => omega) (AllP.c (show n3 = n3 from rfl) (AllP.c (show 1 = 1 from rfl) (AllP.c h27 (AllP.c (show ∀ k, k < 1 + n3 → (fun i => [I (q16 i)]) k = if k < 1 then (fun i => [I (((g4 0) - 1) - a7)]) k else (fun i => [I (g4 i)]) (k - 1) from fun k hk => by
      have e0 := h26 k hk
      by_cases c : k < 1
      · rw [if_pos c] at e0 ⊢; simp only [e0]
      · rw [if_neg c] at e0 ⊢; simp only [e0]) (AllP.c (show ∀ k, k < 0 → (fun i => [I 0]) k = [].getD k [] from by intro k hk; omega) (AllP.c (show n3 = n3 from rfl) (AllP.c (show 0 = 0 from rfl) (AllP.c h19 (AllP.c (show ∀ k, k < 0 + n3 → (fun i => [I (q17 i)]) k = if k < 0 then (fun i => [I 0]) k else (fun i => [I (g4 i)]) (k - 0) from fun k hk => by
      have e0 := h28 k hk
      by_cases c : k < 0
      · rw [if_pos c] at e0 ⊢; simp only [e0]
      · rw [if_neg c] at e0 ⊢; simp only [e0]) (AllP.c h29 (AllP.c h30 (AllP.c (show n3 = n3 from rfl) (AllP.c h30 (AllP.c h31 (AllP.c h21 (AllP.c h32 (AllP.c (decide_eq_false h33) (AllP.c h34 (AllP.c h35 (AllP.c h36 (AllP.c (show true = true from rfl) (AllP.c (show true = true from rfl) (AllP.c (show true = true from rfl) (AllP.c (beq_iff_eq.2 h37) (AllP.c (beq_iff_eq.2 h37) (AllP.c (beq_iff_eq.2 h37) (AllP.c (beq_iff_eq.2 h38) (AllP.c (beq_iff_eq.2 h38) (AllP.c (beq_iff_eq.2 h38) (AllP.c (beq_iff_eq.2 h39) (AllP.c (beq_iff_eq.2 h39) (AllP.c (beq_iff_eq.2 h39) (AllP.c (beq_iff_eq.2 h39) (AllP.c h40 (AllP.c h40 (AllP.c h40 (AllP.c h40 (AllP.c h41 (AllP.c h41 (AllP.c h41 (AllP.c h41 AllP.n)))))))))))))))))))))))))))))))))))))))))))))))))))))))))))))))))))))))))))))))))))))))))))))))
theorem demurragelaw09_IcmaSplit_15 {a1 : Int} {a2 : Int} {n3 : Nat} {g4 : Nat → Int} {a5 : Int} {a6 : Int} {a7 : Int} {r8 : Bool} {r9 : Int} {r10 : Int} {r11 : Int} {q12 : Nat → Int} {q13 : Nat → Int} {q14 : Nat → Int} {q15 : Nat → Int} {q16 : Nat → Int} {q17 : Nat → Int} {r18 : Int} {r19 : Int} {r20 : Int} {r21 : Int} {r22 : Int} {r23 : Int} {r24 : Int} {r25 : Int} {r26 : Int} (h0 : ¬ ((n3 : Nat) : Int) > 40) (h1 : SCall Tryd.prog GL 12 [.sl 0 n3, I a5] [some (.row false 3 n3 1 (fun i => [I (g4 i)]))] (B r8) []) (h2 : r8 = true) (h3 : SCall Tryd.prog GL 9 [I a1, I a2, .sl 0 n3, I a5] [some (.row false 3 n3 1 (fun i => [I (g4 i)]))] (.tup [.agg [I r9, I r10], I r11]) []) (h4 : r11 = 0) (h5 : InR .i64 a6) (h6 : (0 : Int) ≤ a6) (h7 : (0 : Int) < ((n3 : Nat) : Int)) (h8 : (0 : Int) ≤ (a6 % ((n3 : Nat) : Int)) ∧ (a6 % ((n3 : Nat) : Int)) ≤ ((n3 : Nat) : Int)) (h9 : (0 : Int) ≤ 0 ∧ (0 : Int) ≤ (a6 % ((n3 : Nat) : Int))) (h10 : ∀ k, k < (0 + (((a6 % ((n3 : Nat) : Int)).toNat) - 0)) → q12 k = if k < 0 then 0 else (g4 ((k - 0) + 0))) (h11 : (0 + (((a6 % ((n3 : Nat) : Int)).toNat) - 0)) * 8 ≤ 140737488355328) (h12 : (0 : Int) ≤ (a6 % ((n3 : Nat) : Int)) ∧ (a6 % ((n3 : Nat) : Int)) < ((n3 : Nat) : Int)) (h13 : ∀ k, k < ((0 + (((a6 % ((n3 : Nat) : Int)).toNat) - 0)) + 1) → q13 k = if k < (0 + (((a6 % ((n3 : Nat) : Int)).toNat) - 0)) then (q12 k) else (g4 ((a6 % ((n3 : Nat) : Int)).toNat))) (h14 : ((0 + (((a6 % ((n3 : Nat) : Int)).toNat) - 0)) + 1) * 8 ≤ 140737488355328) (h15 : (0 : Int) ≤ (a6 % ((n3 : Nat) : Int)) ∧ ((a6 % ((n3 : Nat) : Int)) : Int) ≤ ((n3 : Nat) : Int)) (h16 : ∀ k, k < (((0 + (((a6 % ((n3 : Nat) : Int)).toNat) - 0)) + 1) + ((((n3 : Nat) : Int).toNat) - ((a6 % ((n3 : Nat) : Int)).toNat))) → q14 k = if k < ((0 + (((a6 % ((n3 : Nat) : Int)).toNat) - 0)) + 1) then (q13 k) else (g4 ((k - ((0 + (((a6 % ((n3 : Nat) : Int)).toNat) - 0)) + 1)) + ((a6 % ((n3 : Nat) : Int)).toNat)))) (h17 : (((0 + (((a6 % ((n3 : Nat) : Int)).toNat) - 0)) + 1) + ((((n3 : Nat) : Int).toNat) - ((a6 % ((n3 : Nat) : Int)).toNat))) * 8 ≤ 140737488355328) (h18 : ∀ k, k < (0 + n3) → q15 k = if k < 0 then 0 else (g4 (k - 0))) (h19 : (0 + n3) * 8 ≤ 140737488355328) (h20 : (0 : Int) ≤ 0 ∧ 0 < ((n3 : Nat) : Int)) (h21 : InR .i64 a7) (h22 : InR .i64 (1 + a7)) (h23 : ¬ (g4 0) > (1 + a7)) (h24 : ∀ k, k < (0 + n3) → q16 k = if k < 0 then 0 else (g4 (k - 0))) (h25 : InR .i64 (((n3 : Nat) : Int) - 1)) (h26 : (0 : Int) ≤ (((n3 : Nat) : Int) - 1) ∧ (((n3 : Nat) : Int) - 1) < ((n3 : Nat) : Int)) (h27 : InR .i64 ((g4 ((((n3 : Nat) : Int) - 1).toNat)) + 1)) (h28 : InR .i64 (((g4 ((((n3 : Nat) : Int) - 1).toNat)) + 1) + a7)) (h29 : (((g4 ((((n3 : Nat) : Int) - 1).toNat)) + 1) + a7) ≤ 3652059) (h30 : ∀ k, k < ((0 + n3) + 1) → q17 k = if k < (0 + n3) then (q16 k) else (((g4 ((((n3 : Nat) : Int) - 1).toNat)) + 1) + a7)) (h31 : ((0 + n3) + 1) * 8 ≤ 140737488355328) (h32 : SCall Tryd.prog GL 9 [I a1, I a2, .sl 0 (((0 + (((a6 % ((n3 : Nat) : Int)).toNat) - 0)) + 1) + ((((n3 : Nat) : Int).toNat) - ((a6 % ((n3 : Nat) : Int)).toNat))), I a5] [some (.row false 3 (((0 + (((a6 % ((n3 : Nat) : Int)).toNat) - 0)) + 1) + ((((n3 : Nat) : Int).toNat) - ((a6 % ((n3 : Nat) : Int)).toNat))) 1 (fun i => [I (q14 i)]))] (.tup [.agg [I r18, I r19], I r20]) []) (h33 : SCall Tryd.prog GL 9 [I a1, I a2, .sl 0 (0 + n3), I a5] [some (.row false 3 (0 + n3) 1 (fun i => [I (q15 i)]))] (.tup [.agg [I r21, I r22], I r23]) []) (h34 : SCall Tryd.prog GL 9 [I a1, I a2, .sl 0 ((0 + n3) + 1), I a5] [some (.row false 3 ((0 + n3) + 1) 1 (fun i => [I (q17 i)]))] (.tup [.agg [I r24, I r25], I r26]) []) (h35 : r20 = 0) (h36 : r23 = 0) (h37 : r26 = 0) (h38 : ((r18 == r9) && ((r19 == r10) && true)) = true) (h39 : ((r21 == r9) && ((r22 == r10) && true)) = true) :
    SCall Tryd.prog GL 6 [.agg [I a1, I a2, .sl 0 n3, I a5, N .u8 a6, N .u16 a7]] [some (.row false 3 n3 1 (fun i => [I (g4 i)]))] (B ((r24 == r9) && ((r25 == r10) && true))) [] :=
  SCall.path 233 [.call [] (B true) [], .b false, .b false, .b false, .call [0] (B r8) [], .b false, .b false, .b false, .call [0] (.tup [.agg [I r9, I r10], I r11]) [], .b false, .draw 14 [] 0, .row (fun i => [I 0]), .row (fun i => [I (q12 i)]), .row (fun i => [I (g4 ((a6 % ((n3 : Nat) : Int)).toNat))]), .row (fun i => [I (q13 i)]), .row (fun i => [I (q14 i)]), .row (fun i => [I 0]), .row (fun i => [I (q15 i)]), .b false, .row (fun i => [I 0]), .row (fun i => [I (q16 i)]), .b true, .row (fun i => [I (((g4 ((((n3 : Nat) : Int) - 1).toNat)) + 1) + a7)]), .row (fun i => [I (q17 i)]), .call [9] (.tup [.agg [I r18, I r19], I r20]) [], .call [11] (.tup [.agg [I r21, I r22], I r23]) [], .call [15] (.tup [.agg [I r24, I r25], I r26]) [], .b true, .b true, .b true, .b true, .b true, .b true, .b true, .b true, .b true, .b true, .b true, .b true, .b true, .b true, .b true, .b true, .b true, .b true, .b true, .b true, .b true] [] 19 (by kernel_rfl) rfl (by exact ⟨fun _ => rfl, trivial⟩) (AllP.c (show SCall Tryd.prog GL 8 [] [] (B true) [] from shown_ok) (AllP.c (decide_eq_false h0) (AllP.c (decide_eq_false h0) (AllP.c (decide_eq_false h0) (AllP.c h1 (AllP.c (decide_eq_false h0) (AllP.c (decide_eq_false h0) (AllP.c (Go.Sx.not_f (h2)) (AllP.c h3 (AllP.c (bne_eq_false_iff_eq.2 h4) (AllP.c h5 (AllP.c h6 (AllP.c h7 (AllP.c (show ∀ k, k < 0 → (fun i => [I 0]) k = [].getD k [] from by intro k hk; omega) (AllP.c (show n3 = n3 from rfl) (AllP.c h8 (AllP.c h9 (AllP.c (show (((a6 % ((n3 : Nat) : Int)).toNat) - 0) = (((a6 % ((n3 : Nat) : Int)).toNat) - 0) from rfl) (AllP.c (show 0 = 0 from rfl) (AllP.c h11 (AllP.c (show ∀ k, k < 0 + (((a6 % ((n3 : Nat) : Int)).toNat) - 0) → (fun i => [I (q12 i)]) k = if k < 0 then (fun i => [I 0]) k else (fun i => [I (g4 (i + 0))]) (k - 0) from fun k hk => by
      have e0 := h10 k hk
      by_cases c : k < 0
      · rw [if_pos c] at e0 ⊢; simp only [e0]
      · rw [if_neg c] at e0 ⊢; simp only [e0]) (AllP.c h12 (AllP.c (show n3 = n3 from rfl) (AllP.c h12 (AllP.c (show ∀ k, k < 1 → (fun i => [I (g4 ((a6 % ((n3 : Nat) : Int)).toNat))]) k = [[I (g4 ((a6 % ((n3 : Nat) : Int)).toNat))]].getD k [] from by intro k hk; match k, hk with | 0, _ => rfl | k + 1, hk => omega) (AllP.c (show 1 = 1 from rfl) (AllP.c (show (0 + (((a6 % ((n3 : Nat) : Int)).toNat) - 0)) = (0 + (((a6 % ((n3 : Nat) : Int)).toNat) - 0)) from rfl) (AllP.c h14 (AllP.c (show ∀ k, k < (0 + (((a6 % ((n3 : Nat) : Int)).toNat) - 0)) + 1 → (fun i => [I (q13 i)]) k = if k < (0 + (((a6 % ((n3 : Nat) : Int)).toNat) - 0)) then (fun i => [I (q12 i)]) k else (fun i => [I (g4 ((a6 % ((n3 : Nat) : Int)).toNat))]) (k - (0 + (((a6 % ((n3 : Nat) : Int)).toNat) - 0))) from fun k hk => by
      have e0 := h13 k hk
      by_cases c : k < (0 + (((a6 % ((n3 : Nat) : Int)).toNat) - 0))
      · rw [if_pos c] at e0 ⊢; simp only [e0]
      · rw [if_neg c] at e0 ⊢; simp only [e0]) (AllP.c (show n3 = n3 from rfl) (AllP.c (show (0 : Int) ≤ ((n3 : Nat) : Int) ∧ ((n3 : Nat) : Int) ≤ ((n3 : Nat) : Int) from by first | decide | omega | (constructor <;> omega)) (AllP.c h15 (AllP.c (show ((((n3 : Nat) : Int).toNat) - ((a6 % ((n3 : Nat) : Int)).toNat)) = ((((n3 : Nat) : Int).toNat) - ((a6 % ((n3 : Nat) : Int)).toNat)) from rfl) (AllP.c (show ((0 + (((a6 % ((n3 : Nat) : Int)).toNat) - 0)) + 1) = ((0 + (((a6 % ((n3 : Nat) : Int)).toNat) - 0)) + 1) from rfl) (AllP.c h17 (AllP.c (show ∀ k, k < ((0 + (((a6 % ((n3 : Nat) : Int)).toNat) - 0)) + 1) + ((((n3 : Nat) : Int).toNat) - ((a6 % ((n3 : Nat) : Int)).toNat)) → (fun i => [I (q14 i)]) k = if k < ((0 + (((a6 % ((n3 : Nat) : Int)).toNat) - 0)) + 1) then (fun i => [I (q13 i)]) k else (fun i => [I (g4 (i + ((a6 % ((n3 : Nat) : Int)).toNat)))]) (k - ((0 + (((a6 % ((n3 : Nat) : Int)).toNat) - 0)) + 1)) from fun k hk => by
      have e0 := h16 k hk
      by_cases c : k < ((0 + (((a6 % ((n3 : Nat) : Int)).toNat) - 0)) + 1)
      · rw [if_pos c] at e0 ⊢; simp only [e0]
      · rw [if_neg c] at e0 ⊢; simp only [e0]) (AllP.c (show ∀ k, k < 0 → (fun i => [I 0]) k = [].getD k [] from by intro k hk; omega) (AllP.c (show n3 = n3 from rfl) (AllP.c (show 0 = 0 from rfl) (AllP.c h19 (AllP.c (show ∀ k, k < 0 + n3 → (fun i => [I (q15 i)]) k = if k < 0 then (fun i => [I 0]) k else (fun i => [I (g4 i)]) (k - 0) from fun k hk => by
      have e0 := h18 k hk
      by_cases c : k < 0
      · rw [if_pos c] at e0 ⊢; simp only [e0]
      · rw [if_neg c] at e0 ⊢; simp only [e0]) (AllP.c h20 (AllP.c (show n3 = n3 from rfl) (AllP.c h20 (AllP.c h21 (AllP.c h22 (AllP.c (decide_eq_false h23) (AllP.c (show ∀ k, k < 0 → (fun i => [I 0]) k = [].getD k [] from by intro k hk; omega) (AllP.c (show n3 = n3 from rfl) (AllP.c (show 0 = 0 from rfl) (AllP.c h19 (AllP.c (show ∀ k, k < 0 + n3 → (fun i => [I (q16 i)]) k = if k < 0 then (fun i => [I 0]) k else (fun i => [I (g4 i)]) (k - 0) from fun k hk => by
      have e0 := h24 k hk
      by_cases c : k < 0
      · rw [if_pos c] at e0 ⊢; simp only [e0]
      · rw [if_neg c] at e0 ⊢; simp only [e0]) (AllP.c h25 (AllP.c h26 (AllP.c (show n3 = n3 from rfl) (AllP.c h26 (AllP.c h27 (AllP.c h21 (AllP.c h28 (AllP.c (decide_eq_true h29) (AllP.c h25 (AllP.c h26 (AllP.c (show n3 = n3 from rfl) (AllP.c h26 (AllP.c h27 (AllP.c h21 (AllP.c h28 (AllP.c (show ∀ k, k < 1 → (fun i => [I (((g4 ((((n3 : Nat) : Int) - 1).toNat)) + 1) + a7)]) k = [[I (((g4 ((((n3 : Nat) : Int) - 1).toNat)) + 1) + a7)]].getD k [] from by intro k hk; match k, hk with | 0, _ => rfl | k + 1, hk => omega) (AllP.c (show 1 = 1 from rfl) (AllP.c (show (0 + n3) = (0 + n3) from rfl) (AllP.c h31 (AllP.c (show ∀ k, k < (0 + n3) + 1 → (fun i => [I (q17 i)]) k = if k < (0 + n3) then (fun i => [I (q16 i)]) k else (fun i => [I (((g4 ((((n3 : Nat) : Int) - 1).toNat)) + 1) + a7)]) (k - (0 + n3)) from fun k hk => by
      have e0 := h30 k hk
      by_cases c : k < (0 + n3)
      · rw [if_pos c] at e0 ⊢; simp only [e0]
      · rw [if_neg c] at e0 ⊢; simp only [e0]) (AllP.c h32 (AllP.c h33 (AllP.c h34 (AllP.c (show true = true from rfl) (AllP.c (show true = true from rfl) (AllP.c (show true = true from rfl) (AllP.c (beq_iff_eq.2 h35) (AllP.c (beq_iff_eq.2 h35) (AllP.c (beq_iff_eq.2 h35) (AllP.c (beq_iff_eq.2 h36) (AllP.c (beq_iff_eq.2 h36) (AllP.c (beq_iff_eq.2 h36) (AllP.c (beq_iff_eq.2 h37) (AllP.c (beq_iff_eq.2 h37) (AllP.c (beq_iff_eq.2 h37) (AllP.c (beq_iff_eq.2 h37) (AllP.c h38 (AllP.c h38 (AllP.c h38 (AllP.c h38 (AllP.c h39 (AllP.c h39 (AllP.c h39 (AllP.c h39 AllP.n))))))))))))))))))))))))))))))))))))))))))))))))))))))))))))))))))))))))))))))))))))))))))))))))
theorem demurragelaw09_IcmaSplit_21 {a1 : Int} {a2 : Int} {n3 : Nat} {g4 : Nat → Int} {a5 : Int} {a6 : Int} {a7 : Int} {r8 : Bool} {r9 : Int} {r10 : Int} {r11 : Int} {q12 : Nat → Int} {q13 : Nat → Int} {q14 : Nat → Int} {q15 : Nat → Int} {q16 : Nat → Int} {r17 : Int} {r18 : Int} {r19 : Int} {r20 : Int} {r21 : Int} {r22 : Int} {r23 : Int} {r24 : Int} {r25 : Int} (h0 : ¬ ((n3 : Nat) : Int) > 40) (h1 : SCall Tryd.prog GL 12 [.sl 0 n3, I a5] [some (.row false 3 n3 1 (fun i => [I (g4 i)]))] (B r8) []) (h2 : r8 = true) (h3 : SCall Tryd.prog GL 9 [I a1, I a2, .sl 0 n3, I a5] [some (.row false 3 n3 1 (fun i => [I (g4 i)]))] (.tup [.agg [I r9, I r10], I r11]) []) (h4 : r11 = 0) (h5 : InR .i64 a6) (h6 : (0 : Int) ≤ a6) (h7 : (0 : Int) < ((n3 : Nat) : Int)) (h8 : (0 : Int) ≤ (a6 % ((n3 : Nat) : Int)) ∧ (a6 % ((n3 : Nat) : Int)) ≤ ((n3 : Nat) : Int)) (h9 : (0 : Int) ≤ 0 ∧ (0 : Int) ≤ (a6 % ((n3 : Nat) : Int))) (h10 : ∀ k, k < (0 + (((a6 % ((n3 : Nat) : Int)).toNat) - 0)) → q12 k = if k < 0 then 0 else (g4 ((k - 0) + 0))) (h11 : (0 + (((a6 % ((n3 : Nat) : Int)).toNat) - 0)) * 8 ≤ 140737488355328) (h12 : (0 : Int) ≤ (a6 % ((n3 : Nat) : Int)) ∧ (a6 % ((n3 : Nat) : Int)) < ((n3 : Nat) : Int)) (h13 : ∀ k, k < ((0 + (((a6 % ((n3 : Nat) : Int)).toNat) - 0)) + 1) → q13 k = if k < (0 + (((a6 % ((n3 : Nat) : Int)).toNat) - 0)) then (q12 k) else (g4 ((a6 % ((n3 : Nat) : Int)).toNat))) (h14 : ((0 + (((a6 % ((n3 : Nat) : Int)).toNat) - 0)) + 1) * 8 ≤ 140737488355328) (h15 : (0 : Int) ≤ (a6 % ((n3 : Nat) : Int)) ∧ ((a6 % ((n3 : Nat) : Int)) : Int) ≤ ((n3 : Nat) : Int)) (h16 : ∀ k, k < (((0 + (((a6 % ((n3 : Nat) : Int)).toNat) - 0)) + 1) + ((((n3 : Nat) : Int).toNat) - ((a6 % ((n3 : Nat) : Int)).toNat))) → q14 k = if k < ((0 + (((a6 % ((n3 : Nat) : Int)).toNat) - 0)) + 1) then (q13 k) else (g4 ((k - ((0 + (((a6 % ((n3 : Nat) : Int)).toNat) - 0)) + 1)) + ((a6 % ((n3 : Nat) : Int)).toNat)))) (h17 : (((0 + (((a6 % ((n3 : Nat) : Int)).toNat) - 0)) + 1) + ((((n3 : Nat) : Int).toNat) - ((a6 % ((n3 : Nat) : Int)).toNat))) * 8 ≤ 140737488355328) (h18 : ∀ k, k < (0 + n3) → q15 k = if k < 0 then 0 else (g4 (k - 0))) (h19 : (0 + n3) * 8 ≤ 140737488355328) (h20 : (0 : Int) ≤ 0 ∧ 0 < ((n3 : Nat) : Int)) (h21 : InR .i64 a7) (h22 : InR .i64 (1 + a7)) (h23 : ¬ (g4 0) > (1 + a7)) (h24 : ∀ k, k < (0 + n3) → q16 k = if k < 0 then 0 else (g4 (k - 0))) (h25 : InR .i64 (((n3 : Nat) : Int) - 1)) (h26 : (0 : Int) ≤ (((n3 : Nat) : Int) - 1) ∧ (((n3 : Nat) : Int) - 1) < ((n3 : Nat) : Int)) (h27 : InR .i64 ((g4 ((((n3 : Nat) : Int) - 1).toNat)) + 1)) (h28 : InR .i64 (((g4 ((((n3 : Nat) : Int) - 1).toNat)) + 1) + a7)) (h29 : ¬ (((g4 ((((n3 : Nat) : Int) - 1).toNat)) + 1) + a7) ≤ 3652059) (h30 : SCall Tryd.prog GL 9 [I a1, I a2, .sl 0 (((0 + (((a6 % ((n3 : Nat) : Int)).toNat) - 0)) + 1) + ((((n3 : Nat) : Int).toNat) - ((a6 % ((n3 : Nat) : Int)).toNat))), I a5] [some (.row false 3 (((0 + (((a6 % ((n3 : Nat) : Int)).toNat) - 0)) + 1) + ((((n3 : Nat) : Int).toNat) - ((a6 % ((n3 : Nat) : Int)).toNat))) 1 (fun i => [I (q14 i)]))] (.tup [.agg [I r17, I r18], I r19]) []) (h31 : SCall Tryd.prog GL 9 [I a1, I a2, .sl 0 (0 + n3), I a5] [some (.row false 3 (0 + n3) 1 (fun i => [I (q15 i)]))] (.tup [.agg [I r20, I r21], I r22]) []) (h32 : SCall Tryd.prog GL 9 [I a1, I a2, .sl 0 (0 + n3), I a5] [some (.row false 3 (0 + n3) 1 (fun i => [I (q16 i)]))] (.tup [.agg [I r23, I r24], I r25]) []) (h33 : r19 = 0) (h34 : r22 = 0) (h35 : r25 = 0) (h36 : ((r17 == r9) && ((r18 == r10) && true)) = true) (h37 : ((r20 == r9) && ((r21 == r10) && true)) = true) :
    SCall Tryd.prog GL 6 [.agg [I a1, I a2, .sl 0 n3, I a5, N .u8 a6, N .u16 a7]] [some (.row false 3 n3 1 (fun i => [I (g4 i)]))] (B ((r23 == r9) && ((r24 == r10) && true))) [] :=
  SCall.path 219 [.call [] (B true) [], .b false, .b false, .b false, .call [0] (B r8) [], .b false, .b false, .b false, .call [0] (.tup [.agg [I r9, I r10], I r11]) [], .b false, .draw 14 [] 0, .row (fun i => [I 0]), .row (fun i => [I (q12 i)]), .row (fun i => [I (g4 ((a6 % ((n3 : Nat) : Int)).toNat))]), .row (fun i => [I (q13 i)]), .row (fun i => [I (q14 i)]), .row (fun i => [I 0]), .row (fun i => [I (q15 i)]), .b false, .row (fun i => [I 0]), .row (fun i => [I (q16 i)]), .b false, .call [9] (.tup [.agg [I r17, I r18], I r19]) [], .call [11] (.tup [.agg [I r20, I r21], I r22]) [], .call [13] (.tup [.agg [I r23, I r24], I r25]) [], .b true, .b true, .b true, .b true, .b true, .b true, .b true, .b true, .b true, .b true, .b true, .b true, .b true, .b true, .b true, .b true, .b true, .b true, .b true, .b true, .b true] [] 17 (by kernel_rfl) rfl (by exact ⟨fun _ => rfl, trivial⟩) (AllP.c (show SCall Tryd.prog GL 8 [] [] (B true) [] from shown_ok) (AllP.c (decide_eq_false h0) (AllP.c (decide_eq_false h0) (AllP.c (decide_eq_false h0) (AllP.c h1 (AllP.c (decide_eq_false h0) (AllP.c (decide_eq_false h0) (AllP.c (Go.Sx.not_f (h2)) (AllP.c h3 (AllP.c (bne_eq_false_iff_eq.2 h4) (AllP.c h5 (AllP.c h6 (AllP.c h7 (AllP.c (show ∀ k, k < 0 → (fun i => [I 0]) k = [].getD k [] from by intro k hk; omega) (AllP.c (show n3 = n3 from rfl) (AllP.c h8 (AllP.c h9 (AllP.c (show (((a6 % ((n3 : Nat) : Int)).toNat) - 0) = (((a6 % ((n3 : Nat) : Int)).toNat) - 0) from rfl) (AllP.c (show 0 = 0 from rfl) (AllP.c h11 (AllP.c (show ∀ k, k < 0 + (((a6 % ((n3 : Nat) : Int)).toNat) - 0) → (fun i => [I (q12 i)]) k = if k < 0 then (fun i => [I 0]) k else (fun i => [I (g4 (i + 0))]) (k - 0) from fun k hk => by
      have e0 := h10 k hk
      by_cases c : k < 0
      · rw [if_pos c] at e0 ⊢; simp only [e0]
      · rw [if_neg c] at e0 ⊢; simp only [e0]) (AllP.c h12 (AllP.c (show n3 = n3 from rfl) (AllP.c h12 (AllP.c (show ∀ k, k < 1 → (fun i => [I (g4 ((a6 % ((n3 : Nat) : Int)).toNat))]) k = [[I (g4 ((a6 % ((n3 : Nat) : Int)).toNat))]].getD k [] from by intro k hk; match k, hk with | 0, _ => rfl | k + 1, hk => omega) (AllP.c (show 1 = 1 from rfl) (AllP.c (show (0 + (((a6 % ((n3 : Nat) : Int)).toNat) - 0)) = (0 + (((a6 % ((n3 : Nat) : Int)).toNat) - 0)) from rfl) (AllP.c h14 (AllP.c (show ∀ k, k < (0 + (((a6 % ((n3 : Nat) : Int)).toNat) - 0)) + 1 → (fun i => [I (q13 i)]) k = if k < (0 + (((a6 % ((n3 : Nat) : Int)).toNat) - 0)) then (fun i => [I (q12 i)]) k else (fun i => [I (g4 ((a6 % ((n3 : Nat) : Int)).toNat))]) (k - (0 + (((a6 % ((n3 : Nat) : Int)).toNat) - 0))) from fun k hk => by
      have e0 := h13 k hk
      by_cases c : k < (0 + (((a6 % ((n3 : Nat) : Int)).toNat) - 0))
      · rw [if_pos c] at e0 ⊢; simp only [e0]
      · rw [if_neg c] at e0 ⊢; simp only [e0]) (AllP.c (show n3 = n3 from rfl) (AllP.c (show (0 : Int) ≤ ((n3 : Nat) : Int) ∧ ((n3 : Nat) : Int) ≤ ((n3 : Nat) : Int) from by first | decide | omega | (constructor <;> omega)) (AllP.c h15 (AllP.c (show ((((n3 : Nat) : Int).toNat) - ((a6 % ((n3 : Nat) : Int)).toNat)) = ((((n3 : Nat) : Int).toNat) - ((a6 % ((n3 : Nat) : Int)).toNat)) from rfl) (AllP.c (show ((0 + (((a6 % ((n3 : Nat) : Int)).toNat) - 0)) + 1) = ((0 + (((a6 % ((n3 : Nat) : Int)).toNat) - 0)) + 1) from rfl) (AllP.c h17 (AllP.c (show ∀ k, k < ((0 + (((a6 % ((n3 : Nat) : Int)).toNat) - 0)) + 1) + ((((n3 : Nat) : Int).toNat) - ((a6 % ((n3 : Nat) : Int)).toNat)) → (fun i => [I (q14 i)]) k = if k < ((0 + (((a6 % ((n3 : Nat) : Int)).toNat) - 0)) + 1) then (fun i => [I (q13 i)]) k else (fun i => [I (g4 (i + ((a6 % ((n3 : Nat) : Int)).toNat)))]) (k - ((0 + (((a6 % ((n3 : Nat) : Int)).toNat) - 0)) + 1)) from fun k hk => by
      have e0 := h16 k hk
      by_cases c : k < ((0 + (((a6 % ((n3 : Nat) : Int)).toNat) - 0)) + 1)
      · rw [if_pos c] at e0 ⊢; simp only [e0]
      · rw [if_neg c] at e0 ⊢; simp only [e0]) (AllP.c (show ∀ k, k < 0 → (fun i => [I 0]) k = [].getD k [] from by intro k hk; omega) (AllP.c (show n3 = n3 from rfl) (AllP.c (show 0 = 0 from rfl) (AllP.c h19 (AllP.c (show ∀ k, k < 0 + n3 → (fun i => [I (q15 i)]) k = if k < 0 then (fun i => [I 0]) k else (fun i => [I (g4 i)]) (k - 0) from fun k hk => by
      have e0 := h18 k hk
      by_cases c : k < 0
      · rw [if_pos c] at e0 ⊢; simp only [e0]
      · rw [if_neg c] at e0 ⊢; simp only [e0]) (AllP.c h20 (AllP.c (show n3 = n3 from rfl) (AllP.c h20 (AllP.c h21 (AllP.c h22 (AllP.c (decide_eq_false h23) (AllP.c (show ∀ k, k < 0 → (fun i => [I 0]) k = [].getD k [] from by intro k hk; omega) (AllP.c (show n3 = n3 from rfl) (AllP.c (show 0 = 0 from rfl) (AllP.c h19 (AllP.c (show ∀ k, k < 0 + n3 → (fun i => [I (q16 i)]) k = if k < 0 then (fun i => [I 0]) k else (fun i => [I (g4 i)]) (k - 0) from fun k hk => by
      have e0 := h24 k hk
      by_cases c : k < 0
      · rw [if_pos c] at e0 ⊢; simp only [e0]
      · rw [if_neg c] at e0 ⊢; simp only [e0]) (AllP.c h25 (AllP.c h26 (AllP.c (show n3 = n3 from rfl) (AllP.c h26 (AllP.c h27 (AllP.c h21 (AllP.c h28 (AllP.c (decide_eq_false h29) (AllP.c h30 (AllP.c h31 (AllP.c h32 (AllP.c (show true = true from rfl) (AllP.c (show true = true from rfl) (AllP.c (show true = true from rfl) (AllP.c (beq_iff_eq.2 h33) (AllP.c (beq_iff_eq.2 h33) (AllP.c (beq_iff_eq.2 h33) (AllP.c (beq_iff_eq.2 h34) (AllP.c (beq_iff_eq.2 h34) (AllP.c (beq_iff_eq.2 h34) (AllP.c (beq_iff_eq.2 h35) (AllP.c (beq_iff_eq.2 h35) (AllP.c (beq_iff_eq.2 h35) (AllP.c (beq_iff_eq.2 h35) (AllP.c h36 (AllP.c h36 (AllP.c h36 (AllP.c h36 (AllP.c h37 (AllP.c h37 (AllP.c h37 (AllP.c h37 AllP.n))))))))))))))))))))))))))))))))))))))))))))))))))))))))))))))))))))))))))))))))))))

theorem split_ok {n : Nat} {g : Nat → Int} {a b f a6 a7 : Int} (i6 : InR .u8 a6) (i7 : InR .u16 a7) :
    SCall Tryd.prog GL 6 [.agg [I a, I b, .sl 0 n, I f, N .u8 a6, N .u16 a7]] [some (.row false 3 n 1 (fun i => [I (g i)]))] (B true) [] := by
  simp only [InR] at i6 i7
  by_cases h : ((n : Nat) : Int) > 40
  · exact demurragelaw09_IcmaSplit_0 h
  cases hm : mayB n g f
  · exact demurragelaw09_IcmaSplit_1 h rmay hm
  by_cases hc : (partR a b n g f).2.2 = 0
  · obtain ⟨-, ha, hab, hb⟩ := partR_ok hc
    obtain ⟨m1, m2, m3, m4, m5, m6, m7⟩ := may_facts hm
    have hn : n ≤ 40 := by omega
    have d0 := m5 0 (by omega)
    have dn := m5 (n - 1) (by omega)
    have hp := ipart_at (partR_in hm ha hab hb)
    have hk : 0 ≤ a6 % (n : Int) ∧ a6 % (n : Int) < (n : Int) := ⟨Int.emod_nonneg _ (by omega), Int.emod_lt_of_pos _ (by omega)⟩
    have eg : (((n : Nat) : Int) - 1).toNat = n - 1 := by omega
    have q5 : InR .i64 a6 := by simp only [InR]; omega
    have q21 : InR .i64 a7 := by simp only [InR]; omega
    have q22 : InR .i64 (1 + a7) := by simp only [InR]; omega
    have q29 : InR .i64 (((n : Nat) : Int) - 1) := by simp only [InR]; omega
    have q30 : (0 : Int) ≤ ((n : Nat) : Int) - 1 ∧ ((n : Nat) : Int) - 1 < ((n : Nat) : Int) := by omega
    have q31 : InR .i64 (g (((n : Nat) : Int) - 1).toNat + 1) := by rw [eg]; simp only [InR]; omega
    have q32 : InR .i64 (g (((n : Nat) : Int) - 1).toNat + 1 + a7) := by rw [eg]; simp only [InR]; omega
    have pd := ipart_at (part_dupF (s := (a6 % (n : Int)).toNat) (L := 0 + ((a6 % (n : Int)).toNat - 0) + 1 + (((n : Nat) : Int).toNat - (a6 % (n : Int)).toNat)) hm hn ha hab hb (by omega) (by omega))
    have p0 := ipart_at (partR_in hm ha hab hb)
    have pc : SCall Tryd.prog GL 9 [I a, I b, .sl 0 (0 + n), I f] [some (.row false 3 (0 + n) 1 (fun i => [I (g i)]))] (RQ (psum a b f.toNat g (n - 1))) [] := by rw [Nat.zero_add]; exact p0
    have c10 : ∀ k, k < 0 + ((a6 % (n : Int)).toNat - 0) → g k = if k < 0 then 0 else g (k - 0 + 0) := fun k _ => by rw [if_neg (by omega)]; rfl
    have c13 : ∀ k, k < 0 + ((a6 % (n : Int)).toNat - 0) + 1 → g k = if k < 0 + ((a6 % (n : Int)).toNat - 0) then g k else g (a6 % (n : Int)).toNat := fun k hk => by
      split
      · rfl
      · rw [show k = (a6 % (n : Int)).toNat by omega]
    have c16 : ∀ k, k < 0 + ((a6 % (n : Int)).toNat - 0) + 1 + (((n : Nat) : Int).toNat - (a6 % (n : Int)).toNat) → dupF g (a6 % (n : Int)).toNat k = if k < 0 + ((a6 % (n : Int)).toNat - 0) + 1 then g k else g (k - (0 + ((a6 % (n : Int)).toNat - 0) + 1) + (a6 % (n : Int)).toNat) := fun k hk => by
      show (if k ≤ _ then g k else g (k - 1)) = _
      split
      · rw [if_pos (by omega)]
      · rw [if_neg (by omega), show k - (0 + ((a6 % (n : Int)).toNat - 0) + 1) + (a6 % (n : Int)).toNat = k - 1 by omega]
    have c18 : ∀ k, k < 0 + n → g k = if k < 0 then 0 else g (k - 0) := fun k _ => by rw [if_neg (by omega)]; rfl
    have c26 : ∀ k, k < 1 + n → aheadF g (g 0 - 1 - a7) k = if k < 1 then g 0 - 1 - a7 else g (k - 1) := fun k _ => rfl
    have c34 : ∀ k, k < 0 + n + 1 → behindF g n (g (((n : Nat) : Int) - 1).toNat + 1 + a7) k = if k < 0 + n then g k else g (((n : Nat) : Int) - 1).toNat + 1 + a7 := fun k _ => by rw [Nat.zero_add]
    by_cases h1 : g 0 > 1 + a7
    · have pa := ipart_at (part_aheadF (v := g 0 - 1 - a7) (L := 1 + n) hm hn ha hab hb (by omega) (by omega) (by omega))
      by_cases h2 : g (((n : Nat) : Int) - 1).toNat + 1 + a7 ≤ 3652059
      · have pb := ipart_at (part_behindF (v := g (((n : Nat) : Int) - 1).toNat + 1 + a7) (L := 0 + n + 1) hm hn ha hab hb h2 (by rw [eg]; omega) (by omega))
        have := demurragelaw09_IcmaSplit_3 h rmay hm hp rfl q5 (by omega) (by omega) (by omega) (by omega) c10 (by omega) (by omega) c13 (by omega) (by omega) c16 (by omega) c18 (by omega) (by omega) q21 q22 h1 (by simp only [InR]; omega) (by simp only [InR]; omega) c26 (by omega) c18 q29 q30 q31 q32 h2 c34 (by omega) pd pa pb rfl rfl rfl (by simp) (by simp)
        simpa using this
      · have := demurragelaw09_IcmaSplit_9 h rmay hm hp rfl q5 (by omega) (by omega) (by omega) (by omega) c10 (by omega) (by omega) c13 (by omega) (by omega) c16 (by omega) c18 (by omega) (by omega) q21 q22 h1 (by simp only [InR]; omega) (by simp only [InR]; omega) c26 (by omega) c18 q29 q30 q31 q32 h2 pd pa pc rfl rfl rfl (by simp) (by simp)
        simpa using this
    · by_cases h2 : g (((n : Nat) : Int) - 1).toNat + 1 + a7 ≤ 3652059
      · have pb := ipart_at (part_behindF (v := g (((n : Nat) : Int) - 1).toNat + 1 + a7) (L := 0 + n + 1) hm hn ha hab hb h2 (by rw [eg]; omega) (by omega))
        have := demurragelaw09_IcmaSplit_15 h rmay hm hp rfl q5 (by omega) (by omega) (by omega) (by omega) c10 (by omega) (by omega) c13 (by omega) (by omega) c16 (by omega) c18 (by omega) (by omega) q21 q22 h1 c18 q29 q30 q31 q32 h2 c34 (by omega) pd pc pb rfl rfl rfl (by simp) (by simp)
        simpa using this
      · have := demurragelaw09_IcmaSplit_21 h rmay hm hp rfl q5 (by omega) (by omega) (by omega) (by omega) c10 (by omega) (by omega) c13 (by omega) (by omega) c16 (by omega) c18 (by omega) (by omega) q21 q22 h1 c18 q29 q30 q31 q32 h2 pd pc pc rfl rfl rfl (by simp) (by simp)
        simpa using this
  · have := demurragelaw09_IcmaSplit_2 (n3 := n) (g4 := g) (a1 := a) (a2 := b) (a5 := f) (a6 := a6) (a7 := a7) h rmay hm ipart hc
    rw [(partR_nil hc).1, (partR_nil hc).2] at this
    simpa using this


end Go.Proofs.YtigjggkendgjeaaDoor
