import Derived.Test.YtehnnaanpmceiaaGreatDoorAc1
import Derived.Test.YtehnnaanpmceiaaGreatDoorNr
import Derived.Test.YtehnnaanpmceiaaGreatDoorAct
import Derived.Test.YtehnnaanpmceiaaGreatDoorProg
import Derived.KernelRfl
import Derived.Laws.Externs
set_option linter.unusedVariables false
set_option linter.unusedSimpArgs false
set_option linter.unusedSectionVars false
set_option maxRecDepth 100000
namespace Go.Proofs.YtehnnaanpmceiaaGreatDoor
open Go Go.Sx
variable [Env]

theorem right1 {k : Nat} (h : k ≤ 4611686018427387904) : rightB (k : Int) 1 = true := by
  refine decide_eq_true ⟨by omega, by omega, by omega, by omega, ?_⟩
  rw [Int.toNat_natCast, show (1 : Int).toNat = 1 from rfl, Nat.gcd_one_right]

theorem whole1 {o r k v : Nat} (hor : o * r ≤ 10000000000000000000) (hk : k ≤ 100) (h : o * r * k = v * 10000) : ofV (o : Int) (r : Int) (k : Int) 1 = ((v : Int), 0) := by
  have := ofV_ok (o := o) (r := r) (n := k) (d := 1) hor (by omega) (by omega) (by omega) (by omega) (right1 (by omega))
  rw [h, Nat.mul_one, near_exact (by decide)] at this
  exact this

/-- A fraction of two numbers, reduced: what it is. -/
theorem mkR_ok {n d : Nat} (hd : 0 < d) (hn : n / Nat.gcd n d ≤ 4611686018427387904) (hd2 : d / Nat.gcd n d ≤ 4611686018427387904) :
    ∃ N D g : Nat, mkR n d = ((N : Int), (D : Int), 0) ∧ 0 < g ∧ N * g = n ∧ D * g = d ∧ 0 < D ∧ rightB (N : Int) (D : Int) = true := by
  have hg : 0 < Nat.gcd n d := Nat.gcd_pos_of_pos_right _ hd
  have h1 := Nat.div_mul_cancel (Nat.gcd_dvd_left n d)
  have h2 := Nat.div_mul_cancel (Nat.gcd_dvd_right n d)
  have hc := Nat.coprime_div_gcd_div_gcd hg
  have hD : 0 < d / Nat.gcd n d := Nat.div_pos (Nat.le_of_dvd hd (Nat.gcd_dvd_right n d)) hg
  refine ⟨n / Nat.gcd n d, d / Nat.gcd n d, Nat.gcd n d, ?_, hg, h1, h2, hD, ?_⟩
  · unfold mkR; rw [if_neg (by omega)]
  · obtain ⟨x, hx⟩ : ∃ x, n / Nat.gcd n d = x := ⟨_, rfl⟩
    obtain ⟨y, hy⟩ : ∃ y, d / Nat.gcd n d = y := ⟨_, rfl⟩
    rw [hx] at hn hc ⊢
    rw [hy] at hd2 hD hc ⊢
    exact decide_eq_true ⟨by omega, by omega, by omega, by omega, hc⟩



theorem demurragelaw18_AccrueWhole_w {a1 a2 a3 : Int} {res : SV} (H : (0 : Int) ≤ a1 ∧ Ir (a1 % 10000000000) ∧ Ir a2 ∧ (0 : Int) ≤ a2 ∧ Ir a3 ∧ (0 : Int) ≤ a3 ∧ Ir (1 + (a3 % 50)) ∧ Ir (100 * (a1 % 10000000000)) ∧ Ir (100 * (a2 % 91)) ∧ Ir (100 * (a1 % 10000000000)) ∧ Ir (100 * (a2 % 91)) ∧ Ir (a1 % 10000000000) ∧ Ir 10000 ∧ (((ofV (100 * (a1 % 10000000000)) (100 * (a2 % 91)) 1 1).2) = 0 → (((ofV (a1 % 10000000000) 10000 (1 + (a3 % 50)) 1).2) = 0 → (((ofV (100 * (a1 % 10000000000)) (100 * (a2 % 91)) (1 + (a3 % 50)) 1).2) = 0 → (((ofV (100 * (a2 % 91)) (100 * (a1 % 10000000000)) (1 + (a3 % 50)) 1).2) = 0 → Ir ((a1 % 10000000000) * (a2 % 91)) ∧ (((ofV (100 * (a1 % 10000000000)) (100 * (a2 % 91)) 1 1).1) = ((a1 % 10000000000) * (a2 % 91)) → Ir ((a1 % 10000000000) * (1 + (a3 % 50))) ∧ (((ofV (a1 % 10000000000) 10000 (1 + (a3 % 50)) 1).1) = ((a1 % 10000000000) * (1 + (a3 % 50))) → Ir (((a1 % 10000000000) * (a2 % 91)) * (1 + (a3 % 50))) ∧ (((ofV (100 * (a1 % 10000000000)) (100 * (a2 % 91)) (1 + (a3 % 50)) 1).1) = (((a1 % 10000000000) * (a2 % 91)) * (1 + (a3 % 50))) → B (((ofV (100 * (a2 % 91)) (100 * (a1 % 10000000000)) (1 + (a3 % 50)) 1).1) == ((ofV (100 * (a1 % 10000000000)) (100 * (a2 % 91)) (1 + (a3 % 50)) 1).1)) = res) ∧ (((ofV (100 * (a1 % 10000000000)) (100 * (a2 % 91)) (1 + (a3 % 50)) 1).1) ≠ (((a1 % 10000000000) * (a2 % 91)) * (1 + (a3 % 50))) → B false = res)) ∧ (((ofV (a1 % 10000000000) 10000 (1 + (a3 % 50)) 1).1) ≠ ((a1 % 10000000000) * (1 + (a3 % 50))) → B false = res)) ∧ (((ofV (100 * (a1 % 10000000000)) (100 * (a2 % 91)) 1 1).1) ≠ ((a1 % 10000000000) * (a2 % 91)) → B false = res)) ∧ (((ofV (100 * (a2 % 91)) (100 * (a1 % 10000000000)) (1 + (a3 % 50)) 1).2) ≠ 0 → B false = res)) ∧ (((ofV (100 * (a1 % 10000000000)) (100 * (a2 % 91)) (1 + (a3 % 50)) 1).2) ≠ 0 → B false = res)) ∧ (((ofV (a1 % 10000000000) 10000 (1 + (a3 % 50)) 1).2) ≠ 0 → B false = res)) ∧ (((ofV (100 * (a1 % 10000000000)) (100 * (a2 % 91)) 1 1).2) ≠ 0 → B false = res)) :
    S 13 [N .u64 a1, N .u16 a2, N .u8 a3] [] res [] := by
  refine SCall.st fun X hX => ?_
  obtain ⟨h0, h1, h2, h3, h4, h5, h6, h7, h8, h9, h10, h11, h12, H1, H2⟩ := H
  refine hX.go [c_ [] (show S 29 [] [] (B true) [] from shown18), q_ h0, q_ (show (0 : Int) < 10000000000 from by decide), q_ h1, q_ h2, q_ h3, q_ (show (0 : Int) < 91 from by decide), q_ h4, q_ h5, q_ (show (0 : Int) < 50 from by decide), q_ h6, q_ h7, q_ h8, c_ [] (show S 35 [I (100 * (a1 % 10000000000)), I (100 * (a2 % 91)), .agg [I 1, I 1]] [] (.tup [I ((ofV (100 * (a1 % 10000000000)) (100 * (a2 % 91)) 1 1).1), I ((ofV (100 * (a1 % 10000000000)) (100 * (a2 % 91)) 1 1).2)]) [] from aOf _ _ h9 h10), c_ [] (show S 35 [I (a1 % 10000000000), I 10000, .agg [I (1 + (a3 % 50)), I 1]] [] (.tup [I ((ofV (a1 % 10000000000) 10000 (1 + (a3 % 50)) 1).1), I ((ofV (a1 % 10000000000) 10000 (1 + (a3 % 50)) 1).2)]) [] from aOf _ _ h11 h12), q_ h7, q_ h8, c_ [] (show S 35 [I (100 * (a1 % 10000000000)), I (100 * (a2 % 91)), .agg [I (1 + (a3 % 50)), I 1]] [] (.tup [I ((ofV (100 * (a1 % 10000000000)) (100 * (a2 % 91)) (1 + (a3 % 50)) 1).1), I ((ofV (100 * (a1 % 10000000000)) (100 * (a2 % 91)) (1 + (a3 % 50)) 1).2)]) [] from aOf _ _ h9 h10), q_ h8, q_ h7, c_ [] (show S 35 [I (100 * (a2 % 91)), I (100 * (a1 % 10000000000)), .agg [I (1 + (a3 % 50)), I 1]] [] (.tup [I ((ofV (100 * (a2 % 91)) (100 * (a1 % 10000000000)) (1 + (a3 % 50)) 1).1), I ((ofV (100 * (a2 % 91)) (100 * (a1 % 10000000000)) (1 + (a3 % 50)) 1).2)]) [] from aOf _ _ h10 h9), t_ rt, t_ rt, t_ rt] ?_
  by_cases h13 : ((ofV (100 * (a1 % 10000000000)) (100 * (a2 % 91)) 1 1).2) = 0
  · obtain ⟨H1, H2⟩ := H1 h13
    refine hX.go [t_ (beq_iff_eq.2 h13), t_ (beq_iff_eq.2 h13), t_ (beq_iff_eq.2 h13)] ?_
    by_cases h14 : ((ofV (a1 % 10000000000) 10000 (1 + (a3 % 50)) 1).2) = 0
    · obtain ⟨H1, H2⟩ := H1 h14
      refine hX.go [t_ (beq_iff_eq.2 h14), t_ (beq_iff_eq.2 h14), t_ (beq_iff_eq.2 h14)] ?_
      by_cases h15 : ((ofV (100 * (a1 % 10000000000)) (100 * (a2 % 91)) (1 + (a3 % 50)) 1).2) = 0
      · obtain ⟨H1, H2⟩ := H1 h15
        refine hX.go [t_ (beq_iff_eq.2 h15), t_ (beq_iff_eq.2 h15), t_ (beq_iff_eq.2 h15)] ?_
        by_cases h16 : ((ofV (100 * (a2 % 91)) (100 * (a1 % 10000000000)) (1 + (a3 % 50)) 1).2) = 0
        · obtain ⟨h17, H1, H2⟩ := H1 h16
          refine hX.go [t_ (beq_iff_eq.2 h16), t_ (beq_iff_eq.2 h16), t_ (beq_iff_eq.2 h16), t_ (beq_iff_eq.2 h16), q_ h17, t_ (beq_iff_eq.2 h16), t_ (beq_iff_eq.2 h16)] ?_
          by_cases h18 : ((ofV (100 * (a1 % 10000000000)) (100 * (a2 % 91)) 1 1).1) = ((a1 % 10000000000) * (a2 % 91))
          · obtain ⟨h19, H1, H2⟩ := H1 h18
            refine hX.go [t_ (beq_iff_eq.2 h18), t_ (beq_iff_eq.2 h18), t_ (beq_iff_eq.2 h18), t_ (beq_iff_eq.2 h18), q_ h19, t_ (beq_iff_eq.2 h18), t_ (beq_iff_eq.2 h18)] ?_
            by_cases h20 : ((ofV (a1 % 10000000000) 10000 (1 + (a3 % 50)) 1).1) = ((a1 % 10000000000) * (1 + (a3 % 50)))
            · obtain ⟨h21, H1, H2⟩ := H1 h20
              refine hX.go [t_ (beq_iff_eq.2 h20), t_ (beq_iff_eq.2 h20), t_ (beq_iff_eq.2 h20), t_ (beq_iff_eq.2 h20), q_ h17, t_ (beq_iff_eq.2 h20), t_ (beq_iff_eq.2 h20), q_ h21, t_ (beq_iff_eq.2 h20), t_ (beq_iff_eq.2 h20)] ?_
              by_cases h22 : ((ofV (100 * (a1 % 10000000000)) (100 * (a2 % 91)) (1 + (a3 % 50)) 1).1) = (((a1 % 10000000000) * (a2 % 91)) * (1 + (a3 % 50)))
              · obtain rfl := H1 h22
                exact hX.e [t_ (beq_iff_eq.2 h22), t_ (beq_iff_eq.2 h22), t_ (beq_iff_eq.2 h22), t_ (beq_iff_eq.2 h22)]
              · obtain rfl := H2 h22
                exact hX.e [f_ (beq_eq_false_iff_ne.2 h22), f_ (beq_eq_false_iff_ne.2 h22), f_ (beq_eq_false_iff_ne.2 h22), f_ (beq_eq_false_iff_ne.2 h22)]
            · obtain rfl := H2 h20
              exact hX.e [f_ (beq_eq_false_iff_ne.2 h20), f_ (beq_eq_false_iff_ne.2 h20), f_ (beq_eq_false_iff_ne.2 h20), f_ (beq_eq_false_iff_ne.2 h20), f_ (beq_eq_false_iff_ne.2 h20), f_ (beq_eq_false_iff_ne.2 h20), f_ (beq_eq_false_iff_ne.2 h20), f_ (beq_eq_false_iff_ne.2 h20), f_ rf, f_ rf, f_ rf, f_ rf]
          · obtain rfl := H2 h18
            exact hX.e [f_ (beq_eq_false_iff_ne.2 h18), f_ (beq_eq_false_iff_ne.2 h18), f_ (beq_eq_false_iff_ne.2 h18), f_ (beq_eq_false_iff_ne.2 h18), f_ (beq_eq_false_iff_ne.2 h18), f_ (beq_eq_false_iff_ne.2 h18), f_ rf, f_ rf, f_ rf, f_ rf, f_ rf, f_ rf, f_ rf, f_ rf, f_ rf, f_ rf, f_ rf, f_ rf]
        · obtain rfl := H2 h16
          exact hX.e [f_ (beq_eq_false_iff_ne.2 h16), f_ (beq_eq_false_iff_ne.2 h16), f_ (beq_eq_false_iff_ne.2 h16), f_ (beq_eq_false_iff_ne.2 h16), f_ (beq_eq_false_iff_ne.2 h16), f_ (beq_eq_false_iff_ne.2 h16), f_ rf, f_ rf, f_ rf, f_ rf, f_ rf, f_ rf, f_ rf, f_ rf, f_ rf, f_ rf, f_ rf, f_ rf, f_ rf, f_ rf, f_ rf, f_ rf, f_ rf, f_ rf]
      · obtain rfl := H2 h15
        exact hX.e [f_ (beq_eq_false_iff_ne.2 h15), f_ (beq_eq_false_iff_ne.2 h15), f_ (beq_eq_false_iff_ne.2 h15), f_ rf, f_ rf, f_ rf, f_ rf, f_ rf, f_ rf, f_ rf, f_ rf, f_ rf, f_ rf, f_ rf, f_ rf, f_ rf, f_ rf, f_ rf, f_ rf, f_ rf, f_ rf, f_ rf, f_ rf, f_ rf, f_ rf, f_ rf, f_ rf]
    · obtain rfl := H2 h14
      exact hX.e [f_ (beq_eq_false_iff_ne.2 h14), f_ (beq_eq_false_iff_ne.2 h14), f_ (beq_eq_false_iff_ne.2 h14), f_ rf, f_ rf, f_ rf, f_ rf, f_ rf, f_ rf, f_ rf, f_ rf, f_ rf, f_ rf, f_ rf, f_ rf, f_ rf, f_ rf, f_ rf, f_ rf, f_ rf, f_ rf, f_ rf, f_ rf, f_ rf, f_ rf, f_ rf, f_ rf, f_ rf, f_ rf, f_ rf]
  · obtain rfl := H2 h13
    exact hX.e [f_ (beq_eq_false_iff_ne.2 h13), f_ (beq_eq_false_iff_ne.2 h13), f_ (beq_eq_false_iff_ne.2 h13), f_ rf, f_ rf, f_ rf, f_ rf, f_ rf, f_ rf, f_ rf, f_ rf, f_ rf, f_ rf, f_ rf, f_ rf, f_ rf, f_ rf, f_ rf, f_ rf, f_ rf, f_ rf, f_ rf, f_ rf, f_ rf, f_ rf, f_ rf, f_ rf, f_ rf, f_ rf, f_ rf, f_ rf, f_ rf, f_ rf]

theorem accrueWhole_ok {a1 a2 a3 : Int} (i1 : InR .u64 a1) (i2 : InR .u16 a2) (i3 : InR .u8 a3) : S 13 [N .u64 a1, N .u16 a2, N .u8 a3] [] (B true) [] := by
  simp only [InR] at i1 i2 i3
  obtain ⟨M, hM⟩ : ∃ M : Nat, a1 % 10000000000 = (M : Int) := ⟨(a1 % 10000000000).toNat, by omega⟩
  obtain ⟨R, hR⟩ : ∃ R : Nat, a2 % 91 = (R : Int) := ⟨(a2 % 91).toNat, by omega⟩
  obtain ⟨k, hk⟩ : ∃ k : Nat, 1 + a3 % 50 = (k : Int) := ⟨(1 + a3 % 50).toNat, by omega⟩
  have bM : M ≤ 10000000000 := by omega
  have bR : R ≤ 90 := by omega
  have bk : k ≤ 50 := by omega
  have bMR : M * R ≤ 10000000000 * 90 := Nat.mul_le_mul bM bR
  have bMk : M * k ≤ 10000000000 * 50 := Nat.mul_le_mul bM bk
  have bMRk : M * R * k ≤ 10000000000 * 90 * 50 := Nat.mul_le_mul bMR bk
  have p1 : 100 * M * (100 * R) = M * R * 10000 := by rw [Nat.mul_mul_mul_comm, Nat.mul_comm]
  have p2 : 100 * R * (100 * M) = M * R * 10000 := by rw [Nat.mul_comm, p1]
  have e1 : ofV (100 * (M : Int)) (100 * (R : Int)) 1 1 = ((M : Int) * (R : Int), 0) := by
    have := whole1 (o := 100 * M) (r := 100 * R) (k := 1) (v := M * R) (by omega) (by decide) (by rw [p1, Nat.mul_one])
    simpa using this
  have e2 : ofV (M : Int) 10000 (k : Int) 1 = ((M : Int) * (k : Int), 0) := by
    have := whole1 (o := M) (r := 10000) (k := k) (v := M * k) (by omega) (by omega) (by rw [Nat.mul_right_comm])
    simpa using this
  have e3 : ofV (100 * (M : Int)) (100 * (R : Int)) (k : Int) 1 = ((M : Int) * (R : Int) * (k : Int), 0) := by
    have := whole1 (o := 100 * M) (r := 100 * R) (k := k) (v := M * R * k) (by omega) (by omega) (by rw [p1, Nat.mul_right_comm])
    simpa using this
  have e4 : ofV (100 * (R : Int)) (100 * (M : Int)) (k : Int) 1 = ((M : Int) * (R : Int) * (k : Int), 0) := by
    have := whole1 (o := 100 * R) (r := 100 * M) (k := k) (v := M * R * k) (by omega) (by omega) (by rw [p2, Nat.mul_right_comm])
    simpa using this
  have q1 : (M : Int) * (R : Int) = ((M * R : Nat) : Int) := by simp
  have q2 : (M : Int) * (k : Int) = ((M * k : Nat) : Int) := by simp
  have q3 : (M : Int) * (R : Int) * (k : Int) = ((M * R * k : Nat) : Int) := by simp
  refine demurragelaw18_AccrueWhole_w ?_
  rw [hM, hR, hk, e1, e2, e3, e4]
  simp only [Ir, InR]
  refine ⟨by omega, by omega, by omega, by omega, by omega, by omega, by omega, by omega, by omega, by omega, by omega, by omega, by omega,
    fun _ => ⟨fun _ => ⟨fun _ => ⟨fun _ => ⟨by rw [q1]; omega, fun _ => ⟨by rw [q2]; omega, fun _ => ⟨by rw [q3]; omega, fun _ => by rw [beq_self_eq_true], fun c => absurd rfl c⟩, fun c => absurd rfl c⟩, fun c => absurd rfl c⟩, fun c => absurd rfl c⟩, fun c => absurd rfl c⟩, fun c => absurd rfl c⟩, fun c => absurd rfl c⟩



theorem demurragelaw18_AccrueNear_w {a1 a2 a3 : Int} {res : SV} (H : Ir a1 ∧ (0 : Int) ≤ a1 ∧ Ir a2 ∧ (0 : Int) ≤ a2 ∧ Ir a3 ∧ (0 : Int) ≤ a3 ∧ I63 (a3 % 721) ∧ Ir (a1 % 1000000000) ∧ Ir (a2 % 9001) ∧ Ir ((a1 % 1000000000) * (a2 % 9001)) ∧ Ir (((a1 % 1000000000) * (a2 % 9001)) * (a3 % 721)) ∧ Ir (((ofV (a1 % 1000000000) (a2 % 9001) ((mkI (a3 % 721) 360).1) ((mkI (a3 % 721) 360).2.1)).1) * 3600000) ∧ Ir ((((a1 % 1000000000) * (a2 % 9001)) * (a3 % 721)) - (((ofV (a1 % 1000000000) (a2 % 9001) ((mkI (a3 % 721) 360).1) ((mkI (a3 % 721) 360).2.1)).1) * 3600000)) ∧ (((((a1 % 1000000000) * (a2 % 9001)) * (a3 % 721)) - (((ofV (a1 % 1000000000) (a2 % 9001) ((mkI (a3 % 721) 360).1) ((mkI (a3 % 721) 360).2.1)).1) * 3600000)) < 0 → Ir (0 - ((((a1 % 1000000000) * (a2 % 9001)) * (a3 % 721)) - (((ofV (a1 % 1000000000) (a2 % 9001) ((mkI (a3 % 721) 360).1) ((mkI (a3 % 721) 360).2.1)).1) * 3600000))) ∧ (((ofV (a1 % 1000000000) (a2 % 9001) ((mkI (a3 % 721) 360).1) ((mkI (a3 % 721) 360).2.1)).2) = 0 → Ir (2 * (0 - ((((a1 % 1000000000) * (a2 % 9001)) * (a3 % 721)) - (((ofV (a1 % 1000000000) (a2 % 9001) ((mkI (a3 % 721) 360).1) ((mkI (a3 % 721) 360).2.1)).1) * 3600000)))) ∧ ((2 * (0 - ((((a1 % 1000000000) * (a2 % 9001)) * (a3 % 721)) - (((ofV (a1 % 1000000000) (a2 % 9001) ((mkI (a3 % 721) 360).1) ((mkI (a3 % 721) 360).2.1)).1) * 3600000)))) ≤ 3600000 → ((2 * (0 - ((((a1 % 1000000000) * (a2 % 9001)) * (a3 % 721)) - (((ofV (a1 % 1000000000) (a2 % 9001) ((mkI (a3 % 721) 360).1) ((mkI (a3 % 721) 360).2.1)).1) * 3600000)))) < 3600000 → B true = res) ∧ (¬ (2 * (0 - ((((a1 % 1000000000) * (a2 % 9001)) * (a3 % 721)) - (((ofV (a1 % 1000000000) (a2 % 9001) ((mkI (a3 % 721) 360).1) ((mkI (a3 % 721) 360).2.1)).1) * 3600000)))) < 3600000 → (0 : Int) ≤ ((ofV (a1 % 1000000000) (a2 % 9001) ((mkI (a3 % 721) 360).1) ((mkI (a3 % 721) 360).2.1)).1) ∧ B ((((ofV (a1 % 1000000000) (a2 % 9001) ((mkI (a3 % 721) 360).1) ((mkI (a3 % 721) 360).2.1)).1) % 2) == 0) = res)) ∧ (¬ (2 * (0 - ((((a1 % 1000000000) * (a2 % 9001)) * (a3 % 721)) - (((ofV (a1 % 1000000000) (a2 % 9001) ((mkI (a3 % 721) 360).1) ((mkI (a3 % 721) 360).2.1)).1) * 3600000)))) ≤ 3600000 → B false = res)) ∧ (((ofV (a1 % 1000000000) (a2 % 9001) ((mkI (a3 % 721) 360).1) ((mkI (a3 % 721) 360).2.1)).2) ≠ 0 → B false = res)) ∧ (¬ ((((a1 % 1000000000) * (a2 % 9001)) * (a3 % 721)) - (((ofV (a1 % 1000000000) (a2 % 9001) ((mkI (a3 % 721) 360).1) ((mkI (a3 % 721) 360).2.1)).1) * 3600000)) < 0 → (((ofV (a1 % 1000000000) (a2 % 9001) ((mkI (a3 % 721) 360).1) ((mkI (a3 % 721) 360).2.1)).2) = 0 → Ir (2 * ((((a1 % 1000000000) * (a2 % 9001)) * (a3 % 721)) - (((ofV (a1 % 1000000000) (a2 % 9001) ((mkI (a3 % 721) 360).1) ((mkI (a3 % 721) 360).2.1)).1) * 3600000))) ∧ ((2 * ((((a1 % 1000000000) * (a2 % 9001)) * (a3 % 721)) - (((ofV (a1 % 1000000000) (a2 % 9001) ((mkI (a3 % 721) 360).1) ((mkI (a3 % 721) 360).2.1)).1) * 3600000))) ≤ 3600000 → ((2 * ((((a1 % 1000000000) * (a2 % 9001)) * (a3 % 721)) - (((ofV (a1 % 1000000000) (a2 % 9001) ((mkI (a3 % 721) 360).1) ((mkI (a3 % 721) 360).2.1)).1) * 3600000))) < 3600000 → B true = res) ∧ (¬ (2 * ((((a1 % 1000000000) * (a2 % 9001)) * (a3 % 721)) - (((ofV (a1 % 1000000000) (a2 % 9001) ((mkI (a3 % 721) 360).1) ((mkI (a3 % 721) 360).2.1)).1) * 3600000))) < 3600000 → (0 : Int) ≤ ((ofV (a1 % 1000000000) (a2 % 9001) ((mkI (a3 % 721) 360).1) ((mkI (a3 % 721) 360).2.1)).1) ∧ B ((((ofV (a1 % 1000000000) (a2 % 9001) ((mkI (a3 % 721) 360).1) ((mkI (a3 % 721) 360).2.1)).1) % 2) == 0) = res)) ∧ (¬ (2 * ((((a1 % 1000000000) * (a2 % 9001)) * (a3 % 721)) - (((ofV (a1 % 1000000000) (a2 % 9001) ((mkI (a3 % 721) 360).1) ((mkI (a3 % 721) 360).2.1)).1) * 3600000))) ≤ 3600000 → B false = res)) ∧ (((ofV (a1 % 1000000000) (a2 % 9001) ((mkI (a3 % 721) 360).1) ((mkI (a3 % 721) 360).2.1)).2) ≠ 0 → B false = res))) :
    S 11 [N .u32 a1, N .u16 a2, N .u16 a3] [] res [] := by
  refine SCall.st fun X hX => ?_
  obtain ⟨h0, h1, h2, h3, h4, h5, h6, h7, h8, h9, h10, h11, h12, H1, H2⟩ := H
  refine hX.go [c_ [] (show S 29 [] [] (B true) [] from shown18), q_ h0, q_ h1, q_ (show (0 : Int) < 1000000000 from by decide), q_ h2, q_ h3, q_ (show (0 : Int) < 9001 from by decide), q_ h4, q_ h5, q_ (show (0 : Int) < 721 from by decide), c_ [] (show S 38 [I (a3 % 721), I 360] [] (RT (mkI (a3 % 721) 360)) [] from ref_NewI h6 (by decide)), c_ [] (show S 35 [I (a1 % 1000000000), I (a2 % 9001), .agg [I ((mkI (a3 % 721) 360).1), I ((mkI (a3 % 721) 360).2.1)]] [] (.tup [I ((ofV (a1 % 1000000000) (a2 % 9001) ((mkI (a3 % 721) 360).1) ((mkI (a3 % 721) 360).2.1)).1), I ((ofV (a1 % 1000000000) (a2 % 9001) ((mkI (a3 % 721) 360).1) ((mkI (a3 % 721) 360).2.1)).2)]) [] from aOf _ _ h7 h8), q_ h9, q_ h10, q_ h11, q_ h12] ?_
  by_cases h13 : ((((a1 % 1000000000) * (a2 % 9001)) * (a3 % 721)) - (((ofV (a1 % 1000000000) (a2 % 9001) ((mkI (a3 % 721) 360).1) ((mkI (a3 % 721) 360).2.1)).1) * 3600000)) < 0
  · obtain ⟨h14, H1, H2⟩ := H1 h13
    refine hX.go [t_ (dt h13), q_ h14, t_ rt, t_ rt, t_ rt] ?_
    by_cases h15 : ((ofV (a1 % 1000000000) (a2 % 9001) ((mkI (a3 % 721) 360).1) ((mkI (a3 % 721) 360).2.1)).2) = 0
    · obtain ⟨h16, H1, H2⟩ := H1 h15
      refine hX.go [t_ (beq_iff_eq.2 h15), t_ (beq_iff_eq.2 h15), q_ h16, t_ (beq_iff_eq.2 h15), t_ (beq_iff_eq.2 h15)] ?_
      by_cases h17 : (2 * (0 - ((((a1 % 1000000000) * (a2 % 9001)) * (a3 % 721)) - (((ofV (a1 % 1000000000) (a2 % 9001) ((mkI (a3 % 721) 360).1) ((mkI (a3 % 721) 360).2.1)).1) * 3600000)))) ≤ 3600000
      · obtain ⟨H1, H2⟩ := H1 h17
        refine hX.go [t_ (dt h17), t_ (dt h17), q_ h16, t_ (dt h17), t_ (dt h17)] ?_
        by_cases h18 : (2 * (0 - ((((a1 % 1000000000) * (a2 % 9001)) * (a3 % 721)) - (((ofV (a1 % 1000000000) (a2 % 9001) ((mkI (a3 % 721) 360).1) ((mkI (a3 % 721) 360).2.1)).1) * 3600000)))) < 3600000
        · obtain rfl := H1 h18
          exact hX.e [t_ (dt h18), t_ (dt h18), t_ (dt h18), t_ (dt h17), t_ (dt h18), t_ (dt h17)]
        · obtain ⟨h19, rfl⟩ := H2 h18
          exact hX.e [f_ (df h18), f_ (df h18), q_ h19, q_ (show (0 : Int) < 2 from by decide), f_ (df h18), t_ (dt h17), f_ (df h18), t_ (dt h17)]
      · obtain rfl := H2 h17
        exact hX.e [f_ (df h17), f_ (df h17), f_ (df h17), f_ (df h17), f_ (df h17), f_ (df h17)]
    · obtain rfl := H2 h15
      exact hX.e [f_ (beq_eq_false_iff_ne.2 h15), f_ (beq_eq_false_iff_ne.2 h15), f_ (beq_eq_false_iff_ne.2 h15), f_ (beq_eq_false_iff_ne.2 h15), f_ rf, f_ rf, f_ rf, f_ rf, f_ rf, f_ rf]
  · obtain ⟨H1, H2⟩ := H2 h13
    refine hX.go [f_ (df h13), t_ rt, t_ rt, t_ rt] ?_
    by_cases h14 : ((ofV (a1 % 1000000000) (a2 % 9001) ((mkI (a3 % 721) 360).1) ((mkI (a3 % 721) 360).2.1)).2) = 0
    · obtain ⟨h15, H1, H2⟩ := H1 h14
      refine hX.go [t_ (beq_iff_eq.2 h14), t_ (beq_iff_eq.2 h14), q_ h15, t_ (beq_iff_eq.2 h14), t_ (beq_iff_eq.2 h14)] ?_
      by_cases h16 : (2 * ((((a1 % 1000000000) * (a2 % 9001)) * (a3 % 721)) - (((ofV (a1 % 1000000000) (a2 % 9001) ((mkI (a3 % 721) 360).1) ((mkI (a3 % 721) 360).2.1)).1) * 3600000))) ≤ 3600000
      · obtain ⟨H1, H2⟩ := H1 h16
        refine hX.go [t_ (dt h16), t_ (dt h16), q_ h15, t_ (dt h16), t_ (dt h16)] ?_
        by_cases h17 : (2 * ((((a1 % 1000000000) * (a2 % 9001)) * (a3 % 721)) - (((ofV (a1 % 1000000000) (a2 % 9001) ((mkI (a3 % 721) 360).1) ((mkI (a3 % 721) 360).2.1)).1) * 3600000))) < 3600000
        · obtain rfl := H1 h17
          exact hX.e [t_ (dt h17), t_ (dt h17), t_ (dt h17), t_ (dt h16), t_ (dt h17), t_ (dt h16)]
        · obtain ⟨h18, rfl⟩ := H2 h17
          exact hX.e [f_ (df h17), f_ (df h17), q_ h18, q_ (show (0 : Int) < 2 from by decide), f_ (df h17), t_ (dt h16), f_ (df h17), t_ (dt h16)]
      · obtain rfl := H2 h16
        exact hX.e [f_ (df h16), f_ (df h16), f_ (df h16), f_ (df h16), f_ (df h16), f_ (df h16)]
    · obtain rfl := H2 h14
      exact hX.e [f_ (beq_eq_false_iff_ne.2 h14), f_ (beq_eq_false_iff_ne.2 h14), f_ (beq_eq_false_iff_ne.2 h14), f_ (beq_eq_false_iff_ne.2 h14), f_ rf, f_ rf, f_ rf, f_ rf, f_ rf, f_ rf]

theorem accrueNear_ok {a1 a2 a3 : Int} (i1 : InR .u32 a1) (i2 : InR .u16 a2) (i3 : InR .u16 a3) : S 11 [N .u32 a1, N .u16 a2, N .u16 a3] [] (B true) [] := by
  simp only [InR] at i1 i2 i3
  obtain ⟨A, hA⟩ : ∃ M : Nat, a1 % 1000000000 = (M : Int) := ⟨(a1 % 1000000000).toNat, by omega⟩
  obtain ⟨R, hR⟩ : ∃ R : Nat, a2 % 9001 = (R : Int) := ⟨(a2 % 9001).toNat, by omega⟩
  obtain ⟨d, hd⟩ : ∃ k : Nat, a3 % 721 = (k : Int) := ⟨(a3 % 721).toNat, by omega⟩
  have bA : A ≤ 1000000000 := by omega
  have bR : R ≤ 9000 := by omega
  have bd : d ≤ 720 := by omega
  obtain ⟨N, D, g, hmk, hg, hN, hD, hD0, hri⟩ := mkR_ok (n := d) (d := 360) (by decide) (Nat.le_trans (Nat.div_le_self _ _) (by omega)) (Nat.le_trans (Nat.div_le_self _ _) (by omega))
  have hmkI : mkI (d : Int) 360 = ((N : Int), (D : Int), 0) := by unfold mkI; rw [Int.toNat_natCast]; exact hmk
  have bN : N ≤ d := by rw [← hN]; exact Nat.le_mul_of_pos_right _ hg
  have bND : N ≤ 2 * D := Nat.le_of_mul_le_mul_right (c := g) (by rw [hN, Nat.mul_assoc, hD]; omega) hg
  have bD : D ≤ 360 := by rw [← hD]; exact Nat.le_mul_of_pos_right _ hg
  have bAR : A * R ≤ 1000000000 * 9000 := Nat.mul_le_mul bA bR
  have bARd : A * R * d ≤ 1000000000 * 9000 * 720 := Nat.mul_le_mul bAR bd
  have he := ofV_ok (o := A) (r := R) (n := N) (d := D) (by omega) (by omega) (by omega) (by omega) (by omega) hri
  obtain ⟨s1, s2, s3, s4⟩ := near_spec (x := A * R * N) (d := 10000 * D) (by omega)
  obtain ⟨q, hq⟩ : ∃ q, near (A * R * N) (10000 * D) = q := ⟨_, rfl⟩
  rw [hq] at he s1 s2 s3 s4
  have m1 : (2 * (A * R * N)) * g = 2 * (A * R * d) := by rw [Nat.mul_assoc, Nat.mul_assoc (A * R), hN]
  have m2 : 10000 * D * g = 3600000 := by rw [Nat.mul_assoc, hD]
  have m3 : (2 * (q * (10000 * D)) + 10000 * D) * g = 2 * (q * 3600000) + 3600000 := by rw [Nat.add_mul, Nat.mul_assoc, Nat.mul_assoc q, m2]
  have m4 : (2 * (q * (10000 * D))) * g = 2 * (q * 3600000) := by rw [Nat.mul_assoc, Nat.mul_assoc q, m2]
  have m5 : (2 * (A * R * N) + 10000 * D) * g = 2 * (A * R * d) + 3600000 := by rw [Nat.add_mul, m1, m2]
  have t1 : 2 * (A * R * d) ≤ 2 * (q * 3600000) + 3600000 := by rw [← m1, ← m3]; exact Nat.mul_le_mul_right _ s1
  have t2 : 2 * (q * 3600000) ≤ 2 * (A * R * d) + 3600000 := by rw [← m4, ← m5]; exact Nat.mul_le_mul_right _ s2
  have t3 : 2 * (A * R * d) = 2 * (q * 3600000) + 3600000 → q % 2 = 0 := fun h => s3 (Nat.eq_of_mul_eq_mul_right hg (by rw [m1, m3]; exact h))
  have t4 : 2 * (q * 3600000) = 2 * (A * R * d) + 3600000 → q % 2 = 0 := fun h => s4 (Nat.eq_of_mul_eq_mul_right hg (by rw [m4, m5]; exact h))
  have q3 : (A : Int) * (R : Int) * (d : Int) = ((A * R * d : Nat) : Int) := by simp
  have q2 : (A : Int) * (R : Int) = ((A * R : Nat) : Int) := by simp
  refine demurragelaw18_AccrueNear_w ?_
  rw [hA, hR, hd, hmkI]
  rw [he, q3, q2]
  obtain ⟨P, hP⟩ : ∃ P, A * R * d = P := ⟨_, rfl⟩
  obtain ⟨P2, hP2⟩ : ∃ P, A * R = P := ⟨_, rfl⟩
  rw [hP] at t1 t2 t3 t4 bARd ⊢
  rw [hP2] at bAR ⊢
  simp only [Ir, InR]
  have even : ∀ n : Nat, n % 2 = 0 → (((n : Int) % 2) == 0) = true := fun n h => beq_iff_eq.2 (by omega)
  refine ⟨by omega, by omega, by omega, by omega, by omega, by omega, by omega, by omega, by omega, by omega, by omega, by omega, by omega,
    fun c => ⟨by omega, fun _ => ⟨by omega, fun _ => ⟨fun _ => trivial, fun c2 => ⟨by omega, by rw [even q (t4 (by omega))]⟩⟩, fun c2 => by omega⟩, fun c2 => absurd rfl c2⟩,
    fun c => ⟨fun _ => ⟨by omega, fun _ => ⟨fun _ => trivial, fun c2 => ⟨by omega, by rw [even q (t3 (by omega))]⟩⟩, fun c2 => by omega⟩, fun c2 => absurd rfl c2⟩⟩



theorem demurragelaw18_AccrueGrows_w {a1 a2 a3 a4 a5 a6 a7 a8 : Int} {res : SV} (H : 2 ≤ 1000 ∧ ((usB (fun i => [a5, a7].getD i 0) (fun i => [a6, a8].getD i 0) 2) = false → B true = res) ∧ ((usB (fun i => [a5, a7].getD i 0) (fun i => [a6, a8].getD i 0) 2) = true → (0 : Int) ≤ a1 ∧ Ir (a1 % 500000000000000) ∧ (0 : Int) ≤ a2 ∧ Ir (a2 % 500000000000000) ∧ Ir ((a1 % 500000000000000) + (a2 % 500000000000000)) ∧ Ir a3 ∧ (0 : Int) ≤ a3 ∧ Ir a4 ∧ (0 : Int) ≤ a4 ∧ Ir ((a3 % 4500) + (a4 % 4500)) ∧ ∃ r9 r10 r11 : Int, S 28 [.agg [I a5, I a6], .agg [I a7, I a8]] [] (.tup [.agg [I r9, I r10], I r11]) [] ∧ (r11 ≠ 0 → B true = res) ∧ (r11 = 0 → 1 ≤ 1000 ∧ ((usB (fun i => r9) (fun i => r10) 1) = false → B true = res) ∧ ((usB (fun i => r9) (fun i => r10) 1) = true → Ir (a1 % 500000000000000) ∧ Ir (a3 % 4500) ∧ Ir ((a1 % 500000000000000) + (a2 % 500000000000000)) ∧ Ir ((a3 % 4500) + (a4 % 4500)) ∧ Ir 0 ∧ (((ofV (a1 % 500000000000000) (a3 % 4500) a5 a6).2) = 0 → (((ofV ((a1 % 500000000000000) + (a2 % 500000000000000)) (a3 % 4500) a5 a6).2) = 0 → (((ofV (a1 % 500000000000000) ((a3 % 4500) + (a4 % 4500)) a5 a6).2) = 0 → (((ofV (a1 % 500000000000000) (a3 % 4500) r9 r10).2) = 0 → (((ofV 0 (a3 % 4500) a5 a6).2) = 0 → (((ofV (a1 % 500000000000000) 0 a5 a6).2) = 0 → (((ofV (a1 % 500000000000000) (a3 % 4500) 0 1).2) = 0 → (((ofV (a1 % 500000000000000) (a3 % 4500) a5 a6).1) ≤ ((ofV ((a1 % 500000000000000) + (a2 % 500000000000000)) (a3 % 4500) a5 a6).1) → (((ofV (a1 % 500000000000000) (a3 % 4500) a5 a6).1) ≤ ((ofV (a1 % 500000000000000) ((a3 % 4500) + (a4 % 4500)) a5 a6).1) → (((ofV (a1 % 500000000000000) (a3 % 4500) a5 a6).1) ≤ ((ofV (a1 % 500000000000000) (a3 % 4500) r9 r10).1) → (((ofV 0 (a3 % 4500) a5 a6).1) = 0 → (((ofV (a1 % 500000000000000) 0 a5 a6).1) = 0 → (((ofV (a1 % 500000000000000) (a3 % 4500) 0 1).1) = 0 → B (decide (((ofV (a1 % 500000000000000) (a3 % 4500) a5 a6).1) ≥ 0)) = res) ∧ (((ofV (a1 % 500000000000000) (a3 % 4500) 0 1).1) ≠ 0 → B false = res)) ∧ (((ofV (a1 % 500000000000000) 0 a5 a6).1) ≠ 0 → B false = res)) ∧ (((ofV 0 (a3 % 4500) a5 a6).1) ≠ 0 → B false = res)) ∧ (¬ ((ofV (a1 % 500000000000000) (a3 % 4500) a5 a6).1) ≤ ((ofV (a1 % 500000000000000) (a3 % 4500) r9 r10).1) → B false = res)) ∧ (¬ ((ofV (a1 % 500000000000000) (a3 % 4500) a5 a6).1) ≤ ((ofV (a1 % 500000000000000) ((a3 % 4500) + (a4 % 4500)) a5 a6).1) → B false = res)) ∧ (¬ ((ofV (a1 % 500000000000000) (a3 % 4500) a5 a6).1) ≤ ((ofV ((a1 % 500000000000000) + (a2 % 500000000000000)) (a3 % 4500) a5 a6).1) → B false = res)) ∧ (((ofV (a1 % 500000000000000) (a3 % 4500) 0 1).2) ≠ 0 → B false = res)) ∧ (((ofV (a1 % 500000000000000) 0 a5 a6).2) ≠ 0 → B false = res)) ∧ (((ofV 0 (a3 % 4500) a5 a6).2) ≠ 0 → B false = res)) ∧ (((ofV (a1 % 500000000000000) (a3 % 4500) r9 r10).2) ≠ 0 → B false = res)) ∧ (((ofV (a1 % 500000000000000) ((a3 % 4500) + (a4 % 4500)) a5 a6).2) ≠ 0 → B false = res)) ∧ (((ofV ((a1 % 500000000000000) + (a2 % 500000000000000)) (a3 % 4500) a5 a6).2) ≠ 0 → B false = res)) ∧ (((ofV (a1 % 500000000000000) (a3 % 4500) a5 a6).2) ≠ 0 → B false = res))))) :
    S 10 [.agg [N .u64 a1, N .u64 a2, N .u16 a3, N .u16 a4, I a5, I a6, I a7, I a8]] [] res [] := by
  refine SCall.st fun X hX => ?_
  obtain ⟨h0, H1, H2⟩ := H
  refine hX.go [c_ [] (show S 29 [] [] (B true) [] from shown18), q_ (show ∀ k, k < 2 → (fun i => [I ([a5, a7].getD i 0), I ([a6, a8].getD i 0)]) k = [[I a5, I a6], [I a7, I a8]].getD k [] from by intro k hk; match k, hk with | 0, _ => rfl | 1, _ => rfl | k + 2, hk => omega), h_ [.row (fun i => [I ([a5, a7].getD i 0), I ([a6, a8].getD i 0)])], c_ [3] (show S 37 [.sl 0 2] [some (.row false 29 2 2 (fun i => [I ([a5, a7].getD i 0), I ([a6, a8].getD i 0)]))] (B (usB (fun i => [a5, a7].getD i 0) (fun i => [a6, a8].getD i 0) 2)) [] from rUsual h0)] ?_
  rcases bcase (usB (fun i => [a5, a7].getD i 0) (fun i => [a6, a8].getD i 0) 2) with h1 | h1
  · obtain ⟨h2, h3, h4, h5, h6, h7, h8, h9, h10, h11, r9, r10, r11, h12, H1, H2⟩ := H2 h1
    refine hX.go [f_ (nf h1), q_ h2, q_ (show (0 : Int) < 500000000000000 from by decide), q_ h3, q_ h4, q_ (show (0 : Int) < 500000000000000 from by decide), q_ h5, q_ h6, q_ h7, q_ h8, q_ (show (0 : Int) < 4500 from by decide), q_ h9, q_ h10, q_ (show (0 : Int) < 4500 from by decide), q_ h11, c_ [] h12] ?_
    by_cases h13 : r11 = 0
    · obtain ⟨h14, H1, H2⟩ := H2 h13
      refine hX.go [f_ (bne_eq_false_iff_eq.2 h13), f_ (bne_eq_false_iff_eq.2 h13), q_ (show ∀ k, k < 1 → (fun i => [I r9, I r10]) k = [[I r9, I r10]].getD k [] from by intro k hk; match k, hk with | 0, _ => rfl | k + 1, hk => omega), h_ [.row (fun i => [I r9, I r10])], f_ (bne_eq_false_iff_eq.2 h13), c_ [5] (show S 37 [.sl 0 1] [some (.row false 29 1 2 (fun i => [I r9, I r10]))] (B (usB (fun i => r9) (fun i => r10) 1)) [] from rUsual h14), f_ (bne_eq_false_iff_eq.2 h13), f_ (bne_eq_false_iff_eq.2 h13)] ?_
      rcases bcase (usB (fun i => r9) (fun i => r10) 1) with h15 | h15
      · obtain ⟨h16, h17, h18, h19, h20, H1, H2⟩ := H2 h15
        refine hX.go [f_ (nf h15), c_ [] (show S 35 [I (a1 % 500000000000000), I (a3 % 4500), .agg [I a5, I a6]] [] (.tup [I ((ofV (a1 % 500000000000000) (a3 % 4500) a5 a6).1), I ((ofV (a1 % 500000000000000) (a3 % 4500) a5 a6).2)]) [] from aOf _ _ h16 h17), c_ [] (show S 35 [I ((a1 % 500000000000000) + (a2 % 500000000000000)), I (a3 % 4500), .agg [I a5, I a6]] [] (.tup [I ((ofV ((a1 % 500000000000000) + (a2 % 500000000000000)) (a3 % 4500) a5 a6).1), I ((ofV ((a1 % 500000000000000) + (a2 % 500000000000000)) (a3 % 4500) a5 a6).2)]) [] from aOf _ _ h18 h17), c_ [] (show S 35 [I (a1 % 500000000000000), I ((a3 % 4500) + (a4 % 4500)), .agg [I a5, I a6]] [] (.tup [I ((ofV (a1 % 500000000000000) ((a3 % 4500) + (a4 % 4500)) a5 a6).1), I ((ofV (a1 % 500000000000000) ((a3 % 4500) + (a4 % 4500)) a5 a6).2)]) [] from aOf _ _ h16 h19), c_ [] (show S 35 [I (a1 % 500000000000000), I (a3 % 4500), .agg [I r9, I r10]] [] (.tup [I ((ofV (a1 % 500000000000000) (a3 % 4500) r9 r10).1), I ((ofV (a1 % 500000000000000) (a3 % 4500) r9 r10).2)]) [] from aOf _ _ h16 h17), c_ [] (show S 35 [I 0, I (a3 % 4500), .agg [I a5, I a6]] [] (.tup [I ((ofV 0 (a3 % 4500) a5 a6).1), I ((ofV 0 (a3 % 4500) a5 a6).2)]) [] from aOf _ _ h20 h17), c_ [] (show S 35 [I (a1 % 500000000000000), I 0, .agg [I a5, I a6]] [] (.tup [I ((ofV (a1 % 500000000000000) 0 a5 a6).1), I ((ofV (a1 % 500000000000000) 0 a5 a6).2)]) [] from aOf _ _ h16 h20), c_ [] (show S 35 [I (a1 % 500000000000000), I (a3 % 4500), .agg [I 0, I 1]] [] (.tup [I ((ofV (a1 % 500000000000000) (a3 % 4500) 0 1).1), I ((ofV (a1 % 500000000000000) (a3 % 4500) 0 1).2)]) [] from aOf _ _ h16 h17), t_ rt, t_ rt, t_ rt] ?_
        by_cases h21 : ((ofV (a1 % 500000000000000) (a3 % 4500) a5 a6).2) = 0
        · obtain ⟨H1, H2⟩ := H1 h21
          refine hX.go [t_ (beq_iff_eq.2 h21), t_ (beq_iff_eq.2 h21), t_ (beq_iff_eq.2 h21)] ?_
          by_cases h22 : ((ofV ((a1 % 500000000000000) + (a2 % 500000000000000)) (a3 % 4500) a5 a6).2) = 0
          · obtain ⟨H1, H2⟩ := H1 h22
            refine hX.go [t_ (beq_iff_eq.2 h22), t_ (beq_iff_eq.2 h22), t_ (beq_iff_eq.2 h22)] ?_
            by_cases h23 : ((ofV (a1 % 500000000000000) ((a3 % 4500) + (a4 % 4500)) a5 a6).2) = 0
            · obtain ⟨H1, H2⟩ := H1 h23
              refine hX.go [t_ (beq_iff_eq.2 h23), t_ (beq_iff_eq.2 h23), t_ (beq_iff_eq.2 h23)] ?_
              by_cases h24 : ((ofV (a1 % 500000000000000) (a3 % 4500) r9 r10).2) = 0
              · obtain ⟨H1, H2⟩ := H1 h24
                refine hX.go [t_ (beq_iff_eq.2 h24), t_ (beq_iff_eq.2 h24), t_ (beq_iff_eq.2 h24)] ?_
                by_cases h25 : ((ofV 0 (a3 % 4500) a5 a6).2) = 0
                · obtain ⟨H1, H2⟩ := H1 h25
                  refine hX.go [t_ (beq_iff_eq.2 h25), t_ (beq_iff_eq.2 h25), t_ (beq_iff_eq.2 h25)] ?_
                  by_cases h26 : ((ofV (a1 % 500000000000000) 0 a5 a6).2) = 0
                  · obtain ⟨H1, H2⟩ := H1 h26
                    refine hX.go [t_ (beq_iff_eq.2 h26), t_ (beq_iff_eq.2 h26), t_ (beq_iff_eq.2 h26)] ?_
                    by_cases h27 : ((ofV (a1 % 500000000000000) (a3 % 4500) 0 1).2) = 0
                    · obtain ⟨H1, H2⟩ := H1 h27
                      refine hX.go [t_ (beq_iff_eq.2 h27), t_ (beq_iff_eq.2 h27), t_ (beq_iff_eq.2 h27), t_ (beq_iff_eq.2 h27)] ?_
                      by_cases h28 : ((ofV (a1 % 500000000000000) (a3 % 4500) a5 a6).1) ≤ ((ofV ((a1 % 500000000000000) + (a2 % 500000000000000)) (a3 % 4500) a5 a6).1)
                      · obtain ⟨H1, H2⟩ := H1 h28
                        refine hX.go [t_ (dt h28), t_ (dt h28), t_ (dt h28), t_ (dt h28)] ?_
                        by_cases h29 : ((ofV (a1 % 500000000000000) (a3 % 4500) a5 a6).1) ≤ ((ofV (a1 % 500000000000000) ((a3 % 4500) + (a4 % 4500)) a5 a6).1)
                        · obtain ⟨H1, H2⟩ := H1 h29
                          refine hX.go [t_ (dt h29), t_ (dt h29), t_ (dt h29), t_ (dt h29)] ?_
                          by_cases h30 : ((ofV (a1 % 500000000000000) (a3 % 4500) a5 a6).1) ≤ ((ofV (a1 % 500000000000000) (a3 % 4500) r9 r10).1)
                          · obtain ⟨H1, H2⟩ := H1 h30
                            refine hX.go [t_ (dt h30), t_ (dt h30), t_ (dt h30)] ?_
                            by_cases h31 : ((ofV 0 (a3 % 4500) a5 a6).1) = 0
                            · obtain ⟨H1, H2⟩ := H1 h31
                              refine hX.go [t_ (beq_iff_eq.2 h31), t_ (beq_iff_eq.2 h31), t_ (beq_iff_eq.2 h31)] ?_
                              by_cases h32 : ((ofV (a1 % 500000000000000) 0 a5 a6).1) = 0
                              · obtain ⟨H1, H2⟩ := H1 h32
                                refine hX.go [t_ (beq_iff_eq.2 h32), t_ (beq_iff_eq.2 h32), t_ (beq_iff_eq.2 h32)] ?_
                                by_cases h33 : ((ofV (a1 % 500000000000000) (a3 % 4500) 0 1).1) = 0
                                · obtain rfl := H1 h33
                                  exact hX.e [t_ (beq_iff_eq.2 h33), t_ (beq_iff_eq.2 h33), t_ (beq_iff_eq.2 h33)]
                                · obtain rfl := H2 h33
                                  exact hX.e [f_ (beq_eq_false_iff_ne.2 h33), f_ (beq_eq_false_iff_ne.2 h33), f_ (beq_eq_false_iff_ne.2 h33)]
                              · obtain rfl := H2 h32
                                exact hX.e [f_ (beq_eq_false_iff_ne.2 h32), f_ (beq_eq_false_iff_ne.2 h32), f_ (beq_eq_false_iff_ne.2 h32), f_ rf, f_ rf, f_ rf]
                            · obtain rfl := H2 h31
                              exact hX.e [f_ (beq_eq_false_iff_ne.2 h31), f_ (beq_eq_false_iff_ne.2 h31), f_ (beq_eq_false_iff_ne.2 h31), f_ rf, f_ rf, f_ rf, f_ rf, f_ rf, f_ rf]
                          · obtain rfl := H2 h30
                            exact hX.e [f_ (df h30), f_ (df h30), f_ (df h30), f_ rf, f_ rf, f_ rf, f_ rf, f_ rf, f_ rf, f_ rf, f_ rf, f_ rf]
                        · obtain rfl := H2 h29
                          exact hX.e [f_ (df h29), f_ (df h29), f_ (df h29), f_ (df h29), f_ rf, f_ rf, f_ rf, f_ rf, f_ rf, f_ rf, f_ rf, f_ rf, f_ rf, f_ rf, f_ rf, f_ rf]
                      · obtain rfl := H2 h28
                        exact hX.e [f_ (df h28), f_ (df h28), f_ (df h28), f_ (df h28), f_ rf, f_ rf, f_ rf, f_ rf, f_ rf, f_ rf, f_ rf, f_ rf, f_ rf, f_ rf, f_ rf, f_ rf, f_ rf, f_ rf, f_ rf, f_ rf]
                    · obtain rfl := H2 h27
                      exact hX.e [f_ (beq_eq_false_iff_ne.2 h27), f_ (beq_eq_false_iff_ne.2 h27), f_ (beq_eq_false_iff_ne.2 h27), f_ (beq_eq_false_iff_ne.2 h27), f_ rf, f_ rf, f_ rf, f_ rf, f_ rf, f_ rf, f_ rf, f_ rf, f_ rf, f_ rf, f_ rf, f_ rf, f_ rf, f_ rf, f_ rf, f_ rf, f_ rf, f_ rf, f_ rf, f_ rf]
                  · obtain rfl := H2 h26
                    exact hX.e [f_ (beq_eq_false_iff_ne.2 h26), f_ (beq_eq_false_iff_ne.2 h26), f_ (beq_eq_false_iff_ne.2 h26), f_ rf, f_ rf, f_ rf, f_ rf, f_ rf, f_ rf, f_ rf, f_ rf, f_ rf, f_ rf, f_ rf, f_ rf, f_ rf, f_ rf, f_ rf, f_ rf, f_ rf, f_ rf, f_ rf, f_ rf, f_ rf, f_ rf, f_ rf, f_ rf]
                · obtain rfl := H2 h25
                  exact hX.e [f_ (beq_eq_false_iff_ne.2 h25), f_ (beq_eq_false_iff_ne.2 h25), f_ (beq_eq_false_iff_ne.2 h25), f_ rf, f_ rf, f_ rf, f_ rf, f_ rf, f_ rf, f_ rf, f_ rf, f_ rf, f_ rf, f_ rf, f_ rf, f_ rf, f_ rf, f_ rf, f_ rf, f_ rf, f_ rf, f_ rf, f_ rf, f_ rf, f_ rf, f_ rf, f_ rf, f_ rf, f_ rf, f_ rf]
              · obtain rfl := H2 h24
                exact hX.e [f_ (beq_eq_false_iff_ne.2 h24), f_ (beq_eq_false_iff_ne.2 h24), f_ (beq_eq_false_iff_ne.2 h24), f_ rf, f_ rf, f_ rf, f_ rf, f_ rf, f_ rf, f_ rf, f_ rf, f_ rf, f_ rf, f_ rf, f_ rf, f_ rf, f_ rf, f_ rf, f_ rf, f_ rf, f_ rf, f_ rf, f_ rf, f_ rf, f_ rf, f_ rf, f_ rf, f_ rf, f_ rf, f_ rf, f_ rf, f_ rf, f_ rf]
            · obtain rfl := H2 h23
              exact hX.e [f_ (beq_eq_false_iff_ne.2 h23), f_ (beq_eq_false_iff_ne.2 h23), f_ (beq_eq_false_iff_ne.2 h23), f_ rf, f_ rf, f_ rf, f_ rf, f_ rf, f_ rf, f_ rf, f_ rf, f_ rf, f_ rf, f_ rf, f_ rf, f_ rf, f_ rf, f_ rf, f_ rf, f_ rf, f_ rf, f_ rf, f_ rf, f_ rf, f_ rf, f_ rf, f_ rf, f_ rf, f_ rf, f_ rf, f_ rf, f_ rf, f_ rf, f_ rf, f_ rf, f_ rf]
          · obtain rfl := H2 h22
            exact hX.e [f_ (beq_eq_false_iff_ne.2 h22), f_ (beq_eq_false_iff_ne.2 h22), f_ (beq_eq_false_iff_ne.2 h22), f_ rf, f_ rf, f_ rf, f_ rf, f_ rf, f_ rf, f_ rf, f_ rf, f_ rf, f_ rf, f_ rf, f_ rf, f_ rf, f_ rf, f_ rf, f_ rf, f_ rf, f_ rf, f_ rf, f_ rf, f_ rf, f_ rf, f_ rf, f_ rf, f_ rf, f_ rf, f_ rf, f_ rf, f_ rf, f_ rf, f_ rf, f_ rf, f_ rf, f_ rf, f_ rf, f_ rf]
        · obtain rfl := H2 h21
          exact hX.e [f_ (beq_eq_false_iff_ne.2 h21), f_ (beq_eq_false_iff_ne.2 h21), f_ (beq_eq_false_iff_ne.2 h21), f_ rf, f_ rf, f_ rf, f_ rf, f_ rf, f_ rf, f_ rf, f_ rf, f_ rf, f_ rf, f_ rf, f_ rf, f_ rf, f_ rf, f_ rf, f_ rf, f_ rf, f_ rf, f_ rf, f_ rf, f_ rf, f_ rf, f_ rf, f_ rf, f_ rf, f_ rf, f_ rf, f_ rf, f_ rf, f_ rf, f_ rf, f_ rf, f_ rf, f_ rf, f_ rf, f_ rf, f_ rf, f_ rf, f_ rf]
      · obtain rfl := H1 h15
        exact hX.e [t_ (nt h15)]
    · obtain rfl := H1 h13
      exact hX.e [t_ (bne_iff_ne.2 h13), t_ (bne_iff_ne.2 h13), t_ (bne_iff_ne.2 h13), t_ (bne_iff_ne.2 h13), t_ (bne_iff_ne.2 h13), t_ rt]
  · obtain rfl := H1 h1
    exact hX.e [t_ (nt h1)]

theorem okU_nat {n d : Int} (h : okU n d = true) : ∃ N D : Nat, n = (N : Int) ∧ d = (D : Int) ∧ N ≤ 10000000000000 ∧ 1 ≤ D ∧ D ≤ 10000000000000 ∧ N ≤ 100 * D ∧ rightB (N : Int) (D : Int) = true := by
  obtain ⟨h1, h2, h3, h4⟩ := okU_iff.1 h
  have h5 := of_decide_eq_true h1
  obtain ⟨N, rfl⟩ : ∃ N : Nat, n = (N : Int) := ⟨n.toNat, by omega⟩
  obtain ⟨D, rfl⟩ : ∃ N : Nat, d = (N : Int) := ⟨d.toNat, by omega⟩
  exact ⟨N, D, rfl, rfl, by omega, by omega, by omega, by omega, h1⟩

theorem usB_at {g k : Nat → Int} {n : Nat} (h : usB g k n = true) (i : Nat) (hi : i < n) : okU (g i) (k i) = true := of_decide_eq_true h i hi

theorem mkR_z {n d : Nat} (hd : 0 < d) (h : (mkR n d).2.2 = 0) : ∃ N D g : Nat, mkR n d = ((N : Int), (D : Int), 0) ∧ 0 < g ∧ N * g = n ∧ D * g = d ∧ 0 < D ∧ rightB (N : Int) (D : Int) = true := by
  have c : ¬ (n / Nat.gcd n d > 4611686018427387904 ∨ d / Nat.gcd n d > 4611686018427387904) := fun c => by
    unfold mkR at h; rw [if_pos c] at h; exact absurd h (by decide)
  exact mkR_ok hd (by omega) (by omega)

theorem accrueGrows_ok {a1 a2 a3 a4 a5 a6 a7 a8 : Int} (i1 : InR .u64 a1) (i2 : InR .u64 a2) (i3 : InR .u16 a3) (i4 : InR .u16 a4) : S 10 [.agg [N .u64 a1, N .u64 a2, N .u16 a3, N .u16 a4, I a5, I a6, I a7, I a8]] [] (B true) [] := by
  simp only [InR] at i1 i2 i3 i4
  refine demurragelaw18_AccrueGrows_w ⟨by decide, fun _ => rfl, fun u => ?_⟩
  have u0 : okU a5 a6 = true := usB_at u 0 (by decide)
  have u1 : okU a7 a8 = true := usB_at u 1 (by decide)
  clear u
  obtain ⟨N, D, rfl, rfl, bN, bD0, bD, bND, hR⟩ := okU_nat u0
  obtain ⟨N2, D2, rfl, rfl, bN2, bD02, bD2, bND2, hR2⟩ := okU_nat u1
  obtain ⟨A, hA⟩ : ∃ M : Nat, a1 % 500000000000000 = (M : Int) := ⟨(a1 % 500000000000000).toNat, by omega⟩
  obtain ⟨E, hE⟩ : ∃ M : Nat, a2 % 500000000000000 = (M : Int) := ⟨(a2 % 500000000000000).toNat, by omega⟩
  obtain ⟨p, hp⟩ : ∃ M : Nat, a3 % 4500 = (M : Int) := ⟨(a3 % 4500).toNat, by omega⟩
  obtain ⟨q, hq⟩ : ∃ M : Nat, a4 % 4500 = (M : Int) := ⟨(a4 % 4500).toNat, by omega⟩
  have bA : A ≤ 500000000000000 := by omega
  have bE : E ≤ 500000000000000 := by omega
  have bp : p ≤ 4500 := by omega
  have bq : q ≤ 4500 := by omega
  have hadd := ref_Add (a := N) (b := D) (c := N2) (d := D2) (by omega) (by omega) (by omega) (by omega) (by omega) (by omega)
  rw [hA, hE, hp, hq]
  simp only [Ir, InR]
  refine ⟨by omega, by omega, by omega, by omega, by omega, by omega, by omega, by omega, by omega, by omega, _, _, _, hadd, fun _ => trivial, fun z => ⟨by decide, fun _ => trivial, fun u2 => ?_⟩⟩
  obtain ⟨Ns, Ds, g, e, hg, hN, hD, hD0, hRs⟩ := mkR_z (Nat.mul_pos (by omega) (by omega)) z
  rw [e] at u2 ⊢
  have u3 : okU (Ns : Int) (Ds : Int) = true := usB_at u2 0 (by decide)
  clear u2
  obtain ⟨Ns', Ds', en, ed, bNs, -, bDs, bNDs, -⟩ := okU_nat u3
  have en' : Ns' = Ns := by omega
  have ed' : Ds' = Ds := by omega
  rw [en'] at bNs bNDs
  rw [ed'] at bDs bNDs
  have b1 : A * p ≤ 500000000000000 * 4500 := Nat.mul_le_mul bA bp
  have b2 : (A + E) * p ≤ 1000000000000000 * 4500 := Nat.mul_le_mul (by omega) bp
  have b3 : A * (p + q) ≤ 500000000000000 * 9000 := Nat.mul_le_mul bA (by omega)
  have c1 := ofV_ok (o := A) (r := p) (n := N) (d := D) (by omega) bN bD0 bD bND hR
  have c2 := ofV_ok (o := A + E) (r := p) (n := N) (d := D) (by omega) bN bD0 bD bND hR
  have c3 := ofV_ok (o := A) (r := p + q) (n := N) (d := D) (by omega) bN bD0 bD bND hR
  have c4 := ofV_ok (o := A) (r := p) (n := Ns) (d := Ds) (by omega) bNs hD0 bDs bNDs hRs
  have c5 : ofV 0 (p : Int) (N : Int) (D : Int) = (0, 0) := by
    have := ofV_ok (o := 0) (r := p) (n := N) (d := D) (by omega) bN bD0 bD bND hR
    rw [Nat.zero_mul, Nat.zero_mul, near_zero] at this
    exact this
  have c6 : ofV (A : Int) 0 (N : Int) (D : Int) = (0, 0) := by
    have := ofV_ok (o := A) (r := 0) (n := N) (d := D) (by omega) bN bD0 bD bND hR
    rw [Nat.mul_zero, Nat.zero_mul, near_zero] at this
    exact this
  have c7 : ofV (A : Int) (p : Int) 0 1 = (0, 0) := by
    have := ofV_ok (o := A) (r := p) (n := 0) (d := 1) (by omega) (by decide) (by decide) (by decide) (by decide) (right1 (k := 0) (by decide))
    rw [Nat.mul_zero, near_zero] at this
    exact this
  rw [Int.natCast_add] at c2 c3
  have X0 : 0 < 10000 * D := by omega
  have m2 : near (A * p * N) (10000 * D) ≤ near ((A + E) * p * N) (10000 * D) := near_mono X0 X0 (Nat.mul_le_mul_right _ (Nat.mul_le_mul_right _ (Nat.mul_le_mul_right _ (by omega))))
  have m3 : near (A * p * N) (10000 * D) ≤ near (A * (p + q) * N) (10000 * D) := near_mono X0 X0 (Nat.mul_le_mul_right _ (Nat.mul_le_mul_right _ (Nat.mul_le_mul_left _ (by omega))))
  have hc : N * Ds ≤ Ns * D := by
    refine Nat.le_of_mul_le_mul_right (c := g) ?_ hg
    rw [Nat.mul_assoc, hD, Nat.mul_right_comm, hN, Nat.add_mul]
    have : N * (D * D2) = N * D2 * D := by rw [Nat.mul_comm D, Nat.mul_assoc]
    omega
  have m4 : near (A * p * N) (10000 * D) ≤ near (A * p * Ns) (10000 * Ds) := by
    refine near_mono X0 (by omega) ?_
    have h1 : A * p * N * (10000 * Ds) = A * p * 10000 * (N * Ds) := by rw [Nat.mul_assoc, Nat.mul_left_comm N, ← Nat.mul_assoc (A * p)]
    have h2 : A * p * Ns * (10000 * D) = A * p * 10000 * (Ns * D) := by rw [Nat.mul_assoc, Nat.mul_left_comm Ns, ← Nat.mul_assoc (A * p)]
    rw [h1, h2]
    exact Nat.mul_le_mul_left _ hc
  rw [c1, c2, c3, c4, c5, c6, c7]
  refine ⟨by omega, by omega, by omega, by omega, by omega, ⟨fun _ => ⟨fun _ => ⟨fun _ => ⟨fun _ => ⟨fun _ => ⟨fun _ => ⟨fun _ => ⟨fun _ => ⟨fun _ => ⟨fun _ => ⟨fun _ => ⟨fun _ => ⟨fun _ => by rw [decide_eq_true (Int.natCast_nonneg _)], fun c => absurd rfl c⟩, fun c => absurd rfl c⟩, fun c => absurd rfl c⟩, fun c => absurd (Int.ofNat_le.2 m4) c⟩, fun c => absurd (Int.ofNat_le.2 m3) c⟩, fun c => absurd (Int.ofNat_le.2 m2) c⟩, fun c => absurd rfl c⟩, fun c => absurd rfl c⟩, fun c => absurd rfl c⟩, fun c => absurd rfl c⟩, fun c => absurd rfl c⟩, fun c => absurd rfl c⟩, fun c => absurd rfl c⟩⟩


end Go.Proofs.YtehnnaanpmceiaaGreatDoor
