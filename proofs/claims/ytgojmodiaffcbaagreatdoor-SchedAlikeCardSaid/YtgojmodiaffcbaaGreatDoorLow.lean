import Derived.Test.YtgojmodiaffcbaaGreatDoorGl
import Derived.Test.YtgojmodiaffcbaaGreatDoorProg
import Derived.KernelRfl
import Derived.Laws.Externs
set_option linter.unusedVariables false
set_option linter.unusedSimpArgs false
set_option linter.unusedSectionVars false
set_option maxRecDepth 100000
namespace Go.Proofs.YtgojmodiaffcbaaGreatDoor
open Go Go.Sx
variable [Env]
def cmpI (a b : Int) : Int := if a < b then -1 else if b < a then 1 else 0
/-- A fraction's row of numbers: numerator, denominator, code; reduced, and no part above 2^62. -/
def mkR (n d : Nat) : Int × Int × Int :=
  if n / Nat.gcd n d > 4611686018427387904 ∨ d / Nat.gcd n d > 4611686018427387904 then (0, 0, 6) else (((n / Nat.gcd n d : Nat) : Int), ((d / Nat.gcd n d : Nat) : Int), 0)
/-- What is handed back with a code. -/
abbrev RT (r : Int × Int × Int) : SV := .tup [.agg [I r.1, I r.2.1], I r.2.2]
theorem cmp_isNaN_uint64__0 {a1 : Int}  :
    S 209 [N .u64 a1] [] (B (a1 != a1)) [] :=
  SCall.path 11 [] [] 0 (by kernel_rfl) rfl (by exact trivial) na
theorem cmp_isNaN_u {a : Int} : SCall Tryz.prog GL 209 [N .u64 a] [] (B false) [] := by
  have h := @cmp_isNaN_uint64__0 _ a
  rwa [bne_self_eq_false] at h
theorem cmp_isNaN_int__0 {a1 : Int}  :
    S 196 [I a1] [] (B (a1 != a1)) [] :=
  SCall.path 11 [] [] 0 (by kernel_rfl) rfl (by exact trivial) na
theorem cmp_isNaN_i {a : Int} : SCall Tryz.prog GL 196 [I a] [] (B false) [] := by
  have h := @cmp_isNaN_int__0 _ a
  rwa [bne_self_eq_false] at h
theorem cmp_Compare_uint64__0 {a1 a2 : Int} (h0 : a1 < a2) :
    S 201 [N .u64 a1, N .u64 a2] [] (I (-1)) [] :=
  SCall.path 42 [.call [] (B false) [], .call [] (B false) [], fb, fb, tb] [] 0 (by kernel_rfl) rfl (by exact trivial) (ca (show S 209 [N .u64 a1] [] (B false) [] from cmp_isNaN_u) (ca (show S 209 [N .u64 a2] [] (B false) [] from cmp_isNaN_u) (ca rf (ca rf (ca (dt h0) na)))))
theorem cmp_Compare_uint64__1 {a1 a2 : Int} (h0 : ¬ a1 < a2) (h1 : a1 > a2) :
    S 201 [N .u64 a1, N .u64 a2] [] (I 1) [] :=
  SCall.path 51 [.call [] (B false) [], .call [] (B false) [], fb, fb, fb, tb] [] 0 (by kernel_rfl) rfl (by exact trivial) (ca (show S 209 [N .u64 a1] [] (B false) [] from cmp_isNaN_u) (ca (show S 209 [N .u64 a2] [] (B false) [] from cmp_isNaN_u) (ca rf (ca rf (ca (df h0) (ca (dt h1) na))))))
theorem cmp_Compare_uint64__2 {a1 a2 : Int} (h0 : ¬ a1 < a2) (h1 : ¬ a1 > a2) :
    S 201 [N .u64 a1, N .u64 a2] [] (I 0) [] :=
  SCall.path 52 [.call [] (B false) [], .call [] (B false) [], fb, fb, fb, fb] [] 0 (by kernel_rfl) rfl (by exact trivial) (ca (show S 209 [N .u64 a1] [] (B false) [] from cmp_isNaN_u) (ca (show S 209 [N .u64 a2] [] (B false) [] from cmp_isNaN_u) (ca rf (ca rf (ca (df h0) (ca (df h1) na))))))
theorem cmp_Compare_u {a b : Int} : SCall Tryz.prog GL 201 [N .u64 a, N .u64 b] [] (I (cmpI a b)) [] := by
  unfold cmpI
  split
  · exact cmp_Compare_uint64__0 (by assumption)
  · split
    · exact cmp_Compare_uint64__1 (by assumption) (by assumption)
    · exact cmp_Compare_uint64__2 (by assumption) (by assumption)
theorem cmp_Less_int__0 {a1 a2 : Int}  :
    S 180 [I a1, I a2] [] (B (decide (a1 < a2))) [] :=
  SCall.path 20 [.call [] (B false) [], fb, fb, fb, fb, fb, fb, fb, fb] [] 0 (by kernel_rfl) rfl (by exact trivial) (ca (show S 196 [I a1] [] (B false) [] from cmp_isNaN_i) (ca rf (ca rf (ca rf (ca rf (ca rf (ca rf (ca rf (ca rf na)))))))))
theorem cmp_Less_i {a b : Int} : SCall Tryz.prog GL 180 [I a, I b] [] (B (decide (a < b))) [] := by
  cases h : decide (a < b) with
  | true => have := @cmp_Less_int__0 _ a b; simpa [h] using this
  | false => have := @cmp_Less_int__0 _ a b; simpa [h] using this
theorem wide_Of_0 {a1 : Int}  :
    S 173 [N .u64 a1] [] (.agg [N .u64 0, N .u64 a1]) [] :=
  SCall.path 10 [] [] 1 (by kernel_rfl) rfl (by exact trivial) na
theorem wide_Of {a : Int} : SCall Tryz.prog GL 173 [N .u64 a] [] (.agg [N .u64 0, N .u64 a]) [] := wide_Of_0
theorem wide_Cmp_0 {a1 a2 a3 a4 : Int} (h0 : a1 ≠ a3) :
    S 185 [.agg [N .u64 a1, N .u64 a2], .agg [N .u64 a3, N .u64 a4]] [] (I (cmpI a1 a3)) [] :=
  SCall.path 25 [tb, .call [] (I (cmpI a1 a3)) []] [] 2 (by kernel_rfl) rfl (by exact trivial) (ca (bne_iff_ne.2 h0) (ca (show S 201 [N .u64 a1, N .u64 a3] [] (I (cmpI a1 a3)) [] from cmp_Compare_u) na))
theorem wide_Cmp_1 {a1 a2 a3 a4 : Int} (h0 : a1 = a3) :
    S 185 [.agg [N .u64 a1, N .u64 a2], .agg [N .u64 a3, N .u64 a4]] [] (I (cmpI a2 a4)) [] :=
  SCall.path 26 [fb, .call [] (I (cmpI a2 a4)) []] [] 2 (by kernel_rfl) rfl (by exact trivial) (ca (bne_eq_false_iff_eq.2 h0) (ca (show S 201 [N .u64 a2, N .u64 a4] [] (I (cmpI a2 a4)) [] from cmp_Compare_u) na))
/-- Two halves as one number. -/
def W2 (a b : Int) : Int := a * 18446744073709551616 + b
theorem wide_Cmp {a b c d : Int} (hb : InR .u64 b) (hd : InR .u64 d) :
    SCall Tryz.prog GL 185 [.agg [N .u64 a, N .u64 b], .agg [N .u64 c, N .u64 d]] [] (I (cmpI (W2 a b) (W2 c d))) [] := by
  simp only [InR] at hb hd
  by_cases h : a = c
  · have e : cmpI (W2 a b) (W2 c d) = cmpI b d := by
      subst h
      unfold cmpI W2
      split <;> split <;> (try split) <;> (try split) <;> (first | rfl | omega)
    rw [e]; exact wide_Cmp_1 h
  · have e : cmpI (W2 a b) (W2 c d) = cmpI a c := by
      unfold cmpI W2
      split <;> split <;> (try split) <;> (try split) <;> (first | rfl | omega)
    rw [e]; exact wide_Cmp_0 h
theorem wide_halves_0 {a1 a2 : Int}  :
    S 202 [.agg [N .u64 a1, N .u64 a2]] [] (.agg [N .u64 a2, N .u64 a1]) [] :=
  SCall.path 14 [] [] 2 (by kernel_rfl) rfl (by exact trivial) na
end Go.Proofs.YtgojmodiaffcbaaGreatDoor
