import Derived.Test.YtigjggkendgjeaaDoorSxi
import Derived.Test.YtigjggkendgjeaaDoorProg
import Derived.KernelRfl
import Derived.Laws.Externs
set_option linter.unusedVariables false
set_option linter.unusedSimpArgs false
set_option maxRecDepth 100000
namespace Go.Proofs.YtigjggkendgjeaaDoor
open Go Go.Sx

def lens (i : Nat) : Int := [0, 31, 28, 31, 30, 31, 30, 31, 31, 30, 31, 30, 31].getD i 0
/-- What lies in the package variables that are read. -/
def GL : List (Nat × Vw) := [(1, .row false 3 13 1 (fun i => [I (lens i)])), (0, .box false [.val (.iface 117 (.agg #[.pointer (some ⟨4, 53, none⟩)]))])]

def cmpI (a b : Int) : Int := if a < b then -1 else if b < a then 1 else 0

/-- A fraction's row of numbers: numerator, denominator, code; reduced, and no part above 2^62. -/
def mkR (n d : Nat) : Int × Int × Int :=
  if n / Nat.gcd n d > 4611686018427387904 ∨ d / Nat.gcd n d > 4611686018427387904 then (0, 0, 6) else (((n / Nat.gcd n d : Nat) : Int), ((d / Nat.gcd n d : Nat) : Int), 0)

/-- What is handed back with a code. -/
abbrev RT (r : Int × Int × Int) : SV := .tup [.agg [I r.1, I r.2.1], I r.2.2]



theorem cmp_isNaN_uint64__0 {a1 : Int}  :
    SCall Tryd.prog GL 75 [N .u64 a1] [] (B (a1 != a1)) [] :=
  SCall.path 11 [] [] 0 (by kernel_rfl) rfl (by exact trivial) AllP.n

theorem cmp_isNaN_u {a : Int} : SCall Tryd.prog GL 75 [N .u64 a] [] (B false) [] := by
  have h := @cmp_isNaN_uint64__0 a
  rwa [bne_self_eq_false] at h



theorem cmp_isNaN_int__0 {a1 : Int}  :
    SCall Tryd.prog GL 61 [I a1] [] (B (a1 != a1)) [] :=
  SCall.path 11 [] [] 0 (by kernel_rfl) rfl (by exact trivial) AllP.n

theorem cmp_isNaN_i {a : Int} : SCall Tryd.prog GL 61 [I a] [] (B false) [] := by
  have h := @cmp_isNaN_int__0 a
  rwa [bne_self_eq_false] at h



theorem cmp_Compare_uint64__0 {a1 : Int} {a2 : Int} (h0 : a1 < a2) :
    SCall Tryd.prog GL 72 [N .u64 a1, N .u64 a2] [] (I (-1)) [] :=
  SCall.path 42 [.call [] (B false) [], .call [] (B false) [], .b false, .b false, .b true] [] 0 (by kernel_rfl) rfl (by exact trivial) (AllP.c (show SCall Tryd.prog GL 75 [N .u64 a1] [] (B false) [] from cmp_isNaN_u) (AllP.c (show SCall Tryd.prog GL 75 [N .u64 a2] [] (B false) [] from cmp_isNaN_u) (AllP.c (show false = false from rfl) (AllP.c (show false = false from rfl) (AllP.c (decide_eq_true h0) AllP.n)))))
theorem cmp_Compare_uint64__1 {a1 : Int} {a2 : Int} (h0 : ¬ a1 < a2) (h1 : a1 > a2) :
    SCall Tryd.prog GL 72 [N .u64 a1, N .u64 a2] [] (I 1) [] :=
  SCall.path 51 [.call [] (B false) [], .call [] (B false) [], .b false, .b false, .b false, .b true] [] 0 (by kernel_rfl) rfl (by exact trivial) (AllP.c (show SCall Tryd.prog GL 75 [N .u64 a1] [] (B false) [] from cmp_isNaN_u) (AllP.c (show SCall Tryd.prog GL 75 [N .u64 a2] [] (B false) [] from cmp_isNaN_u) (AllP.c (show false = false from rfl) (AllP.c (show false = false from rfl) (AllP.c (decide_eq_false h0) (AllP.c (decide_eq_true h1) AllP.n))))))
theorem cmp_Compare_uint64__2 {a1 : Int} {a2 : Int} (h0 : ¬ a1 < a2) (h1 : ¬ a1 > a2) :
    SCall Tryd.prog GL 72 [N .u64 a1, N .u64 a2] [] (I 0) [] :=
  SCall.path 52 [.call [] (B false) [], .call [] (B false) [], .b false, .b false, .b false, .b false] [] 0 (by kernel_rfl) rfl (by exact trivial) (AllP.c (show SCall Tryd.prog GL 75 [N .u64 a1] [] (B false) [] from cmp_isNaN_u) (AllP.c (show SCall Tryd.prog GL 75 [N .u64 a2] [] (B false) [] from cmp_isNaN_u) (AllP.c (show false = false from rfl) (AllP.c (show false = false from rfl) (AllP.c (decide_eq_false h0) (AllP.c (decide_eq_false h1) AllP.n))))))

theorem cmp_Compare_u {a b : Int} : SCall Tryd.prog GL 72 [N .u64 a, N .u64 b] [] (I (cmpI a b)) [] := by
  unfold cmpI
  split
  · exact cmp_Compare_uint64__0 (by assumption)
  · split
    · exact cmp_Compare_uint64__1 (by assumption) (by assumption)
    · exact cmp_Compare_uint64__2 (by assumption) (by assumption)



theorem cmp_Less_int__0 {a1 : Int} {a2 : Int}  :
    SCall Tryd.prog GL 39 [I a1, I a2] [] (B (decide (a1 < a2))) [] :=
  SCall.path 20 [.call [] (B false) [], .b false, .b false, .b false, .b false, .b false, .b false, .b false, .b false] [] 0 (by kernel_rfl) rfl (by exact trivial) (AllP.c (show SCall Tryd.prog GL 61 [I a1] [] (B false) [] from cmp_isNaN_i) (AllP.c (show false = false from rfl) (AllP.c (show false = false from rfl) (AllP.c (show false = false from rfl) (AllP.c (show false = false from rfl) (AllP.c (show false = false from rfl) (AllP.c (show false = false from rfl) (AllP.c (show false = false from rfl) (AllP.c (show false = false from rfl) AllP.n)))))))))

theorem cmp_Less_i {a b : Int} : SCall Tryd.prog GL 39 [I a, I b] [] (B (decide (a < b))) [] := by
  cases h : decide (a < b) with
  | true => have := @cmp_Less_int__0 a b; simpa [h] using this
  | false => have := @cmp_Less_int__0 a b; simpa [h] using this



theorem wide_Of_0 {a1 : Int}  :
    SCall Tryd.prog GL 53 [N .u64 a1] [] (.agg [N .u64 0, N .u64 a1]) [] :=
  SCall.path 10 [] [] 1 (by kernel_rfl) rfl (by exact trivial) AllP.n

theorem wide_Of {a : Int} : SCall Tryd.prog GL 53 [N .u64 a] [] (.agg [N .u64 0, N .u64 a]) [] := wide_Of_0



theorem wide_Cmp_0 {a1 : Int} {a2 : Int} {a3 : Int} {a4 : Int} (h0 : a1 ≠ a3) :
    SCall Tryd.prog GL 64 [.agg [N .u64 a1, N .u64 a2], .agg [N .u64 a3, N .u64 a4]] [] (I (cmpI a1 a3)) [] :=
  SCall.path 25 [.b true, .call [] (I (cmpI a1 a3)) []] [] 2 (by kernel_rfl) rfl (by exact trivial) (AllP.c (bne_iff_ne.2 h0) (AllP.c (show SCall Tryd.prog GL 72 [N .u64 a1, N .u64 a3] [] (I (cmpI a1 a3)) [] from cmp_Compare_u) AllP.n))
theorem wide_Cmp_1 {a1 : Int} {a2 : Int} {a3 : Int} {a4 : Int} (h0 : a1 = a3) :
    SCall Tryd.prog GL 64 [.agg [N .u64 a1, N .u64 a2], .agg [N .u64 a3, N .u64 a4]] [] (I (cmpI a2 a4)) [] :=
  SCall.path 26 [.b false, .call [] (I (cmpI a2 a4)) []] [] 2 (by kernel_rfl) rfl (by exact trivial) (AllP.c (bne_eq_false_iff_eq.2 h0) (AllP.c (show SCall Tryd.prog GL 72 [N .u64 a2, N .u64 a4] [] (I (cmpI a2 a4)) [] from cmp_Compare_u) AllP.n))

/-- Two halves as one number. -/
def W2 (a b : Int) : Int := a * 18446744073709551616 + b
theorem wide_Cmp {a b c d : Int} (hb : InR .u64 b) (hd : InR .u64 d) :
    SCall Tryd.prog GL 64 [.agg [N .u64 a, N .u64 b], .agg [N .u64 c, N .u64 d]] [] (I (cmpI (W2 a b) (W2 c d))) [] := by
  simp only [InR] at hb hd
  by_cases h : a = c
  · have e : cmpI (W2 a b) (W2 c d) = cmpI b d := by
      subst h
      unfold cmpI W2
      split <;> split <;> (try split) <;> (try split) <;> (first | rfl | omega)
    rw [e]; exact wide_Cmp_1 h
  · have e : cmpI (W2 a b) (W2 c d) = cmpI a c := by
      unfold cmpI W2
      split <;> split <;> (try split) <;> (try split) <;> (first | rfl | omega)
    rw [e]; exact wide_Cmp_0 h


theorem wide_told_0 {a1 : Int} {a2 : Int} {a3 : Bool} (h0 : a3 = false) :
    SCall Tryd.prog GL 65 [.agg [N .u64 a1, N .u64 a2], B a3] [] (.tup [.agg [N .u64 0, N .u64 0], I 6]) [] :=
  SCall.path 19 [.b true] [] 2 (by kernel_rfl) rfl (by exact trivial) (AllP.c (Go.Sx.not_t (h0)) AllP.n)
theorem wide_told_1 {a1 : Int} {a2 : Int} {a3 : Bool} (h0 : a3 = true) :
    SCall Tryd.prog GL 65 [.agg [N .u64 a1, N .u64 a2], B a3] [] (.tup [.agg [N .u64 a1, N .u64 a2], I 0]) [] :=
  SCall.path 20 [.b false] [] 2 (by kernel_rfl) rfl (by exact trivial) (AllP.c (Go.Sx.not_f (h0)) AllP.n)

theorem wide_halves_0 {a1 : Int} {a2 : Int}  :
    SCall Tryd.prog GL 73 [.agg [N .u64 a1, N .u64 a2]] [] (.agg [N .u64 a2, N .u64 a1]) [] :=
  SCall.path 14 [] [] 2 (by kernel_rfl) rfl (by exact trivial) AllP.n

end Go.Proofs.YtigjggkendgjeaaDoor
