import Derived.Test.YtehnnaanpmceiaaGreatDoorLow
import Derived.Test.YtehnnaanpmceiaaGreatDoorProg
import Derived.KernelRfl
import Derived.Laws.Externs
set_option linter.unusedVariables false
set_option linter.unusedSimpArgs false
set_option linter.unusedSectionVars false
set_option maxRecDepth 100000
namespace Go.Proofs.YtehnnaanpmceiaaGreatDoor
open Go Go.Sx
variable [Env]

def nmC (k : Int) : ByteArray := if k = 0 then (⟨#[51, 48, 47, 51, 54, 48]⟩ : ByteArray) else if k = 1 then (⟨#[51, 48, 101, 47, 51, 54, 48]⟩ : ByteArray) else if k = 2 then (⟨#[51, 48, 101, 47, 51, 54, 48, 105, 115, 100, 97]⟩ : ByteArray) else if k = 3 then (⟨#[97, 99, 116, 47, 51, 54, 48]⟩ : ByteArray) else if k = 4 then (⟨#[97, 99, 116, 47, 51, 54, 53, 102]⟩ : ByteArray) else if k = 5 then (⟨#[97, 99, 116, 47, 97, 99, 116]⟩ : ByteArray) else if k = 6 then (⟨#[97, 99, 116, 47, 97, 99, 116, 105, 99, 109, 97]⟩ : ByteArray) else (⟨#[]⟩ : ByteArray)
def kindC (s : ByteArray) : Int × Int := if ((⟨#[51, 48, 47, 51, 54, 48]⟩ : ByteArray).toList == s.toList) = true then (0, 0) else if ((⟨#[51, 48, 101, 47, 51, 54, 48]⟩ : ByteArray).toList == s.toList) = true then (1, 0) else if ((⟨#[51, 48, 101, 47, 51, 54, 48, 105, 115, 100, 97]⟩ : ByteArray).toList == s.toList) = true then (2, 0) else if ((⟨#[97, 99, 116, 47, 51, 54, 48]⟩ : ByteArray).toList == s.toList) = true then (3, 0) else if ((⟨#[97, 99, 116, 47, 51, 54, 53, 102]⟩ : ByteArray).toList == s.toList) = true then (4, 0) else if ((⟨#[97, 99, 116, 47, 97, 99, 116]⟩ : ByteArray).toList == s.toList) = true then (5, 0) else if ((⟨#[97, 99, 116, 47, 97, 99, 116, 105, 99, 109, 97]⟩ : ByteArray).toList == s.toList) = true then (6, 0) else (0, 10)


theorem cName0_w  {res : SV} (H : (SV.val (.string (⟨#[51, 48, 47, 51, 54, 48]⟩ : ByteArray))) = res) :
    S 24 [I 0] [] res [] := by
  refine SCall.st fun X hX => ?_
  obtain rfl := H
  exact hX.e [q_ (show ∀ k, k < 7 → (lrow [[.val (.string (⟨#[51, 48, 47, 51, 54, 48]⟩ : ByteArray)), .fn (.func 76) [] []], [.val (.string (⟨#[51, 48, 101, 47, 51, 54, 48]⟩ : ByteArray)), .fn (.func 120) [] [.ptr 0 0]], [.val (.string (⟨#[51, 48, 101, 47, 51, 54, 48, 105, 115, 100, 97]⟩ : ByteArray)), .fn (.func 80) [] []], [.val (.string (⟨#[97, 99, 116, 47, 51, 54, 48]⟩ : ByteArray)), .fn (.func 120) [] [.ptr 1 0]], [.val (.string (⟨#[97, 99, 116, 47, 51, 54, 53, 102]⟩ : ByteArray)), .fn (.func 120) [] [.ptr 2 0]], [.val (.string (⟨#[97, 99, 116, 47, 97, 99, 116]⟩ : ByteArray)), .fn (.func 120) [] [.ptr 3 0]], [.val (.string (⟨#[97, 99, 116, 47, 97, 99, 116, 105, 99, 109, 97]⟩ : ByteArray)), .fn (.func 85) [] []]]) k = [[.val (.string (⟨#[51, 48, 47, 51, 54, 48]⟩ : ByteArray)), .fn (.func 76) [] []], [.val (.string (⟨#[51, 48, 101, 47, 51, 54, 48]⟩ : ByteArray)), .fn (.func 120) [] [.ptr 0 0]], [.val (.string (⟨#[51, 48, 101, 47, 51, 54, 48, 105, 115, 100, 97]⟩ : ByteArray)), .fn (.func 80) [] []], [.val (.string (⟨#[97, 99, 116, 47, 51, 54, 48]⟩ : ByteArray)), .fn (.func 120) [] [.ptr 1 0]], [.val (.string (⟨#[97, 99, 116, 47, 51, 54, 53, 102]⟩ : ByteArray)), .fn (.func 120) [] [.ptr 2 0]], [.val (.string (⟨#[97, 99, 116, 47, 97, 99, 116]⟩ : ByteArray)), .fn (.func 120) [] [.ptr 3 0]], [.val (.string (⟨#[97, 99, 116, 47, 97, 99, 116, 105, 99, 109, 97]⟩ : ByteArray)), .fn (.func 85) [] []]].getD k [] from by intro k hk; match k, hk with | 0, _ => rfl | 1, _ => rfl | 2, _ => rfl | 3, _ => rfl | 4, _ => rfl | 5, _ => rfl | 6, _ => rfl | k + 7, hk => omega), i_, i_, i_, i_, i_, h_ [.row (lrow [[.val (.string (⟨#[51, 48, 47, 51, 54, 48]⟩ : ByteArray)), .fn (.func 76) [] []], [.val (.string (⟨#[51, 48, 101, 47, 51, 54, 48]⟩ : ByteArray)), .fn (.func 120) [] [.ptr 0 0]], [.val (.string (⟨#[51, 48, 101, 47, 51, 54, 48, 105, 115, 100, 97]⟩ : ByteArray)), .fn (.func 80) [] []], [.val (.string (⟨#[97, 99, 116, 47, 51, 54, 48]⟩ : ByteArray)), .fn (.func 120) [] [.ptr 1 0]], [.val (.string (⟨#[97, 99, 116, 47, 51, 54, 53, 102]⟩ : ByteArray)), .fn (.func 120) [] [.ptr 2 0]], [.val (.string (⟨#[97, 99, 116, 47, 97, 99, 116]⟩ : ByteArray)), .fn (.func 120) [] [.ptr 3 0]], [.val (.string (⟨#[97, 99, 116, 47, 97, 99, 116, 105, 99, 109, 97]⟩ : ByteArray)), .fn (.func 85) [] []]])], t_ rt, t_ rt, t_ rt, t_ rt, t_ rt, t_ rt, q_ (show (0 : Int) ≤ 0 ∧ 0 < ((7 : Nat) : Int) from by decide), q_ (re 7), q_ (show (0 : Int) ≤ 0 ∧ 0 < ((7 : Nat) : Int) from by decide), q_ (show (0 : Int) ≤ 0 ∧ 0 < ((7 : Nat) : Int) from by decide)]

theorem cName1_w  {res : SV} (H : (SV.val (.string (⟨#[51, 48, 101, 47, 51, 54, 48]⟩ : ByteArray))) = res) :
    S 24 [I 1] [] res [] := by
  refine SCall.st fun X hX => ?_
  obtain rfl := H
  exact hX.e [q_ (show ∀ k, k < 7 → (lrow [[.val (.string (⟨#[51, 48, 47, 51, 54, 48]⟩ : ByteArray)), .fn (.func 76) [] []], [.val (.string (⟨#[51, 48, 101, 47, 51, 54, 48]⟩ : ByteArray)), .fn (.func 120) [] [.ptr 0 0]], [.val (.string (⟨#[51, 48, 101, 47, 51, 54, 48, 105, 115, 100, 97]⟩ : ByteArray)), .fn (.func 80) [] []], [.val (.string (⟨#[97, 99, 116, 47, 51, 54, 48]⟩ : ByteArray)), .fn (.func 120) [] [.ptr 1 0]], [.val (.string (⟨#[97, 99, 116, 47, 51, 54, 53, 102]⟩ : ByteArray)), .fn (.func 120) [] [.ptr 2 0]], [.val (.string (⟨#[97, 99, 116, 47, 97, 99, 116]⟩ : ByteArray)), .fn (.func 120) [] [.ptr 3 0]], [.val (.string (⟨#[97, 99, 116, 47, 97, 99, 116, 105, 99, 109, 97]⟩ : ByteArray)), .fn (.func 85) [] []]]) k = [[.val (.string (⟨#[51, 48, 47, 51, 54, 48]⟩ : ByteArray)), .fn (.func 76) [] []], [.val (.string (⟨#[51, 48, 101, 47, 51, 54, 48]⟩ : ByteArray)), .fn (.func 120) [] [.ptr 0 0]], [.val (.string (⟨#[51, 48, 101, 47, 51, 54, 48, 105, 115, 100, 97]⟩ : ByteArray)), .fn (.func 80) [] []], [.val (.string (⟨#[97, 99, 116, 47, 51, 54, 48]⟩ : ByteArray)), .fn (.func 120) [] [.ptr 1 0]], [.val (.string (⟨#[97, 99, 116, 47, 51, 54, 53, 102]⟩ : ByteArray)), .fn (.func 120) [] [.ptr 2 0]], [.val (.string (⟨#[97, 99, 116, 47, 97, 99, 116]⟩ : ByteArray)), .fn (.func 120) [] [.ptr 3 0]], [.val (.string (⟨#[97, 99, 116, 47, 97, 99, 116, 105, 99, 109, 97]⟩ : ByteArray)), .fn (.func 85) [] []]].getD k [] from by intro k hk; match k, hk with | 0, _ => rfl | 1, _ => rfl | 2, _ => rfl | 3, _ => rfl | 4, _ => rfl | 5, _ => rfl | 6, _ => rfl | k + 7, hk => omega), i_, i_, i_, i_, i_, h_ [.row (lrow [[.val (.string (⟨#[51, 48, 47, 51, 54, 48]⟩ : ByteArray)), .fn (.func 76) [] []], [.val (.string (⟨#[51, 48, 101, 47, 51, 54, 48]⟩ : ByteArray)), .fn (.func 120) [] [.ptr 0 0]], [.val (.string (⟨#[51, 48, 101, 47, 51, 54, 48, 105, 115, 100, 97]⟩ : ByteArray)), .fn (.func 80) [] []], [.val (.string (⟨#[97, 99, 116, 47, 51, 54, 48]⟩ : ByteArray)), .fn (.func 120) [] [.ptr 1 0]], [.val (.string (⟨#[97, 99, 116, 47, 51, 54, 53, 102]⟩ : ByteArray)), .fn (.func 120) [] [.ptr 2 0]], [.val (.string (⟨#[97, 99, 116, 47, 97, 99, 116]⟩ : ByteArray)), .fn (.func 120) [] [.ptr 3 0]], [.val (.string (⟨#[97, 99, 116, 47, 97, 99, 116, 105, 99, 109, 97]⟩ : ByteArray)), .fn (.func 85) [] []]])], t_ rt, t_ rt, t_ rt, t_ rt, t_ rt, t_ rt, q_ (show (0 : Int) ≤ 1 ∧ 1 < ((7 : Nat) : Int) from by decide), q_ (re 7), q_ (show (0 : Int) ≤ 1 ∧ 1 < ((7 : Nat) : Int) from by decide), q_ (show (0 : Int) ≤ 1 ∧ 1 < ((7 : Nat) : Int) from by decide)]

theorem cName2_w  {res : SV} (H : (SV.val (.string (⟨#[51, 48, 101, 47, 51, 54, 48, 105, 115, 100, 97]⟩ : ByteArray))) = res) :
    S 24 [I 2] [] res [] := by
  refine SCall.st fun X hX => ?_
  obtain rfl := H
  exact hX.e [q_ (show ∀ k, k < 7 → (lrow [[.val (.string (⟨#[51, 48, 47, 51, 54, 48]⟩ : ByteArray)), .fn (.func 76) [] []], [.val (.string (⟨#[51, 48, 101, 47, 51, 54, 48]⟩ : ByteArray)), .fn (.func 120) [] [.ptr 0 0]], [.val (.string (⟨#[51, 48, 101, 47, 51, 54, 48, 105, 115, 100, 97]⟩ : ByteArray)), .fn (.func 80) [] []], [.val (.string (⟨#[97, 99, 116, 47, 51, 54, 48]⟩ : ByteArray)), .fn (.func 120) [] [.ptr 1 0]], [.val (.string (⟨#[97, 99, 116, 47, 51, 54, 53, 102]⟩ : ByteArray)), .fn (.func 120) [] [.ptr 2 0]], [.val (.string (⟨#[97, 99, 116, 47, 97, 99, 116]⟩ : ByteArray)), .fn (.func 120) [] [.ptr 3 0]], [.val (.string (⟨#[97, 99, 116, 47, 97, 99, 116, 105, 99, 109, 97]⟩ : ByteArray)), .fn (.func 85) [] []]]) k = [[.val (.string (⟨#[51, 48, 47, 51, 54, 48]⟩ : ByteArray)), .fn (.func 76) [] []], [.val (.string (⟨#[51, 48, 101, 47, 51, 54, 48]⟩ : ByteArray)), .fn (.func 120) [] [.ptr 0 0]], [.val (.string (⟨#[51, 48, 101, 47, 51, 54, 48, 105, 115, 100, 97]⟩ : ByteArray)), .fn (.func 80) [] []], [.val (.string (⟨#[97, 99, 116, 47, 51, 54, 48]⟩ : ByteArray)), .fn (.func 120) [] [.ptr 1 0]], [.val (.string (⟨#[97, 99, 116, 47, 51, 54, 53, 102]⟩ : ByteArray)), .fn (.func 120) [] [.ptr 2 0]], [.val (.string (⟨#[97, 99, 116, 47, 97, 99, 116]⟩ : ByteArray)), .fn (.func 120) [] [.ptr 3 0]], [.val (.string (⟨#[97, 99, 116, 47, 97, 99, 116, 105, 99, 109, 97]⟩ : ByteArray)), .fn (.func 85) [] []]].getD k [] from by intro k hk; match k, hk with | 0, _ => rfl | 1, _ => rfl | 2, _ => rfl | 3, _ => rfl | 4, _ => rfl | 5, _ => rfl | 6, _ => rfl | k + 7, hk => omega), i_, i_, i_, i_, i_, h_ [.row (lrow [[.val (.string (⟨#[51, 48, 47, 51, 54, 48]⟩ : ByteArray)), .fn (.func 76) [] []], [.val (.string (⟨#[51, 48, 101, 47, 51, 54, 48]⟩ : ByteArray)), .fn (.func 120) [] [.ptr 0 0]], [.val (.string (⟨#[51, 48, 101, 47, 51, 54, 48, 105, 115, 100, 97]⟩ : ByteArray)), .fn (.func 80) [] []], [.val (.string (⟨#[97, 99, 116, 47, 51, 54, 48]⟩ : ByteArray)), .fn (.func 120) [] [.ptr 1 0]], [.val (.string (⟨#[97, 99, 116, 47, 51, 54, 53, 102]⟩ : ByteArray)), .fn (.func 120) [] [.ptr 2 0]], [.val (.string (⟨#[97, 99, 116, 47, 97, 99, 116]⟩ : ByteArray)), .fn (.func 120) [] [.ptr 3 0]], [.val (.string (⟨#[97, 99, 116, 47, 97, 99, 116, 105, 99, 109, 97]⟩ : ByteArray)), .fn (.func 85) [] []]])], t_ rt, t_ rt, t_ rt, t_ rt, t_ rt, t_ rt, q_ (show (0 : Int) ≤ 2 ∧ 2 < ((7 : Nat) : Int) from by decide), q_ (re 7), q_ (show (0 : Int) ≤ 2 ∧ 2 < ((7 : Nat) : Int) from by decide), q_ (show (0 : Int) ≤ 2 ∧ 2 < ((7 : Nat) : Int) from by decide)]

theorem cName3_w  {res : SV} (H : (SV.val (.string (⟨#[97, 99, 116, 47, 51, 54, 48]⟩ : ByteArray))) = res) :
    S 24 [I 3] [] res [] := by
  refine SCall.st fun X hX => ?_
  obtain rfl := H
  exact hX.e [q_ (show ∀ k, k < 7 → (lrow [[.val (.string (⟨#[51, 48, 47, 51, 54, 48]⟩ : ByteArray)), .fn (.func 76) [] []], [.val (.string (⟨#[51, 48, 101, 47, 51, 54, 48]⟩ : ByteArray)), .fn (.func 120) [] [.ptr 0 0]], [.val (.string (⟨#[51, 48, 101, 47, 51, 54, 48, 105, 115, 100, 97]⟩ : ByteArray)), .fn (.func 80) [] []], [.val (.string (⟨#[97, 99, 116, 47, 51, 54, 48]⟩ : ByteArray)), .fn (.func 120) [] [.ptr 1 0]], [.val (.string (⟨#[97, 99, 116, 47, 51, 54, 53, 102]⟩ : ByteArray)), .fn (.func 120) [] [.ptr 2 0]], [.val (.string (⟨#[97, 99, 116, 47, 97, 99, 116]⟩ : ByteArray)), .fn (.func 120) [] [.ptr 3 0]], [.val (.string (⟨#[97, 99, 116, 47, 97, 99, 116, 105, 99, 109, 97]⟩ : ByteArray)), .fn (.func 85) [] []]]) k = [[.val (.string (⟨#[51, 48, 47, 51, 54, 48]⟩ : ByteArray)), .fn (.func 76) [] []], [.val (.string (⟨#[51, 48, 101, 47, 51, 54, 48]⟩ : ByteArray)), .fn (.func 120) [] [.ptr 0 0]], [.val (.string (⟨#[51, 48, 101, 47, 51, 54, 48, 105, 115, 100, 97]⟩ : ByteArray)), .fn (.func 80) [] []], [.val (.string (⟨#[97, 99, 116, 47, 51, 54, 48]⟩ : ByteArray)), .fn (.func 120) [] [.ptr 1 0]], [.val (.string (⟨#[97, 99, 116, 47, 51, 54, 53, 102]⟩ : ByteArray)), .fn (.func 120) [] [.ptr 2 0]], [.val (.string (⟨#[97, 99, 116, 47, 97, 99, 116]⟩ : ByteArray)), .fn (.func 120) [] [.ptr 3 0]], [.val (.string (⟨#[97, 99, 116, 47, 97, 99, 116, 105, 99, 109, 97]⟩ : ByteArray)), .fn (.func 85) [] []]].getD k [] from by intro k hk; match k, hk with | 0, _ => rfl | 1, _ => rfl | 2, _ => rfl | 3, _ => rfl | 4, _ => rfl | 5, _ => rfl | 6, _ => rfl | k + 7, hk => omega), i_, i_, i_, i_, i_, h_ [.row (lrow [[.val (.string (⟨#[51, 48, 47, 51, 54, 48]⟩ : ByteArray)), .fn (.func 76) [] []], [.val (.string (⟨#[51, 48, 101, 47, 51, 54, 48]⟩ : ByteArray)), .fn (.func 120) [] [.ptr 0 0]], [.val (.string (⟨#[51, 48, 101, 47, 51, 54, 48, 105, 115, 100, 97]⟩ : ByteArray)), .fn (.func 80) [] []], [.val (.string (⟨#[97, 99, 116, 47, 51, 54, 48]⟩ : ByteArray)), .fn (.func 120) [] [.ptr 1 0]], [.val (.string (⟨#[97, 99, 116, 47, 51, 54, 53, 102]⟩ : ByteArray)), .fn (.func 120) [] [.ptr 2 0]], [.val (.string (⟨#[97, 99, 116, 47, 97, 99, 116]⟩ : ByteArray)), .fn (.func 120) [] [.ptr 3 0]], [.val (.string (⟨#[97, 99, 116, 47, 97, 99, 116, 105, 99, 109, 97]⟩ : ByteArray)), .fn (.func 85) [] []]])], t_ rt, t_ rt, t_ rt, t_ rt, t_ rt, t_ rt, q_ (show (0 : Int) ≤ 3 ∧ 3 < ((7 : Nat) : Int) from by decide), q_ (re 7), q_ (show (0 : Int) ≤ 3 ∧ 3 < ((7 : Nat) : Int) from by decide), q_ (show (0 : Int) ≤ 3 ∧ 3 < ((7 : Nat) : Int) from by decide)]

theorem cName4_w  {res : SV} (H : (SV.val (.string (⟨#[97, 99, 116, 47, 51, 54, 53, 102]⟩ : ByteArray))) = res) :
    S 24 [I 4] [] res [] := by
  refine SCall.st fun X hX => ?_
  obtain rfl := H
  exact hX.e [q_ (show ∀ k, k < 7 → (lrow [[.val (.string (⟨#[51, 48, 47, 51, 54, 48]⟩ : ByteArray)), .fn (.func 76) [] []], [.val (.string (⟨#[51, 48, 101, 47, 51, 54, 48]⟩ : ByteArray)), .fn (.func 120) [] [.ptr 0 0]], [.val (.string (⟨#[51, 48, 101, 47, 51, 54, 48, 105, 115, 100, 97]⟩ : ByteArray)), .fn (.func 80) [] []], [.val (.string (⟨#[97, 99, 116, 47, 51, 54, 48]⟩ : ByteArray)), .fn (.func 120) [] [.ptr 1 0]], [.val (.string (⟨#[97, 99, 116, 47, 51, 54, 53, 102]⟩ : ByteArray)), .fn (.func 120) [] [.ptr 2 0]], [.val (.string (⟨#[97, 99, 116, 47, 97, 99, 116]⟩ : ByteArray)), .fn (.func 120) [] [.ptr 3 0]], [.val (.string (⟨#[97, 99, 116, 47, 97, 99, 116, 105, 99, 109, 97]⟩ : ByteArray)), .fn (.func 85) [] []]]) k = [[.val (.string (⟨#[51, 48, 47, 51, 54, 48]⟩ : ByteArray)), .fn (.func 76) [] []], [.val (.string (⟨#[51, 48, 101, 47, 51, 54, 48]⟩ : ByteArray)), .fn (.func 120) [] [.ptr 0 0]], [.val (.string (⟨#[51, 48, 101, 47, 51, 54, 48, 105, 115, 100, 97]⟩ : ByteArray)), .fn (.func 80) [] []], [.val (.string (⟨#[97, 99, 116, 47, 51, 54, 48]⟩ : ByteArray)), .fn (.func 120) [] [.ptr 1 0]], [.val (.string (⟨#[97, 99, 116, 47, 51, 54, 53, 102]⟩ : ByteArray)), .fn (.func 120) [] [.ptr 2 0]], [.val (.string (⟨#[97, 99, 116, 47, 97, 99, 116]⟩ : ByteArray)), .fn (.func 120) [] [.ptr 3 0]], [.val (.string (⟨#[97, 99, 116, 47, 97, 99, 116, 105, 99, 109, 97]⟩ : ByteArray)), .fn (.func 85) [] []]].getD k [] from by intro k hk; match k, hk with | 0, _ => rfl | 1, _ => rfl | 2, _ => rfl | 3, _ => rfl | 4, _ => rfl | 5, _ => rfl | 6, _ => rfl | k + 7, hk => omega), i_, i_, i_, i_, i_, h_ [.row (lrow [[.val (.string (⟨#[51, 48, 47, 51, 54, 48]⟩ : ByteArray)), .fn (.func 76) [] []], [.val (.string (⟨#[51, 48, 101, 47, 51, 54, 48]⟩ : ByteArray)), .fn (.func 120) [] [.ptr 0 0]], [.val (.string (⟨#[51, 48, 101, 47, 51, 54, 48, 105, 115, 100, 97]⟩ : ByteArray)), .fn (.func 80) [] []], [.val (.string (⟨#[97, 99, 116, 47, 51, 54, 48]⟩ : ByteArray)), .fn (.func 120) [] [.ptr 1 0]], [.val (.string (⟨#[97, 99, 116, 47, 51, 54, 53, 102]⟩ : ByteArray)), .fn (.func 120) [] [.ptr 2 0]], [.val (.string (⟨#[97, 99, 116, 47, 97, 99, 116]⟩ : ByteArray)), .fn (.func 120) [] [.ptr 3 0]], [.val (.string (⟨#[97, 99, 116, 47, 97, 99, 116, 105, 99, 109, 97]⟩ : ByteArray)), .fn (.func 85) [] []]])], t_ rt, t_ rt, t_ rt, t_ rt, t_ rt, t_ rt, q_ (show (0 : Int) ≤ 4 ∧ 4 < ((7 : Nat) : Int) from by decide), q_ (re 7), q_ (show (0 : Int) ≤ 4 ∧ 4 < ((7 : Nat) : Int) from by decide), q_ (show (0 : Int) ≤ 4 ∧ 4 < ((7 : Nat) : Int) from by decide)]

theorem cName5_w  {res : SV} (H : (SV.val (.string (⟨#[97, 99, 116, 47, 97, 99, 116]⟩ : ByteArray))) = res) :
    S 24 [I 5] [] res [] := by
  refine SCall.st fun X hX => ?_
  obtain rfl := H
  exact hX.e [q_ (show ∀ k, k < 7 → (lrow [[.val (.string (⟨#[51, 48, 47, 51, 54, 48]⟩ : ByteArray)), .fn (.func 76) [] []], [.val (.string (⟨#[51, 48, 101, 47, 51, 54, 48]⟩ : ByteArray)), .fn (.func 120) [] [.ptr 0 0]], [.val (.string (⟨#[51, 48, 101, 47, 51, 54, 48, 105, 115, 100, 97]⟩ : ByteArray)), .fn (.func 80) [] []], [.val (.string (⟨#[97, 99, 116, 47, 51, 54, 48]⟩ : ByteArray)), .fn (.func 120) [] [.ptr 1 0]], [.val (.string (⟨#[97, 99, 116, 47, 51, 54, 53, 102]⟩ : ByteArray)), .fn (.func 120) [] [.ptr 2 0]], [.val (.string (⟨#[97, 99, 116, 47, 97, 99, 116]⟩ : ByteArray)), .fn (.func 120) [] [.ptr 3 0]], [.val (.string (⟨#[97, 99, 116, 47, 97, 99, 116, 105, 99, 109, 97]⟩ : ByteArray)), .fn (.func 85) [] []]]) k = [[.val (.string (⟨#[51, 48, 47, 51, 54, 48]⟩ : ByteArray)), .fn (.func 76) [] []], [.val (.string (⟨#[51, 48, 101, 47, 51, 54, 48]⟩ : ByteArray)), .fn (.func 120) [] [.ptr 0 0]], [.val (.string (⟨#[51, 48, 101, 47, 51, 54, 48, 105, 115, 100, 97]⟩ : ByteArray)), .fn (.func 80) [] []], [.val (.string (⟨#[97, 99, 116, 47, 51, 54, 48]⟩ : ByteArray)), .fn (.func 120) [] [.ptr 1 0]], [.val (.string (⟨#[97, 99, 116, 47, 51, 54, 53, 102]⟩ : ByteArray)), .fn (.func 120) [] [.ptr 2 0]], [.val (.string (⟨#[97, 99, 116, 47, 97, 99, 116]⟩ : ByteArray)), .fn (.func 120) [] [.ptr 3 0]], [.val (.string (⟨#[97, 99, 116, 47, 97, 99, 116, 105, 99, 109, 97]⟩ : ByteArray)), .fn (.func 85) [] []]].getD k [] from by intro k hk; match k, hk with | 0, _ => rfl | 1, _ => rfl | 2, _ => rfl | 3, _ => rfl | 4, _ => rfl | 5, _ => rfl | 6, _ => rfl | k + 7, hk => omega), i_, i_, i_, i_, i_, h_ [.row (lrow [[.val (.string (⟨#[51, 48, 47, 51, 54, 48]⟩ : ByteArray)), .fn (.func 76) [] []], [.val (.string (⟨#[51, 48, 101, 47, 51, 54, 48]⟩ : ByteArray)), .fn (.func 120) [] [.ptr 0 0]], [.val (.string (⟨#[51, 48, 101, 47, 51, 54, 48, 105, 115, 100, 97]⟩ : ByteArray)), .fn (.func 80) [] []], [.val (.string (⟨#[97, 99, 116, 47, 51, 54, 48]⟩ : ByteArray)), .fn (.func 120) [] [.ptr 1 0]], [.val (.string (⟨#[97, 99, 116, 47, 51, 54, 53, 102]⟩ : ByteArray)), .fn (.func 120) [] [.ptr 2 0]], [.val (.string (⟨#[97, 99, 116, 47, 97, 99, 116]⟩ : ByteArray)), .fn (.func 120) [] [.ptr 3 0]], [.val (.string (⟨#[97, 99, 116, 47, 97, 99, 116, 105, 99, 109, 97]⟩ : ByteArray)), .fn (.func 85) [] []]])], t_ rt, t_ rt, t_ rt, t_ rt, t_ rt, t_ rt, q_ (show (0 : Int) ≤ 5 ∧ 5 < ((7 : Nat) : Int) from by decide), q_ (re 7), q_ (show (0 : Int) ≤ 5 ∧ 5 < ((7 : Nat) : Int) from by decide), q_ (show (0 : Int) ≤ 5 ∧ 5 < ((7 : Nat) : Int) from by decide)]

theorem cName6_w  {res : SV} (H : (SV.val (.string (⟨#[97, 99, 116, 47, 97, 99, 116, 105, 99, 109, 97]⟩ : ByteArray))) = res) :
    S 24 [I 6] [] res [] := by
  refine SCall.st fun X hX => ?_
  obtain rfl := H
  exact hX.e [q_ (show ∀ k, k < 7 → (lrow [[.val (.string (⟨#[51, 48, 47, 51, 54, 48]⟩ : ByteArray)), .fn (.func 76) [] []], [.val (.string (⟨#[51, 48, 101, 47, 51, 54, 48]⟩ : ByteArray)), .fn (.func 120) [] [.ptr 0 0]], [.val (.string (⟨#[51, 48, 101, 47, 51, 54, 48, 105, 115, 100, 97]⟩ : ByteArray)), .fn (.func 80) [] []], [.val (.string (⟨#[97, 99, 116, 47, 51, 54, 48]⟩ : ByteArray)), .fn (.func 120) [] [.ptr 1 0]], [.val (.string (⟨#[97, 99, 116, 47, 51, 54, 53, 102]⟩ : ByteArray)), .fn (.func 120) [] [.ptr 2 0]], [.val (.string (⟨#[97, 99, 116, 47, 97, 99, 116]⟩ : ByteArray)), .fn (.func 120) [] [.ptr 3 0]], [.val (.string (⟨#[97, 99, 116, 47, 97, 99, 116, 105, 99, 109, 97]⟩ : ByteArray)), .fn (.func 85) [] []]]) k = [[.val (.string (⟨#[51, 48, 47, 51, 54, 48]⟩ : ByteArray)), .fn (.func 76) [] []], [.val (.string (⟨#[51, 48, 101, 47, 51, 54, 48]⟩ : ByteArray)), .fn (.func 120) [] [.ptr 0 0]], [.val (.string (⟨#[51, 48, 101, 47, 51, 54, 48, 105, 115, 100, 97]⟩ : ByteArray)), .fn (.func 80) [] []], [.val (.string (⟨#[97, 99, 116, 47, 51, 54, 48]⟩ : ByteArray)), .fn (.func 120) [] [.ptr 1 0]], [.val (.string (⟨#[97, 99, 116, 47, 51, 54, 53, 102]⟩ : ByteArray)), .fn (.func 120) [] [.ptr 2 0]], [.val (.string (⟨#[97, 99, 116, 47, 97, 99, 116]⟩ : ByteArray)), .fn (.func 120) [] [.ptr 3 0]], [.val (.string (⟨#[97, 99, 116, 47, 97, 99, 116, 105, 99, 109, 97]⟩ : ByteArray)), .fn (.func 85) [] []]].getD k [] from by intro k hk; match k, hk with | 0, _ => rfl | 1, _ => rfl | 2, _ => rfl | 3, _ => rfl | 4, _ => rfl | 5, _ => rfl | 6, _ => rfl | k + 7, hk => omega), i_, i_, i_, i_, i_, h_ [.row (lrow [[.val (.string (⟨#[51, 48, 47, 51, 54, 48]⟩ : ByteArray)), .fn (.func 76) [] []], [.val (.string (⟨#[51, 48, 101, 47, 51, 54, 48]⟩ : ByteArray)), .fn (.func 120) [] [.ptr 0 0]], [.val (.string (⟨#[51, 48, 101, 47, 51, 54, 48, 105, 115, 100, 97]⟩ : ByteArray)), .fn (.func 80) [] []], [.val (.string (⟨#[97, 99, 116, 47, 51, 54, 48]⟩ : ByteArray)), .fn (.func 120) [] [.ptr 1 0]], [.val (.string (⟨#[97, 99, 116, 47, 51, 54, 53, 102]⟩ : ByteArray)), .fn (.func 120) [] [.ptr 2 0]], [.val (.string (⟨#[97, 99, 116, 47, 97, 99, 116]⟩ : ByteArray)), .fn (.func 120) [] [.ptr 3 0]], [.val (.string (⟨#[97, 99, 116, 47, 97, 99, 116, 105, 99, 109, 97]⟩ : ByteArray)), .fn (.func 85) [] []]])], t_ rt, t_ rt, t_ rt, t_ rt, t_ rt, t_ rt, q_ (show (0 : Int) ≤ 6 ∧ 6 < ((7 : Nat) : Int) from by decide), q_ (re 7), q_ (show (0 : Int) ≤ 6 ∧ 6 < ((7 : Nat) : Int) from by decide), q_ (show (0 : Int) ≤ 6 ∧ 6 < ((7 : Nat) : Int) from by decide)]

theorem cNameX_w {a1 : Int} {res : SV} (H : (a1 ≥ 0 → (a1 < 7 → ((0 : Int) ≤ a1 ∧ a1 < ((7 : Nat) : Int)) ∧ False) ∧ (¬ a1 < 7 → (SV.val (.string (⟨#[]⟩ : ByteArray))) = res)) ∧ (¬ a1 ≥ 0 → (SV.val (.string (⟨#[]⟩ : ByteArray))) = res)) :
    S 24 [I a1] [] res [] := by
  refine SCall.st fun X hX => ?_
  obtain ⟨H1, H2⟩ := H
  refine hX.go [q_ (show ∀ k, k < 7 → (lrow [[.val (.string (⟨#[51, 48, 47, 51, 54, 48]⟩ : ByteArray)), .fn (.func 76) [] []], [.val (.string (⟨#[51, 48, 101, 47, 51, 54, 48]⟩ : ByteArray)), .fn (.func 120) [] [.ptr 0 0]], [.val (.string (⟨#[51, 48, 101, 47, 51, 54, 48, 105, 115, 100, 97]⟩ : ByteArray)), .fn (.func 80) [] []], [.val (.string (⟨#[97, 99, 116, 47, 51, 54, 48]⟩ : ByteArray)), .fn (.func 120) [] [.ptr 1 0]], [.val (.string (⟨#[97, 99, 116, 47, 51, 54, 53, 102]⟩ : ByteArray)), .fn (.func 120) [] [.ptr 2 0]], [.val (.string (⟨#[97, 99, 116, 47, 97, 99, 116]⟩ : ByteArray)), .fn (.func 120) [] [.ptr 3 0]], [.val (.string (⟨#[97, 99, 116, 47, 97, 99, 116, 105, 99, 109, 97]⟩ : ByteArray)), .fn (.func 85) [] []]]) k = [[.val (.string (⟨#[51, 48, 47, 51, 54, 48]⟩ : ByteArray)), .fn (.func 76) [] []], [.val (.string (⟨#[51, 48, 101, 47, 51, 54, 48]⟩ : ByteArray)), .fn (.func 120) [] [.ptr 0 0]], [.val (.string (⟨#[51, 48, 101, 47, 51, 54, 48, 105, 115, 100, 97]⟩ : ByteArray)), .fn (.func 80) [] []], [.val (.string (⟨#[97, 99, 116, 47, 51, 54, 48]⟩ : ByteArray)), .fn (.func 120) [] [.ptr 1 0]], [.val (.string (⟨#[97, 99, 116, 47, 51, 54, 53, 102]⟩ : ByteArray)), .fn (.func 120) [] [.ptr 2 0]], [.val (.string (⟨#[97, 99, 116, 47, 97, 99, 116]⟩ : ByteArray)), .fn (.func 120) [] [.ptr 3 0]], [.val (.string (⟨#[97, 99, 116, 47, 97, 99, 116, 105, 99, 109, 97]⟩ : ByteArray)), .fn (.func 85) [] []]].getD k [] from by intro k hk; match k, hk with | 0, _ => rfl | 1, _ => rfl | 2, _ => rfl | 3, _ => rfl | 4, _ => rfl | 5, _ => rfl | 6, _ => rfl | k + 7, hk => omega), i_, i_, i_, i_, i_, h_ [.row (lrow [[.val (.string (⟨#[51, 48, 47, 51, 54, 48]⟩ : ByteArray)), .fn (.func 76) [] []], [.val (.string (⟨#[51, 48, 101, 47, 51, 54, 48]⟩ : ByteArray)), .fn (.func 120) [] [.ptr 0 0]], [.val (.string (⟨#[51, 48, 101, 47, 51, 54, 48, 105, 115, 100, 97]⟩ : ByteArray)), .fn (.func 80) [] []], [.val (.string (⟨#[97, 99, 116, 47, 51, 54, 48]⟩ : ByteArray)), .fn (.func 120) [] [.ptr 1 0]], [.val (.string (⟨#[97, 99, 116, 47, 51, 54, 53, 102]⟩ : ByteArray)), .fn (.func 120) [] [.ptr 2 0]], [.val (.string (⟨#[97, 99, 116, 47, 97, 99, 116]⟩ : ByteArray)), .fn (.func 120) [] [.ptr 3 0]], [.val (.string (⟨#[97, 99, 116, 47, 97, 99, 116, 105, 99, 109, 97]⟩ : ByteArray)), .fn (.func 85) [] []]])]] ?_
  by_cases h0 : a1 ≥ 0
  · obtain ⟨H1, H2⟩ := H1 h0
    refine hX.go [t_ (dt h0), t_ (dt h0), t_ (dt h0), t_ (dt h0), t_ (dt h0)] ?_
    by_cases h1 : a1 < 7
    · obtain ⟨h2, H⟩ := H1 h1
      exact H.elim
    · obtain rfl := H2 h1
      exact hX.e [f_ (df h1)]
  · obtain rfl := H2 h0
    exact hX.e [f_ (df h0), f_ (df h0), f_ (df h0), f_ (df h0), f_ (df h0), f_ rf]

theorem cKind_w {a1 : ByteArray} {res : SV} (H : (((⟨#[51, 48, 47, 51, 54, 48]⟩ : ByteArray).toList == a1.toList) = true → (SV.tup [I 0, I 0]) = res) ∧ (((⟨#[51, 48, 47, 51, 54, 48]⟩ : ByteArray).toList == a1.toList) = false → (((⟨#[51, 48, 101, 47, 51, 54, 48]⟩ : ByteArray).toList == a1.toList) = true → (SV.tup [I 1, I 0]) = res) ∧ (((⟨#[51, 48, 101, 47, 51, 54, 48]⟩ : ByteArray).toList == a1.toList) = false → (((⟨#[51, 48, 101, 47, 51, 54, 48, 105, 115, 100, 97]⟩ : ByteArray).toList == a1.toList) = true → (SV.tup [I 2, I 0]) = res) ∧ (((⟨#[51, 48, 101, 47, 51, 54, 48, 105, 115, 100, 97]⟩ : ByteArray).toList == a1.toList) = false → (((⟨#[97, 99, 116, 47, 51, 54, 48]⟩ : ByteArray).toList == a1.toList) = true → (SV.tup [I 3, I 0]) = res) ∧ (((⟨#[97, 99, 116, 47, 51, 54, 48]⟩ : ByteArray).toList == a1.toList) = false → (((⟨#[97, 99, 116, 47, 51, 54, 53, 102]⟩ : ByteArray).toList == a1.toList) = true → (SV.tup [I 4, I 0]) = res) ∧ (((⟨#[97, 99, 116, 47, 51, 54, 53, 102]⟩ : ByteArray).toList == a1.toList) = false → (((⟨#[97, 99, 116, 47, 97, 99, 116]⟩ : ByteArray).toList == a1.toList) = true → (SV.tup [I 5, I 0]) = res) ∧ (((⟨#[97, 99, 116, 47, 97, 99, 116]⟩ : ByteArray).toList == a1.toList) = false → (((⟨#[97, 99, 116, 47, 97, 99, 116, 105, 99, 109, 97]⟩ : ByteArray).toList == a1.toList) = true → (SV.tup [I 6, I 0]) = res) ∧ (((⟨#[97, 99, 116, 47, 97, 99, 116, 105, 99, 109, 97]⟩ : ByteArray).toList == a1.toList) = false → (SV.tup [I 0, I 10]) = res)))))))) :
    S 22 [.val (.string a1)] [] res [] := by
  refine SCall.st fun X hX => ?_
  obtain ⟨H1, H2⟩ := H
  refine hX.go [q_ (show ∀ k, k < 7 → (lrow [[.val (.string (⟨#[51, 48, 47, 51, 54, 48]⟩ : ByteArray)), .fn (.func 76) [] []], [.val (.string (⟨#[51, 48, 101, 47, 51, 54, 48]⟩ : ByteArray)), .fn (.func 120) [] [.ptr 1 0]], [.val (.string (⟨#[51, 48, 101, 47, 51, 54, 48, 105, 115, 100, 97]⟩ : ByteArray)), .fn (.func 80) [] []], [.val (.string (⟨#[97, 99, 116, 47, 51, 54, 48]⟩ : ByteArray)), .fn (.func 120) [] [.ptr 2 0]], [.val (.string (⟨#[97, 99, 116, 47, 51, 54, 53, 102]⟩ : ByteArray)), .fn (.func 120) [] [.ptr 3 0]], [.val (.string (⟨#[97, 99, 116, 47, 97, 99, 116]⟩ : ByteArray)), .fn (.func 120) [] [.ptr 4 0]], [.val (.string (⟨#[97, 99, 116, 47, 97, 99, 116, 105, 99, 109, 97]⟩ : ByteArray)), .fn (.func 85) [] []]]) k = [[.val (.string (⟨#[51, 48, 47, 51, 54, 48]⟩ : ByteArray)), .fn (.func 76) [] []], [.val (.string (⟨#[51, 48, 101, 47, 51, 54, 48]⟩ : ByteArray)), .fn (.func 120) [] [.ptr 1 0]], [.val (.string (⟨#[51, 48, 101, 47, 51, 54, 48, 105, 115, 100, 97]⟩ : ByteArray)), .fn (.func 80) [] []], [.val (.string (⟨#[97, 99, 116, 47, 51, 54, 48]⟩ : ByteArray)), .fn (.func 120) [] [.ptr 2 0]], [.val (.string (⟨#[97, 99, 116, 47, 51, 54, 53, 102]⟩ : ByteArray)), .fn (.func 120) [] [.ptr 3 0]], [.val (.string (⟨#[97, 99, 116, 47, 97, 99, 116]⟩ : ByteArray)), .fn (.func 120) [] [.ptr 4 0]], [.val (.string (⟨#[97, 99, 116, 47, 97, 99, 116, 105, 99, 109, 97]⟩ : ByteArray)), .fn (.func 85) [] []]].getD k [] from by intro k hk; match k, hk with | 0, _ => rfl | 1, _ => rfl | 2, _ => rfl | 3, _ => rfl | 4, _ => rfl | 5, _ => rfl | 6, _ => rfl | k + 7, hk => omega), i_, i_, i_, i_, i_, h_ [.row (lrow [[.val (.string (⟨#[51, 48, 47, 51, 54, 48]⟩ : ByteArray)), .fn (.func 76) [] []], [.val (.string (⟨#[51, 48, 101, 47, 51, 54, 48]⟩ : ByteArray)), .fn (.func 120) [] [.ptr 1 0]], [.val (.string (⟨#[51, 48, 101, 47, 51, 54, 48, 105, 115, 100, 97]⟩ : ByteArray)), .fn (.func 80) [] []], [.val (.string (⟨#[97, 99, 116, 47, 51, 54, 48]⟩ : ByteArray)), .fn (.func 120) [] [.ptr 2 0]], [.val (.string (⟨#[97, 99, 116, 47, 51, 54, 53, 102]⟩ : ByteArray)), .fn (.func 120) [] [.ptr 3 0]], [.val (.string (⟨#[97, 99, 116, 47, 97, 99, 116]⟩ : ByteArray)), .fn (.func 120) [] [.ptr 4 0]], [.val (.string (⟨#[97, 99, 116, 47, 97, 99, 116, 105, 99, 109, 97]⟩ : ByteArray)), .fn (.func 85) [] []]])], i_, t_ rt, q_ (show (0 : Int) ≤ 0 ∧ 0 < ((7 : Nat) : Int) from by decide), q_ (re 7), q_ (show (0 : Int) ≤ 0 ∧ 0 < ((7 : Nat) : Int) from by decide), i_] ?_
  rcases bcase ((⟨#[51, 48, 47, 51, 54, 48]⟩ : ByteArray).toList == a1.toList) with h0 | h0
  · obtain rfl := H1 h0
    exact hX.e [t_ h0, f_ rf]
  · obtain ⟨H1, H2⟩ := H2 h0
    refine hX.go [f_ h0, q_ (show Ir 1 from by decide), t_ rt, q_ (show (0 : Int) ≤ 1 ∧ 1 < ((7 : Nat) : Int) from by decide), q_ (re 7), q_ (show (0 : Int) ≤ 1 ∧ 1 < ((7 : Nat) : Int) from by decide), i_] ?_
    rcases bcase ((⟨#[51, 48, 101, 47, 51, 54, 48]⟩ : ByteArray).toList == a1.toList) with h1 | h1
    · obtain rfl := H1 h1
      exact hX.e [t_ h1, f_ rf]
    · obtain ⟨H1, H2⟩ := H2 h1
      refine hX.go [f_ h1, q_ (show Ir 2 from by decide), t_ rt, q_ (show (0 : Int) ≤ 2 ∧ 2 < ((7 : Nat) : Int) from by decide), q_ (re 7), q_ (show (0 : Int) ≤ 2 ∧ 2 < ((7 : Nat) : Int) from by decide), i_] ?_
      rcases bcase ((⟨#[51, 48, 101, 47, 51, 54, 48, 105, 115, 100, 97]⟩ : ByteArray).toList == a1.toList) with h2 | h2
      · obtain rfl := H1 h2
        exact hX.e [t_ h2, f_ rf]
      · obtain ⟨H1, H2⟩ := H2 h2
        refine hX.go [f_ h2, q_ (show Ir 3 from by decide), t_ rt, q_ (show (0 : Int) ≤ 3 ∧ 3 < ((7 : Nat) : Int) from by decide), q_ (re 7), q_ (show (0 : Int) ≤ 3 ∧ 3 < ((7 : Nat) : Int) from by decide), i_] ?_
        rcases bcase ((⟨#[97, 99, 116, 47, 51, 54, 48]⟩ : ByteArray).toList == a1.toList) with h3 | h3
        · obtain rfl := H1 h3
          exact hX.e [t_ h3, f_ rf]
        · obtain ⟨H1, H2⟩ := H2 h3
          refine hX.go [f_ h3, q_ (show Ir 4 from by decide), t_ rt, q_ (show (0 : Int) ≤ 4 ∧ 4 < ((7 : Nat) : Int) from by decide), q_ (re 7), q_ (show (0 : Int) ≤ 4 ∧ 4 < ((7 : Nat) : Int) from by decide), i_] ?_
          rcases bcase ((⟨#[97, 99, 116, 47, 51, 54, 53, 102]⟩ : ByteArray).toList == a1.toList) with h4 | h4
          · obtain rfl := H1 h4
            exact hX.e [t_ h4, f_ rf]
          · obtain ⟨H1, H2⟩ := H2 h4
            refine hX.go [f_ h4, q_ (show Ir 5 from by decide), t_ rt, q_ (show (0 : Int) ≤ 5 ∧ 5 < ((7 : Nat) : Int) from by decide), q_ (re 7), q_ (show (0 : Int) ≤ 5 ∧ 5 < ((7 : Nat) : Int) from by decide), i_] ?_
            rcases bcase ((⟨#[97, 99, 116, 47, 97, 99, 116]⟩ : ByteArray).toList == a1.toList) with h5 | h5
            · obtain rfl := H1 h5
              exact hX.e [t_ h5, f_ rf]
            · obtain ⟨H1, H2⟩ := H2 h5
              refine hX.go [f_ h5, q_ (show Ir 6 from by decide), t_ rt, q_ (show (0 : Int) ≤ 6 ∧ 6 < ((7 : Nat) : Int) from by decide), q_ (re 7), q_ (show (0 : Int) ≤ 6 ∧ 6 < ((7 : Nat) : Int) from by decide), i_] ?_
              rcases bcase ((⟨#[97, 99, 116, 47, 97, 99, 116, 105, 99, 109, 97]⟩ : ByteArray).toList == a1.toList) with h6 | h6
              · obtain rfl := H1 h6
                exact hX.e [t_ h6, f_ rf]
              · obtain rfl := H2 h6
                exact hX.e [f_ h6, q_ (show Ir 7 from by decide), f_ rf, t_ rt]

theorem cName (k : Int) : S 24 [I k] [] (.val (.string (nmC k))) [] := by
  by_cases h : k < 0 ∨ k ≥ 7
  · have e1 : nmC k = (⟨#[]⟩ : ByteArray) := by
      unfold nmC; rw [if_neg (by omega), if_neg (by omega), if_neg (by omega), if_neg (by omega), if_neg (by omega), if_neg (by omega), if_neg (by omega)]
    rw [e1]
    exact cNameX_w ⟨fun h1 => ⟨fun h2 => by omega, fun _ => rfl⟩, fun _ => rfl⟩
  · have : k = 0 ∨ k = 1 ∨ k = 2 ∨ k = 3 ∨ k = 4 ∨ k = 5 ∨ k = 6 := by omega
    rcases this with rfl | rfl | rfl | rfl | rfl | rfl | rfl
    · exact cName0_w rfl
    · exact cName1_w rfl
    · exact cName2_w rfl
    · exact cName3_w rfl
    · exact cName4_w rfl
    · exact cName5_w rfl
    · exact cName6_w rfl

theorem cKind (s : ByteArray) : S 22 [.val (.string s)] [] (.tup [I (kindC s).1, I (kindC s).2]) [] :=
  cKind_w ⟨fun h0 => by simp only [kindC, h0, if_true, if_false, Bool.false_eq_true], fun h0 => ⟨fun h1 => by simp only [kindC, h0, h1, if_true, if_false, Bool.false_eq_true], fun h1 => ⟨fun h2 => by simp only [kindC, h0, h1, h2, if_true, if_false, Bool.false_eq_true], fun h2 => ⟨fun h3 => by simp only [kindC, h0, h1, h2, h3, if_true, if_false, Bool.false_eq_true], fun h3 => ⟨fun h4 => by simp only [kindC, h0, h1, h2, h3, h4, if_true, if_false, Bool.false_eq_true], fun h4 => ⟨fun h5 => by simp only [kindC, h0, h1, h2, h3, h4, h5, if_true, if_false, Bool.false_eq_true], fun h5 => ⟨fun h6 => by simp only [kindC, h0, h1, h2, h3, h4, h5, h6, if_true, if_false, Bool.false_eq_true], fun h6 => by simp only [kindC, h0, h1, h2, h3, h4, h5, h6, if_true, if_false, Bool.false_eq_true]⟩⟩⟩⟩⟩⟩⟩


theorem demurrageref10_Name_w {a1 : Int} {res : SV} (H : (a1 = 0 → (SV.val (.string (⟨#[51, 48, 47, 51, 54, 48]⟩ : ByteArray))) = res) ∧ (a1 ≠ 0 → (a1 = 1 → (SV.val (.string (⟨#[51, 48, 101, 47, 51, 54, 48]⟩ : ByteArray))) = res) ∧ (a1 ≠ 1 → (a1 = 2 → (SV.val (.string (⟨#[51, 48, 101, 47, 51, 54, 48, 105, 115, 100, 97]⟩ : ByteArray))) = res) ∧ (a1 ≠ 2 → (a1 = 3 → (SV.val (.string (⟨#[97, 99, 116, 47, 51, 54, 48]⟩ : ByteArray))) = res) ∧ (a1 ≠ 3 → (a1 = 4 → (SV.val (.string (⟨#[97, 99, 116, 47, 51, 54, 53, 102]⟩ : ByteArray))) = res) ∧ (a1 ≠ 4 → (a1 = 5 → (SV.val (.string (⟨#[97, 99, 116, 47, 97, 99, 116]⟩ : ByteArray))) = res) ∧ (a1 ≠ 5 → (a1 = 6 → (SV.val (.string (⟨#[97, 99, 116, 47, 97, 99, 116, 105, 99, 109, 97]⟩ : ByteArray))) = res) ∧ (a1 ≠ 6 → (SV.val (.string (⟨#[]⟩ : ByteArray))) = res)))))))) :
    S 25 [I a1] [] res [] := by
  refine SCall.st fun X hX => ?_
  obtain ⟨H1, H2⟩ := H
  by_cases h0 : a1 = 0
  · obtain rfl := H1 h0
    exact hX.e [t_ (beq_iff_eq.2 h0)]
  · obtain ⟨H1, H2⟩ := H2 h0
    refine hX.go [f_ (beq_eq_false_iff_ne.2 h0)] ?_
    by_cases h1 : a1 = 1
    · obtain rfl := H1 h1
      exact hX.e [t_ (beq_iff_eq.2 h1)]
    · obtain ⟨H1, H2⟩ := H2 h1
      refine hX.go [f_ (beq_eq_false_iff_ne.2 h1)] ?_
      by_cases h2 : a1 = 2
      · obtain rfl := H1 h2
        exact hX.e [t_ (beq_iff_eq.2 h2)]
      · obtain ⟨H1, H2⟩ := H2 h2
        refine hX.go [f_ (beq_eq_false_iff_ne.2 h2)] ?_
        by_cases h3 : a1 = 3
        · obtain rfl := H1 h3
          exact hX.e [t_ (beq_iff_eq.2 h3)]
        · obtain ⟨H1, H2⟩ := H2 h3
          refine hX.go [f_ (beq_eq_false_iff_ne.2 h3)] ?_
          by_cases h4 : a1 = 4
          · obtain rfl := H1 h4
            exact hX.e [t_ (beq_iff_eq.2 h4)]
          · obtain ⟨H1, H2⟩ := H2 h4
            refine hX.go [f_ (beq_eq_false_iff_ne.2 h4)] ?_
            by_cases h5 : a1 = 5
            · obtain rfl := H1 h5
              exact hX.e [t_ (beq_iff_eq.2 h5)]
            · obtain ⟨H1, H2⟩ := H2 h5
              refine hX.go [f_ (beq_eq_false_iff_ne.2 h5)] ?_
              by_cases h6 : a1 = 6
              · obtain rfl := H1 h6
                exact hX.e [t_ (beq_iff_eq.2 h6)]
              · obtain rfl := H2 h6
                exact hX.e [f_ (beq_eq_false_iff_ne.2 h6)]

theorem rName (k : Int) : S 25 [I k] [] (.val (.string (nmC k))) [] :=
  demurrageref10_Name_w ⟨fun h0 => by subst h0; rfl, fun h0 => ⟨fun h1 => by subst h1; rfl, fun h1 => ⟨fun h2 => by subst h2; rfl, fun h2 => ⟨fun h3 => by subst h3; rfl, fun h3 => ⟨fun h4 => by subst h4; rfl, fun h4 => ⟨fun h5 => by subst h5; rfl, fun h5 => ⟨fun h6 => by subst h6; rfl, fun h6 => by simp only [nmC, h0, h1, h2, h3, h4, h5, h6, if_true, if_false, Bool.false_eq_true]⟩⟩⟩⟩⟩⟩⟩


theorem demurrageref10_Kind_w {a1 : ByteArray} {res : SV} (H : (((⟨#[51, 48, 47, 51, 54, 48]⟩ : ByteArray).toList == a1.toList) = true → (SV.tup [I 0, I 0]) = res) ∧ (((⟨#[51, 48, 47, 51, 54, 48]⟩ : ByteArray).toList == a1.toList) = false → (((⟨#[51, 48, 101, 47, 51, 54, 48]⟩ : ByteArray).toList == a1.toList) = true → (SV.tup [I 1, I 0]) = res) ∧ (((⟨#[51, 48, 101, 47, 51, 54, 48]⟩ : ByteArray).toList == a1.toList) = false → (((⟨#[51, 48, 101, 47, 51, 54, 48, 105, 115, 100, 97]⟩ : ByteArray).toList == a1.toList) = true → (SV.tup [I 2, I 0]) = res) ∧ (((⟨#[51, 48, 101, 47, 51, 54, 48, 105, 115, 100, 97]⟩ : ByteArray).toList == a1.toList) = false → (((⟨#[97, 99, 116, 47, 51, 54, 48]⟩ : ByteArray).toList == a1.toList) = true → (SV.tup [I 3, I 0]) = res) ∧ (((⟨#[97, 99, 116, 47, 51, 54, 48]⟩ : ByteArray).toList == a1.toList) = false → (((⟨#[97, 99, 116, 47, 51, 54, 53, 102]⟩ : ByteArray).toList == a1.toList) = true → (SV.tup [I 4, I 0]) = res) ∧ (((⟨#[97, 99, 116, 47, 51, 54, 53, 102]⟩ : ByteArray).toList == a1.toList) = false → (((⟨#[97, 99, 116, 47, 97, 99, 116]⟩ : ByteArray).toList == a1.toList) = true → (SV.tup [I 5, I 0]) = res) ∧ (((⟨#[97, 99, 116, 47, 97, 99, 116]⟩ : ByteArray).toList == a1.toList) = false → (((⟨#[97, 99, 116, 47, 97, 99, 116, 105, 99, 109, 97]⟩ : ByteArray).toList == a1.toList) = true → (SV.tup [I 6, I 0]) = res) ∧ (((⟨#[97, 99, 116, 47, 97, 99, 116, 105, 99, 109, 97]⟩ : ByteArray).toList == a1.toList) = false → (SV.tup [I 0, I 10]) = res)))))))) :
    S 23 [.val (.string a1)] [] res [] := by
  refine SCall.st fun X hX => ?_
  obtain ⟨H1, H2⟩ := H
  refine hX.go [t_ rt, i_, t_ rt] ?_
  rcases bcase ((⟨#[51, 48, 47, 51, 54, 48]⟩ : ByteArray).toList == a1.toList) with h0 | h0
  · obtain rfl := H1 h0
    exact hX.e [t_ h0]
  · obtain ⟨H1, H2⟩ := H2 h0
    refine hX.go [f_ h0, q_ (show Ir 1 from by decide), t_ rt, i_, f_ rf, t_ rt] ?_
    rcases bcase ((⟨#[51, 48, 101, 47, 51, 54, 48]⟩ : ByteArray).toList == a1.toList) with h1 | h1
    · obtain rfl := H1 h1
      exact hX.e [t_ h1]
    · obtain ⟨H1, H2⟩ := H2 h1
      refine hX.go [f_ h1, q_ (show Ir 2 from by decide), t_ rt, i_, f_ rf, f_ rf, t_ rt] ?_
      rcases bcase ((⟨#[51, 48, 101, 47, 51, 54, 48, 105, 115, 100, 97]⟩ : ByteArray).toList == a1.toList) with h2 | h2
      · obtain rfl := H1 h2
        exact hX.e [t_ h2]
      · obtain ⟨H1, H2⟩ := H2 h2
        refine hX.go [f_ h2, q_ (show Ir 3 from by decide), t_ rt, i_, f_ rf, f_ rf, f_ rf, t_ rt] ?_
        rcases bcase ((⟨#[97, 99, 116, 47, 51, 54, 48]⟩ : ByteArray).toList == a1.toList) with h3 | h3
        · obtain rfl := H1 h3
          exact hX.e [t_ h3]
        · obtain ⟨H1, H2⟩ := H2 h3
          refine hX.go [f_ h3, q_ (show Ir 4 from by decide), t_ rt, i_, f_ rf, f_ rf, f_ rf, f_ rf, t_ rt] ?_
          rcases bcase ((⟨#[97, 99, 116, 47, 51, 54, 53, 102]⟩ : ByteArray).toList == a1.toList) with h4 | h4
          · obtain rfl := H1 h4
            exact hX.e [t_ h4]
          · obtain ⟨H1, H2⟩ := H2 h4
            refine hX.go [f_ h4, q_ (show Ir 5 from by decide), t_ rt, i_, f_ rf, f_ rf, f_ rf, f_ rf, f_ rf, t_ rt] ?_
            rcases bcase ((⟨#[97, 99, 116, 47, 97, 99, 116]⟩ : ByteArray).toList == a1.toList) with h5 | h5
            · obtain rfl := H1 h5
              exact hX.e [t_ h5]
            · obtain ⟨H1, H2⟩ := H2 h5
              refine hX.go [f_ h5, q_ (show Ir 6 from by decide), t_ rt, i_, f_ rf, f_ rf, f_ rf, f_ rf, f_ rf, f_ rf, t_ rt] ?_
              rcases bcase ((⟨#[97, 99, 116, 47, 97, 99, 116, 105, 99, 109, 97]⟩ : ByteArray).toList == a1.toList) with h6 | h6
              · obtain rfl := H1 h6
                exact hX.e [t_ h6]
              · obtain rfl := H2 h6
                exact hX.e [f_ h6, q_ (show Ir 7 from by decide), f_ rf]

theorem rKind (s : ByteArray) : S 23 [.val (.string s)] [] (.tup [I (kindC s).1, I (kindC s).2]) [] :=
  demurrageref10_Kind_w ⟨fun h0 => by simp only [kindC, h0, if_true, if_false, Bool.false_eq_true], fun h0 => ⟨fun h1 => by simp only [kindC, h0, h1, if_true, if_false, Bool.false_eq_true], fun h1 => ⟨fun h2 => by simp only [kindC, h0, h1, h2, if_true, if_false, Bool.false_eq_true], fun h2 => ⟨fun h3 => by simp only [kindC, h0, h1, h2, h3, if_true, if_false, Bool.false_eq_true], fun h3 => ⟨fun h4 => by simp only [kindC, h0, h1, h2, h3, h4, if_true, if_false, Bool.false_eq_true], fun h4 => ⟨fun h5 => by simp only [kindC, h0, h1, h2, h3, h4, h5, if_true, if_false, Bool.false_eq_true], fun h5 => ⟨fun h6 => by simp only [kindC, h0, h1, h2, h3, h4, h5, h6, if_true, if_false, Bool.false_eq_true], fun h6 => by simp only [kindC, h0, h1, h2, h3, h4, h5, h6, if_true, if_false, Bool.false_eq_true]⟩⟩⟩⟩⟩⟩⟩


end Go.Proofs.YtehnnaanpmceiaaGreatDoor
