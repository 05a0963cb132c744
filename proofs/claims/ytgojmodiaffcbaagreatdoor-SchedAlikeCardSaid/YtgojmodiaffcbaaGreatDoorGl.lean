/-
  What lies in the package variables that are read; short words.
-/
import Derived.Test.YtgojmodiaffcbaaGreatDoorSC
import Derived.Test.YtgojmodiaffcbaaGreatDoorProg
set_option linter.unusedVariables false
set_option maxRecDepth 100000
namespace Go.Proofs.YtgojmodiaffcbaaGreatDoor
open Go Go.Sx
/-- What is not fixed of the package variables: where the errors of layer 8 lie; what else is told. -/
class Env where
  n0 : Addr
  n1 : Addr
  ne : n0 ≠ n1
  more : List (Nat × Vw)
variable [Env]
def lens (i : Nat) : Int := [0, 31, 28, 31, 30, 31, 30, 31, 31, 30, 31, 30, 31].getD i 0
/-- An error of errors.New's make. -/
abbrev errS (a : Addr) : Value := .iface 265 (.pointer (some a))
/-- What lies in the package variables that are read; the errors' own cells are unfrozen. -/
def GL [Env] : List (Nat × Vw) := [(2, .row false 3 13 1 (fun i => [I (lens i)])), (1, .box false [.val (.iface 206 (.agg #[.pointer (some ⟨9, 147, none⟩)]))]),
  (5, .box false [.val (errS Env.n0)]), (6, .box false [.val (errS Env.n1)])] ++ (Env.more ++ [(Env.n0.block, .box true []), (Env.n1.block, .box true [])])
abbrev S := SCall Tryz.prog GL
abbrev Fi (X : Cx) := IsFin X Tryz.prog GL
abbrev ri (n : Nat) (g : Nat → Int) : Option Vw := some (.row false 3 n 1 (fun i => [I (g i)]))
abbrev ro (n : Nat) (g : Nat → Int) : Option Vw := some (.row true 3 n 1 (fun i => [I (g i)]))
end Go.Proofs.YtgojmodiaffcbaaGreatDoor
