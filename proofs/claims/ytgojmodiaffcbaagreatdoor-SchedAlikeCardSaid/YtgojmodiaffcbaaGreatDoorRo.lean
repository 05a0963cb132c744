/-
  A loan's days, as the reference finds them (chapter 16).
-/
import Derived.Test.YtgojmodiaffcbaaGreatDoorDo
import Derived.Test.YtgojmodiaffcbaaGreatDoorGe
import Derived.Test.YtgojmodiaffcbaaGreatDoorProg
import Derived.KernelRfl
set_option linter.unusedVariables false
set_option linter.unusedSimpArgs false
set_option linter.unusedSectionVars false
set_option maxRecDepth 100000
namespace Go.Proofs.YtgojmodiaffcbaaGreatDoor
open Go Go.Sx
variable [EnvT]
end Go.Proofs.YtgojmodiaffcbaaGreatDoor
