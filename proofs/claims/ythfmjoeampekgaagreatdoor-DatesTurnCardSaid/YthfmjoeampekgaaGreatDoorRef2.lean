import Derived.Test.YthfmjoeampekgaaGreatDoorQuo
import Derived.Test.YthfmjoeampekgaaGreatDoorProg
import Derived.KernelRfl
import Derived.Laws.Externs
set_option linter.unusedVariables false
set_option linter.unusedSimpArgs false
set_option linter.unusedSectionVars false
set_option maxRecDepth 100000
namespace Go.Proofs.YthfmjoeampekgaaGreatDoor
open Go Go.Sx
variable [Env]

end Go.Proofs.YthfmjoeampekgaaGreatDoor
