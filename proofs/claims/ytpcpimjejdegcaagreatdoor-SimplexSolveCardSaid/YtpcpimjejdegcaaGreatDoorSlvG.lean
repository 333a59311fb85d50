import Derived.Test.YtpcpimjejdegcaaGreatDoorRows
import Derived.JoinedCond
import Derived.KernelRfl
import Derived.Test.YtpcpimjejdegcaaGreatDoorSlvF
open Bool renaming true→φ
set_option linter.defProp false
set_option maxHeartbeats 8000000
set_option linter.unusedVariables false
set_option linter.unusedSimpArgs false
namespace Go.Proofs.YtpcpimjejdegcaaGreatDoor
open Go
section
set_option maxRecDepth 100000
def simplexSolve_closed:joinedFacts Tryz.pinned.checked.prog 3 Tryz.f3 (OpenSpec.ofChange Rows.simplexSolveSpec).bare Rows.simplexSolveRow=φ:=by kernel_rfl
end
end Go.Proofs.YtpcpimjejdegcaaGreatDoor
