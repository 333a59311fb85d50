import Derived.Test.YtdeaddceicfanaaGreatDoorRows
import Derived.JoinedCond
import Derived.KernelRfl
import Derived.Test.YtdeaddceicfanaaGreatDoorTamF
open Bool renaming true→φ
set_option linter.defProp false
set_option maxHeartbeats 8000000
set_option linter.unusedVariables false
set_option linter.unusedSimpArgs false
namespace Go.Proofs.YtdeaddceicfanaaGreatDoor
open Go
section
set_option maxRecDepth 100000
def simplexTampered_closed:joinedFacts Tryz.pinned.checked.prog 3 Tryz.f3 (OpenSpec.ofChange Rows.simplexTamperedSpec).bare Rows.simplexTamperedRow=φ:=by kernel_rfl
end
end Go.Proofs.YtdeaddceicfanaaGreatDoor
