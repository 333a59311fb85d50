import Derived.Test.YtlmbghgklnmlkaaGreatDoorRows
import Derived.JoinedCond
import Derived.KernelRfl
import Derived.Test.YtlmbghgklnmlkaaGreatDoorChkF
set_option maxHeartbeats 8000000
set_option linter.unusedVariables false
set_option linter.unusedSimpArgs false
namespace Go.Proofs.YtlmbghgklnmlkaaGreatDoor
open Go
section
set_option maxRecDepth 100000
theorem simplexCheck_closed:joinedFacts Tryz.pinned.checked.prog 4 Tryz.f4 (OpenSpec.ofChange Rows.simplexCheckSpec).bare Rows.simplexCheckRow=true:=by kernel_rfl
end
end Go.Proofs.YtlmbghgklnmlkaaGreatDoor
