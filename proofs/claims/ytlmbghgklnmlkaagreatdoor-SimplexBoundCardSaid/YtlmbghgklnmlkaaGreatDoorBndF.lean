import Derived.Test.YtlmbghgklnmlkaaGreatDoorRows
import Derived.JoinedCond
import Derived.KernelRfl
import Derived.Test.YtlmbghgklnmlkaaGreatDoorBndE
set_option maxHeartbeats 8000000
set_option linter.unusedVariables false
set_option linter.unusedSimpArgs false
namespace Go.Proofs.YtlmbghgklnmlkaaGreatDoor
open Go
section
set_option maxRecDepth 100000
theorem simplexBound_closed:joinedFacts Tryz.pinned.checked.prog 5 Tryz.f5 (OpenSpec.ofChange Rows.simplexBoundSpec).bare Rows.simplexBoundRow=true:=by kernel_rfl
end
end Go.Proofs.YtlmbghgklnmlkaaGreatDoor
