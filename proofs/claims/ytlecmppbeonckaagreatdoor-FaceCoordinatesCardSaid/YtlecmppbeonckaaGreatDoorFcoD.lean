import Derived.Test.YtlecmppbeonckaaGreatDoorRows
import Derived.JoinedCond
import Derived.KernelRfl
import Derived.Test.YtlecmppbeonckaaGreatDoorFcoC
set_option maxHeartbeats 8000000
set_option linter.unusedVariables false
set_option linter.unusedSimpArgs false
namespace Go.Proofs.YtlecmppbeonckaaGreatDoor
open Go
section
set_option maxRecDepth 100000
theorem y8:joinedFacts Tryz.pinned.checked.prog 3 Tryz.f3 (OpenSpec.ofChange Rows.faceCoordinatesSpec).bare Rows.faceCoordinatesRow=true:=by kernel_rfl
end
end Go.Proofs.YtlecmppbeonckaaGreatDoor
