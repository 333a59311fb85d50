import Derived.Test.YtfajmfoofmienaaGreatDoorRows
import Derived.JoinedCond
import Derived.KernelRfl
import Derived.Test.YtfajmfoofmienaaGreatDoorValF
set_option maxHeartbeats 8000000
set_option linter.unusedVariables false
set_option linter.unusedSimpArgs false
namespace Go.Proofs.YtfajmfoofmienaaGreatDoor
open Go
section
set_option maxRecDepth 100000
theorem pd:joinedFacts Tryz.pinned.checked.prog 4 Tryz.f4 (OpenSpec.ofChange Rows.sdpValuesSpec).bare Rows.sdpValuesRow=true:=by kernel_rfl
end
end Go.Proofs.YtfajmfoofmienaaGreatDoor
