import Derived.Test.YtfajmfoofmienaaGreatDoorRows
import Derived.JoinedCond
import Derived.KernelRfl
import Derived.Test.YtfajmfoofmienaaGreatDoorDuaF
open Go.OpenSpec renaming ofChange→G3
set_option maxHeartbeats 8000000
set_option linter.unusedVariables false
set_option linter.unusedSimpArgs false
namespace Go.Proofs.YtfajmfoofmienaaGreatDoor
open Go
section
set_option maxRecDepth 100000
theorem pa:joinedFacts Tryz.pinned.checked.prog 5 Tryz.f5 (G3 Rows.sdpDualitySpec).bare Rows.sdpDualityRow=true:=by kernel_rfl
end
end Go.Proofs.YtfajmfoofmienaaGreatDoor
