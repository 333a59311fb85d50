import Derived.Test.YtfajmfoofmienaaGreatDoorRows
import Derived.JoinedCond
import Derived.KernelRfl
import Derived.Test.YtfajmfoofmienaaGreatDoorSlkF
open Go.OpenSpec renaming ofChange→KJ
set_option maxHeartbeats 8000000
set_option linter.unusedVariables false
set_option linter.unusedSimpArgs false
namespace Go.Proofs.YtfajmfoofmienaaGreatDoor
open Go
section
set_option maxRecDepth 100000
theorem oW:joinedFacts Tryz.pinned.checked.prog 3 Tryz.f3 (KJ Rows.sdpSlacksSpec).bare Rows.sdpSlacksRow=true:=by kernel_rfl
end
end Go.Proofs.YtfajmfoofmienaaGreatDoor
