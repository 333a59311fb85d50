import Derived.Test.YtepkmadmigkgmaaGreatDoorRows
import Derived.JoinedCond
import Derived.KernelRfl
import Derived.Test.YtepkmadmigkgmaaGreatDoorOptF
open Go.OpenSpec renaming ofChange→GF
set_option maxHeartbeats 8000000
set_option linter.unusedVariables false
set_option linter.unusedSimpArgs false
namespace Go.Proofs.YtepkmadmigkgmaaGreatDoor
open Go
section
set_option maxRecDepth 100000
theorem simplexOptimum_closed:joinedFacts Tryz.pinned.checked.prog 5 Tryz.f5 (GF Rows.simplexOptimumSpec).bare Rows.simplexOptimumRow=true:=by kernel_rfl
end
end Go.Proofs.YtepkmadmigkgmaaGreatDoor
