import Derived.Test.YtdcfbgmbaniglaaGreatDoorRows
import Derived.JoinedCond
import Derived.KernelRfl
import Derived.Test.YtdcfbgmbaniglaaGreatDoorExtF
set_option maxHeartbeats 8000000
set_option linter.unusedVariables false
set_option linter.unusedSimpArgs false
namespace Go.Proofs.YtdcfbgmbaniglaaGreatDoor
open Go
section
set_option maxRecDepth 100000
theorem simplexExtreme_closed:joinedFacts Tryz.pinned.checked.prog 3 Tryz.f3 (OpenSpec.ofChange Rows.simplexExtremeSpec).bare Rows.simplexExtremeRow=true:=by kernel_rfl
end
end Go.Proofs.YtdcfbgmbaniglaaGreatDoor
