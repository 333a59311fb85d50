import Derived.Test.YtokfihhdllmbmaaGreatDoorRows
import Derived.JoinedOf
import Derived.KernelRfl
import Derived.Test.YtokfihhdllmbmaaGreatDoorSelE
set_option linter.unusedVariables false
set_option linter.unusedSimpArgs false
namespace Go.Proofs.YtokfihhdllmbmaaGreatDoor
open Go
set_option maxRecDepth 100000
theorem sdpSelects_closed : joinedFacts Tryz.pinned.checked.prog 6 Tryz.f6 Rows.sdpSelectsSpec Rows.sdpSelectsRow = true := by kernel_rfl
end Go.Proofs.YtokfihhdllmbmaaGreatDoor
