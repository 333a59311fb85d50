import Derived.Test.YtokfihhdllmbmaaGreatDoorRows
import Derived.JoinedOf
import Derived.KernelRfl
import Derived.Test.YtokfihhdllmbmaaGreatDoorSpoF
set_option linter.unusedVariables false
set_option linter.unusedSimpArgs false
namespace Go.Proofs.YtokfihhdllmbmaaGreatDoor
open Go
set_option maxRecDepth 100000
theorem sdpSpoilt_closed : joinedFacts Tryz.pinned.checked.prog 4 Tryz.f4 Rows.sdpSpoiltSpec Rows.sdpSpoiltRow = true := by kernel_rfl
end Go.Proofs.YtokfihhdllmbmaaGreatDoor
