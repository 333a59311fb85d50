import Derived.Test.YtokfihhdllmbmaaGreatDoorRows
import Derived.JoinedCond
import Derived.KernelRfl
import Derived.Test.YtokfihhdllmbmaaGreatDoorValE
set_option linter.unusedVariables false
set_option linter.unusedSimpArgs false
namespace Go.Proofs.YtokfihhdllmbmaaGreatDoor
open Go
set_option maxRecDepth 100000
theorem sdpValid_closed : joinedFacts Tryz.pinned.checked.prog 3 Tryz.f3 (Rows.OpenSpec.upto Rows.sdpValidSpec).bare Rows.sdpValidUptoRow = true := by kernel_rfl
end Go.Proofs.YtokfihhdllmbmaaGreatDoor
