import Derived.Test.YtlmbghgklnmlkaaGreatDoorRows
import Derived.JoinedCond
import Derived.KernelRfl
import Derived.Test.YtlmbghgklnmlkaaGreatDoorRawF
set_option linter.unusedVariables false
set_option linter.unusedSimpArgs false
namespace Go.Proofs.YtlmbghgklnmlkaaGreatDoor
open Go
section
set_option maxRecDepth 100000
theorem simplexRaw_closed:joinedFacts Tryz.pinned.checked.prog 3 Tryz.f3 (OpenSpec.ofChange Rows.simplexRawSpec).bare Rows.simplexRawRow=true:=by kernel_rfl
end
end Go.Proofs.YtlmbghgklnmlkaaGreatDoor
