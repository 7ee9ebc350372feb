/- What is asked of the program's form for OpsEmpties holds; no condition. -/
import Derived.Test.YtokgokbgidgfeaaGreatRowOpsEmptiesL
set_option linter.all false
namespace Go.Proofs.YtokgokbgidgfeaaGreat.opsEmpties
open Go.ChangeShapes Go.WideShapes Go.ChangeAt Go.RowKit Go.Awp
theorem closed : joinedFacts Tryz.pinned.checked.prog 15 Tryz.f15 Rows.opsEmptiesSpec Rows.opsEmptiesRow = true := by kernel_rfl
end Go.Proofs.YtokgokbgidgfeaaGreat.opsEmpties
