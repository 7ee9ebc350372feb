/- What is asked of the program's form for OpsWhole holds; no condition. -/
import Derived.Test.YtokgokbgidgfeaaGreatRowOpsWholeL
set_option linter.all false
namespace Go.Proofs.YtokgokbgidgfeaaGreat.opsWhole
open Go.ChangeShapes Go.WideShapes Go.ChangeAt Go.RowKit Go.Awp
theorem closed : joinedFacts Tryz.pinned.checked.prog 17 Tryz.f17 Rows.opsWholeSpec Rows.opsWholeRow = true := by kernel_rfl
end Go.Proofs.YtokgokbgidgfeaaGreat.opsWhole
