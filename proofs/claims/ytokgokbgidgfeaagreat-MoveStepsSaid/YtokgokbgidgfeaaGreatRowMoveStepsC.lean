/- What is asked of the program's form for MoveSteps holds; no condition. -/
import Derived.Test.YtokgokbgidgfeaaGreatRowMoveStepsL
set_option linter.all false
namespace Go.Proofs.YtokgokbgidgfeaaGreat.moveSteps
open Go.ChangeShapes Go.WideShapes Go.ChangeAt Go.RowKit Go.Awp
theorem closed : joinedFacts Tryz.pinned.checked.prog 8 Tryz.f8 Rows.moveStepsSpec Rows.moveStepsRow = true := by kernel_rfl
end Go.Proofs.YtokgokbgidgfeaaGreat.moveSteps
