/- What is asked of the program's form for MoveEnds holds; no condition. -/
import Derived.Test.YtokgokbgidgfeaaGreatRowMoveEndsL
set_option linter.all false
namespace Go.Proofs.YtokgokbgidgfeaaGreat.moveEnds
open Go.ChangeShapes Go.WideShapes Go.ChangeAt Go.RowKit Go.Awp
theorem closed : joinedFacts Tryz.pinned.checked.prog 6 Tryz.f6 Rows.moveEndsSpec Rows.moveEndsRow = true := by kernel_rfl
end Go.Proofs.YtokgokbgidgfeaaGreat.moveEnds
