/- What is asked of the program's form for StateTells holds; no condition. -/
import Derived.Test.YtokgokbgidgfeaaGreatRowStateTellsL
set_option linter.all false
namespace Go.Proofs.YtokgokbgidgfeaaGreat.stateTells
open Go.ChangeShapes Go.WideShapes Go.ChangeAt Go.RowKit Go.Awp
theorem closed : joinedFacts Tryz.pinned.checked.prog 3 Tryz.f3 Rows.stateTellsSpec Rows.stateTellsRow = true := by kernel_rfl
end Go.Proofs.YtokgokbgidgfeaaGreat.stateTells
