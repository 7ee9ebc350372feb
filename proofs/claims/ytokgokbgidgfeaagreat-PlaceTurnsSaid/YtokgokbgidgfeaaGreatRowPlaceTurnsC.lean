/- What is asked of the program's form for PlaceTurns holds; no condition. -/
import Derived.Test.YtokgokbgidgfeaaGreatRowPlaceTurnsL
set_option linter.all false
namespace Go.Proofs.YtokgokbgidgfeaaGreat.placeTurns
open Go.ChangeShapes Go.WideShapes Go.ChangeAt Go.RowKit Go.Awp
theorem closed : joinedFacts Tryz.pinned.checked.prog 5 Tryz.f5 Rows.placeTurnsSpec Rows.placeTurnsRow = true := by kernel_rfl
end Go.Proofs.YtokgokbgidgfeaaGreat.placeTurns
