/- What is asked of the program's form for PlaceFinds holds; no condition. -/
import Derived.Test.YtokgokbgidgfeaaGreatRowPlaceFindsL
set_option linter.all false
namespace Go.Proofs.YtokgokbgidgfeaaGreat.placeFinds
open Go.ChangeShapes Go.WideShapes Go.ChangeAt Go.RowKit Go.Awp
theorem closed : joinedFacts Tryz.pinned.checked.prog 4 Tryz.f4 Rows.placeFindsSpec Rows.placeFindsRow = true := by kernel_rfl
end Go.Proofs.YtokgokbgidgfeaaGreat.placeFinds
