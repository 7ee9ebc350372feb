/- What is asked of the program's form for OpsMeans holds; no condition. -/
import Derived.Test.YtokgokbgidgfeaaGreatRowOpsMeansL
set_option linter.all false
namespace Go.Proofs.YtokgokbgidgfeaaGreat.opsMeans
open Go.ChangeShapes Go.WideShapes Go.ChangeAt Go.RowKit Go.Awp
theorem closed : joinedFacts Tryz.pinned.checked.prog 16 Tryz.f16 Rows.opsMeansSpec Rows.opsMeansRow = true := by kernel_rfl
end Go.Proofs.YtokgokbgidgfeaaGreat.opsMeans
