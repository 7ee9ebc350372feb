/- What is asked of the program's form for OpsDoes holds; no condition. -/
import Derived.Test.YtokgokbgidgfeaaGreatRowOpsDoesL
set_option linter.all false
namespace Go.Proofs.YtokgokbgidgfeaaGreat.opsDoes
open Go.ChangeShapes Go.WideShapes Go.ChangeAt Go.RowKit Go.aN
theorem closed:joinedFacts Tryz.pinned.checked.prog 13 Tryz.f13 Rows.opsDoesSpec Rows.opsDoesRow=true:=by kernel_rfl
end Go.Proofs.YtokgokbgidgfeaaGreat.opsDoes
