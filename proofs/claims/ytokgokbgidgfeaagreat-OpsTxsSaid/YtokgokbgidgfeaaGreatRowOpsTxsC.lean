/- What is asked of the program's form for OpsTxs holds; no condition. -/
import Derived.Test.YtokgokbgidgfeaaGreatRowOpsTxsL
set_option linter.all false
namespace Go.Proofs.YtokgokbgidgfeaaGreat.opsTxs
open Go.ChangeShapes Go.WideShapes Go.ChangeAt Go.RowKit Go.aN
theorem closed:joinedFacts Tryz.pinned.checked.prog 14 Tryz.f14 Rows.opsTxsSpec Rows.opsTxsRow=true:=by kernel_rfl
end Go.Proofs.YtokgokbgidgfeaaGreat.opsTxs
