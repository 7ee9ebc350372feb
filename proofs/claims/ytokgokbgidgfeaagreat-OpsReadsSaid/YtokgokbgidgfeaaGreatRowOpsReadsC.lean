/- What is asked of the program's form for OpsReads holds; no condition. -/
import Derived.Test.YtokgokbgidgfeaaGreatRowOpsReadsL
set_option linter.all false
namespace Go.Proofs.YtokgokbgidgfeaaGreat.opsReads
open Go.ChangeShapes Go.WideShapes Go.ChangeAt Go.RowKit Go.Awp
theorem closed : joinedFacts Tryz.pinned.checked.prog 18 Tryz.f18 Rows.opsReadsSpec Rows.opsReadsRow = true := by kernel_rfl
end Go.Proofs.YtokgokbgidgfeaaGreat.opsReads
