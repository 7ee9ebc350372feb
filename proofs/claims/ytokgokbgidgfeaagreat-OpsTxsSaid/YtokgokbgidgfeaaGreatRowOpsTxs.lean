/- The statement OpsTxs holds: for every argument the law returns true and leaves its arguments as they were; no condition. -/
import Derived.Test.YtokgokbgidgfeaaGreatRowOpsTxsC
set_option linter.all false
namespace Go.Proofs.YtokgokbgidgfeaaGreat.opsTxs
open Go.ChangeShapes Go.WideShapes Go.ChangeAt Go.RowKit Go.aN
theorem over:Rows.opsTxsRow.holds Tryz.pinned (OpenSpec.ofChange Rows.opsTxsSpec):=
 OpenClaim.holds_of_wide 14 Tryz.f14 rfl rfl rfl rfl rfl rfl rfl ⟨rfl,rfl,rfl,rfl,rfl⟩ rfl rfl rfl rfl rfl (by kernel_rfl) Tryz.func14 closed
  (of_decide_eq_true (by kernel_rfl)) (by unfold Func.isWrapper;first|(rw[if_pos (by decide +kernel)];kernel_rfl)|(rw[if_neg (by decide +kernel)];exact⟨rfl,rfl⟩))
  (fun os started H enc _=>lifted os started H enc)
end Go.Proofs.YtokgokbgidgfeaaGreat.opsTxs
namespace Go.Proofs.YtokgokbgidgfeaaGreat
theorem opsTxs_holds:Rows.OpsTxsSaid:=opsTxs.over
end Go.Proofs.YtokgokbgidgfeaaGreat
