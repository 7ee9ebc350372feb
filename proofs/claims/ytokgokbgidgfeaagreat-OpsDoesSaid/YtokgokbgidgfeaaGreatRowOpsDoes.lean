/- The statement OpsDoes holds: for every argument the law returns true and leaves its arguments as they were; no condition. -/
import Derived.Test.YtokgokbgidgfeaaGreatRowOpsDoesC
set_option linter.all false
namespace Go.Proofs.YtokgokbgidgfeaaGreat.opsDoes
open Go.ChangeShapes Go.WideShapes Go.ChangeAt Go.RowKit Go.aN
theorem over:Rows.opsDoesRow.holds Tryz.pinned (OpenSpec.ofChange Rows.opsDoesSpec):=
 OpenClaim.holds_of_wide 13 Tryz.f13 rfl rfl rfl rfl rfl rfl rfl ⟨rfl,rfl,rfl,rfl,rfl⟩ rfl rfl rfl rfl rfl (by kernel_rfl) Tryz.func13 closed
  (of_decide_eq_true (by kernel_rfl)) (by unfold Func.isWrapper;first|(rw[if_pos (by decide +kernel)];kernel_rfl)|(rw[if_neg (by decide +kernel)];exact⟨rfl,rfl⟩))
  (fun os started H enc _=>lifted os started H enc)
end Go.Proofs.YtokgokbgidgfeaaGreat.opsDoes
namespace Go.Proofs.YtokgokbgidgfeaaGreat
theorem opsDoes_holds:Rows.OpsDoesSaid:=opsDoes.over
end Go.Proofs.YtokgokbgidgfeaaGreat
