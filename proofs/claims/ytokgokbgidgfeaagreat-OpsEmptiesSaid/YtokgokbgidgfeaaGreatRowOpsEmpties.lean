/- The statement OpsEmpties holds: for every argument the law returns true and leaves its arguments as they were; no condition. -/
import Derived.Test.YtokgokbgidgfeaaGreatRowOpsEmptiesC
set_option linter.all false
namespace Go.Proofs.YtokgokbgidgfeaaGreat.opsEmpties
open Go.ChangeShapes Go.WideShapes Go.ChangeAt Go.RowKit Go.Awp
theorem over : Rows.opsEmptiesRow.holds Tryz.pinned (OpenSpec.ofChange Rows.opsEmptiesSpec) :=
 OpenClaim.holds_of_wide 15 Tryz.f15 rfl rfl rfl rfl rfl rfl rfl ⟨rfl, rfl, rfl, rfl, rfl⟩ rfl rfl rfl rfl rfl (by kernel_rfl) Tryz.func15 closed
  (of_decide_eq_true (by kernel_rfl)) (by unfold Func.isWrapper; first | (rw [if_pos (by decide +kernel)]; kernel_rfl) | (rw [if_neg (by decide +kernel)]; exact ⟨rfl, rfl⟩))
  (fun os started H enc _ => lifted os started H enc)
end Go.Proofs.YtokgokbgidgfeaaGreat.opsEmpties
namespace Go.Proofs.YtokgokbgidgfeaaGreat
theorem opsEmpties_holds : Rows.OpsEmptiesSaid := opsEmpties.over
end Go.Proofs.YtokgokbgidgfeaaGreat
