/- The statement MoveSteps holds: for every argument the law returns true and leaves its arguments as they were; no condition. -/
import Derived.Test.YtokgokbgidgfeaaGreatRowMoveStepsC
set_option linter.all false
namespace Go.Proofs.YtokgokbgidgfeaaGreat.moveSteps
open Go.ChangeShapes Go.WideShapes Go.ChangeAt Go.RowKit Go.Awp
theorem over : Rows.moveStepsRow.holds Tryz.pinned (OpenSpec.ofChange Rows.moveStepsSpec) :=
 OpenClaim.holds_of_wide 8 Tryz.f8 rfl rfl rfl rfl rfl rfl rfl ⟨rfl, rfl, rfl, rfl, rfl⟩ rfl rfl rfl rfl rfl (by kernel_rfl) Tryz.func8 closed
  (of_decide_eq_true (by kernel_rfl)) (by unfold Func.isWrapper; first | (rw [if_pos (by decide +kernel)]; kernel_rfl) | (rw [if_neg (by decide +kernel)]; exact ⟨rfl, rfl⟩))
  (fun os started H enc _ => lifted os started H enc)
end Go.Proofs.YtokgokbgidgfeaaGreat.moveSteps
namespace Go.Proofs.YtokgokbgidgfeaaGreat
theorem moveSteps_holds : Rows.MoveStepsSaid := moveSteps.over
end Go.Proofs.YtokgokbgidgfeaaGreat
