/- The statement MoveEnds holds: for every argument the law returns true and leaves its arguments as they were; no condition. -/
import Derived.Test.YtokgokbgidgfeaaGreatRowMoveEndsC
set_option linter.all false
namespace Go.Proofs.YtokgokbgidgfeaaGreat.moveEnds
open Go.ChangeShapes Go.WideShapes Go.ChangeAt Go.RowKit Go.Awp
theorem over : Rows.moveEndsRow.holds Tryz.pinned (OpenSpec.ofChange Rows.moveEndsSpec) :=
 OpenClaim.holds_of_wide 6 Tryz.f6 rfl rfl rfl rfl rfl rfl rfl ⟨rfl, rfl, rfl, rfl, rfl⟩ rfl rfl rfl rfl rfl (by kernel_rfl) Tryz.func6 closed
  (of_decide_eq_true (by kernel_rfl)) (by unfold Func.isWrapper; first | (rw [if_pos (by decide +kernel)]; kernel_rfl) | (rw [if_neg (by decide +kernel)]; exact ⟨rfl, rfl⟩))
  (fun os started H enc _ => lifted os started H enc)
end Go.Proofs.YtokgokbgidgfeaaGreat.moveEnds
namespace Go.Proofs.YtokgokbgidgfeaaGreat
theorem moveEnds_holds : Rows.MoveEndsSaid := moveEnds.over
end Go.Proofs.YtokgokbgidgfeaaGreat
