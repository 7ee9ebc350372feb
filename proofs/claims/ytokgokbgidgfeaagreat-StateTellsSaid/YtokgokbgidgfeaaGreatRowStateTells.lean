/- The statement StateTells holds: for every argument the law returns true and leaves its arguments as they were; no condition. -/
import Derived.Test.YtokgokbgidgfeaaGreatRowStateTellsC
set_option linter.all false
namespace Go.Proofs.YtokgokbgidgfeaaGreat.stateTells
open Go.ChangeShapes Go.WideShapes Go.ChangeAt Go.RowKit Go.Awp
theorem over : Rows.stateTellsRow.holds Tryz.pinned (OpenSpec.ofChange Rows.stateTellsSpec) :=
 OpenClaim.holds_of_wide 3 Tryz.f3 rfl rfl rfl rfl rfl rfl rfl ⟨rfl, rfl, rfl, rfl, rfl⟩ rfl rfl rfl rfl rfl (by kernel_rfl) Tryz.func3 closed
  (of_decide_eq_true (by kernel_rfl)) (by unfold Func.isWrapper; first | (rw [if_pos (by decide +kernel)]; kernel_rfl) | (rw [if_neg (by decide +kernel)]; exact ⟨rfl, rfl⟩))
  (fun os started H enc _ => lifted os started H enc)
end Go.Proofs.YtokgokbgidgfeaaGreat.stateTells
namespace Go.Proofs.YtokgokbgidgfeaaGreat
theorem stateTells_holds : Rows.StateTellsSaid := stateTells.over
end Go.Proofs.YtokgokbgidgfeaaGreat
