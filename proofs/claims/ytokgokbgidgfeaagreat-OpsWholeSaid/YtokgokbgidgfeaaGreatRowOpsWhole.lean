/- The statement OpsWhole holds: for every argument the law returns true and leaves its arguments as they were; no condition. -/
import Derived.Test.YtokgokbgidgfeaaGreatRowOpsWholeC
set_option linter.all false
namespace Go.Proofs.YtokgokbgidgfeaaGreat.opsWhole
open Go.ChangeShapes Go.WideShapes Go.ChangeAt Go.RowKit Go.Awp
theorem over : Rows.opsWholeRow.holds Tryz.pinned (OpenSpec.ofChange Rows.opsWholeSpec) :=
 OpenClaim.holds_of_wide 17 Tryz.f17 rfl rfl rfl rfl rfl rfl rfl ⟨rfl, rfl, rfl, rfl, rfl⟩ rfl rfl rfl rfl rfl (by kernel_rfl) Tryz.func17 closed
  (of_decide_eq_true (by kernel_rfl)) (by unfold Func.isWrapper; first | (rw [if_pos (by decide +kernel)]; kernel_rfl) | (rw [if_neg (by decide +kernel)]; exact ⟨rfl, rfl⟩))
  (fun os started H enc _ => lifted os started H enc)
end Go.Proofs.YtokgokbgidgfeaaGreat.opsWhole
namespace Go.Proofs.YtokgokbgidgfeaaGreat
theorem opsWhole_holds : Rows.OpsWholeSaid := opsWhole.over
end Go.Proofs.YtokgokbgidgfeaaGreat
