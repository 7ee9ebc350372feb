/- The statement OpsMeans holds: for every argument the law returns true and leaves its arguments as they were; no condition. -/
import Derived.Test.YtokgokbgidgfeaaGreatRowOpsMeansC
set_option linter.all false
namespace Go.Proofs.YtokgokbgidgfeaaGreat.opsMeans
open Go.ChangeShapes Go.WideShapes Go.ChangeAt Go.RowKit Go.Awp
theorem over : Rows.opsMeansRow.holds Tryz.pinned (OpenSpec.ofChange Rows.opsMeansSpec) :=
 OpenClaim.holds_of_wide 16 Tryz.f16 rfl rfl rfl rfl rfl rfl rfl ⟨rfl, rfl, rfl, rfl, rfl⟩ rfl rfl rfl rfl rfl (by kernel_rfl) Tryz.func16 closed
  (of_decide_eq_true (by kernel_rfl)) (by unfold Func.isWrapper; first | (rw [if_pos (by decide +kernel)]; kernel_rfl) | (rw [if_neg (by decide +kernel)]; exact ⟨rfl, rfl⟩))
  (fun os started H enc _ => lifted os started H enc)
end Go.Proofs.YtokgokbgidgfeaaGreat.opsMeans
namespace Go.Proofs.YtokgokbgidgfeaaGreat
theorem opsMeans_holds : Rows.OpsMeansSaid := opsMeans.over
end Go.Proofs.YtokgokbgidgfeaaGreat
