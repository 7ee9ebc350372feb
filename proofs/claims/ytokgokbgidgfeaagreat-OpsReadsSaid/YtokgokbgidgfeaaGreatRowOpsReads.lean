/- The statement OpsReads holds: for every argument the law returns true and leaves its arguments as they were; no condition. -/
import Derived.Test.YtokgokbgidgfeaaGreatRowOpsReadsC
set_option linter.all false
namespace Go.Proofs.YtokgokbgidgfeaaGreat.opsReads
open Go.ChangeShapes Go.WideShapes Go.ChangeAt Go.RowKit Go.Awp
theorem over : Rows.opsReadsRow.holds Tryz.pinned (OpenSpec.ofChange Rows.opsReadsSpec) :=
 OpenClaim.holds_of_wide 18 Tryz.f18 rfl rfl rfl rfl rfl rfl rfl ⟨rfl, rfl, rfl, rfl, rfl⟩ rfl rfl rfl rfl rfl (by kernel_rfl) Tryz.func18 closed
  (of_decide_eq_true (by kernel_rfl)) (by unfold Func.isWrapper; first | (rw [if_pos (by decide +kernel)]; kernel_rfl) | (rw [if_neg (by decide +kernel)]; exact ⟨rfl, rfl⟩))
  (fun os started H enc _ => lifted os started H enc)
end Go.Proofs.YtokgokbgidgfeaaGreat.opsReads
namespace Go.Proofs.YtokgokbgidgfeaaGreat
theorem opsReads_holds : Rows.OpsReadsSaid := opsReads.over
end Go.Proofs.YtokgokbgidgfeaaGreat
