/- The statement PlaceTurns holds: for every argument the law returns true and leaves its arguments as they were; no condition. -/
import Derived.Test.YtokgokbgidgfeaaGreatRowPlaceTurnsC
set_option linter.all false
namespace Go.Proofs.YtokgokbgidgfeaaGreat.placeTurns
open Go.ChangeShapes Go.WideShapes Go.ChangeAt Go.RowKit Go.Awp
theorem over : Rows.placeTurnsRow.holds Tryz.pinned (OpenSpec.ofChange Rows.placeTurnsSpec) :=
 OpenClaim.holds_of_wide 5 Tryz.f5 rfl rfl rfl rfl rfl rfl rfl ⟨rfl, rfl, rfl, rfl, rfl⟩ rfl rfl rfl rfl rfl (by kernel_rfl) Tryz.func5 closed
  (of_decide_eq_true (by kernel_rfl)) (by unfold Func.isWrapper; first | (rw [if_pos (by decide +kernel)]; kernel_rfl) | (rw [if_neg (by decide +kernel)]; exact ⟨rfl, rfl⟩))
  (fun os started H enc _ => lifted os started H enc)
end Go.Proofs.YtokgokbgidgfeaaGreat.placeTurns
namespace Go.Proofs.YtokgokbgidgfeaaGreat
theorem placeTurns_holds : Rows.PlaceTurnsSaid := placeTurns.over
end Go.Proofs.YtokgokbgidgfeaaGreat
