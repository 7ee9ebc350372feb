/- The statement PlaceFinds holds: for every argument the law returns true and leaves its arguments as they were; no condition. -/
import Derived.Test.YtokgokbgidgfeaaGreatRowPlaceFindsC
set_option linter.all false
namespace Go.Proofs.YtokgokbgidgfeaaGreat.placeFinds
open Go.ChangeShapes Go.WideShapes Go.ChangeAt Go.RowKit Go.Awp
theorem over : Rows.placeFindsRow.holds Tryz.pinned (OpenSpec.ofChange Rows.placeFindsSpec) :=
 OpenClaim.holds_of_wide 4 Tryz.f4 rfl rfl rfl rfl rfl rfl rfl ⟨rfl, rfl, rfl, rfl, rfl⟩ rfl rfl rfl rfl rfl (by kernel_rfl) Tryz.func4 closed
  (of_decide_eq_true (by kernel_rfl)) (by unfold Func.isWrapper; first | (rw [if_pos (by decide +kernel)]; kernel_rfl) | (rw [if_neg (by decide +kernel)]; exact ⟨rfl, rfl⟩))
  (fun os started H enc _ => lifted os started H enc)
end Go.Proofs.YtokgokbgidgfeaaGreat.placeFinds
namespace Go.Proofs.YtokgokbgidgfeaaGreat
theorem placeFinds_holds : Rows.PlaceFindsSaid := placeFinds.over
end Go.Proofs.YtokgokbgidgfeaaGreat
