/- The law DisposalParts: the row. -/
import Derived.Test.YtaegjkllenlfpaaGreatDoorDisposalPartsRa
import Derived.Test.YtaegjkllenlfpaaGreatDoorDisposalPartsJ1
import Derived.Test.YtaegjkllenlfpaaGreatDoorDisposalPartsJ2
import Derived.Test.YtaegjkllenlfpaaGreatDoorDisposalPartsJ3
import Derived.Test.YtaegjkllenlfpaaGreatDoorDisposalPartsJ4
namespace Go.Proofs.YtaegjkllenlfpaaGreatDoor.disposalParts
open Go.ChangeShapes Go.WideShapes Go.ChangeAt Go.RowKit Go.Deep Go.Joins

theorem closed : joinedFacts Tryz.pinned.checked.prog 9 Tryz.f9 (OpenSpec.ofChange Rows.disposalPartsSpec).bare Rows.disposalPartsRow = true := by
  unfold joinedFacts
  rw [j_inPlace, j_unfollowed, j_recurses, j_named]
  kernel_rfl
theorem said : Rows.DisposalPartsSaid :=
  OpenClaim.holds_of_cond 9 Tryz.f9 rfl rfl rfl rfl rfl rfl rfl ⟨rfl, rfl, rfl, rfl, rfl⟩ rfl rfl rfl rfl rfl (by kernel_rfl) Tryz.func9 closed
    (of_decide_eq_true (by kernel_rfl)) (by unfold Func.isWrapper; first | (rw [if_pos (by decide +kernel)]; kernel_rfl) | (rw [if_neg (by decide +kernel)]; exact ⟨rfl, rfl⟩))
    (fun os started H enc _ F => by rw [OpenClaim.pre_eq_preRow]; exact lifted os started H enc F)
end Go.Proofs.YtaegjkllenlfpaaGreatDoor.disposalParts
