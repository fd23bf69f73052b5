/- The law DisposalSums: the row. -/
import Derived.Test.YtaegjkllenlfpaaGreatDoorDisposalSumsRa
import Derived.Test.YtaegjkllenlfpaaGreatDoorDisposalSumsJ1
import Derived.Test.YtaegjkllenlfpaaGreatDoorDisposalSumsJ2
import Derived.Test.YtaegjkllenlfpaaGreatDoorDisposalSumsJ3
import Derived.Test.YtaegjkllenlfpaaGreatDoorDisposalSumsJ4
namespace Go.Proofs.YtaegjkllenlfpaaGreatDoor.disposalSums
open Go.ChangeShapes Go.WideShapes Go.ChangeAt Go.RowKit Go.Deep Go.Joins

theorem closed : joinedFacts Tryz.pinned.checked.prog 8 Tryz.f8 (OpenSpec.ofChange Rows.disposalSumsSpec).bare Rows.disposalSumsRow = true := by
  unfold joinedFacts
  rw [j_inPlace, j_unfollowed, j_recurses, j_named]
  kernel_rfl
theorem said : Rows.DisposalSumsSaid :=
  OpenClaim.holds_of_cond 8 Tryz.f8 rfl rfl rfl rfl rfl rfl rfl ⟨rfl, rfl, rfl, rfl, rfl⟩ rfl rfl rfl rfl rfl (by kernel_rfl) Tryz.func8 closed
    (of_decide_eq_true (by kernel_rfl)) (by unfold Func.isWrapper; first | (rw [if_pos (by decide +kernel)]; kernel_rfl) | (rw [if_neg (by decide +kernel)]; exact ⟨rfl, rfl⟩))
    (fun os started H enc _ F => by rw [OpenClaim.pre_eq_preRow]; exact lifted os started H enc F)
end Go.Proofs.YtaegjkllenlfpaaGreatDoor.disposalSums
