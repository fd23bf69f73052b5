/- The law DisposalKeeps: the row. -/
import Derived.Test.YtaegjkllenlfpaaGreatDoorDisposalKeepsRa
import Derived.Test.YtaegjkllenlfpaaGreatDoorDisposalKeepsJ1
import Derived.Test.YtaegjkllenlfpaaGreatDoorDisposalKeepsJ2
import Derived.Test.YtaegjkllenlfpaaGreatDoorDisposalKeepsJ3
import Derived.Test.YtaegjkllenlfpaaGreatDoorDisposalKeepsJ4
namespace Go.Proofs.YtaegjkllenlfpaaGreatDoor.disposalKeeps
open Go.ChangeShapes Go.WideShapes Go.ChangeAt Go.RowKit Go.Deep Go.Joins

theorem closed : joinedFacts Tryz.pinned.checked.prog 3 Tryz.f3 (OpenSpec.ofChange Rows.disposalKeepsSpec).bare Rows.disposalKeepsRow = true := by
  unfold joinedFacts
  rw [j_inPlace, j_unfollowed, j_recurses, j_named]
  kernel_rfl
theorem said : Rows.DisposalKeepsSaid :=
  OpenClaim.holds_of_cond 3 Tryz.f3 rfl rfl rfl rfl rfl rfl rfl ⟨rfl, rfl, rfl, rfl, rfl⟩ rfl rfl rfl rfl rfl (by kernel_rfl) Tryz.func3 closed
    (of_decide_eq_true (by kernel_rfl)) (by unfold Func.isWrapper; first | (rw [if_pos (by decide +kernel)]; kernel_rfl) | (rw [if_neg (by decide +kernel)]; exact ⟨rfl, rfl⟩))
    (fun os started H enc _ F => by rw [OpenClaim.pre_eq_preRow]; exact lifted os started H enc F)
end Go.Proofs.YtaegjkllenlfpaaGreatDoor.disposalKeeps
