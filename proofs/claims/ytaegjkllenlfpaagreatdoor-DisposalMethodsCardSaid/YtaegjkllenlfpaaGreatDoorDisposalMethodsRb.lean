/- The law DisposalMethods: the row. -/
import Derived.Test.YtaegjkllenlfpaaGreatDoorDisposalMethodsRa
import Derived.Test.YtaegjkllenlfpaaGreatDoorDisposalMethodsJ1
import Derived.Test.YtaegjkllenlfpaaGreatDoorDisposalMethodsJ2
import Derived.Test.YtaegjkllenlfpaaGreatDoorDisposalMethodsJ3
import Derived.Test.YtaegjkllenlfpaaGreatDoorDisposalMethodsJ4
namespace Go.Proofs.YtaegjkllenlfpaaGreatDoor.disposalMethods
open Go.ChangeShapes Go.WideShapes Go.ChangeAt Go.RowKit Go.Deep Go.Joins

theorem closed : joinedFacts Tryz.pinned.checked.prog 4 Tryz.f4 (OpenSpec.ofChange Rows.disposalMethodsSpec).bare Rows.disposalMethodsRow = true := by
  unfold joinedFacts
  rw [j_inPlace, j_unfollowed, j_recurses, j_named]
  kernel_rfl
theorem said : Rows.DisposalMethodsSaid :=
  OpenClaim.holds_of_cond 4 Tryz.f4 rfl rfl rfl rfl rfl rfl rfl ⟨rfl, rfl, rfl, rfl, rfl⟩ rfl rfl rfl rfl rfl (by kernel_rfl) Tryz.func4 closed
    (of_decide_eq_true (by kernel_rfl)) (by unfold Func.isWrapper; first | (rw [if_pos (by decide +kernel)]; kernel_rfl) | (rw [if_neg (by decide +kernel)]; exact ⟨rfl, rfl⟩))
    (fun os started H enc _ F => by rw [OpenClaim.pre_eq_preRow]; exact lifted os started H enc F)
end Go.Proofs.YtaegjkllenlfpaaGreatDoor.disposalMethods
