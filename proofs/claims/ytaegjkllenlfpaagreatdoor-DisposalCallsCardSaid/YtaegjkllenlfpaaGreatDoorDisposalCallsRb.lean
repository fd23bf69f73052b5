/- The law DisposalCalls: the row. -/
import Derived.Test.YtaegjkllenlfpaaGreatDoorDisposalCallsRa
import Derived.Test.YtaegjkllenlfpaaGreatDoorDisposalCallsJ1
import Derived.Test.YtaegjkllenlfpaaGreatDoorDisposalCallsJ2
import Derived.Test.YtaegjkllenlfpaaGreatDoorDisposalCallsJ3
import Derived.Test.YtaegjkllenlfpaaGreatDoorDisposalCallsJ4
namespace Go.Proofs.YtaegjkllenlfpaaGreatDoor.disposalCalls
open Go.ChangeShapes Go.WideShapes Go.ChangeAt Go.RowKit Go.Deep Go.Joins

theorem closed : joinedFacts Tryz.pinned.checked.prog 6 Tryz.f6 (OpenSpec.ofChange Rows.disposalCallsSpec).bare Rows.disposalCallsRow = true := by
  unfold joinedFacts
  rw [j_inPlace, j_unfollowed, j_recurses, j_named]
  kernel_rfl
theorem said : Rows.DisposalCallsSaid :=
  OpenClaim.holds_of_cond 6 Tryz.f6 rfl rfl rfl rfl rfl rfl rfl ⟨rfl, rfl, rfl, rfl, rfl⟩ rfl rfl rfl rfl rfl (by kernel_rfl) Tryz.func6 closed
    (of_decide_eq_true (by kernel_rfl)) (by unfold Func.isWrapper; first | (rw [if_pos (by decide +kernel)]; kernel_rfl) | (rw [if_neg (by decide +kernel)]; exact ⟨rfl, rfl⟩))
    (fun os started H enc _ F => by rw [OpenClaim.pre_eq_preRow]; exact lifted os started H enc F)
end Go.Proofs.YtaegjkllenlfpaaGreatDoor.disposalCalls
