/- The law DisposalGains: the row. -/
import Derived.Test.YtaegjkllenlfpaaGreatDoorDisposalGainsRa
import Derived.Test.YtaegjkllenlfpaaGreatDoorDisposalGainsJ1
import Derived.Test.YtaegjkllenlfpaaGreatDoorDisposalGainsJ2
import Derived.Test.YtaegjkllenlfpaaGreatDoorDisposalGainsJ3
import Derived.Test.YtaegjkllenlfpaaGreatDoorDisposalGainsJ4
namespace Go.Proofs.YtaegjkllenlfpaaGreatDoor.disposalGains
open Go.ChangeShapes Go.WideShapes Go.ChangeAt Go.RowKit Go.Deep Go.Joins

theorem closed : joinedFacts Tryz.pinned.checked.prog 7 Tryz.f7 (OpenSpec.ofChange Rows.disposalGainsSpec).bare Rows.disposalGainsRow = true := by
  unfold joinedFacts
  rw [j_inPlace, j_unfollowed, j_recurses, j_named]
  kernel_rfl
theorem said : Rows.DisposalGainsSaid :=
  OpenClaim.holds_of_cond 7 Tryz.f7 rfl rfl rfl rfl rfl rfl rfl ⟨rfl, rfl, rfl, rfl, rfl⟩ rfl rfl rfl rfl rfl (by kernel_rfl) Tryz.func7 closed
    (of_decide_eq_true (by kernel_rfl)) (by unfold Func.isWrapper; first | (rw [if_pos (by decide +kernel)]; kernel_rfl) | (rw [if_neg (by decide +kernel)]; exact ⟨rfl, rfl⟩))
    (fun os started H enc _ F => by rw [OpenClaim.pre_eq_preRow]; exact lifted os started H enc F)
end Go.Proofs.YtaegjkllenlfpaaGreatDoor.disposalGains
