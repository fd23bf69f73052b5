/- The law MergerGains: the row. -/
import Derived.Test.YthgpheopnhajaaaGreatDoorMergerGainsRa
import Derived.Test.YthgpheopnhajaaaGreatDoorMergerGainsJ1
import Derived.Test.YthgpheopnhajaaaGreatDoorMergerGainsJ2
import Derived.Test.YthgpheopnhajaaaGreatDoorMergerGainsJ3
import Derived.Test.YthgpheopnhajaaaGreatDoorMergerGainsJ4
namespace Go.Proofs.YthgpheopnhajaaaGreatDoor.mergerGains
open Go.ChangeShapes Go.WideShapes Go.ChangeAt Go.RowKit Go.Deep Go.Joins

theorem closed : joinedFacts Tryz.pinned.checked.prog 6 Tryz.f6 (OpenSpec.ofChange Rows.mergerGainsSpec).bare Rows.mergerGainsRow = true := by
  unfold joinedFacts
  rw [j_inPlace, j_unfollowed, j_recurses, j_named]
  kernel_rfl
theorem said : Rows.MergerGainsSaid :=
  OpenClaim.holds_of_cond 6 Tryz.f6 rfl rfl rfl rfl rfl rfl rfl ⟨rfl, rfl, rfl, rfl, rfl⟩ rfl rfl rfl rfl rfl (by kernel_rfl) Tryz.func6 closed
    (of_decide_eq_true (by kernel_rfl)) (by unfold Func.isWrapper; first | (rw [if_pos (by decide +kernel)]; kernel_rfl) | (rw [if_neg (by decide +kernel)]; exact ⟨rfl, rfl⟩))
    (fun os started H enc _ F => by rw [OpenClaim.pre_eq_preRow]; exact lifted os started H enc F)
end Go.Proofs.YthgpheopnhajaaaGreatDoor.mergerGains
