/- The law MergerBest: the row. -/
import Derived.Test.YthgpheopnhajaaaGreatDoorMergerBestRa
import Derived.Test.YthgpheopnhajaaaGreatDoorMergerBestJ1
import Derived.Test.YthgpheopnhajaaaGreatDoorMergerBestJ2
import Derived.Test.YthgpheopnhajaaaGreatDoorMergerBestJ3
import Derived.Test.YthgpheopnhajaaaGreatDoorMergerBestJ4
namespace Go.Proofs.YthgpheopnhajaaaGreatDoor.mergerBest
open Go.ChangeShapes Go.WideShapes Go.ChangeAt Go.RowKit Go.Deep Go.Joins

theorem closed : joinedFacts Tryz.pinned.checked.prog 11 Tryz.f11 (OpenSpec.ofChange Rows.mergerBestSpec).bare Rows.mergerBestRow = true := by
  unfold joinedFacts
  rw [j_inPlace, j_unfollowed, j_recurses, j_named]
  kernel_rfl
theorem said : Rows.MergerBestSaid :=
  OpenClaim.holds_of_cond 11 Tryz.f11 rfl rfl rfl rfl rfl rfl rfl ⟨rfl, rfl, rfl, rfl, rfl⟩ rfl rfl rfl rfl rfl (by kernel_rfl) Tryz.func11 closed
    (of_decide_eq_true (by kernel_rfl)) (by unfold Func.isWrapper; first | (rw [if_pos (by decide +kernel)]; kernel_rfl) | (rw [if_neg (by decide +kernel)]; exact ⟨rfl, rfl⟩))
    (fun os started H enc _ F => by rw [OpenClaim.pre_eq_preRow]; exact lifted os started H enc F)
end Go.Proofs.YthgpheopnhajaaaGreatDoor.mergerBest
