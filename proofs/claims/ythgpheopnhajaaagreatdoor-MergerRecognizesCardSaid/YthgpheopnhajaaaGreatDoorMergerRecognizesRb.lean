/- The law MergerRecognizes: the row. -/
import Derived.Test.YthgpheopnhajaaaGreatDoorMergerRecognizesRa
import Derived.Test.YthgpheopnhajaaaGreatDoorMergerRecognizesJ1
import Derived.Test.YthgpheopnhajaaaGreatDoorMergerRecognizesJ2
import Derived.Test.YthgpheopnhajaaaGreatDoorMergerRecognizesJ3
import Derived.Test.YthgpheopnhajaaaGreatDoorMergerRecognizesJ4
namespace Go.Proofs.YthgpheopnhajaaaGreatDoor.mergerRecognizes
open Go.ChangeShapes Go.WideShapes Go.ChangeAt Go.RowKit Go.Deep Go.Joins

theorem closed : joinedFacts Tryz.pinned.checked.prog 4 Tryz.f4 (OpenSpec.ofChange Rows.mergerRecognizesSpec).bare Rows.mergerRecognizesRow = true := by
  unfold joinedFacts
  rw [j_inPlace, j_unfollowed, j_recurses, j_named]
  kernel_rfl
theorem said : Rows.MergerRecognizesSaid :=
  OpenClaim.holds_of_cond 4 Tryz.f4 rfl rfl rfl rfl rfl rfl rfl ⟨rfl, rfl, rfl, rfl, rfl⟩ rfl rfl rfl rfl rfl (by kernel_rfl) Tryz.func4 closed
    (of_decide_eq_true (by kernel_rfl)) (by unfold Func.isWrapper; first | (rw [if_pos (by decide +kernel)]; kernel_rfl) | (rw [if_neg (by decide +kernel)]; exact ⟨rfl, rfl⟩))
    (fun os started H enc _ F => by rw [OpenClaim.pre_eq_preRow]; exact lifted os started H enc F)
end Go.Proofs.YthgpheopnhajaaaGreatDoor.mergerRecognizes
