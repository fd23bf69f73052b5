/- The law MergerOptions: the row. -/
import Derived.Test.YthgpheopnhajaaaGreatDoorMergerOptionsRa
import Derived.Test.YthgpheopnhajaaaGreatDoorMergerOptionsJ1
import Derived.Test.YthgpheopnhajaaaGreatDoorMergerOptionsJ2
import Derived.Test.YthgpheopnhajaaaGreatDoorMergerOptionsJ3
import Derived.Test.YthgpheopnhajaaaGreatDoorMergerOptionsJ4
namespace Go.Proofs.YthgpheopnhajaaaGreatDoor.mergerOptions
open Go.ChangeShapes Go.WideShapes Go.ChangeAt Go.RowKit Go.Deep Go.Joins

theorem closed : joinedFacts Tryz.pinned.checked.prog 10 Tryz.f10 (OpenSpec.ofChange Rows.mergerOptionsSpec).bare Rows.mergerOptionsRow = true := by
  unfold joinedFacts
  rw [j_inPlace, j_unfollowed, j_recurses, j_named]
  kernel_rfl
theorem said : Rows.MergerOptionsSaid :=
  OpenClaim.holds_of_cond 10 Tryz.f10 rfl rfl rfl rfl rfl rfl rfl ⟨rfl, rfl, rfl, rfl, rfl⟩ rfl rfl rfl rfl rfl (by kernel_rfl) Tryz.func10 closed
    (of_decide_eq_true (by kernel_rfl)) (by unfold Func.isWrapper; first | (rw [if_pos (by decide +kernel)]; kernel_rfl) | (rw [if_neg (by decide +kernel)]; exact ⟨rfl, rfl⟩))
    (fun os started H enc _ F => by rw [OpenClaim.pre_eq_preRow]; exact lifted os started H enc F)
end Go.Proofs.YthgpheopnhajaaaGreatDoor.mergerOptions
