/- The law MergerKeeps: the row. -/
import Derived.Test.YthgpheopnhajaaaGreatDoorMergerKeepsRa
import Derived.Test.YthgpheopnhajaaaGreatDoorMergerKeepsJ1
import Derived.Test.YthgpheopnhajaaaGreatDoorMergerKeepsJ2
import Derived.Test.YthgpheopnhajaaaGreatDoorMergerKeepsJ3
import Derived.Test.YthgpheopnhajaaaGreatDoorMergerKeepsJ4
namespace Go.Proofs.YthgpheopnhajaaaGreatDoor.mergerKeeps
open Go.ChangeShapes Go.WideShapes Go.ChangeAt Go.RowKit Go.Deep Go.Joins

theorem closed : joinedFacts Tryz.pinned.checked.prog 5 Tryz.f5 (OpenSpec.ofChange Rows.mergerKeepsSpec).bare Rows.mergerKeepsRow = true := by
  unfold joinedFacts
  rw [j_inPlace, j_unfollowed, j_recurses, j_named]
  kernel_rfl
theorem said : Rows.MergerKeepsSaid :=
  OpenClaim.holds_of_cond 5 Tryz.f5 rfl rfl rfl rfl rfl rfl rfl ⟨rfl, rfl, rfl, rfl, rfl⟩ rfl rfl rfl rfl rfl (by kernel_rfl) Tryz.func5 closed
    (of_decide_eq_true (by kernel_rfl)) (by unfold Func.isWrapper; first | (rw [if_pos (by decide +kernel)]; kernel_rfl) | (rw [if_neg (by decide +kernel)]; exact ⟨rfl, rfl⟩))
    (fun os started H enc _ F => by rw [OpenClaim.pre_eq_preRow]; exact lifted os started H enc F)
end Go.Proofs.YthgpheopnhajaaaGreatDoor.mergerKeeps
