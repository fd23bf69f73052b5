/- The law MergerRecognizes returns true for every input, and never panics; no conditions. -/
import Derived.Test.YthgpheopnhajaaaGreatDoorMergerRecognizesK1
import Derived.Test.YthgpheopnhajaaaGreatDoorMergerRecognizesK2
import Derived.Test.YthgpheopnhajaaaGreatDoorMergerRecognizesK3
import Derived.Test.YthgpheopnhajaaaGreatDoorMergerRecognizesK4
import Derived.Test.YthgpheopnhajaaaGreatDoorMergerRecognizesRb
namespace Go.Proofs.YthgpheopnhajaaaGreatDoor.mergerRecognizes
open Go.ChangeShapes Go.WideShapes Go.ChangeAt Go.RowKit Go.Deep Go.Joins

/-- THE CARD -/
theorem card : Rows.MergerRecognizesCardSaid :=
  Claim7.holds_tied_plain_at .later [] _ _ _ _ said (fun _ h => by cases h) k_wf (fun _ h => by cases h) mergerRecognizes_row_tie rfl ⟨rfl, rfl⟩ k_main rfl plain k_goes
end Go.Proofs.YthgpheopnhajaaaGreatDoor.mergerRecognizes
