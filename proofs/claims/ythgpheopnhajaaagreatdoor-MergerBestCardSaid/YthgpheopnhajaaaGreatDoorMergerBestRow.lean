/- The law MergerBest returns true for every input, and never panics; no conditions. -/
import Derived.Test.YthgpheopnhajaaaGreatDoorMergerBestK1
import Derived.Test.YthgpheopnhajaaaGreatDoorMergerBestK2
import Derived.Test.YthgpheopnhajaaaGreatDoorMergerBestK3
import Derived.Test.YthgpheopnhajaaaGreatDoorMergerBestK4
import Derived.Test.YthgpheopnhajaaaGreatDoorMergerBestRb
namespace Go.Proofs.YthgpheopnhajaaaGreatDoor.mergerBest
open Go.ChangeShapes Go.WideShapes Go.ChangeAt Go.RowKit Go.Deep Go.Joins

/-- THE CARD -/
theorem card : Rows.MergerBestCardSaid :=
  Claim7.holds_tied_plain_at .later [] _ _ _ _ said (fun _ h => by cases h) k_wf (fun _ h => by cases h) mergerBest_row_tie rfl ⟨rfl, rfl⟩ k_main rfl plain k_goes
end Go.Proofs.YthgpheopnhajaaaGreatDoor.mergerBest
