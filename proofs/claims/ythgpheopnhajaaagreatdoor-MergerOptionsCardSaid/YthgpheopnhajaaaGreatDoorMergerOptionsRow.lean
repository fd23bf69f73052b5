/- The law MergerOptions returns true for every input, and never panics; no conditions. -/
import Derived.Test.YthgpheopnhajaaaGreatDoorMergerOptionsK1
import Derived.Test.YthgpheopnhajaaaGreatDoorMergerOptionsK2
import Derived.Test.YthgpheopnhajaaaGreatDoorMergerOptionsK3
import Derived.Test.YthgpheopnhajaaaGreatDoorMergerOptionsK4
import Derived.Test.YthgpheopnhajaaaGreatDoorMergerOptionsRb
namespace Go.Proofs.YthgpheopnhajaaaGreatDoor.mergerOptions
open Go.ChangeShapes Go.WideShapes Go.ChangeAt Go.RowKit Go.Deep Go.Joins

/-- THE CARD -/
theorem card : Rows.MergerOptionsCardSaid :=
  Claim7.holds_tied_plain_at .later [] _ _ _ _ said (fun _ h => by cases h) k_wf (fun _ h => by cases h) mergerOptions_row_tie rfl ⟨rfl, rfl⟩ k_main rfl plain k_goes
end Go.Proofs.YthgpheopnhajaaaGreatDoor.mergerOptions
