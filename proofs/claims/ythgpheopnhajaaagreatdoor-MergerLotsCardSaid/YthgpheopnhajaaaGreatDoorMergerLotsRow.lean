/- The law MergerLots holds for any lots, fact and index. -/
import Derived.Test.YthgpheopnhajaaaGreatDoorMergerLotsK1
import Derived.Test.YthgpheopnhajaaaGreatDoorMergerLotsK2
import Derived.Test.YthgpheopnhajaaaGreatDoorMergerLotsK3
import Derived.Test.YthgpheopnhajaaaGreatDoorMergerLotsK4
import Derived.Test.YthgpheopnhajaaaGreatDoorMergerLotsRb
namespace Go.Proofs.YthgpheopnhajaaaGreatDoor.mL
open Go.ChangeShapes Go.WideShapes Go.ChangeAt Go.RowKit Go.Deep Go.Joins

/-- THE CARD -/
theorem card : Rows.MergerLotsCardSaid :=
  Claim7.holds_tied_plain_at .later [] _ _ _ _ said (fun _ h => by cases h) k_wf (fun _ h => by cases h) mergerLots_row_tie rfl ⟨rfl, rfl⟩ k_main rfl plain k_goes
end Go.Proofs.YthgpheopnhajaaaGreatDoor.mL
