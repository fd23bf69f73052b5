/- MergerAbsent: an exchange of an instrument that is not held changes nothing; whatever is valid otherwise is exchanged, for any lots, fact and index. -/
import Derived.Test.YthgpheopnhajaaaGreatDoorMergerAbsentK1
import Derived.Test.YthgpheopnhajaaaGreatDoorMergerAbsentK2
import Derived.Test.YthgpheopnhajaaaGreatDoorMergerAbsentK3
import Derived.Test.YthgpheopnhajaaaGreatDoorMergerAbsentK4
import Derived.Test.YthgpheopnhajaaaGreatDoorMergerAbsentRb
namespace Go.Proofs.YthgpheopnhajaaaGreatDoor.mergerAbsent
open Go.ChangeShapes Go.WideShapes Go.ChangeAt Go.RowKit Go.Deep Go.Joins

/-- THE CARD -/
theorem card : Rows.MergerAbsentCardSaid :=
  Claim7.holds_tied_plain_at .later [] _ _ _ _ said (fun _ h => by cases h) k_wf (fun _ h => by cases h) mergerAbsent_row_tie rfl ⟨rfl, rfl⟩ k_main rfl plain k_goes
end Go.Proofs.YthgpheopnhajaaaGreatDoor.mergerAbsent
