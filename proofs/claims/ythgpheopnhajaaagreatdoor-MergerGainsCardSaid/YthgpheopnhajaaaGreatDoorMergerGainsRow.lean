/- MergerGains: with new parts, what the gains realize together is recognized of the whole gain; without new parts, all of it counts, for any lots, fact and index. -/
import Derived.Test.YthgpheopnhajaaaGreatDoorMergerGainsK1
import Derived.Test.YthgpheopnhajaaaGreatDoorMergerGainsK2
import Derived.Test.YthgpheopnhajaaaGreatDoorMergerGainsK3
import Derived.Test.YthgpheopnhajaaaGreatDoorMergerGainsK4
import Derived.Test.YthgpheopnhajaaaGreatDoorMergerGainsRb
namespace Go.Proofs.YthgpheopnhajaaaGreatDoor.mergerGains
open Go.ChangeShapes Go.WideShapes Go.ChangeAt Go.RowKit Go.Deep Go.Joins

/-- THE CARD -/
theorem card : Rows.MergerGainsCardSaid :=
  Claim7.holds_tied_plain_at .later [] _ _ _ _ said (fun _ h => by cases h) k_wf (fun _ h => by cases h) mergerGains_row_tie rfl ⟨rfl, rfl⟩ k_main rfl plain k_goes
end Go.Proofs.YthgpheopnhajaaaGreatDoor.mergerGains
