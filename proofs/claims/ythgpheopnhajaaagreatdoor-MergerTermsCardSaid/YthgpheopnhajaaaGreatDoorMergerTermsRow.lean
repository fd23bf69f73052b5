/- The law MergerTerms returns true for every input, and never panics; no conditions. -/
import Derived.Test.YthgpheopnhajaaaGreatDoorMergerTermsK1
import Derived.Test.YthgpheopnhajaaaGreatDoorMergerTermsK2
import Derived.Test.YthgpheopnhajaaaGreatDoorMergerTermsK3
import Derived.Test.YthgpheopnhajaaaGreatDoorMergerTermsK4
import Derived.Test.YthgpheopnhajaaaGreatDoorMergerTermsRb
namespace Go.Proofs.YthgpheopnhajaaaGreatDoor.mergerTerms
open Go.ChangeShapes Go.WideShapes Go.ChangeAt Go.RowKit Go.Deep Go.Joins

/-- THE CARD -/
theorem card : Rows.MergerTermsCardSaid :=
  Claim7.holds_tied_plain_at .later [] _ _ _ _ said (fun _ h => by cases h) k_wf (fun _ h => by cases h) mergerTerms_row_tie rfl ⟨rfl, rfl⟩ k_main rfl plain k_goes
end Go.Proofs.YthgpheopnhajaaaGreatDoor.mergerTerms
