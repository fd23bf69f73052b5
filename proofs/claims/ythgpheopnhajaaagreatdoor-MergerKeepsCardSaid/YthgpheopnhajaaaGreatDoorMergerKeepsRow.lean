/- The law MergerKeeps: its row and its card. -/
import Derived.Test.YthgpheopnhajaaaGreatDoorMergerKeepsK1
import Derived.Test.YthgpheopnhajaaaGreatDoorMergerKeepsK2
import Derived.Test.YthgpheopnhajaaaGreatDoorMergerKeepsK3
import Derived.Test.YthgpheopnhajaaaGreatDoorMergerKeepsK4
import Derived.Test.YthgpheopnhajaaaGreatDoorMergerKeepsRb
namespace Go.Proofs.YthgpheopnhajaaaGreatDoor.mergerKeeps
open Go.ChangeShapes Go.WideShapes Go.ChangeAt Go.RowKit Go.Deep Go.Joins

/-- THE CARD -/
theorem card : Rows.MergerKeepsCardSaid :=
  Claim7.holds_tied_plain_at .later [] _ _ _ _ said (fun _ h => by cases h) k_wf (fun _ h => by cases h) mergerKeeps_row_tie rfl ⟨rfl, rfl⟩ k_main rfl plain k_goes
end Go.Proofs.YthgpheopnhajaaaGreatDoor.mergerKeeps
