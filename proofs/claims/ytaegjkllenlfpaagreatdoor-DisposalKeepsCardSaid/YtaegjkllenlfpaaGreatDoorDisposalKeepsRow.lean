/- The law DisposalKeeps, whole: its row and its card. -/
import Derived.Test.YtaegjkllenlfpaaGreatDoorDisposalKeepsK1
import Derived.Test.YtaegjkllenlfpaaGreatDoorDisposalKeepsK2
import Derived.Test.YtaegjkllenlfpaaGreatDoorDisposalKeepsK3
import Derived.Test.YtaegjkllenlfpaaGreatDoorDisposalKeepsK4
import Derived.Test.YtaegjkllenlfpaaGreatDoorDisposalKeepsRb
namespace Go.Proofs.YtaegjkllenlfpaaGreatDoor.disposalKeeps
open Go.ChangeShapes Go.WideShapes Go.ChangeAt Go.RowKit Go.Deep Go.Joins

/-- THE CARD -/
theorem card : Rows.DisposalKeepsCardSaid :=
  Claim7.holds_tied_plain_at .later [] _ _ _ _ said (fun _ h => by cases h) k_wf (fun _ h => by cases h) disposalKeeps_row_tie rfl ⟨rfl, rfl⟩ k_main rfl plain k_goes
end Go.Proofs.YtaegjkllenlfpaaGreatDoor.disposalKeeps
