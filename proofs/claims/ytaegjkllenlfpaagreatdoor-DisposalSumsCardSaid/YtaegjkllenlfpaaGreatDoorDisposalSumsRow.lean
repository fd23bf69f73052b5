/- The law DisposalSums, whole: its row and its card. -/
import Derived.Test.YtaegjkllenlfpaaGreatDoorDisposalSumsK1
import Derived.Test.YtaegjkllenlfpaaGreatDoorDisposalSumsK2
import Derived.Test.YtaegjkllenlfpaaGreatDoorDisposalSumsK3
import Derived.Test.YtaegjkllenlfpaaGreatDoorDisposalSumsK4
import Derived.Test.YtaegjkllenlfpaaGreatDoorDisposalSumsRb
namespace Go.Proofs.YtaegjkllenlfpaaGreatDoor.disposalSums
open Go.ChangeShapes Go.WideShapes Go.ChangeAt Go.RowKit Go.Deep Go.Joins

/-- THE CARD -/
theorem card : Rows.DisposalSumsCardSaid :=
  Claim7.holds_tied_plain_at .later [] _ _ _ _ said (fun _ h => by cases h) k_wf (fun _ h => by cases h) disposalSums_row_tie rfl ⟨rfl, rfl⟩ k_main rfl plain k_goes
end Go.Proofs.YtaegjkllenlfpaaGreatDoor.disposalSums
