/- The law DisposalParts, whole: its row and its card. -/
import Derived.Test.YtaegjkllenlfpaaGreatDoorDisposalPartsK1
import Derived.Test.YtaegjkllenlfpaaGreatDoorDisposalPartsK2
import Derived.Test.YtaegjkllenlfpaaGreatDoorDisposalPartsK3
import Derived.Test.YtaegjkllenlfpaaGreatDoorDisposalPartsK4
import Derived.Test.YtaegjkllenlfpaaGreatDoorDisposalPartsRb
namespace Go.Proofs.YtaegjkllenlfpaaGreatDoor.disposalParts
open Go.ChangeShapes Go.WideShapes Go.ChangeAt Go.RowKit Go.Deep Go.Joins

/-- THE CARD -/
theorem card : Rows.DisposalPartsCardSaid :=
  Claim7.holds_tied_plain_at .later [] _ _ _ _ said (fun _ h => by cases h) k_wf (fun _ h => by cases h) disposalParts_row_tie rfl ⟨rfl, rfl⟩ k_main rfl plain k_goes
end Go.Proofs.YtaegjkllenlfpaaGreatDoor.disposalParts
