/- The law DisposalGains: its row and its card. -/
import Derived.Test.YtaegjkllenlfpaaGreatDoorDisposalGainsK1
import Derived.Test.YtaegjkllenlfpaaGreatDoorDisposalGainsK2
import Derived.Test.YtaegjkllenlfpaaGreatDoorDisposalGainsK3
import Derived.Test.YtaegjkllenlfpaaGreatDoorDisposalGainsK4
import Derived.Test.YtaegjkllenlfpaaGreatDoorDisposalGainsRb
namespace Go.Proofs.YtaegjkllenlfpaaGreatDoor.disposalGains
open Go.ChangeShapes Go.WideShapes Go.ChangeAt Go.RowKit Go.Deep Go.Joins

/-- THE CARD -/
theorem card : Rows.DisposalGainsCardSaid :=
  Claim7.holds_tied_plain_at .later [] _ _ _ _ said (fun _ h => by cases h) k_wf (fun _ h => by cases h) disposalGains_row_tie rfl ⟨rfl, rfl⟩ k_main rfl plain k_goes
end Go.Proofs.YtaegjkllenlfpaaGreatDoor.disposalGains
