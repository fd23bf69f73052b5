/- The law DisposalCalls: its row and its card. -/
import Derived.Test.YtaegjkllenlfpaaGreatDoorDisposalCallsK1
import Derived.Test.YtaegjkllenlfpaaGreatDoorDisposalCallsK2
import Derived.Test.YtaegjkllenlfpaaGreatDoorDisposalCallsK3
import Derived.Test.YtaegjkllenlfpaaGreatDoorDisposalCallsK4
import Derived.Test.YtaegjkllenlfpaaGreatDoorDisposalCallsRb
namespace Go.Proofs.YtaegjkllenlfpaaGreatDoor.disposalCalls
open Go.ChangeShapes Go.WideShapes Go.ChangeAt Go.RowKit Go.Deep Go.Joins

/-- THE CARD -/
theorem card : Rows.DisposalCallsCardSaid :=
  Claim7.holds_tied_plain_at .later [] _ _ _ _ said (fun _ h => by cases h) k_wf (fun _ h => by cases h) disposalCalls_row_tie rfl ⟨rfl, rfl⟩ k_main rfl plain k_goes
end Go.Proofs.YtaegjkllenlfpaaGreatDoor.disposalCalls
