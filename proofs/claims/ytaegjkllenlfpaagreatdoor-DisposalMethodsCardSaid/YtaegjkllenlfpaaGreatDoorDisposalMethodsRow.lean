/- The law DisposalMethods: its row and its card. -/
import Derived.Test.YtaegjkllenlfpaaGreatDoorDisposalMethodsK1
import Derived.Test.YtaegjkllenlfpaaGreatDoorDisposalMethodsK2
import Derived.Test.YtaegjkllenlfpaaGreatDoorDisposalMethodsK3
import Derived.Test.YtaegjkllenlfpaaGreatDoorDisposalMethodsK4
import Derived.Test.YtaegjkllenlfpaaGreatDoorDisposalMethodsRb
namespace Go.Proofs.YtaegjkllenlfpaaGreatDoor.disposalMethods
open Go.ChangeShapes Go.WideShapes Go.ChangeAt Go.RowKit Go.Deep Go.Joins

/-- THE CARD -/
theorem card : Rows.DisposalMethodsCardSaid :=
  Claim7.holds_tied_plain_at .later [] _ _ _ _ said (fun _ h => by cases h) k_wf (fun _ h => by cases h) disposalMethods_row_tie rfl ⟨rfl, rfl⟩ k_main rfl plain k_goes
end Go.Proofs.YtaegjkllenlfpaaGreatDoor.disposalMethods
