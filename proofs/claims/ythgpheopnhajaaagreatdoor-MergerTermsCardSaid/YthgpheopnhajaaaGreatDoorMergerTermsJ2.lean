/- The law MergerTerms: a fact of its row: unfollowed. -/
import Derived.Test.YthgpheopnhajaaaGreatDoorCards
import Derived.Test.YthgpheopnhajaaaGreatDoorTie
import Derived.ProofKit
namespace Go.Proofs.YthgpheopnhajaaaGreatDoor.mergerTerms
open Go.RowKit

theorem j_unfollowed : (Rows.mergerTermsRow.unfollowed == Tryz.pinned.checked.prog.unfollowed 9) = true := by kernel_rfl
end Go.Proofs.YthgpheopnhajaaaGreatDoor.mergerTerms
