/- The law MergerGains: a fact of its row: unfollowed. -/
import Derived.Test.YthgpheopnhajaaaGreatDoorCards
import Derived.Test.YthgpheopnhajaaaGreatDoorTie
import Derived.ProofKit
namespace Go.Proofs.YthgpheopnhajaaaGreatDoor.mergerGains
open Go.RowKit

theorem j_unfollowed : (Rows.mergerGainsRow.unfollowed == Tryz.pinned.checked.prog.unfollowed 6) = true := by kernel_rfl
end Go.Proofs.YthgpheopnhajaaaGreatDoor.mergerGains
