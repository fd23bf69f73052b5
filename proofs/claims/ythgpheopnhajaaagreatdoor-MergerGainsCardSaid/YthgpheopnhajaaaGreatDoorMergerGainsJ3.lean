/- The law MergerGains: a fact of its row: recurses. -/
import Derived.Test.YthgpheopnhajaaaGreatDoorCards
import Derived.Test.YthgpheopnhajaaaGreatDoorTie
import Derived.ProofKit
namespace Go.Proofs.YthgpheopnhajaaaGreatDoor.mergerGains
open Go.RowKit

theorem j_recurses : (Rows.mergerGainsRow.recurses == Tryz.pinned.checked.prog.recurses 6) = true := by kernel_rfl
end Go.Proofs.YthgpheopnhajaaaGreatDoor.mergerGains
