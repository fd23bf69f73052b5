/- The law MergerGains: a fact of its row: inPlace. -/
import Derived.Test.YthgpheopnhajaaaGreatDoorCards
import Derived.Test.YthgpheopnhajaaaGreatDoorTie
import Derived.ProofKit
namespace Go.Proofs.YthgpheopnhajaaaGreatDoor.mergerGains
open Go.RowKit

theorem j_inPlace : (Rows.mergerGainsRow.inPlace == Tryz.pinned.checked.prog.inPlace 6) = true := by kernel_rfl
end Go.Proofs.YthgpheopnhajaaaGreatDoor.mergerGains
