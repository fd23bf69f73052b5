/- The law MergerBest: a fact of its row: named. -/
import Derived.Test.YthgpheopnhajaaaGreatDoorCards
import Derived.Test.YthgpheopnhajaaaGreatDoorTie
import Derived.ProofKit
namespace Go.Proofs.YthgpheopnhajaaaGreatDoor.mergerBest
open Go.RowKit

theorem j_named : (Rows.mergerBestRow.named == Tryz.pinned.checked.prog.varsNamed 11) = true := by kernel_rfl
end Go.Proofs.YthgpheopnhajaaaGreatDoor.mergerBest
