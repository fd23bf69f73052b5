/- The law MergerOptions: a fact of its row: recurses. -/
import Derived.Test.YthgpheopnhajaaaGreatDoorCards
import Derived.Test.YthgpheopnhajaaaGreatDoorTie
import Derived.ProofKit
namespace Go.Proofs.YthgpheopnhajaaaGreatDoor.mergerOptions
open Go.RowKit

theorem j_recurses : (Rows.mergerOptionsRow.recurses == Tryz.pinned.checked.prog.recurses 10) = true := by kernel_rfl
end Go.Proofs.YthgpheopnhajaaaGreatDoor.mergerOptions
