/- The law MergerOptions: a fact of its row: named. -/
import Derived.Test.YthgpheopnhajaaaGreatDoorCards
import Derived.Test.YthgpheopnhajaaaGreatDoorTie
import Derived.ProofKit
namespace Go.Proofs.YthgpheopnhajaaaGreatDoor.mergerOptions
open Go.RowKit

theorem j_named : (Rows.mergerOptionsRow.named == Tryz.pinned.checked.prog.varsNamed 10) = true := by kernel_rfl
end Go.Proofs.YthgpheopnhajaaaGreatDoor.mergerOptions
