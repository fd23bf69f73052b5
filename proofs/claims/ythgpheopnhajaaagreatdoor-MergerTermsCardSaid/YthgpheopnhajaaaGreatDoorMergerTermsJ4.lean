/- The law MergerTerms: a fact of its row: named. -/
import Derived.Test.YthgpheopnhajaaaGreatDoorCards
import Derived.Test.YthgpheopnhajaaaGreatDoorTie
import Derived.ProofKit
namespace Go.Proofs.YthgpheopnhajaaaGreatDoor.mergerTerms
open Go.RowKit

theorem j_named : (Rows.mergerTermsRow.named == Tryz.pinned.checked.prog.varsNamed 9) = true := by kernel_rfl
end Go.Proofs.YthgpheopnhajaaaGreatDoor.mergerTerms
