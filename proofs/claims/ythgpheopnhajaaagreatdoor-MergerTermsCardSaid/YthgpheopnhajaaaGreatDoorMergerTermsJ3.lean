/- The law MergerTerms: a fact of its row: recurses. -/
import Derived.Test.YthgpheopnhajaaaGreatDoorCards
import Derived.Test.YthgpheopnhajaaaGreatDoorTie
import Derived.ProofKit
namespace Go.Proofs.YthgpheopnhajaaaGreatDoor.mergerTerms
open Go.RowKit

theorem j_recurses : (Rows.mergerTermsRow.recurses == Tryz.pinned.checked.prog.recurses 9) = true := by kernel_rfl
end Go.Proofs.YthgpheopnhajaaaGreatDoor.mergerTerms
