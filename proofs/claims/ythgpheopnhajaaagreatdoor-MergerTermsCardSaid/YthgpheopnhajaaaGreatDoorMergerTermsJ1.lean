/- The law MergerTerms: a fact of its row: inPlace. -/
import Derived.Test.YthgpheopnhajaaaGreatDoorCards
import Derived.Test.YthgpheopnhajaaaGreatDoorTie
import Derived.ProofKit
namespace Go.Proofs.YthgpheopnhajaaaGreatDoor.mergerTerms
open Go.RowKit

theorem j_inPlace : (Rows.mergerTermsRow.inPlace == Tryz.pinned.checked.prog.inPlace 9) = true := by kernel_rfl
end Go.Proofs.YthgpheopnhajaaaGreatDoor.mergerTerms
