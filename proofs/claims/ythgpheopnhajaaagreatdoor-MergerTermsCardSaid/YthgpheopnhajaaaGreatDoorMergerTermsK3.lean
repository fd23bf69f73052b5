/- The law MergerTerms: a fact of its card: main. -/
import Derived.Test.YthgpheopnhajaaaGreatDoorCards
import Derived.Test.YthgpheopnhajaaaGreatDoorTie
import Derived.ProofKit
namespace Go.Proofs.YthgpheopnhajaaaGreatDoor.mergerTerms
open Go.RowKit

theorem k_main : Tryz.pinned.checked.prog.mainIs = some (Rows.mergerTermsCard.stood.harness.1, Rows.mergerTermsCard.stood.harness.2.toList) := by kernel_rfl
end Go.Proofs.YthgpheopnhajaaaGreatDoor.mergerTerms
