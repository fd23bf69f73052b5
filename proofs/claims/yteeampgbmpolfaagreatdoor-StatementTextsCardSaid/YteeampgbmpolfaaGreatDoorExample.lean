/- The chapter's example, in plain words. -/
import Derived.Test.YteeampgbmpolfaaGreatDoorParseP
import Derived.KernelRfl
namespace Go.Proofs.YteeampgbmpolfaaGreatDoor
open Go.RowKit

def exS : St := ⟨19753, [⟨[97, 98, 99], [57, 48]⟩], [⟨[98, 49], 19732, [97, 98, 99], [49, 48, 48], [45, 49, 48, 48, 53]⟩, ⟨[115, 49], 19742, [97, 98, 99], [45, 49, 48], [49, 50, 48]⟩]⟩
def exT : Bs := "statement 2024-01-31\nholding abc 90\nmovement b1 2024-01-10 abc 100 -1005\nmovement s1 2024-01-20 abc -10 120\n".toUTF8.data.toList
theorem exPrint : printSV exS = exT := by kernel_rfl
theorem exPrintE : printSE exS = 0 := by kernel_rfl
theorem exRes : resL exT = (exS, 0) := by kernel_rfl
theorem exCheck : checkS exS = 0 := by kernel_rfl
theorem exLen : exT.length = 108 := by kernel_rfl
end Go.Proofs.YteeampgbmpolfaaGreatDoor
