/- Plain ground: strings as lists of bytes ('bs'), and the small laws by which a walk reads them. No program in sight. -/
import Derived.WalkKit
import Derived.WalkSpells
import Derived.WalkLawsBesides
import Derived.Lib.Hide
import Derived.Lib.Strings
import Derived.Deep.DeepCutAuto
import Derived.Deep.CutBlock
import Derived.Deep.QuietTactic
import Derived.BigQuiet
import Derived.RegionTactic
import Derived.Deep.DeepFit
import Derived.Deep.LoopGhost
import Derived.Outline
namespace Go.Proofs.YteeampgbmpolfaaGreatDoor
open Go.RowKit

abbrev Bs := List UInt8
/-- The string with the bytes l. -/
def bs (l : Bs) : ByteArray := ⟨l.toArray⟩
def L (s : ByteArray) : Bs := s.data.toList
theorem bs_L (s : ByteArray) : bs (L s) = s := Lib.mk_data s
theorem L_bs (l : Bs) : L (bs l) = l := by simp [L, bs]
theorem data_bs (l : Bs) : (bs l).data.toList = l := by simp [bs]
theorem size_bs (l : Bs) : (bs l).size = l.length := by rw [Lib.size_eq, data_bs]
theorem toList_bs (l : Bs) : (bs l).toList = l := by rw [Lib.toList_data, data_bs]
theorem bs_inj {a b : Bs} (h : bs a = bs b) : a = b := by rw [← L_bs a, h, L_bs]
theorem extract_bs (l : Bs) (a b : Nat) : (bs l).extract a b = bs ((l.drop a).take (b - a)) := by rw [Lib.extract_eq, data_bs]; rfl
theorem get_bs (l : Bs) (i : Nat) (h : i < (bs l).size) : (bs l)[i] = l[i]'(by rw [size_bs] at h; exact h) := by
  simp [bs, ByteArray.get]; rfl
theorem append_bs (a b : Bs) : bs a ++ bs b = bs (a ++ b) := by
  apply ByteArray.ext; simp [bs]
theorem lit_append (a : Array UInt8) (l : Bs) : (⟨a⟩ : ByteArray) ++ bs l = bs (a.toList ++ l) := by
  apply ByteArray.ext; simp [bs]
theorem append_lit (a : Array UInt8) (l : Bs) : bs l ++ (⟨a⟩ : ByteArray) = bs (l ++ a.toList) := by
  apply ByteArray.ext; simp [bs]
theorem empty_bs : (⟨#[]⟩ : ByteArray) = bs [] := rfl
theorem lit_bs (l : Bs) : (⟨l.toArray⟩ : ByteArray) = bs l := rfl
theorem byte_ne {c d : UInt8} (h : c ≠ d) : ((c.toNat : Int) == (d.toNat : Int)) = false := by
  rw [beq_eq_false_iff_ne]; intro e; exact h (UInt8.toNat_inj.1 (by omega))
theorem byte_eq {c d : UInt8} (h : c = d) : ((c.toNat : Int) == (d.toNat : Int)) = true := by rw [h]; exact beq_self_eq_true _
end Go.Proofs.YteeampgbmpolfaaGreatDoor
