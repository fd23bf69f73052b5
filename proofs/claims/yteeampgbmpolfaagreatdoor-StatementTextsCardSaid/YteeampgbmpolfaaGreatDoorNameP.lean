/- Plain: names, and the number of digits. -/
import Derived.Test.YteeampgbmpolfaaGreatDoorIntP
namespace Go.Proofs.YteeampgbmpolfaaGreatDoor
open Go.RowKit
/-- a byte that a name may have -/
def isN (c : UInt8) : Bool := (decide (97 ≤ c.toNat) && decide (c.toNat ≤ 122)) || (decide (48 ≤ c.toNat) && decide (c.toNat ≤ 57)) || decide (c.toNat = 95)
def isName (l : Bs) : Bool := decide (1 ≤ l.length) && decide (l.length ≤ 16) && l.all isN
def digs (l : Bs) : Int := (strip l).length
/-- the walk's test: the byte is none of a name -/
def badN (c : Int) : Bool := ((decide (c < 97) || decide (122 < c)) && (decide (c < 48) || decide (57 < c))) && !(c == 95)
theorem badN_iff (c : UInt8) : badN (c.toNat : Int) = !isN c := by
  have h : ∀ n : Fin 256, badN ((UInt8.ofNat n.val).toNat : Int) = !isN (UInt8.ofNat n.val) := by decide +kernel
  have hc := h ⟨c.toNat, c.toNat_lt⟩
  simpa using hc
theorem isName_bad (l : Bs) (k : Nat) (hk : k < l.length) (h : isN (l[k]'hk) = false) : isName l = false := by
  have : l.all isN = false := by rw [List.all_eq_false]; exact ⟨_, List.getElem_mem hk, by simp [h]⟩
  simp [isName, this]
theorem takeN_succ (l : Bs) (k : Nat) (hk : k < l.length) (h : (l.take k).all isN = true) (hc : isN (l[k]'hk) = true) : (l.take (k + 1)).all isN = true := by
  rw [List.take_succ_eq_append_getElem hk, List.all_append, h]; simp [hc]
theorem isName_good (l : Bs) (k : Nat) (hk : ¬ k < l.length) (h : (l.take k).all isN = true) (h1 : 1 ≤ l.length) (h2 : l.length ≤ 16) : isName l = true := by
  rw [List.take_of_length_le (by omega)] at h
  unfold isName; rw [h]; simp [h1, h2]
theorem isN_good {c : UInt8} (h : ((97 ≤ (c.toNat : Int) ∧ (c.toNat : Int) ≤ 122) ∨ (48 ≤ (c.toNat : Int) ∧ (c.toNat : Int) ≤ 57)) ∨ (95 ≤ (c.toNat : Int) ∧ (c.toNat : Int) ≤ 95)) : isN c = true := by
  unfold isN; rcases h with (h | h) | h
  · have h1 : 97 ≤ c.toNat := by omega
    have h2 : c.toNat ≤ 122 := by omega
    simp [h1, h2]
  · have h1 : 48 ≤ c.toNat := by omega
    have h2 : c.toNat ≤ 57 := by omega
    simp [h1, h2]
  · have h1 : c.toNat = 95 := by omega
    simp [h1]
theorem isN_bad {c : UInt8} (h : ¬ (((97 ≤ (c.toNat : Int) ∧ (c.toNat : Int) ≤ 122) ∨ (48 ≤ (c.toNat : Int) ∧ (c.toNat : Int) ≤ 57)) ∨ (95 ≤ (c.toNat : Int) ∧ (c.toNat : Int) ≤ 95))) : isN c = false := by
  cases hn : isN c with
  | false => rfl
  | true =>
    exfalso; apply h; unfold isN at hn
    simp only [Bool.or_eq_true, Bool.and_eq_true, decide_eq_true_eq] at hn
    omega
theorem takeN_end (l : Bs) (k : Nat) (hk : ¬ k < l.length) (h : (l.take k).all isN = true) : l.all isN = true := by
  rw [List.take_of_length_le (by omega)] at h; exact h
theorem isName_all (l : Bs) (h : l.all isN = true) : isName l = (decide (1 ≤ l.length) && decide (l.length ≤ 16)) := by
  unfold isName; rw [h, Bool.and_true]
end Go.Proofs.YteeampgbmpolfaaGreatDoor
