/- Plain: what 'digits', 'Canonical', 'Check', 'Print' and 'Parse' of the integers compute, on lists of bytes. No program in sight. -/
import Derived.Test.YteeampgbmpolfaaGreatDoorBase
namespace Go.Proofs.YteeampgbmpolfaaGreatDoor
open Go.RowKit

def isD (c : UInt8) : Bool := decide (48 ≤ c.toNat) && decide (c.toNat ≤ 57)
def isMin (l : Bs) : Bool := match l with | [] => false | c :: _ => c == 45
/-- without a leading minus sign -/
def strip (l : Bs) : Bs := if isMin l then l.tail else l
def noZeros : Bs → Bs | [] => [] | c :: r => if c == 48 then noZeros r else c :: r
/-- the significant digits -/
def magT (t : Bs) : Bs := if t.all isD then noZeros t else []
def negT (b : Bool) (t : Bs) : Bool := b && !(magT t).isEmpty
def mag (l : Bs) : Bs := magT (strip l)
def neg (l : Bs) : Bool := negT (isMin l) (strip l)
def canon (l : Bs) : Bs := if neg l then 45 :: mag l else mag l
def checkI (l : Bs) : Int := if canon l = l then 0 else 1
def printI (l : Bs) : Bs := if canon l = [] then [48] else canon l
def parseIV (l : Bs) : Bs := if l.length > 65536 then [] else if printI l ≠ l then [] else canon l
def parseIE (l : Bs) : Int := if l.length > 65536 then 4 else if printI l ≠ l then 3 else 0

theorem noZeros_le (l : Bs) : (noZeros l).length ≤ l.length := by
  induction l with
  | nil => simp [noZeros]
  | cons c r ih => unfold noZeros; split <;> simp <;> omega
theorem strip_le (l : Bs) : (strip l).length ≤ l.length := by unfold strip; split <;> simp
theorem mag_le (l : Bs) : (mag l).length ≤ l.length := by
  unfold mag magT; split
  · exact Nat.le_trans (noZeros_le _) (strip_le _)
  · simp
theorem mag_le_of_min (l : Bs) (h : isMin l = true) : (mag l).length + 1 ≤ l.length := by
  cases l with
  | nil => simp [isMin] at h
  | cons c r =>
    have : strip (c :: r) = r := by simp [strip, h]
    unfold mag magT; rw [this]; split
    · have := noZeros_le r; simp; omega
    · simp
theorem canon_le (l : Bs) : (canon l).length ≤ l.length := by
  unfold canon neg negT
  by_cases h : isMin l = true
  · have := mag_le_of_min l h
    have := mag_le l
    split <;> simp <;> omega
  · have := mag_le l
    simp [h]; exact this
/-- how long the string in a slot is (for a loop's measure) -/
def strLen : Value → Nat | .string s => s.size | _ => 0
theorem isD_bad {c : UInt8} (h : c.toNat < 48 ∨ 57 < c.toNat) : isD c = false := by
  unfold isD; rcases h with h | h
  · rw [Bool.and_eq_false_iff]; left; simp; omega
  · rw [Bool.and_eq_false_iff]; right; simp; omega
theorem isD_good {c : UInt8} (h : 48 ≤ c.toNat) (h' : c.toNat ≤ 57) : isD c = true := by simp [isD, h, h']
theorem all_bad (t : Bs) (k : Nat) (hk : k < t.length) (h : (t[k]'hk).toNat < 48 ∨ 57 < (t[k]'hk).toNat) : t.all isD = false := by
  rw [List.all_eq_false]; exact ⟨_, List.getElem_mem hk, by simp [isD_bad h]⟩
theorem magT_bad (t : Bs) (k : Nat) (hk : k < t.length) (h : (t[k]'hk).toNat < 48 ∨ 57 < (t[k]'hk).toNat) : magT t = [] := by
  unfold magT; rw [all_bad t k hk h]; rfl
theorem negT_bad (b : Bool) (t : Bs) (k : Nat) (hk : k < t.length) (h : (t[k]'hk).toNat < 48 ∨ 57 < (t[k]'hk).toNat) : negT b t = false := by
  unfold negT; rw [magT_bad t k hk h]; simp
theorem take_all_succ (t : Bs) (k : Nat) (hk : k < t.length) (h : (t.take k).all isD = true) (h1 : ¬ ((t[k]'hk).toNat : Int) < 48) (h2 : ¬ 57 < ((t[k]'hk).toNat : Int)) : (t.take (k + 1)).all isD = true := by
  rw [List.take_succ_eq_append_getElem hk, List.all_append, h]
  simp only [List.all_cons, List.all_nil, Bool.and_true, Bool.true_and]
  exact isD_good (by omega) (by omega)
theorem take_all_end (t : Bs) (k : Nat) (hk : ¬ k < t.length) (h : (t.take k).all isD = true) : t.all isD = true := by
  rw [List.take_of_length_le (by omega)] at h; exact h
theorem magT_good (t : Bs) (h : t.all isD = true) : magT t = noZeros t := by unfold magT; rw [if_pos h]
theorem negT_good (b : Bool) (t : Bs) (h : t.all isD = true) : negT b t = (b && !(noZeros t).isEmpty) := by unfold negT; rw [magT_good t h]
end Go.Proofs.YteeampgbmpolfaaGreatDoor
