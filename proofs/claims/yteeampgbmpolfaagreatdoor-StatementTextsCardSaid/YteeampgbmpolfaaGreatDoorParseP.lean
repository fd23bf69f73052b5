/- Plain: the statement with a text. No program in sight. -/
import Derived.Test.YteeampgbmpolfaaGreatDoorTextP
import Derived.Test.YteeampgbmpolfaaGreatDoorSplitP
import Derived.Test.YteeampgbmpolfaaGreatDoorDateParse
namespace Go.Proofs.YteeampgbmpolfaaGreatDoor
open Go.RowKit

def zeroS : St := ⟨0, [], []⟩
/-- what a line does to a statement -/
def stepW (s : St) (first : Bool) (ws : List Bs) : Option St :=
  match ws with
  | [a, b] => if first = true ∧ a = wStatement ∧ parseDE b = 0 then some { s with day := parseDV b } else none
  | [a, b, c] => if first = false ∧ a = wHolding ∧ s.ms = [] ∧ b ≠ [] ∧ parseIE c = 0 then some { s with hs := s.hs ++ [⟨b, parseIV c⟩] } else none
  | [a, b, c, d, e, f] => if first = false ∧ a = wMovement ∧ b ≠ [] ∧ d ≠ [] ∧ parseDE c = 0 ∧ parseIE e = 0 ∧ parseIE f = 0 then some { s with ms := s.ms ++ [⟨b, parseDV c, d, parseIV e, parseIV f⟩] } else none
  | _ => none
def stepLine (s : St) (first : Bool) (line : Bs) : Option St := stepW s first (splitOn 32 line)
/-- all lines, from the k-th on: the statement, or the number of the first wrong line -/
def goLines : St → Nat → List Bs → St × Int
  | s, _, [] => (s, 0)
  | s, k, [x] => if 0 < k ∧ x = [] then (s, 0) else (s, (k : Int) + 1)
  | s, k, x :: y :: r => match stepLine s (k == 0) x with | some s' => goLines s' (k + 1) (y :: r) | none => (s, (k : Int) + 1)
def resL (t : Bs) : St × Int := goLines zeroS 0 (splitOn 10 t)
def parseSt (t : Bs) : St := if 65536 < t.length then zeroS else if (resL t).2 ≠ 0 then zeroS else if checkS (resL t).1 ≠ 0 then zeroS else (resL t).1
def parseSN (t : Bs) : Int := if 65536 < t.length then 0 else (resL t).2
def parseSE (t : Bs) : Int := if 65536 < t.length then 4 else if (resL t).2 ≠ 0 then 3 else checkS (resL t).1

theorem parseDE_nil : parseDE [] = 3 := by rfl
theorem parseIE_nil : parseIE [] = 3 := by decide
theorem goLines_one (s : St) (k : Nat) (x : Bs) : goLines s k [x] = if 0 < k ∧ x = [] then (s, 0) else (s, (k : Int) + 1) := by simp [goLines]
theorem goLines_ok {s s' : St} {k : Nat} {x y : Bs} {r : List Bs} (h : stepLine s (k == 0) x = some s') : goLines s k (x :: y :: r) = goLines s' (k + 1) (y :: r) := by simp [goLines, h]
theorem goLines_bad {s : St} {k : Nat} {x y : Bs} {r : List Bs} (h : stepLine s (k == 0) x = none) : goLines s k (x :: y :: r) = (s, (k : Int) + 1) := by simp [goLines, h]
/-- the sizes of what is read -/
def Sized (n : Nat) (s : St) : Prop := (∀ h ∈ s.hs, h.ins.length ≤ n ∧ h.qty.length ≤ n) ∧ (∀ m ∈ s.ms, m.ref.length ≤ n ∧ m.ins.length ≤ n ∧ m.qty.length ≤ n ∧ m.amt.length ≤ n)
theorem parseIV_len (l : Bs) : (parseIV l).length ≤ l.length := by
  have := canon_le l; unfold parseIV; split
  · simp
  · split
    · simp
    · exact this
theorem stepW_sized {n : Nat} {s s' : St} {first : Bool} {ws : List Bs} (hs : Sized n s) (hw : ∀ p ∈ ws, p.length ≤ n) (h : stepW s first ws = some s') : Sized n s' ∧ s'.hs.length ≤ s.hs.length + 1 ∧ s'.ms.length ≤ s.ms.length + 1 := by
  unfold stepW at h
  split at h
  · split at h
    · injection h with h; subst h; exact ⟨hs, by simp, by simp⟩
    · cases h
  · rename_i a b c
    split at h
    · injection h with h; subst h
      refine ⟨⟨?_, hs.2⟩, by simp, by simp⟩
      intro x hx; simp at hx; rcases hx with hx | rfl
      · exact hs.1 x hx
      · have := parseIV_len c; have h1 := hw b (by simp); have h2 := hw c (by simp); simp only; omega
    · cases h
  · rename_i a b c d e f
    split at h
    · injection h with h; subst h
      refine ⟨⟨hs.1, ?_⟩, by simp, by simp⟩
      intro x hx; simp at hx; rcases hx with hx | rfl
      · exact hs.2 x hx
      · have := parseIV_len e; have := parseIV_len f
        have h1 := hw b (by simp); have h2 := hw d (by simp); have h3 := hw e (by simp); have h4 := hw f (by simp); simp only; omega
    · cases h
  · cases h
end Go.Proofs.YteeampgbmpolfaaGreatDoor
