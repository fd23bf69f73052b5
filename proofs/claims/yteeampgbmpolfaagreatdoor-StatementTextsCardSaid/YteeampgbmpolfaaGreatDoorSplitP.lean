/- Plain: a text cut at a byte. No program in sight. -/
import Derived.Test.YteeampgbmpolfaaGreatDoorBase
namespace Go.Proofs.YteeampgbmpolfaaGreatDoor
open Go.RowKit
def splitOn (c : UInt8) : Bs → List Bs
  | [] => [[]]
  | x :: r => if x = c then [] :: splitOn c r else match splitOn c r with | [] => [[x]] | h :: t => (x :: h) :: t
theorem splitOn_ne (c : UInt8) (l : Bs) : splitOn c l ≠ [] := by
  cases l with
  | nil => simp [splitOn]
  | cons x r =>
    unfold splitOn; split
    · simp
    · split <;> simp
theorem splitOn_none (c : UInt8) (p : Bs) (h : ∀ x ∈ p, x ≠ c) : splitOn c p = [p] := by
  induction p with
  | nil => rfl
  | cons x r ih =>
    have h1 := h x (by simp)
    unfold splitOn; rw [if_neg h1, ih (fun y hy => h y (by simp [hy]))]
theorem splitOn_cut (c : UInt8) (p r : Bs) (h : ∀ x ∈ p, x ≠ c) : splitOn c (p ++ c :: r) = p :: splitOn c r := by
  induction p with
  | nil => simp [splitOn]
  | cons x q ih =>
    have h1 := h x (by simp)
    rw [List.cons_append, splitOn, if_neg h1, ih (fun y hy => h y (by simp [hy]))]
theorem splitOn_len (c : UInt8) (l : Bs) : (splitOn c l).length ≤ l.length + 1 := by
  induction l with
  | nil => simp [splitOn]
  | cons x r ih =>
    unfold splitOn; split
    · simp; exact ih
    · split
      · simp
      · rename_i h t he; rw [he] at ih; simp at ih ⊢; omega
theorem splitOn_mem (c : UInt8) (l : Bs) : ∀ p ∈ splitOn c l, p.length ≤ l.length := by
  induction l with
  | nil => simp [splitOn]
  | cons x r ih =>
    unfold splitOn; split
    · intro p hp; simp at hp; rcases hp with rfl | hp
      · simp
      · have := ih p hp; simp; omega
    · split
      · simp
      · rename_i h t he; rw [he] at ih
        intro p hp; simp at hp; rcases hp with rfl | hp
        · have := ih h (by simp); simp; omega
        · have := ih p (by simp [hp]); simp; omega
theorem splitOn_no (c : UInt8) (l : Bs) : ∀ p ∈ splitOn c l, ∀ x ∈ p, x ≠ c := by
  induction l with
  | nil => simp [splitOn]
  | cons y r ih =>
    unfold splitOn; split
    · intro p hp; simp at hp; rcases hp with rfl | hp
      · simp
      · exact ih p hp
    · rename_i hy
      split
      · intro p hp; simp at hp; subst hp; simp; exact hy
      · rename_i h t he; rw [he] at ih
        intro p hp; simp at hp; rcases hp with rfl | hp
        · intro x hx; simp at hx; rcases hx with rfl | hx
          · exact hy
          · exact ih h (by simp) x hx
        · exact ih p (by simp [hp])
/-- the state of a scan: what is cut already, and where the open piece begins -/
structure Scan (c : UInt8) (l : Bs) (i : Nat) (out : List Bs) (from_ : Nat) : Prop where
  le : from_ ≤ i
  li : i ≤ l.length
  all : splitOn c l = out ++ splitOn c (l.drop from_)
  no : ∀ x ∈ (l.drop from_).take (i - from_), x ≠ c
theorem Scan.start (c : UInt8) (l : Bs) : Scan c l 0 [] 0 := ⟨Nat.le_refl _, Nat.zero_le _, by simp, by simp⟩
theorem Scan.skip {c : UInt8} {l : Bs} {i : Nat} {out : List Bs} {f : Nat} (h : Scan c l i out f) (hi : i < l.length) (hc : l[i]'hi ≠ c) : Scan c l (i + 1) out f := by
  refine ⟨by have := h.le; omega, hi, h.all, ?_⟩
  have hf := h.le
  rw [show i + 1 - f = (i - f) + 1 by omega, List.take_succ_eq_append_getElem (by simp; omega)]
  intro x hx; simp at hx; rcases hx with hx | rfl
  · exact h.no x (by simpa using hx)
  · have e : f + (i - f) = i := by omega
    simp only [e]; exact hc
theorem Scan.cut {c : UInt8} {l : Bs} {i : Nat} {out : List Bs} {f : Nat} (h : Scan c l i out f) (hi : i < l.length) (hc : l[i]'hi = c) : Scan c l (i + 1) (out ++ [(l.drop f).take (i - f)]) (i + 1) := by
  have hf := h.le
  refine ⟨Nat.le_refl _, hi, ?_, by simp⟩
  have e : l.drop f = (l.drop f).take (i - f) ++ c :: l.drop (i + 1) := by
    have h1 : l.drop f = (l.drop f).take (i - f) ++ (l.drop f).drop (i - f) := (List.take_append_drop _ _).symm
    have h2 : (l.drop f).drop (i - f) = c :: l.drop (i + 1) := by
      rw [List.drop_drop, show f + (i - f) = i by omega, List.drop_eq_getElem_cons hi, hc]
    rw [h2] at h1; exact h1
  rw [h.all]
  conv => lhs; rw [e]
  rw [splitOn_cut c _ _ h.no]; simp
theorem Scan.end_ {c : UInt8} {l : Bs} {out : List Bs} {f i : Nat} (h : Scan c l i out f) (hi : ¬ i < l.length) : splitOn c l = out ++ [l.drop f] := by
  have hl := h.li
  rw [h.all]; congr 1
  apply splitOn_none
  intro x hx; apply h.no x
  rw [List.take_of_length_le (by simp; omega)]; exact hx
end Go.Proofs.YteeampgbmpolfaaGreatDoor
