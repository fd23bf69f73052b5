/- Plain: statements, and what Check answers. No program in sight. -/
import Derived.Test.YteeampgbmpolfaaGreatDoorNameP
import Derived.Test.YteeampgbmpolfaaGreatDoorDateP
namespace Go.Proofs.YteeampgbmpolfaaGreatDoor
open Go.RowKit

structure Hd where
  ins : Bs
  qty : Bs
structure Mv where
  ref : Bs
  day : Int
  ins : Bs
  qty : Bs
  amt : Bs
structure St where
  day : Int
  hs : List Hd
  ms : List Mv

/-- a comes before b -/
def lt (a b : Bs) : Bool := Op.bytesLess a b
theorem lt_irrefl (a : Bs) : lt a a = false := by
  unfold lt; induction a with
  | nil => rfl
  | cons c r ih => simp [Op.bytesLess, ih]
theorem lt_asymm : ∀ (a b : Bs), lt a b = true → lt b a = false := by
  intro a; induction a with
  | nil => intro b _; unfold lt; cases b <;> rfl
  | cons c r ih =>
    intro b h; cases b with
    | nil => simp [lt, Op.bytesLess] at h
    | cons d s =>
      simp only [lt, Op.bytesLess, Bool.or_eq_true, decide_eq_true_eq, Bool.and_eq_true, beq_iff_eq] at h
      simp only [lt, Op.bytesLess, Bool.or_eq_false_iff, decide_eq_false_iff_not, Bool.and_eq_false_iff]
      rcases h with h | ⟨rfl, h⟩
      · exact ⟨by rw [UInt8.lt_iff_toNat_lt] at h ⊢; omega, .inl (by rw [beq_eq_false_iff_ne]; intro e; subst e; rw [UInt8.lt_iff_toNat_lt] at h; omega)⟩
      · exact ⟨by rw [UInt8.lt_iff_toNat_lt]; omega, .inr (ih s h)⟩
theorem lt_total : ∀ (a b : Bs), lt a b = false → lt b a = false → a = b := by
  intro a; induction a with
  | nil => intro b h _; cases b with | nil => rfl | cons d s => simp [lt, Op.bytesLess] at h
  | cons c r ih =>
    intro b h k; cases b with
    | nil => simp [lt, Op.bytesLess] at k
    | cons d s =>
      simp only [lt, Op.bytesLess, Bool.or_eq_false_iff, decide_eq_false_iff_not, Bool.and_eq_false_iff] at h k
      have e : c = d := by
        apply UInt8.toNat_inj.1
        have h1 := h.1; have k1 := k.1
        rw [UInt8.lt_iff_toNat_lt] at h1 k1; omega
      subst e
      have h2 : Op.bytesLess r s = false := by rcases h.2 with h | h; simp at h; exact h
      have k2 : Op.bytesLess s r = false := by rcases k.2 with h | h; simp at h; exact h
      rw [ih s h2 k2]
theorem lt_trans : ∀ (a b c : Bs), lt a b = true → lt b c = true → lt a c = true := by
  intro a; induction a with
  | nil =>
    intro b c h k; cases c with
    | nil => cases b <;> simp [lt, Op.bytesLess] at k
    | cons => rfl
  | cons x r ih =>
    intro b c h k; cases b with
    | nil => simp [lt, Op.bytesLess] at h
    | cons y s =>
      cases c with
      | nil => simp [lt, Op.bytesLess] at k
      | cons z t =>
        simp only [lt, Op.bytesLess, Bool.or_eq_true, decide_eq_true_eq, Bool.and_eq_true, beq_iff_eq] at h k ⊢
        rcases h with h | ⟨rfl, h⟩
        · rcases k with k | ⟨rfl, k⟩
          · left; rw [UInt8.lt_iff_toNat_lt] at h k ⊢; omega
          · left; exact h
        · rcases k with k | ⟨rfl, k⟩
          · left; exact k
          · right; exact ⟨rfl, ih s t h k⟩
/-- the program's 'a <= b' is the reference's 'b >= a' -/
theorem leq_geq (a b : Bs) : (Op.bytesLess a b || a == b) = !(Op.bytesLess b a) := by
  show (lt a b || a == b) = !(lt b a)
  cases h : lt b a with
  | true =>
    have h2 := lt_asymm b a h
    rw [h2, Bool.false_or, Bool.not_true, beq_eq_false_iff_ne]
    intro e; subst e; rw [lt_irrefl] at h; cases h
  | false =>
    cases h2 : lt a b with
    | true => rfl
    | false => rw [lt_total a b h2 h]; simp

/-- the first f k that is not 0, for k below n -/
def firstErr (f : Nat → Int) (n : Nat) : Int := match (List.range n).find? (fun k => f k != 0) with | some k => f k | none => 0
theorem firstErr_hit (f : Nat → Int) (n k : Nat) (hk : k < n) (h : ∀ j, j < k → f j = 0) (hf : f k ≠ 0) : firstErr f n = f k := by
  have : (List.range n).find? (fun k => f k != 0) = some k := by
    rw [List.find?_range_eq_some]
    exact ⟨by simp [hf], by rw [List.mem_range]; exact hk, fun j hj => by simp [h j hj]⟩
  unfold firstErr; rw [this]
theorem firstErr_none (f : Nat → Int) (n : Nat) (h : ∀ j, j < n → f j = 0) : firstErr f n = 0 := by
  have : (List.range n).find? (fun k => f k != 0) = none := by
    rw [List.find?_eq_none]; intro x hx; rw [List.mem_range] at hx; simp [h x hx]
  unfold firstErr; rw [this]
theorem firstErr_zero (f : Nat → Int) (n : Nat) : firstErr f n = 0 ↔ ∀ j, j < n → f j = 0 := by
  constructor
  · intro h j
    induction j using Nat.strongRecOn with
    | ind j ih =>
      intro hj
      by_cases hf : f j = 0
      · exact hf
      · exfalso
        have := firstErr_hit f n j hj (fun i hi => ih i hi (by omega)) hf
        rw [h] at this; exact hf this.symm
  · exact firstErr_none f n

def numE1 (ls : List Bs) : Bool := ls.any fun l => checkI l != 0
def numE4 (ls : List Bs) : Bool := ls.any fun l => decide (40 < digs l)
/-- why numbers are not valid -/
def numE (ls : List Bs) : Int := if numE1 ls then 1 else if numE4 ls then 4 else 0

def chH (hs : List Hd) (k : Nat) : Int :=
  match hs[k]? with
  | none => 0
  | some h => if isName h.ins = false then 23 else if numE [h.qty] ≠ 0 then numE [h.qty] else if h.qty = [] then 2 else if 0 < k ∧ lt ((hs[k - 1]?.map (·.ins)).getD []) h.ins = false then 8 else 0
def checkH (hs : List Hd) : Int := if 64 < hs.length then 4 else firstErr (chH hs) hs.length
def chM (day : Int) (ms : List Mv) (k : Nat) : Int :=
  match ms[k]? with
  | none => 0
  | some m => if isName m.ref = false then 23 else if okDay m.day = false ∨ day < m.day then 13 else if isName m.ins = false then 23 else if numE [m.qty, m.amt] ≠ 0 then numE [m.qty, m.amt] else if m.qty = [] then 2 else if 0 < k ∧ m.day < (ms[k - 1]?.map (·.day)).getD 0 then 8 else 0
def checkM (day : Int) (ms : List Mv) : Int := if 1000 < ms.length then 4 else firstErr (chM day ms) ms.length
def checkS (s : St) : Int := if okDay s.day = false then 13 else if checkH s.hs ≠ 0 then checkH s.hs else checkM s.day s.ms
end Go.Proofs.YteeampgbmpolfaaGreatDoor
