/- Plain: the text of a statement. No program in sight. -/
import Derived.Test.YteeampgbmpolfaaGreatDoorStP
import Derived.Lib.Join
namespace Go.Proofs.YteeampgbmpolfaaGreatDoor
open Go.RowKit
def wStatement : Bs := [115, 116, 97, 116, 101, 109, 101, 110, 116]
def wHolding : Bs := [104, 111, 108, 100, 105, 110, 103]
def wMovement : Bs := [109, 111, 118, 101, 109, 101, 110, 116]
def joinSp (ls : List Bs) : Bs := Lib.join ls [32]
theorem joinSp_2 (a b : Bs) : joinSp [a, b] = a ++ 32 :: b := by simp [joinSp, Lib.join, List.intercalate]
theorem joinSp_3 (a b c : Bs) : joinSp [a, b, c] = a ++ 32 :: (b ++ 32 :: c) := by simp [joinSp, Lib.join, List.intercalate]
theorem joinSp_6 (a b c d e f : Bs) : joinSp [a, b, c, d, e, f] = a ++ 32 :: (b ++ 32 :: (c ++ 32 :: (d ++ 32 :: (e ++ 32 :: f)))) := by simp [joinSp, Lib.join, List.intercalate]
def lineS (d : Int) : Bs := joinSp [wStatement, dateText d] ++ [10]
def lineH (h : Hd) : Bs := joinSp [wHolding, h.ins, printI h.qty] ++ [10]
def lineM (m : Mv) : Bs := joinSp [wMovement, m.ref, dateText m.day, m.ins, printI m.qty, printI m.amt] ++ [10]
def textH (s : St) (k : Nat) : Bs := lineS s.day ++ (s.hs.take k).flatMap lineH
def textM (s : St) (k : Nat) : Bs := lineS s.day ++ s.hs.flatMap lineH ++ (s.ms.take k).flatMap lineM
def textS (s : St) : Bs := lineS s.day ++ s.hs.flatMap lineH ++ s.ms.flatMap lineM
def printSV (s : St) : Bs := if checkS s ≠ 0 then [] else if 65536 < (textS s).length then [] else textS s
def printSE (s : St) : Int := if checkS s ≠ 0 then checkS s else if 65536 < (textS s).length then 4 else 0
theorem printS_big {s : St} (h : checkS s = 0) (hb : 65536 < (textS s).length) : printSV s = [] ∧ printSE s = 4 := by
  simp [printSV, printSE, h, hb]
theorem printS_small {s : St} (h : checkS s = 0) (hb : ¬ 65536 < (textS s).length) : printSV s = textS s ∧ printSE s = 0 := by
  simp only [printSV, printSE, h, hb]; simp
theorem printS_bad {s : St} (h : checkS s ≠ 0) : printSV s = [] ∧ printSE s = checkS s := by
  simp [printSV, printSE, h]
theorem dateText_len (d : Int) : (dateText d).length ≤ 10 := by unfold dateText; split <;> simp [four, two]
theorem printI_len (l : Bs) : (printI l).length ≤ l.length + 1 := by
  unfold printI; have := canon_le l; split <;> simp <;> omega
theorem lineS_len (d : Int) : (lineS d).length ≤ 1000 := by
  have := dateText_len d; unfold lineS; rw [joinSp_2]; simp [wStatement]; omega
theorem textH_succ (s : St) (k : Nat) (h : k < s.hs.length) : textH s (k + 1) = textH s k ++ lineH (s.hs[k]'h) := by
  unfold textH; rw [List.take_succ_eq_append_getElem h, List.flatMap_append, ← List.append_assoc]; simp
theorem textM_succ (s : St) (k : Nat) (h : k < s.ms.length) : textM s (k + 1) = textM s k ++ lineM (s.ms[k]'h) := by
  unfold textM; rw [List.take_succ_eq_append_getElem h, List.flatMap_append, ← List.append_assoc]; simp
theorem textH_0 (s : St) : textH s 0 = lineS s.day := by simp [textH]
theorem textH_end (s : St) (k : Nat) (h : s.hs.length ≤ k) : textH s k = textM s 0 := by
  unfold textH textM; rw [List.take_of_length_le h]; simp
theorem textM_end (s : St) (k : Nat) (h : s.ms.length ≤ k) : textM s k = textS s := by
  unfold textM textS; rw [List.take_of_length_le h]
/-- what a check that passes says of one holding -/
theorem chH_ok {hs : List Hd} {k : Nat} (hk : k < hs.length) (h : chH hs k = 0) :
    isName (hs[k]'hk).ins = true ∧ numE [(hs[k]'hk).qty] = 0 ∧ (hs[k]'hk).qty ≠ [] ∧ (0 < k → lt ((hs[k - 1]?.map (·.ins)).getD []) (hs[k]'hk).ins = true) := by
  unfold chH at h; rw [List.getElem?_eq_getElem hk] at h
  simp only at h
  by_cases h1 : isName (hs[k]'hk).ins = false
  · rw [if_pos h1] at h; cases h
  rw [if_neg h1] at h
  by_cases h2 : numE [(hs[k]'hk).qty] ≠ 0
  · rw [if_pos h2] at h; exact absurd h h2
  rw [if_neg h2] at h
  by_cases h3 : (hs[k]'hk).qty = []
  · rw [if_pos h3] at h; cases h
  rw [if_neg h3] at h
  refine ⟨by simpa using h1, by simpa using h2, h3, fun h0 => ?_⟩
  by_cases h4 : lt ((hs[k - 1]?.map (·.ins)).getD []) (hs[k]'hk).ins = false
  · rw [if_pos ⟨h0, h4⟩] at h; cases h
  · simpa using h4
theorem chM_ok {day : Int} {ms : List Mv} {k : Nat} (hk : k < ms.length) (h : chM day ms k = 0) :
    isName (ms[k]'hk).ref = true ∧ okDay (ms[k]'hk).day = true ∧ (ms[k]'hk).day ≤ day ∧ isName (ms[k]'hk).ins = true ∧ numE [(ms[k]'hk).qty, (ms[k]'hk).amt] = 0 ∧ (ms[k]'hk).qty ≠ [] ∧ (0 < k → (ms[k - 1]?.map (·.day)).getD 0 ≤ (ms[k]'hk).day) := by
  unfold chM at h; rw [List.getElem?_eq_getElem hk] at h
  simp only at h
  by_cases h1 : isName (ms[k]'hk).ref = false
  · rw [if_pos h1] at h; cases h
  rw [if_neg h1] at h
  by_cases h2 : okDay (ms[k]'hk).day = false ∨ day < (ms[k]'hk).day
  · rw [if_pos h2] at h; cases h
  rw [if_neg h2] at h
  by_cases h3 : isName (ms[k]'hk).ins = false
  · rw [if_pos h3] at h; cases h
  rw [if_neg h3] at h
  by_cases h4 : numE [(ms[k]'hk).qty, (ms[k]'hk).amt] ≠ 0
  · rw [if_pos h4] at h; exact absurd h h4
  rw [if_neg h4] at h
  by_cases h5 : (ms[k]'hk).qty = []
  · rw [if_pos h5] at h; cases h
  rw [if_neg h5] at h
  refine ⟨by simpa using h1, ?_, ?_, by simpa using h3, by simpa using h4, h5, fun h0 => ?_⟩
  · cases hh : okDay (ms[k]'hk).day with
    | true => rfl
    | false => exact absurd (.inl hh) h2
  · rcases Int.lt_or_le day (ms[k]'hk).day with hh | hh
    · exact absurd (.inr hh) h2
    · exact hh
  · by_cases h6 : (ms[k]'hk).day < (ms[k - 1]?.map (·.day)).getD 0
    · rw [if_pos ⟨h0, h6⟩] at h; cases h
    · omega
theorem checkS_ok {s : St} (h : checkS s = 0) : okDay s.day = true ∧ s.hs.length ≤ 64 ∧ s.ms.length ≤ 1000 ∧ (∀ k, k < s.hs.length → chH s.hs k = 0) ∧ (∀ k, k < s.ms.length → chM s.day s.ms k = 0) := by
  unfold checkS at h
  by_cases h1 : okDay s.day = false
  · rw [if_pos h1] at h; cases h
  rw [if_neg h1] at h
  by_cases h2 : checkH s.hs = 0
  · rw [if_neg (fun e => e h2)] at h
    unfold checkH at h2; unfold checkM at h
    by_cases h3 : 64 < s.hs.length
    · rw [if_pos h3] at h2; cases h2
    rw [if_neg h3] at h2
    by_cases h4 : 1000 < s.ms.length
    · rw [if_pos h4] at h; cases h
    rw [if_neg h4] at h
    exact ⟨by simpa using h1, by omega, by omega, (firstErr_zero _ _).1 h2, (firstErr_zero _ _).1 h⟩
  · rw [if_pos h2] at h; exact absurd h h2
theorem numE_zero {ls : List Bs} (h : numE ls = 0) {l : Bs} (hl : l ∈ ls) : canon l = l ∧ digs l ≤ 40 := by
  unfold numE at h
  by_cases h1 : numE1 ls = true
  · rw [if_pos h1] at h; cases h
  rw [if_neg h1] at h
  by_cases h4 : numE4 ls = true
  · rw [if_pos h4] at h; cases h
  refine ⟨?_, ?_⟩
  · by_cases hc : canon l = l
    · exact hc
    · exfalso; apply h1; unfold numE1; rw [List.any_eq_true]; exact ⟨l, hl, by simp [checkI, hc]⟩
  · rcases Int.lt_or_le 40 (digs l) with hh | hh
    · exfalso; apply h4; unfold numE4; rw [List.any_eq_true]; exact ⟨l, hl, by simpa using hh⟩
    · exact hh
theorem printI_of {l : Bs} (h : canon l = l) (h0 : l ≠ []) : printI l = l := by unfold printI; rw [h, if_neg h0]
theorem digs_len (l : Bs) : (l.length : Int) ≤ digs l + 1 := by
  unfold digs strip; split
  · cases l <;> simp
  · omega
theorem isName_len {l : Bs} (h : isName l = true) : 1 ≤ l.length ∧ l.length ≤ 16 := by
  unfold isName at h; simp only [Bool.and_eq_true, decide_eq_true_eq] at h; exact ⟨h.1.1, h.1.2⟩
theorem lineH_len {h : Hd} (hn : isName h.ins = true) (hq : numE [h.qty] = 0) : (lineH h).length ≤ 100 := by
  have h1 := isName_len hn
  have h2 := (numE_zero hq (l := h.qty) (by simp)).2
  have h3 := digs_len h.qty
  have h4 := printI_len h.qty
  unfold lineH; rw [joinSp_3]; simp [wHolding]; omega
theorem lineM_len {m : Mv} (hr : isName m.ref = true) (hn : isName m.ins = true) (hq : numE [m.qty, m.amt] = 0) : (lineM m).length ≤ 200 := by
  have h1 := isName_len hn
  have h1' := isName_len hr
  have h2 := (numE_zero hq (l := m.qty) (by simp)).2
  have h3 := digs_len m.qty
  have h4 := printI_len m.qty
  have k2 := (numE_zero hq (l := m.amt) (by simp)).2
  have k3 := digs_len m.amt
  have k4 := printI_len m.amt
  have h5 := dateText_len m.day
  unfold lineM; rw [joinSp_6]; simp [wMovement]; omega
theorem flat_le {α : Type} (f : α → Bs) (n : Nat) : ∀ (l : List α), (∀ a ∈ l, (f a).length ≤ n) → (l.flatMap f).length ≤ l.length * n := by
  intro l; induction l with
  | nil => simp
  | cons a r ih =>
    intro h; rw [List.flatMap_cons, List.length_append, List.length_cons, Nat.succ_mul]
    have := h a (by simp); have := ih (fun b hb => h b (by simp [hb])); omega
theorem textH_len {s : St} (hc : checkS s = 0) (k : Nat) : (textH s k).length ≤ 10000 := by
  obtain ⟨_, h64, _, hh, _⟩ := checkS_ok hc
  have h1 := lineS_len s.day
  have h2 := flat_le lineH 100 (s.hs.take k) (fun a ha => by
    obtain ⟨j, hj, rfl⟩ := List.mem_iff_getElem.1 (List.mem_of_mem_take ha)
    obtain ⟨a, b, _, _⟩ := chH_ok hj (hh j hj)
    exact lineH_len a b)
  have h3 : (s.hs.take k).length ≤ 64 := by rw [List.length_take]; omega
  have h4 : (s.hs.take k).length * 100 ≤ 64 * 100 := Nat.mul_le_mul_right _ h3
  unfold textH; rw [List.length_append]; omega
theorem textM_len {s : St} (hc : checkS s = 0) (k : Nat) : (textM s k).length ≤ 300000 := by
  obtain ⟨_, h64, h1000, hh, hm⟩ := checkS_ok hc
  have h0 := textH_len hc s.hs.length
  rw [textH_end s _ (Nat.le_refl _)] at h0
  have e : textM s k = textM s 0 ++ (s.ms.take k).flatMap lineM := by simp [textM]
  have h2 := flat_le lineM 200 (s.ms.take k) (fun a ha => by
    obtain ⟨j, hj, rfl⟩ := List.mem_iff_getElem.1 (List.mem_of_mem_take ha)
    obtain ⟨a, _, _, b, c, _, _⟩ := chM_ok hj (hm j hj)
    exact lineM_len a b c)
  have h3 : (s.ms.take k).length ≤ 1000 := by rw [List.length_take]; omega
  have h4 : (s.ms.take k).length * 200 ≤ 1000 * 200 := Nat.mul_le_mul_right _ h3
  rw [e, List.length_append]; omega
end Go.Proofs.YteeampgbmpolfaaGreatDoor
