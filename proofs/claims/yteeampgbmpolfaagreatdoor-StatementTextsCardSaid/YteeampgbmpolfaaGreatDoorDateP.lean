/- Plain: the calendar from 1900 to 2199. No program in sight. -/
import Derived.Test.YteeampgbmpolfaaGreatDoorIntP
import Derived.Lib.ItoaNum
namespace Go.Proofs.YteeampgbmpolfaaGreatDoor
open Go.RowKit
def leap (y : Int) : Bool := (y % 4 == 0 && y % 100 != 0) || y % 400 == 0
def lp (y : Int) : Int := if leap y then 1 else 0
def mlen (y m : Int) : Int := if m = 2 then 28 + lp y else if m = 4 ∨ m = 6 ∨ m = 9 ∨ m = 11 then 30 else 31
/-- days from January 1, 1900 to the beginning of a year -/
def beg (y : Int) : Int := 365 * (y - 1900) + ((y - 1) / 4 - (y - 1) / 100 + (y - 1) / 400) - 460
/-- days from the beginning of the year to the beginning of a month -/
def cum (y m : Int) : Int :=
  if m ≤ 1 then 0 else if m = 2 then 31 else lp y + (if m = 3 then 59 else if m = 4 then 90 else if m = 5 then 120 else if m = 6 then 151 else if m = 7 then 181 else if m = 8 then 212 else if m = 9 then 243 else if m = 10 then 273 else if m = 11 then 304 else if m = 12 then 334 else 365)
theorem leap_iff (y : Int) : leap y = true ↔ (y % 4 = 0 ∧ y % 100 ≠ 0) ∨ y % 400 = 0 := by simp [leap]
theorem lp_01 (y : Int) : lp y = 0 ∨ lp y = 1 := by unfold lp; split <;> simp
theorem lp_of (y : Int) : (lp y = 1 ∧ ((y % 4 = 0 ∧ y % 100 ≠ 0) ∨ y % 400 = 0)) ∨ (lp y = 0 ∧ ¬ ((y % 4 = 0 ∧ y % 100 ≠ 0) ∨ y % 400 = 0)) := by
  unfold lp; by_cases h : leap y = true
  · left; exact ⟨by rw [if_pos h], (leap_iff y).1 h⟩
  · right; exact ⟨by rw [if_neg h], fun hh => h ((leap_iff y).2 hh)⟩
theorem beg_succ (y : Int) : beg (y + 1) = beg y + 365 + lp y := by
  have := lp_of y; unfold beg; omega
theorem beg_1900 : beg 1900 = 0 := by decide
theorem beg_2200 : beg 2200 = 109573 := by decide
theorem beg_mono {a b : Int} (h : a ≤ b) : beg a ≤ beg b := by unfold beg; omega
theorem beg_lt {a b : Int} (h : beg a < beg b) : a < b := by
  rcases Int.lt_or_le a b with h' | h'
  · exact h'
  · have := beg_mono h'; omega
theorem mlen_cum (y m : Int) (h1 : 1 ≤ m) (h2 : m ≤ 12) : cum y (m + 1) = cum y m + mlen y m := by
  have h := lp_01 y
  have hm : m = 1 ∨ m = 2 ∨ m = 3 ∨ m = 4 ∨ m = 5 ∨ m = 6 ∨ m = 7 ∨ m = 8 ∨ m = 9 ∨ m = 10 ∨ m = 11 ∨ m = 12 := by omega
  rcases hm with rfl | rfl | rfl | rfl | rfl | rfl | rfl | rfl | rfl | rfl | rfl | rfl <;> simp [cum, mlen] <;> omega
theorem cum_1 (y : Int) : cum y 1 = 0 := by simp [cum]
theorem cum_13 (y : Int) : cum y 13 = 365 + lp y := by simp [cum]; omega
theorem mlen_bd (y m : Int) : 28 ≤ mlen y m ∧ mlen y m ≤ 31 := by
  have := lp_01 y; unfold mlen; split <;> (try split) <;> omega
theorem cum_mono (y : Int) {a b : Int} (h : a ≤ b) : cum y a ≤ cum y b := by
  have := lp_01 y
  unfold cum
  repeat (first | omega | split)
theorem cum_bd (y m : Int) : 0 ≤ cum y m ∧ cum y m ≤ 366 := by
  have := lp_01 y
  unfold cum
  constructor <;> repeat (first | omega | split)
/-- the year of the n-th day from January 1, 1900 on -/
def yr (n : Int) : Int := 1900 + (((List.range 300).find? (fun k : Nat => decide (n < beg (1901 + (k : Int))))).getD 0 : Nat)
/-- the month of the r-th day of a year -/
def mo (y r : Int) : Int := 1 + (((List.range 12).find? (fun k : Nat => decide (r < cum y (2 + (k : Int))))).getD 0 : Nat)
theorem yr_eq {n y : Int} (h1 : 1900 ≤ y) (h2 : y ≤ 2199) (h3 : beg y ≤ n) (h4 : n < beg (y + 1)) : yr n = y := by
  have : (List.range 300).find? (fun k : Nat => decide (n < beg (1901 + (k : Int)))) = some (y - 1900).toNat := by
    rw [List.find?_range_eq_some]
    refine ⟨?_, by rw [List.mem_range]; omega, fun j hj => ?_⟩
    · rw [decide_eq_true_eq, show (1901 + ((y - 1900).toNat : Int)) = y + 1 by omega]; exact h4
    · rw [Bool.not_eq_true', decide_eq_false_iff_not]
      have := beg_mono (show (1901 + (j : Int)) ≤ y by omega); omega
  unfold yr; rw [this]; simp only [Option.getD_some]; omega
theorem mo_eq {y r m : Int} (h1 : 1 ≤ m) (h2 : m ≤ 12) (h3 : cum y m ≤ r) (h4 : r < cum y (m + 1)) : mo y r = m := by
  have : (List.range 12).find? (fun k : Nat => decide (r < cum y (2 + (k : Int)))) = some (m - 1).toNat := by
    rw [List.find?_range_eq_some]
    refine ⟨?_, by rw [List.mem_range]; omega, fun j hj => ?_⟩
    · rw [decide_eq_true_eq, show (2 + ((m - 1).toNat : Int)) = m + 1 by omega]; exact h4
    · rw [Bool.not_eq_true', decide_eq_false_iff_not]
      have := cum_mono y (show (2 + (j : Int)) ≤ m by omega); omega
  unfold mo; rw [this]; simp only [Option.getD_some]; omega
/-- whether d is a day -/
def okDay (d : Int) : Bool := decide (-25567 ≤ d) && decide (d ≤ 84005)
def dYear (d : Int) : Int := yr (d + 25567)
def dRest (d : Int) : Int := d + 25567 - beg (dYear d)
def dMonth (d : Int) : Int := mo (dYear d) (dRest d)
def dDay (d : Int) : Int := dRest d - cum (dYear d) (dMonth d) + 1
theorem yr_ex {n : Int} (h1 : 0 ≤ n) (h2 : n ≤ 109572) : ∃ y, 1900 ≤ y ∧ y ≤ 2199 ∧ beg y ≤ n ∧ n < beg (y + 1) := by
  have key : ∀ k : Nat, k ≤ 300 → n < beg (1900 + (k : Int)) → ∃ y, 1900 ≤ y ∧ y < 1900 + (k : Int) ∧ beg y ≤ n ∧ n < beg (y + 1) := by
    intro k
    induction k with
    | zero => intro _ h; have := beg_1900; simp only [Int.natCast_zero, Int.add_zero] at h; omega
    | succ k ih =>
      intro hk h
      by_cases hlt : n < beg (1900 + (k : Int))
      · obtain ⟨y, a, b, c, d⟩ := ih (by omega) hlt; exact ⟨y, a, by omega, c, d⟩
      · exact ⟨1900 + (k : Int), by omega, by omega, by omega, by rw [show (1900 + (k : Int)) + 1 = 1900 + ((k + 1 : Nat) : Int) by omega]; exact h⟩
  obtain ⟨y, a, b, c, d⟩ := key 300 (by omega) (by have := beg_2200; simp only [show (1900 + ((300 : Nat) : Int)) = 2200 by decide]; omega)
  exact ⟨y, a, by omega, c, d⟩
theorem mo_ex {y r : Int} (h1 : 0 ≤ r) (h2 : r < 365 + lp y) : ∃ m, 1 ≤ m ∧ m ≤ 12 ∧ cum y m ≤ r ∧ r < cum y (m + 1) := by
  have key : ∀ k : Nat, k ≤ 12 → r < cum y (1 + (k : Int)) → ∃ m, 1 ≤ m ∧ m < 1 + (k : Int) ∧ cum y m ≤ r ∧ r < cum y (m + 1) := by
    intro k
    induction k with
    | zero => intro _ h; have := cum_1 y; simp only [Int.natCast_zero, Int.add_zero] at h; omega
    | succ k ih =>
      intro hk h
      by_cases hlt : r < cum y (1 + (k : Int))
      · obtain ⟨y, a, b, c, d⟩ := ih (by omega) hlt; exact ⟨y, a, by omega, c, d⟩
      · exact ⟨1 + (k : Int), by omega, by omega, by omega, by rw [show (1 + (k : Int)) + 1 = 1 + ((k + 1 : Nat) : Int) by omega]; exact h⟩
  obtain ⟨m, a, b, c, d⟩ := key 12 (by omega) (by have := cum_13 y; simp only [show (1 + ((12 : Nat) : Int)) = 13 by decide]; omega)
  exact ⟨m, a, by omega, c, d⟩
theorem okDay_iff (d : Int) : okDay d = true ↔ -25567 ≤ d ∧ d ≤ 84005 := by simp [okDay]
theorem dYear_spec {d : Int} (h : okDay d = true) : 1900 ≤ dYear d ∧ dYear d ≤ 2199 ∧ 0 ≤ dRest d ∧ dRest d < 365 + lp (dYear d) := by
  rw [okDay_iff] at h
  obtain ⟨y, a, b, c, e⟩ := yr_ex (n := d + 25567) (by omega) (by omega)
  have hy : dYear d = y := yr_eq a b c e
  have hr : dRest d = d + 25567 - beg y := by unfold dRest; rw [hy]
  rw [hr, hy]
  rw [beg_succ] at e; omega
theorem dMonth_spec {d : Int} (h : okDay d = true) : 1 ≤ dMonth d ∧ dMonth d ≤ 12 ∧ 1 ≤ dDay d ∧ dDay d ≤ mlen (dYear d) (dMonth d) := by
  obtain ⟨_, _, h1, h2⟩ := dYear_spec h
  obtain ⟨m, a, b, c, e⟩ := mo_ex h1 h2
  have hm : dMonth d = m := mo_eq a b c e
  have hd : dDay d = dRest d - cum (dYear d) m + 1 := by unfold dDay; rw [hm]
  rw [hd, hm]
  rw [mlen_cum _ _ a b] at e; omega
theorem parts_eq {d y m k : Int} (h1 : 1900 ≤ y) (h2 : y ≤ 2199) (h3 : 1 ≤ m) (h4 : m ≤ 12) (h5 : 1 ≤ k) (h6 : k ≤ mlen y m) (h : d + 25567 = beg y + cum y m + k - 1) :
    dYear d = y ∧ dMonth d = m ∧ dDay d = k := by
  have hc := cum_bd y m
  have hs := mlen_cum y m h3 h4
  have hm := cum_mono y (show m + 1 ≤ 13 by omega)
  have h13 := cum_13 y
  have hb := beg_succ y
  have hc1 := cum_mono y (show 1 ≤ m by omega)
  have c1 := cum_1 y
  have hy : dYear d = y := yr_eq h1 h2 (by omega) (by omega)
  have hr : dRest d = cum y m + k - 1 := by unfold dRest; rw [hy]; omega
  have hmo : dMonth d = m := by unfold dMonth; rw [hy, hr]; exact mo_eq h3 h4 (by omega) (by omega)
  refine ⟨hy, hmo, ?_⟩
  unfold dDay; rw [hmo, hy, hr]; omega
/-- the day of a date -/
def ofDate (y m k : Int) : Int := beg y + cum y m + k - 1 - 25567
def okDate (y m k : Int) : Bool := decide (1900 ≤ y) && decide (y ≤ 2199) && decide (1 ≤ m) && decide (m ≤ 12) && decide (1 ≤ k) && decide (k ≤ mlen y m)
theorem okDate_iff (y m k : Int) : okDate y m k = true ↔ (((((1900 ≤ y ∧ y ≤ 2199) ∧ 1 ≤ m) ∧ m ≤ 12) ∧ 1 ≤ k) ∧ k ≤ mlen y m) := by simp [okDate]
theorem ofDate_ok {y m k : Int} (h : okDate y m k = true) : okDay (ofDate y m k) = true := by
  rw [okDate_iff] at h
  have a := beg_mono (show 1900 ≤ y by omega)
  have b := beg_mono (show y + 1 ≤ 2200 by omega)
  have c := beg_1900
  have e := beg_2200
  have f := beg_succ y
  have g := cum_mono y (show 1 ≤ m by omega)
  have i := cum_mono y (show m + 1 ≤ 13 by omega)
  have j := mlen_cum y m (by omega) (by omega)
  have k1 := cum_1 y
  have k2 := cum_13 y
  rw [okDay_iff]; unfold ofDate; omega
/-- two digits -/
def two (n : Int) : Bs := [UInt8.ofNat (48 + n.toNat / 10 % 10), UInt8.ofNat (48 + n.toNat % 10)]
def four (n : Int) : Bs := [UInt8.ofNat (48 + n.toNat / 1000 % 10), UInt8.ofNat (48 + n.toNat / 100 % 10), UInt8.ofNat (48 + n.toNat / 10 % 10), UInt8.ofNat (48 + n.toNat % 10)]
def dateText (d : Int) : Bs := if okDay d then four (dYear d) ++ [45] ++ two (dMonth d) ++ [45] ++ two (dDay d) else []
def dateErr (d : Int) : Int := if okDay d then 0 else 13
end Go.Proofs.YteeampgbmpolfaaGreatDoor
