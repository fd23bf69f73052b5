/- The walks over the program's integer functions on texts: digits, Canonical, Check, Print, Parse. -/
import Derived.Test.YteeampgbmpolfaaGreatDoorIntP
import Derived.Test.YteeampgbmpolfaaGreatDoorMem
import Derived.Test.YteeampgbmpolfaaGreatDoorShelf
import Derived.Shelf.Strings.SlTrimAscii
namespace Go.Proofs.YteeampgbmpolfaaGreatDoor
open Go.RowKit Go.Shelf
attribute [local go_sem] size_bs toList_bs extract_bs get_bs append_bs lit_append append_lit

theorem noZeros_drop (l : Bs) : l.dropWhile (· == 48) = noZeros l := by
  induction l with
  | nil => rfl
  | cons c r ih =>
    unfold noZeros; rw [List.dropWhile_cons]
    by_cases h : c = 48
    · simp [h]; exact ih
    · simp [h]

def trimD (l : Bs) : Bs := Lib.trimS l [48, 49, 50, 51, 52, 53, 54, 55, 56, 57]
theorem isD_mem (c : UInt8) : ([48, 49, 50, 51, 52, 53, 54, 55, 56, 57] : Bs).contains c = isD c := by
  have h : ∀ n : Fin 256, ([48, 49, 50, 51, 52, 53, 54, 55, 56, 57] : Bs).contains (UInt8.ofNat n.val) = isD (UInt8.ofNat n.val) := by decide +kernel
  have hc := h ⟨c.toNat, c.toNat_lt⟩
  simpa using hc
theorem dropWhile_nil_iff (p : UInt8 → Bool) (l : Bs) : l.dropWhile p = [] ↔ l.all p = true := by
  induction l with
  | nil => simp
  | cons c r ih =>
    rw [List.dropWhile_cons]
    by_cases h : p c = true
    · simp only [h, if_true, List.all_cons, Bool.true_and]; exact ih
    · simp [h]
theorem trimD_nil (l : Bs) : trimD l = [] ↔ l.all isD = true := by
  unfold trimD Lib.trimS Lib.trimLeftS Lib.trimRightS
  have he : (fun x => ([48, 49, 50, 51, 52, 53, 54, 55, 56, 57] : Bs).contains x) = isD := funext isD_mem
  rw [he, dropWhile_nil_iff, List.all_reverse]
  constructor
  · intro h
    by_cases hn : l.reverse.dropWhile isD = []
    · rw [dropWhile_nil_iff, List.all_reverse] at hn; exact hn
    · exfalso
      obtain ⟨c, r, hcr⟩ := List.exists_cons_of_ne_nil hn
      have hd := List.head_dropWhile_not isD hn
      rw [hcr] at h
      simp only [List.all_cons, Bool.and_eq_true] at h
      simp only [hcr, List.head_cons] at hd
      rw [h.1] at hd; simp at hd
  · intro h
    have hn : l.reverse.dropWhile isD = [] := by rw [dropWhile_nil_iff, List.all_reverse]; exact h
    rw [hn]; rfl

theorem cutMinus (l : Bs) (w : World) :
    Calls Tryz.prog 153 #[.string (bs l), .string ⟨#[45]⟩] w fun e w' => e = .returned (.tuple #[.string (bs (strip l)), .bool (isMin l)]) ∧ w = w' := by
  refine (Tryz.strings_CutPrefix (bs l) ⟨#[45]⟩ w).mono ?_
  rintro e w' ⟨rfl, rfl⟩
  refine ⟨?_, rfl⟩
  rw [data_bs]
  have h1 : Lib.hasPrefix l [45] = isMin l := by
    unfold Lib.hasPrefix isMin
    cases l with
    | nil => rfl
    | cons c r => show (45 == c && true) = (c == 45); rw [Bool.and_true]; exact BEq.comm
  have h2 : Lib.trimPrefix l [45] = strip l := by
    unfold Lib.trimPrefix strip; rw [h1]
    by_cases h : isMin l = true
    · simp [h]
    · simp [h]
  show Ending.returned (.tuple #[.string ⟨(Lib.trimPrefix l [45]).toArray⟩, .bool (Lib.hasPrefix l [45])]) = _
  rw [h1, h2]; rfl

theorem trimDigits (l : Bs) (w : World) (hs : l.length ≤ 1000000000) :
    Calls Tryz.prog 154 #[.string (bs l), .string ⟨#[48, 49, 50, 51, 52, 53, 54, 55, 56, 57]⟩] w fun e w' => e = .returned (.string (bs (trimD l))) ∧ Ext w w' := by
  refine (Any.strings_Trim_laid Tryz.lays160 (by kernel_rfl) (bs l) ⟨#[48, 49, 50, 51, 52, 53, 54, 55, 56, 57]⟩ w (by rw [size_bs]; omega) (by decide) (ascii_of_all (by decide))).mono ?_
  rintro e w' ⟨rfl, hb⟩
  exact ⟨by rw [data_bs]; rfl, hb⟩

theorem trimZeros (l : Bs) (w : World) :
    Calls Tryz.prog 155 #[.string (bs l), .string ⟨#[48]⟩] w fun e w' => e = .returned (.string (bs (noZeros l))) ∧ w = w' := by
  refine (Tryz.strings_TrimLeft_one (bs l) 48 (by decide) w).mono ?_
  rintro e w' ⟨rfl, rfl⟩
  exact ⟨by rw [data_bs, Lib.trimLeftB, noZeros_drop]; rfl, rfl⟩

theorem mag_of_good {l : Bs} (h : trimD (strip l) = []) : mag l = noZeros (strip l) := magT_good _ ((trimD_nil _).1 h)
theorem mag_of_bad {l : Bs} (h : trimD (strip l) ≠ []) : mag l = [] := by
  unfold mag magT; rw [if_neg (fun hh => h ((trimD_nil _).2 hh))]
theorem neg_of_bad {l : Bs} (h : trimD (strip l) ≠ []) : neg l = false := by
  have := mag_of_bad h; unfold mag at this; unfold neg negT; rw [this]; simp
theorem neg_of_mag (l : Bs) : neg l = (isMin l && !(mag l).isEmpty) := rfl

set_option maxHeartbeats 400000 in
theorem intDigits (l : Bs) (w : World) (hs : l.length ≤ 1000000000) :
    Calls Tryz.prog 109 #[.string (bs l)] w fun e w' => e = .returned (.tuple #[.string (bs (mag l)), .bool (neg l)]) ∧ Ext w w' := by
  have hl := strip_le l
  have HS := Lib.hid (Nat.le_trans hl hs)
  clear hs hl
  go_enter Tryz.func109, Tryz.ntmps109
  go_wp2_with fail
  refine (cutMinus l _).mono ?_
  rintro e w1 ⟨rfl, rfl⟩
  go_wp2_with fail
  refine (trimDigits _ _ HS.out).mono ?_
  rintro e w1 ⟨rfl, hx⟩
  by_cases ht : trimD (strip l) = []
  · have hb : (!(trimD (strip l)).isEmpty) = false := by rw [ht]; rfl
    have HT := Lib.hid ht
    clear ht
    go_wp2_with fail
    refine (trimZeros _ _).mono ?_
    rintro e w2 ⟨rfl, rfl⟩
    go_wp2_with fail
    all_goals
      go_ret2
      refine ⟨?_, hx⟩
      rw [neg_of_mag, mag_of_good HT.out]
      simp [*]
  · have hb : (!(trimD (strip l)).isEmpty) = true := by simp [ht]
    have HT := Lib.hid ht
    clear ht
    go_wp2_with fail
    go_ret2
    exact ⟨by rw [mag_of_bad HT.out, neg_of_bad HT.out]; rfl, hx⟩

set_option maxHeartbeats 400000 in
theorem intCanonical (l : Bs) (w : World) (hs : l.length ≤ 1000000000) :
    Calls Tryz.prog 83 #[.string (bs l)] w fun e w' => e = .returned (.string (bs (canon l))) ∧ Ext w w' := by
  have hm := mag_le l
  go_enter Tryz.func83, Tryz.ntmps83
  go_wp2_with fail
  refine (intDigits l _ hs).mono ?_
  rintro e w1 ⟨rfl, hx⟩
  by_cases hn : neg l = true
  · go_wp2_with fail
    go_ret
    exact ⟨by unfold canon; rw [if_pos hn]; rfl, hx⟩
  · have hnb : neg l = false := by simpa using hn
    go_wp2_with fail
    go_ret
    exact ⟨by unfold canon; rw [if_neg hn]; rfl, hx⟩

set_option maxHeartbeats 400000 in
theorem intCheck (l : Bs) (w : World) (hs : l.length ≤ 1000000000) :
    Calls Tryz.prog 132 #[.string (bs l)] w fun e w' => e = .returned (.int .i64 (checkI l)) ∧ Ext w w' := by
  have HS := Lib.hid hs
  clear hs
  go_enter Tryz.func132, Tryz.ntmps132
  go_wp2_with fail
  refine (intCanonical l _ HS.out).mono ?_
  rintro e w1 ⟨rfl, hx⟩
  by_cases hn : canon l = l
  · have hb : (l == canon l) = true := beq_iff_eq.2 hn.symm
    have HN := Lib.hid hn
    clear hn
    go_wp2_with fail
    go_ret
    exact ⟨by unfold checkI; rw [if_pos HN.out]; rfl, hx⟩
  · have hb : (l == canon l) = false := beq_eq_false_iff_ne.2 (fun h => hn h.symm)
    have HN := Lib.hid hn
    clear hn
    go_wp2_with fail
    go_ret
    exact ⟨by unfold checkI; rw [if_neg HN.out]; rfl, hx⟩

set_option maxHeartbeats 400000 in
theorem intPrint (l : Bs) (w : World) (hs : l.length ≤ 1000000000) :
    Calls Tryz.prog 43 #[.string (bs l)] w fun e w' => e = .returned (.string (bs (printI l))) ∧ Ext w w' := by
  have HS := Lib.hid hs
  clear hs
  go_enter Tryz.func43, Tryz.ntmps43
  go_wp2_with fail
  refine (intCanonical l _ HS.out).mono ?_
  rintro e w1 ⟨rfl, hx⟩
  by_cases hn : canon l = []
  · have hb : (!(canon l).isEmpty) = false := by simp [hn]
    have HN := Lib.hid hn
    clear hn
    go_wp2_with fail
    go_ret
    exact ⟨by unfold printI; rw [if_pos HN.out]; rfl, hx⟩
  · have hb : (!(canon l).isEmpty) = true := by simpa using hn
    have HN := Lib.hid hn
    clear hn
    go_wp2_with fail
    go_ret
    exact ⟨by unfold printI; rw [if_neg HN.out]; rfl, hx⟩

set_option maxHeartbeats 400000 in
theorem intParse (l : Bs) (w : World) (hs : l.length ≤ 1000000000) :
    Calls Tryz.prog 166 #[.string (bs l)] w fun e w' => e = .returned (.tuple #[.string (bs (parseIV l)), .int .i64 (parseIE l)]) ∧ Ext w w' := by
  have HS := Lib.hid hs
  clear hs
  by_cases hl : 65536 < l.length
  · have hlb : decide (65536 < (l.length : Int)) = true := by simp; omega
    go_enter Tryz.func166, Tryz.ntmps166
    go_wp2_with fail
    go_ret2
    exact ⟨by unfold parseIV parseIE; rw [if_pos hl, if_pos hl]; rfl, Ext.refl _⟩
  · have hlb : decide (65536 < (l.length : Int)) = false := by simp; omega
    have HL := Lib.hid hl
    clear hl
    go_enter Tryz.func166, Tryz.ntmps166
    go_wp2_with fail
    refine (intPrint l _ HS.out).mono ?_
    rintro e w1 ⟨rfl, hx⟩
    by_cases hn : printI l = l
    · have hb : (printI l == l) = true := beq_iff_eq.2 hn
      have HN := Lib.hid hn
      clear hn
      go_wp2_with fail
      refine (intCanonical l _ HS.out).mono ?_
      rintro e w2 ⟨rfl, hx2⟩
      go_wp2_with fail
      go_ret2
      exact ⟨by unfold parseIV parseIE; rw [if_neg HL.out, if_neg HL.out, if_neg (fun h => h HN.out), if_neg (fun h => h HN.out)]; rfl, hx.trans hx2⟩
    · have hb : (printI l == l) = false := by simpa using hn
      have HN := Lib.hid hn
      clear hn
      go_wp2_with fail
      go_ret2
      exact ⟨by unfold parseIV parseIE; rw [if_neg HL.out, if_neg HL.out, if_pos HN.out, if_pos HN.out]; rfl, hx⟩
end Go.Proofs.YteeampgbmpolfaaGreatDoor
