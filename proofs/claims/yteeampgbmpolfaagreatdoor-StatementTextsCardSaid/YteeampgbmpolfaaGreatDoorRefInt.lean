/- The walks over the reference's integer functions that read no memory: digits, Canonical, Check, Print, Parse. -/
import Derived.Test.YteeampgbmpolfaaGreatDoorIntP
import Derived.Test.YteeampgbmpolfaaGreatDoorMem
import Derived.Test.YteeampgbmpolfaaGreatDoorProg
namespace Go.Proofs.YteeampgbmpolfaaGreatDoor
open Go.RowKit
attribute [local go_sem] size_bs toList_bs extract_bs get_bs append_bs lit_append append_lit

set_option maxHeartbeats 1000000 in
theorem refDigits_core (l t : Bs) (b : Bool) (w : World) (hs : (t.length : Int) ≤ 1000000000000) (hcase : (l = 45 :: t ∧ b = true) ∨ (t = l ∧ b = false ∧ isMin t = false)) :
    Calls Tryz.prog 121 #[.string (bs l)] w fun e w' => e = .returned (.tuple #[.string (bs (magT t)), .bool (negT b t)]) ∧ w = w' := by
  have key : (l = 45 :: t ∧ b = true) ∨ (t = l ∧ b = false ∧ ∃ h0 : 0 < t.length, ((t[0].toNat : Int) == 45) = false) ∨ (t = l ∧ b = false ∧ ¬ 0 < t.length) := by
    rcases hcase with h | ⟨rfl, rfl, hm⟩
    · exact .inl h
    · cases t with
      | nil => exact .inr (.inr ⟨rfl, rfl, by simp⟩)
      | cons c r => exact .inr (.inl ⟨rfl, rfl, by simp, by have := byte_ne (c := c) (d := 45) (by simpa [isMin] using hm); simpa using this⟩)
  clear hcase
  rcases key with ⟨rfl, rfl⟩ | ⟨rfl, rfl, h0, h1⟩ | ⟨rfl, rfl, h0⟩
  all_goals
    go_enter Tryz.func121, Tryz.ntmps121
    go_wp2
    go_loop [6] (fun i => ∃ k : Nat, k ≤ t.length ∧ i = .int .i64 k ∧ (t.take k).all isD = true) (fun i => t.length - (intOf i).toNat)
    case atStart => exact ⟨0, Nat.zero_le _, rfl, rfl⟩
    case round =>
      obtain ⟨k, hk, rfl, hd⟩ := hrel
      have HD := Lib.hid hd
      clear hd
      by_cases hlt : k < t.length
      · by_cases hA : (t[k].toNat : Int) < 48
        · go_wp2
          go_ret2
          exact ⟨by rw [magT_bad t k hlt (by left; exact_mod_cast hA), negT_bad _ t k hlt (by left; exact_mod_cast hA)]; rfl, rfl⟩
        · by_cases hB : 57 < (t[k].toNat : Int)
          · go_wp2
            go_ret2
            exact ⟨by rw [magT_bad t k hlt (by right; exact_mod_cast hB), negT_bad _ t k hlt (by right; exact_mod_cast hB)]; rfl, rfl⟩
          · go_wp2
            go_round
            case rel => exact ⟨k + 1, by omega, by go_num, take_all_succ t k hlt HD.out (by omega) (by omega)⟩
            case measure => simp [intOf]; omega
      · have hall := Lib.hid (take_all_end t k hlt HD.out)
        go_wp2
        go_loop [4] (fun v => ∃ r : Bs, v = .string (bs r) ∧ r.length ≤ t.length ∧ noZeros r = noZeros t) (fun v => strLen v)
        case atStart => exact ⟨t, rfl, Nat.le_refl _, rfl⟩
        case round =>
          obtain ⟨r, rfl, hrl, hz⟩ := hrel
          have HZ := Lib.hid hz
          clear hz
          cases r with
          | nil =>
            go_wp2
            go_ret2
            exact ⟨by rw [magT_good t hall.out, negT_good _ t hall.out, ← HZ.out]; simp [noZeros], rfl⟩
          | cons c q =>
            by_cases hc : c = 48
            · subst hc
              go_wp2
              go_round
              case rel => exact ⟨q, rfl, by simp at hrl; omega, HZ.out⟩
              case measure => simp [strLen, size_bs]
            · have hcb : ((c.toNat : Int) == 48) = false := by have := byte_ne (c := c) (d := 48) hc; simpa using this
              go_wp2
              go_ret2
              exact ⟨by rw [magT_good t hall.out, negT_good _ t hall.out, ← HZ.out]; simp [noZeros, hc], rfl⟩

theorem refDigits (l : Bs) (w : World) (hs : l.length ≤ 1000000000) :
    Calls Tryz.prog 121 #[.string (bs l)] w fun e w' => e = .returned (.tuple #[.string (bs (mag l)), .bool (neg l)]) ∧ w = w' := by
  have hl := strip_le l
  refine refDigits_core l (strip l) (isMin l) w (by omega) ?_
  unfold strip
  cases l with
  | nil => exact .inr ⟨rfl, rfl, rfl⟩
  | cons c r =>
    by_cases h : c = 45
    · left; simp [isMin, h]
    · right; simp [isMin, h]

set_option maxHeartbeats 400000 in
theorem refCanonical (l : Bs) (w : World) (hs : l.length ≤ 1000000000) :
    Calls Tryz.prog 86 #[.string (bs l)] w fun e w' => e = .returned (.string (bs (canon l))) ∧ w = w' := by
  have hm := mag_le l
  go_enter Tryz.func86, Tryz.ntmps86
  go_wp2_with fail
  refine (refDigits l _ hs).mono ?_
  rintro e w1 ⟨rfl, rfl⟩
  by_cases hn : neg l = true
  · go_wp2_with fail
    go_ret
    exact ⟨by unfold canon; rw [if_pos hn]; rfl, rfl⟩
  · have hnb : neg l = false := by simpa using hn
    go_wp2_with fail
    go_ret
    exact ⟨by unfold canon; rw [if_neg hn]; rfl, rfl⟩

set_option maxHeartbeats 400000 in
theorem refCheckI (l : Bs) (w : World) (hs : l.length ≤ 1000000000) :
    Calls Tryz.prog 74 #[.string (bs l)] w fun e w' => e = .returned (.int .i64 (checkI l)) ∧ w = w' := by
  have HS := Lib.hid hs
  clear hs
  go_enter Tryz.func74, Tryz.ntmps74
  go_wp2_with fail
  refine (refCanonical l _ HS.out).mono ?_
  rintro e w1 ⟨rfl, rfl⟩
  by_cases hn : canon l = l
  · have hb : (canon l == l) = true := beq_iff_eq.2 hn
    have HN := Lib.hid hn
    clear hn
    go_wp2_with fail
    go_ret
    exact ⟨by unfold checkI; rw [if_pos HN.out]; rfl, rfl⟩
  · have hb : (canon l == l) = false := beq_eq_false_iff_ne.2 hn
    have HN := Lib.hid hn
    clear hn
    go_wp2_with fail
    go_ret
    exact ⟨by unfold checkI; rw [if_neg HN.out]; rfl, rfl⟩

set_option maxHeartbeats 400000 in
theorem refPrintI (l : Bs) (w : World) (hs : l.length ≤ 1000000000) :
    Calls Tryz.prog 47 #[.string (bs l)] w fun e w' => e = .returned (.string (bs (printI l))) ∧ w = w' := by
  have HS := Lib.hid hs
  clear hs
  go_enter Tryz.func47, Tryz.ntmps47
  go_wp2_with fail
  refine (refCanonical l _ HS.out).mono ?_
  rintro e w1 ⟨rfl, rfl⟩
  by_cases hn : canon l = []
  · have hb : (canon l).isEmpty = true := by simp [hn]
    have HN := Lib.hid hn
    clear hn
    go_wp2_with fail
    go_ret
    exact ⟨by unfold printI; rw [if_pos HN.out]; rfl, rfl⟩
  · have hb : (canon l).isEmpty = false := by simpa using hn
    have HN := Lib.hid hn
    clear hn
    go_wp2_with fail
    go_ret
    exact ⟨by unfold printI; rw [if_neg HN.out]; rfl, rfl⟩

set_option maxHeartbeats 400000 in
theorem refParseI (l : Bs) (w : World) (hs : l.length ≤ 1000000000) :
    Calls Tryz.prog 94 #[.string (bs l)] w fun e w' => e = .returned (.tuple #[.string (bs (parseIV l)), .int .i64 (parseIE l)]) ∧ w = w' := by
  have HS := Lib.hid hs
  clear hs
  by_cases hl : 65536 < l.length
  · have hlb : decide (65536 < (l.length : Int)) = true := by simp; omega
    go_enter Tryz.func94, Tryz.ntmps94
    go_wp2_with fail
    go_ret2
    exact ⟨by unfold parseIV parseIE; rw [if_pos hl, if_pos hl]; rfl, rfl⟩
  · have hlb : decide (65536 < (l.length : Int)) = false := by simp; omega
    have HL := Lib.hid hl
    clear hl
    by_cases he : l = []
    · subst he
      go_enter Tryz.func94, Tryz.ntmps94
      go_wp2_with fail
      go_ret2
      exact ⟨rfl, rfl⟩
    · have heb : l.isEmpty = false := by simpa using he
      clear he
      go_enter Tryz.func94, Tryz.ntmps94
      go_wp2_with fail
      refine (refPrintI l _ HS.out).mono ?_
      rintro e w1 ⟨rfl, rfl⟩
      by_cases hn : printI l = l
      · have hb : (printI l == l) = true := beq_iff_eq.2 hn
        have HN := Lib.hid hn
        clear hn
        go_wp2_with fail
        refine (refCanonical l _ HS.out).mono ?_
        rintro e w2 ⟨rfl, rfl⟩
        go_wp2_with fail
        go_ret2
        exact ⟨by unfold parseIV parseIE; rw [if_neg HL.out, if_neg HL.out, if_neg (fun h => h HN.out), if_neg (fun h => h HN.out)]; rfl, rfl⟩
      · have hb : (printI l == l) = false := by simpa using hn
        have HN := Lib.hid hn
        clear hn
        go_wp2_with fail
        go_ret2
        exact ⟨by unfold parseIV parseIE; rw [if_neg HL.out, if_neg HL.out, if_pos HN.out, if_pos HN.out]; rfl, rfl⟩

theorem refGreatI (l : Bs) (w : World) :
    Calls Tryz.prog 38 #[.string (bs l)] w fun e w' => e = .returned (.bool (decide (60 < (l.length : Int)))) ∧ w = w' := by
  go_enter Tryz.func38, Tryz.ntmps38
  go_wp2_with fail
  go_ret
  exact ⟨rfl, rfl⟩
end Go.Proofs.YteeampgbmpolfaaGreatDoor
