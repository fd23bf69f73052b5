/- The walks: names (program and reference), numbers of digits. -/
import Derived.Test.YteeampgbmpolfaaGreatDoorNameP
import Derived.Test.YteeampgbmpolfaaGreatDoorMem
import Derived.Test.YteeampgbmpolfaaGreatDoorProg
namespace Go.Proofs.YteeampgbmpolfaaGreatDoor
open Go.RowKit
attribute [local go_sem] size_bs toList_bs extract_bs get_bs append_bs lit_append append_lit

set_option maxHeartbeats 400000 in
theorem insName (l : Bs) (w : World) (hs : l.length ≤ 1000000000) :
    Calls Tryz.prog 98 #[.string (bs l)] w fun e w' => e = .returned (.bool (isName l)) ∧ Ext w w' := by
  by_cases h0 : l.length = 0
  · obtain rfl : l = [] := List.eq_nil_of_length_eq_zero h0
    go_enter Tryz.func98, Tryz.ntmps98
    go_wp2_with fail
    go_ret
    exact ⟨rfl, Ext.refl _⟩
  have h0b : ((l.length : Int) == 0) = false := by rw [beq_eq_false_iff_ne]; omega
  by_cases h1 : 16 < l.length
  · have h1b : decide (16 < (l.length : Int)) = true := by simp; omega
    clear h0
    go_enter Tryz.func98, Tryz.ntmps98
    go_wp2_with fail
    go_ret
    exact ⟨by simp [isName]; omega, Ext.refl _⟩
  have h1b : decide (16 < (l.length : Int)) = false := by simp; omega
  obtain ⟨cap, w1, hrun, hx, hsz, hcell⟩ := conv_bytes (P := Tryz.prog) w 9 67 5 l Tryz.underlying9 Tryz.underlying67 Tryz.underlying5
  have HC := Lib.hid hcell
  have HN : Hid (1 ≤ l.length) := Lib.hid (by omega)
  clear hcell hsz h0
  go_enter Tryz.func98, Tryz.ntmps98
  go_wp2_with fail
  go_loop [16] (fun i => ∃ k : Nat, k ≤ l.length ∧ i = .int .i64 k ∧ (l.take k).all isN = true) (fun i => l.length - (intOf i).toNat)
  case atStart => exact ⟨0, Nat.zero_le _, rfl, rfl⟩
  case round =>
    obtain ⟨k, hk, rfl, hd⟩ := hrel
    have HD := Lib.hid hd
    clear hd hrun
    by_cases hlt : k < l.length
    · have hc := HC.out k hlt
      by_cases h95 : ((l[k]'hlt).toNat : Int) = 95
      · have h95a : ((l[k]'hlt).toNat : Int) ≤ 95 := by omega
        have h95c : 95 ≤ ((l[k]'hlt).toNat : Int) := by omega
        have h95b : (((l[k]'hlt).toNat : Int) != 95) = false := by rw [bne_eq_false_iff_eq]; exact h95
        clear h95
        go_wp2_with fail
        all_goals
          go_round
          case rel => exact ⟨k + 1, by omega, by go_num, takeN_succ l k hlt HD.out (isN_good (by omega))⟩
          case measure => simp [intOf]; omega
      · have h95b : (((l[k]'hlt).toNat : Int) != 95) = true := by rw [bne_iff_ne]; exact h95
        go_wp2_with fail
        all_goals first
          | (go_ret
             exact ⟨by rw [isName_bad l k hlt (isN_bad (by omega))]; rfl, hx⟩)
          | (go_round
             case rel => exact ⟨k + 1, by omega, by go_num, takeN_succ l k hlt HD.out (isN_good (by omega))⟩
             case measure => simp [intOf]; omega)
    · go_wp2_with fail
      go_ret
      exact ⟨by rw [isName_good l k hlt HD.out HN.out (by omega)]; rfl, hx⟩

set_option maxHeartbeats 400000 in
theorem refName (l : Bs) (w : World) (hs : l.length ≤ 1000000000) :
    Calls Tryz.prog 73 #[.string (bs l)] w fun e w' => e = .returned (.bool (isName l)) ∧ w = w' := by
  go_enter Tryz.func73, Tryz.ntmps73
  go_wp2_with fail
  go_loop [3] (fun i => ∃ k : Nat, k ≤ l.length ∧ i = .int .i64 k ∧ (l.take k).all isN = true) (fun i => l.length - (intOf i).toNat)
  case atStart => exact ⟨0, Nat.zero_le _, rfl, rfl⟩
  case round =>
    obtain ⟨k, hk, rfl, hd⟩ := hrel
    have HD := Lib.hid hd
    clear hd
    by_cases hlt : k < l.length
    · by_cases h95 : ((l[k]'hlt).toNat : Int) = 95
      · have h95a : ((l[k]'hlt).toNat : Int) ≤ 95 := by omega
        have h95c : 95 ≤ ((l[k]'hlt).toNat : Int) := by omega
        have h95b : (((l[k]'hlt).toNat : Int) != 95) = false := by rw [bne_eq_false_iff_eq]; exact h95
        clear h95
        go_wp2_with fail
        all_goals
          go_round
          case rel => exact ⟨k + 1, by omega, by go_num, takeN_succ l k hlt HD.out (isN_good (by omega))⟩
          case measure => simp [intOf]; omega
      · have h95b : (((l[k]'hlt).toNat : Int) != 95) = true := by rw [bne_iff_ne]; exact h95
        go_wp2_with fail
        all_goals first
          | (go_ret
             exact ⟨by rw [isName_bad l k hlt (isN_bad (by omega))]; rfl, rfl⟩)
          | (go_round
             case rel => exact ⟨k + 1, by omega, by go_num, takeN_succ l k hlt HD.out (isN_good (by omega))⟩
             case measure => simp [intOf]; omega)
    · have hall := Lib.hid (takeN_end l k hlt HD.out)
      by_cases h1 : 1 ≤ l.length
      · by_cases h2 : l.length ≤ 16
        · have h1b : decide (1 ≤ (l.length : Int)) = true := by simp; omega
          have h2b : decide ((l.length : Int) ≤ 16) = true := by simp; omega
          go_wp2_with fail
          go_ret
          exact ⟨by rw [isName_all l hall.out]; simp [h1, h2], rfl⟩
        · have h1b : decide (1 ≤ (l.length : Int)) = true := by simp; omega
          have h2b : decide ((l.length : Int) ≤ 16) = false := by simp; omega
          go_wp2_with fail
          go_ret
          exact ⟨by rw [isName_all l hall.out]; simp [h2], rfl⟩
      · have h1b : decide (1 ≤ (l.length : Int)) = false := by simp; omega
        go_wp2_with fail
        go_ret
        exact ⟨by rw [isName_all l hall.out]; simp [h1], rfl⟩

set_option maxHeartbeats 400000 in
theorem refDigs (l : Bs) (w : World) (hs : l.length ≤ 1000000000) :
    Calls Tryz.prog 75 #[.string (bs l)] w fun e w' => e = .returned (.int .i64 (digs l)) ∧ w = w' := by
  cases l with
  | nil =>
    go_enter Tryz.func75, Tryz.ntmps75
    go_wp2_with fail
    go_ret
    exact ⟨rfl, rfl⟩
  | cons c r =>
    by_cases hc : c = 45
    · subst hc
      have hr : r.length ≤ 1000000000 := by simp at hs; omega
      go_enter Tryz.func75, Tryz.ntmps75
      go_wp2_with fail
      go_ret
      exact ⟨by simp [digs, strip, isMin], rfl⟩
    · have hcb : ((c.toNat : Int) == 45) = false := by have := byte_ne (c := c) (d := 45) hc; simpa using this
      go_enter Tryz.func75, Tryz.ntmps75
      go_wp2_with fail
      go_ret
      exact ⟨by simp [digs, strip, isMin, hc], rfl⟩
end Go.Proofs.YteeampgbmpolfaaGreatDoor
