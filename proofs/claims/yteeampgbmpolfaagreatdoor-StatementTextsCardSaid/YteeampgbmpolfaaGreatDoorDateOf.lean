/- The walks over the program's dates: Of. -/
import Derived.Test.YteeampgbmpolfaaGreatDoorRefDate2
namespace Go.Proofs.YteeampgbmpolfaaGreatDoor
open Go.RowKit
attribute [local go_sem] size_bs toList_bs extract_bs get_bs append_bs lit_append append_lit

set_option maxHeartbeats 1000000 in
theorem datOf (y m k : Int) (w : World) :
    Calls Tryz.prog 204 #[.int .i64 y, .int .i64 m, .int .i64 k] w fun e w' => e = .returned (.tuple #[.int .i64 (ofV y m k), .int .i64 (ofE y m k)]) ∧ Ext w w' := by
  have hno : okDate y m k = false → Hid (ofV y m k = 0 ∧ ofE y m k = 13) := fun h => Lib.hid (by unfold ofV ofE; rw [h]; simp)
  by_cases c1 : y < 1900
  · have HN := hno (by rw [← Bool.not_eq_true, okDate_iff]; omega)
    clear hno
    go_enter Tryz.func204, Tryz.ntmps204
    go_wp2_with fail
    go_ret2
    exact ⟨by rw [HN.out.1, HN.out.2]; rfl, Ext.refl _⟩
  by_cases c2 : 2199 < y
  · have HN := hno (by rw [← Bool.not_eq_true, okDate_iff]; omega)
    clear hno
    go_enter Tryz.func204, Tryz.ntmps204
    go_wp2_with fail
    go_ret2
    exact ⟨by rw [HN.out.1, HN.out.2]; rfl, Ext.refl _⟩
  by_cases c3 : m < 1
  · have HN := hno (by rw [← Bool.not_eq_true, okDate_iff]; omega)
    clear hno
    go_enter Tryz.func204, Tryz.ntmps204
    go_wp2_with fail
    go_ret2
    exact ⟨by rw [HN.out.1, HN.out.2]; rfl, Ext.refl _⟩
  by_cases c4 : 12 < m
  · have HN := hno (by rw [← Bool.not_eq_true, okDate_iff]; omega)
    clear hno
    go_enter Tryz.func204, Tryz.ntmps204
    go_wp2_with fail
    go_ret2
    exact ⟨by rw [HN.out.1, HN.out.2]; rfl, Ext.refl _⟩
  by_cases c5 : k < 1
  · have HN := hno (by rw [← Bool.not_eq_true, okDate_iff]; omega)
    clear hno
    go_enter Tryz.func204, Tryz.ntmps204
    go_wp2_with fail
    go_ret2
    exact ⟨by rw [HN.out.1, HN.out.2]; rfl, Ext.refl _⟩
  have hml := mlen_bd y m
  by_cases c6 : mlen y m < k
  · have HN := hno (by rw [← Bool.not_eq_true, okDate_iff]; omega)
    clear hno
    go_enter Tryz.func204, Tryz.ntmps204
    go_wp2_with fail
    refine (datLength y m _ (by omega) (by omega) (by omega) (by omega)).mono ?_
    rintro e w1 ⟨rfl, hx⟩
    go_wp2_with fail
    go_ret2
    exact ⟨by rw [HN.out.1, HN.out.2]; rfl, hx⟩
  have HY : Hid (ofV y m k = ofDate y m k ∧ ofE y m k = 0) := Lib.hid (by
    have : okDate y m k = true := by rw [okDate_iff]; omega
    unfold ofV ofE; rw [this]; simp)
  clear hno
  have hb1 := beg_bd (show 1900 ≤ y by omega) (by omega)
  go_enter Tryz.func204, Tryz.ntmps204
  go_wp2_with fail
  refine (datLength y m _ (by omega) (by omega) (by omega) (by omega)).mono ?_
  rintro e w1 ⟨rfl, hx⟩
  go_wp2_with fail
  refine (datBegin y _ (by omega) (by omega)).mono ?_
  rintro e w2 ⟨rfl, rfl⟩
  go_wp2_with fail
  go_loopw [8, 9] (fun v i wr => ∃ j : Int, 1 ≤ j ∧ j ≤ m ∧ v = .int .i64 (beg y + k - 1 + cum y j) ∧ i = .int .i64 j ∧ Ext w wr) (fun _ i _ => (m - intOf i).toNat)
  case atStart => exact ⟨1, by omega, by omega, by rw [cum_1, Int.add_zero], rfl, hx⟩
  case round =>
    obtain ⟨j, hj1, hj2, rfl, rfl, hxr⟩ := hrel
    have hcb := cum_bd y j
    by_cases hjl : j < m
    · have hml2 := mlen_bd y j
      have hs2 := mlen_cum y j (by omega) (by omega)
      have HS2 := Lib.hid hs2
      clear hs2
      go_wp2_with fail
      refine (datLength y j _ (by omega) (by omega) (by omega) (by omega)).mono ?_
      rintro e w3 ⟨rfl, hx3⟩
      go_wp2_with fail
      go_roundw
      case rel => exact ⟨j + 1, by omega, by omega, by rw [HS2.out]; congr 1; omega, rfl, hxr.trans hx3⟩
      case measure => simp [intOf]; omega
    · obtain rfl : j = m := by omega
      go_wp2_with fail
      go_ret2
      refine ⟨?_, hxr⟩
      rw [HY.out.1, HY.out.2]
      have e : ofDate y j k = -25567 + (beg y + k - 1 + cum y j) := by unfold ofDate; omega
      rw [e]; rfl

def gb (c : UInt8) : Int := if 48 ≤ c.toNat then (c.toNat : Int) - 48 else (c.toNat : Int) + 208
def numG (l : Bs) : Int := l.foldl (fun n c => 10 * n + gb c) 0
theorem gb_bd (c : UInt8) : 0 ≤ gb c ∧ gb c ≤ 255 := by
  have := c.toNat_lt; unfold gb; split <;> omega
theorem numG_snoc (l : Bs) (c : UInt8) : numG (l ++ [c]) = 10 * numG l + gb c := by simp [numG]
theorem numG_bd (l : Bs) (h : l.length ≤ 4) : 0 ≤ numG l ∧ numG l ≤ 300000 := by
  match l, h with
  | [], _ => simp [numG]
  | [a], _ => have := gb_bd a; simp [numG]; omega
  | [a, b], _ => have := gb_bd a; have := gb_bd b; simp [numG]; omega
  | [a, b, c], _ => have := gb_bd a; have := gb_bd b; have := gb_bd c; simp [numG]; omega
  | [a, b, c, d], _ => have := gb_bd a; have := gb_bd b; have := gb_bd c; have := gb_bd d; simp [numG]; omega
  | _ :: _ :: _ :: _ :: _ :: _, h => simp at h
/-- 's[i]-'0'' on bytes -/
theorem gb_wrap (c : UInt8) : IntKind.u8.wrap ((c.toNat : Int) - 48) = gb c := by
  have := c.toNat_lt; unfold gb; rw [IntKind.wrap_u8]; split <;> omega
end Go.Proofs.YteeampgbmpolfaaGreatDoor
