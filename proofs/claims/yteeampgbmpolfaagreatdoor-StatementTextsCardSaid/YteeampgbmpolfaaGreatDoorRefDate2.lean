/- The walks over the reference's dates: digits, Print. -/
import Derived.Test.YteeampgbmpolfaaGreatDoorRefDate
namespace Go.Proofs.YteeampgbmpolfaaGreatDoor
open Go.RowKit
attribute [local go_sem] size_bs toList_bs extract_bs get_bs append_bs lit_append append_lit

def tx (n : Int) : Nat → Bs | 0 => [] | k + 1 => UInt8.ofNat (48 + n.toNat / 10 ^ k % 10) :: tx n k
theorem tx_two (n : Int) : tx n 2 = two n := by simp [tx, two]
theorem tx_four (n : Int) : tx n 4 = four n := by simp [tx, four]
theorem tx_len (n : Int) (k : Nat) : (tx n k).length = k := by induction k with | zero => rfl | succ k ih => simp [tx, ih]

set_option maxHeartbeats 400000 in
theorem refDigitsD (n c : Int) (w : World) (h0 : 0 ≤ n) (h1 : n ≤ 9999) (hc0 : 0 ≤ c) (hc1 : c ≤ 4) :
    Calls Tryz.prog 85 #[.int .i64 n, .int .i64 c] w fun e w' => e = .returned (.string (bs (tx n c.toNat))) ∧ Ext w w' := by
  go_enter Tryz.func85, Tryz.ntmps85
  go_wp2_with fail
  go_loopw [0, 5, 6] (fun v s i wr => ∃ (k : Nat) (u : Int), (k : Int) ≤ c ∧ 0 ≤ u ∧ u ≤ n ∧ u.toNat = n.toNat / 10 ^ k ∧ v = .int .i64 u ∧ s = .string (bs (tx n k)) ∧ i = .int .i64 k ∧ Ext w wr) (fun _ _ i _ => (c - intOf i).toNat)
  case atStart => exact ⟨0, n, by omega, h0, Int.le_refl _, by simp, rfl, rfl, rfl, Ext.refl _⟩
  case round =>
    obtain ⟨k, u, hk, hu0, hu1, hue, rfl, rfl, rfl, hx⟩ := hrel
    have HU := Lib.hid hue
    have htl := tx_len n k
    have htb : (tx n k).length ≤ 4 := by omega
    clear hue htl
    by_cases hlt : (k : Int) < c
    · have hcv := fun (x : Int) => conv_one (P := Tryz.prog) wr 67 9 5 x Tryz.underlying67 Tryz.underlying5 Tryz.underlying9
      go_wp2_with fail
      go_roundw
      case rel =>
        refine ⟨k + 1, u / 10, by omega, by omega, by omega, ?_, rfl, ?_, by go_num, hx.alloc _⟩
        · rw [Nat.pow_succ, ← Nat.div_div_eq_div_mul, ← HU.out]; omega
        · have e : (48 + u % 10).toNat = 48 + n.toNat / 10 ^ k % 10 := by rw [← HU.out]; omega
          rw [e]; rfl
      case measure => simp [intOf]; omega
    · go_wp2_with fail
      go_ret
      have e : c.toNat = k := by omega
      exact ⟨by rw [e]; rfl, hx⟩

set_option maxHeartbeats 400000 in
theorem refPrintD (d : Int) (w : World) :
    Calls Tryz.prog 46 #[.int .i64 d] w fun e w' => e = .returned (.tuple #[.string (bs (dateText d)), .int .i64 (dateErr d)]) ∧ Ext w w' := by
  cases h : okDay d with
  | false =>
    have H := Lib.hid h
    clear h
    go_enter Tryz.func46, Tryz.ntmps46
    go_wp2_with fail
    refine (refParts_no d _ H.out).mono ?_
    rintro e w1 ⟨rfl, rfl⟩
    go_wp2_with fail
    go_ret2
    exact ⟨by unfold dateText dateErr; rw [H.out]; rfl, Ext.refl _⟩
  | true =>
    obtain ⟨a1, a2, _, _⟩ := dYear_spec h
    obtain ⟨b1, b2, b3, b4⟩ := dMonth_spec h
    have hml := mlen_bd (dYear d) (dMonth d)
    have H := Lib.hid h
    clear h
    go_enter Tryz.func46, Tryz.ntmps46
    go_wp2_with fail
    refine (refParts_yes d _ H.out).mono ?_
    rintro e w1 ⟨rfl, rfl⟩
    go_wp2_with fail
    refine (refDigitsD (dYear d) 4 _ (by omega) (by omega) (by omega) (by omega)).mono ?_
    rintro e w2 ⟨rfl, hx2⟩
    rw [show (4 : Int).toNat = 4 from rfl, tx_four]
    have hf4 : (four (dYear d)).length ≤ 4 := by simp [four]
    go_wp2_with fail
    refine (refDigitsD (dMonth d) 2 _ (by omega) (by omega) (by omega) (by omega)).mono ?_
    rintro e w3 ⟨rfl, hx3⟩
    rw [show (2 : Int).toNat = 2 from rfl, tx_two]
    have hf2 : (two (dMonth d)).length ≤ 2 := by simp [two]
    go_wp2_with fail
    refine (refDigitsD (dDay d) 2 _ (by omega) (by omega) (by omega) (by omega)).mono ?_
    rintro e w4 ⟨rfl, hx4⟩
    rw [show (2 : Int).toNat = 2 from rfl, tx_two]
    have hf3 : (two (dDay d)).length ≤ 2 := by simp [two]
    go_wp2_with fail
    go_ret2
    exact ⟨by unfold dateText dateErr; rw [if_pos H.out, if_pos H.out]; simp, (hx2.trans hx3).trans hx4⟩

def ofE (y m k : Int) : Int := if okDate y m k then 0 else 13
def ofV (y m k : Int) : Int := if okDate y m k then ofDate y m k else 0

set_option maxHeartbeats 1000000 in
theorem refOf (y m k : Int) (w : World) :
    Calls Tryz.prog 125 #[.int .i64 y, .int .i64 m, .int .i64 k] w fun e w' => e = .returned (.tuple #[.int .i64 (ofV y m k), .int .i64 (ofE y m k)]) ∧ w = w' := by
  have hno : okDate y m k = false → Hid (ofV y m k = 0 ∧ ofE y m k = 13) := fun h => Lib.hid (by unfold ofV ofE; rw [h]; simp)
  by_cases c1 : y < 1900
  · have HN := hno (by rw [← Bool.not_eq_true, okDate_iff]; omega)
    clear hno
    go_enter Tryz.func125, Tryz.ntmps125
    go_wp2_with fail
    go_ret2
    exact ⟨by rw [HN.out.1, HN.out.2]; rfl, rfl⟩
  by_cases c2 : 2199 < y
  · have HN := hno (by rw [← Bool.not_eq_true, okDate_iff]; omega)
    clear hno
    go_enter Tryz.func125, Tryz.ntmps125
    go_wp2_with fail
    go_ret2
    exact ⟨by rw [HN.out.1, HN.out.2]; rfl, rfl⟩
  by_cases c3 : m < 1
  · have HN := hno (by rw [← Bool.not_eq_true, okDate_iff]; omega)
    clear hno
    go_enter Tryz.func125, Tryz.ntmps125
    go_wp2_with fail
    go_ret2
    exact ⟨by rw [HN.out.1, HN.out.2]; rfl, rfl⟩
  by_cases c4 : 12 < m
  · have HN := hno (by rw [← Bool.not_eq_true, okDate_iff]; omega)
    clear hno
    go_enter Tryz.func125, Tryz.ntmps125
    go_wp2_with fail
    go_ret2
    exact ⟨by rw [HN.out.1, HN.out.2]; rfl, rfl⟩
  by_cases c5 : k < 1
  · have HN := hno (by rw [← Bool.not_eq_true, okDate_iff]; omega)
    clear hno
    go_enter Tryz.func125, Tryz.ntmps125
    go_wp2_with fail
    go_ret2
    exact ⟨by rw [HN.out.1, HN.out.2]; rfl, rfl⟩
  have hml := mlen_bd y m
  by_cases c6 : mlen y m < k
  · have HN := hno (by rw [← Bool.not_eq_true, okDate_iff]; omega)
    clear hno
    go_enter Tryz.func125, Tryz.ntmps125
    go_wp2_with fail
    refine (refLength y m _ (by omega) (by omega) (by omega) (by omega)).mono ?_
    rintro e w1 ⟨rfl, rfl⟩
    go_wp2_with fail
    go_ret2
    exact ⟨by rw [HN.out.1, HN.out.2]; rfl, rfl⟩
  have HY : Hid (ofV y m k = ofDate y m k ∧ ofE y m k = 0) := Lib.hid (by
    have : okDate y m k = true := by rw [okDate_iff]; omega
    unfold ofV ofE; rw [this]; simp)
  clear hno
  go_enter Tryz.func125, Tryz.ntmps125
  go_wp2_with fail
  refine (refLength y m _ (by omega) (by omega) (by omega) (by omega)).mono ?_
  rintro e w1 ⟨rfl, rfl⟩
  go_wp2_with fail
  go_loop [8, 9] (fun v i => ∃ z : Int, 1900 ≤ z ∧ z ≤ y ∧ v = .int .i64 (-25567 + k - 1 + beg z) ∧ i = .int .i64 z) (fun _ i => (y - intOf i).toNat)
  case atStart => exact ⟨1900, by omega, by omega, by rw [beg_1900, Int.add_zero], rfl⟩
  case round =>
    obtain ⟨z, hz1, hz2, rfl, rfl⟩ := hrel
    have hb1 := beg_bd hz1 (by omega)
    by_cases hlt : z < y
    · have hs := beg_succ z
      have HS := Lib.hid hs
      clear hs
      go_wp2_with fail
      refine (refLeap z _ (by omega) (by omega)).mono ?_
      rintro e w1 ⟨rfl, rfl⟩
      have hcases : (leap z = true ∧ lp z = 1) ∨ (leap z = false ∧ lp z = 0) := by
        unfold lp; cases leap z <;> simp
      rcases hcases with ⟨hl, hlp⟩ | ⟨hl, hlp⟩
      all_goals
        rw [hl]
        have HLP := Lib.hid hlp
        clear hl hlp
        go_wp2_with fail
        go_round
        case rel => exact ⟨z + 1, by omega, by omega, by rw [HS.out, HLP.out]; congr 1; omega, rfl⟩
        case measure => simp [intOf]; omega
    · obtain rfl : z = y := by omega
      go_wp2_with fail
      go_loop [8, 10] (fun v i => ∃ j : Int, 1 ≤ j ∧ j ≤ m ∧ v = .int .i64 (-25567 + k - 1 + beg z + cum z j) ∧ i = .int .i64 j) (fun _ i => (m - intOf i).toNat)
      case atStart => exact ⟨1, by omega, by omega, by rw [cum_1, Int.add_zero], rfl⟩
      case round =>
        obtain ⟨j, hj1, hj2, rfl, rfl⟩ := hrel
        have hcb := cum_bd z j
        by_cases hjl : j < m
        · have hml2 := mlen_bd z j
          have hs2 := mlen_cum z j (by omega) (by omega)
          have HS2 := Lib.hid hs2
          clear hs2
          go_wp2_with fail
          refine (refLength z j _ (by omega) (by omega) (by omega) (by omega)).mono ?_
          rintro e w1 ⟨rfl, rfl⟩
          go_wp2_with fail
          go_round
          case rel => exact ⟨j + 1, by omega, by omega, by rw [HS2.out]; congr 1; omega, rfl⟩
          case measure => simp [intOf]; omega
        · obtain rfl : j = m := by omega
          go_wp2_with fail
          go_ret2
          refine ⟨?_, rfl⟩
          rw [HY.out.1, HY.out.2]
          have e : ofDate z j k = -25567 + k - 1 + beg z + cum z j := by unfold ofDate; omega
          rw [e]; rfl
end Go.Proofs.YteeampgbmpolfaaGreatDoor
