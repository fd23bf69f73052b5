/- The walks over the reference's dates: Leap, Length, Check, Parts, Print. -/
import Derived.Test.YteeampgbmpolfaaGreatDoorDate2
import Derived.Laws.BytesArg
namespace Go.Proofs.YteeampgbmpolfaaGreatDoor
open Go.RowKit
attribute [local go_sem] size_bs toList_bs extract_bs get_bs append_bs lit_append append_lit

theorem refLeap (y : Int) (w : World) (h0 : 0 ≤ y) (h1 : y ≤ 100000) :
    Calls Tryz.prog 119 #[.int .i64 y] w fun e w' => e = .returned (.bool (leap y)) ∧ w = w' := by
  by_cases a : y % 4 = 0
  · have ab : (y % 4 == 0) = true := by simp [a]
    by_cases b : y % 100 = 0
    · have bb : (y % 100 != 0) = false := by simp [b]
      clear a b
      go_enter Tryz.func119, Tryz.ntmps119
      go_wp2_with fail
      go_ret
      exact ⟨by simp [leap, ab, bb], rfl⟩
    · have bb : (y % 100 != 0) = true := by simp [b]
      clear a b
      go_enter Tryz.func119, Tryz.ntmps119
      go_wp2_with fail
      go_ret
      exact ⟨by simp [leap, ab, bb], rfl⟩
  · have ab : (y % 4 == 0) = false := by simp [a]
    have H : Hid (leap y = false) := Lib.hid (by simp [leap]; omega)
    clear a
    go_enter Tryz.func119, Tryz.ntmps119
    go_wp2_with fail
    go_ret
    exact ⟨by rw [H.out]; rfl, rfl⟩

set_option maxHeartbeats 1000000 in
theorem refLength (y m : Int) (w : World) (h0 : 0 ≤ y) (h1 : y ≤ 100000) (h2 : 1 ≤ m) (h3 : m ≤ 12) :
    Calls Tryz.prog 120 #[.int .i64 y, .int .i64 m] w fun e w' => e = .returned (.int .i64 (mlen y m)) ∧ w = w' := by
  by_cases hm : m = 2
  · subst hm
    go_enter Tryz.func120, Tryz.ntmps120
    go_wp2_with fail
    refine (refLeap y _ h0 h1).mono ?_
    rintro e w1 ⟨rfl, rfl⟩
    cases hl : leap y with
    | true =>
      have HL := Lib.hid hl
      clear hl
      go_wp2_with fail
      go_ret
      exact ⟨by simp [mlen, lp, HL.out], rfl⟩
    | false =>
      have HL := Lib.hid hl
      clear hl
      go_wp2_with fail
      go_ret
      exact ⟨by simp [mlen, lp, HL.out], rfl⟩
  · have hmm : m = 1 ∨ m = 3 ∨ m = 4 ∨ m = 5 ∨ m = 6 ∨ m = 7 ∨ m = 8 ∨ m = 9 ∨ m = 10 ∨ m = 11 ∨ m = 12 := by omega
    rcases hmm with rfl | rfl | rfl | rfl | rfl | rfl | rfl | rfl | rfl | rfl | rfl
    all_goals
      go_enter Tryz.func120, Tryz.ntmps120
      go_wp2_with fail
      go_ret
      exact ⟨rfl, rfl⟩

theorem refCheckD (d : Int) (w : World) :
    Calls Tryz.prog 72 #[.int .i64 d] w fun e w' => e = .returned (.int .i64 (dateErr d)) ∧ w = w' := by
  by_cases a : d < -25567
  · have H : Hid (dateErr d = 13) := Lib.hid (by unfold dateErr; rw [if_neg]; rw [okDay_iff]; omega)
    go_enter Tryz.func72, Tryz.ntmps72
    go_wp2_with fail
    go_ret
    exact ⟨by rw [H.out]; rfl, rfl⟩
  · by_cases b : 84005 < d
    · have H : Hid (dateErr d = 13) := Lib.hid (by unfold dateErr; rw [if_neg]; rw [okDay_iff]; omega)
      go_enter Tryz.func72, Tryz.ntmps72
      go_wp2_with fail
      go_ret
      exact ⟨by rw [H.out]; rfl, rfl⟩
    · have H : Hid (dateErr d = 0) := Lib.hid (by unfold dateErr; rw [if_pos]; rw [okDay_iff]; omega)
      go_enter Tryz.func72, Tryz.ntmps72
      go_wp2_with fail
      go_ret
      exact ⟨by rw [H.out]; rfl, rfl⟩

set_option maxHeartbeats 400000 in
theorem refParts_no (d : Int) (w : World) (h : okDay d = false) :
    Calls Tryz.prog 84 #[.int .i64 d] w fun e w' => e = .returned (.tuple #[.int .i64 0, .int .i64 0, .int .i64 0, .int .i64 13]) ∧ w = w' := by
  have H : Hid (dateErr d = 13) := Lib.hid (by unfold dateErr; rw [h]; rfl)
  clear h
  go_enter Tryz.func84, Tryz.ntmps84
  go_wp2_with fail
  refine (refCheckD d _).mono ?_
  rintro e w1 ⟨rfl, rfl⟩
  rw [H.out]
  go_wp2_with fail
  refine bodyPost_ret (results_tmp4 rfl _ _ _) rfl ?_
  exact ⟨rfl, rfl⟩

set_option maxHeartbeats 1000000 in
theorem refParts_yes (d : Int) (w : World) (h : okDay d = true) :
    Calls Tryz.prog 84 #[.int .i64 d] w fun e w' => e = .returned (.tuple #[.int .i64 (dYear d), .int .i64 (dMonth d), .int .i64 (dDay d), .int .i64 0]) ∧ w = w' := by
  have hd := (okDay_iff d).1 h
  obtain ⟨hd1, hd2⟩ := hd
  have H : Hid (dateErr d = 0) := Lib.hid (by unfold dateErr; rw [h]; rfl)
  clear h
  go_enter Tryz.func84, Tryz.ntmps84
  go_wp2_with fail
  refine (refCheckD d _).mono ?_
  rintro e w1 ⟨rfl, rfl⟩
  rw [H.out]
  go_wp2_with fail
  go_loop [6, 7] (fun v u => ∃ y : Int, 1900 ≤ y ∧ y ≤ 2199 ∧ beg y ≤ d + 25567 ∧ v = .int .i64 (d + 25567 - beg y) ∧ u = .int .i64 y) (fun _ u => (2200 - intOf u).toNat)
  case atStart => exact ⟨1900, by omega, by omega, by rw [beg_1900]; omega, by rw [beg_1900, Int.sub_zero], rfl⟩
  case round =>
    obtain ⟨y, hy1, hy2, hy3, rfl, rfl⟩ := hrel
    have hb1 := beg_bd hy1 (by omega)
    have hb2 := beg_bd (show 1900 ≤ y + 1 by omega) (by omega)
    have hs := beg_succ y
    have h2200 := beg_2200
    have hlast : 365 + lp y ≤ d + 25567 - beg y → y < 2199 := by
      intro hle
      rcases Int.lt_or_le y 2199 with h | h
      · exact h
      · obtain rfl : y = 2199 := by omega
        simp only [show (2199 : Int) + 1 = 2200 by decide] at hs; omega
    have HS := Lib.hid hs
    clear hs h2200
    go_wp2_with fail
    refine (refLeap y _ (by omega) (by omega)).mono ?_
    rintro e w1 ⟨rfl, rfl⟩
    have hcases : (leap y = true ∧ lp y = 1) ∨ (leap y = false ∧ lp y = 0) := by
      unfold lp; cases leap y <;> simp
    rcases hcases with ⟨hl, hlp⟩ | ⟨hl, hlp⟩
    all_goals
      rw [hl]
      rw [hlp] at hlast
      have HS2 := HS.out
      rw [hlp] at HS2
      have HLP := Lib.hid hlp
      have HS3 := Lib.hid HS2
      clear hl hlp HS HS2
    · by_cases hc : d + 25567 - beg y < 366
      · go_wp2_with fail
        go_loop [6, 8] (fun v k => ∃ m : Int, 1 ≤ m ∧ m ≤ 12 ∧ cum y m ≤ d + 25567 - beg y ∧ v = .int .i64 (d + 25567 - beg y - cum y m) ∧ k = .int .i64 m) (fun _ k => (13 - intOf k).toNat)
        case atStart => exact ⟨1, by omega, by omega, by rw [cum_1]; omega, by rw [cum_1, Int.sub_zero], rfl⟩
        case round =>
          obtain ⟨m, hm1, hm2, hm3, rfl, rfl⟩ := hrel
          have hml := mlen_bd y m
          have hcb := cum_bd y m
          go_wp2_with fail
          refine (refLength y m _ (by omega) (by omega) (by omega) (by omega)).mono ?_
          rintro e w1 ⟨rfl, rfl⟩
          by_cases hg : mlen y m ≤ d + 25567 - beg y - cum y m
          · go_wp2_with fail
            refine (refLength y m _ (by omega) (by omega) (by omega) (by omega)).mono ?_
            rintro e w2 ⟨rfl, rfl⟩
            go_wp2_with fail
            have hs2 := mlen_cum y m hm1 hm2
            go_round
            case rel =>
              refine ⟨m + 1, by omega, ?_, by rw [hs2]; omega, by rw [hs2]; congr 1; omega, rfl⟩
              rcases Int.lt_or_le m 12 with h | h
              · omega
              · obtain rfl : m = 12 := by omega
                have := cum_13 y; rw [HLP.out] at this; simp only [show (12 : Int) + 1 = 13 by decide] at hs2; omega
            case measure => simp [intOf]; omega
          · go_wp2_with fail
            refine bodyPost_ret (results_tmp4 rfl _ _ _) rfl ?_
            obtain ⟨e1, e2, e3⟩ := parts_eq (d := d) (y := y) (m := m) (k := d + 25567 - beg y - cum y m + 1) hy1 hy2 hm1 hm2 (by omega) (by omega) (by omega)
            rw [e1, e2, e3]
            exact ⟨rfl, rfl⟩
      · have := hlast (by omega)
        clear hlast
        go_wp2_with fail
        go_round
        case rel => exact ⟨y + 1, by omega, by omega, by rw [HS3.out]; omega, by rw [HS3.out]; congr 1; omega, rfl⟩
        case measure => simp [intOf]; omega
    · by_cases hc : d + 25567 - beg y < 365
      · go_wp2_with fail
        go_loop [6, 8] (fun v k => ∃ m : Int, 1 ≤ m ∧ m ≤ 12 ∧ cum y m ≤ d + 25567 - beg y ∧ v = .int .i64 (d + 25567 - beg y - cum y m) ∧ k = .int .i64 m) (fun _ k => (13 - intOf k).toNat)
        case atStart => exact ⟨1, by omega, by omega, by rw [cum_1]; omega, by rw [cum_1, Int.sub_zero], rfl⟩
        case round =>
          obtain ⟨m, hm1, hm2, hm3, rfl, rfl⟩ := hrel
          have hml := mlen_bd y m
          have hcb := cum_bd y m
          go_wp2_with fail
          refine (refLength y m _ (by omega) (by omega) (by omega) (by omega)).mono ?_
          rintro e w1 ⟨rfl, rfl⟩
          by_cases hg : mlen y m ≤ d + 25567 - beg y - cum y m
          · go_wp2_with fail
            refine (refLength y m _ (by omega) (by omega) (by omega) (by omega)).mono ?_
            rintro e w2 ⟨rfl, rfl⟩
            go_wp2_with fail
            have hs2 := mlen_cum y m hm1 hm2
            go_round
            case rel =>
              refine ⟨m + 1, by omega, ?_, by rw [hs2]; omega, by rw [hs2]; congr 1; omega, rfl⟩
              rcases Int.lt_or_le m 12 with h | h
              · omega
              · obtain rfl : m = 12 := by omega
                have := cum_13 y; rw [HLP.out] at this; simp only [show (12 : Int) + 1 = 13 by decide] at hs2; omega
            case measure => simp [intOf]; omega
          · go_wp2_with fail
            refine bodyPost_ret (results_tmp4 rfl _ _ _) rfl ?_
            obtain ⟨e1, e2, e3⟩ := parts_eq (d := d) (y := y) (m := m) (k := d + 25567 - beg y - cum y m + 1) hy1 hy2 hm1 hm2 (by omega) (by omega) (by omega)
            rw [e1, e2, e3]
            exact ⟨rfl, rfl⟩
      · have := hlast (by omega)
        clear hlast
        go_wp2_with fail
        go_round
        case rel => exact ⟨y + 1, by omega, by omega, by rw [HS3.out]; omega, by rw [HS3.out]; congr 1; omega, rfl⟩
        case measure => simp [intOf]; omega
end Go.Proofs.YteeampgbmpolfaaGreatDoor
