/- The walks over the program's dates: Parts, Print. -/
import Derived.Test.YteeampgbmpolfaaGreatDoorDate
namespace Go.Proofs.YteeampgbmpolfaaGreatDoor
open Go.RowKit
attribute [local go_sem] size_bs toList_bs extract_bs get_bs append_bs lit_append append_lit

theorem datValid (d : Int) (w : World) :
    Calls Tryz.prog 161 #[.int .i64 d] w fun e w' => e = .returned (.bool (okDay d)) ∧ w = w' := by
  by_cases a : -25567 ≤ d
  · have ab : decide (-25567 ≤ d) = true := by simp [a]
    go_enter Tryz.func161, Tryz.ntmps161
    go_wp2_with fail
    go_ret
    exact ⟨by simp [okDay, a], rfl⟩
  · have ab : decide (-25567 ≤ d) = false := by simp [a]
    go_enter Tryz.func161, Tryz.ntmps161
    go_wp2_with fail
    go_ret
    exact ⟨by simp [okDay]; omega, rfl⟩

theorem beg_guess {n : Int} (h0 : 0 ≤ n) (h1 : n ≤ 109572) : beg (1900 + n / 366) ≤ n ∧ 1900 + n / 366 ≤ 2199 := by unfold beg; omega
theorem beg_bd {y : Int} (h0 : 1900 ≤ y) (h1 : y ≤ 2200) : 0 ≤ beg y ∧ beg y ≤ 109573 := by
  have a := beg_mono h0; have b := beg_mono h1; rw [beg_1900] at a; rw [beg_2200] at b; exact ⟨a, b⟩

set_option maxHeartbeats 400000 in
theorem datParts_no (d : Int) (w : World) (h : okDay d = false) :
    Calls Tryz.prog 116 #[.int .i64 d] w fun e w' => e = .returned (.tuple #[.int .i64 0, .int .i64 0, .int .i64 0, .int .i64 13]) ∧ w = w' := by
  have H := Lib.hid h
  clear h
  go_enter Tryz.func116, Tryz.ntmps116
  go_wp2_with fail
  refine (datValid d _).mono ?_
  rintro e w1 ⟨rfl, rfl⟩
  rw [H.out]
  go_wp2_with fail
  refine bodyPost_ret (results_tmp4 rfl _ _ _) rfl ?_
  exact ⟨rfl, rfl⟩

set_option maxHeartbeats 1000000 in
theorem datParts_yes (d : Int) (w : World) (h : okDay d = true) :
    Calls Tryz.prog 116 #[.int .i64 d] w fun e w' => e = .returned (.tuple #[.int .i64 (dYear d), .int .i64 (dMonth d), .int .i64 (dDay d), .int .i64 0]) ∧ Ext w w' := by
  have hd := (okDay_iff d).1 h
  obtain ⟨hd1, hd2⟩ := hd
  have H := Lib.hid h
  clear h
  go_enter Tryz.func116, Tryz.ntmps116
  go_wp2_with fail
  refine (datValid d _).mono ?_
  rintro e w1 ⟨rfl, rfl⟩
  rw [H.out]
  go_wp2_with fail
  go_loop [7] (fun v => ∃ y : Int, 1900 ≤ y ∧ y ≤ 2199 ∧ beg y ≤ d + 25567 ∧ v = .int .i64 y) (fun v => (2200 - intOf v).toNat)
  case atStart =>
    have := beg_guess (n := d + 25567) (by omega) (by omega)
    exact ⟨_, by omega, this.2, this.1, rfl⟩
  case round =>
    obtain ⟨y, hy1, hy2, hy3, rfl⟩ := hrel
    have hb1 := beg_bd hy1 (by omega)
    have hb2 := beg_bd (show 1900 ≤ y + 1 by omega) (by omega)
    go_wp2_with fail
    refine (datBegin (y + 1) _ (by omega) (by omega)).mono ?_
    rintro e w1 ⟨rfl, rfl⟩
    by_cases hc : beg (y + 1) ≤ d + 25567
    · go_wp2_with fail
      go_round
      case rel =>
        refine ⟨y + 1, by omega, ?_, hc, rfl⟩
        rcases Int.lt_or_le y 2199 with h | h
        · omega
        · obtain rfl : y = 2199 := by omega
          have := beg_2200; simp only [show (2199 : Int) + 1 = 2200 by decide] at hc; omega
      case measure => simp [intOf]; omega
    · have HC := Lib.hid hc
      have hs := beg_succ y
      have hl := lp_01 y
      have hr1 : d + 25567 - beg y < 365 + lp y := by omega
      have HS := Lib.hid hs
      clear hs
      go_wp2_with fail
      refine (datBegin y _ (by omega) (by omega)).mono ?_
      rintro e w1 ⟨rfl, rfl⟩
      go_wp2_with fail
      go_loopw [6, 8] (fun v k wr => ∃ m : Int, 1 ≤ m ∧ m ≤ 12 ∧ cum y m ≤ d + 25567 - beg y ∧ v = .int .i64 (d + 25567 - beg y - cum y m) ∧ k = .int .i64 m ∧ Ext w wr) (fun _ k _ => (13 - intOf k).toNat)
      case atStart => exact ⟨1, by omega, by omega, by rw [cum_1]; omega, by rw [cum_1, Int.sub_zero], rfl, Ext.refl _⟩
      case round =>
        obtain ⟨m, hm1, hm2, hm3, rfl, rfl, hx⟩ := hrel
        have hml := mlen_bd y m
        have hcb := cum_bd y m
        go_wp2_with fail
        refine (datLength y m _ (by omega) (by omega) (by omega) (by omega)).mono ?_
        rintro e w1 ⟨rfl, hx1⟩
        by_cases hg : mlen y m ≤ d + 25567 - beg y - cum y m
        · go_wp2_with fail
          refine (datLength y m _ (by omega) (by omega) (by omega) (by omega)).mono ?_
          rintro e w2 ⟨rfl, hx2⟩
          go_wp2_with fail
          have hs2 := mlen_cum y m hm1 hm2
          go_roundw
          case rel =>
            refine ⟨m + 1, by omega, ?_, by rw [hs2]; omega, by rw [hs2]; congr 1; omega, rfl, (hx.trans hx1).trans hx2⟩
            rcases Int.lt_or_le m 12 with h | h
            · omega
            · obtain rfl : m = 12 := by omega
              have := cum_13 y; simp only [show (12 : Int) + 1 = 13 by decide] at hs2; omega
          case measure => simp [intOf]; omega
        · go_wp2_with fail
          refine bodyPost_ret (results_tmp4 rfl _ _ _) rfl ?_
          obtain ⟨e1, e2, e3⟩ := parts_eq (d := d) (y := y) (m := m) (k := d + 25567 - beg y - cum y m + 1) hy1 hy2 hm1 hm2 (by omega) (by omega) (by omega)
          rw [e1, e2, e3]
          exact ⟨rfl, hx.trans hx1⟩
end Go.Proofs.YteeampgbmpolfaaGreatDoor
