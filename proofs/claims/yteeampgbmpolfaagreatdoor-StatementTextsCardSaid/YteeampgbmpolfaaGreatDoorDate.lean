/- The walks over the program's dates. -/
import Derived.Test.YteeampgbmpolfaaGreatDoorDateP
import Derived.Test.YteeampgbmpolfaaGreatDoorEnv
namespace Go.Proofs.YteeampgbmpolfaaGreatDoor
open Go.RowKit
attribute [local go_sem] size_bs toList_bs extract_bs get_bs append_bs lit_append append_lit

theorem results_tmp4 {fn : Func} {t u v x : Tmp} (h : fn.results = #[.tmp t, .tmp u, .tmp v, .tmp x]) (tmps : Array Value) (P : Program) (w : World) :
    (results fn tmps).run P w = .ok (.tuple #[tmps.getD t undef, tmps.getD u undef, tmps.getD v undef, tmps.getD x undef]) w := by simp [results, h]

theorem datLeap (y : Int) (w : World) (h0 : 0 ≤ y) (h1 : y ≤ 100000) :
    Calls Tryz.prog 201 #[.int .i64 y] w fun e w' => e = .returned (.bool (leap y)) ∧ w = w' := by
  by_cases a : y % 4 = 0
  · have ab : (y % 4 == 0) = true := by simp [a]
    by_cases b : y % 100 = 0
    · have bb : (y % 100 != 0) = false := by simp [b]
      clear a b
      go_enter Tryz.func201, Tryz.ntmps201
      go_wp2_with fail
      go_ret
      exact ⟨by simp [leap, ab, bb], rfl⟩
    · have bb : (y % 100 != 0) = true := by simp [b]
      clear a b
      go_enter Tryz.func201, Tryz.ntmps201
      go_wp2_with fail
      go_ret
      exact ⟨by simp [leap, ab, bb], rfl⟩
  · have ab : (y % 4 == 0) = false := by simp [a]
    clear a
    go_enter Tryz.func201, Tryz.ntmps201
    go_wp2_with fail
    go_ret
    exact ⟨by simp [leap, ab], rfl⟩

theorem datBegin (y : Int) (w : World) (h0 : 1 ≤ y) (h1 : y ≤ 100000) :
    Calls Tryz.prog 162 #[.int .i64 y] w fun e w' => e = .returned (.int .i64 (beg y)) ∧ w = w' := by
  go_enter Tryz.func162, Tryz.ntmps162
  go_wp2_with fail
  go_ret
  exact ⟨rfl, rfl⟩

set_option maxHeartbeats 2000000 in
theorem datLength (y m : Int) (w : World) (h0 : 0 ≤ y) (h1 : y ≤ 100000) (h2 : 1 ≤ m) (h3 : m ≤ 12) :
    Calls Tryz.prog 163 #[.int .i64 y, .int .i64 m] w fun e w' => e = .returned (.int .i64 (mlen y m)) ∧ Ext w w' := by
  by_cases hm : m = 2
  · subst hm
    cases hl : leap y with
    | true =>
      have HL := Lib.hid hl
      clear hl
      go_enter Tryz.func163, Tryz.ntmps163
      go_wp2_with fail
      refine (datLeap y _ h0 h1).mono ?_
      rintro e w1 ⟨rfl, rfl⟩
      rw [HL.out]
      go_wp2_with fail
      go_ret
      exact ⟨by simp [mlen, lp, HL.out], Ext.new _ _⟩
    | false =>
      have HL := Lib.hid hl
      clear hl
      go_enter Tryz.func163, Tryz.ntmps163
      go_wp2_with fail
      refine (datLeap y _ h0 h1).mono ?_
      rintro e w1 ⟨rfl, rfl⟩
      rw [HL.out]
      go_wp2_with fail
      go_ret
      exact ⟨by simp [mlen, lp, HL.out], Ext.new _ _⟩
  · have hmm : m = 1 ∨ m = 3 ∨ m = 4 ∨ m = 5 ∨ m = 6 ∨ m = 7 ∨ m = 8 ∨ m = 9 ∨ m = 10 ∨ m = 11 ∨ m = 12 := by omega
    rcases hmm with rfl | rfl | rfl | rfl | rfl | rfl | rfl | rfl | rfl | rfl | rfl
    all_goals
      go_enter Tryz.func163, Tryz.ntmps163
      go_wp2_with fail
      go_ret
      exact ⟨rfl, Ext.new _ _⟩
end Go.Proofs.YteeampgbmpolfaaGreatDoor
