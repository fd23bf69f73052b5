/- The walk over the program's statement: Check. -/
import Derived.Test.YteeampgbmpolfaaGreatDoorCheckM
namespace Go.Proofs.YteeampgbmpolfaaGreatDoor
open Go.RowKit Go.Shelf
attribute [local go_sem] size_bs toList_bs extract_bs get_bs append_bs lit_append append_lit

structure SmallS (s : St) : Prop where
  hn : s.hs.length ≤ 1000000000
  mn : s.ms.length ≤ 1000000000
  h : ∀ h ∈ s.hs, SmallH h
  m : ∀ m ∈ s.ms, SmallM m

set_option maxHeartbeats 1000000 in
theorem stCheck (s : St) (A B : Option Addr) (c d : Nat) (w : World) (hA : RdH w A s.hs) (hB : RdM w B s.ms) (hsm : SmallS s) :
    Calls Tryz.prog 20 #[.agg #[.int .i64 s.day, .slice A s.hs.length c, .slice B s.ms.length d]] w fun e w' => e = .returned (.int .i64 (checkS s)) ∧ Ext w w' := by
  obtain ⟨day, hs, ms⟩ := s
  obtain ⟨hn, mn, hh, hm⟩ := hsm
  dsimp only at *
  have HA := Lib.hid hA
  have HB := Lib.hid hB
  have HH := Lib.hid hh
  have HM := Lib.hid hm
  clear hA hB hh hm
  go_enter Tryz.func20, Tryz.ntmps20
  go_wp2_with fail
  refine (stValid _ _).mono ?_
  rintro e w1 ⟨rfl, rfl⟩
  cases hd : okDay day with
  | false =>
    have HD := Lib.hid hd
    clear hd
    go_wp2_with fail
    go_ret
    exact ⟨by unfold checkS; rw [if_pos HD.out]; rfl, Ext.new _ _⟩
  | true =>
    have HD := Lib.hid hd
    clear hd
    go_wp2_with fail
    refine (stCheckH hs A c _ (HA.out.ext (Ext.new _ _)) (by omega) HH.out).mono ?_
    rintro e w2 ⟨rfl, hx2⟩
    obtain ⟨hrc, hrf⟩ := hx2.rules
    have hsz := hx2.size
    simp only [World.size_alloc] at hrc hrf hsz
    by_cases hz : checkH hs = 0
    · rw [hz]
      have HZ : Hid (checkS ⟨day, hs, ms⟩ = checkM day ms) := Lib.hid (by unfold checkS; rw [if_neg (by rw [HD.out]; decide), if_neg (fun e => e hz)])
      clear hz
      go_wp2_with fail
      refine (stCheckM ms day B d _ (HB.out.ext hx2.of_alloc) (by omega) HM.out).mono ?_
      rintro e w3 ⟨rfl, hx3⟩
      go_wp2_with fail
      go_ret
      exact ⟨by rw [HZ.out]; rfl, hx2.of_alloc.trans hx3⟩
    · have hzb : (checkH hs != 0) = true := by simpa using hz
      have HZ : Hid (checkS ⟨day, hs, ms⟩ = checkH hs) := Lib.hid (by unfold checkS; rw [if_neg (by rw [HD.out]; decide), if_pos hz])
      clear hz
      go_wp2_with fail
      go_ret
      exact ⟨by rw [HZ.out]; rfl, hx2.of_alloc⟩
end Go.Proofs.YteeampgbmpolfaaGreatDoor
