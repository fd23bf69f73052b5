/- The walks over the reference's Great and Same. -/
import Derived.Test.YteeampgbmpolfaaGreatDoorRefInt
import Derived.Test.YteeampgbmpolfaaGreatDoorCells
import Derived.Test.YteeampgbmpolfaaGreatDoorMem2
import Derived.BigQuiet
namespace Go.Proofs.YteeampgbmpolfaaGreatDoor
open Go.RowKit
attribute [local go_sem] size_bs toList_bs extract_bs get_bs append_bs lit_append append_lit

def bigH (h : Hd) : Prop := 60 < h.ins.length ∨ 60 < h.qty.length
def bigM (m : Mv) : Prop := 60 < m.ref.length ∨ 60 < m.ins.length ∨ 60 < m.qty.length ∨ 60 < m.amt.length
def bigN (n m : Nat) : Prop := (8 < n ∧ n ≤ 64) ∨ 67 < n ∨ (8 < m ∧ m ≤ 1000) ∨ 1003 < m
def greatS (s : St) : Prop := (∃ h ∈ s.hs, bigH h) ∨ (∃ m ∈ s.ms, bigM m) ∨ bigN s.hs.length s.ms.length
def GreatEnds (s : St) (w : World) (e : Ending) (w' : World) : Prop := Ext w w' ∧ ((greatS s ∧ e = .returned (.bool true)) ∨ (¬ greatS s ∧ e = .returned (.bool false)))
theorem not_greatS {s : St} (h1 : ∀ h ∈ s.hs, ¬ bigH h) (h2 : ∀ m ∈ s.ms, ¬ bigM m) (h3 : ¬ bigN s.hs.length s.ms.length) : ¬ greatS s := by
  rintro (⟨h, hh, hb⟩ | ⟨m, hm, hb⟩ | h)
  · exact h1 h hh hb
  · exact h2 m hm hb
  · exact h3 h

set_option maxRecDepth 100000 in
set_option maxHeartbeats 4000000 in
theorem refGreat (s : St) (A B : Option Addr) (c d : Nat) (w : World) (hA : RdH w A s.hs) (hB : RdM w B s.ms) (hn : s.hs.length ≤ 4611686018427387904) (hm : s.ms.length ≤ 4611686018427387904) :
    Calls Tryz.prog 9 #[.agg #[.int .i64 s.day, .slice A s.hs.length c, .slice B s.ms.length d]] w (GreatEnds s w) := by
  obtain ⟨day, hs, ms⟩ := s
  have HA := Lib.hid hA
  have HB := Lib.hid hB
  clear hA hB
  go_enter Tryz.func9, Tryz.ntmps9
  go_wp2_with fail
  go_loop [3] (fun i => ∃ k : Nat, k ≤ hs.length ∧ i = .int .i64 k ∧ (∀ (j : Nat) (hj : j < hs.length), j < k → ¬ bigH (hs[j]'hj))) (fun i => hs.length - (intOf i).toNat)
  case atStart => exact ⟨0, by omega, rfl, fun j _ hj => absurd hj (by omega)⟩
  case round =>
    obtain ⟨k, hk, rfl, hz⟩ := hrel
    have HZ := Lib.hid hz
    clear hz
    by_cases hlt : k < hs.length
    · obtain ⟨b, o, rfl, hb, hc1, hc2⟩ := HA.out.at_ hlt
      have hmem := Lib.hid (List.getElem_mem hlt)
      generalize hgh : (hs[k]'hlt) = h at *
      have HGH := Lib.hid hgh
      clear hgh
      by_cases h1 : 60 < (h.ins.length : Int)
      · have HY : Hid (greatS ⟨day, hs, ms⟩) := Lib.hid (.inl ⟨h, hmem.out, .inl (by omega)⟩)
        go_wp2_with fail
        go_ret
        exact ⟨Ext.new _ _, .inl ⟨HY.out, rfl⟩⟩
      · by_cases h2 : 60 < (h.qty.length : Int)
        · have HY : Hid (greatS ⟨day, hs, ms⟩) := Lib.hid (.inl ⟨h, hmem.out, .inr (by omega)⟩)
          go_wp2_with fail
          refine (refGreatI h.qty _).mono ?_
          rintro e w1 ⟨rfl, rfl⟩
          go_wp2_with fail
          go_ret
          exact ⟨Ext.new _ _, .inl ⟨HY.out, rfl⟩⟩
        · have HNB : Hid (¬ bigH h) := Lib.hid (by unfold bigH; omega)
          go_wp2_with fail
          refine (refGreatI h.qty _).mono ?_
          rintro e w1 ⟨rfl, rfl⟩
          go_wp2_with fail
          go_round
          case rel =>
            refine ⟨k + 1, by omega, by go_num, fun j hj hjk => ?_⟩
            rcases Nat.lt_or_ge j k with h' | h'
            · exact HZ.out j hj h'
            · obtain rfl : j = k := by omega
              rw [HGH.out]; exact HNB.out
          case measure => simp [intOf]; omega
    · have HALL : Hid (∀ h ∈ hs, ¬ bigH h) := Lib.hid (fun p hp => by
        obtain ⟨j, hj, rfl⟩ := List.mem_iff_getElem.1 hp
        exact HZ.out j hj (by omega))
      clear HZ
      go_wp2_with fail
      go_loopw [4, 5] (fun i _ wr => ∃ k : Nat, k ≤ ms.length ∧ i = .int .i64 k ∧ (∀ (j : Nat) (hj : j < ms.length), j < k → ¬ bigM (ms[j]'hj)) ∧ Ext (w.alloc (.cells #[.int .i64 day, .slice A hs.length c, .slice B ms.length d] 26)) wr) (fun i _ _ => ms.length - (intOf i).toNat)
      case atStart => exact ⟨0, by omega, rfl, fun j _ hj => absurd hj (by omega), Ext.refl _⟩
      case round =>
        obtain ⟨k2, hk2, rfl, hz, hx⟩ := hrel
        have HZ := Lib.hid hz
        clear hz
        have hbx := (Blk.new w 26 #[.int .i64 day, .slice A hs.length c, .slice B ms.length d]).ext hx
        have hs1 := hbx.cell 1
        have hs2 := hbx.cell 2
        simp only [List.getElem?_toArray, List.getElem?_cons_zero, List.getElem?_cons_succ] at hs1 hs2
        have hsw := hbx.lt
        clear hbx
        have HX := Lib.hid (Ext.of_alloc hx)
        by_cases hlt2 : k2 < ms.length
        · obtain ⟨b, o, rfl, hb, hc1, hc2, hc3, hc4, hc5⟩ := ((HB.out.ext (Ext.new w _)).ext hx).at_ hlt2
          have hmem := Lib.hid (List.getElem_mem hlt2)
          generalize hgh : (ms[k2]'hlt2) = m at *
          have HGH := Lib.hid hgh
          clear hgh
          by_cases h1 : 60 < (m.ref.length : Int)
          · have HY : Hid (greatS ⟨day, hs, ms⟩) := Lib.hid (.inr (.inl ⟨m, hmem.out, .inl (by omega)⟩))
            go_wp2_with fail
            go_ret
            exact ⟨HX.out.alloc _, .inl ⟨HY.out, rfl⟩⟩
          by_cases h2 : 60 < (m.ins.length : Int)
          · have HY : Hid (greatS ⟨day, hs, ms⟩) := Lib.hid (.inr (.inl ⟨m, hmem.out, .inr (.inl (by omega))⟩))
            go_wp2_with fail
            go_ret
            exact ⟨HX.out.alloc _, .inl ⟨HY.out, rfl⟩⟩
          by_cases h3 : 60 < (m.qty.length : Int)
          · have HY : Hid (greatS ⟨day, hs, ms⟩) := Lib.hid (.inr (.inl ⟨m, hmem.out, .inr (.inr (.inl (by omega)))⟩))
            go_wp2_with fail
            refine (refGreatI m.qty _).mono ?_
            rintro e w1 ⟨rfl, rfl⟩
            go_wp2_with fail
            go_ret
            exact ⟨HX.out.alloc _, .inl ⟨HY.out, rfl⟩⟩
          by_cases h4 : 60 < (m.amt.length : Int)
          · have HY : Hid (greatS ⟨day, hs, ms⟩) := Lib.hid (.inr (.inl ⟨m, hmem.out, .inr (.inr (.inr (by omega)))⟩))
            go_wp2_with fail
            refine (refGreatI m.qty _).mono ?_
            rintro e w1 ⟨rfl, rfl⟩
            go_wp2_with fail
            refine (refGreatI m.amt _).mono ?_
            rintro e w1 ⟨rfl, rfl⟩
            go_wp2_with fail
            go_ret
            exact ⟨HX.out.alloc _, .inl ⟨HY.out, rfl⟩⟩
          · have HNB : Hid (¬ bigM m) := Lib.hid (by unfold bigM; omega)
            go_wp2_with fail
            refine (refGreatI m.qty _).mono ?_
            rintro e w1 ⟨rfl, rfl⟩
            go_wp2_with fail
            refine (refGreatI m.amt _).mono ?_
            rintro e w1 ⟨rfl, rfl⟩
            go_wp2_with fail
            go_roundw
            case rel =>
              refine ⟨k2 + 1, by omega, by go_num, fun j hj hjk => ?_, hx.alloc _⟩
              rcases Nat.lt_or_ge j k2 with h' | h'
              · exact HZ.out j hj h'
              · obtain rfl : j = k2 := by omega
                rw [HGH.out]; exact HNB.out
            case measure => simp [intOf]; omega
        · have HALM : Hid (∀ m ∈ ms, ¬ bigM m) := Lib.hid (fun p hp => by
            obtain ⟨j, hj, rfl⟩ := List.mem_iff_getElem.1 hp
            exact HZ.out j hj (by omega))
          clear HZ
          have HN := Lib.hid (fun h => not_greatS (s := ⟨day, hs, ms⟩) HALL.out HALM.out h)
          have HY : Hid (bigN hs.length ms.length → greatS ⟨day, hs, ms⟩) := Lib.hid (fun h => .inr (.inr h))
          clear HALL HALM
          go_wp2_with fail
          go_quiet (fail)
          by_cases a1 : 8 < (hs.length : Int)
          · by_cases a2 : (hs.length : Int) ≤ 64
            · have HY2 := Lib.hid (HY.out (by unfold bigN; omega))
              go_wp2_with fail
              go_ret
              exact ⟨HX.out.drewN _, .inl ⟨HY2.out, rfl⟩⟩
            · by_cases a3 : 67 < (hs.length : Int)
              · have HY2 := Lib.hid (HY.out (by unfold bigN; omega))
                go_wp2_with fail
                go_ret
                exact ⟨HX.out.drewN _, .inl ⟨HY2.out, rfl⟩⟩
              · by_cases b1 : 8 < (ms.length : Int)
                · by_cases b2 : (ms.length : Int) ≤ 1000
                  · have HY2 := Lib.hid (HY.out (by unfold bigN; omega))
                    go_wp2_with fail
                    go_ret
                    exact ⟨HX.out.drewN _, .inl ⟨HY2.out, rfl⟩⟩
                  · by_cases b3 : 1003 < (ms.length : Int)
                    · have HY2 := Lib.hid (HY.out (by unfold bigN; omega))
                      go_wp2_with fail
                      go_ret
                      exact ⟨HX.out.drewN _, .inl ⟨HY2.out, rfl⟩⟩
                    · have b4 : ¬ 1003 < (ms.length : Int) := (by omega); have a4 : ¬ 67 < (hs.length : Int) := (by omega); have HN2 := Lib.hid (HN.out (by unfold bigN; omega))
                      go_wp2_with fail
                      go_ret
                      exact ⟨HX.out.drewN _, .inr ⟨HN2.out, rfl⟩⟩
                · have b4 : ¬ 1003 < (ms.length : Int) := (by omega); have a4 : ¬ 67 < (hs.length : Int) := (by omega); have HN2 := Lib.hid (HN.out (by unfold bigN; omega))
                  go_wp2_with fail
                  go_ret
                  exact ⟨HX.out.drewN _, .inr ⟨HN2.out, rfl⟩⟩
          · by_cases b1 : 8 < (ms.length : Int)
            · by_cases b2 : (ms.length : Int) ≤ 1000
              · have HY2 := Lib.hid (HY.out (by unfold bigN; omega))
                go_wp2_with fail
                go_ret
                exact ⟨HX.out.drewN _, .inl ⟨HY2.out, rfl⟩⟩
              · by_cases b3 : 1003 < (ms.length : Int)
                · have HY2 := Lib.hid (HY.out (by unfold bigN; omega))
                  go_wp2_with fail
                  go_ret
                  exact ⟨HX.out.drewN _, .inl ⟨HY2.out, rfl⟩⟩
                · have b4 : ¬ 1003 < (ms.length : Int) := (by omega); have a4 : ¬ 67 < (hs.length : Int) := (by omega); have HN2 := Lib.hid (HN.out (by unfold bigN; omega))
                  go_wp2_with fail
                  go_ret
                  exact ⟨HX.out.drewN _, .inr ⟨HN2.out, rfl⟩⟩
            · have b4 : ¬ 1003 < (ms.length : Int) := (by omega); have a4 : ¬ 67 < (hs.length : Int) := (by omega); have HN2 := Lib.hid (HN.out (by unfold bigN; omega))
              go_wp2_with fail
              go_ret
              exact ⟨HX.out.drewN _, .inr ⟨HN2.out, rfl⟩⟩

set_option maxRecDepth 100000 in
set_option maxHeartbeats 4000000 in
theorem refSame (s : St) (A B : Option Addr) (c d : Nat) (A' B' : Option Addr) (c' d' : Nat) (w : World) (hA : RdH w A s.hs) (hB : RdM w B s.ms) (hA' : RdH w A' s.hs) (hB' : RdM w B' s.ms) (hn : s.hs.length ≤ 4611686018427387904) (hm : s.ms.length ≤ 4611686018427387904) :
    Calls Tryz.prog 15 #[.agg #[.int .i64 s.day, .slice A s.hs.length c, .slice B s.ms.length d], .agg #[.int .i64 s.day, .slice A' s.hs.length c', .slice B' s.ms.length d']] w fun e w' => e = .returned (.bool true) ∧ Ext w w' := by
  obtain ⟨day, hs, ms⟩ := s
  have HA := Lib.hid hA
  have HB := Lib.hid hB
  have HA' := Lib.hid hA'
  have HB' := Lib.hid hB'
  clear hA hB hA' hB'
  go_enter Tryz.func15, Tryz.ntmps15
  go_wp2_with fail
  have HW0 := Lib.hid (((Blk.new w 26 #[.int .i64 day, .slice A hs.length c, .slice B ms.length d]).ext (Ext.new _ (.cells #[.int .i64 day, .slice A' hs.length c', .slice B' ms.length d'] 26))))
  have HW1 := Lib.hid (Blk.new (w.alloc (.cells #[.int .i64 day, .slice A hs.length c, .slice B ms.length d] 26)) 26 #[.int .i64 day, .slice A' hs.length c', .slice B' ms.length d'])
  have hx0 : Ext w ((w.alloc (.cells #[.int .i64 day, .slice A hs.length c, .slice B ms.length d] 26)).alloc (.cells #[.int .i64 day, .slice A' hs.length c', .slice B' ms.length d'] 26)) := (Ext.new _ _).alloc _
  go_loopw [5] (fun i wr => ∃ k : Nat, k ≤ hs.length ∧ i = .int .i64 k ∧ Ext ((w.alloc (.cells #[.int .i64 day, .slice A hs.length c, .slice B ms.length d] 26)).alloc (.cells #[.int .i64 day, .slice A' hs.length c', .slice B' ms.length d'] 26)) wr) (fun i _ => hs.length - (intOf i).toNat)
  case atStart => exact ⟨0, by omega, rfl, Ext.refl _⟩
  case round =>
    obtain ⟨k, hk, rfl, hx⟩ := hrel
    have hq1 := (HW0.out.ext hx).cell 1
    have hq2 := (HW0.out.ext hx).cell 2
    have hr1 := (HW1.out.ext hx).cell 1
    have hr2 := (HW1.out.ext hx).cell 2
    simp only [World.size_alloc, List.getElem?_toArray, List.getElem?_cons_zero, List.getElem?_cons_succ] at hq1 hq2 hr1 hr2
    have HX := Lib.hid (hx0.trans hx)
    by_cases hlt : k < hs.length
    · obtain ⟨b, o, rfl, hb, hc1, hc2⟩ := (HA.out.ext HX.out).at_ hlt
      obtain ⟨b', o', rfl, hb', hc1', hc2'⟩ := (HA'.out.ext HX.out).at_ hlt
      go_wp2_with fail
      go_quiet (fail)
      go_wp2_with fail
      go_roundw
      case rel => exact ⟨k + 1, by omega, by go_num, hx.drewN _⟩
      case measure => simp [intOf]; omega
    · clear HA HA'
      go_wp2_with fail
      go_loopw [6] (fun i wr' => ∃ k : Nat, k ≤ ms.length ∧ i = .int .i64 k ∧ Ext wr wr') (fun i _ => ms.length - (intOf i).toNat)
      case atStart => exact ⟨0, by omega, rfl, Ext.refl _⟩
      case round =>
        rename_i wr2
        obtain ⟨k2, hk2, rfl, hx2⟩ := hrel
        have hq1 := (HW0.out.ext (hx.trans hx2)).cell 1
        have hq2 := (HW0.out.ext (hx.trans hx2)).cell 2
        have hr1 := (HW1.out.ext (hx.trans hx2)).cell 1
        have hr2 := (HW1.out.ext (hx.trans hx2)).cell 2
        simp only [World.size_alloc, List.getElem?_toArray, List.getElem?_cons_zero, List.getElem?_cons_succ] at hq1 hq2 hr1 hr2
        have HX2 := Lib.hid (hx0.trans (hx.trans hx2))
        by_cases hlt2 : k2 < ms.length
        · obtain ⟨b, o, rfl, hb, hc1, hc2, hc3, hc4, hc5⟩ := (HB.out.ext HX2.out).at_ hlt2
          obtain ⟨b', o', rfl, hb', hd1, hd2, hd3, hd4, hd5⟩ := (HB'.out.ext HX2.out).at_ hlt2
          go_wp2_with fail
          go_quiet (fail)
          go_wp2_with fail
          go_roundw
          case rel => exact ⟨k2 + 1, by omega, by go_num, hx2.drewN _⟩
          case measure => simp [intOf]; omega
        · go_wp2_with fail
          go_ret
          exact ⟨rfl, HX2.out⟩
end Go.Proofs.YteeampgbmpolfaaGreatDoor
