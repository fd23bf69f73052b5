/- The walk over the program's reader of a line. -/
import Derived.Test.YteeampgbmpolfaaGreatDoorRdMap
import Derived.Test.YteeampgbmpolfaaGreatDoorSplitB
import Derived.Test.YteeampgbmpolfaaGreatDoorStMove
import Derived.Laws.EntriesVeiled
namespace Go.Proofs.YteeampgbmpolfaaGreatDoor
open Go.RowKit
attribute [local go_sem] size_bs toList_bs extract_bs get_bs append_bs lit_append append_lit

set_option maxRecDepth 100000 in
set_option maxHeartbeats 4000000 in
theorem stRead (s : St) (line : Bs) (ws : List Bs) (hws : splitOn 32 line = ws) (first : Bool) (base g : Nat) (w : World) (hS : StAt w base g 81 (moreB (!first)) s) (hbw : base ≤ w.heap.size) (hE : Env w) (hl : line.length ≤ 100000) (hn1 : s.hs.length ≤ 1000000) (hn2 : s.ms.length ≤ 1000000) :
    Calls Tryz.prog 49 #[.pointer (some ⟨g, 0, none⟩), .string (bs line)] w (ReadEnds base g 81 moreB s first ws w) := by
  obtain ⟨vA, vB, hS⟩ := hS
  obtain ⟨W1, W2, W3, r1, r2, r3, hmap, hx, hsz⟩ := cmdMap w
  have hwl := splitOn_len 32 line
  have hwm := splitOn_mem 32 line
  have hwn := splitOn_ne 32 line
  rw [hws] at hwl hwm hwn
  have HWM := Lib.hid hwm
  obtain ⟨x, xs, rfl⟩ : ∃ x xs, ws = x :: xs := by cases ws with | nil => exact absurd rfl hwn | cons x xs => exact ⟨x, xs, rfl⟩
  simp only [kSt, kHo, kMo, vSt, vHo, vMo] at r1 r2 r3
  have HE := Lib.hid hE
  have HS := Lib.hid (hS.ext hx)
  have HMAP := Lib.hid hmap
  have HX := Lib.hid hx
  clear hwm hS hE hmap hwn
  have hmm := @run_makeMap Tryz.prog
  go_enter Tryz.func49, Tryz.ntmps49
  go_wp2_with fail
  refine (split_any line _ (by omega) (HE.out.ext HX.out)).mono ?_
  rw [hws]
  rintro e w4 ⟨rfl, rfl⟩
  clear hmm r1 r2 r3 hws
  have HW4 := Lib.hid (Blk.new W3 9 (scells (x :: xs)).toArray)
  have HM4 : Hid ((W3.alloc (.cells (scells (x :: xs)).toArray 9)).heap[w.heap.size]? = some (.map cmds 3)) := Lib.hid ((Below.heap_alloc W3 _ _ (by omega)).trans HMAP.out)
  have HS4 := Lib.hid (HS.out.ext (Ext.new W3 (.cells (scells (x :: xs)).toArray 9)))
  have HX4 := Lib.hid (HX.out.trans (Ext.new W3 (.cells (scells (x :: xs)).toArray 9)))
  have hsz4 : W3.heap.size < (W3.alloc (.cells (scells (x :: xs)).toArray 9)).heap.size := by simp
  generalize W3.alloc (.cells (scells (x :: xs)).toArray 9) = W4 at *
  generalize hbb : W3.heap.size = bb at *
  clear hbb HS HX HMAP hx hsz
  have hc0 := HW4.out.cell 0
  simp only [scells, List.map_cons, List.getElem?_toArray, List.getElem?_cons_zero] at hc0
  have hd3 := HS4.out.1.cell 3
  simp only [moreB, List.getElem?_toArray, List.getElem?_cons_zero, List.getElem?_cons_succ] at hd3
  have hbase : base ≤ W4.heap.size := Nat.le_trans hbw HX4.out.size
  have hgw := HS4.out.1.lt
  by_cases h1 : x = wStatement
  · subst h1
    have hlk := run_look (P := Tryz.prog) _ _ _ _ _ _ (bs wStatement) _ _ Tryz.underlying128 Tryz.underlying9 HM4.out (by rw [cmdFind, if_pos rfl])
    simp only [vSt] at hlk
    have hab : (wStatement == [115, 116, 97, 116, 101, 109, 101, 110, 116]) = true := rfl
    by_cases h2 : xs.length = 1
    · obtain ⟨b, rfl⟩ : ∃ b, xs = [b] := by match xs, h2 with | [b], _ => exact ⟨b, rfl⟩
      have hbl : b.length ≤ line.length := HWM.out b (by simp)
      clear h2
      cases first
      · simp only [Bool.not_false] at hd3
        go_wp2_with fail
        refine (stBegin s b false base g bb vA vB _ (HS4.out.ext (Ext.new _ _)) (HW4.out.ext (Ext.new _ _)) (by simp; omega) (by omega)).mono ?_
        rintro e w5 ⟨ok, rfl, hb5, hy, hn⟩
        go_wp2_with fail
        go_ret
        exact ⟨ok, rfl, (BelG.of (Below.mono (HX4.out.trans (Ext.new _ _)) hbw)).trans hb5, hy, hn⟩
      · simp only [Bool.not_true] at hd3
        go_wp2_with fail
        refine (stBegin s b true base g bb vA vB _ (HS4.out.ext (Ext.new _ _)) (HW4.out.ext (Ext.new _ _)) (by simp; omega) (by omega)).mono ?_
        rintro e w5 ⟨ok, rfl, hb5, hy, hn⟩
        go_wp2_with fail
        go_ret
        exact ⟨ok, rfl, (BelG.of (Below.mono (HX4.out.trans (Ext.new _ _)) hbw)).trans hb5, hy, hn⟩
    · have h2b : ((xs.length : Int) + 1 != 2) = true := by rw [bne_iff_ne]; omega
      have HST : Hid (stepW s first (wStatement :: xs) = none) := Lib.hid (by
        unfold stepW
        split
        · rename_i heq; injection heq with _ h; subst h; exact absurd rfl h2
        · rename_i heq; injection heq with h _; rw [← h]; simp [show ¬ wStatement = wHolding by decide]
        · rename_i heq; injection heq with h _; rw [← h]; simp [show ¬ wStatement = wMovement by decide]
        · rfl)
      clear h2
      go_wp2_with fail
      go_ret
      exact ReadEnds.no HST.out (Below.mono (HX4.out.trans (Ext.new _ _)) hbw)
  by_cases h2 : x = wHolding
  · subst h2
    have hlk := run_look (P := Tryz.prog) _ _ _ _ _ _ (bs wHolding) _ _ Tryz.underlying128 Tryz.underlying9 HM4.out (by rw [cmdFind, if_neg h1, if_pos rfl])
    simp only [vHo] at hlk
    have hab : (wHolding == [115, 116, 97, 116, 101, 109, 101, 110, 116]) = false := rfl
    clear h1
    by_cases h2 : xs.length = 2
    · obtain ⟨b, c, rfl⟩ := len2 h2
      have hbl : c.length ≤ line.length := HWM.out c (by simp)
      clear h2
      cases first
      · simp only [Bool.not_false] at hd3
        go_wp2_with fail
        refine (stHold s b c base g bb vA vB _ (HS4.out.ext (Ext.new _ _)) (HW4.out.ext (Ext.new _ _)) (by simp; omega) (by omega) (by omega)).mono ?_
        rintro e w5 ⟨ok, rfl, hb5, hy, hn⟩
        go_wp2_with fail
        go_ret
        exact ⟨ok, rfl, (BelG.of (Below.mono (HX4.out.trans (Ext.new _ _)) hbw)).trans hb5, hy, hn⟩
      · simp only [Bool.not_true] at hd3
        have HST : Hid (stepW s true [wHolding, b, c] = none) := Lib.hid (by simp [stepW])
        go_wp2_with fail
        go_ret
        exact ReadEnds.no HST.out (Below.mono (HX4.out.trans (Ext.new _ _)) hbw)
    · have h2b : ((xs.length : Int) + 1 != 3) = true := by rw [bne_iff_ne]; omega
      have HST : Hid (stepW s first (wHolding :: xs) = none) := Lib.hid (by
        unfold stepW
        split
        · rename_i heq; injection heq with h _; rw [← h]; simp [show ¬ wHolding = wStatement by decide]
        · rename_i heq; injection heq with _ h; subst h; exact absurd rfl h2
        · rename_i heq; injection heq with h _; rw [← h]; simp [show ¬ wHolding = wMovement by decide]
        · rfl)
      clear h2
      go_wp2_with fail
      go_ret
      exact ReadEnds.no HST.out (Below.mono (HX4.out.trans (Ext.new _ _)) hbw)
  by_cases h3 : x = wMovement
  · subst h3
    have hlk := run_look (P := Tryz.prog) _ _ _ _ _ _ (bs wMovement) _ _ Tryz.underlying128 Tryz.underlying9 HM4.out (by rw [cmdFind, if_neg h1, if_neg h2, if_pos rfl])
    simp only [vMo] at hlk
    have hab : (wMovement == [115, 116, 97, 116, 101, 109, 101, 110, 116]) = false := rfl
    clear h1 h2
    by_cases h2 : xs.length = 5
    · obtain ⟨b, c, d, e, f, rfl⟩ : ∃ b c d e f, xs = [b, c, d, e, f] := by match xs, h2 with | [b, c, d, e, f], _ => exact ⟨b, c, d, e, f, rfl⟩
      have hlc : c.length ≤ line.length := HWM.out c (by simp)
      have hle : e.length ≤ line.length := HWM.out e (by simp)
      have hlf : f.length ≤ line.length := HWM.out f (by simp)
      clear h2
      cases first
      · simp only [Bool.not_false] at hd3
        go_wp2_with fail
        refine (stMove s b c d e f base g bb vA vB _ (HS4.out.ext (Ext.new _ _)) (HW4.out.ext (Ext.new _ _)) (by simp; omega) (by omega) (by omega) (by omega) (by omega)).mono ?_
        rintro e w5 ⟨ok, rfl, hb5, hy, hn⟩
        go_wp2_with fail
        go_ret
        exact ⟨ok, rfl, (BelG.of (Below.mono (HX4.out.trans (Ext.new _ _)) hbw)).trans hb5, hy, hn⟩
      · simp only [Bool.not_true] at hd3
        have HST : Hid (stepW s true [wMovement, b, c, d, e, f] = none) := Lib.hid (by simp [stepW])
        go_wp2_with fail
        go_ret
        exact ReadEnds.no HST.out (Below.mono (HX4.out.trans (Ext.new _ _)) hbw)
    · have h2b : ((xs.length : Int) + 1 != 6) = true := by rw [bne_iff_ne]; omega
      have HST : Hid (stepW s first (wMovement :: xs) = none) := Lib.hid (by
        unfold stepW
        split
        · rename_i heq; injection heq with h _; rw [← h]; simp [show ¬ wMovement = wStatement by decide]
        · rename_i heq; injection heq with h _; rw [← h]; simp [show ¬ wMovement = wHolding by decide]
        · rename_i heq; injection heq with _ h; subst h; exact absurd rfl h2
        · rfl)
      clear h2
      go_wp2_with fail
      go_ret
      exact ReadEnds.no HST.out (Below.mono (HX4.out.trans (Ext.new _ _)) hbw)
  · have hlk := run_look_no (P := Tryz.prog) _ _ _ _ _ _ (bs x) _ Tryz.underlying128 Tryz.underlying9 HM4.out (by rw [cmdFind, if_neg h1, if_neg h2, if_neg h3]) (zCommand _)
    have HST : Hid (stepW s first (x :: xs) = none) := Lib.hid (by
        unfold stepW
        split
        · rename_i heq; injection heq with h _; rw [← h]; simp [h1]
        · rename_i heq; injection heq with h _; rw [← h]; simp [h2]
        · rename_i heq; injection heq with h _; rw [← h]; simp [h3]
        · rfl)
    clear h1 h2 h3
    go_wp2_with fail
    go_ret
    exact ReadEnds.no HST.out (Below.mono (HX4.out.trans (Ext.new _ _)) hbw)
end Go.Proofs.YteeampgbmpolfaaGreatDoor
