/- The walks over the law's Example and awake. -/
import Derived.Test.YteeampgbmpolfaaGreatDoorExample
import Derived.Test.YteeampgbmpolfaaGreatDoorParseS
import Derived.Test.YteeampgbmpolfaaGreatDoorPrint
import Derived.Test.YteeampgbmpolfaaGreatDoorGreat
import Derived.Deep.RegionHeld3
namespace Go.Proofs.YteeampgbmpolfaaGreatDoor
open Go.RowKit
attribute [local go_sem] size_bs toList_bs extract_bs get_bs append_bs lit_append append_lit

def StEnds (s : St) (w : World) (e : Ending) (w' : World) : Prop :=
  ∃ A c B d, e = .returned (.agg #[.int .i64 s.day, .slice A s.hs.length c, .slice B s.ms.length d]) ∧ RdH w' A s.hs ∧ RdM w' B s.ms ∧ Ext w w'
theorem results_one {fn : Func} {a : Tmp} (h : fn.results = #[.cell a 26]) (tmps : Array Value) (w : World) (g : Nat) (x y z : Value) (ha : tmps.getD a undef = .pointer (some ⟨g, 0, none⟩)) (hb : Blk w g 26 #[x, y, z]) :
    (results fn tmps).run Tryz.prog w = .ok (.agg #[x, y, z]) w := by
  have h0 := hb.cell 0
  have h1 := hb.cell 1
  have h2 := hb.cell 2
  simp only [List.getElem?_toArray, List.getElem?_cons_zero, List.getElem?_cons_succ] at h0 h1 h2
  unfold results
  rw [h]
  simp only [List.mapM_toArray, List.mapM_cons, List.mapM_nil, ha]
  go_simp

theorem Reads.litAt {w : World} {t : TypeId} {size n g : Nat} {xs : List Value} (hl : xs.length = n * size) (hg : w.heap.size = g) : Reads (w.alloc (.cells xs.toArray t)) size (some ⟨g, 0, none⟩) n xs := by
  subst hg; exact Reads.lit hl
set_option maxRecDepth 100000 in
theorem lawExample (w : World) : Calls Tryz.prog 39 #[] w (StEnds exS w) := by
  go_enter Tryz.func39, Tryz.ntmps39
  go_wp2_with fail
  refine bodyPost_ret (results_one rfl _ _ _ _ _ _ rfl (((Blk.newAt _ _ _ _ rfl).alloc _).alloc _)) rfl ?_
  exact ⟨some ⟨w.heap.size + 1, 0, none⟩, 1, some ⟨w.heap.size + 1 + 1, 0, none⟩, 2, rfl, (Reads.litAt (xs := hcells exS.hs) (n := 1) rfl (by simp)).ext (Ext.new _ _), Reads.litAt (xs := mcells exS.ms) (n := 2) rfl (by simp), ((Ext.new _ _).alloc _).alloc _⟩

theorem exSmall : SmallS exS := by
  refine ⟨by decide, by decide, ?_, ?_⟩
  · intro h hh; simp [exS] at hh; subst hh; simp [SmallH]
  · intro m hm; simp [exS] at hm; rcases hm with rfl | rfl <;> simp [SmallM]
theorem exBig : ¬ 65536 < exT.length := by rw [exLen]; decide
theorem exParse : parseSt exT = exS ∧ parseSN exT = 0 ∧ parseSE exT = 0 := by
  unfold parseSt parseSN parseSE
  rw [if_neg exBig, if_neg exBig, if_neg exBig, exRes]
  simp [exCheck]

set_option maxRecDepth 100000 in
set_option maxHeartbeats 4000000 in
theorem lawAwake (w : World) (hE : Env w) : Calls Tryz.prog 10 #[] w fun e w' => e = .returned (.bool true) ∧ Ext w w' := by
  go_enter Tryz.func10, Tryz.ntmps10
  go_wp2_with fail
  refine (lawExample _).mono ?_
  rintro e w1 ⟨A, c, B, d, rfl, hA, hB, hx1⟩
  go_wp2_with fail
  refine (stPrint exS A B c d _ hA hB exSmall (hE.ext hx1)).mono ?_
  rw [exPrint, exPrintE]
  rintro e w2 ⟨rfl, hx2⟩
  have hx12 := hx1.trans hx2
  clear hA hB hx1 hx2
  have hel : exT.length ≤ 1000000000 := by rw [exLen]; decide
  go_wp2_with fail
  refine (stParse exT _ hel (hE.ext hx12)).mono ?_
  rw [exParse.1, exParse.2.1, exParse.2.2]
  rintro e w3 ⟨A3, c3, B3, d3, rfl, hA3, hB3, hx3⟩
  have HX := Lib.hid (hx12.trans hx3)
  have HA3 := Lib.hid hA3
  have HB3 := Lib.hid hB3
  clear hA3 hB3 hx3 hx12
  go_wp2_with fail
  have HBX := Lib.hid (Blk.new w3 26 #[.int .i64 exS.day, .slice A3 exS.hs.length c3, .slice B3 exS.ms.length d3])
  go_region_held3 (fun w' => w'.cell? ⟨w3.heap.size, 0, none⟩ = some (.int .i64 exS.day) ∧ w'.cell? ⟨w3.heap.size, 1, none⟩ = some (.slice A3 exS.hs.length c3) ∧ w'.cell? ⟨w3.heap.size, 2, none⟩ = some (.slice B3 exS.ms.length d3))
    (go_keep)
    (first
      | (go_at_call 39; refine (lawExample _).mono ?_; rintro e w4 ⟨A4, c4, B4, d4, rfl, hA4, hB4, hx4⟩; have hbx := HBX.out.ext (Ext.trans (Ext.drew (Ext.refl _)) hx4); have hq0 := hbx.cell 0; have hq1 := hbx.cell 1; have hq2 := hbx.cell 2; simp only [List.getElem?_toArray, List.getElem?_cons_zero, List.getElem?_cons_succ] at hq0 hq1 hq2; have HX4 := Lib.hid ((HX.out.trans ((Ext.new _ _).drew)).trans hx4); have HBX4 := Lib.hid hbx; have HA4 := Lib.hid hA4; have HB4 := Lib.hid hB4; have HA34 := Lib.hid ((HA3.out.ext ((Ext.new _ _).drew)).ext hx4); have HB34 := Lib.hid ((HB3.out.ext ((Ext.new _ _).drew)).ext hx4); clear hbx hx4 hA4 hB4)
      | (go_at_call 15; refine (refSame exS A3 B3 c3 d3 A4 B4 c4 d4 _ HA34.out HB34.out HA4.out HB4.out (by decide) (by decide)).mono ?_; rintro e w5 ⟨rfl, hx5⟩; have hbx5 := HBX4.out.ext hx5; have hr0 := hbx5.cell 0; have hr1 := hbx5.cell 1; have hr2 := hbx5.cell 2; simp only [List.getElem?_toArray, List.getElem?_cons_zero, List.getElem?_cons_succ] at hr0 hr1 hr2; have HX5 := Lib.hid (HX4.out.trans hx5); clear hbx5 hx5))
  go_wp2_with fail
  go_ret
  exact ⟨rfl, HX5.out⟩
end Go.Proofs.YteeampgbmpolfaaGreatDoor
