/- The walk over the program's reader of a movement's line. -/
import Derived.Test.YteeampgbmpolfaaGreatDoorStRead
namespace Go.Proofs.YteeampgbmpolfaaGreatDoor
open Go.RowKit
attribute [local go_sem] size_bs toList_bs extract_bs get_bs append_bs lit_append append_lit

set_option maxRecDepth 100000 in
set_option maxHeartbeats 4000000 in
theorem stMove (s : St) (b c d e f : Bs) (base g bb : Nat) (vA vB : Value) (w : World) (hS : StAtV w base g 81 (moreB true) s vA vB) (hW : Blk w bb 9 (scells [wMovement, b, c, d, e, f]).toArray) (hbw : base ≤ w.heap.size) (hlc : c.length ≤ 100000) (hle : e.length ≤ 100000) (hlf : f.length ≤ 100000) (hn : s.ms.length ≤ 1000000) :
    Calls Tryz.prog 91 #[.pointer (some ⟨g, 0, none⟩), .slice (some ⟨bb, 0, none⟩) 6 6] w (ReadEnds base g 81 moreB s false [wMovement, b, c, d, e, f] w) := by
  obtain ⟨iM, hiM, hzM0, hzM1, hzM2⟩ := info_parts movInfo
  have HIM := Lib.hid hiM
  clear hiM
  have hc2 := hW.cell 2
  simp only [scells, List.map_cons, List.map_nil, List.getElem?_toArray, List.getElem?_cons_zero, List.getElem?_cons_succ] at hc2
  have HS := Lib.hid hS
  have HW := Lib.hid hW
  obtain ⟨aA, cA, rfl⟩ := own_len hS.2.2.1
  obtain ⟨aB, cB, rfl⟩ := own_len hS.2.2.2
  clear hS hW
  have HST : Hid (stepW s false [wMovement, b, c, d, e, f] = if (b ≠ [] ∧ d ≠ [] ∧ parseDE c = 0 ∧ parseIE e = 0 ∧ parseIE f = 0) then some { s with ms := s.ms ++ [⟨b, parseDV c, d, parseIV e, parseIV f⟩] } else none) := Lib.hid (by simp [stepW])
  go_enter Tryz.func91, Tryz.ntmps91
  go_wp2_with fail
  refine (stReadDay c _ (by omega)).mono ?_
  rintro e2 w2 ⟨rfl, hx2⟩
  have hW2 := HW.out.ext hx2
  have hr4 := hW2.cell 4
  simp only [scells, List.map_cons, List.map_nil, List.getElem?_toArray, List.getElem?_cons_zero, List.getElem?_cons_succ] at hr4
  have HW2 := Lib.hid hW2
  clear hW2
  generalize hdv : parseDV c = dv at *
  generalize hde : (parseDE c == 0) = de at *
  go_wp2_with fail
  refine (stReadNumber e _ (by omega)).mono ?_
  rintro e3 w3 ⟨rfl, hx3⟩
  have hW3 := HW2.out.ext hx3
  have hr5 := hW3.cell 5
  simp only [scells, List.map_cons, List.map_nil, List.getElem?_toArray, List.getElem?_cons_zero, List.getElem?_cons_succ] at hr5
  have HW3 := Lib.hid hW3
  clear hW3
  generalize hqv : parseIV e = qv at *
  generalize hqe : (parseIE e == 0) = qe at *
  go_wp2_with fail
  refine (stReadNumber f _ (by omega)).mono ?_
  rintro e4 w1 ⟨rfl, hx4⟩
  generalize hav : parseIV f = av at *
  generalize hae : (parseIE f == 0) = ae at *
  have hx := (hx2.trans hx3).trans hx4
  have hS1 := HS.out.ext hx
  have hd1 := hS1.1.cell 1
  have hd2 := hS1.1.cell 2
  have hf2 := hS1.1.frozen 2
  have hW1 := HW.out.ext hx
  have he1 := hW1.cell 1
  have he3 := hW1.cell 3
  simp only [moreB, scells, List.map_cons, List.map_nil, List.getElem?_toArray, List.getElem?_cons_zero, List.getElem?_cons_succ] at hd1 hd2 he1 he3
  have hgw1 := hS1.1.lt
  have HS1 := Lib.hid hS1
  have HW1 := Lib.hid hW1
  have HE1 := Lib.hid hdv
  have HE2 := Lib.hid hde
  have HE3 := Lib.hid hqv
  have HE4 := Lib.hid hqe
  have HE5 := Lib.hid hav
  have HE6 := Lib.hid hae
  clear hdv hde hqv hqe hav hae hS1 hW1 hx2 hx3 hx4 hc2 hr4 hr5
  go_wp2_with fail
  go_region_law ((refine step_append_lies _ (by rfl) (.tmp 37) (.tmp 48) 24 (by rfl) base 50 iM _ 5 72 Tryz.underlying24 HIM.out hzM0 hzM1 hzM2 rfl (by decide) (.slice aB s.ms.length cB) s.ms.length (mcells s.ms) (by simp [Act.eval, Act.put]) (HS1.out.2.2.2.drew.alloc _) ⟨w1.heap.size, 0, none⟩ 1 1 [.string (bs b), .int .i64 dv, .string (bs d), .string (bs qv), .string (bs av)] (by simp [Act.eval, Act.put]) rfl (World.news_of_block (heap_alloc_new w1.drew _)) (by simp [Value.oneCell']) (by omega) (by simp only [maxLen]; omega) (by omega) (by have := hx.size; simp; omega) _ rfl ?_); intro g' cap' w' hown hgrow hat hlt'; (have hb' := StAtV.growB ((HS1.out.ext (Ext.refl w1).drew).ext (Ext.new _ _)) (by decide) hgrow); (have hg1 := hb'.cell 2); (have hg2 := hb'.frozen 2); (have hm1 := (World.grownBy.cell_far hgrow ⟨bb, 1, none⟩ (by have := HW1.out.lt; simp; omega) (fun he => own_ne HS1.out.2.2.2 HW1.out (by decide) he.symm)).trans (((HW1.out.drew).alloc _).cell 1)); (have hm3 := (World.grownBy.cell_far hgrow ⟨bb, 3, none⟩ (by have := HW1.out.lt; simp; omega) (fun he => own_ne HS1.out.2.2.2 HW1.out (by decide) he.symm)).trans (((HW1.out.drew).alloc _).cell 3)); (simp only [scells, List.map_cons, List.map_nil, List.getElem?_toArray, List.getElem?_cons_zero, List.getElem?_cons_succ] at hg1 hm1 hm3); clear hb')
  all_goals
    have hbbg : ¬ bb = g := fun he => by subst he; have h1 := HW1.out; have h2 := HS1.out.1; unfold Blk at h1 h2; rw [h1] at h2; injection h2 with h2; injection h2 with _ h2; exact absurd h2 (by decide)
    have HFIN : ∀ ok : Bool, ok = (de && qe && ae && !b.isEmpty && !d.isEmpty) → ReadEnds base g 81 moreB s false [wMovement, b, c, d, e, f] w (.returned (.bool ok)) (w'.setCell ⟨g, 2, none⟩ (.slice (some ⟨g', 0, none⟩) (s.ms.length + 1) cap')) := fun ok hok => by
      refine ReadEnds.yes HST.out ?_ ?_ ?_
      · rw [hok, ← HE2.out, ← HE4.out, ← HE6.out, Bool.eq_iff_iff]; simp [and_assoc]; constructor <;> (intro h; simp_all)
      · exact (BelG.of (Below.grown (Below.alloc (Below.mono hx hbw).drew (by have := hx.size; simp; omega) _) hgrow (by have := hx.size; simp; omega) (own_ge HS1.out.2.2.2))).setCell _ _
      · exact StAtV.addM (x := ⟨b, dv, d, qv, av⟩) ((HS1.out.ext (Ext.refl w1).drew).ext (Ext.new _ _)) (by decide) (by decide) hgrow hown
    have HF := Lib.hid HFIN
    clear HFIN hown hgrow hat HE2 HE4 HE6
    rcases de with _ | _
    · go_wp2_with fail
      go_ret
      exact HF.out _ rfl
    · rcases qe with _ | _
      · go_wp2_with fail
        go_ret
        exact HF.out _ rfl
      · rcases ae with _ | _
        · go_wp2_with fail
          go_ret
          exact HF.out _ rfl
        · rcases h2b : b.isEmpty with _ | _
          · have HF2 := Lib.hid (by have := HF.out _ rfl; rw [h2b] at this; exact this)
            go_wp2_with fail
            go_ret
            exact HF2.out
          · have HF2 := Lib.hid (by have := HF.out _ rfl; rw [h2b] at this; exact this)
            go_wp2_with fail
            go_ret
            exact HF2.out
end Go.Proofs.YteeampgbmpolfaaGreatDoor
