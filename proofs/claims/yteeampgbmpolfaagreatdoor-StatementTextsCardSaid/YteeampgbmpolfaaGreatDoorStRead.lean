/- The walks over the program's readers of one line. -/
import Derived.Test.YteeampgbmpolfaaGreatDoorRefRead
import Derived.Test.YteeampgbmpolfaaGreatDoorInt
namespace Go.Proofs.YteeampgbmpolfaaGreatDoor
open Go.RowKit
attribute [local go_sem] size_bs toList_bs extract_bs get_bs append_bs lit_append append_lit

theorem stReadDay (l : Bs) (w : World) (hl : l.length ≤ 1000000000) :
    Calls Tryz.prog 123 #[.string (bs l)] w fun e w' => e = .returned (.tuple #[.int .i64 (parseDV l), .bool (parseDE l == 0)]) ∧ Ext w w' := by
  go_enter Tryz.func123, Tryz.ntmps123
  go_wp2_with fail
  refine (datParse l _ hl).mono ?_
  rintro e w1 ⟨rfl, hx⟩
  go_wp2_with fail
  go_ret2
  exact ⟨rfl, hx⟩
theorem stReadNumber (l : Bs) (w : World) (hl : l.length ≤ 1000000000) :
    Calls Tryz.prog 124 #[.string (bs l)] w fun e w' => e = .returned (.tuple #[.string (bs (parseIV l)), .bool (parseIE l == 0)]) ∧ Ext w w' := by
  go_enter Tryz.func124, Tryz.ntmps124
  go_wp2_with fail
  refine (intParse l _ hl).mono ?_
  rintro e w1 ⟨rfl, hx⟩
  go_wp2_with fail
  go_ret2
  exact ⟨rfl, hx⟩

def moreB (b : Bool) : List Value := [.bool b]

set_option maxHeartbeats 4000000 in
theorem stBegin (s : St) (b : Bs) (first : Bool) (base g bb : Nat) (vA vB : Value) (w : World) (hS : StAtV w base g 81 (moreB (!first)) s vA vB) (hW : Blk w bb 9 (scells [wStatement, b]).toArray) (hbw : base ≤ w.heap.size) (hl : b.length ≤ 100000) :
    Calls Tryz.prog 89 #[.pointer (some ⟨g, 0, none⟩), .slice (some ⟨bb, 0, none⟩) 2 2] w (ReadEnds base g 81 moreB s first [wStatement, b] w) := by
  have hc1 := hW.cell 1
  simp only [scells, List.map_cons, List.map_nil, List.getElem?_toArray, List.getElem?_cons_zero, List.getElem?_cons_succ] at hc1
  have HS := Lib.hid hS
  clear hS hW
  go_enter Tryz.func89, Tryz.ntmps89
  go_wp2_with fail
  refine (stReadDay b _ (by omega)).mono ?_
  rintro e w1 ⟨rfl, hx⟩
  have hS1 := HS.out.ext hx
  have hd0 := hS1.1.cell 0
  have hd3 := hS1.1.cell 3
  have hf0 := hS1.1.frozen 0
  have hf3 := hS1.1.frozen 3
  simp only [moreB, List.getElem?_toArray, List.getElem?_cons_zero, List.getElem?_cons_succ] at hd0 hd3
  have HS1 := Lib.hid hS1
  clear hS1
  have HST : Hid (stepW s first [wStatement, b] = if first = true ∧ parseDE b = 0 then some { s with day := parseDV b } else none) := Lib.hid (by simp [stepW])
  have hFin : ∀ ok : Bool, ok = decide (first = true ∧ parseDE b = 0) → ReadEnds base g 81 moreB s first [wStatement, b] w (.returned (.bool ok)) ((w1.setCell ⟨g, 0, none⟩ (.int .i64 (parseDV b))).setCell ⟨g, 3, none⟩ (.bool true)) := fun ok hok => by
    refine ReadEnds.yes HST.out hok ?_ ?_
    · exact ((BelG.of (Below.mono hx hbw)).setCell _ _).setCell _ _
    · exact ⟨_, _, (HS1.out.set_ (by decide) (by decide) (parseDV b) _ 0 _ rfl).set_ (by decide) (by decide) (parseDV b) (moreB true) 3 _ rfl⟩
  have HF := Lib.hid hFin
  clear hFin
  generalize hdv : parseDV b = dv at *
  by_cases hde : parseDE b = 0
  · have hdb : (parseDE b == 0) = true := by rw [beq_iff_eq]; exact hde
    rw [hdb]
    have HF2 := Lib.hid (HF.out first (by simp [hde]))
    clear hdb hde HF
    cases first
    · simp only [Bool.not_false] at hd3
      go_wp2_with fail
      go_ret
      exact HF2.out
    · simp only [Bool.not_true] at hd3
      go_wp2_with fail
      go_ret
      exact HF2.out
  · have hdb : (parseDE b == 0) = false := by rw [beq_eq_false_iff_ne]; exact hde
    rw [hdb]
    have HF2 := Lib.hid (HF.out false (by simp [hde]))
    clear hdb hde HF
    go_wp2_with fail
    go_ret
    exact HF2.out

set_option maxRecDepth 100000 in
set_option maxHeartbeats 4000000 in
theorem stHold (s : St) (b c : Bs) (base g bb : Nat) (vA vB : Value) (w : World) (hS : StAtV w base g 81 (moreB true) s vA vB) (hW : Blk w bb 9 (scells [wHolding, b, c]).toArray) (hbw : base ≤ w.heap.size) (hl : c.length ≤ 100000) (hn : s.hs.length ≤ 1000000) :
    Calls Tryz.prog 90 #[.pointer (some ⟨g, 0, none⟩), .slice (some ⟨bb, 0, none⟩) 3 3] w (ReadEnds base g 81 moreB s false [wHolding, b, c] w) := by
  obtain ⟨iH, hiH, hzH0, hzH1, hzH2⟩ := info_parts holdInfo
  have HIH := Lib.hid hiH
  clear hiH
  have hc2 := hW.cell 2
  simp only [scells, List.map_cons, List.map_nil, List.getElem?_toArray, List.getElem?_cons_zero, List.getElem?_cons_succ] at hc2
  have HS := Lib.hid hS
  have HW := Lib.hid hW
  obtain ⟨aA, cA, rfl⟩ := own_len hS.2.2.1
  obtain ⟨aB, cB, rfl⟩ := own_len hS.2.2.2
  clear hS hW
  go_enter Tryz.func90, Tryz.ntmps90
  go_wp2_with fail
  refine (stReadNumber c _ (by omega)).mono ?_
  rintro e w1 ⟨rfl, hx⟩
  have hS1 := HS.out.ext hx
  have hd1 := hS1.1.cell 1
  have hd2 := hS1.1.cell 2
  have hf1 := hS1.1.frozen 1
  have hW1 := HW.out.ext hx
  have he1 := hW1.cell 1
  simp only [moreB, scells, List.map_cons, List.map_nil, List.getElem?_toArray, List.getElem?_cons_zero, List.getElem?_cons_succ] at hd1 hd2 he1
  have hgw1 := hS1.1.lt
  have HS1 := Lib.hid hS1
  have HW1 := Lib.hid hW1
  have HST : Hid (stepW s false [wHolding, b, c] = if (s.ms = [] ∧ b ≠ [] ∧ parseIE c = 0) then some { s with hs := s.hs ++ [⟨b, parseIV c⟩] } else none) := Lib.hid (by simp [stepW])
  clear hS1 hW1
  generalize hdv : parseIV c = dv at *
  have HDV := Lib.hid hdv
  clear hdv
  go_wp2_with fail
  go_region_law ((refine step_append_lies _ (by rfl) (.tmp 19) (.tmp 25) 23 (by rfl) base 45 iH _ 2 32 Tryz.underlying23 HIH.out hzH0 hzH1 hzH2 rfl (by decide) (.slice aA s.hs.length cA) s.hs.length (hcells s.hs) (by simp [Act.eval, Act.put]) (HS1.out.2.2.1.drew.alloc _) ⟨w1.heap.size, 0, none⟩ 1 1 [.string (bs b), .string (bs dv)] (by simp [Act.eval, Act.put]) rfl (World.news_of_block (heap_alloc_new w1.drew _)) (by simp [Value.oneCell']) (by omega) (by simp only [maxLen]; omega) (by omega) (by have := hx.size; simp; omega) _ rfl ?_); intro g' cap' w' hown hgrow hat hlt'; (have hb' := StAtV.growA ((HS1.out.ext (Ext.refl w1).drew).ext (Ext.new _ _)) (by decide) hgrow); (have hg1 := hb'.cell 1); (have hg2 := hb'.frozen 1); (have hg3 := hb'.cell 2); (have hm1 := (World.grownBy.cell_far hgrow ⟨bb, 1, none⟩ (by have := HW1.out.lt; simp; omega) (fun he => own_ne HS1.out.2.2.1 HW1.out (by decide) he.symm)).trans (((HW1.out.drew).alloc _).cell 1)); (simp only [scells, List.map_cons, List.map_nil, List.getElem?_toArray, List.getElem?_cons_zero, List.getElem?_cons_succ] at hg1 hg3 hm1); (have hbg2 := own_ne HS1.out.2.2.1 HW1.out (by decide)); (have hne := Blk.lt HW1.out); clear hb')
  all_goals
    have hbbg : ¬ bb = g := fun he => by subst he; have h1 := HW1.out; have h2 := HS1.out.1; unfold Blk at h1 h2; rw [h1] at h2; injection h2 with h2; injection h2 with _ h2; exact absurd h2 (by decide)
    have HFIN : ∀ ok : Bool, ok = decide (s.ms = [] ∧ b ≠ [] ∧ parseIE c = 0) → ReadEnds base g 81 moreB s false [wHolding, b, c] w (.returned (.bool ok)) (w'.setCell ⟨g, 1, none⟩ (.slice (some ⟨g', 0, none⟩) (s.hs.length + 1) cap')) := fun ok hok => by
      refine ReadEnds.yes HST.out hok ?_ ?_
      · exact (BelG.of (Below.grown (Below.alloc (Below.mono hx hbw).drew (by have := hx.size; simp; omega) _) hgrow (by have := hx.size; simp; omega) (own_ge HS1.out.2.2.1))).setCell _ _
      · exact StAtV.addH (x := ⟨b, dv⟩) ((HS1.out.ext (Ext.refl w1).drew).ext (Ext.new _ _)) (by decide) (by decide) hgrow hown
    have HF := Lib.hid HFIN
    clear HFIN hown hgrow hat
    by_cases h1 : parseIE c = 0
    · have h1b : (parseIE c == 0) = true := by rw [beq_iff_eq]; exact h1
      by_cases h2 : b = []
      · have h2b : b.isEmpty = true := by simp [h2]
        have HF2 := Lib.hid (HF.out false (by simp [h2]))
        clear h1 h2 HF
        rw [h1b]
        clear h1b
        go_wp2_with fail
        go_ret
        exact HF2.out
      · have h2b : b.isEmpty = false := by simpa using h2
        have HF2 := Lib.hid (HF.out (decide (s.ms = [])) (by simp [h1, h2]))
        clear h1 h2 HF
        by_cases hms : s.ms = []
        · have hm0 : s.ms.length = 0 := by rw [hms]; rfl
          have HF3 := Lib.hid (by have := HF2.out; rw [decide_eq_true hms] at this; exact this)
          have hmb : ((s.ms.length : Int) == 0) = true := by rw [hm0]; rfl
          clear hms HF2
          rw [h1b]
          clear h1b
          go_wp2_with fail
          go_ret
          exact HF3.out
        · have hm0 : 0 < s.ms.length := List.length_pos_iff.2 hms
          have hmb : ((s.ms.length : Int) == 0) = false := by rw [beq_eq_false_iff_ne]; omega
          have HF3 := Lib.hid (by have := HF2.out; rw [decide_eq_false hms] at this; exact this)
          clear hms HF2
          rw [h1b]
          clear h1b
          go_wp2_with fail
          go_ret
          exact HF3.out
    · have h1b : (parseIE c == 0) = false := by rw [beq_eq_false_iff_ne]; exact h1
      have HF2 := Lib.hid (HF.out false (by simp [h1]))
      clear h1 HF
      rw [h1b]
      clear h1b
      go_wp2_with fail
      go_ret
      exact HF2.out
end Go.Proofs.YteeampgbmpolfaaGreatDoor
