/- The walk over the law StatementTexts. -/
import Derived.Test.YteeampgbmpolfaaGreatDoorAwake
import Derived.Test.YteeampgbmpolfaaGreatDoorRefPrint
namespace Go.Proofs.YteeampgbmpolfaaGreatDoor
open Go.RowKit
attribute [local go_sem] size_bs toList_bs extract_bs get_bs append_bs lit_append append_lit

theorem small_of_great {s : St} (h : ¬ greatS s) : SmallS s := by
  have hn : ¬ bigN s.hs.length s.ms.length := fun h' => h (.inr (.inr h'))
  refine ⟨by unfold bigN at hn; omega, by unfold bigN at hn; omega, fun x hx => ?_, fun x hx => ?_⟩
  · have hb : ¬ bigH x := fun h' => h (.inl ⟨x, hx, h'⟩)
    unfold bigH at hb; unfold SmallH; omega
  · have hb : ¬ bigM x := fun h' => h (.inr (.inl ⟨x, hx, h'⟩))
    unfold bigM at hb; unfold SmallM; omega
theorem stepW_len1 {s s' : St} {first : Bool} {ws : List Bs} (h : stepW s first ws = some s') : s'.hs.length ≤ s.hs.length + 1 ∧ s'.ms.length ≤ s.ms.length + 1 := by
  unfold stepW at h
  split at h
  all_goals first
    | (split at h
       · injection h with h; subst h; simp
       · cases h)
    | cases h
theorem goLines_len : ∀ (ls : List Bs) (s : St) (k : Nat), (goLines s k ls).1.hs.length ≤ s.hs.length + ls.length ∧ (goLines s k ls).1.ms.length ≤ s.ms.length + ls.length
  | [], s, k => by simp [goLines]
  | [x], s, k => by rw [goLines_one]; split <;> simp
  | x :: y :: r, s, k => by
    cases h : stepLine s (k == 0) x with
    | some s' =>
      rw [goLines_ok h]
      have h1 := stepW_len1 h
      have h2 := goLines_len (y :: r) s' (k + 1)
      simp only [List.length_cons] at h2 ⊢
      omega
    | none => rw [goLines_bad h]; simp
theorem parseSt_len {t : Bs} (ht : t.length ≤ 1000000000) : (parseSt t).hs.length ≤ 4611686018427387904 ∧ (parseSt t).ms.length ≤ 4611686018427387904 := by
  have h := goLines_len (splitOn 10 t) zeroS 0
  have h2 := splitOn_len 10 t
  unfold parseSt
  split
  · simp [zeroS]
  · split
    · simp [zeroS]
    · split
      · simp [zeroS]
      · simp only [zeroS, List.length_nil] at h
        unfold resL; simp only [zeroS]; omega
theorem bs_beq (l : Bs) : (l == l) = true := by simp

set_option maxRecDepth 100000 in
set_option maxHeartbeats 4000000 in
theorem lawTexts (s : St) (A B : Option Addr) (c d : Nat) (t : Bs) (w : World) (hA : RdH w A s.hs) (hB : RdM w B s.ms) (hn : s.hs.length ≤ 4611686018427387904) (hm : s.ms.length ≤ 4611686018427387904) (hE : Env w) :
    Calls Tryz.prog 3 #[.agg #[.int .i64 s.day, .slice A s.hs.length c, .slice B s.ms.length d], .string (bs t)] w fun e w' => e = .returned (.bool true) ∧ Ext w w' := by
  have HE := Lib.hid hE
  have HA := Lib.hid hA
  have HB := Lib.hid hB
  clear hE hA hB
  have HBX := Lib.hid (Blk.new w 26 #[.int .i64 s.day, .slice A s.hs.length c, .slice B s.ms.length d])
  go_enter Tryz.func3, Tryz.ntmps3
  go_wp2_with fail
  refine (refGreat s A B c d _ (HA.out.ext (Ext.new _ _)) (HB.out.ext (Ext.new _ _)) hn hm).mono ?_
  rintro e w1 ⟨hx1, (⟨hg, rfl⟩ | ⟨hg, rfl⟩)⟩
  · have HX1 := Lib.hid (Ext.of_alloc hx1)
    clear hx1 hg
    go_wp2_with fail
    refine (lawAwake _ (HE.out.ext HX1.out)).mono ?_
    rintro e w2 ⟨rfl, hx2⟩
    go_wp2_with fail
    go_ret
    exact ⟨rfl, HX1.out.trans hx2⟩
  · have HX1 := Lib.hid (Ext.of_alloc hx1)
    have HS := Lib.hid (small_of_great hg)
    have hbx1 := HBX.out.ext hx1
    have hq0 := hbx1.cell 0
    have hq1 := hbx1.cell 1
    have hq2 := hbx1.cell 2
    simp only [List.getElem?_toArray, List.getElem?_cons_zero, List.getElem?_cons_succ] at hq0 hq1 hq2
    have HBX1 := Lib.hid hbx1
    clear hx1 hg hbx1
    have hgo : ∀ (a1 : Bool), True := fun _ => trivial
    clear hgo
    by_cases h1 : 1000 < (t.length : Int) ∧ (t.length : Int) ≤ 65536
    · obtain ⟨h1a, h1b⟩ := h1
      go_wp2_with fail
      refine (lawAwake _ (HE.out.ext HX1.out)).mono ?_
      rintro e w2 ⟨rfl, hx2⟩
      go_wp2_with fail
      go_ret
      exact ⟨rfl, HX1.out.trans hx2⟩
    by_cases h2 : 65546 < (t.length : Int)
    · have h1a : 1000 < (t.length : Int) := by omega
      have h1b : ¬ (t.length : Int) ≤ 65536 := by omega
      clear h1
      go_wp2_with fail
      refine (lawAwake _ (HE.out.ext HX1.out)).mono ?_
      rintro e w2 ⟨rfl, hx2⟩
      go_wp2_with fail
      go_ret
      exact ⟨rfl, HX1.out.trans hx2⟩
    · have htl : t.length ≤ 1000000000 := by omega
      rcases (show (¬ 1000 < (t.length : Int)) ∨ (1000 < (t.length : Int) ∧ ¬ (t.length : Int) ≤ 65536) by omega) with h3 | ⟨h3, h4⟩
      all_goals
        clear h1
        go_wp2_with fail
        refine (stPrint s A B c d _ (HA.out.ext HX1.out) (HB.out.ext HX1.out) HS.out (HE.out.ext HX1.out)).mono ?_
        rintro e w2 ⟨rfl, hx2⟩
        have HX2 := Lib.hid (HX1.out.trans hx2)
        have hbx2 := HBX1.out.ext hx2
        have hr0 := hbx2.cell 0
        have hr1 := hbx2.cell 1
        have hr2 := hbx2.cell 2
        simp only [List.getElem?_toArray, List.getElem?_cons_zero, List.getElem?_cons_succ] at hr0 hr1 hr2
        clear hbx2 hx2
        generalize hpv : printSV s = pv at *
        generalize hpe : printSE s = pe at *
        go_wp2_with fail
        refine (refPrintS s A B c d _ (HA.out.ext HX2.out) (HB.out.ext HX2.out) HS.out).mono ?_
        rw [hpv, hpe]
        clear hpv hpe
        rintro e w3 ⟨rfl, hx3⟩
        have HX3 := Lib.hid (HX2.out.trans hx3)
        clear hx3
        go_wp2_with fail
        refine (stParse t _ htl (HE.out.ext HX3.out)).mono ?_
        generalize hps : parseSt t = ps at *
        generalize hpn : parseSN t = pn at *
        generalize hpr : parseSE t = pr at *
        rintro e w4 ⟨A4, c4, B4, d4, rfl, hA4, hB4, hx4⟩
        have HX4 := Lib.hid (HX3.out.trans hx4)
        have HA4 := Lib.hid hA4
        have HB4 := Lib.hid hB4
        clear hA4 hB4 hx4
        have HBY := Lib.hid (Blk.new w4 26 #[.int .i64 ps.day, .slice A4 ps.hs.length c4, .slice B4 ps.ms.length d4])
        go_wp2_with fail
        refine (refParseS t _ htl).mono ?_
        rw [hps, hpn, hpr]
        rintro e w5 ⟨A5, c5, B5, d5, rfl, hA5, hB5, hx5⟩
        have HX5 := Lib.hid ((HX4.out.trans (Ext.new _ _)).trans hx5)
        have hby5 := HBY.out.ext hx5
        have hy0 := hby5.cell 0
        have hy1 := hby5.cell 1
        have hy2 := hby5.cell 2
        have hyl := hby5.lt
        simp only [List.getElem?_toArray, List.getElem?_cons_zero, List.getElem?_cons_succ] at hy0 hy1 hy2
        have HA5 := Lib.hid (hA5.ext (Ext.new _ (.cells #[.int .i64 ps.day, .slice A5 ps.hs.length c5, .slice B5 ps.ms.length d5] 26)))
        have HB5 := Lib.hid (hB5.ext (Ext.new _ (.cells #[.int .i64 ps.day, .slice A5 ps.hs.length c5, .slice B5 ps.ms.length d5] 26)))
        have HA45 := Lib.hid (((HA4.out.ext (Ext.new _ _)).ext hx5).ext (Ext.new _ (.cells #[.int .i64 ps.day, .slice A5 ps.hs.length c5, .slice B5 ps.ms.length d5] 26)))
        have HB45 := Lib.hid (((HB4.out.ext (Ext.new _ _)).ext hx5).ext (Ext.new _ (.cells #[.int .i64 ps.day, .slice A5 ps.hs.length c5, .slice B5 ps.ms.length d5] 26)))
        have HLN : Hid (ps.hs.length ≤ 4611686018427387904 ∧ ps.ms.length ≤ 4611686018427387904) := Lib.hid (by have := parseSt_len htl; rw [hps] at this; exact this)
        clear hA5 hB5 hx5 hby5 hps hpn hpr
        go_wp2_with fail
        refine (refSame ps A4 B4 c4 d4 A5 B5 c5 d5 _ HA45.out HB45.out HA5.out HB5.out HLN.out.1 HLN.out.2).mono ?_
        rintro e w6 ⟨rfl, hx6⟩
        have HX6 := Lib.hid ((HX5.out.trans (Ext.new _ _)).trans hx6)
        clear hx6
        go_wp2_with fail
        refine (lawAwake _ (HE.out.ext HX6.out)).mono ?_
        rintro e w7 ⟨rfl, hx7⟩
        go_wp2_with fail
        go_ret
        exact ⟨rfl, HX6.out.trans hx7⟩
end Go.Proofs.YteeampgbmpolfaaGreatDoor
