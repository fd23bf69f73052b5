/- The walk over the reference's dates: Parse. -/
import Derived.Test.YteeampgbmpolfaaGreatDoorDateParse
namespace Go.Proofs.YteeampgbmpolfaaGreatDoor
open Go.RowKit
attribute [local go_sem] size_bs toList_bs extract_bs get_bs append_bs lit_append append_lit

/-- which of the three numbers the k-th byte belongs to -/
def fld (k : Nat) : Int := if k ≤ 4 then 0 else if k ≤ 7 then 1 else 2
/-- the first k bytes have the form -/
def okPre (l : Bs) (k : Nat) : Bool := (List.range k).all fun j => if j = 4 ∨ j = 7 then l[j]? == some 45 else (l[j]?.map isD).getD false
theorem okPre_succ (l : Bs) (k : Nat) : okPre l (k + 1) = (okPre l k && if k = 4 ∨ k = 7 then l[k]? == some 45 else (l[k]?.map isD).getD false) := by
  simp [okPre, List.range_succ]
theorem okPre_le (l : Bs) (k : Nat) (hk : k < 10) (h : okPre l (k + 1) = false) : okPre l 10 = false := by
  unfold okPre at h ⊢
  rw [List.all_eq_false] at h ⊢
  obtain ⟨x, hx, hp⟩ := h
  exact ⟨x, by rw [List.mem_range] at hx ⊢; omega, hp⟩
theorem okPre_10 (c0 c1 c2 c3 c4 c5 c6 c7 c8 c9 : UInt8) : okPre [c0, c1, c2, c3, c4, c5, c6, c7, c8, c9] 10 = okText [c0, c1, c2, c3, c4, c5, c6, c7, c8, c9] := by
  rw [okText_10]
  simp only [okPre_succ]
  simp [okPre]
  cases isD c0 <;> cases isD c1 <;> cases isD c2 <;> cases isD c3 <;> cases isD c5 <;> cases isD c6 <;> cases isD c8 <;> cases isD c9 <;> simp
def qY (l : Bs) (k : Nat) : Int := numG ((l.take 4).take k)
def qM (l : Bs) (k : Nat) : Int := numG (((l.drop 5).take 2).take (k - 5))
def qD (l : Bs) (k : Nat) : Int := numG (((l.drop 8).take 2).take (k - 8))
theorem gb_digit {c : UInt8} (h : 48 ≤ (c.toNat : Int)) : (c.toNat : Int) - 48 = gb c := by unfold gb; rw [if_pos (by omega)]

theorem okPre_digit (l : Bs) (k : Nat) (hk : k < l.length) (h4 : k ≠ 4) (h7 : k ≠ 7) : okPre l (k + 1) = (okPre l k && isD (l[k]'hk)) := by
  rw [okPre_succ, if_neg (by omega), List.getElem?_eq_getElem hk]; rfl
theorem okPre_dash (l : Bs) (k : Nat) (hk : k < l.length) (h : k = 4 ∨ k = 7) : okPre l (k + 1) = (okPre l k && ((l[k]'hk) == 45)) := by
  rw [okPre_succ, if_pos h, List.getElem?_eq_getElem hk]; rfl
theorem take_numG (t : Bs) (j : Nat) (h : j < t.length) : numG (t.take (j + 1)) = 10 * numG (t.take j) + gb (t[j]'h) := by
  rw [List.take_succ_eq_append_getElem h, numG_snoc]
theorem tk (t : Bs) (a b : Nat) (ha : t.length ≤ a) (hb : t.length ≤ b) : t.take a = t.take b := by
  rw [List.take_of_length_le ha, List.take_of_length_le hb]
theorem tk_len (l : Bs) (a b : Nat) : ((l.drop a).take b).length ≤ b := by simp; omega
theorem tk_len0 (l : Bs) (b : Nat) : (l.take b).length ≤ b := by simp; omega
theorem q_dash4 (l : Bs) : qY l 5 = qY l 4 ∧ qM l 5 = qM l 4 ∧ qD l 5 = qD l 4 := by
  unfold qY qM qD
  rw [tk (l.take 4) 5 4 (Nat.le_trans (tk_len0 l 4) (by omega)) (tk_len0 l 4)]; exact ⟨rfl, rfl, rfl⟩
theorem q_dash7 (l : Bs) : qY l 8 = qY l 7 ∧ qM l 8 = qM l 7 ∧ qD l 8 = qD l 7 := by
  unfold qY qM qD
  rw [tk (l.take 4) 8 7 (Nat.le_trans (tk_len0 l 4) (by omega)) (Nat.le_trans (tk_len0 l 4) (by omega)), tk ((l.drop 5).take 2) (8 - 5) (7 - 5) (Nat.le_trans (tk_len l 5 2) (by omega)) (Nat.le_trans (tk_len l 5 2) (by omega))]; exact ⟨rfl, rfl, rfl⟩
theorem qY_succ (l : Bs) (k : Nat) (hk : k < l.length) (h10 : l.length = 10) (h : k < 4) : qY l (k + 1) = 10 * qY l k + gb (l[k]'hk) ∧ qM l (k + 1) = qM l k ∧ qD l (k + 1) = qD l k := by
  unfold qY qM qD
  rw [take_numG (l.take 4) k (by simp; omega), List.getElem_take, show k + 1 - 5 = k - 5 by omega, show k + 1 - 8 = k - 8 by omega]
  exact ⟨rfl, rfl, rfl⟩
theorem qM_succ (l : Bs) (k : Nat) (hk : k < l.length) (h10 : l.length = 10) (h : 4 < k ∧ k < 7) : qM l (k + 1) = 10 * qM l k + gb (l[k]'hk) ∧ qY l (k + 1) = qY l k ∧ qD l (k + 1) = qD l k := by
  unfold qY qM qD
  rw [show k + 1 - 5 = (k - 5) + 1 by omega, take_numG ((l.drop 5).take 2) (k - 5) (by simp; omega), show k + 1 - 8 = k - 8 by omega]
  refine ⟨?_, ?_, rfl⟩
  · congr 2; simp only [List.getElem_take, List.getElem_drop]; congr 1; omega
  · rw [tk (l.take 4) (k + 1) k (Nat.le_trans (tk_len0 l 4) (by omega)) (Nat.le_trans (tk_len0 l 4) (by omega))]
theorem qD_succ (l : Bs) (k : Nat) (hk : k < l.length) (h10 : l.length = 10) (h : 7 < k) : qD l (k + 1) = 10 * qD l k + gb (l[k]'hk) ∧ qY l (k + 1) = qY l k ∧ qM l (k + 1) = qM l k := by
  unfold qY qM qD
  rw [show k + 1 - 8 = (k - 8) + 1 by omega, take_numG ((l.drop 8).take 2) (k - 8) (by simp; omega)]
  refine ⟨?_, ?_, ?_⟩
  · congr 2; simp only [List.getElem_take, List.getElem_drop]; congr 1; omega
  · rw [tk (l.take 4) (k + 1) k (Nat.le_trans (tk_len0 l 4) (by omega)) (Nat.le_trans (tk_len0 l 4) (by omega))]
  · rw [tk ((l.drop 5).take 2) (k + 1 - 5) (k - 5) (Nat.le_trans (tk_len l 5 2) (by omega)) (Nat.le_trans (tk_len l 5 2) (by omega))]
theorem q_bd (l : Bs) (k : Nat) : (0 ≤ qY l k ∧ qY l k ≤ 300000) ∧ (0 ≤ qM l k ∧ qM l k ≤ 300000) ∧ (0 ≤ qD l k ∧ qD l k ≤ 300000) :=
  ⟨numG_bd _ (by simp; omega), numG_bd _ (by simp; omega), numG_bd _ (by simp; omega)⟩
theorem q_10 (l : Bs) : qY l 10 = pY l ∧ qM l 10 = pM l ∧ qD l 10 = pD l := by
  unfold qY qM qD pY pM pD
  rw [List.take_of_length_le (Nat.le_trans (tk_len0 l 4) (by omega)), List.take_of_length_le (Nat.le_trans (tk_len l 5 2) (by omega)), List.take_of_length_le (Nat.le_trans (tk_len l 8 2) (by omega))]
  exact ⟨rfl, rfl, rfl⟩

set_option maxHeartbeats 4000000 in
theorem refParseD (l : Bs) (w : World) (hl : l.length ≤ 1000000000) :
    Calls Tryz.prog 93 #[.string (bs l)] w fun e w' => e = .returned (.tuple #[.int .i64 (parseDV l), .int .i64 (parseDE l)]) ∧ Ext w w' := by
  have hno : okText l = false → Hid (parseDV l = 0 ∧ parseDE l = 3) := fun h => Lib.hid (by unfold parseDV parseDE; rw [h]; simp)
  by_cases h10 : l.length = 10
  · have hp : okPre l 10 = okText l := by
      obtain ⟨c0, c1, c2, c3, c4, c5, c6, c7, c8, c9, rfl⟩ := len10 l h10
      exact okPre_10 c0 c1 c2 c3 c4 c5 c6 c7 c8 c9
    have HP := Lib.hid hp
    have HNO := Lib.hid hno
    have HL := Lib.hid h10
    have hb : ((l.length : Int) != 10) = false := by rw [bne_eq_false_iff_eq]; omega
    have hl1 : l.length ≤ 10 := by omega
    have hl2 : 10 ≤ l.length := by omega
    clear hno hp h10 hl
    go_enter Tryz.func93, Tryz.ntmps93
    go_wp2_with fail
    go_loopw [5, 6] (fun v i wr => ∃ k : Nat, k ≤ 10 ∧ i = .int .i64 k ∧ v = .int .i64 (fld k) ∧ okPre l k = true ∧ Blk wr w.heap.size 158 #[.int .i64 (qY l k), .int .i64 (qM l k), .int .i64 (qD l k)] ∧ Ext w wr) (fun _ i _ => 10 - (intOf i).toNat)
    case atStart => exact ⟨0, by omega, rfl, rfl, rfl, Blk.new _ _ _, Ext.new _ _⟩
    case round =>
      obtain ⟨k, hk, rfl, rfl, hp, hBr, hx⟩ := hrel
      have HK := Lib.hid hp
      have hq := q_bd l k
      obtain ⟨⟨hq1, hq2⟩, ⟨hq3, hq4⟩, ⟨hq5, hq6⟩⟩ := hq
      have hcy := hBr.cell 0
      have hcm := hBr.cell 1
      have hcd := hBr.cell 2
      have hfy := hBr.frozen 0
      have hfm := hBr.frozen 1
      have hfd := hBr.frozen 2
      have hgw := Nat.le_of_lt hBr.lt
      simp only [List.getElem?_toArray, List.getElem?_cons_zero, List.getElem?_cons_succ] at hcy hcm hcd
      have HB := Lib.hid hBr
      clear hp hBr
      by_cases hlt : k < 10
      · have hkl : k < l.length := by omega
        by_cases h4 : k = 4
        · -- the dash at 4
          subst h4
          rw [show fld 4 = 0 from rfl]
          by_cases ha : (l[4]'hkl) = 45
          · have hab : (((l[4]'hkl).toNat : Int) != 45) = false := by have := byte_eq (c := l[4]'hkl) (d := 45) ha; simpa using this
            have HA := Lib.hid ha
            clear ha
            go_wp2_with fail
            go_roundw
            case rel =>
              refine ⟨5, by omega, by go_num, rfl, ?_, ?_, hx⟩
              · rw [okPre_dash l 4 hkl (by omega), HK.out, HA.out]; rfl
              · rw [(q_dash4 l).1, (q_dash4 l).2.1, (q_dash4 l).2.2]; exact HB.out
            case measure => simp [intOf]
          · have hab : (((l[4]'hkl).toNat : Int) != 45) = true := by have := byte_ne (c := l[4]'hkl) (d := 45) ha; simpa using this
            have hbad : okText l = false := by
              rw [← HP.out]
              exact okPre_le l 4 (by omega) (by rw [okPre_dash l 4 hkl (by omega)]; simp [ha])
            have HN := HNO.out hbad
            clear hbad ha
            go_wp2_with fail
            go_ret2
            exact ⟨by rw [HN.out.1, HN.out.2]; rfl, hx⟩
        by_cases h7 : k = 7
        · -- the dash at 7
          subst h7
          rw [show fld 7 = 1 from rfl]
          by_cases ha : (l[7]'hkl) = 45
          · have hab : (((l[7]'hkl).toNat : Int) != 45) = false := by have := byte_eq (c := l[7]'hkl) (d := 45) ha; simpa using this
            have HA := Lib.hid ha
            clear ha
            go_wp2_with fail
            go_roundw
            case rel =>
              refine ⟨8, by omega, by go_num, rfl, ?_, ?_, hx⟩
              · rw [okPre_dash l 7 hkl (by omega), HK.out, HA.out]; rfl
              · rw [(q_dash7 l).1, (q_dash7 l).2.1, (q_dash7 l).2.2]; exact HB.out
            case measure => simp [intOf]
          · have hab : (((l[7]'hkl).toNat : Int) != 45) = true := by have := byte_ne (c := l[7]'hkl) (d := 45) ha; simpa using this
            have hbad : okText l = false := by
              rw [← HP.out]
              exact okPre_le l 7 (by omega) (by rw [okPre_dash l 7 hkl (by omega)]; simp [ha])
            have HN := HNO.out hbad
            clear hbad ha
            go_wp2_with fail
            go_ret2
            exact ⟨by rw [HN.out.1, HN.out.2]; rfl, hx⟩
        by_cases hA : k < 4
        · -- a digit of number 0
          have hfv : fld k = 0 := by unfold fld; rw [if_pos (by omega)]
          have hk4 : ((k : Int) == 4) = false := by rw [beq_eq_false_iff_ne]; omega
          have hk7 : ((k : Int) == 7) = false := by rw [beq_eq_false_iff_ne]; omega
          rw [hfv]
          have HFV := Lib.hid hfv
          clear hfv
          by_cases ha : isD (l[k]'hkl) = true
          · have ha1 : 48 ≤ ((l[k]'hkl).toNat : Int) := by unfold isD at ha; simp at ha; omega
            have ha2 : ((l[k]'hkl).toNat : Int) ≤ 57 := by unfold isD at ha; simp at ha; omega
            have HG := Lib.hid (gb_digit ha1)
            have HA := Lib.hid ha
            have HQ := Lib.hid (qY_succ l k hkl HL.out hA)
            clear ha
            generalize hyy : qY l k = yy at *
            generalize hmm : qM l k = mm at *
            generalize hdd : qD l k = dd at *
            have HYY := Lib.hid hyy
            have HMM := Lib.hid hmm
            have HDD := Lib.hid hdd
            clear hyy hmm hdd
            go_wp2_with fail
            go_region
            go_wp2_with fail
            go_roundw
            case rel =>
              refine ⟨k + 1, by omega, by go_num, ?_, ?_, ?_, (hx.setCell (by simp) _).drew⟩
              · have : fld (k + 1) = 0 := by unfold fld; rw [if_pos (by omega)]
                rw [this]
              · rw [okPre_digit l k hkl (by omega) (by omega), HK.out, HA.out]; rfl
              · rw [HQ.out.1, HQ.out.2.1, HQ.out.2.2, ← HG.out]
                exact (HB.out.set_ 0 _).drew
            case measure => simp [intOf]; omega
          · have hbad : okText l = false := by
              rw [← HP.out]
              exact okPre_le l k (by omega) (by rw [okPre_digit l k hkl (by omega) (by omega)]; simp [ha])
            have HN := HNO.out hbad
            have ha3 : ((l[k]'hkl).toNat : Int) < 48 ∨ 57 < ((l[k]'hkl).toNat : Int) := by unfold isD at ha; simp at ha; omega
            clear hbad ha
            rcases ha3 with ha3 | ha3
            all_goals
              go_wp2_with fail
              go_ret2
              exact ⟨by rw [HN.out.1, HN.out.2]; rfl, hx⟩
        by_cases hM : k < 7
        · -- a digit of number 1
          have hfv : fld k = 1 := by unfold fld; rw [if_neg (by omega), if_pos (by omega)]
          have hk4 : ((k : Int) == 4) = false := by rw [beq_eq_false_iff_ne]; omega
          have hk7 : ((k : Int) == 7) = false := by rw [beq_eq_false_iff_ne]; omega
          rw [hfv]
          have HFV := Lib.hid hfv
          clear hfv
          by_cases ha : isD (l[k]'hkl) = true
          · have ha1 : 48 ≤ ((l[k]'hkl).toNat : Int) := by unfold isD at ha; simp at ha; omega
            have ha2 : ((l[k]'hkl).toNat : Int) ≤ 57 := by unfold isD at ha; simp at ha; omega
            have HG := Lib.hid (gb_digit ha1)
            have HA := Lib.hid ha
            have HQ := Lib.hid (qM_succ l k hkl HL.out ⟨by omega, hM⟩)
            clear ha
            generalize hyy : qY l k = yy at *
            generalize hmm : qM l k = mm at *
            generalize hdd : qD l k = dd at *
            have HYY := Lib.hid hyy
            have HMM := Lib.hid hmm
            have HDD := Lib.hid hdd
            clear hyy hmm hdd
            go_wp2_with fail
            go_region
            go_wp2_with fail
            go_roundw
            case rel =>
              refine ⟨k + 1, by omega, by go_num, ?_, ?_, ?_, (hx.setCell (by simp) _).drew⟩
              · have : fld (k + 1) = 1 := by unfold fld; rw [if_neg (by omega), if_pos (by omega)]
                rw [this]
              · rw [okPre_digit l k hkl (by omega) (by omega), HK.out, HA.out]; rfl
              · rw [HQ.out.1, HQ.out.2.1, HQ.out.2.2, ← HG.out]
                exact (HB.out.set_ 1 _).drew
            case measure => simp [intOf]; omega
          · have hbad : okText l = false := by
              rw [← HP.out]
              exact okPre_le l k (by omega) (by rw [okPre_digit l k hkl (by omega) (by omega)]; simp [ha])
            have HN := HNO.out hbad
            have ha3 : ((l[k]'hkl).toNat : Int) < 48 ∨ 57 < ((l[k]'hkl).toNat : Int) := by unfold isD at ha; simp at ha; omega
            clear hbad ha
            rcases ha3 with ha3 | ha3
            all_goals
              go_wp2_with fail
              go_ret2
              exact ⟨by rw [HN.out.1, HN.out.2]; rfl, hx⟩
        · -- a digit of number 2
          have hfv : fld k = 2 := by unfold fld; rw [if_neg (by omega), if_neg (by omega)]
          have hk4 : ((k : Int) == 4) = false := by rw [beq_eq_false_iff_ne]; omega
          have hk7 : ((k : Int) == 7) = false := by rw [beq_eq_false_iff_ne]; omega
          rw [hfv]
          have HFV := Lib.hid hfv
          clear hfv
          by_cases ha : isD (l[k]'hkl) = true
          · have ha1 : 48 ≤ ((l[k]'hkl).toNat : Int) := by unfold isD at ha; simp at ha; omega
            have ha2 : ((l[k]'hkl).toNat : Int) ≤ 57 := by unfold isD at ha; simp at ha; omega
            have HG := Lib.hid (gb_digit ha1)
            have HA := Lib.hid ha
            have HQ := Lib.hid (qD_succ l k hkl HL.out (by omega))
            clear ha
            generalize hyy : qY l k = yy at *
            generalize hmm : qM l k = mm at *
            generalize hdd : qD l k = dd at *
            have HYY := Lib.hid hyy
            have HMM := Lib.hid hmm
            have HDD := Lib.hid hdd
            clear hyy hmm hdd
            go_wp2_with fail
            go_region
            go_wp2_with fail
            go_roundw
            case rel =>
              refine ⟨k + 1, by omega, by go_num, ?_, ?_, ?_, (hx.setCell (by simp) _).drew⟩
              · have : fld (k + 1) = 2 := by unfold fld; rw [if_neg (by omega), if_neg (by omega)]
                rw [this]
              · rw [okPre_digit l k hkl (by omega) (by omega), HK.out, HA.out]; rfl
              · rw [HQ.out.1, HQ.out.2.1, HQ.out.2.2, ← HG.out]
                exact (HB.out.set_ 2 _).drew
            case measure => simp [intOf]; omega
          · have hbad : okText l = false := by
              rw [← HP.out]
              exact okPre_le l k (by omega) (by rw [okPre_digit l k hkl (by omega) (by omega)]; simp [ha])
            have HN := HNO.out hbad
            have ha3 : ((l[k]'hkl).toNat : Int) < 48 ∨ 57 < ((l[k]'hkl).toNat : Int) := by unfold isD at ha; simp at ha; omega
            clear hbad ha
            rcases ha3 with ha3 | ha3
            all_goals
              go_wp2_with fail
              go_ret2
              exact ⟨by rw [HN.out.1, HN.out.2]; rfl, hx⟩
      · obtain rfl : k = 10 := by omega
        obtain ⟨e1, e2, e3⟩ := q_10 l
        rw [e1] at hcy
        rw [e2] at hcm
        rw [e3] at hcd
        have hok : okText l = true := by rw [← HP.out]; exact HK.out
        have HOK := Lib.hid hok
        clear hok e1 e2 e3
        go_wp2_with fail
        refine (refOf _ _ _ _).mono ?_
        rintro e w4 ⟨rfl, rfl⟩
        go_wp2_with fail
        go_ret2
        exact ⟨by unfold parseDV parseDE; rw [if_pos HOK.out, if_pos HOK.out]; rfl, hx⟩
  · have hb : ((l.length : Int) != 10) = true := by rw [bne_iff_ne]; omega
    have HN := hno (by unfold okText; rw [decide_eq_false h10]; rfl)
    clear hno h10
    go_enter Tryz.func93, Tryz.ntmps93
    go_wp2_with fail
    go_ret2
    exact ⟨by rw [HN.out.1, HN.out.2]; rfl, Ext.refl _⟩
end Go.Proofs.YteeampgbmpolfaaGreatDoor
