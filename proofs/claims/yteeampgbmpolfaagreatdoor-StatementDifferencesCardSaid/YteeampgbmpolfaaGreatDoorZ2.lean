/- The seat's texts, part 2 of 5. -/
import Derived.Test.YteeampgbmpolfaaGreatDoorZ1
import Derived.IntWalk
import Derived.Lib.Join
import Derived.Lib.OthersKept
import Derived.Deep.RegionHeld3

/- The walk over the reference's dates: Parse. -/
namespace Go.Proofs.YteeampgbmpolfaaGreatDoor
open Go.RowKit
attribute [local go_sem] size_bs toList_bs extract_bs get_bs append_bs lit_append append_lit

/-- which of the three numbers the k-th byte belongs to -/
def fld (k : Nat) : Int := if k ≤ 4 then 0 else if k ≤ 7 then 1 else 2
/-- the first k bytes have the form -/
def okPre (l : Bs) (k : Nat) : Bool := (List.range k).all fun j => if j = 4 ∨ j = 7 then l[j]? == some 45 else (l[j]?.map isD).getD false
theorem okPre_succ (l : Bs) (k : Nat) : okPre l (k + 1) = (okPre l k && if k = 4 ∨ k = 7 then l[k]? == some 45 else (l[k]?.map isD).getD false) := by
  simp [okPre, List.range_succ]
theorem okPre_le (l : Bs) (k : Nat) (hk : k < 10) (h : okPre l (k + 1) = false) : okPre l 10 = false := by
  unfold okPre at h ⊢
  rw [List.all_eq_false] at h ⊢
  obtain ⟨x, hx, hp⟩ := h
  exact ⟨x, by rw [List.mem_range] at hx ⊢; omega, hp⟩
theorem okPre_10 (c0 c1 c2 c3 c4 c5 c6 c7 c8 c9 : UInt8) : okPre [c0, c1, c2, c3, c4, c5, c6, c7, c8, c9] 10 = okText [c0, c1, c2, c3, c4, c5, c6, c7, c8, c9] := by
  rw [okText_10]
  simp only [okPre_succ]
  simp [okPre]
  cases isD c0 <;> cases isD c1 <;> cases isD c2 <;> cases isD c3 <;> cases isD c5 <;> cases isD c6 <;> cases isD c8 <;> cases isD c9 <;> simp
def qY (l : Bs) (k : Nat) : Int := numG ((l.take 4).take k)
def qM (l : Bs) (k : Nat) : Int := numG (((l.drop 5).take 2).take (k - 5))
def qD (l : Bs) (k : Nat) : Int := numG (((l.drop 8).take 2).take (k - 8))
theorem gb_digit {c : UInt8} (h : 48 ≤ (c.toNat : Int)) : (c.toNat : Int) - 48 = gb c := by unfold gb; rw [if_pos (by omega)]

theorem okPre_digit (l : Bs) (k : Nat) (hk : k < l.length) (h4 : k ≠ 4) (h7 : k ≠ 7) : okPre l (k + 1) = (okPre l k && isD (l[k]'hk)) := by
  rw [okPre_succ, if_neg (by omega), List.getElem?_eq_getElem hk]; rfl
theorem okPre_dash (l : Bs) (k : Nat) (hk : k < l.length) (h : k = 4 ∨ k = 7) : okPre l (k + 1) = (okPre l k && ((l[k]'hk) == 45)) := by
  rw [okPre_succ, if_pos h, List.getElem?_eq_getElem hk]; rfl
theorem take_numG (t : Bs) (j : Nat) (h : j < t.length) : numG (t.take (j + 1)) = 10 * numG (t.take j) + gb (t[j]'h) := by
  rw [List.take_succ_eq_append_getElem h, numG_snoc]
theorem tk (t : Bs) (a b : Nat) (ha : t.length ≤ a) (hb : t.length ≤ b) : t.take a = t.take b := by
  rw [List.take_of_length_le ha, List.take_of_length_le hb]
theorem tk_len (l : Bs) (a b : Nat) : ((l.drop a).take b).length ≤ b := by simp; omega
theorem tk_len0 (l : Bs) (b : Nat) : (l.take b).length ≤ b := by simp; omega
theorem q_dash4 (l : Bs) : qY l 5 = qY l 4 ∧ qM l 5 = qM l 4 ∧ qD l 5 = qD l 4 := by
  unfold qY qM qD
  rw [tk (l.take 4) 5 4 (Nat.le_trans (tk_len0 l 4) (by omega)) (tk_len0 l 4)]; exact ⟨rfl, rfl, rfl⟩
theorem q_dash7 (l : Bs) : qY l 8 = qY l 7 ∧ qM l 8 = qM l 7 ∧ qD l 8 = qD l 7 := by
  unfold qY qM qD
  rw [tk (l.take 4) 8 7 (Nat.le_trans (tk_len0 l 4) (by omega)) (Nat.le_trans (tk_len0 l 4) (by omega)), tk ((l.drop 5).take 2) (8 - 5) (7 - 5) (Nat.le_trans (tk_len l 5 2) (by omega)) (Nat.le_trans (tk_len l 5 2) (by omega))]; exact ⟨rfl, rfl, rfl⟩
theorem qY_succ (l : Bs) (k : Nat) (hk : k < l.length) (h10 : l.length = 10) (h : k < 4) : qY l (k + 1) = 10 * qY l k + gb (l[k]'hk) ∧ qM l (k + 1) = qM l k ∧ qD l (k + 1) = qD l k := by
  unfold qY qM qD
  rw [take_numG (l.take 4) k (by simp; omega), List.getElem_take, show k + 1 - 5 = k - 5 by omega, show k + 1 - 8 = k - 8 by omega]
  exact ⟨rfl, rfl, rfl⟩
theorem qM_succ (l : Bs) (k : Nat) (hk : k < l.length) (h10 : l.length = 10) (h : 4 < k ∧ k < 7) : qM l (k + 1) = 10 * qM l k + gb (l[k]'hk) ∧ qY l (k + 1) = qY l k ∧ qD l (k + 1) = qD l k := by
  unfold qY qM qD
  rw [show k + 1 - 5 = (k - 5) + 1 by omega, take_numG ((l.drop 5).take 2) (k - 5) (by simp; omega), show k + 1 - 8 = k - 8 by omega]
  refine ⟨?_, ?_, rfl⟩
  · congr 2; simp only [List.getElem_take, List.getElem_drop]; congr 1; omega
  · rw [tk (l.take 4) (k + 1) k (Nat.le_trans (tk_len0 l 4) (by omega)) (Nat.le_trans (tk_len0 l 4) (by omega))]
theorem qD_succ (l : Bs) (k : Nat) (hk : k < l.length) (h10 : l.length = 10) (h : 7 < k) : qD l (k + 1) = 10 * qD l k + gb (l[k]'hk) ∧ qY l (k + 1) = qY l k ∧ qM l (k + 1) = qM l k := by
  unfold qY qM qD
  rw [show k + 1 - 8 = (k - 8) + 1 by omega, take_numG ((l.drop 8).take 2) (k - 8) (by simp; omega)]
  refine ⟨?_, ?_, ?_⟩
  · congr 2; simp only [List.getElem_take, List.getElem_drop]; congr 1; omega
  · rw [tk (l.take 4) (k + 1) k (Nat.le_trans (tk_len0 l 4) (by omega)) (Nat.le_trans (tk_len0 l 4) (by omega))]
  · rw [tk ((l.drop 5).take 2) (k + 1 - 5) (k - 5) (Nat.le_trans (tk_len l 5 2) (by omega)) (Nat.le_trans (tk_len l 5 2) (by omega))]
theorem q_bd (l : Bs) (k : Nat) : (0 ≤ qY l k ∧ qY l k ≤ 300000) ∧ (0 ≤ qM l k ∧ qM l k ≤ 300000) ∧ (0 ≤ qD l k ∧ qD l k ≤ 300000) :=
  ⟨numG_bd _ (by simp; omega), numG_bd _ (by simp; omega), numG_bd _ (by simp; omega)⟩
theorem q_10 (l : Bs) : qY l 10 = pY l ∧ qM l 10 = pM l ∧ qD l 10 = pD l := by
  unfold qY qM qD pY pM pD
  rw [List.take_of_length_le (Nat.le_trans (tk_len0 l 4) (by omega)), List.take_of_length_le (Nat.le_trans (tk_len l 5 2) (by omega)), List.take_of_length_le (Nat.le_trans (tk_len l 8 2) (by omega))]
  exact ⟨rfl, rfl, rfl⟩

set_option maxHeartbeats 4000000 in
theorem refParseD (l : Bs) (w : World) (hl : l.length ≤ 1000000000) :
    Calls Tryz.prog 93 #[.string (bs l)] w fun e w' => e = .returned (.tuple #[.int .i64 (parseDV l), .int .i64 (parseDE l)]) ∧ Ext w w' := by
  have hno : okText l = false → Hid (parseDV l = 0 ∧ parseDE l = 3) := fun h => Lib.hid (by unfold parseDV parseDE; rw [h]; simp)
  by_cases h10 : l.length = 10
  · have hp : okPre l 10 = okText l := by
      obtain ⟨c0, c1, c2, c3, c4, c5, c6, c7, c8, c9, rfl⟩ := len10 l h10
      exact okPre_10 c0 c1 c2 c3 c4 c5 c6 c7 c8 c9
    have HP := Lib.hid hp
    have HNO := Lib.hid hno
    have HL := Lib.hid h10
    have hb : ((l.length : Int) != 10) = false := by rw [bne_eq_false_iff_eq]; omega
    have hl1 : l.length ≤ 10 := by omega
    have hl2 : 10 ≤ l.length := by omega
    clear hno hp h10 hl
    go_enter Tryz.func93, Tryz.ntmps93
    go_wp2_with fail
    go_loopw [5, 6] (fun v i wr => ∃ k : Nat, k ≤ 10 ∧ i = .int .i64 k ∧ v = .int .i64 (fld k) ∧ okPre l k = true ∧ Blk wr w.heap.size 158 #[.int .i64 (qY l k), .int .i64 (qM l k), .int .i64 (qD l k)] ∧ Ext w wr) (fun _ i _ => 10 - (intOf i).toNat)
    case atStart => exact ⟨0, by omega, rfl, rfl, rfl, Blk.new _ _ _, Ext.new _ _⟩
    case round =>
      obtain ⟨k, hk, rfl, rfl, hp, hBr, hx⟩ := hrel
      have HK := Lib.hid hp
      have hq := q_bd l k
      obtain ⟨⟨hq1, hq2⟩, ⟨hq3, hq4⟩, ⟨hq5, hq6⟩⟩ := hq
      have hcy := hBr.cell 0
      have hcm := hBr.cell 1
      have hcd := hBr.cell 2
      have hfy := hBr.frozen 0
      have hfm := hBr.frozen 1
      have hfd := hBr.frozen 2
      have hgw := Nat.le_of_lt hBr.lt
      simp only [List.getElem?_toArray, List.getElem?_cons_zero, List.getElem?_cons_succ] at hcy hcm hcd
      have HB := Lib.hid hBr
      clear hp hBr
      by_cases hlt : k < 10
      · have hkl : k < l.length := by omega
        by_cases h4 : k = 4
        · -- the dash at 4
          subst h4
          rw [show fld 4 = 0 from rfl]
          by_cases ha : (l[4]'hkl) = 45
          · have hab : (((l[4]'hkl).toNat : Int) != 45) = false := by have := byte_eq (c := l[4]'hkl) (d := 45) ha; simpa using this
            have HA := Lib.hid ha
            clear ha
            go_wp2_with fail
            go_roundw
            case rel =>
              refine ⟨5, by omega, by go_num, rfl, ?_, ?_, hx⟩
              · rw [okPre_dash l 4 hkl (by omega), HK.out, HA.out]; rfl
              · rw [(q_dash4 l).1, (q_dash4 l).2.1, (q_dash4 l).2.2]; exact HB.out
            case measure => simp [intOf]
          · have hab : (((l[4]'hkl).toNat : Int) != 45) = true := by have := byte_ne (c := l[4]'hkl) (d := 45) ha; simpa using this
            have hbad : okText l = false := by
              rw [← HP.out]
              exact okPre_le l 4 (by omega) (by rw [okPre_dash l 4 hkl (by omega)]; simp [ha])
            have HN := HNO.out hbad
            clear hbad ha
            go_wp2_with fail
            go_ret2
            exact ⟨by rw [HN.out.1, HN.out.2]; rfl, hx⟩
        by_cases h7 : k = 7
        · -- the dash at 7
          subst h7
          rw [show fld 7 = 1 from rfl]
          by_cases ha : (l[7]'hkl) = 45
          · have hab : (((l[7]'hkl).toNat : Int) != 45) = false := by have := byte_eq (c := l[7]'hkl) (d := 45) ha; simpa using this
            have HA := Lib.hid ha
            clear ha
            go_wp2_with fail
            go_roundw
            case rel =>
              refine ⟨8, by omega, by go_num, rfl, ?_, ?_, hx⟩
              · rw [okPre_dash l 7 hkl (by omega), HK.out, HA.out]; rfl
              · rw [(q_dash7 l).1, (q_dash7 l).2.1, (q_dash7 l).2.2]; exact HB.out
            case measure => simp [intOf]
          · have hab : (((l[7]'hkl).toNat : Int) != 45) = true := by have := byte_ne (c := l[7]'hkl) (d := 45) ha; simpa using this
            have hbad : okText l = false := by
              rw [← HP.out]
              exact okPre_le l 7 (by omega) (by rw [okPre_dash l 7 hkl (by omega)]; simp [ha])
            have HN := HNO.out hbad
            clear hbad ha
            go_wp2_with fail
            go_ret2
            exact ⟨by rw [HN.out.1, HN.out.2]; rfl, hx⟩
        by_cases hA : k < 4
        · -- a digit of number 0
          have hfv : fld k = 0 := by unfold fld; rw [if_pos (by omega)]
          have hk4 : ((k : Int) == 4) = false := by rw [beq_eq_false_iff_ne]; omega
          have hk7 : ((k : Int) == 7) = false := by rw [beq_eq_false_iff_ne]; omega
          rw [hfv]
          have HFV := Lib.hid hfv
          clear hfv
          by_cases ha : isD (l[k]'hkl) = true
          · have ha1 : 48 ≤ ((l[k]'hkl).toNat : Int) := by unfold isD at ha; simp at ha; omega
            have ha2 : ((l[k]'hkl).toNat : Int) ≤ 57 := by unfold isD at ha; simp at ha; omega
            have HG := Lib.hid (gb_digit ha1)
            have HA := Lib.hid ha
            have HQ := Lib.hid (qY_succ l k hkl HL.out hA)
            clear ha
            generalize hyy : qY l k = yy at *
            generalize hmm : qM l k = mm at *
            generalize hdd : qD l k = dd at *
            have HYY := Lib.hid hyy
            have HMM := Lib.hid hmm
            have HDD := Lib.hid hdd
            clear hyy hmm hdd
            go_wp2_with fail
            go_region
            go_wp2_with fail
            go_roundw
            case rel =>
              refine ⟨k + 1, by omega, by go_num, ?_, ?_, ?_, (hx.setCell (by simp) _).drew⟩
              · have : fld (k + 1) = 0 := by unfold fld; rw [if_pos (by omega)]
                rw [this]
              · rw [okPre_digit l k hkl (by omega) (by omega), HK.out, HA.out]; rfl
              · rw [HQ.out.1, HQ.out.2.1, HQ.out.2.2, ← HG.out]
                exact (HB.out.set_ 0 _).drew
            case measure => simp [intOf]; omega
          · have hbad : okText l = false := by
              rw [← HP.out]
              exact okPre_le l k (by omega) (by rw [okPre_digit l k hkl (by omega) (by omega)]; simp [ha])
            have HN := HNO.out hbad
            have ha3 : ((l[k]'hkl).toNat : Int) < 48 ∨ 57 < ((l[k]'hkl).toNat : Int) := by unfold isD at ha; simp at ha; omega
            clear hbad ha
            rcases ha3 with ha3 | ha3
            all_goals
              go_wp2_with fail
              go_ret2
              exact ⟨by rw [HN.out.1, HN.out.2]; rfl, hx⟩
        by_cases hM : k < 7
        · -- a digit of number 1
          have hfv : fld k = 1 := by unfold fld; rw [if_neg (by omega), if_pos (by omega)]
          have hk4 : ((k : Int) == 4) = false := by rw [beq_eq_false_iff_ne]; omega
          have hk7 : ((k : Int) == 7) = false := by rw [beq_eq_false_iff_ne]; omega
          rw [hfv]
          have HFV := Lib.hid hfv
          clear hfv
          by_cases ha : isD (l[k]'hkl) = true
          · have ha1 : 48 ≤ ((l[k]'hkl).toNat : Int) := by unfold isD at ha; simp at ha; omega
            have ha2 : ((l[k]'hkl).toNat : Int) ≤ 57 := by unfold isD at ha; simp at ha; omega
            have HG := Lib.hid (gb_digit ha1)
            have HA := Lib.hid ha
            have HQ := Lib.hid (qM_succ l k hkl HL.out ⟨by omega, hM⟩)
            clear ha
            generalize hyy : qY l k = yy at *
            generalize hmm : qM l k = mm at *
            generalize hdd : qD l k = dd at *
            have HYY := Lib.hid hyy
            have HMM := Lib.hid hmm
            have HDD := Lib.hid hdd
            clear hyy hmm hdd
            go_wp2_with fail
            go_region
            go_wp2_with fail
            go_roundw
            case rel =>
              refine ⟨k + 1, by omega, by go_num, ?_, ?_, ?_, (hx.setCell (by simp) _).drew⟩
              · have : fld (k + 1) = 1 := by unfold fld; rw [if_neg (by omega), if_pos (by omega)]
                rw [this]
              · rw [okPre_digit l k hkl (by omega) (by omega), HK.out, HA.out]; rfl
              · rw [HQ.out.1, HQ.out.2.1, HQ.out.2.2, ← HG.out]
                exact (HB.out.set_ 1 _).drew
            case measure => simp [intOf]; omega
          · have hbad : okText l = false := by
              rw [← HP.out]
              exact okPre_le l k (by omega) (by rw [okPre_digit l k hkl (by omega) (by omega)]; simp [ha])
            have HN := HNO.out hbad
            have ha3 : ((l[k]'hkl).toNat : Int) < 48 ∨ 57 < ((l[k]'hkl).toNat : Int) := by unfold isD at ha; simp at ha; omega
            clear hbad ha
            rcases ha3 with ha3 | ha3
            all_goals
              go_wp2_with fail
              go_ret2
              exact ⟨by rw [HN.out.1, HN.out.2]; rfl, hx⟩
        · -- a digit of number 2
          have hfv : fld k = 2 := by unfold fld; rw [if_neg (by omega), if_neg (by omega)]
          have hk4 : ((k : Int) == 4) = false := by rw [beq_eq_false_iff_ne]; omega
          have hk7 : ((k : Int) == 7) = false := by rw [beq_eq_false_iff_ne]; omega
          rw [hfv]
          have HFV := Lib.hid hfv
          clear hfv
          by_cases ha : isD (l[k]'hkl) = true
          · have ha1 : 48 ≤ ((l[k]'hkl).toNat : Int) := by unfold isD at ha; simp at ha; omega
            have ha2 : ((l[k]'hkl).toNat : Int) ≤ 57 := by unfold isD at ha; simp at ha; omega
            have HG := Lib.hid (gb_digit ha1)
            have HA := Lib.hid ha
            have HQ := Lib.hid (qD_succ l k hkl HL.out (by omega))
            clear ha
            generalize hyy : qY l k = yy at *
            generalize hmm : qM l k = mm at *
            generalize hdd : qD l k = dd at *
            have HYY := Lib.hid hyy
            have HMM := Lib.hid hmm
            have HDD := Lib.hid hdd
            clear hyy hmm hdd
            go_wp2_with fail
            go_region
            go_wp2_with fail
            go_roundw
            case rel =>
              refine ⟨k + 1, by omega, by go_num, ?_, ?_, ?_, (hx.setCell (by simp) _).drew⟩
              · have : fld (k + 1) = 2 := by unfold fld; rw [if_neg (by omega), if_neg (by omega)]
                rw [this]
              · rw [okPre_digit l k hkl (by omega) (by omega), HK.out, HA.out]; rfl
              · rw [HQ.out.1, HQ.out.2.1, HQ.out.2.2, ← HG.out]
                exact (HB.out.set_ 2 _).drew
            case measure => simp [intOf]; omega
          · have hbad : okText l = false := by
              rw [← HP.out]
              exact okPre_le l k (by omega) (by rw [okPre_digit l k hkl (by omega) (by omega)]; simp [ha])
            have HN := HNO.out hbad
            have ha3 : ((l[k]'hkl).toNat : Int) < 48 ∨ 57 < ((l[k]'hkl).toNat : Int) := by unfold isD at ha; simp at ha; omega
            clear hbad ha
            rcases ha3 with ha3 | ha3
            all_goals
              go_wp2_with fail
              go_ret2
              exact ⟨by rw [HN.out.1, HN.out.2]; rfl, hx⟩
      · obtain rfl : k = 10 := by omega
        obtain ⟨e1, e2, e3⟩ := q_10 l
        rw [e1] at hcy
        rw [e2] at hcm
        rw [e3] at hcd
        have hok : okText l = true := by rw [← HP.out]; exact HK.out
        have HOK := Lib.hid hok
        clear hok e1 e2 e3
        go_wp2_with fail
        refine (refOf _ _ _ _).mono ?_
        rintro e w4 ⟨rfl, rfl⟩
        go_wp2_with fail
        go_ret2
        exact ⟨by unfold parseDV parseDE; rw [if_pos HOK.out, if_pos HOK.out]; rfl, hx⟩
  · have hb : ((l.length : Int) != 10) = true := by rw [bne_iff_ne]; omega
    have HN := hno (by unfold okText; rw [decide_eq_false h10]; rfl)
    clear hno h10
    go_enter Tryz.func93, Tryz.ntmps93
    go_wp2_with fail
    go_ret2
    exact ⟨by rw [HN.out.1, HN.out.2]; rfl, Ext.refl _⟩
end Go.Proofs.YteeampgbmpolfaaGreatDoor

/- Plain: statements, and what Check answers. No program in sight. -/
namespace Go.Proofs.YteeampgbmpolfaaGreatDoor
open Go.RowKit

structure Hd where
  ins : Bs
  qty : Bs
structure Mv where
  ref : Bs
  day : Int
  ins : Bs
  qty : Bs
  amt : Bs
structure St where
  day : Int
  hs : List Hd
  ms : List Mv

/-- a comes before b -/
def lt (a b : Bs) : Bool := Op.bytesLess a b
theorem lt_irrefl (a : Bs) : lt a a = false := by
  unfold lt; induction a with
  | nil => rfl
  | cons c r ih => simp [Op.bytesLess, ih]
theorem lt_asymm : ∀ (a b : Bs), lt a b = true → lt b a = false := by
  intro a; induction a with
  | nil => intro b _; unfold lt; cases b <;> rfl
  | cons c r ih =>
    intro b h; cases b with
    | nil => simp [lt, Op.bytesLess] at h
    | cons d s =>
      simp only [lt, Op.bytesLess, Bool.or_eq_true, decide_eq_true_eq, Bool.and_eq_true, beq_iff_eq] at h
      simp only [lt, Op.bytesLess, Bool.or_eq_false_iff, decide_eq_false_iff_not, Bool.and_eq_false_iff]
      rcases h with h | ⟨rfl, h⟩
      · exact ⟨by rw [UInt8.lt_iff_toNat_lt] at h ⊢; omega, .inl (by rw [beq_eq_false_iff_ne]; intro e; subst e; rw [UInt8.lt_iff_toNat_lt] at h; omega)⟩
      · exact ⟨by rw [UInt8.lt_iff_toNat_lt]; omega, .inr (ih s h)⟩
theorem lt_total : ∀ (a b : Bs), lt a b = false → lt b a = false → a = b := by
  intro a; induction a with
  | nil => intro b h _; cases b with | nil => rfl | cons d s => simp [lt, Op.bytesLess] at h
  | cons c r ih =>
    intro b h k; cases b with
    | nil => simp [lt, Op.bytesLess] at k
    | cons d s =>
      simp only [lt, Op.bytesLess, Bool.or_eq_false_iff, decide_eq_false_iff_not, Bool.and_eq_false_iff] at h k
      have e : c = d := by
        apply UInt8.toNat_inj.1
        have h1 := h.1; have k1 := k.1
        rw [UInt8.lt_iff_toNat_lt] at h1 k1; omega
      subst e
      have h2 : Op.bytesLess r s = false := by rcases h.2 with h | h; simp at h; exact h
      have k2 : Op.bytesLess s r = false := by rcases k.2 with h | h; simp at h; exact h
      rw [ih s h2 k2]
theorem lt_trans : ∀ (a b c : Bs), lt a b = true → lt b c = true → lt a c = true := by
  intro a; induction a with
  | nil =>
    intro b c h k; cases c with
    | nil => cases b <;> simp [lt, Op.bytesLess] at k
    | cons => rfl
  | cons x r ih =>
    intro b c h k; cases b with
    | nil => simp [lt, Op.bytesLess] at h
    | cons y s =>
      cases c with
      | nil => simp [lt, Op.bytesLess] at k
      | cons z t =>
        simp only [lt, Op.bytesLess, Bool.or_eq_true, decide_eq_true_eq, Bool.and_eq_true, beq_iff_eq] at h k ⊢
        rcases h with h | ⟨rfl, h⟩
        · rcases k with k | ⟨rfl, k⟩
          · left; rw [UInt8.lt_iff_toNat_lt] at h k ⊢; omega
          · left; exact h
        · rcases k with k | ⟨rfl, k⟩
          · left; exact k
          · right; exact ⟨rfl, ih s t h k⟩
/-- the program's 'a <= b' is the reference's 'b >= a' -/
theorem leq_geq (a b : Bs) : (Op.bytesLess a b || a == b) = !(Op.bytesLess b a) := by
  show (lt a b || a == b) = !(lt b a)
  cases h : lt b a with
  | true =>
    have h2 := lt_asymm b a h
    rw [h2, Bool.false_or, Bool.not_true, beq_eq_false_iff_ne]
    intro e; subst e; rw [lt_irrefl] at h; cases h
  | false =>
    cases h2 : lt a b with
    | true => rfl
    | false => rw [lt_total a b h2 h]; simp

/-- the first f k that is not 0, for k below n -/
def firstErr (f : Nat → Int) (n : Nat) : Int := match (List.range n).find? (fun k => f k != 0) with | some k => f k | none => 0
theorem firstErr_hit (f : Nat → Int) (n k : Nat) (hk : k < n) (h : ∀ j, j < k → f j = 0) (hf : f k ≠ 0) : firstErr f n = f k := by
  have : (List.range n).find? (fun k => f k != 0) = some k := by
    rw [List.find?_range_eq_some]
    exact ⟨by simp [hf], by rw [List.mem_range]; exact hk, fun j hj => by simp [h j hj]⟩
  unfold firstErr; rw [this]
theorem firstErr_none (f : Nat → Int) (n : Nat) (h : ∀ j, j < n → f j = 0) : firstErr f n = 0 := by
  have : (List.range n).find? (fun k => f k != 0) = none := by
    rw [List.find?_eq_none]; intro x hx; rw [List.mem_range] at hx; simp [h x hx]
  unfold firstErr; rw [this]
theorem firstErr_zero (f : Nat → Int) (n : Nat) : firstErr f n = 0 ↔ ∀ j, j < n → f j = 0 := by
  constructor
  · intro h j
    induction j using Nat.strongRecOn with
    | ind j ih =>
      intro hj
      by_cases hf : f j = 0
      · exact hf
      · exfalso
        have := firstErr_hit f n j hj (fun i hi => ih i hi (by omega)) hf
        rw [h] at this; exact hf this.symm
  · exact firstErr_none f n

def numE1 (ls : List Bs) : Bool := ls.any fun l => checkI l != 0
def numE4 (ls : List Bs) : Bool := ls.any fun l => decide (40 < digs l)
/-- why numbers are not valid -/
def numE (ls : List Bs) : Int := if numE1 ls then 1 else if numE4 ls then 4 else 0

def chH (hs : List Hd) (k : Nat) : Int :=
  match hs[k]? with
  | none => 0
  | some h => if isName h.ins = false then 23 else if numE [h.qty] ≠ 0 then numE [h.qty] else if h.qty = [] then 2 else if 0 < k ∧ lt ((hs[k - 1]?.map (·.ins)).getD []) h.ins = false then 8 else 0
def checkH (hs : List Hd) : Int := if 64 < hs.length then 4 else firstErr (chH hs) hs.length
def chM (day : Int) (ms : List Mv) (k : Nat) : Int :=
  match ms[k]? with
  | none => 0
  | some m => if isName m.ref = false then 23 else if okDay m.day = false ∨ day < m.day then 13 else if isName m.ins = false then 23 else if numE [m.qty, m.amt] ≠ 0 then numE [m.qty, m.amt] else if m.qty = [] then 2 else if 0 < k ∧ m.day < (ms[k - 1]?.map (·.day)).getD 0 then 8 else 0
def checkM (day : Int) (ms : List Mv) : Int := if 1000 < ms.length then 4 else firstErr (chM day ms) ms.length
def checkS (s : St) : Int := if okDay s.day = false then 13 else if checkH s.hs ≠ 0 then checkH s.hs else checkM s.day s.ms
end Go.Proofs.YteeampgbmpolfaaGreatDoor

/- How statements lie in memory. -/
namespace Go.Proofs.YteeampgbmpolfaaGreatDoor
open Go.RowKit

def scells (ls : List Bs) : List Value := ls.map fun l => .string (bs l)
def hcells (hs : List Hd) : List Value := hs.flatMap fun h => [.string (bs h.ins), .string (bs h.qty)]
def mcells (ms : List Mv) : List Value := ms.flatMap fun m => [.string (bs m.ref), .int .i64 m.day, .string (bs m.ins), .string (bs m.qty), .string (bs m.amt)]
theorem flat_at {α : Type} (f : α → List Value) (n : Nat) (hf : ∀ a, (f a).length = n) : ∀ (l : List α) (k j : Nat) (h : k < l.length), j < n → (l.flatMap f)[k * n + j]? = (f (l[k]'h))[j]? := by
  intro l; induction l with
  | nil => intro k j h; simp at h
  | cons a r ih =>
    intro k j h hj
    rw [List.flatMap_cons]
    cases k with
    | zero => rw [Nat.zero_mul, Nat.zero_add, List.getElem?_append_left (by rw [hf]; exact hj)]; rfl
    | succ k =>
      rw [List.getElem?_append_right (by rw [hf, Nat.succ_mul]; omega), hf, show (k + 1) * n + j - n = k * n + j by rw [Nat.succ_mul]; omega]
      exact ih k j (by simpa using h) hj
theorem flat_len {α : Type} (f : α → List Value) (n : Nat) (hf : ∀ a, (f a).length = n) : ∀ (l : List α), (l.flatMap f).length = l.length * n := by
  intro l; induction l with
  | nil => simp
  | cons a r ih => rw [List.flatMap_cons, List.length_append, hf, ih, List.length_cons, Nat.succ_mul]; omega
theorem hcells_len (hs : List Hd) : (hcells hs).length = hs.length * 2 := flat_len _ 2 (fun _ => rfl) hs
theorem mcells_len (ms : List Mv) : (mcells ms).length = ms.length * 5 := flat_len _ 5 (fun _ => rfl) ms
def RdS (w : World) (A : Option Addr) (ls : List Bs) : Prop := Reads w 1 A ls.length (scells ls)
def RdH (w : World) (A : Option Addr) (hs : List Hd) : Prop := Reads w 2 A hs.length (hcells hs)
def RdM (w : World) (A : Option Addr) (ms : List Mv) : Prop := Reads w 5 A ms.length (mcells ms)
theorem RdS.ext {w w' : World} {A : Option Addr} {ls : List Bs} (h : RdS w A ls) (he : Ext w w') : RdS w' A ls := Reads.ext h he
theorem RdH.ext {w w' : World} {A : Option Addr} {hs : List Hd} (h : RdH w A hs) (he : Ext w w') : RdH w' A hs := Reads.ext h he
theorem RdM.ext {w w' : World} {A : Option Addr} {ms : List Mv} (h : RdM w A ms) (he : Ext w w') : RdM w' A ms := Reads.ext h he
theorem RdS.at_ {w : World} {A : Option Addr} {ls : List Bs} (h : RdS w A ls) {k : Nat} (hk : k < ls.length) :
    ∃ b o, A = some ⟨b, o, none⟩ ∧ b < w.heap.size ∧ w.cell? ⟨b, o + k, none⟩ = some (.string (bs (ls[k]'hk))) := by
  obtain ⟨b, o, rfl, hb⟩ := Reads.at_ h (by omega)
  exact ⟨b, o, rfl, hb, Reads.cell h (by simp [scells, hk])⟩
theorem RdH.at_ {w : World} {A : Option Addr} {hs : List Hd} (h : RdH w A hs) {k : Nat} (hk : k < hs.length) :
    ∃ b o, A = some ⟨b, o, none⟩ ∧ b < w.heap.size ∧ w.cell? ⟨b, o + k * 2, none⟩ = some (.string (bs (hs[k]'hk).ins)) ∧ w.cell? ⟨b, o + k * 2 + 1, none⟩ = some (.string (bs (hs[k]'hk).qty)) := by
  obtain ⟨b, o, rfl, hb⟩ := Reads.at_ h (by omega)
  refine ⟨b, o, rfl, hb, Reads.cell h (j := k * 2) ?_, ?_⟩
  · exact flat_at _ 2 (fun _ => rfl) hs k 0 hk (by omega)
  · have := Reads.cell h (j := k * 2 + 1) (flat_at _ 2 (fun _ => rfl) hs k 1 hk (by omega)); rw [← Nat.add_assoc] at this; exact this
theorem RdM.at_ {w : World} {A : Option Addr} {ms : List Mv} (h : RdM w A ms) {k : Nat} (hk : k < ms.length) :
    ∃ b o, A = some ⟨b, o, none⟩ ∧ b < w.heap.size ∧ w.cell? ⟨b, o + k * 5, none⟩ = some (.string (bs (ms[k]'hk).ref)) ∧ w.cell? ⟨b, o + k * 5 + 1, none⟩ = some (.int .i64 (ms[k]'hk).day) ∧
      w.cell? ⟨b, o + k * 5 + 2, none⟩ = some (.string (bs (ms[k]'hk).ins)) ∧ w.cell? ⟨b, o + k * 5 + 3, none⟩ = some (.string (bs (ms[k]'hk).qty)) ∧ w.cell? ⟨b, o + k * 5 + 4, none⟩ = some (.string (bs (ms[k]'hk).amt)) := by
  obtain ⟨b, o, rfl, hb⟩ := Reads.at_ h (by omega)
  refine ⟨b, o, rfl, hb, Reads.cell h (j := k * 5) ?_, ?_, ?_, ?_, ?_⟩
  · exact flat_at _ 5 (fun _ => rfl) ms k 0 hk (by omega)
  · have := Reads.cell h (j := k * 5 + 1) (flat_at _ 5 (fun _ => rfl) ms k 1 hk (by omega)); rw [← Nat.add_assoc] at this; exact this
  · have := Reads.cell h (j := k * 5 + 2) (flat_at _ 5 (fun _ => rfl) ms k 2 hk (by omega)); rw [← Nat.add_assoc] at this; exact this
  · have := Reads.cell h (j := k * 5 + 3) (flat_at _ 5 (fun _ => rfl) ms k 3 hk (by omega)); rw [← Nat.add_assoc] at this; exact this
  · have := Reads.cell h (j := k * 5 + 4) (flat_at _ 5 (fun _ => rfl) ms k 4 hk (by omega)); rw [← Nat.add_assoc] at this; exact this
/-- the sizes that the walks ask of the strings -/
def SmallH (h : Hd) : Prop := h.ins.length ≤ 1000000 ∧ h.qty.length ≤ 1000000
def SmallM (m : Mv) : Prop := m.ref.length ≤ 1000000 ∧ m.ins.length ≤ 1000000 ∧ m.qty.length ≤ 1000000 ∧ m.amt.length ≤ 1000000
end Go.Proofs.YteeampgbmpolfaaGreatDoor

/- The walks over the program's statement: number, checkHoldings. -/
namespace Go.Proofs.YteeampgbmpolfaaGreatDoor
open Go.RowKit Go.Shelf
attribute [local go_sem] size_bs toList_bs extract_bs get_bs append_bs lit_append append_lit

theorem trimMinus (l : Bs) (w : World) :
    Calls Tryz.prog 133 #[.string (bs l), .string ⟨#[45]⟩] w fun e w' => e = .returned (.string (bs (strip l))) ∧ w = w' := by
  refine (Tryz.strings_TrimPrefix (bs l) ⟨#[45]⟩ w).mono ?_
  rintro e w' ⟨rfl, rfl⟩
  refine ⟨?_, rfl⟩
  rw [data_bs]
  have h1 : Lib.hasPrefix l [45] = isMin l := by
    unfold Lib.hasPrefix isMin
    cases l with
    | nil => rfl
    | cons c r => show (45 == c && true) = (c == 45); rw [Bool.and_true]; exact BEq.comm
  have h2 : Lib.trimPrefix l [45] = strip l := by
    unfold Lib.trimPrefix strip; rw [h1]
    by_cases h : isMin l = true
    · simp [h]
    · simp [h]
  show Ending.returned (.string ⟨(Lib.trimPrefix l [45]).toArray⟩) = _
  rw [h2]; rfl

theorem stValid (d : Int) (w : World) :
    Calls Tryz.prog 58 #[.int .i64 d] w fun e w' => e = .returned (.bool (okDay d)) ∧ w = w' := by
  by_cases a : -25567 ≤ d
  · have ab : decide (-25567 ≤ d) = true := by simp [a]
    go_enter Tryz.func58, Tryz.ntmps58
    go_wp2_with fail
    go_ret
    exact ⟨by simp [okDay, a], rfl⟩
  · have ab : decide (-25567 ≤ d) = false := by simp [a]
    go_enter Tryz.func58, Tryz.ntmps58
    go_wp2_with fail
    go_ret
    exact ⟨by simp [okDay]; omega, rfl⟩

theorem numE1_hit (ls : List Bs) (k : Nat) (hk : k < ls.length) (h : checkI (ls[k]'hk) ≠ 0) : numE ls = 1 := by
  unfold numE; rw [if_pos]; unfold numE1; rw [List.any_eq_true]; exact ⟨_, List.getElem_mem hk, by simp [h]⟩
theorem numE1_none (ls : List Bs) (h : ∀ (j : Nat) (hj : j < ls.length), checkI (ls[j]'hj) = 0) : numE1 ls = false := by
  unfold numE1; rw [List.any_eq_false]; intro x hx
  obtain ⟨j, hj, rfl⟩ := List.mem_iff_getElem.1 hx
  simp [h j hj]
theorem numE4_hit (ls : List Bs) (k : Nat) (hk : k < ls.length) (h1 : numE1 ls = false) (h : 40 < digs (ls[k]'hk)) : numE ls = 4 := by
  unfold numE; rw [h1, if_neg (by simp), if_pos]; unfold numE4; rw [List.any_eq_true]; exact ⟨_, List.getElem_mem hk, by simp [h]⟩
theorem numE4_none (ls : List Bs) (h1 : numE1 ls = false) (h : ∀ (j : Nat) (hj : j < ls.length), digs (ls[j]'hj) ≤ 40) : numE ls = 0 := by
  unfold numE; rw [h1, if_neg (by simp), if_neg]; unfold numE4; rw [List.any_eq_true]; rintro ⟨x, hx, hp⟩
  obtain ⟨j, hj, rfl⟩ := List.mem_iff_getElem.1 hx
  have := h j hj; simp at hp; omega
theorem checkI_01 (l : Bs) : checkI l = 0 ∨ checkI l = 1 := by unfold checkI; split <;> simp

set_option maxHeartbeats 1000000 in
theorem stNumber (ls : List Bs) (A : Option Addr) (c : Nat) (w : World) (hr : RdS w A ls) (hn : ls.length ≤ 1000000) (hs : ∀ l ∈ ls, l.length ≤ 1000000) :
    Calls Tryz.prog 99 #[.slice A ls.length c] w fun e w' => e = .returned (.int .i64 (numE ls)) ∧ Ext w w' := by
  have HR := Lib.hid hr
  have HS := Lib.hid hs
  clear hr hs
  go_enter Tryz.func99, Tryz.ntmps99
  go_wp2_with fail
  go_loopw [9] (fun i wr => ∃ k : Nat, k ≤ ls.length ∧ i = .int .i64 k ∧ (∀ (j : Nat) (hj : j < ls.length), j < k → checkI (ls[j]'hj) = 0) ∧ Ext w wr) (fun i _ => ls.length - (intOf i).toNat)
  case atStart => exact ⟨0, by omega, rfl, fun j _ hj => absurd hj (by omega), Ext.refl _⟩
  case round =>
    obtain ⟨k, hk, rfl, hz, hx⟩ := hrel
    have HZ := Lib.hid hz
    clear hz
    by_cases hlt : k < ls.length
    · obtain ⟨b, o, rfl, hb, hc⟩ := (HR.out.ext hx).at_ hlt
      have hsz : (ls[k]'hlt).length ≤ 1000000 := HS.out _ (List.getElem_mem hlt)
      go_wp2_with fail
      refine (intCheck _ _ (by omega)).mono ?_
      rintro e w1 ⟨rfl, hx1⟩
      rcases checkI_01 (ls[k]'hlt) with h0 | h0
      · rw [h0]
        have H0 := Lib.hid h0
        clear h0
        go_wp2_with fail
        go_roundw
        case rel =>
          refine ⟨k + 1, by omega, by go_num, fun j hj hjk => ?_, hx.trans hx1⟩
          rcases Nat.lt_or_ge j k with h | h
          · exact HZ.out j hj h
          · obtain rfl : j = k := by omega
            exact H0.out
        case measure => simp [intOf]; omega
      · have HN := Lib.hid (numE1_hit ls k hlt (by rw [h0]; decide))
        rw [h0]
        clear h0
        go_wp2_with fail
        go_ret
        exact ⟨by rw [HN.out]; rfl, hx.trans hx1⟩
    · have HE := Lib.hid (numE1_none ls (fun j hj => HZ.out j hj (by omega)))
      go_wp2_with fail
      go_loop [19] (fun i => ∃ k : Nat, k ≤ ls.length ∧ i = .int .i64 k ∧ (∀ (j : Nat) (hj : j < ls.length), j < k → digs (ls[j]'hj) ≤ 40)) (fun i => ls.length - (intOf i).toNat)
      case atStart => exact ⟨0, by omega, rfl, fun j _ hj => absurd hj (by omega)⟩
      case round =>
        obtain ⟨k, hk, rfl, hz⟩ := hrel
        have HZ2 := Lib.hid hz
        clear hz
        by_cases hlt : k < ls.length
        · obtain ⟨b, o, rfl, hb, hc⟩ := (HR.out.ext hx).at_ hlt
          go_wp2_with fail
          refine (trimMinus _ _).mono ?_
          rintro e w1 ⟨rfl, rfl⟩
          have hdg : digs (ls[k]'hlt) = ((strip (ls[k]'hlt)).length : Int) := rfl
          have HDG := Lib.hid hdg
          clear hdg
          by_cases h40 : (40 : Int) < (strip (ls[k]'hlt)).length
          · have HN := Lib.hid (numE4_hit ls k hlt HE.out (by rw [HDG.out]; exact h40))
            have h40b : decide ((40 : Int) < (strip (ls[k]'hlt)).length) = true := by simpa using h40
            go_wp2_with fail
            go_ret
            exact ⟨by rw [HN.out]; rfl, hx⟩
          · have h40b : decide ((40 : Int) < (strip (ls[k]'hlt)).length) = false := by simpa using h40
            go_wp2_with fail
            go_round
            case rel =>
              refine ⟨k + 1, by omega, by go_num, fun j hj hjk => ?_⟩
              rcases Nat.lt_or_ge j k with h | h
              · exact HZ2.out j hj h
              · obtain rfl : j = k := by omega
                rw [HDG.out]; omega
            case measure => simp [intOf]; omega
        · have HN := Lib.hid (numE4_none ls HE.out (fun j hj => HZ2.out j hj (by omega)))
          go_wp2_with fail
          go_ret
          exact ⟨by rw [HN.out]; rfl, hx⟩

theorem getD_prev (hs : List Hd) (k : Nat) (h : k - 1 < hs.length) : ((hs[k - 1]?.map (·.ins)).getD []) = (hs[k - 1]'h).ins := by
  rw [List.getElem?_eq_getElem h]; rfl
theorem chH_at (hs : List Hd) (k : Nat) (hk : k < hs.length) : chH hs k = (if isName (hs[k]'hk).ins = false then 23 else if numE [(hs[k]'hk).qty] ≠ 0 then numE [(hs[k]'hk).qty] else if (hs[k]'hk).qty = [] then 2 else if 0 < k ∧ lt ((hs[k - 1]?.map (·.ins)).getD []) (hs[k]'hk).ins = false then 8 else 0) := by
  unfold chH; rw [List.getElem?_eq_getElem hk]
theorem numE_bd (ls : List Bs) : 0 ≤ numE ls ∧ numE ls ≤ 4 := by unfold numE; split <;> (try split) <;> omega

set_option maxHeartbeats 2000000 in
theorem stCheckH (hs : List Hd) (A : Option Addr) (c : Nat) (w : World) (hr : RdH w A hs) (hn : hs.length ≤ 1000000000) (hsm : ∀ h ∈ hs, SmallH h) :
    Calls Tryz.prog 59 #[.slice A hs.length c] w fun e w' => e = .returned (.int .i64 (checkH hs)) ∧ Ext w w' := by
  have HR := Lib.hid hr
  have HS := Lib.hid hsm
  clear hr hsm
  by_cases h64 : 64 < hs.length
  · have hb : decide ((64 : Int) < hs.length) = true := by simp; omega
    go_enter Tryz.func59, Tryz.ntmps59
    go_wp2_with fail
    go_ret
    exact ⟨by unfold checkH; rw [if_pos h64]; rfl, Ext.refl _⟩
  have hb : decide ((64 : Int) < hs.length) = false := by simp; omega
  have HC : Hid (checkH hs = firstErr (chH hs) hs.length) := Lib.hid (by unfold checkH; rw [if_neg h64])
  go_enter Tryz.func59, Tryz.ntmps59
  go_wp2_with fail
  go_loopw [11] (fun i wr => ∃ k : Nat, k ≤ hs.length ∧ i = .int .i64 k ∧ (∀ j, j < k → chH hs j = 0) ∧ Ext w wr) (fun i _ => hs.length - (intOf i).toNat)
  case atStart => exact ⟨0, by omega, rfl, fun j hj => absurd hj (by omega), Ext.refl _⟩
  case round =>
    obtain ⟨k, hk, rfl, hz, hx⟩ := hrel
    have HZ := Lib.hid hz
    clear hz
    by_cases hlt : k < hs.length
    · have hR := HR.out.ext hx
      obtain ⟨b, o, rfl, hb1, hc1, hc2⟩ := hR.at_ hlt
      have HRR := Lib.hid hR
      obtain ⟨hs1, hs2⟩ := HS.out _ (List.getElem_mem hlt)
      have HAT := Lib.hid (chH_at hs k hlt)
      have HHIT := Lib.hid (firstErr_hit (chH hs) hs.length k hlt HZ.out)
      clear hR
      generalize hh : hs[k]'hlt = h at *
      have HH := Lib.hid hh
      clear hh
      go_wp2_with fail
      refine (insName _ _ (by omega)).mono ?_
      rintro e w1 ⟨rfl, hx1⟩
      cases hnm : isName h.ins with
      | false =>
        have HN := Lib.hid hnm
        clear hnm
        go_wp2_with fail
        go_ret
        exact ⟨by rw [HC.out, HHIT.out (by rw [HAT.out, HN.out, if_pos rfl]; decide), HAT.out, HN.out, if_pos rfl]; rfl, ((hx.alloc _).trans hx1)⟩
      | true =>
        have HN := Lib.hid hnm
        clear hnm
        obtain ⟨hrc, hrf⟩ := hx1.rules
        have hsz1 := hx1.size
        simp only [World.size_alloc] at hrc hrf hsz1
        go_wp2_with fail
        refine (stNumber [h.qty] (some ⟨w1.heap.size, 0, none⟩) 1 _ (Reads.lit rfl) (by simp) (by simp; omega)).mono ?_
        rintro e w2 ⟨rfl, hx2⟩
        have hx3 : Ext (wr.alloc (.cells #[.string (bs h.ins), .string (bs h.qty)] 45)) w2 := hx1.trans hx2.of_alloc
        obtain ⟨hrc2, hrf2⟩ := hx3.rules
        have hsz2 := hx3.size
        simp only [World.size_alloc] at hrc2 hrf2 hsz2
        clear hrc hrf hsz1
        by_cases hnz : numE [h.qty] = 0
        · have HNZ := Lib.hid hnz
          rw [hnz]
          clear hnz
          by_cases hq : h.qty = []
          · have hqb : h.qty.isEmpty = true := by simp [hq]
            have HQ := Lib.hid hq
            clear hq
            go_wp2_with fail
            go_ret
            exact ⟨by rw [HC.out, HHIT.out (by rw [HAT.out, HN.out, if_neg (by decide), if_neg (fun e => e HNZ.out), if_pos HQ.out]; decide), HAT.out, HN.out, if_neg (by decide), if_neg (fun e => e HNZ.out), if_pos HQ.out]; rfl, (hx.alloc _).trans hx3⟩
          · have hqb : h.qty.isEmpty = false := by simpa using hq
            have HQ := Lib.hid hq
            clear hq
            have HAT2 : Hid (chH hs k = if 0 < k ∧ lt ((hs[k - 1]?.map (·.ins)).getD []) h.ins = false then 8 else 0) := Lib.hid (by rw [HAT.out, HN.out, if_neg (by decide), if_neg (fun e => e HNZ.out), if_neg HQ.out])
            have hbox : w2.cell? ⟨wr.heap.size, 0, none⟩ = some (.string (bs h.ins)) := by rw [hrc2 _ _ (by omega)]; simp
            have hbox1 : w2.cell? ⟨wr.heap.size, 1, none⟩ = some (.string (bs h.qty)) := by rw [hrc2 _ _ (by omega)]; simp
            clear hrc2 hrf2
            by_cases hk0 : 0 < k
            · have hkp : k - 1 < hs.length := by omega
              obtain ⟨b', o', e', _, hp1, _⟩ := HRR.out.at_ hkp
              injection e' with e'
              injection e' with e1 e2
              subst e1
              subst e2
              have hprev : w2.cell? ⟨b, o + (k - 1) * 2, none⟩ = some (.string (bs (hs[k - 1]'hkp).ins)) := by
                rw [(hx3.cell (p := ⟨b, o + (k - 1) * 2, none⟩) (by simp only [World.size_alloc]; omega))]
                rw [World.cell?_alloc_lt _ _ _ (by simpa using hb1)]; exact hp1
              have HPV := Lib.hid (getD_prev hs k hkp)
              have hk0b : decide ((0 : Int) < k) = true := by simp; omega
              have hkd : IntKind.i64.wrap ((k : Int) - 1) = (k : Int) - 1 := IntWalk.i64_in _ (by omega)
              have hkt : ((k : Int) - 1).toNat = k - 1 := by omega
              have hk1 : (1 : Int) ≤ k := by omega
              clear hp1
              generalize hpi : (hs[k - 1]'hkp).ins = pv at *
              clear hpi
              have HCMP : Hid ((Op.bytesLess h.ins pv || h.ins == pv) = !lt pv h.ins) := Lib.hid (leq_geq _ _)
              go_wp2_with fail
              go_quiet (fail)
              go_wp2_with fail
              · have hor : Op.bytesLess h.ins pv = true ∨ (h.ins == pv) = true := by assumption
                have hl : lt pv h.ins = false := by
                  have := HCMP.out
                  rw [show (Op.bytesLess h.ins pv || h.ins == pv) = true by rw [Bool.or_eq_true]; exact hor] at this
                  cases hq : lt pv h.ins with
                  | false => rfl
                  | true => rw [hq] at this; cases this
                have HE : chH hs k = 8 := by rw [HAT2.out, HPV.out, hl, if_pos ⟨hk0, rfl⟩]
                go_ret
                exact ⟨by rw [HC.out, HHIT.out (by rw [HE]; decide), HE]; rfl, ((hx.alloc _).trans hx3).drewN _⟩
              · have hor : Op.bytesLess h.ins pv = false ∧ (h.ins == pv) = false := by assumption
                have hl : lt pv h.ins = true := by
                  have := HCMP.out
                  rw [hor.1, hor.2] at this
                  cases hq : lt pv h.ins with
                  | true => rfl
                  | false => rw [hq] at this; cases this
                have HE : chH hs k = 0 := by rw [HAT2.out, HPV.out, hl, if_neg (fun e => by cases e.2)]
                go_roundw
                case rel =>
                  refine ⟨k + 1, by omega, by go_num, fun j hj => ?_, ((hx.alloc _).trans hx3).drewN _⟩
                  rcases Nat.lt_or_ge j k with h' | h'
                  · exact HZ.out j h'
                  · obtain rfl : j = k := by omega
                    exact HE
                case measure => simp [intOf]; omega
            · have hk0b : decide ((0 : Int) < k) = false := by simp; omega
              have HZK : Hid (chH hs k = 0) := Lib.hid (by rw [HAT2.out, if_neg (fun e => hk0 e.1)])
              go_wp2_with fail
              go_quiet (fail)
              go_wp2_with fail
              go_roundw
              case rel =>
                refine ⟨k + 1, by omega, by go_num, fun j hj => ?_, ((hx.alloc _).trans hx3).drewN _⟩
                rcases Nat.lt_or_ge j k with h' | h'
                · exact HZ.out j h'
                · obtain rfl : j = k := by omega
                  exact HZK.out
              case measure => simp [intOf]; omega
        · have HNZ := Lib.hid hnz
          have hnb : (numE [h.qty] != 0) = true := by simpa using hnz
          clear hnz
          go_wp2_with fail
          go_ret
          exact ⟨by rw [HC.out, HHIT.out (by rw [HAT.out, HN.out, if_neg (by decide), if_pos HNZ.out]; exact HNZ.out), HAT.out, HN.out, if_neg (by decide), if_pos HNZ.out]; rfl, (hx.alloc _).trans hx3⟩
    · go_wp2_with fail
      go_ret
      exact ⟨by rw [HC.out, firstErr_none _ _ (fun j hj => HZ.out j (by omega))]; rfl, hx⟩
end Go.Proofs.YteeampgbmpolfaaGreatDoor

/- The walks over the program's statement: checkMovements, Check. -/
namespace Go.Proofs.YteeampgbmpolfaaGreatDoor
open Go.RowKit Go.Shelf
attribute [local go_sem] size_bs toList_bs extract_bs get_bs append_bs lit_append append_lit

theorem getD_prevM (ms : List Mv) (k : Nat) (h : k - 1 < ms.length) : ((ms[k - 1]?.map (·.day)).getD 0) = (ms[k - 1]'h).day := by
  rw [List.getElem?_eq_getElem h]; rfl
theorem chM_at (day : Int) (ms : List Mv) (k : Nat) (hk : k < ms.length) : chM day ms k = (if isName (ms[k]'hk).ref = false then 23 else if okDay (ms[k]'hk).day = false ∨ day < (ms[k]'hk).day then 13 else if isName (ms[k]'hk).ins = false then 23 else if numE [(ms[k]'hk).qty, (ms[k]'hk).amt] ≠ 0 then numE [(ms[k]'hk).qty, (ms[k]'hk).amt] else if (ms[k]'hk).qty = [] then 2 else if 0 < k ∧ (ms[k]'hk).day < (ms[k - 1]?.map (·.day)).getD 0 then 8 else 0) := by
  unfold chM; rw [List.getElem?_eq_getElem hk]

set_option maxHeartbeats 4000000 in
theorem stCheckM (ms : List Mv) (day : Int) (A : Option Addr) (c : Nat) (w : World) (hr : RdM w A ms) (hn : ms.length ≤ 1000000000) (hsm : ∀ m ∈ ms, SmallM m) :
    Calls Tryz.prog 60 #[.slice A ms.length c, .int .i64 day] w fun e w' => e = .returned (.int .i64 (checkM day ms)) ∧ Ext w w' := by
  have HR := Lib.hid hr
  have HS := Lib.hid hsm
  clear hr hsm
  by_cases h64 : 1000 < ms.length
  · have hb : decide ((1000 : Int) < ms.length) = true := by simp; omega
    go_enter Tryz.func60, Tryz.ntmps60
    go_wp2_with fail
    go_ret
    exact ⟨by unfold checkM; rw [if_pos h64]; rfl, Ext.refl _⟩
  have hb : decide ((1000 : Int) < ms.length) = false := by simp; omega
  have HC : Hid (checkM day ms = firstErr (chM day ms) ms.length) := Lib.hid (by unfold checkM; rw [if_neg h64])
  go_enter Tryz.func60, Tryz.ntmps60
  go_wp2_with fail
  go_loopw [13] (fun i wr => ∃ k : Nat, k ≤ ms.length ∧ i = .int .i64 k ∧ (∀ j, j < k → chM day ms j = 0) ∧ Ext w wr) (fun i _ => ms.length - (intOf i).toNat)
  case atStart => exact ⟨0, by omega, rfl, fun j hj => absurd hj (by omega), Ext.refl _⟩
  case round =>
    obtain ⟨k, hk, rfl, hz, hx⟩ := hrel
    have HZ := Lib.hid hz
    clear hz
    by_cases hlt : k < ms.length
    · have hR := HR.out.ext hx
      obtain ⟨b, o, rfl, hb1, hc1, hc2, hc3, hc4, hc5⟩ := hR.at_ hlt
      have HRR := Lib.hid hR
      obtain ⟨hs1, hs2, hs3, hs4⟩ := HS.out _ (List.getElem_mem hlt)
      have HAT := Lib.hid (chM_at day ms k hlt)
      have HHIT := Lib.hid (firstErr_hit (chM day ms) ms.length k hlt HZ.out)
      clear hR
      generalize hh : ms[k]'hlt = m at *
      have HH := Lib.hid hh
      clear hh
      go_wp2_with fail
      refine (insName _ _ (by omega)).mono ?_
      rintro e w1 ⟨rfl, hx1⟩
      cases hnm : isName m.ref with
      | false =>
        have HN := Lib.hid hnm
        clear hnm
        go_wp2_with fail
        go_ret
        exact ⟨by rw [HC.out, HHIT.out (by rw [HAT.out, HN.out, if_pos rfl]; decide), HAT.out, HN.out, if_pos rfl]; rfl, ((hx.alloc _).trans hx1)⟩
      | true =>
        have HN := Lib.hid hnm
        clear hnm
        have HA1 : Hid (chM day ms k = if okDay m.day = false ∨ day < m.day then 13 else if isName m.ins = false then 23 else if numE [m.qty, m.amt] ≠ 0 then numE [m.qty, m.amt] else if m.qty = [] then 2 else if 0 < k ∧ m.day < (ms[k - 1]?.map (·.day)).getD 0 then 8 else 0) := Lib.hid (by rw [HAT.out, HN.out, if_neg (by decide)])
        clear HAT HN
        obtain ⟨hrc, hrf⟩ := hx1.rules
        have hsz1 := hx1.size
        simp only [World.size_alloc] at hrc hrf hsz1
        go_wp2_with fail
        refine (stValid _ _).mono ?_
        rintro e w1' ⟨rfl, rfl⟩
        by_cases hd : okDay m.day = false ∨ day < m.day
        · have HA2 : Hid (chM day ms k = 13) := Lib.hid (by rw [HA1.out, if_pos hd])
          cases hok : okDay m.day with
          | false =>
            clear hd hok
            go_wp2_with fail
            go_ret
            exact ⟨by rw [HC.out, HHIT.out (by rw [HA2.out]; decide), HA2.out]; rfl, ((hx.alloc _).trans hx1)⟩
          | true =>
            have hdd : day < m.day := by rcases hd with h | h; rw [hok] at h; cases h; exact h
            clear hd hok
            go_wp2_with fail
            go_ret
            exact ⟨by rw [HC.out, HHIT.out (by rw [HA2.out]; decide), HA2.out]; rfl, ((hx.alloc _).trans hx1)⟩
        have HA2 : Hid (chM day ms k = if isName m.ins = false then 23 else if numE [m.qty, m.amt] ≠ 0 then numE [m.qty, m.amt] else if m.qty = [] then 2 else if 0 < k ∧ m.day < (ms[k - 1]?.map (·.day)).getD 0 then 8 else 0) := Lib.hid (by rw [HA1.out, if_neg hd])
        have hok : okDay m.day = true := by cases h : okDay m.day with | true => rfl | false => exact absurd (.inl h) hd
        have hdd : ¬ day < m.day := fun h => hd (.inr h)
        rw [hok]
        clear hd hok HA1
        go_wp2_with fail
        refine (insName _ _ (by omega)).mono ?_
        rintro e w2 ⟨rfl, hx2⟩
        cases hnm : isName m.ins with
        | false =>
          have HN := Lib.hid hnm
          clear hnm
          go_wp2_with fail
          go_ret
          exact ⟨by rw [HC.out, HHIT.out (by rw [HA2.out, HN.out, if_pos rfl]; decide), HA2.out, HN.out, if_pos rfl]; rfl, ((hx.alloc _).trans hx1).trans hx2⟩
        | true =>
          have HN := Lib.hid hnm
          clear hnm
          have HA3 : Hid (chM day ms k = if numE [m.qty, m.amt] ≠ 0 then numE [m.qty, m.amt] else if m.qty = [] then 2 else if 0 < k ∧ m.day < (ms[k - 1]?.map (·.day)).getD 0 then 8 else 0) := Lib.hid (by rw [HA2.out, HN.out, if_neg (by decide)])
          clear HA2 HN
          have hx12 := hx1.trans hx2
          obtain ⟨hrc2, hrf2⟩ := hx12.rules
          have hsz2 := hx12.size
          simp only [World.size_alloc] at hrc2 hrf2 hsz2
          clear hrc hrf hsz1
          go_wp2_with fail
          refine (stNumber [m.qty, m.amt] (some ⟨w2.heap.size, 0, none⟩) 2 _ (Reads.lit rfl) (by simp) (by simp; omega)).mono ?_
          rintro e w3 ⟨rfl, hx3'⟩
          have hx3 := hx12.trans hx3'.of_alloc
          obtain ⟨hrc3, hrf3⟩ := hx3.rules
          have hsz3 := hx3.size
          simp only [World.size_alloc] at hrc3 hrf3 hsz3
          clear hrc2 hrf2 hsz2
          by_cases hnz : numE [m.qty, m.amt] = 0
          · have HA4 : Hid (chM day ms k = if m.qty = [] then 2 else if 0 < k ∧ m.day < (ms[k - 1]?.map (·.day)).getD 0 then 8 else 0) := Lib.hid (by rw [HA3.out, if_neg (fun e => e hnz)])
            rw [hnz]
            clear hnz HA3
            by_cases hq : m.qty = []
            · have hqb : m.qty.isEmpty = true := by simp [hq]
              have HQ := Lib.hid hq
              clear hq
              go_wp2_with fail
              go_ret
              exact ⟨by rw [HC.out, HHIT.out (by rw [HA4.out, if_pos HQ.out]; decide), HA4.out, if_pos HQ.out]; rfl, (hx.alloc _).trans hx3⟩
            · have hqb : m.qty.isEmpty = false := by simpa using hq
              have HA5 : Hid (chM day ms k = if 0 < k ∧ m.day < (ms[k - 1]?.map (·.day)).getD 0 then 8 else 0) := Lib.hid (by rw [HA4.out, if_neg hq])
              clear hq HA4
              have hbox : w3.cell? ⟨wr.heap.size, 1, none⟩ = some (.int .i64 m.day) := by rw [hrc3 _ _ (by omega)]; simp
              have hbox1 : w3.cell? ⟨wr.heap.size, 3, none⟩ = some (.string (bs m.qty)) := by rw [hrc3 _ _ (by omega)]; simp
              clear hrc3 hrf3
              by_cases hk0 : 0 < k
              · have hkp : k - 1 < ms.length := by omega
                obtain ⟨b', o', e', _, _, hp1, _⟩ := HRR.out.at_ hkp
                injection e' with e'
                injection e' with e1 e2
                subst e1
                subst e2
                have hprev : w3.cell? ⟨b, o + (k - 1) * 5 + 1, none⟩ = some (.int .i64 (ms[k - 1]'hkp).day) := by
                  rw [(hx3.cell (p := ⟨b, o + (k - 1) * 5 + 1, none⟩) (by simp only [World.size_alloc]; omega))]
                  rw [World.cell?_alloc_lt _ _ _ (by simpa using hb1)]; exact hp1
                have HPV := Lib.hid (getD_prevM ms k hkp)
                have hk0b : decide ((0 : Int) < k) = true := by simp; omega
                have hkd : IntKind.i64.wrap ((k : Int) - 1) = (k : Int) - 1 := IntWalk.i64_in _ (by omega)
                have hkt : ((k : Int) - 1).toNat = k - 1 := by omega
                have hk1 : (1 : Int) ≤ k := by omega
                clear hp1
                generalize hpi : (ms[k - 1]'hkp).day = pv at *
                clear hpi
                by_cases hl : m.day < pv
                · have HE : Hid (chM day ms k = 8) := Lib.hid (by rw [HA5.out, HPV.out, if_pos ⟨hk0, hl⟩])
                  go_wp2_with fail
                  go_quiet (fail)
                  go_wp2_with fail
                  go_ret
                  exact ⟨by rw [HC.out, HHIT.out (by rw [HE.out]; decide), HE.out]; rfl, ((hx.alloc _).trans hx3).drewN _⟩
                · have HE : Hid (chM day ms k = 0) := Lib.hid (by rw [HA5.out, HPV.out, if_neg (fun e => hl e.2)])
                  go_wp2_with fail
                  go_quiet (fail)
                  go_wp2_with fail
                  go_roundw
                  case rel =>
                    refine ⟨k + 1, by omega, by go_num, fun j hj => ?_, ((hx.alloc _).trans hx3).drewN _⟩
                    rcases Nat.lt_or_ge j k with h' | h'
                    · exact HZ.out j h'
                    · obtain rfl : j = k := by omega
                      exact HE.out
                  case measure => simp [intOf]; omega
              · have hk0b : decide ((0 : Int) < k) = false := by simp; omega
                have HE : Hid (chM day ms k = 0) := Lib.hid (by rw [HA5.out, if_neg (fun e => hk0 e.1)])
                go_wp2_with fail
                go_quiet (fail)
                go_wp2_with fail
                go_roundw
                case rel =>
                  refine ⟨k + 1, by omega, by go_num, fun j hj => ?_, ((hx.alloc _).trans hx3).drewN _⟩
                  rcases Nat.lt_or_ge j k with h' | h'
                  · exact HZ.out j h'
                  · obtain rfl : j = k := by omega
                    exact HE.out
                case measure => simp [intOf]; omega
          · have hnb : (numE [m.qty, m.amt] != 0) = true := by simpa using hnz
            have HE : Hid (chM day ms k = numE [m.qty, m.amt]) := Lib.hid (by rw [HA3.out, if_pos hnz])
            have HNZ := Lib.hid hnz
            clear hnz
            go_wp2_with fail
            go_ret
            exact ⟨by rw [HC.out, HHIT.out (by rw [HE.out]; exact HNZ.out), HE.out]; rfl, (hx.alloc _).trans hx3⟩
    · go_wp2_with fail
      go_ret
      exact ⟨by rw [HC.out, firstErr_none _ _ (fun j hj => HZ.out j (by omega))]; rfl, hx⟩
end Go.Proofs.YteeampgbmpolfaaGreatDoor

/- The walk over the program's statement: Check. -/
namespace Go.Proofs.YteeampgbmpolfaaGreatDoor
open Go.RowKit Go.Shelf
attribute [local go_sem] size_bs toList_bs extract_bs get_bs append_bs lit_append append_lit

structure SmallS (s : St) : Prop where
  hn : s.hs.length ≤ 1000000000
  mn : s.ms.length ≤ 1000000000
  h : ∀ h ∈ s.hs, SmallH h
  m : ∀ m ∈ s.ms, SmallM m

set_option maxHeartbeats 1000000 in
theorem stCheck (s : St) (A B : Option Addr) (c d : Nat) (w : World) (hA : RdH w A s.hs) (hB : RdM w B s.ms) (hsm : SmallS s) :
    Calls Tryz.prog 20 #[.agg #[.int .i64 s.day, .slice A s.hs.length c, .slice B s.ms.length d]] w fun e w' => e = .returned (.int .i64 (checkS s)) ∧ Ext w w' := by
  obtain ⟨day, hs, ms⟩ := s
  obtain ⟨hn, mn, hh, hm⟩ := hsm
  dsimp only at *
  have HA := Lib.hid hA
  have HB := Lib.hid hB
  have HH := Lib.hid hh
  have HM := Lib.hid hm
  clear hA hB hh hm
  go_enter Tryz.func20, Tryz.ntmps20
  go_wp2_with fail
  refine (stValid _ _).mono ?_
  rintro e w1 ⟨rfl, rfl⟩
  cases hd : okDay day with
  | false =>
    have HD := Lib.hid hd
    clear hd
    go_wp2_with fail
    go_ret
    exact ⟨by unfold checkS; rw [if_pos HD.out]; rfl, Ext.new _ _⟩
  | true =>
    have HD := Lib.hid hd
    clear hd
    go_wp2_with fail
    refine (stCheckH hs A c _ (HA.out.ext (Ext.new _ _)) (by omega) HH.out).mono ?_
    rintro e w2 ⟨rfl, hx2⟩
    obtain ⟨hrc, hrf⟩ := hx2.rules
    have hsz := hx2.size
    simp only [World.size_alloc] at hrc hrf hsz
    by_cases hz : checkH hs = 0
    · rw [hz]
      have HZ : Hid (checkS ⟨day, hs, ms⟩ = checkM day ms) := Lib.hid (by unfold checkS; rw [if_neg (by rw [HD.out]; decide), if_neg (fun e => e hz)])
      clear hz
      go_wp2_with fail
      refine (stCheckM ms day B d _ (HB.out.ext hx2.of_alloc) (by omega) HM.out).mono ?_
      rintro e w3 ⟨rfl, hx3⟩
      go_wp2_with fail
      go_ret
      exact ⟨by rw [HZ.out]; rfl, hx2.of_alloc.trans hx3⟩
    · have hzb : (checkH hs != 0) = true := by simpa using hz
      have HZ : Hid (checkS ⟨day, hs, ms⟩ = checkH hs) := Lib.hid (by unfold checkS; rw [if_neg (by rw [HD.out]; decide), if_pos hz])
      clear hz
      go_wp2_with fail
      go_ret
      exact ⟨by rw [HZ.out]; rfl, hx2.of_alloc⟩
end Go.Proofs.YteeampgbmpolfaaGreatDoor

/- The walk over the reference's statement: Check. -/
namespace Go.Proofs.YteeampgbmpolfaaGreatDoor
open Go.RowKit Go.Shelf
attribute [local go_sem] size_bs toList_bs extract_bs get_bs append_bs lit_append append_lit

theorem numE_one (q : Bs) : numE [q] = if checkI q ≠ 0 then 1 else if 40 < digs q then 4 else 0 := by
  unfold numE numE1 numE4
  by_cases h : checkI q = 0
  · by_cases h' : 40 < digs q <;> simp [h, h']
  · simp [h]
theorem numE_two (q a : Bs) : numE [q, a] = if checkI q ≠ 0 ∨ checkI a ≠ 0 then 1 else if 40 < digs q ∨ 40 < digs a then 4 else 0 := by
  unfold numE numE1 numE4
  by_cases h : checkI q = 0 <;> by_cases k : checkI a = 0 <;> by_cases h' : 40 < digs q <;> by_cases k' : 40 < digs a <;> simp [h, k, h', k']

set_option maxRecDepth 100000 in
set_option maxHeartbeats 8000000 in
theorem refCheckS (s : St) (A B : Option Addr) (c d : Nat) (w : World) (hA : RdH w A s.hs) (hB : RdM w B s.ms) (hsm : SmallS s) :
    Calls Tryz.prog 32 #[.agg #[.int .i64 s.day, .slice A s.hs.length c, .slice B s.ms.length d]] w fun e w' => e = .returned (.int .i64 (checkS s)) ∧ Ext w w' := by
  obtain ⟨day, hs, ms⟩ := s
  obtain ⟨hn, mn, hh, hm⟩ := hsm
  dsimp only at *
  have HA := Lib.hid hA
  have HB := Lib.hid hB
  have HH := Lib.hid hh
  have HM := Lib.hid hm
  clear hA hB hh hm
  go_enter Tryz.func32, Tryz.ntmps32
  go_wp2_with fail
  refine (refCheckD _ _).mono ?_
  rintro e w1 ⟨rfl, rfl⟩
  cases hd : okDay day with
  | false =>
    have HD := Lib.hid hd
    have hde : dateErr day = 13 := by unfold dateErr; rw [hd]; rfl
    rw [hde]
    clear hd hde
    go_wp2_with fail
    go_ret
    exact ⟨by unfold checkS; rw [if_pos HD.out]; rfl, Ext.new _ _⟩
  | true =>
    have HD := Lib.hid hd
    have hde : dateErr day = 0 := by unfold dateErr; rw [hd]; rfl
    rw [hde]
    clear hd hde
    by_cases h64 : 64 < hs.length
    · have hb : decide ((64 : Int) < hs.length) = true := by simp; omega
      have HE : Hid (checkS ⟨day, hs, ms⟩ = 4) := Lib.hid (by
        have : checkH hs = 4 := by unfold checkH; rw [if_pos h64]
        unfold checkS; rw [if_neg (by rw [HD.out]; decide), if_pos (by rw [this]; decide), this])
      go_wp2_with fail
      go_ret
      exact ⟨by rw [HE.out]; rfl, Ext.new _ _⟩
    have hb : decide ((64 : Int) < hs.length) = false := by simp; omega
    have HC : Hid (checkH hs = firstErr (chH hs) hs.length) := Lib.hid (by unfold checkH; rw [if_neg h64])
    have HCS : Hid (∀ e : Int, checkH hs = e → e ≠ 0 → checkS ⟨day, hs, ms⟩ = e) := Lib.hid (fun e h1 h2 => by
      unfold checkS; rw [if_neg (by rw [HD.out]; decide), if_pos (by rw [h1]; exact h2), h1])
    have hxb : Ext w (w.alloc (.cells #[.int .i64 day, .slice A hs.length c, .slice B ms.length d] 26)) := Ext.new _ _
    generalize hwb : w.alloc (.cells #[.int .i64 day, .slice A hs.length c, .slice B ms.length d] 26) = wb at *
    have hb0 : wb.cell? ⟨w.heap.size, 0, none⟩ = some (.int .i64 day) := by rw [← hwb]; simp
    have hb1 : wb.cell? ⟨w.heap.size, 1, none⟩ = some (.slice A hs.length c) := by rw [← hwb]; simp
    have hb2 : wb.cell? ⟨w.heap.size, 2, none⟩ = some (.slice B ms.length d) := by rw [← hwb]; simp
    have hbz : w.heap.size < wb.heap.size := by rw [← hwb]; simp
    clear hwb
    go_wp2_with fail
    go_loopw [3] (fun i wr => ∃ k : Nat, k ≤ hs.length ∧ i = .int .i64 k ∧ (∀ j, j < k → chH hs j = 0) ∧ Ext wb wr) (fun i _ => hs.length - (intOf i).toNat)
    case atStart => exact ⟨0, by omega, rfl, fun j hj => absurd hj (by omega), Ext.refl _⟩
    case round =>
      obtain ⟨k, hk, rfl, hz, hx⟩ := hrel
      have HZ := Lib.hid hz
      clear hz
      have hr0 := (hx.cell (p := ⟨w.heap.size, 0, none⟩) hbz).trans hb0
      have hr1 := (hx.cell (p := ⟨w.heap.size, 1, none⟩) hbz).trans hb1
      have hr2 := (hx.cell (p := ⟨w.heap.size, 2, none⟩) hbz).trans hb2
      have hrz := Nat.lt_of_lt_of_le hbz hx.size
      clear hb0 hb1 hb2 hbz
      by_cases hlt : k < hs.length
      · have hR := HA.out.ext (hxb.trans hx)
        obtain ⟨b, o, rfl, hbb, hc1, hc2⟩ := hR.at_ hlt
        have HRR := Lib.hid hR
        obtain ⟨hs1, hs2⟩ := HH.out _ (List.getElem_mem hlt)
        have HAT := Lib.hid (chH_at hs k hlt)
        have HHIT := Lib.hid (firstErr_hit (chH hs) hs.length k hlt HZ.out)
        clear hR
        generalize hh : hs[k]'hlt = h at *
        clear hh
        go_wp2_with fail
        refine (refName _ _ (by omega)).mono ?_
        rintro e w1 ⟨rfl, rfl⟩
        cases hnm : isName h.ins with
        | false =>
          have HN := Lib.hid hnm
          clear hnm
          go_wp2_with fail
          go_ret
          exact ⟨by rw [HCS.out 23 (by rw [HC.out, HHIT.out (by rw [HAT.out, HN.out, if_pos rfl]; decide), HAT.out, HN.out, if_pos rfl]) (by decide)]; rfl, (hxb.trans hx).alloc _⟩
        | true =>
          have HN := Lib.hid hnm
          clear hnm
          have HA1 : Hid (chH hs k = if numE [h.qty] ≠ 0 then numE [h.qty] else if h.qty = [] then 2 else if 0 < k ∧ lt ((hs[k - 1]?.map (·.ins)).getD []) h.ins = false then 8 else 0) := Lib.hid (by rw [HAT.out, HN.out, if_neg (by decide)])
          clear HAT HN
          go_wp2_with fail
          refine (refCheckI _ _ (by omega)).mono ?_
          rintro e w1 ⟨rfl, rfl⟩
          by_cases hci : checkI h.qty = 0
          · rw [hci]
            go_wp2_with fail
            refine (refDigs _ _ (by omega)).mono ?_
            rintro e w1 ⟨rfl, rfl⟩
            by_cases hdg : 40 < digs h.qty
            · have HE : Hid (chH hs k = 4) := Lib.hid (by
                have : numE [h.qty] = 4 := by rw [numE_one, if_neg (fun e => e hci), if_pos hdg]
                rw [HA1.out, if_pos (by rw [this]; decide), this])
              clear hci
              go_wp2_with fail
              go_ret
              exact ⟨by rw [HCS.out 4 (by rw [HC.out, HHIT.out (by rw [HE.out]; decide), HE.out]) (by decide)]; rfl, (hxb.trans hx).alloc _⟩
            have HA2 : Hid (chH hs k = if h.qty = [] then 2 else if 0 < k ∧ lt ((hs[k - 1]?.map (·.ins)).getD []) h.ins = false then 8 else 0) := Lib.hid (by
              have : numE [h.qty] = 0 := by rw [numE_one, if_neg (fun e => e hci), if_neg hdg]
              rw [HA1.out, if_neg (fun e => e this)])
            clear hci HA1
            by_cases hq : h.qty = []
            · have hqb : h.qty.isEmpty = true := by simp [hq]
              have HE : Hid (chH hs k = 2) := Lib.hid (by rw [HA2.out, if_pos hq])
              clear hq
              go_wp2_with fail
              go_ret
              exact ⟨by rw [HCS.out 2 (by rw [HC.out, HHIT.out (by rw [HE.out]; decide), HE.out]) (by decide)]; rfl, (hxb.trans hx).alloc _⟩
            · have hqb : h.qty.isEmpty = false := by simpa using hq
              have HA3 : Hid (chH hs k = if 0 < k ∧ lt ((hs[k - 1]?.map (·.ins)).getD []) h.ins = false then 8 else 0) := Lib.hid (by rw [HA2.out, if_neg hq])
              clear hq HA2
              by_cases hk0 : 0 < k
              · have hkp : k - 1 < hs.length := by omega
                obtain ⟨b', o', e', _, hp1, _⟩ := HRR.out.at_ hkp
                injection e' with e'
                injection e' with e1 e2
                subst e1
                subst e2
                have hprev : (wr.alloc (.cells #[.string (bs h.ins), .string (bs h.qty)] 45)).cell? ⟨b, o + (k - 1) * 2, none⟩ = some (.string (bs (hs[k - 1]'hkp).ins)) := by
                  rw [World.cell?_alloc_lt _ _ _ (by simpa using hbb)]; exact hp1
                have HPV := Lib.hid (getD_prev hs k hkp)
                have hk0b : decide ((0 : Int) < k) = true := by simp; omega
                have hkd : IntKind.i64.wrap ((k : Int) - 1) = (k : Int) - 1 := IntWalk.i64_in _ (by omega)
                have hkt : ((k : Int) - 1).toNat = k - 1 := by omega
                have hk1 : (1 : Int) ≤ k := by omega
                clear hp1
                generalize hpi : (hs[k - 1]'hkp).ins = pv at *
                clear hpi
                cases hl : lt pv h.ins with
                | false =>
                  have HE : Hid (chH hs k = 8) := Lib.hid (by rw [HA3.out, HPV.out, hl, if_pos ⟨hk0, rfl⟩])
                  have hlb : Op.bytesLess pv h.ins = false := hl
                  clear hl
                  go_wp2_with fail
                  go_quiet (fail)
                  go_wp2_with fail
                  go_ret
                  exact ⟨by rw [HCS.out 8 (by rw [HC.out, HHIT.out (by rw [HE.out]; decide), HE.out]) (by decide)]; rfl, ((hxb.trans hx).alloc _).drewN _⟩
                | true =>
                  have HE : Hid (chH hs k = 0) := Lib.hid (by rw [HA3.out, HPV.out, hl, if_neg (fun e => by cases e.2)])
                  have hlb : Op.bytesLess pv h.ins = true := hl
                  clear hl
                  go_wp2_with fail
                  go_quiet (fail)
                  go_wp2_with fail
                  go_roundw
                  case rel =>
                    refine ⟨k + 1, by omega, by go_num, fun j hj => ?_, (hx.alloc _).drewN _⟩
                    rcases Nat.lt_or_ge j k with h' | h'
                    · exact HZ.out j h'
                    · obtain rfl : j = k := by omega
                      exact HE.out
                  case measure => simp [intOf]; omega
              · have hk0b : decide ((0 : Int) < k) = false := by simp; omega
                have HE : Hid (chH hs k = 0) := Lib.hid (by rw [HA3.out, if_neg (fun e => hk0 e.1)])
                go_wp2_with fail
                go_quiet (fail)
                go_wp2_with fail
                go_roundw
                case rel =>
                  refine ⟨k + 1, by omega, by go_num, fun j hj => ?_, (hx.alloc _).drewN _⟩
                  rcases Nat.lt_or_ge j k with h' | h'
                  · exact HZ.out j h'
                  · obtain rfl : j = k := by omega
                    exact HE.out
                case measure => simp [intOf]; omega
          · have hcb : (checkI h.qty != 0) = true := by simpa using hci
            have HE : Hid (chH hs k = 1) := Lib.hid (by
              have : numE [h.qty] = 1 := by rw [numE_one, if_pos hci]
              rw [HA1.out, if_pos (by rw [this]; decide), this])
            clear hci
            go_wp2_with fail
            go_ret
            exact ⟨by rw [HCS.out 1 (by rw [HC.out, HHIT.out (by rw [HE.out]; decide), HE.out]) (by decide)]; rfl, (hxb.trans hx).alloc _⟩
      · have HCM : Hid (checkS ⟨day, hs, ms⟩ = checkM day ms) := Lib.hid (by
          have : checkH hs = 0 := by rw [HC.out, firstErr_none _ _ (fun j hj => HZ.out j (by omega))]
          unfold checkS; rw [if_neg (by rw [HD.out]; decide), if_neg (fun e => e this)])
        clear HC HCS HZ HD
        by_cases h1000 : 1000 < ms.length
        · have hb : decide ((1000 : Int) < ms.length) = true := by simp; omega
          go_wp2_with fail
          go_ret
          exact ⟨by rw [HCM.out]; unfold checkM; rw [if_pos h1000]; rfl, hxb.trans hx⟩
        have hb : decide ((1000 : Int) < ms.length) = false := by simp; omega
        have HC : Hid (checkS ⟨day, hs, ms⟩ = firstErr (chM day ms) ms.length) := Lib.hid (by rw [HCM.out]; unfold checkM; rw [if_neg h1000])
        obtain ⟨wc, rfl⟩ : ∃ wc : World, wc = wr := ⟨_, rfl⟩
        have hxc := hxb.trans hx
        clear HCM hxb hx HA HH
        go_wp2_with fail
        clear hlt hk
        go_loopw [5] (fun i wr => ∃ k : Nat, k ≤ ms.length ∧ i = .int .i64 k ∧ (∀ j, j < k → chM day ms j = 0) ∧ Ext wc wr) (fun i _ => ms.length - (intOf i).toNat)
        case atStart => exact ⟨0, by omega, rfl, fun j hj => absurd hj (by omega), Ext.refl _⟩
        case round =>
          obtain ⟨k, hk, rfl, hz, hx⟩ := hrel
          have HZ := Lib.hid hz
          clear hz
          have hq0 := (hx.cell (p := ⟨w.heap.size, 0, none⟩) hrz).trans hr0
          have hq2 := (hx.cell (p := ⟨w.heap.size, 2, none⟩) hrz).trans hr2
          have hqz := Nat.lt_of_lt_of_le hrz hx.size
          clear hr0 hr1 hr2 hrz
          by_cases hlt : k < ms.length
          · have hR := HB.out.ext (hxc.trans hx)
            obtain ⟨b, o, rfl, hbb, hc1, hc2, hc3, hc4, hc5⟩ := hR.at_ hlt
            have HRR := Lib.hid hR
            obtain ⟨hs1, hs2, hs3, hs4⟩ := HM.out _ (List.getElem_mem hlt)
            have HAT := Lib.hid (chM_at day ms k hlt)
            have HHIT := Lib.hid (firstErr_hit (chM day ms) ms.length k hlt HZ.out)
            have HFIN : Hid (∀ e : Int, chM day ms k = e → e ≠ 0 → checkS ⟨day, hs, ms⟩ = e) := Lib.hid (fun e h1 h2 => by rw [HC.out, HHIT.out (by rw [h1]; exact h2), h1])
            have hxx := (hxc.trans hx).alloc (.cells #[.string (bs (ms[k]'hlt).ref), .int .i64 (ms[k]'hlt).day, .string (bs (ms[k]'hlt).ins), .string (bs (ms[k]'hlt).qty), .string (bs (ms[k]'hlt).amt)] 50)
            clear hR HHIT
            generalize hh : ms[k]'hlt = m at *
            clear hh
            go_wp2_with fail
            refine (refName _ _ (by omega)).mono ?_
            rintro e w1 ⟨rfl, rfl⟩
            cases hnm : isName m.ref with
            | false =>
              have HN := Lib.hid hnm
              clear hnm
              go_wp2_with fail
              go_ret
              exact ⟨by rw [HFIN.out 23 (by rw [HAT.out, HN.out, if_pos rfl]) (by decide)]; rfl, hxx⟩
            | true =>
              have HN := Lib.hid hnm
              clear hnm
              have HA1 : Hid (chM day ms k = if okDay m.day = false ∨ day < m.day then 13 else if isName m.ins = false then 23 else if numE [m.qty, m.amt] ≠ 0 then numE [m.qty, m.amt] else if m.qty = [] then 2 else if 0 < k ∧ m.day < (ms[k - 1]?.map (·.day)).getD 0 then 8 else 0) := Lib.hid (by rw [HAT.out, HN.out, if_neg (by decide)])
              clear HAT HN
              go_wp2_with fail
              refine (refCheckD _ _).mono ?_
              rintro e w1 ⟨rfl, rfl⟩
              by_cases hdy : okDay m.day = false ∨ day < m.day
              · have HE : Hid (chM day ms k = 13) := Lib.hid (by rw [HA1.out, if_pos hdy])
                cases hok : okDay m.day with
                | false =>
                  have hde : dateErr m.day = 13 := by unfold dateErr; rw [hok]; rfl
                  rw [hde]
                  clear hdy hok hde
                  go_wp2_with fail
                  go_ret
                  exact ⟨by rw [HFIN.out 13 HE.out (by decide)]; rfl, hxx⟩
                | true =>
                  have hde : dateErr m.day = 0 := by unfold dateErr; rw [hok]; rfl
                  have hdd : day < m.day := by rcases hdy with h | h; rw [hok] at h; cases h; exact h
                  rw [hde]
                  clear hdy hok hde
                  go_wp2_with fail
                  go_ret
                  exact ⟨by rw [HFIN.out 13 HE.out (by decide)]; rfl, hxx⟩
              have HA2 : Hid (chM day ms k = if isName m.ins = false then 23 else if numE [m.qty, m.amt] ≠ 0 then numE [m.qty, m.amt] else if m.qty = [] then 2 else if 0 < k ∧ m.day < (ms[k - 1]?.map (·.day)).getD 0 then 8 else 0) := Lib.hid (by rw [HA1.out, if_neg hdy])
              have hok : okDay m.day = true := by cases h : okDay m.day with | true => rfl | false => exact absurd (.inl h) hdy
              have hde : dateErr m.day = 0 := by unfold dateErr; rw [hok]; rfl
              have hdd : ¬ day < m.day := fun h => hdy (.inr h)
              rw [hde]
              clear hdy hok hde HA1
              go_wp2_with fail
              refine (refName _ _ (by omega)).mono ?_
              rintro e w1 ⟨rfl, rfl⟩
              cases hnm : isName m.ins with
              | false =>
                have HN := Lib.hid hnm
                clear hnm
                go_wp2_with fail
                go_ret
                exact ⟨by rw [HFIN.out 23 (by rw [HA2.out, HN.out, if_pos rfl]) (by decide)]; rfl, hxx⟩
              | true =>
                have HN := Lib.hid hnm
                clear hnm
                have HA3 : Hid (chM day ms k = if numE [m.qty, m.amt] ≠ 0 then numE [m.qty, m.amt] else if m.qty = [] then 2 else if 0 < k ∧ m.day < (ms[k - 1]?.map (·.day)).getD 0 then 8 else 0) := Lib.hid (by rw [HA2.out, HN.out, if_neg (by decide)])
                clear HA2 HN
                go_wp2_with fail
                refine (refCheckI _ _ (by omega)).mono ?_
                rintro e w1 ⟨rfl, rfl⟩
                by_cases hq : checkI m.qty = 0
                · by_cases ha : checkI m.amt = 0
                  · rw [hq]
                    go_wp2_with fail
                    refine (refCheckI _ _ (by omega)).mono ?_
                    rintro e w1 ⟨rfl, rfl⟩
                    rw [ha]
                    go_wp2_with fail
                    refine (refDigs _ _ (by omega)).mono ?_
                    rintro e w1 ⟨rfl, rfl⟩
                    by_cases hdq : 40 < digs m.qty
                    · have HE : Hid (chM day ms k = 4) := Lib.hid (by
                        have : numE [m.qty, m.amt] = 4 := by rw [numE_two, if_neg (fun e => e.elim (fun e => e hq) (fun e => e ha)), if_pos (.inl hdq)]
                        rw [HA3.out, if_pos (by rw [this]; decide), this])
                      clear hq ha
                      go_wp2_with fail
                      go_ret
                      exact ⟨by rw [HFIN.out 4 HE.out (by decide)]; rfl, hxx⟩
                    · go_wp2_with fail
                      refine (refDigs _ _ (by omega)).mono ?_
                      rintro e w1 ⟨rfl, rfl⟩
                      by_cases hda : 40 < digs m.amt
                      · have HE : Hid (chM day ms k = 4) := Lib.hid (by
                          have : numE [m.qty, m.amt] = 4 := by rw [numE_two, if_neg (fun e => e.elim (fun e => e hq) (fun e => e ha)), if_pos (.inr hda)]
                          rw [HA3.out, if_pos (by rw [this]; decide), this])
                        clear hq ha
                        go_wp2_with fail
                        go_ret
                        exact ⟨by rw [HFIN.out 4 HE.out (by decide)]; rfl, hxx⟩
                      · have HA4 : Hid (chM day ms k = if m.qty = [] then 2 else if 0 < k ∧ m.day < (ms[k - 1]?.map (·.day)).getD 0 then 8 else 0) := Lib.hid (by
                          have : numE [m.qty, m.amt] = 0 := by rw [numE_two, if_neg (fun e => e.elim (fun e => e hq) (fun e => e ha)), if_neg (fun e => e.elim (fun h => by omega) (fun h => by omega))]
                          rw [HA3.out, if_neg (fun e => e this)])
                        clear hq ha HA3
                        by_cases hqe : m.qty = []
                        · have hqb : m.qty.isEmpty = true := by simp [hqe]
                          have HE : Hid (chM day ms k = 2) := Lib.hid (by rw [HA4.out, if_pos hqe])
                          clear hqe
                          go_wp2_with fail
                          go_ret
                          exact ⟨by rw [HFIN.out 2 HE.out (by decide)]; rfl, hxx⟩
                        have hqb : m.qty.isEmpty = false := by simpa using hqe
                        have HA5 : Hid (chM day ms k = if 0 < k ∧ m.day < (ms[k - 1]?.map (·.day)).getD 0 then 8 else 0) := Lib.hid (by rw [HA4.out, if_neg hqe])
                        clear hqe HA4
                        by_cases hk0 : 0 < k
                        · have hkp : k - 1 < ms.length := by omega
                          obtain ⟨b', o', e', _, _, hp1, _⟩ := HRR.out.at_ hkp
                          injection e' with e'
                          injection e' with e1 e2
                          subst e1
                          subst e2
                          have hprev : (wr.alloc (.cells #[.string (bs m.ref), .int .i64 m.day, .string (bs m.ins), .string (bs m.qty), .string (bs m.amt)] 50)).cell? ⟨b, o + (k - 1) * 5 + 1, none⟩ = some (.int .i64 (ms[k - 1]'hkp).day) := by
                            rw [World.cell?_alloc_lt _ _ _ (by simpa using hbb)]; exact hp1
                          have HPV := Lib.hid (getD_prevM ms k hkp)
                          have hk0b : decide ((0 : Int) < k) = true := by simp; omega
                          have hkd : IntKind.i64.wrap ((k : Int) - 1) = (k : Int) - 1 := IntWalk.i64_in _ (by omega)
                          have hkt : ((k : Int) - 1).toNat = k - 1 := by omega
                          have hk1 : (1 : Int) ≤ k := by omega
                          clear hp1
                          generalize hpi : (ms[k - 1]'hkp).day = pv at *
                          clear hpi
                          by_cases hl : m.day < pv
                          · have HE : Hid (chM day ms k = 8) := Lib.hid (by rw [HA5.out, HPV.out, if_pos ⟨hk0, hl⟩])
                            go_wp2_with fail
                            go_quiet (fail)
                            go_wp2_with fail
                            go_ret
                            exact ⟨by rw [HFIN.out 8 HE.out (by decide)]; rfl, hxx.drewN _⟩
                          · have HE : Hid (chM day ms k = 0) := Lib.hid (by rw [HA5.out, HPV.out, if_neg (fun e => hl e.2)])
                            go_wp2_with fail
                            go_quiet (fail)
                            go_wp2_with fail
                            go_roundw
                            case rel =>
                              refine ⟨k + 1, by omega, by go_num, fun j hj => ?_, (hx.alloc _).drewN _⟩
                              rcases Nat.lt_or_ge j k with h' | h'
                              · exact HZ.out j h'
                              · obtain rfl : j = k := by omega
                                exact HE.out
                            case measure => simp [intOf]; omega
                        · have hk0b : decide ((0 : Int) < k) = false := by simp; omega
                          have HE : Hid (chM day ms k = 0) := Lib.hid (by rw [HA5.out, if_neg (fun e => hk0 e.1)])
                          go_wp2_with fail
                          go_quiet (fail)
                          go_wp2_with fail
                          go_roundw
                          case rel =>
                            refine ⟨k + 1, by omega, by go_num, fun j hj => ?_, (hx.alloc _).drewN _⟩
                            rcases Nat.lt_or_ge j k with h' | h'
                            · exact HZ.out j h'
                            · obtain rfl : j = k := by omega
                              exact HE.out
                          case measure => simp [intOf]; omega
                  · have HE : Hid (chM day ms k = 1) := Lib.hid (by
                      have : numE [m.qty, m.amt] = 1 := by rw [numE_two, if_pos (.inr ha)]
                      rw [HA3.out, if_pos (by rw [this]; decide), this])
                    have hab : (checkI m.amt != 0) = true := by simpa using ha
                    rw [hq]
                    clear hq ha
                    go_wp2_with fail
                    refine (refCheckI _ _ (by omega)).mono ?_
                    rintro e w1 ⟨rfl, rfl⟩
                    go_wp2_with fail
                    go_ret
                    exact ⟨by rw [HFIN.out 1 HE.out (by decide)]; rfl, hxx⟩
                · have HE : Hid (chM day ms k = 1) := Lib.hid (by
                    have : numE [m.qty, m.amt] = 1 := by rw [numE_two, if_pos (.inl hq)]
                    rw [HA3.out, if_pos (by rw [this]; decide), this])
                  have hqb : (checkI m.qty != 0) = true := by simpa using hq
                  clear hq
                  go_wp2_with fail
                  go_ret
                  exact ⟨by rw [HFIN.out 1 HE.out (by decide)]; rfl, hxx⟩
          · go_wp2_with fail
            go_ret
            exact ⟨by rw [HC.out, firstErr_none _ _ (fun j hj => HZ.out j (by omega))]; rfl, hxc.trans hx⟩
end Go.Proofs.YteeampgbmpolfaaGreatDoor

/- Plain: the text of a statement. No program in sight. -/
namespace Go.Proofs.YteeampgbmpolfaaGreatDoor
open Go.RowKit
def wStatement : Bs := [115, 116, 97, 116, 101, 109, 101, 110, 116]
def wHolding : Bs := [104, 111, 108, 100, 105, 110, 103]
def wMovement : Bs := [109, 111, 118, 101, 109, 101, 110, 116]
def joinSp (ls : List Bs) : Bs := Lib.join ls [32]
theorem joinSp_2 (a b : Bs) : joinSp [a, b] = a ++ 32 :: b := by simp [joinSp, Lib.join, List.intercalate]
theorem joinSp_3 (a b c : Bs) : joinSp [a, b, c] = a ++ 32 :: (b ++ 32 :: c) := by simp [joinSp, Lib.join, List.intercalate]
theorem joinSp_6 (a b c d e f : Bs) : joinSp [a, b, c, d, e, f] = a ++ 32 :: (b ++ 32 :: (c ++ 32 :: (d ++ 32 :: (e ++ 32 :: f)))) := by simp [joinSp, Lib.join, List.intercalate]
def lineS (d : Int) : Bs := joinSp [wStatement, dateText d] ++ [10]
def lineH (h : Hd) : Bs := joinSp [wHolding, h.ins, printI h.qty] ++ [10]
def lineM (m : Mv) : Bs := joinSp [wMovement, m.ref, dateText m.day, m.ins, printI m.qty, printI m.amt] ++ [10]
def textH (s : St) (k : Nat) : Bs := lineS s.day ++ (s.hs.take k).flatMap lineH
def textM (s : St) (k : Nat) : Bs := lineS s.day ++ s.hs.flatMap lineH ++ (s.ms.take k).flatMap lineM
def textS (s : St) : Bs := lineS s.day ++ s.hs.flatMap lineH ++ s.ms.flatMap lineM
def printSV (s : St) : Bs := if checkS s ≠ 0 then [] else if 65536 < (textS s).length then [] else textS s
def printSE (s : St) : Int := if checkS s ≠ 0 then checkS s else if 65536 < (textS s).length then 4 else 0
theorem printS_big {s : St} (h : checkS s = 0) (hb : 65536 < (textS s).length) : printSV s = [] ∧ printSE s = 4 := by
  simp [printSV, printSE, h, hb]
theorem printS_small {s : St} (h : checkS s = 0) (hb : ¬ 65536 < (textS s).length) : printSV s = textS s ∧ printSE s = 0 := by
  simp only [printSV, printSE, h, hb]; simp
theorem printS_bad {s : St} (h : checkS s ≠ 0) : printSV s = [] ∧ printSE s = checkS s := by
  simp [printSV, printSE, h]
theorem dateText_len (d : Int) : (dateText d).length ≤ 10 := by unfold dateText; split <;> simp [four, two]
theorem printI_len (l : Bs) : (printI l).length ≤ l.length + 1 := by
  unfold printI; have := canon_le l; split <;> simp <;> omega
theorem lineS_len (d : Int) : (lineS d).length ≤ 1000 := by
  have := dateText_len d; unfold lineS; rw [joinSp_2]; simp [wStatement]; omega
theorem textH_succ (s : St) (k : Nat) (h : k < s.hs.length) : textH s (k + 1) = textH s k ++ lineH (s.hs[k]'h) := by
  unfold textH; rw [List.take_succ_eq_append_getElem h, List.flatMap_append, ← List.append_assoc]; simp
theorem textM_succ (s : St) (k : Nat) (h : k < s.ms.length) : textM s (k + 1) = textM s k ++ lineM (s.ms[k]'h) := by
  unfold textM; rw [List.take_succ_eq_append_getElem h, List.flatMap_append, ← List.append_assoc]; simp
theorem textH_0 (s : St) : textH s 0 = lineS s.day := by simp [textH]
theorem textH_end (s : St) (k : Nat) (h : s.hs.length ≤ k) : textH s k = textM s 0 := by
  unfold textH textM; rw [List.take_of_length_le h]; simp
theorem textM_end (s : St) (k : Nat) (h : s.ms.length ≤ k) : textM s k = textS s := by
  unfold textM textS; rw [List.take_of_length_le h]
/-- what a check that passes says of one holding -/
theorem chH_ok {hs : List Hd} {k : Nat} (hk : k < hs.length) (h : chH hs k = 0) :
    isName (hs[k]'hk).ins = true ∧ numE [(hs[k]'hk).qty] = 0 ∧ (hs[k]'hk).qty ≠ [] ∧ (0 < k → lt ((hs[k - 1]?.map (·.ins)).getD []) (hs[k]'hk).ins = true) := by
  unfold chH at h; rw [List.getElem?_eq_getElem hk] at h
  simp only at h
  by_cases h1 : isName (hs[k]'hk).ins = false
  · rw [if_pos h1] at h; cases h
  rw [if_neg h1] at h
  by_cases h2 : numE [(hs[k]'hk).qty] ≠ 0
  · rw [if_pos h2] at h; exact absurd h h2
  rw [if_neg h2] at h
  by_cases h3 : (hs[k]'hk).qty = []
  · rw [if_pos h3] at h; cases h
  rw [if_neg h3] at h
  refine ⟨by simpa using h1, by simpa using h2, h3, fun h0 => ?_⟩
  by_cases h4 : lt ((hs[k - 1]?.map (·.ins)).getD []) (hs[k]'hk).ins = false
  · rw [if_pos ⟨h0, h4⟩] at h; cases h
  · simpa using h4
theorem chM_ok {day : Int} {ms : List Mv} {k : Nat} (hk : k < ms.length) (h : chM day ms k = 0) :
    isName (ms[k]'hk).ref = true ∧ okDay (ms[k]'hk).day = true ∧ (ms[k]'hk).day ≤ day ∧ isName (ms[k]'hk).ins = true ∧ numE [(ms[k]'hk).qty, (ms[k]'hk).amt] = 0 ∧ (ms[k]'hk).qty ≠ [] ∧ (0 < k → (ms[k - 1]?.map (·.day)).getD 0 ≤ (ms[k]'hk).day) := by
  unfold chM at h; rw [List.getElem?_eq_getElem hk] at h
  simp only at h
  by_cases h1 : isName (ms[k]'hk).ref = false
  · rw [if_pos h1] at h; cases h
  rw [if_neg h1] at h
  by_cases h2 : okDay (ms[k]'hk).day = false ∨ day < (ms[k]'hk).day
  · rw [if_pos h2] at h; cases h
  rw [if_neg h2] at h
  by_cases h3 : isName (ms[k]'hk).ins = false
  · rw [if_pos h3] at h; cases h
  rw [if_neg h3] at h
  by_cases h4 : numE [(ms[k]'hk).qty, (ms[k]'hk).amt] ≠ 0
  · rw [if_pos h4] at h; exact absurd h h4
  rw [if_neg h4] at h
  by_cases h5 : (ms[k]'hk).qty = []
  · rw [if_pos h5] at h; cases h
  rw [if_neg h5] at h
  refine ⟨by simpa using h1, ?_, ?_, by simpa using h3, by simpa using h4, h5, fun h0 => ?_⟩
  · cases hh : okDay (ms[k]'hk).day with
    | true => rfl
    | false => exact absurd (.inl hh) h2
  · rcases Int.lt_or_le day (ms[k]'hk).day with hh | hh
    · exact absurd (.inr hh) h2
    · exact hh
  · by_cases h6 : (ms[k]'hk).day < (ms[k - 1]?.map (·.day)).getD 0
    · rw [if_pos ⟨h0, h6⟩] at h; cases h
    · omega
theorem checkS_ok {s : St} (h : checkS s = 0) : okDay s.day = true ∧ s.hs.length ≤ 64 ∧ s.ms.length ≤ 1000 ∧ (∀ k, k < s.hs.length → chH s.hs k = 0) ∧ (∀ k, k < s.ms.length → chM s.day s.ms k = 0) := by
  unfold checkS at h
  by_cases h1 : okDay s.day = false
  · rw [if_pos h1] at h; cases h
  rw [if_neg h1] at h
  by_cases h2 : checkH s.hs = 0
  · rw [if_neg (fun e => e h2)] at h
    unfold checkH at h2; unfold checkM at h
    by_cases h3 : 64 < s.hs.length
    · rw [if_pos h3] at h2; cases h2
    rw [if_neg h3] at h2
    by_cases h4 : 1000 < s.ms.length
    · rw [if_pos h4] at h; cases h
    rw [if_neg h4] at h
    exact ⟨by simpa using h1, by omega, by omega, (firstErr_zero _ _).1 h2, (firstErr_zero _ _).1 h⟩
  · rw [if_pos h2] at h; exact absurd h h2
theorem numE_zero {ls : List Bs} (h : numE ls = 0) {l : Bs} (hl : l ∈ ls) : canon l = l ∧ digs l ≤ 40 := by
  unfold numE at h
  by_cases h1 : numE1 ls = true
  · rw [if_pos h1] at h; cases h
  rw [if_neg h1] at h
  by_cases h4 : numE4 ls = true
  · rw [if_pos h4] at h; cases h
  refine ⟨?_, ?_⟩
  · by_cases hc : canon l = l
    · exact hc
    · exfalso; apply h1; unfold numE1; rw [List.any_eq_true]; exact ⟨l, hl, by simp [checkI, hc]⟩
  · rcases Int.lt_or_le 40 (digs l) with hh | hh
    · exfalso; apply h4; unfold numE4; rw [List.any_eq_true]; exact ⟨l, hl, by simpa using hh⟩
    · exact hh
theorem printI_of {l : Bs} (h : canon l = l) (h0 : l ≠ []) : printI l = l := by unfold printI; rw [h, if_neg h0]
theorem digs_len (l : Bs) : (l.length : Int) ≤ digs l + 1 := by
  unfold digs strip; split
  · cases l <;> simp
  · omega
theorem isName_len {l : Bs} (h : isName l = true) : 1 ≤ l.length ∧ l.length ≤ 16 := by
  unfold isName at h; simp only [Bool.and_eq_true, decide_eq_true_eq] at h; exact ⟨h.1.1, h.1.2⟩
theorem lineH_len {h : Hd} (hn : isName h.ins = true) (hq : numE [h.qty] = 0) : (lineH h).length ≤ 100 := by
  have h1 := isName_len hn
  have h2 := (numE_zero hq (l := h.qty) (by simp)).2
  have h3 := digs_len h.qty
  have h4 := printI_len h.qty
  unfold lineH; rw [joinSp_3]; simp [wHolding]; omega
theorem lineM_len {m : Mv} (hr : isName m.ref = true) (hn : isName m.ins = true) (hq : numE [m.qty, m.amt] = 0) : (lineM m).length ≤ 200 := by
  have h1 := isName_len hn
  have h1' := isName_len hr
  have h2 := (numE_zero hq (l := m.qty) (by simp)).2
  have h3 := digs_len m.qty
  have h4 := printI_len m.qty
  have k2 := (numE_zero hq (l := m.amt) (by simp)).2
  have k3 := digs_len m.amt
  have k4 := printI_len m.amt
  have h5 := dateText_len m.day
  unfold lineM; rw [joinSp_6]; simp [wMovement]; omega
theorem flat_le {α : Type} (f : α → Bs) (n : Nat) : ∀ (l : List α), (∀ a ∈ l, (f a).length ≤ n) → (l.flatMap f).length ≤ l.length * n := by
  intro l; induction l with
  | nil => simp
  | cons a r ih =>
    intro h; rw [List.flatMap_cons, List.length_append, List.length_cons, Nat.succ_mul]
    have := h a (by simp); have := ih (fun b hb => h b (by simp [hb])); omega
theorem textH_len {s : St} (hc : checkS s = 0) (k : Nat) : (textH s k).length ≤ 10000 := by
  obtain ⟨_, h64, _, hh, _⟩ := checkS_ok hc
  have h1 := lineS_len s.day
  have h2 := flat_le lineH 100 (s.hs.take k) (fun a ha => by
    obtain ⟨j, hj, rfl⟩ := List.mem_iff_getElem.1 (List.mem_of_mem_take ha)
    obtain ⟨a, b, _, _⟩ := chH_ok hj (hh j hj)
    exact lineH_len a b)
  have h3 : (s.hs.take k).length ≤ 64 := by rw [List.length_take]; omega
  have h4 : (s.hs.take k).length * 100 ≤ 64 * 100 := Nat.mul_le_mul_right _ h3
  unfold textH; rw [List.length_append]; omega
theorem textM_len {s : St} (hc : checkS s = 0) (k : Nat) : (textM s k).length ≤ 300000 := by
  obtain ⟨_, h64, h1000, hh, hm⟩ := checkS_ok hc
  have h0 := textH_len hc s.hs.length
  rw [textH_end s _ (Nat.le_refl _)] at h0
  have e : textM s k = textM s 0 ++ (s.ms.take k).flatMap lineM := by simp [textM]
  have h2 := flat_le lineM 200 (s.ms.take k) (fun a ha => by
    obtain ⟨j, hj, rfl⟩ := List.mem_iff_getElem.1 (List.mem_of_mem_take ha)
    obtain ⟨a, _, _, b, c, _, _⟩ := chM_ok hj (hm j hj)
    exact lineM_len a b c)
  have h3 : (s.ms.take k).length ≤ 1000 := by rw [List.length_take]; omega
  have h4 : (s.ms.take k).length * 200 ≤ 1000 * 200 := Nat.mul_le_mul_right _ h3
  rw [e, List.length_append]; omega
end Go.Proofs.YteeampgbmpolfaaGreatDoor

/- The walk over the closure of the program's statement.Print: a line into the Builder. -/
namespace Go.Proofs.YteeampgbmpolfaaGreatDoor
open Go.RowKit Go.Shelf
attribute [local go_sem] size_bs toList_bs extract_bs get_bs append_bs lit_append append_lit

/-- the Builder in block b holds l -/
def Bld (B b : Nat) (l : Bs) (w : World) : Prop := Lib.IsBuilderF 69 5 B b (Lib.byteCells l) w
theorem Bld.ext {B b : Nat} {l : Bs} {w w' : World} (h : Bld B b l w) (hx : Ext w w') : Bld B b l w' := by
  have key : ∀ p, Lib.BuilderAtF 69 5 B b p (Lib.byteCells l) w → Lib.BuilderAtF 69 5 B b p (Lib.byteCells l) w' := by
    rintro p ⟨hB, v, hb, hown, hne⟩
    have hlt : b < w.heap.size := by
      rcases Nat.lt_or_ge b w.heap.size with h | h
      · exact h
      · rw [Array.getElem?_eq_none h] at hb; cases hb
    exact ⟨hB, v, (hx.block b hlt).trans hb, hown.kept (row := none) ⟨hx.os, hx.tape, hx.output, hx.size, fun i hi _ => hx.block i hi⟩ (by cases v.ownBlock <;> simp), hne⟩
  rcases h with h | h
  · exact .inl (key _ h)
  · exact .inr (key _ h)
theorem Bld.new (w : World) : Bld w.heap.size w.heap.size [] (w.alloc (.cells #[.pointer none, .slice none 0 0] 69)) :=
  .inl ⟨Nat.le_refl _, .slice none 0 0, heap_alloc_new w _, World.ownsRowF_nil _ _ _ _, by simp [Value.ownBlock]⟩
theorem Bld.lt {B b : Nat} {l : Bs} {w : World} (h : Bld B b l w) : b < w.heap.size := by
  rcases h with h | h <;> exact h.lt
theorem Bld.draws {B b : Nat} {l : Bs} {w : World} (h : Bld B b l w) (n : Nat) : Bld B b l (w.drewN n) := h.ext ((Ext.refl w).drewN n)

theorem others_ext {e : TypeId} {b : Option Nat} {w w' : World} (h : Ext w w') : Lib.OthersKept e b w w' := fun k o hk _ _ => by
  have hlt : k < w.heap.size := by
    rcases Nat.lt_or_ge k w.heap.size with h | h
    · exact h
    · rw [Array.getElem?_eq_none h] at hk; cases hk
  exact (h.block k hlt).trans hk
theorem Blk.others {e : TypeId} {b g : Nat} {t : TypeId} {cs : Array Value} {w w' : World} (h : Blk w g t cs) (hk : Lib.OthersKept e (some b) w w') (hg : g ≠ b) (ht : t ≠ e) : Blk w' g t cs :=
  hk g _ h (fun x => hg (by injection x)) (fun c fz x => by injection x with _ h2; exact ht h2)
theorem join_any (ls : List Bs) (A : Option Addr) (c : Nat) (w : World) (hr : RdS w A ls) (h0 : 0 < ls.length) (hc : ls.length ≤ c) (hn : ls.length ≤ 1000) (hl : (joinSp ls).length ≤ 1000000000) :
    Calls Tryz.prog 19 #[.slice A ls.length c, .string ⟨#[32]⟩] w fun e w' => e = .returned (.string (bs (joinSp ls))) ∧ Ext w w' := by
  obtain ⟨b, o, rfl, hb⟩ := Reads.at_ hr h0
  have hm : (ls.map bs).map (fun x => x.data.toList) = ls := by
    rw [List.map_map]; conv => rhs; rw [← List.map_id ls]
    apply List.map_congr_left; intro a _; exact data_bs a
  have hlen : (ls.map bs).length = ls.length := by simp
  have hJ := Tryz.strings_Join b o c (ls.map bs) ⟨#[32]⟩ w (fun j x hx => Reads.cell hr (by
      simp only [List.getElem?_map, Option.map_eq_some_iff] at hx
      obtain ⟨a, ha, rfl⟩ := hx
      simp [scells, ha])) hb (by rw [hlen]; omega) (by rw [hlen]; exact hc) (by rw [hm]; show (joinSp ls).length ≤ _; omega)
  rw [hm, hlen] at hJ
  refine hJ.mono ?_
  rintro e w' ⟨rfl, hbl⟩
  exact ⟨rfl, hbl⟩

set_option maxHeartbeats 400000 in
theorem stLine (ls : List Bs) (A : Option Addr) (c B b : Nat) (cur : Bs) (w : World) (hr : RdS w A ls) (h0 : 0 < ls.length) (hc : ls.length ≤ c) (hn : ls.length ≤ 1000) (hl : (joinSp ls).length ≤ 1000000) (hcl : cur.length ≤ 1000000000)
    (hB : Bld B b cur w) (hBw : B ≤ w.heap.size) :
    Calls Tryz.prog 40 #[.slice A ls.length c, .pointer (some ⟨b, 0, none⟩)] w fun e w' => e = .returned (.tuple #[]) ∧ Bld B b (cur ++ (joinSp ls ++ [10])) w' ∧ Below B w w' ∧ Lib.OthersKept 5 (some b) w w' := by
  have HR := Lib.hid hr
  have HB := Lib.hid hB
  clear hr hB
  go_enter Tryz.func40, Tryz.ntmps40
  go_wp2_with fail
  refine (join_any ls A c _ HR.out h0 hc hn (by omega)).mono ?_
  rintro e w1 ⟨rfl, hx1⟩
  generalize hj : joinSp ls = j at *
  have HJ := Lib.hid hj
  clear hj
  go_wp2_with fail
  have hW := Tryz.Builder_WriteString_k B b (Lib.byteCells cur) (bs (j ++ [10])) w1 (HB.out.ext hx1) (by rw [Lib.byteCells_length, size_bs, List.length_append, List.length_singleton]; omega) (Nat.le_trans hBw hx1.size)
  refine hW.mono ?_
  rintro e w2 ⟨rfl, hB2, hb2, hk2⟩
  clear hW
  go_wp2_with fail
  go_end0
  refine ⟨rfl, ?_, (Below.mono hx1 hBw).trans hb2, (others_ext hx1).trans hk2⟩
  have e : Lib.byteCells cur ++ Lib.strCells (bs (j ++ [10])) = Lib.byteCells (cur ++ (j ++ [10])) := by
    unfold Lib.strCells Lib.byteCells; rw [data_bs]; exact List.map_append.symm
  rw [e] at hB2
  rw [HJ.out]; exact .inr hB2
end Go.Proofs.YteeampgbmpolfaaGreatDoor

/- The walk over the program's statement.Print. -/
namespace Go.Proofs.YteeampgbmpolfaaGreatDoor
open Go.RowKit Go.Shelf
attribute [local go_sem] size_bs toList_bs extract_bs get_bs append_bs lit_append append_lit

theorem Ext.trans' {a b c : World} {o : Obj} (h : Ext a b) (k : Below a.heap.size (b.alloc o) c) : Ext a c := Below.trans (h.alloc o) k

set_option maxRecDepth 100000 in
set_option maxHeartbeats 8000000 in
theorem stPrint (s : St) (A B : Option Addr) (c d : Nat) (w : World) (hA : RdH w A s.hs) (hB : RdM w B s.ms) (hsm : SmallS s) (hE : Env w) :
    Calls Tryz.prog 11 #[.agg #[.int .i64 s.day, .slice A s.hs.length c, .slice B s.ms.length d]] w fun e w' => e = .returned (.tuple #[.string (bs (printSV s)), .int .i64 (printSE s)]) ∧ Ext w w' := by
  have HA := Lib.hid hA
  have HB := Lib.hid hB
  have HS := Lib.hid hsm
  have HE := Lib.hid hE
  clear hA hB hsm hE
  go_enter Tryz.func11, Tryz.ntmps11
  go_wp2_with fail
  refine (stCheck s A B c d _ (HA.out.ext (Ext.new _ _)) (HB.out.ext (Ext.new _ _)) HS.out).mono ?_
  rintro e w1 ⟨rfl, hx1⟩
  by_cases hz : checkS s = 0
  · rw [hz]
    have HZ := Lib.hid hz
    clear hz
    have hb0 : w1.cell? ⟨w.heap.size, 0, none⟩ = some (.int .i64 s.day) := by rw [hx1.cell (by simp)]; simp
    have hb1 : w1.cell? ⟨w.heap.size, 1, none⟩ = some (.slice A s.hs.length c) := by rw [hx1.cell (by simp)]; simp
    have hb2 : w1.cell? ⟨w.heap.size, 2, none⟩ = some (.slice B s.ms.length d) := by rw [hx1.cell (by simp)]; simp
    have hz1 : w.heap.size < w1.heap.size := by have := hx1.size; simp at this; omega
    have hxw := hx1.of_alloc
    clear hx1
    go_wp2_with fail
    refine (stDayText _ _ (HE.out.ext (hxw.alloc _))).mono ?_
    rintro e w2 ⟨rfl, hx2⟩
    go_wp2_with fail
    have hzl := joinSp_2 wStatement (dateText s.day)
    have hdl := dateText_len s.day
    refine (stLine [wStatement, dateText s.day] (some ⟨w2.heap.size, 0, none⟩) 2 w1.heap.size w1.heap.size [] _ (Reads.lit rfl) (by simp) (by simp) (by simp) (by rw [hzl]; simp [wStatement]; omega) (by simp) (((Bld.new w1).ext hx2).ext (Ext.new _ _)) (by have := hx2.size; simp at this ⊢; omega)).mono ?_
    rintro e w3 ⟨rfl, hB3, hb3, _⟩
    rw [show ([] ++ (joinSp [wStatement, dateText s.day] ++ [10]) : Bs) = textH s 0 from (textH_0 s).symm] at hB3
    have hx3 : Ext w1 w3 := (Below.mono (Ext.of_alloc hx2) (Nat.le_refl _)).trans ((Below.mono (Ext.new _ _) (hx2.of_alloc).size).trans hb3)
    clear hzl hdl hx2 hb3
    have hc1 := (hx3.cell (p := ⟨w.heap.size, 1, none⟩) hz1).trans hb1
    go_wp2_with fail
    clear hc1
    go_loopw [26] (fun i wr => ∃ k : Nat, k ≤ s.hs.length ∧ i = .int .i64 k ∧ Bld w1.heap.size w1.heap.size (textH s k) wr ∧ Ext w1 wr) (fun i _ => s.hs.length - (intOf i).toNat)
    case atStart => exact ⟨0, by omega, rfl, hB3, hx3⟩
    case round =>
      obtain ⟨k, hk, rfl, hBr, hx⟩ := hrel
      clear hB3 hx3
      have HBR := Lib.hid hBr
      obtain ⟨_, h64, h1000, hhok, hmok⟩ := checkS_ok HZ.out
      have HHO := Lib.hid hhok
      have HMO := Lib.hid hmok
      clear hBr hhok hmok
      by_cases hlt : k < s.hs.length
      · have hR := HA.out.ext (hxw.trans hx)
        obtain ⟨b, o, rfl, hbb, hcc1, hcc2⟩ := hR.at_ hlt
        obtain ⟨hs1, hs2⟩ := HS.out.h _ (List.getElem_mem hlt)
        obtain ⟨hn1, hn2, hn3, _⟩ := chH_ok hlt (HHO.out k hlt)
        have HLL := Lib.hid (lineH_len hn1 hn2)
        have HTL := Lib.hid (textH_len HZ.out k)
        have HTS := Lib.hid (textH_succ s k hlt)
        clear hR hn1 hn2 hn3
        generalize hh : s.hs[k]'hlt = h at *
        clear hh
        go_wp2_with fail
        have hgt : wr.heap.size ≠ w1.heap.size := by have := HBR.out.lt; omega
        have hlen : (joinSp [wHolding, h.ins, printI h.qty]).length ≤ 1000000 := by have := HLL.out; unfold lineH at this; rw [List.length_append] at this; omega
        have HLN := Lib.hid hlen
        clear hlen
        go_region_held3 (fun w' => w'.cell? ⟨wr.heap.size, 0, none⟩ = some (.string (bs h.ins)) ∧ w'.cell? ⟨wr.heap.size, 1, none⟩ = some (.string (bs h.qty)))
          (go_keep)
          (first
            | (go_at_call 43; refine (intPrint h.qty _ (by omega)).mono ?_; rintro e wp ⟨rfl, hxp⟩; have hbx := (Blk.new wr 45 #[.string (bs h.ins), .string (bs h.qty)]).ext (Ext.trans (Ext.drew (Ext.refl _)) hxp); have hq0 := hbx.cell 0; have hq1 := hbx.cell 1; simp only [List.getElem?_toArray, List.getElem?_cons_zero, List.getElem?_cons_succ] at hq0 hq1; have hxr := (Ext.new wr (.cells #[.string (bs h.ins), .string (bs h.qty)] 45)).trans (Ext.trans (Ext.drew (Ext.refl _)) hxp); have HBX := Lib.hid hbx; clear hbx hxp)
            | (go_at_call 40; refine (stLine [wHolding, h.ins, printI h.qty] (some ⟨wp.heap.size, 0, none⟩) 3 w1.heap.size w1.heap.size (textH s k) _ (Reads.lit rfl) (by simp) (by simp) (by simp) HLN.out (by have := HTL.out; omega) ((HBR.out.ext hxr).ext (Ext.new _ _)) (by have := hx.size; have := hxr.size; simp; omega)).mono ?_; rintro e w4 ⟨rfl, hB4, hb4, hk4⟩; have hbx4 := (HBX.out.alloc _).others hk4 hgt (by decide); have hr0 := hbx4.cell 0; have hr1 := hbx4.cell 1; simp only [List.getElem?_toArray, List.getElem?_cons_zero, List.getElem?_cons_succ] at hr0 hr1; clear hbx4 hk4))
        go_wp2_with fail
        go_roundw
        case rel =>
          refine ⟨k + 1, by omega, by go_num, ?_, ?_⟩
          · rw [HTS.out]; exact hB4
          · exact (hx.trans hxr).trans' hb4
        case measure => simp [intOf]; omega
      · have hTM : textH s k = textM s 0 := textH_end s k (by omega)
        have HB0 : Hid (Bld w1.heap.size w1.heap.size (textM s 0) wr) := Lib.hid (by rw [← hTM]; exact HBR.out)
        obtain ⟨wc, rfl⟩ : ∃ wc : World, wc = wr := ⟨_, rfl⟩
        have hc2 := (hx.cell (p := ⟨w.heap.size, 2, none⟩) hz1).trans hb2
        clear hTM HBR HHO
        go_wp2_with fail
        clear hc2 hlt hk
        go_loopw [42] (fun i wr => ∃ k : Nat, k ≤ s.ms.length ∧ i = .int .i64 k ∧ Bld w1.heap.size w1.heap.size (textM s k) wr ∧ Ext w1 wr) (fun i _ => s.ms.length - (intOf i).toNat)
        case atStart => exact ⟨0, by omega, rfl, HB0.out, hx⟩
        case round =>
          clear hx HB0
          obtain ⟨k, hk, rfl, hBr, hx⟩ := hrel
          have HBR := Lib.hid hBr
          clear hBr
          by_cases hlt : k < s.ms.length
          · have hR := HB.out.ext (hxw.trans hx)
            obtain ⟨b, o, rfl, hbb, hcc1, hcc2, hcc3, hcc4, hcc5⟩ := hR.at_ hlt
            obtain ⟨hs1, hs2, hs3, hs4⟩ := HS.out.m _ (List.getElem_mem hlt)
            obtain ⟨hn1, _, _, hn4, hn5, _, _⟩ := chM_ok hlt (HMO.out k hlt)
            have HLL := Lib.hid (lineM_len hn1 hn4 hn5)
            have HTL := Lib.hid (textM_len HZ.out k)
            have HTS := Lib.hid (textM_succ s k hlt)
            have hEr := HE.out.ext (hxw.trans hx)
            have HER := Lib.hid hEr
            clear hR hn1 hn4 hn5 hEr
            generalize hh : s.ms[k]'hlt = m at *
            clear hh
            go_wp2_with fail
            have hgt : wr.heap.size ≠ w1.heap.size := by have := HBR.out.lt; omega
            have hlen : (joinSp [wMovement, m.ref, dateText m.day, m.ins, printI m.qty, printI m.amt]).length ≤ 1000000 := by have := HLL.out; unfold lineM at this; rw [List.length_append] at this; omega
            have HLN := Lib.hid hlen
            clear hlen
            go_region_held3 (fun w' => w'.cell? ⟨wr.heap.size, 0, none⟩ = some (.string (bs m.ref)) ∧ w'.cell? ⟨wr.heap.size, 1, none⟩ = some (.int .i64 m.day) ∧ w'.cell? ⟨wr.heap.size, 2, none⟩ = some (.string (bs m.ins)) ∧ w'.cell? ⟨wr.heap.size, 3, none⟩ = some (.string (bs m.qty)) ∧ w'.cell? ⟨wr.heap.size, 4, none⟩ = some (.string (bs m.amt)))
              (go_keep)
              (first
                | (go_at_call 42; refine (stDayText m.day _ (HER.out.ext (Ext.drew (Ext.new _ _)))).mono ?_; rintro e wp ⟨rfl, hxp⟩; have hbx := (Blk.new wr 50 #[.string (bs m.ref), .int .i64 m.day, .string (bs m.ins), .string (bs m.qty), .string (bs m.amt)]).ext (Ext.trans (Ext.drew (Ext.refl _)) hxp); have hq0 := hbx.cell 0; have hq1 := hbx.cell 1; have hq2 := hbx.cell 2; have hq3 := hbx.cell 3; have hq4 := hbx.cell 4; simp only [List.getElem?_toArray, List.getElem?_cons_zero, List.getElem?_cons_succ] at hq0 hq1 hq2 hq3 hq4; have hxr := (Ext.new wr (.cells #[.string (bs m.ref), .int .i64 m.day, .string (bs m.ins), .string (bs m.qty), .string (bs m.amt)] 50)).trans (Ext.trans (Ext.drew (Ext.refl _)) hxp); have HBX := Lib.hid hbx; clear hbx hxp)
                | (go_at_call_of 43 (Value.string (bs m.qty)); refine (intPrint m.qty _ (by omega)).mono ?_; rintro e wq ⟨rfl, hxq⟩; have hbx2 := HBX.out.ext hxq; have hv0 := hbx2.cell 0; have hv1 := hbx2.cell 1; have hv2 := hbx2.cell 2; have hv3 := hbx2.cell 3; have hv4 := hbx2.cell 4; simp only [List.getElem?_toArray, List.getElem?_cons_zero, List.getElem?_cons_succ] at hv0 hv1 hv2 hv3 hv4; have hxr2 := hxr.trans hxq; have HBX2 := Lib.hid hbx2; clear hbx2 hxq)
                | (go_at_call_of 43 (Value.string (bs m.amt)); refine (intPrint m.amt _ (by omega)).mono ?_; rintro e wz ⟨rfl, hxz⟩; have hbx3 := HBX2.out.ext hxz; have hy0 := hbx3.cell 0; have hy1 := hbx3.cell 1; have hy2 := hbx3.cell 2; have hy3 := hbx3.cell 3; have hy4 := hbx3.cell 4; simp only [List.getElem?_toArray, List.getElem?_cons_zero, List.getElem?_cons_succ] at hy0 hy1 hy2 hy3 hy4; have hxr3 := hxr2.trans hxz; have HBX3 := Lib.hid hbx3; clear hbx3 hxz)
                | (go_at_call 40; refine (stLine [wMovement, m.ref, dateText m.day, m.ins, printI m.qty, printI m.amt] (some ⟨wz.heap.size, 0, none⟩) 6 w1.heap.size w1.heap.size (textM s k) _ (Reads.lit rfl) (by simp) (by simp) (by simp) HLN.out (by have := HTL.out; omega) ((HBR.out.ext hxr3).ext (Ext.new _ _)) (by have := hx.size; have := hxr3.size; simp; omega)).mono ?_; rintro e w4 ⟨rfl, hB4, hb4, hk4⟩; have hbx4 := (HBX3.out.alloc _).others hk4 hgt (by decide); have hr0 := hbx4.cell 0; have hr1 := hbx4.cell 1; have hr2 := hbx4.cell 2; have hr3 := hbx4.cell 3; have hr4 := hbx4.cell 4; simp only [List.getElem?_toArray, List.getElem?_cons_zero, List.getElem?_cons_succ] at hr0 hr1 hr2 hr3 hr4; clear hbx4 hk4))
            go_wp2_with fail
            go_roundw
            case rel =>
              refine ⟨k + 1, by omega, by go_num, ?_, ?_⟩
              · rw [HTS.out]; exact hB4
              · exact (hx.trans hxr3).trans' hb4
            case measure => simp [intOf]; omega
          · have hTE : textM s k = textS s := textM_end s k (by omega)
            have hB9 : Bld w1.heap.size w1.heap.size (textS s) wr := by rw [← hTE]; exact HBR.out
            have hlen9 := textM_len HZ.out k
            rw [hTE] at hlen9
            have HB9 := Lib.hid hB9
            clear hTE hB9 HBR
            have HL := fun W (h : Bld w1.heap.size w1.heap.size (textS s) W) => Tryz.Builder_Len_f w1.heap.size w1.heap.size (Lib.byteCells (textS s)) W h
            have HL9 := Lib.hid HL
            clear HL
            go_wp2_with fail
            refine (HL9.out _ HB9.out).mono ?_
            rintro e w5 ⟨rfl, rfl⟩
            rw [Lib.byteCells_length]
            by_cases hbig : 65536 < (textS s).length
            · have hbb : decide ((65536 : Int) < (textS s).length) = true := by simp; omega
              have HV : Hid (printSV s = [] ∧ printSE s = 4) := Lib.hid (printS_big HZ.out hbig)
              go_wp2_with fail
              go_ret2
              exact ⟨by rw [HV.out.1, HV.out.2]; rfl, hxw.trans hx⟩
            · have hbb : decide ((65536 : Int) < (textS s).length) = false := by simp; omega
              have HV : Hid (printSV s = textS s ∧ printSE s = 0) := Lib.hid (printS_small HZ.out hbig)
              go_wp2_with fail
              refine (Tryz.Builder_String_any_f w1.heap.size w1.heap.size (textS s) _ HB9.out hx.size).mono ?_
              rintro e w6 ⟨rfl, _, hb6⟩
              go_wp2_with fail
              go_ret2
              exact ⟨by rw [HV.out.1, HV.out.2]; rfl, hxw.trans (Below.trans hx hb6)⟩
  · have hzb : (checkS s != 0) = true := by simpa using hz
    have HV : Hid (printSV s = [] ∧ printSE s = checkS s) := Lib.hid (by unfold printSV printSE; rw [if_pos hz, if_pos hz]; exact ⟨rfl, rfl⟩)
    clear hz
    go_wp2_with fail
    go_ret2
    exact ⟨by rw [HV.out.1, HV.out.2]; rfl, hx1.of_alloc⟩
end Go.Proofs.YteeampgbmpolfaaGreatDoor

/- The walk over the reference's statement: Print. -/
namespace Go.Proofs.YteeampgbmpolfaaGreatDoor
open Go.RowKit Go.Shelf
attribute [local go_sem] size_bs toList_bs extract_bs get_bs append_bs lit_append append_lit

theorem lineH_ref {h : Hd} (hq : numE [h.qty] = 0) (h0 : h.qty ≠ []) (t : Bs) : t ++ lineH h = t ++ ([104, 111, 108, 100, 105, 110, 103, 32] ++ (h.ins ++ ([32] ++ (h.qty ++ [10])))) := by
  have h1 := (numE_zero hq (l := h.qty) (by simp)).1
  unfold lineH; rw [joinSp_3, printI_of h1 h0]; simp [wHolding]
theorem lineM_ref {m : Mv} (hq : numE [m.qty, m.amt] = 0) (h0 : m.qty ≠ []) (t : Bs) : t ++ lineM m = t ++ ([109, 111, 118, 101, 109, 101, 110, 116, 32] ++ (m.ref ++ ([32] ++ (dateText m.day ++ ([32] ++ (m.ins ++ ([32] ++ (m.qty ++ ([32] ++ (printI m.amt ++ [10])))))))))) := by
  have h1 := (numE_zero hq (l := m.qty) (by simp)).1
  unfold lineM; rw [joinSp_6, printI_of h1 h0]; simp [wMovement]
theorem lineS_ref (d : Int) : lineS d = [115, 116, 97, 116, 101, 109, 101, 110, 116, 32] ++ (dateText d ++ [10]) := by
  unfold lineS; rw [joinSp_2]; simp [wStatement]
theorem quiet_left {P : Program} {f : FuncId} {args : Array Value} {w : World} {n : Nat} {v : Value}
    (h : Calls P f args (w.drewN n) fun e w' => e = .returned v ∧ w.drewN n = w') : Calls P f args (w.drewN n) fun e w'' => e = .returned v ∧ ∃ m, w'' = w.drewN m :=
  h.mono fun _ _ ⟨he, hm⟩ => ⟨he, n, hm.symm⟩

set_option maxRecDepth 100000 in
set_option maxHeartbeats 8000000 in
theorem refPrintS (s : St) (A B : Option Addr) (c d : Nat) (w : World) (hA : RdH w A s.hs) (hB : RdM w B s.ms) (hsm : SmallS s) :
    Calls Tryz.prog 12 #[.agg #[.int .i64 s.day, .slice A s.hs.length c, .slice B s.ms.length d]] w fun e w' => e = .returned (.tuple #[.string (bs (printSV s)), .int .i64 (printSE s)]) ∧ Ext w w' := by
  have HA := Lib.hid hA
  have HB := Lib.hid hB
  have HS := Lib.hid hsm
  clear hA hB hsm
  go_enter Tryz.func12, Tryz.ntmps12
  go_wp2_with fail
  refine (refCheckS s A B c d _ (HA.out.ext (Ext.new _ _)) (HB.out.ext (Ext.new _ _)) HS.out).mono ?_
  rintro e w1 ⟨rfl, hx1⟩
  by_cases hz : checkS s = 0
  · rw [hz]
    have HZ := Lib.hid hz
    clear hz
    have hb0 : w1.cell? ⟨w.heap.size, 0, none⟩ = some (.int .i64 s.day) := by rw [hx1.cell (by simp)]; simp
    have hb1 : w1.cell? ⟨w.heap.size, 1, none⟩ = some (.slice A s.hs.length c) := by rw [hx1.cell (by simp)]; simp
    have hb2 : w1.cell? ⟨w.heap.size, 2, none⟩ = some (.slice B s.ms.length d) := by rw [hx1.cell (by simp)]; simp
    have hz1 : w.heap.size < w1.heap.size := by have := hx1.size; simp at this; omega
    have hxw := hx1.of_alloc
    clear hx1
    go_wp2_with fail
    refine (refPrintD _ _).mono ?_
    rintro e w2 ⟨rfl, hx2⟩
    have hdl := dateText_len s.day
    have HT0 : Hid (textH s 0 = [115, 116, 97, 116, 101, 109, 101, 110, 116, 32] ++ (dateText s.day ++ [10])) := Lib.hid (by rw [textH_0, lineS_ref])
    go_wp2_with fail
    go_loopw [7, 8] (fun t i wr => ∃ k : Nat, k ≤ s.hs.length ∧ i = .int .i64 k ∧ t = .string (bs (textH s k)) ∧ Ext w1 wr) (fun _ i _ => s.hs.length - (intOf i).toNat)
    case atStart => exact ⟨0, by omega, rfl, by rw [HT0.out]; simp, hx2⟩
    case round =>
      clear hx2 HT0 hdl
      obtain ⟨k, hk, rfl, rfl, hx⟩ := hrel
      obtain ⟨_, h64, h1000, hhok, hmok⟩ := checkS_ok HZ.out
      have HMO := Lib.hid hmok
      have hr0 := (hx.cell (p := ⟨w.heap.size, 0, none⟩) hz1).trans hb0
      have hr1 := (hx.cell (p := ⟨w.heap.size, 1, none⟩) hz1).trans hb1
      have hr2 := (hx.cell (p := ⟨w.heap.size, 2, none⟩) hz1).trans hb2
      have hrz := Nat.lt_of_lt_of_le hz1 hx.size
      by_cases hlt : k < s.hs.length
      · have hR := HA.out.ext (hxw.trans hx)
        obtain ⟨b, o, rfl, hbb, hcc1, hcc2⟩ := hR.at_ hlt
        obtain ⟨hs1, hs2⟩ := HS.out.h _ (List.getElem_mem hlt)
        obtain ⟨hn1, hn2, hn3, _⟩ := chH_ok hlt (hhok k hlt)
        have htl := textH_len HZ.out k
        have HTS := Lib.hid (textH_succ s k hlt)
        have HLR := Lib.hid (lineH_ref hn2 hn3 (textH s k))
        clear hR hn1 hn2 hn3 hhok hmok hb0 hb1 hb2
        generalize hh : s.hs[k]'hlt = h at *
        clear hh
        generalize htx : textH s k = tx at *
        clear htx
        go_wp2_with fail
        go_quiet (fail)
        go_wp2_with fail
        go_roundw
        case rel => exact ⟨k + 1, by omega, by go_num, by rw [HTS.out, HLR.out]; simp, hx.drewN _⟩
        case measure => simp [intOf]; omega
      · have HTM := Lib.hid (textH_end s k (by omega))
        obtain ⟨wc, rfl⟩ : ∃ wc : World, wc = wr := ⟨_, rfl⟩
        clear hhok hmok hb0 hb1
        go_wp2_with fail
        clear hlt hk hr0 hr1
        go_loopw [7, 9] (fun t i wr => ∃ k : Nat, k ≤ s.ms.length ∧ i = .int .i64 k ∧ t = .string (bs (textM s k)) ∧ Ext w1 wr) (fun _ i _ => s.ms.length - (intOf i).toNat)
        case atStart => exact ⟨0, by omega, rfl, by rw [HTM.out], hx⟩
        case round =>
          clear hx HTM hr2 hrz
          obtain ⟨k, hk, rfl, rfl, hx⟩ := hrel
          have hr2 := (hx.cell (p := ⟨w.heap.size, 2, none⟩) hz1).trans hb2
          have hrz := Nat.lt_of_lt_of_le hz1 hx.size
          by_cases hlt : k < s.ms.length
          · have hR := HB.out.ext (hxw.trans hx)
            obtain ⟨b, o, rfl, hbb, hcc1, hcc2, hcc3, hcc4, hcc5⟩ := hR.at_ hlt
            obtain ⟨hs1, hs2, hs3, hs4⟩ := HS.out.m _ (List.getElem_mem hlt)
            obtain ⟨hn1, _, _, hn4, hn5, hn6, _⟩ := chM_ok hlt (HMO.out k hlt)
            have htl := textM_len HZ.out k
            have HTS := Lib.hid (textM_succ s k hlt)
            have HLR := Lib.hid (lineM_ref hn5 hn6 (textM s k))
            clear hR hn1 hn4 hn5 hn6
            generalize hh : s.ms[k]'hlt = m at *
            clear hh
            generalize htx : textM s k = tx at *
            clear htx
            have hdl := dateText_len m.day
            have hpl := printI_len m.amt
            go_wp2_with fail
            refine (refPrintD _ _).mono ?_
            rintro e w3 ⟨rfl, hx3⟩
            have hbx := (Blk.new wr 50 #[.string (bs m.ref), .int .i64 m.day, .string (bs m.ins), .string (bs m.qty), .string (bs m.amt)]).ext hx3
            have hq0 := hbx.cell 0
            have hq2 := hbx.cell 2
            have hq3 := hbx.cell 3
            have hq4 := hbx.cell 4
            simp only [List.getElem?_toArray, List.getElem?_cons_zero, List.getElem?_cons_succ] at hq0 hq2 hq3 hq4
            clear hbx
            go_wp2_with fail
            go_quiet ((go_at_call 47; exact quiet_left (refPrintI _ _ (by omega))))
            go_wp2_with fail
            go_roundw
            case rel => exact ⟨k + 1, by omega, by go_num, by rw [HTS.out, HLR.out]; simp, (hx.trans hx3.of_alloc).drewN _⟩
            case measure => simp [intOf]; omega
          · have HTE := Lib.hid (textM_end s k (by omega))
            have hlen9 := textM_len HZ.out k
            by_cases hbig : 65536 < (textS s).length
            · have HV := Lib.hid (printS_big HZ.out hbig)
              rw [HTE.out] at hlen9
              rw [HTE.out]
              have hbb : decide ((65536 : Int) < (textS s).length) = true := by simp; omega
              go_wp2_with fail
              go_ret2
              exact ⟨by rw [HV.out.1, HV.out.2]; rfl, hxw.trans hx⟩
            · have HV := Lib.hid (printS_small HZ.out hbig)
              rw [HTE.out] at hlen9
              rw [HTE.out]
              have hbb : decide ((65536 : Int) < (textS s).length) = false := by simp; omega
              go_wp2_with fail
              go_ret2
              exact ⟨by rw [HV.out.1, HV.out.2]; rfl, hxw.trans hx⟩
  · have hzb : (checkS s != 0) = true := by simpa using hz
    have HV := Lib.hid (printS_bad hz)
    clear hz
    go_wp2_with fail
    go_ret2
    exact ⟨by rw [HV.out.1, HV.out.2]; rfl, hx1.of_alloc⟩
end Go.Proofs.YteeampgbmpolfaaGreatDoor
