/- The walk over the reference's Parse of a statement. -/
import Derived.Test.YteeampgbmpolfaaGreatDoorResS
import Derived.Test.YteeampgbmpolfaaGreatDoorRefRead
import Derived.Test.YteeampgbmpolfaaGreatDoorRefCheck
namespace Go.Proofs.YteeampgbmpolfaaGreatDoor
open Go.RowKit
attribute [local go_sem] size_bs toList_bs extract_bs get_bs append_bs lit_append append_lit

/-- how the parsing ends -/
def ParseEnds (r : St) (n err : Int) (w : World) (e : Ending) (w' : World) : Prop :=
  ∃ A c B d, e = .returned (.tuple #[.agg #[.int .i64 r.day, .slice A r.hs.length c, .slice B r.ms.length d], .int .i64 n, .int .i64 err]) ∧ RdH w' A r.hs ∧ RdM w' B r.ms ∧ Ext w w'
theorem ParseEnds.zero {n err : Int} {w w' : World} (hx : Ext w w') : ParseEnds zeroS n err w (.returned (.tuple #[.agg #[.int .i64 0, .slice none 0 0, .slice none 0 0], .int .i64 n, .int .i64 err])) w' :=
  ⟨none, 0, none, 0, rfl, Reads.nil, Reads.nil, hx⟩
/-- the state of the reading at a line -/
structure Lined (t : Bs) (lines : List Bs) (k : Nat) (s : St) : Prop where
  lt : k < lines.length
  same : resL t = goLines s k (lines.drop k)
  hs : s.hs.length ≤ k
  ms : s.ms.length ≤ k
  sized : Sized 100000 s
theorem Lined.start {t : Bs} {lines : List Bs} (h : splitOn 10 t = lines) : Lined t lines 0 zeroS := by
  refine ⟨?_, by simp [resL, h], by simp [zeroS], by simp [zeroS], by simp [Sized, zeroS]⟩
  rw [← h]; exact List.length_pos_iff.2 (splitOn_ne 10 t)
theorem Lined.last {t : Bs} {lines : List Bs} {k : Nat} {s : St} (h : Lined t lines k s) (hk : k + 1 = lines.length) : resL t = if 0 < k ∧ (lines[k]'h.lt) = [] then (s, 0) else (s, (k : Int) + 1) := by
  rw [h.same, List.drop_eq_getElem_cons h.lt, List.drop_of_length_le (by omega), goLines_one]
theorem Lined.bad {t : Bs} {lines : List Bs} {k : Nat} {s : St} (h : Lined t lines k s) (hk : k + 1 < lines.length) (hb : stepLine s (k == 0) (lines[k]'h.lt) = none) : resL t = (s, (k : Int) + 1) := by
  rw [h.same, List.drop_eq_getElem_cons h.lt, List.drop_eq_getElem_cons hk, goLines_bad hb]
theorem Lined.ok {t : Bs} {lines : List Bs} {k : Nat} {s s' : St} (h : Lined t lines k s) (hk : k + 1 < lines.length) (hl : (lines[k]'h.lt).length ≤ 100000) (hb : stepLine s (k == 0) (lines[k]'h.lt) = some s') : Lined t lines (k + 1) s' := by
  have h3 := stepW_sized h.sized (fun p hp => Nat.le_trans (splitOn_mem 32 _ p hp) hl) hb
  have := h.hs; have := h.ms
  refine ⟨hk, ?_, by omega, by omega, h3.1⟩
  rw [h.same, List.drop_eq_getElem_cons h.lt, List.drop_eq_getElem_cons hk, goLines_ok hb]
theorem Lined.small {t : Bs} {lines : List Bs} {k : Nat} {s : St} (h : Lined t lines k s) (hl : lines.length ≤ 100000) : SmallS s := by
  have := h.hs; have := h.ms; have := h.lt
  refine ⟨by omega, by omega, fun x hx => ?_, fun x hx => ?_⟩
  · have := h.sized.1 x hx; unfold SmallH; omega
  · have := h.sized.2 x hx; unfold SmallM; omega

set_option maxRecDepth 100000 in
set_option maxHeartbeats 4000000 in
theorem refParseS (t : Bs) (w : World) (ht : t.length ≤ 1000000000) :
    Calls Tryz.prog 14 #[.string (bs t)] w (ParseEnds (parseSt t) (parseSN t) (parseSE t) w) := by
  by_cases hbig : 65536 < t.length
  · have H1 : Hid (parseSt t = zeroS ∧ parseSN t = 0 ∧ parseSE t = 4) := Lib.hid (by unfold parseSt parseSN parseSE; simp [hbig])
    rw [H1.out.1, H1.out.2.1, H1.out.2.2]
    go_enter Tryz.func14, Tryz.ntmps14
    go_wp2_with fail
    refine bodyPost_ret (results_st rfl _ _ _ _ _ _ rfl (Blk.new _ _ _)) rfl ?_
    exact ParseEnds.zero (Ext.new w _)
  · have H1 : Hid ((resL t).2 ≠ 0 → parseSt t = zeroS ∧ parseSN t = (resL t).2 ∧ parseSE t = 3) := Lib.hid (by unfold parseSt parseSN parseSE; intro h; simp [hbig, h])
    have H2 : Hid ((resL t).2 = 0 → checkS (resL t).1 ≠ 0 → parseSt t = zeroS ∧ parseSN t = 0 ∧ parseSE t = checkS (resL t).1) := Lib.hid (by unfold parseSt parseSN parseSE; intro h h'; simp [hbig, h, h'])
    have H3 : Hid ((resL t).2 = 0 → checkS (resL t).1 = 0 → parseSt t = (resL t).1 ∧ parseSN t = 0 ∧ parseSE t = 0) := Lib.hid (by unfold parseSt parseSN parseSE; intro h h'; simp [hbig, h, h'])
    have hwl := splitOn_len 10 t
    have hwm := splitOn_mem 10 t
    generalize hR : parseSt t = R at *
    generalize hN : parseSN t = N at *
    generalize hE : parseSE t = E at *
    clear hR hN hE
    generalize hws : splitOn 10 t = lines at *
    have HWM := Lib.hid hwm
    clear hwm
    have HST := Lib.hid (Lined.start hws)
    go_enter Tryz.func14, Tryz.ntmps14
    go_wp2_with fail
    refine (refCut t 10 _ (by omega)).mono ?_
    rw [hws]
    rintro e w1 ⟨A, cap, rfl, hRd, hx1⟩
    have HB0 := Lib.hid ((Blk.new w _ _).ext hx1)
    have HX1 := Lib.hid (Ext.of_alloc hx1)
    have hsz : w.heap.size < w1.heap.size := by have := hx1.size; simp at this; omega
    clear hws hx1
    have HR := Lib.hid hRd
    clear hRd
    go_wp2_with fail
    go_loopw [7] (fun i wr => ∃ (k : Nat) (s : St), i = .int .i64 k ∧ Lined t lines k s ∧ StAt wr w1.heap.size w1.heap.size 26 [] s ∧ Ext w1 wr) (fun i _ => lines.length - (intOf i).toNat)
    case atStart => exact ⟨0, zeroS, rfl, HST.out, ⟨_, _, Blk.new _ _ _, trivial, ⟨rfl, .inl ⟨rfl, rfl⟩⟩, ⟨rfl, .inl ⟨rfl, rfl⟩⟩⟩, Ext.new _ _⟩
    case round =>
      obtain ⟨k, s, rfl, hL, hS, hx⟩ := hrel
      have hlt := hL.lt
      have HL := Lib.hid hL
      have HS := Lib.hid hS
      obtain ⟨b, o, rfl, hb, hc⟩ := (HR.out.ext hx).at_ hlt
      have HLL := Lib.hid (HWM.out _ (List.getElem_mem hlt))
      have hres := HB0.out.ext hx
      have hq0 := hres.cell 0
      have hq1 := hres.cell 1
      have hq2 := hres.cell 2
      have hp0 := hres.frozen 0
      have hp1 := hres.frozen 1
      have hp2 := hres.frozen 2
      simp only [List.getElem?_toArray, List.getElem?_cons_zero, List.getElem?_cons_succ] at hq0 hq1 hq2
      have HRS := Lib.hid hres
      clear hL hS hres
      by_cases hlast : k + 1 = lines.length
      · have hlb : ((k : Int) == (lines.length : Int) - 1) = true := by rw [beq_iff_eq]; omega
        have HLA := Lib.hid (HL.out.last hlast)
        by_cases hfin : 0 < k ∧ (lines[k]'hlt) = []
        · have heb : (lines[k]'hlt).isEmpty = true := by simp [hfin.2]
          have hk0 := hfin.1
          rw [if_pos hfin] at HLA
          clear hfin
          obtain ⟨vA, vB, hS⟩ := HS.out
          obtain ⟨aA, cA, rfl⟩ := own_len hS.2.2.1
          obtain ⟨aB, cB, rfl⟩ := own_len hS.2.2.2
          have hd0 := hS.1.cell 0
          have hd1 := hS.1.cell 1
          have hd2 := hS.1.cell 2
          simp only [List.getElem?_toArray, List.getElem?_cons_zero, List.getElem?_cons_succ] at hd0 hd1 hd2
          have HSV := Lib.hid hS
          clear hS
          go_wp2_with fail
          refine (refCheckS s aA aB cA cB _ (Reads.own HSV.out.2.2.1) (Reads.own HSV.out.2.2.2) (HL.out.small (by omega))).mono ?_
          rintro e w3 ⟨rfl, hx3⟩
          have hS3 := HSV.out.ext hx3
          have hd30 := hS3.1.cell 0
          have hd31 := hS3.1.cell 1
          have hd32 := hS3.1.cell 2
          have hres3 := HRS.out.ext hx3
          have hq30 := hres3.cell 0
          have hq31 := hres3.cell 1
          have hq32 := hres3.cell 2
          have hp30 := hres3.frozen 0
          have hp31 := hres3.frozen 1
          have hp32 := hres3.frozen 2
          have hne1 : w.heap.size ≠ w1.heap.size := by omega
          have hX3 := Lib.hid ((HX1.out.trans hx).trans hx3)
          simp only [List.getElem?_toArray, List.getElem?_cons_zero, List.getElem?_cons_succ] at hd30 hd31 hd32 hq30 hq31 hq32
          have HS3 := Lib.hid hS3
          have HR3 := Lib.hid hres3
          clear hS3 hres3
          by_cases hok : checkS s = 0
          · have HF := Lib.hid (H3.out (by rw [HLA.out]) (by rw [HLA.out]; exact hok))
            rw [HLA.out] at HF
            rw [hok]
            clear hok
            go_wp2_with fail
            refine bodyPost_ret (results_st rfl _ _ _ _ _ _ rfl ((((HR3.out.set_ 0 _).set_ 1 _).set_ 2 _))) rfl ?_
            rw [HF.out.1, HF.out.2.1, HF.out.2.2]
            have hnA : (Value.slice aA s.hs.length cA).ownBlock ≠ some w.heap.size := fun h => by have := own_ge HS3.out.2.2.1 _ h; omega
            have hnB : (Value.slice aB s.ms.length cB).ownBlock ≠ some w.heap.size := fun h => by have := own_ge HS3.out.2.2.2 _ h; omega
            exact ⟨aA, cA, aB, cB, rfl, Reads.own (own_set (own_set (own_set HS3.out.2.2.1 hnA _) hnA _) hnA _), Reads.own (own_set (own_set (own_set HS3.out.2.2.2 hnB _) hnB _) hnB _), ((hX3.out.setCell (by simp) _).setCell (by simp) _).setCell (by simp) _⟩
          · have HF := Lib.hid (H2.out (by rw [HLA.out]) (by rw [HLA.out]; exact hok))
            rw [HLA.out] at HF
            generalize hcs : checkS s = cs at *
            have hokb : (cs != 0) = true := by rw [bne_iff_ne]; exact hok
            clear hok hcs
            go_wp2_with fail
            refine bodyPost_ret (results_st rfl _ _ _ _ _ _ rfl ((((HR3.out.set_ 0 _).set_ 1 _).set_ 2 _))) rfl ?_
            rw [HF.out.1, HF.out.2.1, HF.out.2.2]
            exact ParseEnds.zero (((hX3.out.setCell (by simp) _).setCell (by simp) _).setCell (by simp) _)
        · rw [if_neg hfin] at HLA
          have HF := Lib.hid (H1.out (by rw [HLA.out]; show (k : Int) + 1 ≠ 0; omega))
          rw [HLA.out] at HF
          have hX := Lib.hid (HX1.out.trans hx)
          by_cases hk0 : k = 0
          · subst hk0
            have hl1 : (lines.length : Int) = 1 := by omega
            have hlb2 : ((0 : Int) == (lines.length : Int) - 1) = true := by rw [hl1]; rfl
            clear hfin hlb hlast
            go_wp2_with fail
            refine bodyPost_ret (results_st rfl _ _ _ _ _ _ rfl ((((HRS.out.set_ 0 _).set_ 1 _).set_ 2 _))) rfl ?_
            rw [HF.out.1, HF.out.2.1, HF.out.2.2]
            exact ParseEnds.zero (((hX.out.setCell (by simp) _).setCell (by simp) _).setCell (by simp) _)
          · have heb : (lines[k]'hlt).isEmpty = false := by
              have : ¬ (lines[k]'hlt) = [] := fun h => hfin ⟨by omega, h⟩
              simpa using this
            have hk1 : 0 < k := by omega
            clear hfin hk0
            go_wp2_with fail
            refine bodyPost_ret (results_st rfl _ _ _ _ _ _ rfl ((((HRS.out.set_ 0 _).set_ 1 _).set_ 2 _))) rfl ?_
            rw [HF.out.1, HF.out.2.1, HF.out.2.2]
            exact ParseEnds.zero (((hX.out.setCell (by simp) _).setCell (by simp) _).setCell (by simp) _)
      · have hlb : ((k : Int) == (lines.length : Int) - 1) = false := by rw [beq_eq_false_iff_ne]; omega
        have hk1 : k + 1 < lines.length := by omega
        have hll := HLL.out
        have hsl := HL.out.hs
        have hsm := HL.out.ms
        have hsz2 := hx.size
        have hkb : ((k : Int) == 0) = (k == 0) := by rw [Bool.eq_iff_iff, beq_iff_eq, beq_iff_eq]; omega
        clear hlast
        go_wp2_with fail
        refine (refRead s (lines[k]'hlt) _ rfl (k == 0) w1.heap.size w1.heap.size _ HS.out (by omega) (by omega) (by omega) (by omega)).mono ?_
        rintro e w3 ⟨ok, rfl, hb3, hy, hn⟩
        have hx3 := Lib.hid (Below.trans hx (hb3.below (Nat.le_refl _)))
        cases hst : stepLine s (k == 0) (lines[k]'hlt) with
        | some s' =>
          obtain ⟨rfl, hS3⟩ := hy s' hst
          have HL3 := Lib.hid (HL.out.ok hk1 (by omega) hst)
          have HS3 := Lib.hid hS3
          clear hy hn hst hS3 hb3
          go_wp2_with fail
          go_roundw
          case rel => exact ⟨k + 1, s', by go_num, HL3.out, HS3.out, hx3.out⟩
          case measure => simp [intOf]; omega
        | none =>
          obtain rfl := hn hst
          have HLA := Lib.hid (HL.out.bad hk1 hst)
          have HF := Lib.hid (H1.out (by rw [HLA.out]; show (k : Int) + 1 ≠ 0; omega))
          rw [HLA.out] at HF
          have hX := Lib.hid (HX1.out.trans hx3.out)
          clear hy hn hst hb3
          have hres3 := HB0.out.ext hx3.out
          have hq30 := hres3.cell 0
          have hq31 := hres3.cell 1
          have hq32 := hres3.cell 2
          have hp30 := hres3.frozen 0
          have hp31 := hres3.frozen 1
          have hp32 := hres3.frozen 2
          simp only [List.getElem?_toArray, List.getElem?_cons_zero, List.getElem?_cons_succ] at hq30 hq31 hq32
          have HR3 := Lib.hid hres3
          clear hres3
          go_wp2_with fail
          refine bodyPost_ret (results_st rfl _ _ _ _ _ _ rfl ((((HR3.out.set_ 0 _).set_ 1 _).set_ 2 _))) rfl ?_
          rw [HF.out.1, HF.out.2.1, HF.out.2.2]
          exact ParseEnds.zero (((hX.out.setCell (by simp) _).setCell (by simp) _).setCell (by simp) _)
end Go.Proofs.YteeampgbmpolfaaGreatDoor
