/- The walk over the program's statement.Print. -/
import Derived.Test.YteeampgbmpolfaaGreatDoorPrintL
import Derived.Deep.RegionHeld3
namespace Go.Proofs.YteeampgbmpolfaaGreatDoor
open Go.RowKit Go.Shelf
attribute [local go_sem] size_bs toList_bs extract_bs get_bs append_bs lit_append append_lit

theorem Ext.trans' {a b c : World} {o : Obj} (h : Ext a b) (k : Below a.heap.size (b.alloc o) c) : Ext a c := Below.trans (h.alloc o) k

set_option maxRecDepth 100000 in
set_option maxHeartbeats 8000000 in
theorem stPrint (s : St) (A B : Option Addr) (c d : Nat) (w : World) (hA : RdH w A s.hs) (hB : RdM w B s.ms) (hsm : SmallS s) (hE : Env w) :
    Calls Tryz.prog 11 #[.agg #[.int .i64 s.day, .slice A s.hs.length c, .slice B s.ms.length d]] w fun e w' => e = .returned (.tuple #[.string (bs (printSV s)), .int .i64 (printSE s)]) ∧ Ext w w' := by
  have HA := Lib.hid hA
  have HB := Lib.hid hB
  have HS := Lib.hid hsm
  have HE := Lib.hid hE
  clear hA hB hsm hE
  go_enter Tryz.func11, Tryz.ntmps11
  go_wp2_with fail
  refine (stCheck s A B c d _ (HA.out.ext (Ext.new _ _)) (HB.out.ext (Ext.new _ _)) HS.out).mono ?_
  rintro e w1 ⟨rfl, hx1⟩
  by_cases hz : checkS s = 0
  · rw [hz]
    have HZ := Lib.hid hz
    clear hz
    have hb0 : w1.cell? ⟨w.heap.size, 0, none⟩ = some (.int .i64 s.day) := by rw [hx1.cell (by simp)]; simp
    have hb1 : w1.cell? ⟨w.heap.size, 1, none⟩ = some (.slice A s.hs.length c) := by rw [hx1.cell (by simp)]; simp
    have hb2 : w1.cell? ⟨w.heap.size, 2, none⟩ = some (.slice B s.ms.length d) := by rw [hx1.cell (by simp)]; simp
    have hz1 : w.heap.size < w1.heap.size := by have := hx1.size; simp at this; omega
    have hxw := hx1.of_alloc
    clear hx1
    go_wp2_with fail
    refine (stDayText _ _ (HE.out.ext (hxw.alloc _))).mono ?_
    rintro e w2 ⟨rfl, hx2⟩
    go_wp2_with fail
    have hzl := joinSp_2 wStatement (dateText s.day)
    have hdl := dateText_len s.day
    refine (stLine [wStatement, dateText s.day] (some ⟨w2.heap.size, 0, none⟩) 2 w1.heap.size w1.heap.size [] _ (Reads.lit rfl) (by simp) (by simp) (by simp) (by rw [hzl]; simp [wStatement]; omega) (by simp) (((Bld.new w1).ext hx2).ext (Ext.new _ _)) (by have := hx2.size; simp at this ⊢; omega)).mono ?_
    rintro e w3 ⟨rfl, hB3, hb3, _⟩
    rw [show ([] ++ (joinSp [wStatement, dateText s.day] ++ [10]) : Bs) = textH s 0 from (textH_0 s).symm] at hB3
    have hx3 : Ext w1 w3 := (Below.mono (Ext.of_alloc hx2) (Nat.le_refl _)).trans ((Below.mono (Ext.new _ _) (hx2.of_alloc).size).trans hb3)
    clear hzl hdl hx2 hb3
    have hc1 := (hx3.cell (p := ⟨w.heap.size, 1, none⟩) hz1).trans hb1
    go_wp2_with fail
    clear hc1
    go_loopw [26] (fun i wr => ∃ k : Nat, k ≤ s.hs.length ∧ i = .int .i64 k ∧ Bld w1.heap.size w1.heap.size (textH s k) wr ∧ Ext w1 wr) (fun i _ => s.hs.length - (intOf i).toNat)
    case atStart => exact ⟨0, by omega, rfl, hB3, hx3⟩
    case round =>
      obtain ⟨k, hk, rfl, hBr, hx⟩ := hrel
      clear hB3 hx3
      have HBR := Lib.hid hBr
      obtain ⟨_, h64, h1000, hhok, hmok⟩ := checkS_ok HZ.out
      have HHO := Lib.hid hhok
      have HMO := Lib.hid hmok
      clear hBr hhok hmok
      by_cases hlt : k < s.hs.length
      · have hR := HA.out.ext (hxw.trans hx)
        obtain ⟨b, o, rfl, hbb, hcc1, hcc2⟩ := hR.at_ hlt
        obtain ⟨hs1, hs2⟩ := HS.out.h _ (List.getElem_mem hlt)
        obtain ⟨hn1, hn2, hn3, _⟩ := chH_ok hlt (HHO.out k hlt)
        have HLL := Lib.hid (lineH_len hn1 hn2)
        have HTL := Lib.hid (textH_len HZ.out k)
        have HTS := Lib.hid (textH_succ s k hlt)
        clear hR hn1 hn2 hn3
        generalize hh : s.hs[k]'hlt = h at *
        clear hh
        go_wp2_with fail
        have hgt : wr.heap.size ≠ w1.heap.size := by have := HBR.out.lt; omega
        have hlen : (joinSp [wHolding, h.ins, printI h.qty]).length ≤ 1000000 := by have := HLL.out; unfold lineH at this; rw [List.length_append] at this; omega
        have HLN := Lib.hid hlen
        clear hlen
        go_region_held3 (fun w' => w'.cell? ⟨wr.heap.size, 0, none⟩ = some (.string (bs h.ins)) ∧ w'.cell? ⟨wr.heap.size, 1, none⟩ = some (.string (bs h.qty)))
          (go_keep)
          (first
            | (go_at_call 43; refine (intPrint h.qty _ (by omega)).mono ?_; rintro e wp ⟨rfl, hxp⟩; have hbx := (Blk.new wr 45 #[.string (bs h.ins), .string (bs h.qty)]).ext (Ext.trans (Ext.drew (Ext.refl _)) hxp); have hq0 := hbx.cell 0; have hq1 := hbx.cell 1; simp only [List.getElem?_toArray, List.getElem?_cons_zero, List.getElem?_cons_succ] at hq0 hq1; have hxr := (Ext.new wr (.cells #[.string (bs h.ins), .string (bs h.qty)] 45)).trans (Ext.trans (Ext.drew (Ext.refl _)) hxp); have HBX := Lib.hid hbx; clear hbx hxp)
            | (go_at_call 40; refine (stLine [wHolding, h.ins, printI h.qty] (some ⟨wp.heap.size, 0, none⟩) 3 w1.heap.size w1.heap.size (textH s k) _ (Reads.lit rfl) (by simp) (by simp) (by simp) HLN.out (by have := HTL.out; omega) ((HBR.out.ext hxr).ext (Ext.new _ _)) (by have := hx.size; have := hxr.size; simp; omega)).mono ?_; rintro e w4 ⟨rfl, hB4, hb4, hk4⟩; have hbx4 := (HBX.out.alloc _).others hk4 hgt (by decide); have hr0 := hbx4.cell 0; have hr1 := hbx4.cell 1; simp only [List.getElem?_toArray, List.getElem?_cons_zero, List.getElem?_cons_succ] at hr0 hr1; clear hbx4 hk4))
        go_wp2_with fail
        go_roundw
        case rel =>
          refine ⟨k + 1, by omega, by go_num, ?_, ?_⟩
          · rw [HTS.out]; exact hB4
          · exact (hx.trans hxr).trans' hb4
        case measure => simp [intOf]; omega
      · have hTM : textH s k = textM s 0 := textH_end s k (by omega)
        have HB0 : Hid (Bld w1.heap.size w1.heap.size (textM s 0) wr) := Lib.hid (by rw [← hTM]; exact HBR.out)
        obtain ⟨wc, rfl⟩ : ∃ wc : World, wc = wr := ⟨_, rfl⟩
        have hc2 := (hx.cell (p := ⟨w.heap.size, 2, none⟩) hz1).trans hb2
        clear hTM HBR HHO
        go_wp2_with fail
        clear hc2 hlt hk
        go_loopw [42] (fun i wr => ∃ k : Nat, k ≤ s.ms.length ∧ i = .int .i64 k ∧ Bld w1.heap.size w1.heap.size (textM s k) wr ∧ Ext w1 wr) (fun i _ => s.ms.length - (intOf i).toNat)
        case atStart => exact ⟨0, by omega, rfl, HB0.out, hx⟩
        case round =>
          clear hx HB0
          obtain ⟨k, hk, rfl, hBr, hx⟩ := hrel
          have HBR := Lib.hid hBr
          clear hBr
          by_cases hlt : k < s.ms.length
          · have hR := HB.out.ext (hxw.trans hx)
            obtain ⟨b, o, rfl, hbb, hcc1, hcc2, hcc3, hcc4, hcc5⟩ := hR.at_ hlt
            obtain ⟨hs1, hs2, hs3, hs4⟩ := HS.out.m _ (List.getElem_mem hlt)
            obtain ⟨hn1, _, _, hn4, hn5, _, _⟩ := chM_ok hlt (HMO.out k hlt)
            have HLL := Lib.hid (lineM_len hn1 hn4 hn5)
            have HTL := Lib.hid (textM_len HZ.out k)
            have HTS := Lib.hid (textM_succ s k hlt)
            have hEr := HE.out.ext (hxw.trans hx)
            have HER := Lib.hid hEr
            clear hR hn1 hn4 hn5 hEr
            generalize hh : s.ms[k]'hlt = m at *
            clear hh
            go_wp2_with fail
            have hgt : wr.heap.size ≠ w1.heap.size := by have := HBR.out.lt; omega
            have hlen : (joinSp [wMovement, m.ref, dateText m.day, m.ins, printI m.qty, printI m.amt]).length ≤ 1000000 := by have := HLL.out; unfold lineM at this; rw [List.length_append] at this; omega
            have HLN := Lib.hid hlen
            clear hlen
            go_region_held3 (fun w' => w'.cell? ⟨wr.heap.size, 0, none⟩ = some (.string (bs m.ref)) ∧ w'.cell? ⟨wr.heap.size, 1, none⟩ = some (.int .i64 m.day) ∧ w'.cell? ⟨wr.heap.size, 2, none⟩ = some (.string (bs m.ins)) ∧ w'.cell? ⟨wr.heap.size, 3, none⟩ = some (.string (bs m.qty)) ∧ w'.cell? ⟨wr.heap.size, 4, none⟩ = some (.string (bs m.amt)))
              (go_keep)
              (first
                | (go_at_call 42; refine (stDayText m.day _ (HER.out.ext (Ext.drew (Ext.new _ _)))).mono ?_; rintro e wp ⟨rfl, hxp⟩; have hbx := (Blk.new wr 50 #[.string (bs m.ref), .int .i64 m.day, .string (bs m.ins), .string (bs m.qty), .string (bs m.amt)]).ext (Ext.trans (Ext.drew (Ext.refl _)) hxp); have hq0 := hbx.cell 0; have hq1 := hbx.cell 1; have hq2 := hbx.cell 2; have hq3 := hbx.cell 3; have hq4 := hbx.cell 4; simp only [List.getElem?_toArray, List.getElem?_cons_zero, List.getElem?_cons_succ] at hq0 hq1 hq2 hq3 hq4; have hxr := (Ext.new wr (.cells #[.string (bs m.ref), .int .i64 m.day, .string (bs m.ins), .string (bs m.qty), .string (bs m.amt)] 50)).trans (Ext.trans (Ext.drew (Ext.refl _)) hxp); have HBX := Lib.hid hbx; clear hbx hxp)
                | (go_at_call_of 43 (Value.string (bs m.qty)); refine (intPrint m.qty _ (by omega)).mono ?_; rintro e wq ⟨rfl, hxq⟩; have hbx2 := HBX.out.ext hxq; have hv0 := hbx2.cell 0; have hv1 := hbx2.cell 1; have hv2 := hbx2.cell 2; have hv3 := hbx2.cell 3; have hv4 := hbx2.cell 4; simp only [List.getElem?_toArray, List.getElem?_cons_zero, List.getElem?_cons_succ] at hv0 hv1 hv2 hv3 hv4; have hxr2 := hxr.trans hxq; have HBX2 := Lib.hid hbx2; clear hbx2 hxq)
                | (go_at_call_of 43 (Value.string (bs m.amt)); refine (intPrint m.amt _ (by omega)).mono ?_; rintro e wz ⟨rfl, hxz⟩; have hbx3 := HBX2.out.ext hxz; have hy0 := hbx3.cell 0; have hy1 := hbx3.cell 1; have hy2 := hbx3.cell 2; have hy3 := hbx3.cell 3; have hy4 := hbx3.cell 4; simp only [List.getElem?_toArray, List.getElem?_cons_zero, List.getElem?_cons_succ] at hy0 hy1 hy2 hy3 hy4; have hxr3 := hxr2.trans hxz; have HBX3 := Lib.hid hbx3; clear hbx3 hxz)
                | (go_at_call 40; refine (stLine [wMovement, m.ref, dateText m.day, m.ins, printI m.qty, printI m.amt] (some ⟨wz.heap.size, 0, none⟩) 6 w1.heap.size w1.heap.size (textM s k) _ (Reads.lit rfl) (by simp) (by simp) (by simp) HLN.out (by have := HTL.out; omega) ((HBR.out.ext hxr3).ext (Ext.new _ _)) (by have := hx.size; have := hxr3.size; simp; omega)).mono ?_; rintro e w4 ⟨rfl, hB4, hb4, hk4⟩; have hbx4 := (HBX3.out.alloc _).others hk4 hgt (by decide); have hr0 := hbx4.cell 0; have hr1 := hbx4.cell 1; have hr2 := hbx4.cell 2; have hr3 := hbx4.cell 3; have hr4 := hbx4.cell 4; simp only [List.getElem?_toArray, List.getElem?_cons_zero, List.getElem?_cons_succ] at hr0 hr1 hr2 hr3 hr4; clear hbx4 hk4))
            go_wp2_with fail
            go_roundw
            case rel =>
              refine ⟨k + 1, by omega, by go_num, ?_, ?_⟩
              · rw [HTS.out]; exact hB4
              · exact (hx.trans hxr3).trans' hb4
            case measure => simp [intOf]; omega
          · have hTE : textM s k = textS s := textM_end s k (by omega)
            have hB9 : Bld w1.heap.size w1.heap.size (textS s) wr := by rw [← hTE]; exact HBR.out
            have hlen9 := textM_len HZ.out k
            rw [hTE] at hlen9
            have HB9 := Lib.hid hB9
            clear hTE hB9 HBR
            have HL := fun W (h : Bld w1.heap.size w1.heap.size (textS s) W) => Tryz.Builder_Len_f w1.heap.size w1.heap.size (Lib.byteCells (textS s)) W h
            have HL9 := Lib.hid HL
            clear HL
            go_wp2_with fail
            refine (HL9.out _ HB9.out).mono ?_
            rintro e w5 ⟨rfl, rfl⟩
            rw [Lib.byteCells_length]
            by_cases hbig : 65536 < (textS s).length
            · have hbb : decide ((65536 : Int) < (textS s).length) = true := by simp; omega
              have HV : Hid (printSV s = [] ∧ printSE s = 4) := Lib.hid (printS_big HZ.out hbig)
              go_wp2_with fail
              go_ret2
              exact ⟨by rw [HV.out.1, HV.out.2]; rfl, hxw.trans hx⟩
            · have hbb : decide ((65536 : Int) < (textS s).length) = false := by simp; omega
              have HV : Hid (printSV s = textS s ∧ printSE s = 0) := Lib.hid (printS_small HZ.out hbig)
              go_wp2_with fail
              refine (Tryz.Builder_String_any_f w1.heap.size w1.heap.size (textS s) _ HB9.out hx.size).mono ?_
              rintro e w6 ⟨rfl, _, hb6⟩
              go_wp2_with fail
              go_ret2
              exact ⟨by rw [HV.out.1, HV.out.2]; rfl, hxw.trans (Below.trans hx hb6)⟩
  · have hzb : (checkS s != 0) = true := by simpa using hz
    have HV : Hid (printSV s = [] ∧ printSE s = checkS s) := Lib.hid (by unfold printSV printSE; rw [if_pos hz, if_pos hz]; exact ⟨rfl, rfl⟩)
    clear hz
    go_wp2_with fail
    go_ret2
    exact ⟨by rw [HV.out.1, HV.out.2]; rfl, hx1.of_alloc⟩
end Go.Proofs.YteeampgbmpolfaaGreatDoor
