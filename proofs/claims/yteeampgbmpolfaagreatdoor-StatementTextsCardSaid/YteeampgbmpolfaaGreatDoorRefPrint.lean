/- The walk over the reference's statement: Print. -/
import Derived.Test.YteeampgbmpolfaaGreatDoorRefCheck
import Derived.Test.YteeampgbmpolfaaGreatDoorRefDate2
import Derived.Test.YteeampgbmpolfaaGreatDoorTextP
import Derived.Test.YteeampgbmpolfaaGreatDoorMem2
namespace Go.Proofs.YteeampgbmpolfaaGreatDoor
open Go.RowKit Go.Shelf
attribute [local go_sem] size_bs toList_bs extract_bs get_bs append_bs lit_append append_lit

theorem lineH_ref {h : Hd} (hq : numE [h.qty] = 0) (h0 : h.qty ≠ []) (t : Bs) : t ++ lineH h = t ++ ([104, 111, 108, 100, 105, 110, 103, 32] ++ (h.ins ++ ([32] ++ (h.qty ++ [10])))) := by
  have h1 := (numE_zero hq (l := h.qty) (by simp)).1
  unfold lineH; rw [joinSp_3, printI_of h1 h0]; simp [wHolding]
theorem lineM_ref {m : Mv} (hq : numE [m.qty, m.amt] = 0) (h0 : m.qty ≠ []) (t : Bs) : t ++ lineM m = t ++ ([109, 111, 118, 101, 109, 101, 110, 116, 32] ++ (m.ref ++ ([32] ++ (dateText m.day ++ ([32] ++ (m.ins ++ ([32] ++ (m.qty ++ ([32] ++ (printI m.amt ++ [10])))))))))) := by
  have h1 := (numE_zero hq (l := m.qty) (by simp)).1
  unfold lineM; rw [joinSp_6, printI_of h1 h0]; simp [wMovement]
theorem lineS_ref (d : Int) : lineS d = [115, 116, 97, 116, 101, 109, 101, 110, 116, 32] ++ (dateText d ++ [10]) := by
  unfold lineS; rw [joinSp_2]; simp [wStatement]
theorem quiet_left {P : Program} {f : FuncId} {args : Array Value} {w : World} {n : Nat} {v : Value}
    (h : Calls P f args (w.drewN n) fun e w' => e = .returned v ∧ w.drewN n = w') : Calls P f args (w.drewN n) fun e w'' => e = .returned v ∧ ∃ m, w'' = w.drewN m :=
  h.mono fun _ _ ⟨he, hm⟩ => ⟨he, n, hm.symm⟩

set_option maxRecDepth 100000 in
set_option maxHeartbeats 8000000 in
theorem refPrintS (s : St) (A B : Option Addr) (c d : Nat) (w : World) (hA : RdH w A s.hs) (hB : RdM w B s.ms) (hsm : SmallS s) :
    Calls Tryz.prog 12 #[.agg #[.int .i64 s.day, .slice A s.hs.length c, .slice B s.ms.length d]] w fun e w' => e = .returned (.tuple #[.string (bs (printSV s)), .int .i64 (printSE s)]) ∧ Ext w w' := by
  have HA := Lib.hid hA
  have HB := Lib.hid hB
  have HS := Lib.hid hsm
  clear hA hB hsm
  go_enter Tryz.func12, Tryz.ntmps12
  go_wp2_with fail
  refine (refCheckS s A B c d _ (HA.out.ext (Ext.new _ _)) (HB.out.ext (Ext.new _ _)) HS.out).mono ?_
  rintro e w1 ⟨rfl, hx1⟩
  by_cases hz : checkS s = 0
  · rw [hz]
    have HZ := Lib.hid hz
    clear hz
    have hb0 : w1.cell? ⟨w.heap.size, 0, none⟩ = some (.int .i64 s.day) := by rw [hx1.cell (by simp)]; simp
    have hb1 : w1.cell? ⟨w.heap.size, 1, none⟩ = some (.slice A s.hs.length c) := by rw [hx1.cell (by simp)]; simp
    have hb2 : w1.cell? ⟨w.heap.size, 2, none⟩ = some (.slice B s.ms.length d) := by rw [hx1.cell (by simp)]; simp
    have hz1 : w.heap.size < w1.heap.size := by have := hx1.size; simp at this; omega
    have hxw := hx1.of_alloc
    clear hx1
    go_wp2_with fail
    refine (refPrintD _ _).mono ?_
    rintro e w2 ⟨rfl, hx2⟩
    have hdl := dateText_len s.day
    have HT0 : Hid (textH s 0 = [115, 116, 97, 116, 101, 109, 101, 110, 116, 32] ++ (dateText s.day ++ [10])) := Lib.hid (by rw [textH_0, lineS_ref])
    go_wp2_with fail
    go_loopw [7, 8] (fun t i wr => ∃ k : Nat, k ≤ s.hs.length ∧ i = .int .i64 k ∧ t = .string (bs (textH s k)) ∧ Ext w1 wr) (fun _ i _ => s.hs.length - (intOf i).toNat)
    case atStart => exact ⟨0, by omega, rfl, by rw [HT0.out]; simp, hx2⟩
    case round =>
      clear hx2 HT0 hdl
      obtain ⟨k, hk, rfl, rfl, hx⟩ := hrel
      obtain ⟨_, h64, h1000, hhok, hmok⟩ := checkS_ok HZ.out
      have HMO := Lib.hid hmok
      have hr0 := (hx.cell (p := ⟨w.heap.size, 0, none⟩) hz1).trans hb0
      have hr1 := (hx.cell (p := ⟨w.heap.size, 1, none⟩) hz1).trans hb1
      have hr2 := (hx.cell (p := ⟨w.heap.size, 2, none⟩) hz1).trans hb2
      have hrz := Nat.lt_of_lt_of_le hz1 hx.size
      by_cases hlt : k < s.hs.length
      · have hR := HA.out.ext (hxw.trans hx)
        obtain ⟨b, o, rfl, hbb, hcc1, hcc2⟩ := hR.at_ hlt
        obtain ⟨hs1, hs2⟩ := HS.out.h _ (List.getElem_mem hlt)
        obtain ⟨hn1, hn2, hn3, _⟩ := chH_ok hlt (hhok k hlt)
        have htl := textH_len HZ.out k
        have HTS := Lib.hid (textH_succ s k hlt)
        have HLR := Lib.hid (lineH_ref hn2 hn3 (textH s k))
        clear hR hn1 hn2 hn3 hhok hmok hb0 hb1 hb2
        generalize hh : s.hs[k]'hlt = h at *
        clear hh
        generalize htx : textH s k = tx at *
        clear htx
        go_wp2_with fail
        go_quiet (fail)
        go_wp2_with fail
        go_roundw
        case rel => exact ⟨k + 1, by omega, by go_num, by rw [HTS.out, HLR.out]; simp, hx.drewN _⟩
        case measure => simp [intOf]; omega
      · have HTM := Lib.hid (textH_end s k (by omega))
        obtain ⟨wc, rfl⟩ : ∃ wc : World, wc = wr := ⟨_, rfl⟩
        clear hhok hmok hb0 hb1
        go_wp2_with fail
        clear hlt hk hr0 hr1
        go_loopw [7, 9] (fun t i wr => ∃ k : Nat, k ≤ s.ms.length ∧ i = .int .i64 k ∧ t = .string (bs (textM s k)) ∧ Ext w1 wr) (fun _ i _ => s.ms.length - (intOf i).toNat)
        case atStart => exact ⟨0, by omega, rfl, by rw [HTM.out], hx⟩
        case round =>
          clear hx HTM hr2 hrz
          obtain ⟨k, hk, rfl, rfl, hx⟩ := hrel
          have hr2 := (hx.cell (p := ⟨w.heap.size, 2, none⟩) hz1).trans hb2
          have hrz := Nat.lt_of_lt_of_le hz1 hx.size
          by_cases hlt : k < s.ms.length
          · have hR := HB.out.ext (hxw.trans hx)
            obtain ⟨b, o, rfl, hbb, hcc1, hcc2, hcc3, hcc4, hcc5⟩ := hR.at_ hlt
            obtain ⟨hs1, hs2, hs3, hs4⟩ := HS.out.m _ (List.getElem_mem hlt)
            obtain ⟨hn1, _, _, hn4, hn5, hn6, _⟩ := chM_ok hlt (HMO.out k hlt)
            have htl := textM_len HZ.out k
            have HTS := Lib.hid (textM_succ s k hlt)
            have HLR := Lib.hid (lineM_ref hn5 hn6 (textM s k))
            clear hR hn1 hn4 hn5 hn6
            generalize hh : s.ms[k]'hlt = m at *
            clear hh
            generalize htx : textM s k = tx at *
            clear htx
            have hdl := dateText_len m.day
            have hpl := printI_len m.amt
            go_wp2_with fail
            refine (refPrintD _ _).mono ?_
            rintro e w3 ⟨rfl, hx3⟩
            have hbx := (Blk.new wr 50 #[.string (bs m.ref), .int .i64 m.day, .string (bs m.ins), .string (bs m.qty), .string (bs m.amt)]).ext hx3
            have hq0 := hbx.cell 0
            have hq2 := hbx.cell 2
            have hq3 := hbx.cell 3
            have hq4 := hbx.cell 4
            simp only [List.getElem?_toArray, List.getElem?_cons_zero, List.getElem?_cons_succ] at hq0 hq2 hq3 hq4
            clear hbx
            go_wp2_with fail
            go_quiet ((go_at_call 47; exact quiet_left (refPrintI _ _ (by omega))))
            go_wp2_with fail
            go_roundw
            case rel => exact ⟨k + 1, by omega, by go_num, by rw [HTS.out, HLR.out]; simp, (hx.trans hx3.of_alloc).drewN _⟩
            case measure => simp [intOf]; omega
          · have HTE := Lib.hid (textM_end s k (by omega))
            have hlen9 := textM_len HZ.out k
            by_cases hbig : 65536 < (textS s).length
            · have HV := Lib.hid (printS_big HZ.out hbig)
              rw [HTE.out] at hlen9
              rw [HTE.out]
              have hbb : decide ((65536 : Int) < (textS s).length) = true := by simp; omega
              go_wp2_with fail
              go_ret2
              exact ⟨by rw [HV.out.1, HV.out.2]; rfl, hxw.trans hx⟩
            · have HV := Lib.hid (printS_small HZ.out hbig)
              rw [HTE.out] at hlen9
              rw [HTE.out]
              have hbb : decide ((65536 : Int) < (textS s).length) = false := by simp; omega
              go_wp2_with fail
              go_ret2
              exact ⟨by rw [HV.out.1, HV.out.2]; rfl, hxw.trans hx⟩
  · have hzb : (checkS s != 0) = true := by simpa using hz
    have HV := Lib.hid (printS_bad hz)
    clear hz
    go_wp2_with fail
    go_ret2
    exact ⟨by rw [HV.out.1, HV.out.2]; rfl, hx1.of_alloc⟩
end Go.Proofs.YteeampgbmpolfaaGreatDoor
