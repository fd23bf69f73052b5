/- The walk over the reference's statement: Check. -/
import Derived.Test.YteeampgbmpolfaaGreatDoorCheckS
import Derived.Test.YteeampgbmpolfaaGreatDoorRefInt
import Derived.Test.YteeampgbmpolfaaGreatDoorRefDate
namespace Go.Proofs.YteeampgbmpolfaaGreatDoor
open Go.RowKit Go.Shelf
attribute [local go_sem] size_bs toList_bs extract_bs get_bs append_bs lit_append append_lit

theorem numE_one (q : Bs) : numE [q] = if checkI q ≠ 0 then 1 else if 40 < digs q then 4 else 0 := by
  unfold numE numE1 numE4
  by_cases h : checkI q = 0
  · by_cases h' : 40 < digs q <;> simp [h, h']
  · simp [h]
theorem numE_two (q a : Bs) : numE [q, a] = if checkI q ≠ 0 ∨ checkI a ≠ 0 then 1 else if 40 < digs q ∨ 40 < digs a then 4 else 0 := by
  unfold numE numE1 numE4
  by_cases h : checkI q = 0 <;> by_cases k : checkI a = 0 <;> by_cases h' : 40 < digs q <;> by_cases k' : 40 < digs a <;> simp [h, k, h', k']

set_option maxRecDepth 100000 in
set_option maxHeartbeats 8000000 in
theorem refCheckS (s : St) (A B : Option Addr) (c d : Nat) (w : World) (hA : RdH w A s.hs) (hB : RdM w B s.ms) (hsm : SmallS s) :
    Calls Tryz.prog 32 #[.agg #[.int .i64 s.day, .slice A s.hs.length c, .slice B s.ms.length d]] w fun e w' => e = .returned (.int .i64 (checkS s)) ∧ Ext w w' := by
  obtain ⟨day, hs, ms⟩ := s
  obtain ⟨hn, mn, hh, hm⟩ := hsm
  dsimp only at *
  have HA := Lib.hid hA
  have HB := Lib.hid hB
  have HH := Lib.hid hh
  have HM := Lib.hid hm
  clear hA hB hh hm
  go_enter Tryz.func32, Tryz.ntmps32
  go_wp2_with fail
  refine (refCheckD _ _).mono ?_
  rintro e w1 ⟨rfl, rfl⟩
  cases hd : okDay day with
  | false =>
    have HD := Lib.hid hd
    have hde : dateErr day = 13 := by unfold dateErr; rw [hd]; rfl
    rw [hde]
    clear hd hde
    go_wp2_with fail
    go_ret
    exact ⟨by unfold checkS; rw [if_pos HD.out]; rfl, Ext.new _ _⟩
  | true =>
    have HD := Lib.hid hd
    have hde : dateErr day = 0 := by unfold dateErr; rw [hd]; rfl
    rw [hde]
    clear hd hde
    by_cases h64 : 64 < hs.length
    · have hb : decide ((64 : Int) < hs.length) = true := by simp; omega
      have HE : Hid (checkS ⟨day, hs, ms⟩ = 4) := Lib.hid (by
        have : checkH hs = 4 := by unfold checkH; rw [if_pos h64]
        unfold checkS; rw [if_neg (by rw [HD.out]; decide), if_pos (by rw [this]; decide), this])
      go_wp2_with fail
      go_ret
      exact ⟨by rw [HE.out]; rfl, Ext.new _ _⟩
    have hb : decide ((64 : Int) < hs.length) = false := by simp; omega
    have HC : Hid (checkH hs = firstErr (chH hs) hs.length) := Lib.hid (by unfold checkH; rw [if_neg h64])
    have HCS : Hid (∀ e : Int, checkH hs = e → e ≠ 0 → checkS ⟨day, hs, ms⟩ = e) := Lib.hid (fun e h1 h2 => by
      unfold checkS; rw [if_neg (by rw [HD.out]; decide), if_pos (by rw [h1]; exact h2), h1])
    have hxb : Ext w (w.alloc (.cells #[.int .i64 day, .slice A hs.length c, .slice B ms.length d] 26)) := Ext.new _ _
    generalize hwb : w.alloc (.cells #[.int .i64 day, .slice A hs.length c, .slice B ms.length d] 26) = wb at *
    have hb0 : wb.cell? ⟨w.heap.size, 0, none⟩ = some (.int .i64 day) := by rw [← hwb]; simp
    have hb1 : wb.cell? ⟨w.heap.size, 1, none⟩ = some (.slice A hs.length c) := by rw [← hwb]; simp
    have hb2 : wb.cell? ⟨w.heap.size, 2, none⟩ = some (.slice B ms.length d) := by rw [← hwb]; simp
    have hbz : w.heap.size < wb.heap.size := by rw [← hwb]; simp
    clear hwb
    go_wp2_with fail
    go_loopw [3] (fun i wr => ∃ k : Nat, k ≤ hs.length ∧ i = .int .i64 k ∧ (∀ j, j < k → chH hs j = 0) ∧ Ext wb wr) (fun i _ => hs.length - (intOf i).toNat)
    case atStart => exact ⟨0, by omega, rfl, fun j hj => absurd hj (by omega), Ext.refl _⟩
    case round =>
      obtain ⟨k, hk, rfl, hz, hx⟩ := hrel
      have HZ := Lib.hid hz
      clear hz
      have hr0 := (hx.cell (p := ⟨w.heap.size, 0, none⟩) hbz).trans hb0
      have hr1 := (hx.cell (p := ⟨w.heap.size, 1, none⟩) hbz).trans hb1
      have hr2 := (hx.cell (p := ⟨w.heap.size, 2, none⟩) hbz).trans hb2
      have hrz := Nat.lt_of_lt_of_le hbz hx.size
      clear hb0 hb1 hb2 hbz
      by_cases hlt : k < hs.length
      · have hR := HA.out.ext (hxb.trans hx)
        obtain ⟨b, o, rfl, hbb, hc1, hc2⟩ := hR.at_ hlt
        have HRR := Lib.hid hR
        obtain ⟨hs1, hs2⟩ := HH.out _ (List.getElem_mem hlt)
        have HAT := Lib.hid (chH_at hs k hlt)
        have HHIT := Lib.hid (firstErr_hit (chH hs) hs.length k hlt HZ.out)
        clear hR
        generalize hh : hs[k]'hlt = h at *
        clear hh
        go_wp2_with fail
        refine (refName _ _ (by omega)).mono ?_
        rintro e w1 ⟨rfl, rfl⟩
        cases hnm : isName h.ins with
        | false =>
          have HN := Lib.hid hnm
          clear hnm
          go_wp2_with fail
          go_ret
          exact ⟨by rw [HCS.out 23 (by rw [HC.out, HHIT.out (by rw [HAT.out, HN.out, if_pos rfl]; decide), HAT.out, HN.out, if_pos rfl]) (by decide)]; rfl, (hxb.trans hx).alloc _⟩
        | true =>
          have HN := Lib.hid hnm
          clear hnm
          have HA1 : Hid (chH hs k = if numE [h.qty] ≠ 0 then numE [h.qty] else if h.qty = [] then 2 else if 0 < k ∧ lt ((hs[k - 1]?.map (·.ins)).getD []) h.ins = false then 8 else 0) := Lib.hid (by rw [HAT.out, HN.out, if_neg (by decide)])
          clear HAT HN
          go_wp2_with fail
          refine (refCheckI _ _ (by omega)).mono ?_
          rintro e w1 ⟨rfl, rfl⟩
          by_cases hci : checkI h.qty = 0
          · rw [hci]
            go_wp2_with fail
            refine (refDigs _ _ (by omega)).mono ?_
            rintro e w1 ⟨rfl, rfl⟩
            by_cases hdg : 40 < digs h.qty
            · have HE : Hid (chH hs k = 4) := Lib.hid (by
                have : numE [h.qty] = 4 := by rw [numE_one, if_neg (fun e => e hci), if_pos hdg]
                rw [HA1.out, if_pos (by rw [this]; decide), this])
              clear hci
              go_wp2_with fail
              go_ret
              exact ⟨by rw [HCS.out 4 (by rw [HC.out, HHIT.out (by rw [HE.out]; decide), HE.out]) (by decide)]; rfl, (hxb.trans hx).alloc _⟩
            have HA2 : Hid (chH hs k = if h.qty = [] then 2 else if 0 < k ∧ lt ((hs[k - 1]?.map (·.ins)).getD []) h.ins = false then 8 else 0) := Lib.hid (by
              have : numE [h.qty] = 0 := by rw [numE_one, if_neg (fun e => e hci), if_neg hdg]
              rw [HA1.out, if_neg (fun e => e this)])
            clear hci HA1
            by_cases hq : h.qty = []
            · have hqb : h.qty.isEmpty = true := by simp [hq]
              have HE : Hid (chH hs k = 2) := Lib.hid (by rw [HA2.out, if_pos hq])
              clear hq
              go_wp2_with fail
              go_ret
              exact ⟨by rw [HCS.out 2 (by rw [HC.out, HHIT.out (by rw [HE.out]; decide), HE.out]) (by decide)]; rfl, (hxb.trans hx).alloc _⟩
            · have hqb : h.qty.isEmpty = false := by simpa using hq
              have HA3 : Hid (chH hs k = if 0 < k ∧ lt ((hs[k - 1]?.map (·.ins)).getD []) h.ins = false then 8 else 0) := Lib.hid (by rw [HA2.out, if_neg hq])
              clear hq HA2
              by_cases hk0 : 0 < k
              · have hkp : k - 1 < hs.length := by omega
                obtain ⟨b', o', e', _, hp1, _⟩ := HRR.out.at_ hkp
                injection e' with e'
                injection e' with e1 e2
                subst e1
                subst e2
                have hprev : (wr.alloc (.cells #[.string (bs h.ins), .string (bs h.qty)] 45)).cell? ⟨b, o + (k - 1) * 2, none⟩ = some (.string (bs (hs[k - 1]'hkp).ins)) := by
                  rw [World.cell?_alloc_lt _ _ _ (by simpa using hbb)]; exact hp1
                have HPV := Lib.hid (getD_prev hs k hkp)
                have hk0b : decide ((0 : Int) < k) = true := by simp; omega
                have hkd : IntKind.i64.wrap ((k : Int) - 1) = (k : Int) - 1 := IntWalk.i64_in _ (by omega)
                have hkt : ((k : Int) - 1).toNat = k - 1 := by omega
                have hk1 : (1 : Int) ≤ k := by omega
                clear hp1
                generalize hpi : (hs[k - 1]'hkp).ins = pv at *
                clear hpi
                cases hl : lt pv h.ins with
                | false =>
                  have HE : Hid (chH hs k = 8) := Lib.hid (by rw [HA3.out, HPV.out, hl, if_pos ⟨hk0, rfl⟩])
                  have hlb : Op.bytesLess pv h.ins = false := hl
                  clear hl
                  go_wp2_with fail
                  go_quiet (fail)
                  go_wp2_with fail
                  go_ret
                  exact ⟨by rw [HCS.out 8 (by rw [HC.out, HHIT.out (by rw [HE.out]; decide), HE.out]) (by decide)]; rfl, ((hxb.trans hx).alloc _).drewN _⟩
                | true =>
                  have HE : Hid (chH hs k = 0) := Lib.hid (by rw [HA3.out, HPV.out, hl, if_neg (fun e => by cases e.2)])
                  have hlb : Op.bytesLess pv h.ins = true := hl
                  clear hl
                  go_wp2_with fail
                  go_quiet (fail)
                  go_wp2_with fail
                  go_roundw
                  case rel =>
                    refine ⟨k + 1, by omega, by go_num, fun j hj => ?_, (hx.alloc _).drewN _⟩
                    rcases Nat.lt_or_ge j k with h' | h'
                    · exact HZ.out j h'
                    · obtain rfl : j = k := by omega
                      exact HE.out
                  case measure => simp [intOf]; omega
              · have hk0b : decide ((0 : Int) < k) = false := by simp; omega
                have HE : Hid (chH hs k = 0) := Lib.hid (by rw [HA3.out, if_neg (fun e => hk0 e.1)])
                go_wp2_with fail
                go_quiet (fail)
                go_wp2_with fail
                go_roundw
                case rel =>
                  refine ⟨k + 1, by omega, by go_num, fun j hj => ?_, (hx.alloc _).drewN _⟩
                  rcases Nat.lt_or_ge j k with h' | h'
                  · exact HZ.out j h'
                  · obtain rfl : j = k := by omega
                    exact HE.out
                case measure => simp [intOf]; omega
          · have hcb : (checkI h.qty != 0) = true := by simpa using hci
            have HE : Hid (chH hs k = 1) := Lib.hid (by
              have : numE [h.qty] = 1 := by rw [numE_one, if_pos hci]
              rw [HA1.out, if_pos (by rw [this]; decide), this])
            clear hci
            go_wp2_with fail
            go_ret
            exact ⟨by rw [HCS.out 1 (by rw [HC.out, HHIT.out (by rw [HE.out]; decide), HE.out]) (by decide)]; rfl, (hxb.trans hx).alloc _⟩
      · have HCM : Hid (checkS ⟨day, hs, ms⟩ = checkM day ms) := Lib.hid (by
          have : checkH hs = 0 := by rw [HC.out, firstErr_none _ _ (fun j hj => HZ.out j (by omega))]
          unfold checkS; rw [if_neg (by rw [HD.out]; decide), if_neg (fun e => e this)])
        clear HC HCS HZ HD
        by_cases h1000 : 1000 < ms.length
        · have hb : decide ((1000 : Int) < ms.length) = true := by simp; omega
          go_wp2_with fail
          go_ret
          exact ⟨by rw [HCM.out]; unfold checkM; rw [if_pos h1000]; rfl, hxb.trans hx⟩
        have hb : decide ((1000 : Int) < ms.length) = false := by simp; omega
        have HC : Hid (checkS ⟨day, hs, ms⟩ = firstErr (chM day ms) ms.length) := Lib.hid (by rw [HCM.out]; unfold checkM; rw [if_neg h1000])
        obtain ⟨wc, rfl⟩ : ∃ wc : World, wc = wr := ⟨_, rfl⟩
        have hxc := hxb.trans hx
        clear HCM hxb hx HA HH
        go_wp2_with fail
        clear hlt hk
        go_loopw [5] (fun i wr => ∃ k : Nat, k ≤ ms.length ∧ i = .int .i64 k ∧ (∀ j, j < k → chM day ms j = 0) ∧ Ext wc wr) (fun i _ => ms.length - (intOf i).toNat)
        case atStart => exact ⟨0, by omega, rfl, fun j hj => absurd hj (by omega), Ext.refl _⟩
        case round =>
          obtain ⟨k, hk, rfl, hz, hx⟩ := hrel
          have HZ := Lib.hid hz
          clear hz
          have hq0 := (hx.cell (p := ⟨w.heap.size, 0, none⟩) hrz).trans hr0
          have hq2 := (hx.cell (p := ⟨w.heap.size, 2, none⟩) hrz).trans hr2
          have hqz := Nat.lt_of_lt_of_le hrz hx.size
          clear hr0 hr1 hr2 hrz
          by_cases hlt : k < ms.length
          · have hR := HB.out.ext (hxc.trans hx)
            obtain ⟨b, o, rfl, hbb, hc1, hc2, hc3, hc4, hc5⟩ := hR.at_ hlt
            have HRR := Lib.hid hR
            obtain ⟨hs1, hs2, hs3, hs4⟩ := HM.out _ (List.getElem_mem hlt)
            have HAT := Lib.hid (chM_at day ms k hlt)
            have HHIT := Lib.hid (firstErr_hit (chM day ms) ms.length k hlt HZ.out)
            have HFIN : Hid (∀ e : Int, chM day ms k = e → e ≠ 0 → checkS ⟨day, hs, ms⟩ = e) := Lib.hid (fun e h1 h2 => by rw [HC.out, HHIT.out (by rw [h1]; exact h2), h1])
            have hxx := (hxc.trans hx).alloc (.cells #[.string (bs (ms[k]'hlt).ref), .int .i64 (ms[k]'hlt).day, .string (bs (ms[k]'hlt).ins), .string (bs (ms[k]'hlt).qty), .string (bs (ms[k]'hlt).amt)] 50)
            clear hR HHIT
            generalize hh : ms[k]'hlt = m at *
            clear hh
            go_wp2_with fail
            refine (refName _ _ (by omega)).mono ?_
            rintro e w1 ⟨rfl, rfl⟩
            cases hnm : isName m.ref with
            | false =>
              have HN := Lib.hid hnm
              clear hnm
              go_wp2_with fail
              go_ret
              exact ⟨by rw [HFIN.out 23 (by rw [HAT.out, HN.out, if_pos rfl]) (by decide)]; rfl, hxx⟩
            | true =>
              have HN := Lib.hid hnm
              clear hnm
              have HA1 : Hid (chM day ms k = if okDay m.day = false ∨ day < m.day then 13 else if isName m.ins = false then 23 else if numE [m.qty, m.amt] ≠ 0 then numE [m.qty, m.amt] else if m.qty = [] then 2 else if 0 < k ∧ m.day < (ms[k - 1]?.map (·.day)).getD 0 then 8 else 0) := Lib.hid (by rw [HAT.out, HN.out, if_neg (by decide)])
              clear HAT HN
              go_wp2_with fail
              refine (refCheckD _ _).mono ?_
              rintro e w1 ⟨rfl, rfl⟩
              by_cases hdy : okDay m.day = false ∨ day < m.day
              · have HE : Hid (chM day ms k = 13) := Lib.hid (by rw [HA1.out, if_pos hdy])
                cases hok : okDay m.day with
                | false =>
                  have hde : dateErr m.day = 13 := by unfold dateErr; rw [hok]; rfl
                  rw [hde]
                  clear hdy hok hde
                  go_wp2_with fail
                  go_ret
                  exact ⟨by rw [HFIN.out 13 HE.out (by decide)]; rfl, hxx⟩
                | true =>
                  have hde : dateErr m.day = 0 := by unfold dateErr; rw [hok]; rfl
                  have hdd : day < m.day := by rcases hdy with h | h; rw [hok] at h; cases h; exact h
                  rw [hde]
                  clear hdy hok hde
                  go_wp2_with fail
                  go_ret
                  exact ⟨by rw [HFIN.out 13 HE.out (by decide)]; rfl, hxx⟩
              have HA2 : Hid (chM day ms k = if isName m.ins = false then 23 else if numE [m.qty, m.amt] ≠ 0 then numE [m.qty, m.amt] else if m.qty = [] then 2 else if 0 < k ∧ m.day < (ms[k - 1]?.map (·.day)).getD 0 then 8 else 0) := Lib.hid (by rw [HA1.out, if_neg hdy])
              have hok : okDay m.day = true := by cases h : okDay m.day with | true => rfl | false => exact absurd (.inl h) hdy
              have hde : dateErr m.day = 0 := by unfold dateErr; rw [hok]; rfl
              have hdd : ¬ day < m.day := fun h => hdy (.inr h)
              rw [hde]
              clear hdy hok hde HA1
              go_wp2_with fail
              refine (refName _ _ (by omega)).mono ?_
              rintro e w1 ⟨rfl, rfl⟩
              cases hnm : isName m.ins with
              | false =>
                have HN := Lib.hid hnm
                clear hnm
                go_wp2_with fail
                go_ret
                exact ⟨by rw [HFIN.out 23 (by rw [HA2.out, HN.out, if_pos rfl]) (by decide)]; rfl, hxx⟩
              | true =>
                have HN := Lib.hid hnm
                clear hnm
                have HA3 : Hid (chM day ms k = if numE [m.qty, m.amt] ≠ 0 then numE [m.qty, m.amt] else if m.qty = [] then 2 else if 0 < k ∧ m.day < (ms[k - 1]?.map (·.day)).getD 0 then 8 else 0) := Lib.hid (by rw [HA2.out, HN.out, if_neg (by decide)])
                clear HA2 HN
                go_wp2_with fail
                refine (refCheckI _ _ (by omega)).mono ?_
                rintro e w1 ⟨rfl, rfl⟩
                by_cases hq : checkI m.qty = 0
                · by_cases ha : checkI m.amt = 0
                  · rw [hq]
                    go_wp2_with fail
                    refine (refCheckI _ _ (by omega)).mono ?_
                    rintro e w1 ⟨rfl, rfl⟩
                    rw [ha]
                    go_wp2_with fail
                    refine (refDigs _ _ (by omega)).mono ?_
                    rintro e w1 ⟨rfl, rfl⟩
                    by_cases hdq : 40 < digs m.qty
                    · have HE : Hid (chM day ms k = 4) := Lib.hid (by
                        have : numE [m.qty, m.amt] = 4 := by rw [numE_two, if_neg (fun e => e.elim (fun e => e hq) (fun e => e ha)), if_pos (.inl hdq)]
                        rw [HA3.out, if_pos (by rw [this]; decide), this])
                      clear hq ha
                      go_wp2_with fail
                      go_ret
                      exact ⟨by rw [HFIN.out 4 HE.out (by decide)]; rfl, hxx⟩
                    · go_wp2_with fail
                      refine (refDigs _ _ (by omega)).mono ?_
                      rintro e w1 ⟨rfl, rfl⟩
                      by_cases hda : 40 < digs m.amt
                      · have HE : Hid (chM day ms k = 4) := Lib.hid (by
                          have : numE [m.qty, m.amt] = 4 := by rw [numE_two, if_neg (fun e => e.elim (fun e => e hq) (fun e => e ha)), if_pos (.inr hda)]
                          rw [HA3.out, if_pos (by rw [this]; decide), this])
                        clear hq ha
                        go_wp2_with fail
                        go_ret
                        exact ⟨by rw [HFIN.out 4 HE.out (by decide)]; rfl, hxx⟩
                      · have HA4 : Hid (chM day ms k = if m.qty = [] then 2 else if 0 < k ∧ m.day < (ms[k - 1]?.map (·.day)).getD 0 then 8 else 0) := Lib.hid (by
                          have : numE [m.qty, m.amt] = 0 := by rw [numE_two, if_neg (fun e => e.elim (fun e => e hq) (fun e => e ha)), if_neg (fun e => e.elim (fun h => by omega) (fun h => by omega))]
                          rw [HA3.out, if_neg (fun e => e this)])
                        clear hq ha HA3
                        by_cases hqe : m.qty = []
                        · have hqb : m.qty.isEmpty = true := by simp [hqe]
                          have HE : Hid (chM day ms k = 2) := Lib.hid (by rw [HA4.out, if_pos hqe])
                          clear hqe
                          go_wp2_with fail
                          go_ret
                          exact ⟨by rw [HFIN.out 2 HE.out (by decide)]; rfl, hxx⟩
                        have hqb : m.qty.isEmpty = false := by simpa using hqe
                        have HA5 : Hid (chM day ms k = if 0 < k ∧ m.day < (ms[k - 1]?.map (·.day)).getD 0 then 8 else 0) := Lib.hid (by rw [HA4.out, if_neg hqe])
                        clear hqe HA4
                        by_cases hk0 : 0 < k
                        · have hkp : k - 1 < ms.length := by omega
                          obtain ⟨b', o', e', _, _, hp1, _⟩ := HRR.out.at_ hkp
                          injection e' with e'
                          injection e' with e1 e2
                          subst e1
                          subst e2
                          have hprev : (wr.alloc (.cells #[.string (bs m.ref), .int .i64 m.day, .string (bs m.ins), .string (bs m.qty), .string (bs m.amt)] 50)).cell? ⟨b, o + (k - 1) * 5 + 1, none⟩ = some (.int .i64 (ms[k - 1]'hkp).day) := by
                            rw [World.cell?_alloc_lt _ _ _ (by simpa using hbb)]; exact hp1
                          have HPV := Lib.hid (getD_prevM ms k hkp)
                          have hk0b : decide ((0 : Int) < k) = true := by simp; omega
                          have hkd : IntKind.i64.wrap ((k : Int) - 1) = (k : Int) - 1 := IntWalk.i64_in _ (by omega)
                          have hkt : ((k : Int) - 1).toNat = k - 1 := by omega
                          have hk1 : (1 : Int) ≤ k := by omega
                          clear hp1
                          generalize hpi : (ms[k - 1]'hkp).day = pv at *
                          clear hpi
                          by_cases hl : m.day < pv
                          · have HE : Hid (chM day ms k = 8) := Lib.hid (by rw [HA5.out, HPV.out, if_pos ⟨hk0, hl⟩])
                            go_wp2_with fail
                            go_quiet (fail)
                            go_wp2_with fail
                            go_ret
                            exact ⟨by rw [HFIN.out 8 HE.out (by decide)]; rfl, hxx.drewN _⟩
                          · have HE : Hid (chM day ms k = 0) := Lib.hid (by rw [HA5.out, HPV.out, if_neg (fun e => hl e.2)])
                            go_wp2_with fail
                            go_quiet (fail)
                            go_wp2_with fail
                            go_roundw
                            case rel =>
                              refine ⟨k + 1, by omega, by go_num, fun j hj => ?_, (hx.alloc _).drewN _⟩
                              rcases Nat.lt_or_ge j k with h' | h'
                              · exact HZ.out j h'
                              · obtain rfl : j = k := by omega
                                exact HE.out
                            case measure => simp [intOf]; omega
                        · have hk0b : decide ((0 : Int) < k) = false := by simp; omega
                          have HE : Hid (chM day ms k = 0) := Lib.hid (by rw [HA5.out, if_neg (fun e => hk0 e.1)])
                          go_wp2_with fail
                          go_quiet (fail)
                          go_wp2_with fail
                          go_roundw
                          case rel =>
                            refine ⟨k + 1, by omega, by go_num, fun j hj => ?_, (hx.alloc _).drewN _⟩
                            rcases Nat.lt_or_ge j k with h' | h'
                            · exact HZ.out j h'
                            · obtain rfl : j = k := by omega
                              exact HE.out
                          case measure => simp [intOf]; omega
                  · have HE : Hid (chM day ms k = 1) := Lib.hid (by
                      have : numE [m.qty, m.amt] = 1 := by rw [numE_two, if_pos (.inr ha)]
                      rw [HA3.out, if_pos (by rw [this]; decide), this])
                    have hab : (checkI m.amt != 0) = true := by simpa using ha
                    rw [hq]
                    clear hq ha
                    go_wp2_with fail
                    refine (refCheckI _ _ (by omega)).mono ?_
                    rintro e w1 ⟨rfl, rfl⟩
                    go_wp2_with fail
                    go_ret
                    exact ⟨by rw [HFIN.out 1 HE.out (by decide)]; rfl, hxx⟩
                · have HE : Hid (chM day ms k = 1) := Lib.hid (by
                    have : numE [m.qty, m.amt] = 1 := by rw [numE_two, if_pos (.inl hq)]
                    rw [HA3.out, if_pos (by rw [this]; decide), this])
                  have hqb : (checkI m.qty != 0) = true := by simpa using hq
                  clear hq
                  go_wp2_with fail
                  go_ret
                  exact ⟨by rw [HFIN.out 1 HE.out (by decide)]; rfl, hxx⟩
          · go_wp2_with fail
            go_ret
            exact ⟨by rw [HC.out, firstErr_none _ _ (fun j hj => HZ.out j (by omega))]; rfl, hxc.trans hx⟩
end Go.Proofs.YteeampgbmpolfaaGreatDoor
