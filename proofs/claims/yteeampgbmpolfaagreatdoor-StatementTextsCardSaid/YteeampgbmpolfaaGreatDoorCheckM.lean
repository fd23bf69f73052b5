/- The walks over the program's statement: checkMovements, Check. -/
import Derived.Test.YteeampgbmpolfaaGreatDoorCheckH
namespace Go.Proofs.YteeampgbmpolfaaGreatDoor
open Go.RowKit Go.Shelf
attribute [local go_sem] size_bs toList_bs extract_bs get_bs append_bs lit_append append_lit

theorem getD_prevM (ms : List Mv) (k : Nat) (h : k - 1 < ms.length) : ((ms[k - 1]?.map (·.day)).getD 0) = (ms[k - 1]'h).day := by
  rw [List.getElem?_eq_getElem h]; rfl
theorem chM_at (day : Int) (ms : List Mv) (k : Nat) (hk : k < ms.length) : chM day ms k = (if isName (ms[k]'hk).ref = false then 23 else if okDay (ms[k]'hk).day = false ∨ day < (ms[k]'hk).day then 13 else if isName (ms[k]'hk).ins = false then 23 else if numE [(ms[k]'hk).qty, (ms[k]'hk).amt] ≠ 0 then numE [(ms[k]'hk).qty, (ms[k]'hk).amt] else if (ms[k]'hk).qty = [] then 2 else if 0 < k ∧ (ms[k]'hk).day < (ms[k - 1]?.map (·.day)).getD 0 then 8 else 0) := by
  unfold chM; rw [List.getElem?_eq_getElem hk]

set_option maxHeartbeats 4000000 in
theorem stCheckM (ms : List Mv) (day : Int) (A : Option Addr) (c : Nat) (w : World) (hr : RdM w A ms) (hn : ms.length ≤ 1000000000) (hsm : ∀ m ∈ ms, SmallM m) :
    Calls Tryz.prog 60 #[.slice A ms.length c, .int .i64 day] w fun e w' => e = .returned (.int .i64 (checkM day ms)) ∧ Ext w w' := by
  have HR := Lib.hid hr
  have HS := Lib.hid hsm
  clear hr hsm
  by_cases h64 : 1000 < ms.length
  · have hb : decide ((1000 : Int) < ms.length) = true := by simp; omega
    go_enter Tryz.func60, Tryz.ntmps60
    go_wp2_with fail
    go_ret
    exact ⟨by unfold checkM; rw [if_pos h64]; rfl, Ext.refl _⟩
  have hb : decide ((1000 : Int) < ms.length) = false := by simp; omega
  have HC : Hid (checkM day ms = firstErr (chM day ms) ms.length) := Lib.hid (by unfold checkM; rw [if_neg h64])
  go_enter Tryz.func60, Tryz.ntmps60
  go_wp2_with fail
  go_loopw [13] (fun i wr => ∃ k : Nat, k ≤ ms.length ∧ i = .int .i64 k ∧ (∀ j, j < k → chM day ms j = 0) ∧ Ext w wr) (fun i _ => ms.length - (intOf i).toNat)
  case atStart => exact ⟨0, by omega, rfl, fun j hj => absurd hj (by omega), Ext.refl _⟩
  case round =>
    obtain ⟨k, hk, rfl, hz, hx⟩ := hrel
    have HZ := Lib.hid hz
    clear hz
    by_cases hlt : k < ms.length
    · have hR := HR.out.ext hx
      obtain ⟨b, o, rfl, hb1, hc1, hc2, hc3, hc4, hc5⟩ := hR.at_ hlt
      have HRR := Lib.hid hR
      obtain ⟨hs1, hs2, hs3, hs4⟩ := HS.out _ (List.getElem_mem hlt)
      have HAT := Lib.hid (chM_at day ms k hlt)
      have HHIT := Lib.hid (firstErr_hit (chM day ms) ms.length k hlt HZ.out)
      clear hR
      generalize hh : ms[k]'hlt = m at *
      have HH := Lib.hid hh
      clear hh
      go_wp2_with fail
      refine (insName _ _ (by omega)).mono ?_
      rintro e w1 ⟨rfl, hx1⟩
      cases hnm : isName m.ref with
      | false =>
        have HN := Lib.hid hnm
        clear hnm
        go_wp2_with fail
        go_ret
        exact ⟨by rw [HC.out, HHIT.out (by rw [HAT.out, HN.out, if_pos rfl]; decide), HAT.out, HN.out, if_pos rfl]; rfl, ((hx.alloc _).trans hx1)⟩
      | true =>
        have HN := Lib.hid hnm
        clear hnm
        have HA1 : Hid (chM day ms k = if okDay m.day = false ∨ day < m.day then 13 else if isName m.ins = false then 23 else if numE [m.qty, m.amt] ≠ 0 then numE [m.qty, m.amt] else if m.qty = [] then 2 else if 0 < k ∧ m.day < (ms[k - 1]?.map (·.day)).getD 0 then 8 else 0) := Lib.hid (by rw [HAT.out, HN.out, if_neg (by decide)])
        clear HAT HN
        obtain ⟨hrc, hrf⟩ := hx1.rules
        have hsz1 := hx1.size
        simp only [World.size_alloc] at hrc hrf hsz1
        go_wp2_with fail
        refine (stValid _ _).mono ?_
        rintro e w1' ⟨rfl, rfl⟩
        by_cases hd : okDay m.day = false ∨ day < m.day
        · have HA2 : Hid (chM day ms k = 13) := Lib.hid (by rw [HA1.out, if_pos hd])
          cases hok : okDay m.day with
          | false =>
            clear hd hok
            go_wp2_with fail
            go_ret
            exact ⟨by rw [HC.out, HHIT.out (by rw [HA2.out]; decide), HA2.out]; rfl, ((hx.alloc _).trans hx1)⟩
          | true =>
            have hdd : day < m.day := by rcases hd with h | h; rw [hok] at h; cases h; exact h
            clear hd hok
            go_wp2_with fail
            go_ret
            exact ⟨by rw [HC.out, HHIT.out (by rw [HA2.out]; decide), HA2.out]; rfl, ((hx.alloc _).trans hx1)⟩
        have HA2 : Hid (chM day ms k = if isName m.ins = false then 23 else if numE [m.qty, m.amt] ≠ 0 then numE [m.qty, m.amt] else if m.qty = [] then 2 else if 0 < k ∧ m.day < (ms[k - 1]?.map (·.day)).getD 0 then 8 else 0) := Lib.hid (by rw [HA1.out, if_neg hd])
        have hok : okDay m.day = true := by cases h : okDay m.day with | true => rfl | false => exact absurd (.inl h) hd
        have hdd : ¬ day < m.day := fun h => hd (.inr h)
        rw [hok]
        clear hd hok HA1
        go_wp2_with fail
        refine (insName _ _ (by omega)).mono ?_
        rintro e w2 ⟨rfl, hx2⟩
        cases hnm : isName m.ins with
        | false =>
          have HN := Lib.hid hnm
          clear hnm
          go_wp2_with fail
          go_ret
          exact ⟨by rw [HC.out, HHIT.out (by rw [HA2.out, HN.out, if_pos rfl]; decide), HA2.out, HN.out, if_pos rfl]; rfl, ((hx.alloc _).trans hx1).trans hx2⟩
        | true =>
          have HN := Lib.hid hnm
          clear hnm
          have HA3 : Hid (chM day ms k = if numE [m.qty, m.amt] ≠ 0 then numE [m.qty, m.amt] else if m.qty = [] then 2 else if 0 < k ∧ m.day < (ms[k - 1]?.map (·.day)).getD 0 then 8 else 0) := Lib.hid (by rw [HA2.out, HN.out, if_neg (by decide)])
          clear HA2 HN
          have hx12 := hx1.trans hx2
          obtain ⟨hrc2, hrf2⟩ := hx12.rules
          have hsz2 := hx12.size
          simp only [World.size_alloc] at hrc2 hrf2 hsz2
          clear hrc hrf hsz1
          go_wp2_with fail
          refine (stNumber [m.qty, m.amt] (some ⟨w2.heap.size, 0, none⟩) 2 _ (Reads.lit rfl) (by simp) (by simp; omega)).mono ?_
          rintro e w3 ⟨rfl, hx3'⟩
          have hx3 := hx12.trans hx3'.of_alloc
          obtain ⟨hrc3, hrf3⟩ := hx3.rules
          have hsz3 := hx3.size
          simp only [World.size_alloc] at hrc3 hrf3 hsz3
          clear hrc2 hrf2 hsz2
          by_cases hnz : numE [m.qty, m.amt] = 0
          · have HA4 : Hid (chM day ms k = if m.qty = [] then 2 else if 0 < k ∧ m.day < (ms[k - 1]?.map (·.day)).getD 0 then 8 else 0) := Lib.hid (by rw [HA3.out, if_neg (fun e => e hnz)])
            rw [hnz]
            clear hnz HA3
            by_cases hq : m.qty = []
            · have hqb : m.qty.isEmpty = true := by simp [hq]
              have HQ := Lib.hid hq
              clear hq
              go_wp2_with fail
              go_ret
              exact ⟨by rw [HC.out, HHIT.out (by rw [HA4.out, if_pos HQ.out]; decide), HA4.out, if_pos HQ.out]; rfl, (hx.alloc _).trans hx3⟩
            · have hqb : m.qty.isEmpty = false := by simpa using hq
              have HA5 : Hid (chM day ms k = if 0 < k ∧ m.day < (ms[k - 1]?.map (·.day)).getD 0 then 8 else 0) := Lib.hid (by rw [HA4.out, if_neg hq])
              clear hq HA4
              have hbox : w3.cell? ⟨wr.heap.size, 1, none⟩ = some (.int .i64 m.day) := by rw [hrc3 _ _ (by omega)]; simp
              have hbox1 : w3.cell? ⟨wr.heap.size, 3, none⟩ = some (.string (bs m.qty)) := by rw [hrc3 _ _ (by omega)]; simp
              clear hrc3 hrf3
              by_cases hk0 : 0 < k
              · have hkp : k - 1 < ms.length := by omega
                obtain ⟨b', o', e', _, _, hp1, _⟩ := HRR.out.at_ hkp
                injection e' with e'
                injection e' with e1 e2
                subst e1
                subst e2
                have hprev : w3.cell? ⟨b, o + (k - 1) * 5 + 1, none⟩ = some (.int .i64 (ms[k - 1]'hkp).day) := by
                  rw [(hx3.cell (p := ⟨b, o + (k - 1) * 5 + 1, none⟩) (by simp only [World.size_alloc]; omega))]
                  rw [World.cell?_alloc_lt _ _ _ (by simpa using hb1)]; exact hp1
                have HPV := Lib.hid (getD_prevM ms k hkp)
                have hk0b : decide ((0 : Int) < k) = true := by simp; omega
                have hkd : IntKind.i64.wrap ((k : Int) - 1) = (k : Int) - 1 := IntWalk.i64_in _ (by omega)
                have hkt : ((k : Int) - 1).toNat = k - 1 := by omega
                have hk1 : (1 : Int) ≤ k := by omega
                clear hp1
                generalize hpi : (ms[k - 1]'hkp).day = pv at *
                clear hpi
                by_cases hl : m.day < pv
                · have HE : Hid (chM day ms k = 8) := Lib.hid (by rw [HA5.out, HPV.out, if_pos ⟨hk0, hl⟩])
                  go_wp2_with fail
                  go_quiet (fail)
                  go_wp2_with fail
                  go_ret
                  exact ⟨by rw [HC.out, HHIT.out (by rw [HE.out]; decide), HE.out]; rfl, ((hx.alloc _).trans hx3).drewN _⟩
                · have HE : Hid (chM day ms k = 0) := Lib.hid (by rw [HA5.out, HPV.out, if_neg (fun e => hl e.2)])
                  go_wp2_with fail
                  go_quiet (fail)
                  go_wp2_with fail
                  go_roundw
                  case rel =>
                    refine ⟨k + 1, by omega, by go_num, fun j hj => ?_, ((hx.alloc _).trans hx3).drewN _⟩
                    rcases Nat.lt_or_ge j k with h' | h'
                    · exact HZ.out j h'
                    · obtain rfl : j = k := by omega
                      exact HE.out
                  case measure => simp [intOf]; omega
              · have hk0b : decide ((0 : Int) < k) = false := by simp; omega
                have HE : Hid (chM day ms k = 0) := Lib.hid (by rw [HA5.out, if_neg (fun e => hk0 e.1)])
                go_wp2_with fail
                go_quiet (fail)
                go_wp2_with fail
                go_roundw
                case rel =>
                  refine ⟨k + 1, by omega, by go_num, fun j hj => ?_, ((hx.alloc _).trans hx3).drewN _⟩
                  rcases Nat.lt_or_ge j k with h' | h'
                  · exact HZ.out j h'
                  · obtain rfl : j = k := by omega
                    exact HE.out
                case measure => simp [intOf]; omega
          · have hnb : (numE [m.qty, m.amt] != 0) = true := by simpa using hnz
            have HE : Hid (chM day ms k = numE [m.qty, m.amt]) := Lib.hid (by rw [HA3.out, if_pos hnz])
            have HNZ := Lib.hid hnz
            clear hnz
            go_wp2_with fail
            go_ret
            exact ⟨by rw [HC.out, HHIT.out (by rw [HE.out]; exact HNZ.out), HE.out]; rfl, (hx.alloc _).trans hx3⟩
    · go_wp2_with fail
      go_ret
      exact ⟨by rw [HC.out, firstErr_none _ _ (fun j hj => HZ.out j (by omega))]; rfl, hx⟩
end Go.Proofs.YteeampgbmpolfaaGreatDoor
