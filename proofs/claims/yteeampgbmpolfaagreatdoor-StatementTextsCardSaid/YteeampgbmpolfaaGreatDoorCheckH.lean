/- The walks over the program's statement: number, checkHoldings. -/
import Derived.Test.YteeampgbmpolfaaGreatDoorCells
import Derived.Test.YteeampgbmpolfaaGreatDoorInt
import Derived.Test.YteeampgbmpolfaaGreatDoorName
import Derived.Test.YteeampgbmpolfaaGreatDoorDate2
import Derived.IntWalk
namespace Go.Proofs.YteeampgbmpolfaaGreatDoor
open Go.RowKit Go.Shelf
attribute [local go_sem] size_bs toList_bs extract_bs get_bs append_bs lit_append append_lit

theorem trimMinus (l : Bs) (w : World) :
    Calls Tryz.prog 133 #[.string (bs l), .string ⟨#[45]⟩] w fun e w' => e = .returned (.string (bs (strip l))) ∧ w = w' := by
  refine (Tryz.strings_TrimPrefix (bs l) ⟨#[45]⟩ w).mono ?_
  rintro e w' ⟨rfl, rfl⟩
  refine ⟨?_, rfl⟩
  rw [data_bs]
  have h1 : Lib.hasPrefix l [45] = isMin l := by
    unfold Lib.hasPrefix isMin
    cases l with
    | nil => rfl
    | cons c r => show (45 == c && true) = (c == 45); rw [Bool.and_true]; exact BEq.comm
  have h2 : Lib.trimPrefix l [45] = strip l := by
    unfold Lib.trimPrefix strip; rw [h1]
    by_cases h : isMin l = true
    · simp [h]
    · simp [h]
  show Ending.returned (.string ⟨(Lib.trimPrefix l [45]).toArray⟩) = _
  rw [h2]; rfl

theorem stValid (d : Int) (w : World) :
    Calls Tryz.prog 58 #[.int .i64 d] w fun e w' => e = .returned (.bool (okDay d)) ∧ w = w' := by
  by_cases a : -25567 ≤ d
  · have ab : decide (-25567 ≤ d) = true := by simp [a]
    go_enter Tryz.func58, Tryz.ntmps58
    go_wp2_with fail
    go_ret
    exact ⟨by simp [okDay, a], rfl⟩
  · have ab : decide (-25567 ≤ d) = false := by simp [a]
    go_enter Tryz.func58, Tryz.ntmps58
    go_wp2_with fail
    go_ret
    exact ⟨by simp [okDay]; omega, rfl⟩

theorem numE1_hit (ls : List Bs) (k : Nat) (hk : k < ls.length) (h : checkI (ls[k]'hk) ≠ 0) : numE ls = 1 := by
  unfold numE; rw [if_pos]; unfold numE1; rw [List.any_eq_true]; exact ⟨_, List.getElem_mem hk, by simp [h]⟩
theorem numE1_none (ls : List Bs) (h : ∀ (j : Nat) (hj : j < ls.length), checkI (ls[j]'hj) = 0) : numE1 ls = false := by
  unfold numE1; rw [List.any_eq_false]; intro x hx
  obtain ⟨j, hj, rfl⟩ := List.mem_iff_getElem.1 hx
  simp [h j hj]
theorem numE4_hit (ls : List Bs) (k : Nat) (hk : k < ls.length) (h1 : numE1 ls = false) (h : 40 < digs (ls[k]'hk)) : numE ls = 4 := by
  unfold numE; rw [h1, if_neg (by simp), if_pos]; unfold numE4; rw [List.any_eq_true]; exact ⟨_, List.getElem_mem hk, by simp [h]⟩
theorem numE4_none (ls : List Bs) (h1 : numE1 ls = false) (h : ∀ (j : Nat) (hj : j < ls.length), digs (ls[j]'hj) ≤ 40) : numE ls = 0 := by
  unfold numE; rw [h1, if_neg (by simp), if_neg]; unfold numE4; rw [List.any_eq_true]; rintro ⟨x, hx, hp⟩
  obtain ⟨j, hj, rfl⟩ := List.mem_iff_getElem.1 hx
  have := h j hj; simp at hp; omega
theorem checkI_01 (l : Bs) : checkI l = 0 ∨ checkI l = 1 := by unfold checkI; split <;> simp

set_option maxHeartbeats 1000000 in
theorem stNumber (ls : List Bs) (A : Option Addr) (c : Nat) (w : World) (hr : RdS w A ls) (hn : ls.length ≤ 1000000) (hs : ∀ l ∈ ls, l.length ≤ 1000000) :
    Calls Tryz.prog 99 #[.slice A ls.length c] w fun e w' => e = .returned (.int .i64 (numE ls)) ∧ Ext w w' := by
  have HR := Lib.hid hr
  have HS := Lib.hid hs
  clear hr hs
  go_enter Tryz.func99, Tryz.ntmps99
  go_wp2_with fail
  go_loopw [9] (fun i wr => ∃ k : Nat, k ≤ ls.length ∧ i = .int .i64 k ∧ (∀ (j : Nat) (hj : j < ls.length), j < k → checkI (ls[j]'hj) = 0) ∧ Ext w wr) (fun i _ => ls.length - (intOf i).toNat)
  case atStart => exact ⟨0, by omega, rfl, fun j _ hj => absurd hj (by omega), Ext.refl _⟩
  case round =>
    obtain ⟨k, hk, rfl, hz, hx⟩ := hrel
    have HZ := Lib.hid hz
    clear hz
    by_cases hlt : k < ls.length
    · obtain ⟨b, o, rfl, hb, hc⟩ := (HR.out.ext hx).at_ hlt
      have hsz : (ls[k]'hlt).length ≤ 1000000 := HS.out _ (List.getElem_mem hlt)
      go_wp2_with fail
      refine (intCheck _ _ (by omega)).mono ?_
      rintro e w1 ⟨rfl, hx1⟩
      rcases checkI_01 (ls[k]'hlt) with h0 | h0
      · rw [h0]
        have H0 := Lib.hid h0
        clear h0
        go_wp2_with fail
        go_roundw
        case rel =>
          refine ⟨k + 1, by omega, by go_num, fun j hj hjk => ?_, hx.trans hx1⟩
          rcases Nat.lt_or_ge j k with h | h
          · exact HZ.out j hj h
          · obtain rfl : j = k := by omega
            exact H0.out
        case measure => simp [intOf]; omega
      · have HN := Lib.hid (numE1_hit ls k hlt (by rw [h0]; decide))
        rw [h0]
        clear h0
        go_wp2_with fail
        go_ret
        exact ⟨by rw [HN.out]; rfl, hx.trans hx1⟩
    · have HE := Lib.hid (numE1_none ls (fun j hj => HZ.out j hj (by omega)))
      go_wp2_with fail
      go_loop [19] (fun i => ∃ k : Nat, k ≤ ls.length ∧ i = .int .i64 k ∧ (∀ (j : Nat) (hj : j < ls.length), j < k → digs (ls[j]'hj) ≤ 40)) (fun i => ls.length - (intOf i).toNat)
      case atStart => exact ⟨0, by omega, rfl, fun j _ hj => absurd hj (by omega)⟩
      case round =>
        obtain ⟨k, hk, rfl, hz⟩ := hrel
        have HZ2 := Lib.hid hz
        clear hz
        by_cases hlt : k < ls.length
        · obtain ⟨b, o, rfl, hb, hc⟩ := (HR.out.ext hx).at_ hlt
          go_wp2_with fail
          refine (trimMinus _ _).mono ?_
          rintro e w1 ⟨rfl, rfl⟩
          have hdg : digs (ls[k]'hlt) = ((strip (ls[k]'hlt)).length : Int) := rfl
          have HDG := Lib.hid hdg
          clear hdg
          by_cases h40 : (40 : Int) < (strip (ls[k]'hlt)).length
          · have HN := Lib.hid (numE4_hit ls k hlt HE.out (by rw [HDG.out]; exact h40))
            have h40b : decide ((40 : Int) < (strip (ls[k]'hlt)).length) = true := by simpa using h40
            go_wp2_with fail
            go_ret
            exact ⟨by rw [HN.out]; rfl, hx⟩
          · have h40b : decide ((40 : Int) < (strip (ls[k]'hlt)).length) = false := by simpa using h40
            go_wp2_with fail
            go_round
            case rel =>
              refine ⟨k + 1, by omega, by go_num, fun j hj hjk => ?_⟩
              rcases Nat.lt_or_ge j k with h | h
              · exact HZ2.out j hj h
              · obtain rfl : j = k := by omega
                rw [HDG.out]; omega
            case measure => simp [intOf]; omega
        · have HN := Lib.hid (numE4_none ls HE.out (fun j hj => HZ2.out j hj (by omega)))
          go_wp2_with fail
          go_ret
          exact ⟨by rw [HN.out]; rfl, hx⟩

theorem getD_prev (hs : List Hd) (k : Nat) (h : k - 1 < hs.length) : ((hs[k - 1]?.map (·.ins)).getD []) = (hs[k - 1]'h).ins := by
  rw [List.getElem?_eq_getElem h]; rfl
theorem chH_at (hs : List Hd) (k : Nat) (hk : k < hs.length) : chH hs k = (if isName (hs[k]'hk).ins = false then 23 else if numE [(hs[k]'hk).qty] ≠ 0 then numE [(hs[k]'hk).qty] else if (hs[k]'hk).qty = [] then 2 else if 0 < k ∧ lt ((hs[k - 1]?.map (·.ins)).getD []) (hs[k]'hk).ins = false then 8 else 0) := by
  unfold chH; rw [List.getElem?_eq_getElem hk]
theorem numE_bd (ls : List Bs) : 0 ≤ numE ls ∧ numE ls ≤ 4 := by unfold numE; split <;> (try split) <;> omega

set_option maxHeartbeats 2000000 in
theorem stCheckH (hs : List Hd) (A : Option Addr) (c : Nat) (w : World) (hr : RdH w A hs) (hn : hs.length ≤ 1000000000) (hsm : ∀ h ∈ hs, SmallH h) :
    Calls Tryz.prog 59 #[.slice A hs.length c] w fun e w' => e = .returned (.int .i64 (checkH hs)) ∧ Ext w w' := by
  have HR := Lib.hid hr
  have HS := Lib.hid hsm
  clear hr hsm
  by_cases h64 : 64 < hs.length
  · have hb : decide ((64 : Int) < hs.length) = true := by simp; omega
    go_enter Tryz.func59, Tryz.ntmps59
    go_wp2_with fail
    go_ret
    exact ⟨by unfold checkH; rw [if_pos h64]; rfl, Ext.refl _⟩
  have hb : decide ((64 : Int) < hs.length) = false := by simp; omega
  have HC : Hid (checkH hs = firstErr (chH hs) hs.length) := Lib.hid (by unfold checkH; rw [if_neg h64])
  go_enter Tryz.func59, Tryz.ntmps59
  go_wp2_with fail
  go_loopw [11] (fun i wr => ∃ k : Nat, k ≤ hs.length ∧ i = .int .i64 k ∧ (∀ j, j < k → chH hs j = 0) ∧ Ext w wr) (fun i _ => hs.length - (intOf i).toNat)
  case atStart => exact ⟨0, by omega, rfl, fun j hj => absurd hj (by omega), Ext.refl _⟩
  case round =>
    obtain ⟨k, hk, rfl, hz, hx⟩ := hrel
    have HZ := Lib.hid hz
    clear hz
    by_cases hlt : k < hs.length
    · have hR := HR.out.ext hx
      obtain ⟨b, o, rfl, hb1, hc1, hc2⟩ := hR.at_ hlt
      have HRR := Lib.hid hR
      obtain ⟨hs1, hs2⟩ := HS.out _ (List.getElem_mem hlt)
      have HAT := Lib.hid (chH_at hs k hlt)
      have HHIT := Lib.hid (firstErr_hit (chH hs) hs.length k hlt HZ.out)
      clear hR
      generalize hh : hs[k]'hlt = h at *
      have HH := Lib.hid hh
      clear hh
      go_wp2_with fail
      refine (insName _ _ (by omega)).mono ?_
      rintro e w1 ⟨rfl, hx1⟩
      cases hnm : isName h.ins with
      | false =>
        have HN := Lib.hid hnm
        clear hnm
        go_wp2_with fail
        go_ret
        exact ⟨by rw [HC.out, HHIT.out (by rw [HAT.out, HN.out, if_pos rfl]; decide), HAT.out, HN.out, if_pos rfl]; rfl, ((hx.alloc _).trans hx1)⟩
      | true =>
        have HN := Lib.hid hnm
        clear hnm
        obtain ⟨hrc, hrf⟩ := hx1.rules
        have hsz1 := hx1.size
        simp only [World.size_alloc] at hrc hrf hsz1
        go_wp2_with fail
        refine (stNumber [h.qty] (some ⟨w1.heap.size, 0, none⟩) 1 _ (Reads.lit rfl) (by simp) (by simp; omega)).mono ?_
        rintro e w2 ⟨rfl, hx2⟩
        have hx3 : Ext (wr.alloc (.cells #[.string (bs h.ins), .string (bs h.qty)] 45)) w2 := hx1.trans hx2.of_alloc
        obtain ⟨hrc2, hrf2⟩ := hx3.rules
        have hsz2 := hx3.size
        simp only [World.size_alloc] at hrc2 hrf2 hsz2
        clear hrc hrf hsz1
        by_cases hnz : numE [h.qty] = 0
        · have HNZ := Lib.hid hnz
          rw [hnz]
          clear hnz
          by_cases hq : h.qty = []
          · have hqb : h.qty.isEmpty = true := by simp [hq]
            have HQ := Lib.hid hq
            clear hq
            go_wp2_with fail
            go_ret
            exact ⟨by rw [HC.out, HHIT.out (by rw [HAT.out, HN.out, if_neg (by decide), if_neg (fun e => e HNZ.out), if_pos HQ.out]; decide), HAT.out, HN.out, if_neg (by decide), if_neg (fun e => e HNZ.out), if_pos HQ.out]; rfl, (hx.alloc _).trans hx3⟩
          · have hqb : h.qty.isEmpty = false := by simpa using hq
            have HQ := Lib.hid hq
            clear hq
            have HAT2 : Hid (chH hs k = if 0 < k ∧ lt ((hs[k - 1]?.map (·.ins)).getD []) h.ins = false then 8 else 0) := Lib.hid (by rw [HAT.out, HN.out, if_neg (by decide), if_neg (fun e => e HNZ.out), if_neg HQ.out])
            have hbox : w2.cell? ⟨wr.heap.size, 0, none⟩ = some (.string (bs h.ins)) := by rw [hrc2 _ _ (by omega)]; simp
            have hbox1 : w2.cell? ⟨wr.heap.size, 1, none⟩ = some (.string (bs h.qty)) := by rw [hrc2 _ _ (by omega)]; simp
            clear hrc2 hrf2
            by_cases hk0 : 0 < k
            · have hkp : k - 1 < hs.length := by omega
              obtain ⟨b', o', e', _, hp1, _⟩ := HRR.out.at_ hkp
              injection e' with e'
              injection e' with e1 e2
              subst e1
              subst e2
              have hprev : w2.cell? ⟨b, o + (k - 1) * 2, none⟩ = some (.string (bs (hs[k - 1]'hkp).ins)) := by
                rw [(hx3.cell (p := ⟨b, o + (k - 1) * 2, none⟩) (by simp only [World.size_alloc]; omega))]
                rw [World.cell?_alloc_lt _ _ _ (by simpa using hb1)]; exact hp1
              have HPV := Lib.hid (getD_prev hs k hkp)
              have hk0b : decide ((0 : Int) < k) = true := by simp; omega
              have hkd : IntKind.i64.wrap ((k : Int) - 1) = (k : Int) - 1 := IntWalk.i64_in _ (by omega)
              have hkt : ((k : Int) - 1).toNat = k - 1 := by omega
              have hk1 : (1 : Int) ≤ k := by omega
              clear hp1
              generalize hpi : (hs[k - 1]'hkp).ins = pv at *
              clear hpi
              have HCMP : Hid ((Op.bytesLess h.ins pv || h.ins == pv) = !lt pv h.ins) := Lib.hid (leq_geq _ _)
              go_wp2_with fail
              go_quiet (fail)
              go_wp2_with fail
              · have hor : Op.bytesLess h.ins pv = true ∨ (h.ins == pv) = true := by assumption
                have hl : lt pv h.ins = false := by
                  have := HCMP.out
                  rw [show (Op.bytesLess h.ins pv || h.ins == pv) = true by rw [Bool.or_eq_true]; exact hor] at this
                  cases hq : lt pv h.ins with
                  | false => rfl
                  | true => rw [hq] at this; cases this
                have HE : chH hs k = 8 := by rw [HAT2.out, HPV.out, hl, if_pos ⟨hk0, rfl⟩]
                go_ret
                exact ⟨by rw [HC.out, HHIT.out (by rw [HE]; decide), HE]; rfl, ((hx.alloc _).trans hx3).drewN _⟩
              · have hor : Op.bytesLess h.ins pv = false ∧ (h.ins == pv) = false := by assumption
                have hl : lt pv h.ins = true := by
                  have := HCMP.out
                  rw [hor.1, hor.2] at this
                  cases hq : lt pv h.ins with
                  | true => rfl
                  | false => rw [hq] at this; cases this
                have HE : chH hs k = 0 := by rw [HAT2.out, HPV.out, hl, if_neg (fun e => by cases e.2)]
                go_roundw
                case rel =>
                  refine ⟨k + 1, by omega, by go_num, fun j hj => ?_, ((hx.alloc _).trans hx3).drewN _⟩
                  rcases Nat.lt_or_ge j k with h' | h'
                  · exact HZ.out j h'
                  · obtain rfl : j = k := by omega
                    exact HE
                case measure => simp [intOf]; omega
            · have hk0b : decide ((0 : Int) < k) = false := by simp; omega
              have HZK : Hid (chH hs k = 0) := Lib.hid (by rw [HAT2.out, if_neg (fun e => hk0 e.1)])
              go_wp2_with fail
              go_quiet (fail)
              go_wp2_with fail
              go_roundw
              case rel =>
                refine ⟨k + 1, by omega, by go_num, fun j hj => ?_, ((hx.alloc _).trans hx3).drewN _⟩
                rcases Nat.lt_or_ge j k with h' | h'
                · exact HZ.out j h'
                · obtain rfl : j = k := by omega
                  exact HZK.out
              case measure => simp [intOf]; omega
        · have HNZ := Lib.hid hnz
          have hnb : (numE [h.qty] != 0) = true := by simpa using hnz
          clear hnz
          go_wp2_with fail
          go_ret
          exact ⟨by rw [HC.out, HHIT.out (by rw [HAT.out, HN.out, if_neg (by decide), if_pos HNZ.out]; exact HNZ.out), HAT.out, HN.out, if_neg (by decide), if_pos HNZ.out]; rfl, (hx.alloc _).trans hx3⟩
    · go_wp2_with fail
      go_ret
      exact ⟨by rw [HC.out, firstErr_none _ _ (fun j hj => HZ.out j (by omega))]; rfl, hx⟩
end Go.Proofs.YteeampgbmpolfaaGreatDoor
