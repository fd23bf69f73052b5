/- The walk over the reference's read. -/
import Derived.Test.YteeampgbmpolfaaGreatDoorStAt
import Derived.Test.YteeampgbmpolfaaGreatDoorParseP
import Derived.Test.YteeampgbmpolfaaGreatDoorRefParse
import Derived.Test.YteeampgbmpolfaaGreatDoorRefInt
import Derived.IntWalk
namespace Go.Proofs.YteeampgbmpolfaaGreatDoor
open Go.RowKit
attribute [local go_sem] size_bs toList_bs extract_bs get_bs append_bs lit_append append_lit

/-- how a line's reading ends -/
def ReadEnds (base g : Nat) (t : TypeId) (more : Bool → List Value) (s : St) (first : Bool) (ws : List Bs) (w : World) (e : Ending) (w' : World) : Prop :=
  ∃ ok : Bool, e = .returned (.bool ok) ∧ BelG base g w w' ∧ (∀ s', stepW s first ws = some s' → (ok = true ∧ StAt w' base g t (more true) s')) ∧ (stepW s first ws = none → ok = false)
theorem ReadEnds.no {base g : Nat} {t : TypeId} {more : Bool → List Value} {s : St} {first : Bool} {ws : List Bs} {w w' : World} (h : stepW s first ws = none) (hb : Below base w w') : ReadEnds base g t more s first ws w (.returned (.bool false)) w' :=
  ⟨false, rfl, BelG.of hb, (fun s' h' => by rw [h] at h'; cases h'), (fun _ => rfl)⟩
theorem stepW_empty {s : St} {first : Bool} {ws : List Bs} (h : [] ∈ ws) : stepW s first ws = none := by
  unfold stepW
  split
  · rename_i a b
    rw [if_neg]; rintro ⟨_, h1, h2⟩
    simp at h; rcases h with h | h
    · rw [h] at h1; cases h1
    · rw [h, parseDE_nil] at h2; cases h2
  · rename_i a b c
    rw [if_neg]; rintro ⟨_, h1, _, h2, h3⟩
    simp at h; rcases h with h | h | h
    · rw [h] at h1; cases h1
    · exact h2 h
    · rw [h, parseIE_nil] at h3; cases h3
  · rename_i a b c d e f
    rw [if_neg]; rintro ⟨_, h1, h2, h3, h4, h5, h6⟩
    simp at h; rcases h with h | h | h | h | h | h
    · rw [h] at h1; cases h1
    · exact h2 h
    · rw [h, parseDE_nil] at h4; cases h4
    · exact h3 h
    · rw [h, parseIE_nil] at h5; cases h5
    · rw [h, parseIE_nil] at h6; cases h6
  · rfl

theorem ReadEnds.yes {base g : Nat} {t : TypeId} {more : Bool → List Value} {s s2 : St} {first : Bool} {ws : List Bs} {w w' : World} {c : Prop} [Decidable c] {ok : Bool} (h : stepW s first ws = if c then some s2 else none) (hok : ok = decide c) (hb : BelG base g w w') (hS : StAt w' base g t (more true) s2) : ReadEnds base g t more s first ws w (.returned (.bool ok)) w' := by
  refine ⟨ok, rfl, hb, ?_, ?_⟩
  · intro s' h'
    rw [h] at h'
    split at h'
    · rename_i hc; injection h' with h'; subst h'; exact ⟨by rw [hok, decide_eq_true hc], hS⟩
    · cases h'
  · intro h'
    rw [h] at h'
    split at h'
    · cases h'
    · rename_i hc; rw [hok, decide_eq_false hc]
theorem stepW_len {s : St} {first : Bool} {ws : List Bs} (h2 : first = true → ws.length ≠ 2) (h3 : first = false → ws.length ≠ 3) (h6 : first = false → ws.length ≠ 6) : stepW s first ws = none := by
  unfold stepW
  split
  · rw [if_neg]; rintro ⟨h, _⟩; exact h2 h rfl
  · rw [if_neg]; rintro ⟨h, _⟩; exact h3 h rfl
  · rw [if_neg]; rintro ⟨h, _⟩; exact h6 h rfl
  · rfl
theorem len2 {ws : List Bs} (h : ws.length = 2) : ∃ a b, ws = [a, b] := by
  match ws, h with
  | [a, b], _ => exact ⟨a, b, rfl⟩
theorem len3 {ws : List Bs} (h : ws.length = 3) : ∃ a b c, ws = [a, b, c] := by
  match ws, h with
  | [a, b, c], _ => exact ⟨a, b, c, rfl⟩
theorem len6 {ws : List Bs} (h : ws.length = 6) : ∃ a b c d e f, ws = [a, b, c, d, e, f] := by
  match ws, h with
  | [a, b, c, d, e, f], _ => exact ⟨a, b, c, d, e, f, rfl⟩
theorem RdS.cells {w : World} {b o : Nat} {ls : List Bs} (h : RdS w (some ⟨b, o, none⟩) ls) {k : Nat} {x : Bs} (hk : ls[k]? = some x) : w.cell? ⟨b, o + k, none⟩ = some (.string (bs x)) :=
  Reads.cell h (by simp [scells, hk])

set_option maxRecDepth 100000 in
set_option maxHeartbeats 4000000 in
theorem refRead (s : St) (line : Bs) (ws : List Bs) (hws : splitOn 32 line = ws) (first : Bool) (base g : Nat) (w : World) (hS : StAt w base g 26 [] s) (hbw : base ≤ w.heap.size) (hl : line.length ≤ 100000) (hn1 : s.hs.length ≤ 1000000) (hn2 : s.ms.length ≤ 1000000) :
    Calls Tryz.prog 51 #[.pointer (some ⟨g, 0, none⟩), .string (bs line), .bool first] w (ReadEnds base g 26 (fun _ => []) s first ws w) := by
  obtain ⟨iH, hiH, hzH0, hzH1, hzH2⟩ := info_parts holdInfo
  obtain ⟨iM, hiM, hzM0, hzM1, hzM2⟩ := info_parts movInfo
  obtain ⟨vA, vB, hS⟩ := hS
  have HIH := Lib.hid hiH
  have HIM := Lib.hid hiM
  clear hiH hiM
  have HS := Lib.hid hS
  have hgw := hS.1.lt
  obtain ⟨aA, cA, rfl⟩ := own_len hS.2.2.1
  obtain ⟨aB, cB, rfl⟩ := own_len hS.2.2.2
  clear hS
  have hwl := splitOn_len 32 line
  have hwm := splitOn_mem 32 line
  rw [hws] at hwl hwm
  have HWM := Lib.hid hwm
  clear hwm
  go_enter Tryz.func51, Tryz.ntmps51
  go_wp2_with fail
  refine (refCut line 32 _ (by omega)).mono ?_
  rw [hws]
  rintro e w1 ⟨A, cap, rfl, hR, hx1⟩
  clear hws
  have HR := Lib.hid hR
  clear hR
  go_wp2_with fail
  go_loop [8] (fun i => ∃ k : Nat, k ≤ ws.length ∧ i = .int .i64 k ∧ (∀ (j : Nat) (hj : j < ws.length), j < k → (ws[j]'hj) ≠ [])) (fun i => ws.length - (intOf i).toNat)
  case atStart => exact ⟨0, by omega, rfl, fun j _ hj => absurd hj (by omega)⟩
  case round =>
    obtain ⟨k, hk, rfl, hz⟩ := hrel
    have HZ := Lib.hid hz
    clear hz
    by_cases hlt : k < ws.length
    · obtain ⟨b, o, rfl, hb, hc⟩ := HR.out.at_ hlt
      by_cases he : (ws[k]'hlt) = []
      · have heb : (ws[k]'hlt).isEmpty = true := by simp [he]
        have HN := Lib.hid (stepW_empty (s := s) (first := first) (ws := ws) (by rw [← he]; exact List.getElem_mem hlt))
        clear he
        go_wp2_with fail
        go_ret
        exact ReadEnds.no HN.out (Below.mono hx1 hbw)
      · have heb : (ws[k]'hlt).isEmpty = false := by simpa using he
        have HE := Lib.hid he
        clear he
        go_wp2_with fail
        go_round
        case rel =>
          refine ⟨k + 1, by omega, by go_num, fun j hj hjk => ?_⟩
          rcases Nat.lt_or_ge j k with h | h
          · exact HZ.out j hj h
          · obtain rfl : j = k := by omega
            exact HE.out
        case measure => simp [intOf]; omega
    · have HALL : Hid (∀ p ∈ ws, p ≠ []) := Lib.hid (fun p hp => by
        obtain ⟨j, hj, rfl⟩ := List.mem_iff_getElem.1 hp
        exact HZ.out j hj (by omega))
      clear HZ
      cases first with
      | true =>
        by_cases h2 : ws.length = 2
        · obtain ⟨a, b, rfl⟩ := len2 h2
          obtain rfl : k = 2 := by simp at hk hlt; omega
          clear h2 hk hlt
          obtain ⟨bb, oo, rfl, hbb, hc0⟩ := HR.out.at_ (k := 0) (by simp)
          have hc1 := HR.out.cells (k := 1) rfl
          simp only [List.getElem_cons_zero, Nat.add_zero] at hc0
          have hbl : b.length ≤ line.length := HWM.out b (by simp)
          by_cases ha : a = wStatement
          · have hab : (a == [115, 116, 97, 116, 101, 109, 101, 110, 116]) = true := by rw [beq_iff_eq]; exact ha
            have HST : Hid (stepW s true [a, b] = if parseDE b = 0 then some { s with day := parseDV b } else none) := Lib.hid (by simp [stepW, ha])
            clear ha
            go_wp2_with fail
            refine (refParseD b _ (by omega)).mono ?_
            rintro e w2 ⟨rfl, hx2⟩
            have hS2 := (HS.out.ext hx1).ext hx2
            have hd0 := hS2.1.cell 0
            have hd1 := hS2.1.frozen 0
            simp only [List.getElem?_toArray, List.getElem?_cons_zero, List.getElem?_cons_succ] at hd0
            have HS2 := Lib.hid hS2
            clear hS2
            generalize hdv : parseDV b = dv at *
            generalize hde : parseDE b = de at *
            go_wp2_with fail
            go_ret
            refine ReadEnds.yes HST.out ?_ ?_ ?_
            · rfl
            · exact (BelG.of (Below.mono (hx1.trans hx2) hbw)).setCell _ _
            · exact ⟨_, _, HS2.out.set_ (by decide) (by decide) dv [] 0 _ rfl⟩
          · have hab : (a == [115, 116, 97, 116, 101, 109, 101, 110, 116]) = false := by rw [beq_eq_false_iff_ne]; exact ha
            have HST : Hid (stepW s true [a, b] = none) := Lib.hid (by simp [stepW, ha])
            clear ha
            go_wp2_with fail
            go_ret
            exact ReadEnds.no HST.out (Below.mono hx1 hbw)
        · have hb2 : ((ws.length : Int) != 2) = true := by rw [bne_iff_ne]; omega
          have HST : Hid (stepW s true ws = none) := Lib.hid (stepW_len (fun _ => h2) (fun h => by cases h) (fun h => by cases h))
          clear h2
          go_wp2_with fail
          go_ret
          exact ReadEnds.no HST.out (Below.mono hx1 hbw)
      | false =>
        by_cases h3 : ws.length = 3
        · obtain ⟨a, b, c, rfl⟩ := len3 h3
          obtain rfl : k = 3 := by simp at hk hlt; omega
          clear h3 hk hlt
          obtain ⟨bb, oo, rfl, hbb, hc0⟩ := HR.out.at_ (k := 0) (by simp)
          have hc1 := HR.out.cells (k := 1) rfl
          have hc2 := HR.out.cells (k := 2) rfl
          simp only [List.getElem_cons_zero, Nat.add_zero] at hc0
          have hbl : c.length ≤ line.length := HWM.out c (by simp)
          have hbne : b ≠ [] := HALL.out b (by simp)
          have HBNE := Lib.hid hbne
          clear hbne
          have hS1 := HS.out.ext hx1
          have hd1 := hS1.1.cell 1
          have hd2 := hS1.1.cell 2
          have hf1 := hS1.1.frozen 1
          simp only [List.getElem?_toArray, List.getElem?_cons_zero, List.getElem?_cons_succ] at hd1 hd2
          have hgw1 := hS1.1.lt
          have HS1 := Lib.hid hS1
          clear hS1
          by_cases ha : a = wHolding
          · have hab : (a == [104, 111, 108, 100, 105, 110, 103]) = true := by rw [beq_iff_eq]; exact ha
            by_cases hms : s.ms = []
            · have HST : Hid (stepW s false [a, b, c] = if parseIE c = 0 then some { s with hs := s.hs ++ [⟨b, parseIV c⟩] } else none) := Lib.hid (by simp [stepW, ha, hms, HBNE.out])
              have hm0 : s.ms.length = 0 := by rw [hms]; rfl
              have hmb : ((s.ms.length : Int) == 0) = true := by rw [hm0]; rfl
              clear ha hms
              go_wp2_with fail
              refine (refParseI c _ (by omega)).mono ?_
              rintro e w2 ⟨rfl, rfl⟩
              generalize hdv : parseIV c = dv at *
              generalize hde : parseIE c = de at *
              go_wp2_with fail
              go_region_law ((refine step_append_lies _ (by rfl) (.tmp 83) (.tmp 89) 23 (by rfl) base 45 iH _ 2 32 Tryz.underlying23 HIH.out hzH0 hzH1 hzH2 rfl (by decide) (.slice aA s.hs.length cA) s.hs.length (hcells s.hs) (by simp [Act.eval, Act.put]) (HS1.out.2.2.1.drew.alloc _) ⟨w1.heap.size, 0, none⟩ 1 1 [.string (bs b), .string (bs dv)] (by simp [Act.eval, Act.put]) rfl (World.news_of_block (heap_alloc_new w1.drew _)) (by simp [Value.oneCell']) (by omega) (by simp only [maxLen]; omega) (by omega) (by have := hx1.size; simp; omega) _ rfl ?_); intro g' cap' w' hown hgrow hat hlt'; (have hb' := StAtV.growA ((HS1.out.ext (Ext.refl w1).drew).ext (Ext.new _ _)) (by decide) hgrow); (have hg1 := hb'.cell 1); (have hg2 := hb'.frozen 1); (simp only [List.getElem?_toArray, List.getElem?_cons_zero, List.getElem?_cons_succ] at hg1); clear hb')
              all_goals
                go_wp2_with fail
                go_ret
                refine ReadEnds.yes HST.out ?_ ?_ ?_
                · rfl
                · exact (BelG.of (Below.grown (Below.alloc (Below.mono hx1 hbw).drew (by have := hx1.size; simp; omega) _) hgrow (by have := hx1.size; simp; omega) (own_ge HS1.out.2.2.1))).setCell _ _
                · exact StAtV.addH (x := ⟨b, dv⟩) ((HS1.out.ext (Ext.refl w1).drew).ext (Ext.new _ _)) (by decide) (by decide) hgrow hown
            · have HST : Hid (stepW s false [a, b, c] = none) := Lib.hid (by simp [stepW, hms])
              have hm0 : 0 < s.ms.length := List.length_pos_iff.2 hms
              have hmb : ((s.ms.length : Int) == 0) = false := by rw [beq_eq_false_iff_ne]; omega
              clear ha hms
              go_wp2_with fail
              go_ret
              exact ReadEnds.no HST.out (Below.mono hx1 hbw)
          · have hab : (a == [104, 111, 108, 100, 105, 110, 103]) = false := by rw [beq_eq_false_iff_ne]; exact ha
            have HST : Hid (stepW s false [a, b, c] = none) := Lib.hid (by simp [stepW, ha])
            clear ha
            go_wp2_with fail
            go_ret
            exact ReadEnds.no HST.out (Below.mono hx1 hbw)
        by_cases h6 : ws.length = 6
        · obtain ⟨a, b, c, d, e, f, rfl⟩ := len6 h6
          obtain rfl : k = 6 := by simp at hk hlt; omega
          clear h3 h6 hk hlt
          obtain ⟨bb, oo, rfl, hbb, hc0⟩ := HR.out.at_ (k := 0) (by simp)
          have hc1 := HR.out.cells (k := 1) rfl
          have hc2 := HR.out.cells (k := 2) rfl
          have hc3 := HR.out.cells (k := 3) rfl
          have hc4 := HR.out.cells (k := 4) rfl
          have hc5 := HR.out.cells (k := 5) rfl
          simp only [List.getElem_cons_zero, Nat.add_zero] at hc0
          have hlc : c.length ≤ line.length := HWM.out c (by simp)
          have hle : e.length ≤ line.length := HWM.out e (by simp)
          have hlf : f.length ≤ line.length := HWM.out f (by simp)
          have HBNE := Lib.hid (HALL.out b (by simp))
          have HDNE := Lib.hid (HALL.out d (by simp))
          by_cases ha : a = wMovement
          · have hab : (a == [109, 111, 118, 101, 109, 101, 110, 116]) = true := by rw [beq_iff_eq]; exact ha
            have HST : Hid (stepW s false [a, b, c, d, e, f] = if parseDE c = 0 ∧ parseIE e = 0 ∧ parseIE f = 0 then some { s with ms := s.ms ++ [⟨b, parseDV c, d, parseIV e, parseIV f⟩] } else none) := Lib.hid (by simp [stepW, ha, HDNE.out, HBNE.out])
            clear ha
            go_wp2_with fail
            refine (refParseD c _ (by omega)).mono ?_
            rintro e2 w2 ⟨rfl, hx2⟩
            have hr1 := (hx2.cell (p := ⟨bb, oo + 1, none⟩) hbb).trans hc1
            have hr3 := (hx2.cell (p := ⟨bb, oo + 3, none⟩) hbb).trans hc3
            have hr4 := (hx2.cell (p := ⟨bb, oo + 4, none⟩) hbb).trans hc4
            have hr5 := (hx2.cell (p := ⟨bb, oo + 5, none⟩) hbb).trans hc5
            have hbb2 : bb < w2.heap.size := Nat.lt_of_lt_of_le hbb hx2.size
            clear hc0 hc1 hc2 hc3 hc4 hc5 hbb
            have hx12 := hx1.trans hx2
            have hS2 := HS.out.ext hx12
            have hd1 := hS2.1.cell 1
            have hd2 := hS2.1.cell 2
            have hf2 := hS2.1.frozen 2
            simp only [List.getElem?_toArray, List.getElem?_cons_zero, List.getElem?_cons_succ] at hd1 hd2
            have hgw2 := hS2.1.lt
            have HS2 := Lib.hid hS2
            clear hS2 hx1 hx2
            generalize hdv : parseDV c = dv at *
            generalize hde : parseDE c = de at *
            go_wp2_with fail
            refine (refParseI e _ (by omega)).mono ?_
            rintro e3 w3 ⟨rfl, rfl⟩
            generalize hqv : parseIV e = qv at *
            generalize hqe : parseIE e = qe at *
            go_wp2_with fail
            refine (refParseI f _ (by omega)).mono ?_
            rintro e3 w3 ⟨rfl, rfl⟩
            generalize hav : parseIV f = av at *
            generalize hae : parseIE f = ae at *
            have HE1 := Lib.hid hdv
            have HE2 := Lib.hid hde
            have HE3 := Lib.hid hqv
            have HE4 := Lib.hid hqe
            have HE5 := Lib.hid hav
            have HE6 := Lib.hid hae
            clear hdv hde hqv hqe hav hae
            go_wp2_with fail
            go_region_law ((refine step_append_lies _ (by rfl) (.tmp 129) (.tmp 140) 24 (by rfl) base 50 iM _ 5 72 Tryz.underlying24 HIM.out hzM0 hzM1 hzM2 rfl (by decide) (.slice aB s.ms.length cB) s.ms.length (mcells s.ms) (by simp [Act.eval, Act.put]) (HS2.out.2.2.2.drew.alloc _) ⟨w2.heap.size, 0, none⟩ 1 1 [.string (bs b), .int .i64 dv, .string (bs d), .string (bs qv), .string (bs av)] (by simp [Act.eval, Act.put]) rfl (World.news_of_block (heap_alloc_new w2.drew _)) (by simp [Value.oneCell']) (by omega) (by simp only [maxLen]; omega) (by omega) (by have := hx12.size; simp; omega) _ rfl ?_); intro g' cap' w' hown hgrow hat hlt'; (have hb' := StAtV.growB ((HS2.out.ext (Ext.refl w2).drew).ext (Ext.new _ _)) (by decide) hgrow); (have hg1 := hb'.cell 2); (have hg2 := hb'.frozen 2); (simp only [List.getElem?_toArray, List.getElem?_cons_zero, List.getElem?_cons_succ] at hg1); clear hb')
            all_goals
              have HFIN : ∀ ok : Bool, ok = decide (de = 0 ∧ qe = 0 ∧ ae = 0) → ReadEnds base g 26 (fun _ => []) s false [a, b, c, d, e, f] w (.returned (.bool ok)) (w'.setCell ⟨g, 2, none⟩ (.slice (some ⟨g', 0, none⟩) (s.ms.length + 1) cap')) := fun ok hok => by
                refine ReadEnds.yes HST.out hok ?_ ?_
                · exact (BelG.of (Below.grown (Below.alloc (Below.mono hx12 hbw).drew (by have := hx12.size; simp; omega) _) hgrow (by have := hx12.size; simp; omega) (own_ge HS2.out.2.2.2))).setCell _ _
                · exact StAtV.addM (x := ⟨b, dv, d, qv, av⟩) ((HS2.out.ext (Ext.refl w2).drew).ext (Ext.new _ _)) (by decide) (by decide) hgrow hown
              have HF := Lib.hid HFIN
              clear HFIN hown hgrow hat
              by_cases h1 : de = 0
              · have h1b : (de == 0) = true := by rw [beq_iff_eq]; exact h1
                by_cases h2 : qe = 0
                · have h2b : (qe == 0) = true := by rw [beq_iff_eq]; exact h2
                  have HF2 : Hid (∀ ok : Bool, ok = decide (ae = 0) → ReadEnds base g 26 (fun _ => []) s false [a, b, c, d, e, f] w (.returned (.bool ok)) (w'.setCell ⟨g, 2, none⟩ (.slice (some ⟨g', 0, none⟩) (s.ms.length + 1) cap'))) := Lib.hid (fun ok hok => HF.out ok (by rw [hok]; simp [h1, h2]))
                  clear h1 h2 HF
                  go_wp2_with fail
                  go_ret
                  exact HF2.out _ rfl
                · have h2b : (qe == 0) = false := by rw [beq_eq_false_iff_ne]; exact h2
                  have HF2 := Lib.hid (HF.out false (by simp [h2]))
                  clear h1 h2 HF
                  go_wp2_with fail
                  go_ret
                  exact HF2.out
              · have h1b : (de == 0) = false := by rw [beq_eq_false_iff_ne]; exact h1
                have HF2 := Lib.hid (HF.out false (by simp [h1]))
                clear h1 HF
                go_wp2_with fail
                go_ret
                exact HF2.out
          · have hab : (a == [109, 111, 118, 101, 109, 101, 110, 116]) = false := by rw [beq_eq_false_iff_ne]; exact ha
            have HST : Hid (stepW s false [a, b, c, d, e, f] = none) := Lib.hid (by simp [stepW, ha])
            clear ha
            go_wp2_with fail
            go_ret
            exact ReadEnds.no HST.out (Below.mono hx1 hbw)
        · have hb3 : ((ws.length : Int) == 3) = false := by rw [beq_eq_false_iff_ne]; omega
          have hb6 : ((ws.length : Int) == 6) = false := by rw [beq_eq_false_iff_ne]; omega
          have HST : Hid (stepW s false ws = none) := Lib.hid (stepW_len (fun h => by cases h) (fun _ => h3) (fun _ => h6))
          clear h3 h6
          go_wp2_with fail
          go_ret
          exact ReadEnds.no HST.out (Below.mono hx1 hbw)
end Go.Proofs.YteeampgbmpolfaaGreatDoor
