/- The walks over the program's dates: Parse. -/
import Derived.Test.YteeampgbmpolfaaGreatDoorDateOf
import Derived.Test.YteeampgbmpolfaaGreatDoorMem2
namespace Go.Proofs.YteeampgbmpolfaaGreatDoor
open Go.RowKit
attribute [local go_sem] size_bs toList_bs extract_bs get_bs append_bs lit_append append_lit

theorem snocD (t : Bs) (k : Nat) (h : k < t.length) : (t.take (k + 1)).all isD = ((t.take k).all isD && isD (t[k]'h)) := by
  rw [List.take_succ_eq_append_getElem h, List.all_append]; simp
theorem Blk.set1 {w : World} {g : Nat} {t : TypeId} {a : Value} (h : Blk w g t #[a]) (u : Value) : Blk (w.setCell ⟨g, 0, none⟩ u) g t #[u] := by
  have := h.set_ 0 u; simpa using this
theorem notD (c : UInt8) (h : (48 : Int) ≤ c.toNat) : (false || !isD c) = decide ((57 : Int) < c.toNat) := by
  have h1 : 48 ≤ c.toNat := by omega
  unfold isD; rw [decide_eq_true h1, Bool.true_and, Bool.false_or]
  by_cases h2 : c.toNat ≤ 57
  · rw [decide_eq_true h2, decide_eq_false (by omega)]; rfl
  · rw [decide_eq_false h2, decide_eq_true (by omega)]; rfl
theorem isD_int (c : UInt8) : isD c = (decide (48 ≤ (c.toNat : Int)) && decide ((c.toNat : Int) ≤ 57)) := by
  unfold isD; congr 1 <;> simp <;> omega

set_option maxHeartbeats 1000000 in
theorem datNumY (c0 c1 c2 c3 c4 c5 c6 c7 c8 c9 : UInt8) (g1 g : Nat) (wrong : Bool) (w : World) (hc1 : w.cell? ⟨g1, 0, none⟩ = some (.string (bs [c0, c1, c2, c3, c4, c5, c6, c7, c8, c9]))) (hB : Blk w g 4 #[.bool wrong]) :
    Calls Tryz.prog 203 #[.int .i64 0, .int .i64 4, .pointer (some ⟨g1, 0, none⟩), .pointer (some ⟨g, 0, none⟩)] w fun e w' => e = .returned (.int .i64 (numG [c0, c1, c2, c3])) ∧ Blk w' g 4 #[.bool (wrong || !(([c0, c1, c2, c3] : Bs).all isD))] ∧ Only g w w' := by
  obtain ⟨cap, w1, hrun, hx, hsz, hcell⟩ := conv_bytes (P := Tryz.prog) w 9 67 5 [c0, c1, c2, c3] Tryz.underlying9 Tryz.underlying67 Tryz.underlying5
  have HC := Lib.hid hcell
  have hB1 := hB.ext hx
  have hglt := hB.lt
  have hsz' : w.heap.size < w1.heap.size := by omega
  have HX := Lib.hid hx
  have HB := Lib.hid hB1
  clear hcell hsz hB hx hB1
  go_enter Tryz.func203, Tryz.ntmps203
  go_wp2_with fail
  clear hrun hc1
  obtain ⟨t, ht⟩ : ∃ t : Bs, t = [c0, c1, c2, c3] := ⟨_, rfl⟩
  have htl : t.length = 4 := by rw [ht]; rfl
  have HC2 : Hid (∀ (j : Nat) (h : j < t.length), w1.cell? ⟨w.heap.size, j, none⟩ = some (.int .u8 (t[j]'h).toNat)) := by subst ht; exact HC.out
  have HT := Lib.hid ht
  rw [show ([c0, c1, c2, c3] : Bs) = t from ht.symm]
  clear ht HC
  have htl2 : t.length ≤ 4 := by omega
  have htl3 : 4 ≤ t.length := by omega
  clear htl
  go_loopw [7, 16] (fun v i wr => ∃ k : Nat, k ≤ t.length ∧ i = .int .i64 k ∧ v = .int .i64 (numG (t.take k)) ∧ Blk wr g 4 #[.bool (wrong || !((t.take k).all isD))] ∧ Only g w1 wr) (fun _ i _ => 4 - (intOf i).toNat)
  case atStart => exact ⟨0, Nat.zero_le _, rfl, rfl, by simpa using HB.out, Only.refl _ _⟩
  case round =>
    obtain ⟨k, hk, rfl, rfl, hBr, hO⟩ := hrel
    by_cases hlt : k < 4
    · have hkt : k < t.length := by omega
      have hcr : wr.cell? ⟨w.heap.size, k, none⟩ = some (.int .u8 (t[k]'hkt).toNat) := (hO.cell (p := ⟨w.heap.size, k, none⟩) hsz' (by simp; omega)).trans (HC2.out k hkt)
      have hcb := hBr.cell 0
      have hfb := hBr.frozen 0
      simp only [List.getElem?_toArray, List.getElem?_cons_zero] at hcb
      have hnb := numG_bd (t.take k) (by rw [List.length_take]; omega)
      have hsn := numG_snoc (t.take k) (t[k]'hkt)
      rw [← List.take_succ_eq_append_getElem hkt] at hsn
      have HSN := Lib.hid hsn
      have hgw := gb_wrap (t[k]'hkt)
      have hgb := gb_bd (t[k]'hkt)
      have HO := Lib.hid hO
      have HBR := Lib.hid hBr
      have hD := snocD t k hkt
      have HD := Lib.hid hD
      have HIS := Lib.hid (isD_int (t[k]'hkt))
      clear hsn hO hBr hD
      generalize (t.take k).all isD = q at *
      generalize numG (t.take k) = n at *
      have hnew : ∀ z, (wrong || !(q && z)) = ((wrong || !q) || !z) := by intro z; cases wrong <;> cases q <;> cases z <;> rfl
      have HN := Lib.hid hnew
      clear hnew
      generalize (wrong || !q) = x at *
      cases x with
      | true =>
        go_wp2_with fail
        go_roundw
        case rel =>
          refine ⟨k + 1, by omega, by go_num, by rw [HSN.out], ?_, HO.out.setCell 0 _⟩
          rw [HD.out, HN.out]
          exact HBR.out.set1 _
        case measure => simp [intOf]; omega
      | false =>
        by_cases h48 : (48 : Int) ≤ (t[k]'hkt).toNat
        · have HV : Hid ((false || !isD (t[k]'hkt)) = (decide (((t[k]'hkt).toNat : Int) < 48) || decide ((57 : Int) < (t[k]'hkt).toNat))) := Lib.hid (by rw [notD _ h48, decide_eq_false (Int.not_lt.2 h48), Bool.false_or])
          go_wp2_with fail
          go_roundw
          case rel =>
            refine ⟨k + 1, by omega, by go_num, by rw [HSN.out], ?_, HO.out.setCell 0 _⟩
            rw [HD.out, HN.out, HV.out]
            exact HBR.out.set1 _
          case measure => simp [intOf]; omega
        · have HV : Hid ((false || !isD (t[k]'hkt)) = true) := Lib.hid (by rw [HIS.out, decide_eq_false h48]; rfl)
          go_wp2_with fail
          go_roundw
          case rel =>
            refine ⟨k + 1, by omega, by go_num, by rw [HSN.out], ?_, HO.out.setCell 0 _⟩
            rw [HD.out, HN.out, HV.out]
            exact HBR.out.set1 _
          case measure => simp [intOf]; omega
    · go_wp2_with fail
      have e : t.take k = t := List.take_of_length_le (by omega)
      rw [e] at hBr
      rw [e]
      go_ret
      exact ⟨by rw [← HT.out]; rfl, by rw [← HT.out]; exact hBr, (Only.of_ext HX.out).trans hO⟩
set_option maxHeartbeats 1000000 in
theorem datNumM (c0 c1 c2 c3 c4 c5 c6 c7 c8 c9 : UInt8) (g1 g : Nat) (wrong : Bool) (w : World) (hc1 : w.cell? ⟨g1, 0, none⟩ = some (.string (bs [c0, c1, c2, c3, c4, c5, c6, c7, c8, c9]))) (hB : Blk w g 4 #[.bool wrong]) :
    Calls Tryz.prog 203 #[.int .i64 5, .int .i64 7, .pointer (some ⟨g1, 0, none⟩), .pointer (some ⟨g, 0, none⟩)] w fun e w' => e = .returned (.int .i64 (numG [c5, c6])) ∧ Blk w' g 4 #[.bool (wrong || !(([c5, c6] : Bs).all isD))] ∧ Only g w w' := by
  obtain ⟨cap, w1, hrun, hx, hsz, hcell⟩ := conv_bytes (P := Tryz.prog) w 9 67 5 [c5, c6] Tryz.underlying9 Tryz.underlying67 Tryz.underlying5
  have HC := Lib.hid hcell
  have hB1 := hB.ext hx
  have hglt := hB.lt
  have hsz' : w.heap.size < w1.heap.size := by omega
  have HX := Lib.hid hx
  have HB := Lib.hid hB1
  clear hcell hsz hB hx hB1
  go_enter Tryz.func203, Tryz.ntmps203
  go_wp2_with fail
  clear hrun hc1
  obtain ⟨t, ht⟩ : ∃ t : Bs, t = [c5, c6] := ⟨_, rfl⟩
  have htl : t.length = 2 := by rw [ht]; rfl
  have HC2 : Hid (∀ (j : Nat) (h : j < t.length), w1.cell? ⟨w.heap.size, j, none⟩ = some (.int .u8 (t[j]'h).toNat)) := by subst ht; exact HC.out
  have HT := Lib.hid ht
  rw [show ([c5, c6] : Bs) = t from ht.symm]
  clear ht HC
  have htl2 : t.length ≤ 2 := by omega
  have htl3 : 2 ≤ t.length := by omega
  clear htl
  go_loopw [7, 16] (fun v i wr => ∃ k : Nat, k ≤ t.length ∧ i = .int .i64 k ∧ v = .int .i64 (numG (t.take k)) ∧ Blk wr g 4 #[.bool (wrong || !((t.take k).all isD))] ∧ Only g w1 wr) (fun _ i _ => 2 - (intOf i).toNat)
  case atStart => exact ⟨0, Nat.zero_le _, rfl, rfl, by simpa using HB.out, Only.refl _ _⟩
  case round =>
    obtain ⟨k, hk, rfl, rfl, hBr, hO⟩ := hrel
    by_cases hlt : k < 2
    · have hkt : k < t.length := by omega
      have hcr : wr.cell? ⟨w.heap.size, k, none⟩ = some (.int .u8 (t[k]'hkt).toNat) := (hO.cell (p := ⟨w.heap.size, k, none⟩) hsz' (by simp; omega)).trans (HC2.out k hkt)
      have hcb := hBr.cell 0
      have hfb := hBr.frozen 0
      simp only [List.getElem?_toArray, List.getElem?_cons_zero] at hcb
      have hnb := numG_bd (t.take k) (by rw [List.length_take]; omega)
      have hsn := numG_snoc (t.take k) (t[k]'hkt)
      rw [← List.take_succ_eq_append_getElem hkt] at hsn
      have HSN := Lib.hid hsn
      have hgw := gb_wrap (t[k]'hkt)
      have hgb := gb_bd (t[k]'hkt)
      have HO := Lib.hid hO
      have HBR := Lib.hid hBr
      have hD := snocD t k hkt
      have HD := Lib.hid hD
      have HIS := Lib.hid (isD_int (t[k]'hkt))
      clear hsn hO hBr hD
      generalize (t.take k).all isD = q at *
      generalize numG (t.take k) = n at *
      have hnew : ∀ z, (wrong || !(q && z)) = ((wrong || !q) || !z) := by intro z; cases wrong <;> cases q <;> cases z <;> rfl
      have HN := Lib.hid hnew
      clear hnew
      generalize (wrong || !q) = x at *
      cases x with
      | true =>
        go_wp2_with fail
        go_roundw
        case rel =>
          refine ⟨k + 1, by omega, by go_num, by rw [HSN.out], ?_, HO.out.setCell 0 _⟩
          rw [HD.out, HN.out]
          exact HBR.out.set1 _
        case measure => simp [intOf]; omega
      | false =>
        by_cases h48 : (48 : Int) ≤ (t[k]'hkt).toNat
        · have HV : Hid ((false || !isD (t[k]'hkt)) = (decide (((t[k]'hkt).toNat : Int) < 48) || decide ((57 : Int) < (t[k]'hkt).toNat))) := Lib.hid (by rw [notD _ h48, decide_eq_false (Int.not_lt.2 h48), Bool.false_or])
          go_wp2_with fail
          go_roundw
          case rel =>
            refine ⟨k + 1, by omega, by go_num, by rw [HSN.out], ?_, HO.out.setCell 0 _⟩
            rw [HD.out, HN.out, HV.out]
            exact HBR.out.set1 _
          case measure => simp [intOf]; omega
        · have HV : Hid ((false || !isD (t[k]'hkt)) = true) := Lib.hid (by rw [HIS.out, decide_eq_false h48]; rfl)
          go_wp2_with fail
          go_roundw
          case rel =>
            refine ⟨k + 1, by omega, by go_num, by rw [HSN.out], ?_, HO.out.setCell 0 _⟩
            rw [HD.out, HN.out, HV.out]
            exact HBR.out.set1 _
          case measure => simp [intOf]; omega
    · go_wp2_with fail
      have e : t.take k = t := List.take_of_length_le (by omega)
      rw [e] at hBr
      rw [e]
      go_ret
      exact ⟨by rw [← HT.out]; rfl, by rw [← HT.out]; exact hBr, (Only.of_ext HX.out).trans hO⟩
set_option maxHeartbeats 1000000 in
theorem datNumD (c0 c1 c2 c3 c4 c5 c6 c7 c8 c9 : UInt8) (g1 g : Nat) (wrong : Bool) (w : World) (hc1 : w.cell? ⟨g1, 0, none⟩ = some (.string (bs [c0, c1, c2, c3, c4, c5, c6, c7, c8, c9]))) (hB : Blk w g 4 #[.bool wrong]) :
    Calls Tryz.prog 203 #[.int .i64 8, .int .i64 10, .pointer (some ⟨g1, 0, none⟩), .pointer (some ⟨g, 0, none⟩)] w fun e w' => e = .returned (.int .i64 (numG [c8, c9])) ∧ Blk w' g 4 #[.bool (wrong || !(([c8, c9] : Bs).all isD))] ∧ Only g w w' := by
  obtain ⟨cap, w1, hrun, hx, hsz, hcell⟩ := conv_bytes (P := Tryz.prog) w 9 67 5 [c8, c9] Tryz.underlying9 Tryz.underlying67 Tryz.underlying5
  have HC := Lib.hid hcell
  have hB1 := hB.ext hx
  have hglt := hB.lt
  have hsz' : w.heap.size < w1.heap.size := by omega
  have HX := Lib.hid hx
  have HB := Lib.hid hB1
  clear hcell hsz hB hx hB1
  go_enter Tryz.func203, Tryz.ntmps203
  go_wp2_with fail
  clear hrun hc1
  obtain ⟨t, ht⟩ : ∃ t : Bs, t = [c8, c9] := ⟨_, rfl⟩
  have htl : t.length = 2 := by rw [ht]; rfl
  have HC2 : Hid (∀ (j : Nat) (h : j < t.length), w1.cell? ⟨w.heap.size, j, none⟩ = some (.int .u8 (t[j]'h).toNat)) := by subst ht; exact HC.out
  have HT := Lib.hid ht
  rw [show ([c8, c9] : Bs) = t from ht.symm]
  clear ht HC
  have htl2 : t.length ≤ 2 := by omega
  have htl3 : 2 ≤ t.length := by omega
  clear htl
  go_loopw [7, 16] (fun v i wr => ∃ k : Nat, k ≤ t.length ∧ i = .int .i64 k ∧ v = .int .i64 (numG (t.take k)) ∧ Blk wr g 4 #[.bool (wrong || !((t.take k).all isD))] ∧ Only g w1 wr) (fun _ i _ => 2 - (intOf i).toNat)
  case atStart => exact ⟨0, Nat.zero_le _, rfl, rfl, by simpa using HB.out, Only.refl _ _⟩
  case round =>
    obtain ⟨k, hk, rfl, rfl, hBr, hO⟩ := hrel
    by_cases hlt : k < 2
    · have hkt : k < t.length := by omega
      have hcr : wr.cell? ⟨w.heap.size, k, none⟩ = some (.int .u8 (t[k]'hkt).toNat) := (hO.cell (p := ⟨w.heap.size, k, none⟩) hsz' (by simp; omega)).trans (HC2.out k hkt)
      have hcb := hBr.cell 0
      have hfb := hBr.frozen 0
      simp only [List.getElem?_toArray, List.getElem?_cons_zero] at hcb
      have hnb := numG_bd (t.take k) (by rw [List.length_take]; omega)
      have hsn := numG_snoc (t.take k) (t[k]'hkt)
      rw [← List.take_succ_eq_append_getElem hkt] at hsn
      have HSN := Lib.hid hsn
      have hgw := gb_wrap (t[k]'hkt)
      have hgb := gb_bd (t[k]'hkt)
      have HO := Lib.hid hO
      have HBR := Lib.hid hBr
      have hD := snocD t k hkt
      have HD := Lib.hid hD
      have HIS := Lib.hid (isD_int (t[k]'hkt))
      clear hsn hO hBr hD
      generalize (t.take k).all isD = q at *
      generalize numG (t.take k) = n at *
      have hnew : ∀ z, (wrong || !(q && z)) = ((wrong || !q) || !z) := by intro z; cases wrong <;> cases q <;> cases z <;> rfl
      have HN := Lib.hid hnew
      clear hnew
      generalize (wrong || !q) = x at *
      cases x with
      | true =>
        go_wp2_with fail
        go_roundw
        case rel =>
          refine ⟨k + 1, by omega, by go_num, by rw [HSN.out], ?_, HO.out.setCell 0 _⟩
          rw [HD.out, HN.out]
          exact HBR.out.set1 _
        case measure => simp [intOf]; omega
      | false =>
        by_cases h48 : (48 : Int) ≤ (t[k]'hkt).toNat
        · have HV : Hid ((false || !isD (t[k]'hkt)) = (decide (((t[k]'hkt).toNat : Int) < 48) || decide ((57 : Int) < (t[k]'hkt).toNat))) := Lib.hid (by rw [notD _ h48, decide_eq_false (Int.not_lt.2 h48), Bool.false_or])
          go_wp2_with fail
          go_roundw
          case rel =>
            refine ⟨k + 1, by omega, by go_num, by rw [HSN.out], ?_, HO.out.setCell 0 _⟩
            rw [HD.out, HN.out, HV.out]
            exact HBR.out.set1 _
          case measure => simp [intOf]; omega
        · have HV : Hid ((false || !isD (t[k]'hkt)) = true) := Lib.hid (by rw [HIS.out, decide_eq_false h48]; rfl)
          go_wp2_with fail
          go_roundw
          case rel =>
            refine ⟨k + 1, by omega, by go_num, by rw [HSN.out], ?_, HO.out.setCell 0 _⟩
            rw [HD.out, HN.out, HV.out]
            exact HBR.out.set1 _
          case measure => simp [intOf]; omega
    · go_wp2_with fail
      have e : t.take k = t := List.take_of_length_le (by omega)
      rw [e] at hBr
      rw [e]
      go_ret
      exact ⟨by rw [← HT.out]; rfl, by rw [← HT.out]; exact hBr, (Only.of_ext HX.out).trans hO⟩
end Go.Proofs.YteeampgbmpolfaaGreatDoor
