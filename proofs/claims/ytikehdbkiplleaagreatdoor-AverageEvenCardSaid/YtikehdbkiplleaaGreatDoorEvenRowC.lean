/- AverageEven (P22.3): for all lots and every instrument the law returns true, that is: when the cost is pooled, each lot is less than 1 away from the average cost of its quantity, and the gaps of an instrument add up to 0 (within the sizes that the law checks itself; beyond them it answers by its example); every argument reads afterwards as it did. Condition: the library's tables and sentinel errors hold what their initialisers lay (the card ties them). -/
import Derived.Test.YtikehdbkiplleaaGreatDoorZ5
import Derived.BigQuiet
import Derived.Test.YtikehdbkiplleaaGreatDoorCards
import Derived.Test.YtikehdbkiplleaaGreatDoorTie
import Derived.Deep.DeepHandedRow
import Derived.ProofKit
/- The walk over the law AverageConserves. -/
namespace Go.Proofs.YtikehdbkiplleaaGreatDoor
open Go.RowKit
attribute [local go_sem] size_bs toList_bs
theorem pool_fix {ls : List LotV} {ins : Bs} (k : Nat) (h : k < ls.length) (h' : k < (poolV ls ins).length) : ∃ a, (poolV ls ins)[k]'h' = { ls[k]'h with c := a } ∧ ((ls[k]'h).ins ≠ ins → a = (ls[k]'h).c) := by
  rcases pool_at k h h' with e | ⟨hi, a, e⟩
  · exact ⟨(ls[k]'h).c, e, fun _ => rfl⟩
  · exact ⟨a, e, fun hn => absurd hi hn⟩
theorem pool_lots {w w' : World} {A A1 : Option Addr} {ls : List LotV} {ins : Bs} (_hL : LotsAt w A ls) (hv : checkAllL ls = 0) (hl : ls.length ≤ 12) (hg : ∀ x ∈ ls, greatL x = false) (hr : RdL w' A1 (poolV ls ins)) : LotsAt w' A1 (poolV ls ins) :=
  ⟨hr, pool_small (L := 13) hv (fun x hx => by
    have h1 := greatL_no (hg x hx)
    exact ⟨by omega, by omega, by omega, by omega, by omega⟩) (by omega) (by omega), by rw [poolV_len]; omega⟩
set_option maxRecDepth 100000 in
set_option maxHeartbeats 4000000 in
theorem lawConserves (ls : List LotV) (A : Option Addr) (c : Nat) (ins : Bs) (w : World) (hA : RdL w A ls) (hc : ls.length ≤ c) (hn : ls.length ≤ 4611686018427387904) (hE : Env w) :
    Calls Tryz.prog 7 #[.slice A ls.length c, .string (bs ins)] w fun e w' => e = .returned (.bool true) ∧ Ext w w' := by
  have HE := Lib.hid hE
  have HFN := Lib.hid (lawFine ls A c w hA hn hc)
  cases hf : fineB ls
  · rw [hf] at HFN
    clear hf hE hA
    go_enter Tryz.func7, Tryz.ntmps7
    go_wp2_with fail
    refine HFN.out.mono ?_
    rintro e w1 ⟨rfl, hx1⟩
    have HX := Lib.hid hx1
    clear hx1
    go_wp2_with fail
    refine (lawAwake _ (HE.out.ext HX.out)).mono ?_
    rintro e v3 ⟨rfl, hx1⟩
    replace HX := Lib.hid (HX.out.trans hx1)
    clear hx1
    go_wp2_with fail
    go_ret
    exact ⟨rfl, HX.out⟩
  rw [hf] at HFN
  obtain ⟨hg, hl12, hv⟩ := fineB_ok hf
  have hL : LotsAt w A ls := ⟨hA, great_small hg, by omega⟩
  clear hf
  cases h1 : decide (40 < (ins.length : Int))
  rotate_left
  · clear hE hA hv hL hg
    go_enter Tryz.func7, Tryz.ntmps7
    go_wp2_with fail
    refine HFN.out.mono ?_
    rintro e w1 ⟨rfl, hx1⟩
    have HX := Lib.hid hx1
    clear hx1
    go_wp2_with fail
    refine (lawAwake _ (HE.out.ext HX.out)).mono ?_
    rintro e v7 ⟨rfl, hx1⟩
    replace HX := Lib.hid (HX.out.trans hx1)
    clear hx1
    go_wp2_with fail
    go_ret
    exact ⟨rfl, HX.out⟩
  have hvm := pool_checkAll (ins := ins) hv
  have HW : Hid (0 < (ofL ls ins).length → WtOK (qsL ls ins)) := Lib.hid (wt_ok ins hL.sm hv)
  have HWm : Hid (0 < (ofL (poolV ls ins) ins).length → WtOK (qsL (poolV ls ins) ins)) := Lib.hid (by rw [pool_len', pool_qsL]; exact HW.out)
  have HP1 := Lib.hid (fun W hx => avgPool_ok ls A c ins W (hE.ext hx) (hL.ext hx) (avgE_ok hv (by simp)) HW.out)
  have HMS := Lib.hid (fun (A1 : Option Addr) (W : World) (hr : RdL W A1 (poolV ls ins)) => pool_lots (w' := W) (A1 := A1) (ins := ins) hL hv hl12 (greatAll_no hg).2 hr)
  have HP2 := Lib.hid (fun A1 c1 W hx h2 => avgPool_ok (poolV ls ins) A1 c1 ins W (hE.ext hx) h2 (avgE_ok hvm (by simp)) HWm.out)
  have HP3 := Lib.hid (fun A1 c1 W hx h2 => avgPooled_ok (poolV ls ins) A1 c1 ins W (hE.ext hx) h2 (avgE_ok hvm (by simp)) HWm.out)
  have HT1 := Lib.hid (fun W hx => lotTotal ls A c ins W (hE.ext hx) (hA.ext hx) hL.sm hL.le)
  have HT2 := Lib.hid (fun A1 c1 W hx (h2 : LotsAt W A1 (poolV ls ins)) => lotTotal (poolV ls ins) A1 c1 ins W (hE.ext hx) h2.rd h2.sm h2.le)
  have HSM := Lib.hid (fun A1 A2 c1 c2 W h1 h2 => lotSame (poolV ls ins) (poolV ls ins) A1 A2 c1 c2 W h1 h2 (by rw [poolV_len]; exact hn) (by rw [poolV_len]; exact hn))
  have HCA := Lib.hid (fun A1 c1 W hx (h2 : LotsAt W A1 (poolV ls ins)) => lotCheckAll (poolV ls ins) A1 c1 W (hE.ext hx) h2.rd h2.sm h2.le)
  have HFX := Lib.hid (fun k h h' => pool_fix (ls := ls) (ins := ins) k h h')
  have hml : (poolV ls ins).length = ls.length := poolV_len ls ins
  have HML := Lib.hid hml
  unfold PoolOk at HP1 HP2
  rw [pool_totC hv, pool_totQ, hml] at HT2
  rw [pool_pool hv, hml] at HP2
  rw [pool_pool hv, hml, decide_eq_true rfl] at HP3
  rw [hml, decide_eq_true rfl] at HSM
  rw [hvm, hml] at HCA
  generalize poolV ls ins = ms at *
  generalize ofI (totC ls ins) = cs at *
  generalize ofI (totQ ls ins) = qs at *
  have HA := Lib.hid hA
  clear hE hA hv hL hg hvm HW HWm hml
  go_enter Tryz.func7, Tryz.ntmps7
  go_wp2_with fail
  refine HFN.out.mono ?_
  rintro e w1 ⟨rfl, hx1⟩
  have HX := Lib.hid hx1
  clear hx1
  go_wp2_with fail
  refine (HP1.out _ HX.out).mono ?_
  rintro e v10 ⟨A1, c1, rfl, hr1, hx1⟩
  replace HX := Lib.hid (HX.out.trans hx1)
  clear hx1
  have HM := Lib.hid (HMS.out A1 _ hr1)
  clear hr1
  go_wp2_with fail
  refine (HP2.out A1 c1 _ HX.out HM.out).mono ?_
  rintro e v11 ⟨A2, c2, rfl, hr2, hx1⟩
  replace HM := Lib.hid (HM.out.ext hx1)
  replace HX := Lib.hid (HX.out.trans hx1)
  clear hx1
  have HN := Lib.hid (HMS.out A2 _ hr2)
  clear hr2
  go_wp2_with fail
  refine (HP3.out A1 c1 _ HX.out HM.out).mono ?_
  rintro e v12 ⟨rfl, hx1⟩
  replace HM := Lib.hid (HM.out.ext hx1)
  replace HN := Lib.hid (HN.out.ext hx1)
  replace HX := Lib.hid (HX.out.trans hx1)
  clear hx1
  go_wp2_with fail
  refine (HSM.out A1 A2 c1 c2 _ HM.out.rd HN.out.rd).mono ?_
  rintro e v13 ⟨rfl, hx1⟩
  replace HM := Lib.hid (HM.out.ext hx1)
  replace HX := Lib.hid (HX.out.trans hx1)
  clear hx1
  clear HN
  go_wp2_with fail
  refine (HCA.out A1 c1 _ HX.out HM.out).mono ?_
  rintro e v14 ⟨rfl, hx1⟩
  replace HM := Lib.hid (HM.out.ext hx1)
  replace HX := Lib.hid (HX.out.trans hx1)
  clear hx1
  go_wp2_with fail
  refine (HT1.out _ HX.out).mono ?_
  rintro e v15 ⟨rfl, hx1⟩
  replace HM := Lib.hid (HM.out.ext hx1)
  replace HX := Lib.hid (HX.out.trans hx1)
  clear hx1
  go_wp2_with fail
  refine (HT2.out A1 c1 _ HX.out HM.out).mono ?_
  rintro e W5 ⟨rfl, hx1⟩
  replace HM := Lib.hid (HM.out.ext hx1)
  replace HX := Lib.hid (HX.out.trans hx1)
  clear hx1
  have HA5 := Lib.hid (HA.out.ext HX.out)
  go_wp2_with fail
  go_loopw [98, 15, 16] (fun i _ _ wr => ∃ k : Nat, k ≤ ls.length ∧ i = .int .i64 k ∧ Ext W5 wr) (fun i _ _ _ => ls.length - (intOf i).toNat)
  case atStart => exact ⟨0, by omega, rfl, Ext.refl _⟩
  case round =>
    obtain ⟨k, hk, rfl, hx⟩ := hrel
    have HY := Lib.hid hx
    clear hx
    by_cases hlt : k < ls.length
    · have hlt' : k < ms.length := by have := HML.out; omega
      obtain ⟨b, o, rfl, hb, c0, c1', c2', c3, c4, c5, c6⟩ := (HA5.out.ext HY.out).at_ hlt
      obtain ⟨b', o', rfl, hb', d0, d1, d2, d3, d4, d5, d6⟩ := (HM.out.rd.ext HY.out).at_ hlt'
      obtain ⟨a, hfx, hne⟩ := HFX.out k hlt hlt'
      rw [hfx] at d0 d1 d2 d3 d4 d5 d6
      clear hfx
      generalize (ls[k]'hlt) = x at *
      have hki : (k : Int) < (ls.length : Int) := by omega
      have hk0 : (0 : Int) ≤ (k : Int) := by omega
      by_cases he : x.ins = ins
      · rw [he] at c1' d1
        clear he hne
        go_wp2_with fail
        go_quiet (fail)
        go_wp2_with fail
        exact ⟨⟨k + 1, by omega, by go_num, (HY.out.alloc _).drewN _⟩, by simp [intOf]; omega⟩
      · have q := bs_ne he
        rw [hne he] at d5
        clear he hne
        go_wp2_with fail
        go_quiet (fail)
        go_wp2_with fail
        exact ⟨⟨k + 1, by omega, by go_num, (HY.out.alloc _).drewN _⟩, by simp [intOf]; omega⟩
    · replace HX := Lib.hid (HX.out.trans HY.out)
      go_wp2_with fail
      refine (lawAwake _ (HE.out.ext HX.out)).mono ?_
      rintro e v18 ⟨rfl, hx1⟩
      replace HX := Lib.hid (HX.out.trans hx1)
      clear hx1
      go_wp2_with fail
      go_ret
      exact ⟨rfl, HX.out⟩
end Go.Proofs.YtikehdbkiplleaaGreatDoor
/- The walk over the law AverageEven. -/
namespace Go.Proofs.YtikehdbkiplleaaGreatDoor
open Go.RowKit
attribute [local go_sem] size_bs toList_bs
/-- what a round of the law needs -/
structure EvAt (ls ms : List LotV) (ins : Bs) (k : Nat) (x : LotV) (A A1 : Option Addr) (c c1 : Nat) (n : Nat) (W5 : World) (g1 g2 s0 s1 a : Fr) (cc : Int) : Prop where
  gap1 : ∀ W, Ext W5 W → Calls Tryz.prog 19 #[.slice A n c, .string (bs x.id)] W fun e w' => e = .returned (.tuple #[fv g1, .int .i64 0]) ∧ Ext W w'
  gap2 : ∀ W, Ext W5 W → Calls Tryz.prog 19 #[.slice A1 n c1, .string (bs x.id)] W fun e w' => e = .returned (.tuple #[fv g2, .int .i64 0]) ∧ Ext W w'
  abs : Pure 25 #[fv g2] (fv a)
  cmp : Pure 30 #[fv a, fv ⟨[49], []⟩] (.int .i64 cc)
  lt : decide (0 ≤ cc) = false
  add : Pure 32 #[fv s0, fv g1] (fv s1)
  s1 : s1 = ofQ (sumG ls ins (k + 1))
theorem evAt {ls : List LotV} {ins : Bs} {k : Nat} {A A1 : Option Addr} (c c1 : Nat) {w W5 : World} (hE : Env W5) (hL : LotsAt w A ls) (hv : checkAllL ls = 0) (hx : Ext w W5) (hM : LotsAt W5 A1 (poolV ls ins)) (hk : k < ls.length) (he : (ls[k]'hk).ins = ins) :
    ∃ g1 g2 s1 a cc, EvAt ls (poolV ls ins) ins k (ls[k]'hk) A A1 c c1 ls.length W5 g1 g2 (ofQ (sumG ls ins k)) s1 a cc := by
  have hg1 := gapV_at hv hk he
  obtain ⟨x', hx', hg2, h1, h2⟩ := even_at hv hk he
  have b1 := gap_qb hL ins (List.getElem_mem hk)
  have b2 := gap_qb hM ins hx'
  have b3 := sumG_qb hL ins k
  have l1 := b1.num_len
  have l1' := b1.den_len
  have l3 := b3.num_len
  have l3' := b3.den_len
  have b4 := absQ_qb b2
  have l4 := b4.num_len
  have l4' := b4.den_len
  have hlt := absQ_lt h1 h2
  generalize gapQ (poolV ls ins) ins x' = q2 at *
  refine ⟨ofQ (gapQ ls ins (ls[k]'hk)), ofQ q2, ofQ (sumG ls ins (k + 1)), ofQ (absQ q2), cmpQ (absQ q2) 1, ⟨?_, ?_, lawAbs q2 (b2.mono (by omega)), ?_, ?_, ?_, rfl⟩⟩
  · intro W hW
    have := avgGap ls A c (ls[k]'hk).id W (hE.ext hW) (hL.ext (hx.trans hW))
    rw [hg1] at this
    exact this
  · intro W hW
    have := avgGap (poolV ls ins) A1 c1 (ls[k]'hk).id W (hE.ext hW) (hM.ext hW)
    rw [hg2, poolV_len] at this
    exact this
  · have := fracCmp (ofQ (absQ q2)) ⟨[49], []⟩ (by omega) (by omega) (by simp) (by simp)
    rw [frQ_ofQ, show frQ ⟨[49], []⟩ = 1 from by
      have := frQ_ofQ ((1 : Int) : Rat)
      rw [ofQ_int, ofI_one] at this
      simpa using this] at this
    exact this
  · rw [decide_eq_false_iff_not]
    have := cmpQ_neg.2 hlt
    omega
  · have := fracAdd (ofQ (sumG ls ins k)) (ofQ (gapQ ls ins (ls[k]'hk))) (by omega) (by omega) (by omega) (by omega)
    rw [frQ_ofQ, frQ_ofQ, sumG_hit hk he] at this
    exact this
set_option maxRecDepth 100000 in
set_option maxHeartbeats 4000000 in
theorem lawEven (ls : List LotV) (A : Option Addr) (c : Nat) (ins : Bs) (w : World) (hA : RdL w A ls) (hc : ls.length ≤ c) (hn : ls.length ≤ 4611686018427387904) (hE : Env w) :
    Calls Tryz.prog 5 #[.slice A ls.length c, .string (bs ins)] w fun e w' => e = .returned (.bool true) ∧ Ext w w' := by
  have HE := Lib.hid hE
  have HFN := Lib.hid (lawFine ls A c w hA hn hc)
  cases hf : fineB ls
  · rw [hf] at HFN
    clear hf hE hA
    go_enter Tryz.func5, Tryz.ntmps5
    go_wp2_with fail
    refine HFN.out.mono ?_
    rintro e w1 ⟨rfl, hx1⟩
    have HX := Lib.hid hx1
    clear hx1
    go_wp2_with fail
    refine (lawAwake _ (HE.out.ext HX.out)).mono ?_
    rintro e v3 ⟨rfl, hx1⟩
    replace HX := Lib.hid (HX.out.trans hx1)
    clear hx1
    go_wp2_with fail
    go_ret
    exact ⟨rfl, HX.out⟩
  rw [hf] at HFN
  obtain ⟨hg, hl12, hv⟩ := fineB_ok hf
  have hL : LotsAt w A ls := ⟨hA, great_small hg, by omega⟩
  clear hf
  cases h1 : decide (40 < (ins.length : Int))
  rotate_left
  · clear hE hA hv hL hg
    go_enter Tryz.func5, Tryz.ntmps5
    go_wp2_with fail
    refine HFN.out.mono ?_
    rintro e w1 ⟨rfl, hx1⟩
    have HX := Lib.hid hx1
    clear hx1
    go_wp2_with fail
    refine (lawAwake _ (HE.out.ext HX.out)).mono ?_
    rintro e v7 ⟨rfl, hx1⟩
    replace HX := Lib.hid (HX.out.trans hx1)
    clear hx1
    go_wp2_with fail
    go_ret
    exact ⟨rfl, HX.out⟩
  have hO := fracOf [49] (by simp)
  rw [valI_one, ofQ_int, ofI_one] at hO
  have HO := Lib.hid hO
  have HW : Hid (0 < (ofL ls ins).length → WtOK (qsL ls ins)) := Lib.hid (wt_ok ins hL.sm hv)
  have HP1 := Lib.hid (fun W hx => avgPool_ok ls A c ins W (hE.ext hx) (hL.ext hx) (avgE_ok hv (by simp)) HW.out)
  have HMS := Lib.hid (fun (A1 : Option Addr) (W : World) (hr : RdL W A1 (poolV ls ins)) => pool_lots (w' := W) (A1 := A1) (ins := ins) hL hv hl12 (greatAll_no hg).2 hr)
  have HEV := Lib.hid (fun (A1 : Option Addr) (c1 : Nat) (W5 : World) hx hM k hk he => evAt (ls := ls) (ins := ins) (k := k) (A := A) (A1 := A1) c c1 (w := w) (W5 := W5) (hE.ext hx) hL hv hx hM hk he)
  unfold PoolOk at HP1
  have HSK := Lib.hid (fun k hk he => sumG_skip (ls := ls) (ins := ins) (k := k) hk he)
  have HS0 := Lib.hid (sumG_zero ls ins)
  have HS1 := Lib.hid (sumG_full (ls := ls) (ins := ins) hv)
  have HA := Lib.hid hA
  generalize poolV ls ins = ms at *
  clear hE hA hv hL hg hO HW
  go_enter Tryz.func5, Tryz.ntmps5
  go_wp2_with fail
  refine HFN.out.mono ?_
  rintro e w1 ⟨rfl, hx1⟩
  have HX := Lib.hid hx1
  clear hx1
  go_wp2_with fail
  refine (HP1.out _ HX.out).mono ?_
  rintro e W5 ⟨A1, c1, rfl, hr1, hx1⟩
  replace HX := Lib.hid (HX.out.trans hx1)
  clear hx1
  have HM := Lib.hid (HMS.out A1 _ hr1)
  clear hr1
  have HA5 := Lib.hid (HA.out.ext HX.out)
  have HB := Lib.hid (Blk.new W5 28 #[.string ⟨#[]⟩, .string ⟨#[]⟩])
  have HY : Hid (Ext W5 (W5.alloc (.cells #[.string ⟨#[]⟩, .string ⟨#[]⟩] 28))) := Lib.hid (Ext.new _ _)
  go_wp2_with fail
  go_loopw [34, 9, 10, 11, 12, 13] (fun i _ _ _ _ _ wr => ∃ k : Nat, k ≤ ls.length ∧ i = .int .i64 k ∧ Ext W5 wr ∧ Blk wr W5.heap.size 28 #[.string (bs (ofQ (sumG ls ins k)).num), .string (bs (ofQ (sumG ls ins k)).den)]) (fun i _ _ _ _ _ _ => ls.length - (intOf i).toNat)
  case atStart => exact ⟨0, by omega, rfl, HY.out, by rw [HS0.out, ofQ_zero]; exact HB.out⟩
  case round =>
    clear HB HY
    obtain ⟨k, hk, rfl, hx, hb⟩ := hrel
    have HY := Lib.hid hx
    have HB := Lib.hid hb
    clear hx hb
    by_cases hlt : k < ls.length
    · obtain ⟨b, o, rfl, hb, c0, c1', c2', c3, c4, c5, c6⟩ := (HA5.out.ext HY.out).at_ hlt
      have hki : (k : Int) < (ls.length : Int) := by omega
      have hk0 : (0 : Int) ≤ (k : Int) := by omega
      by_cases he : (ls[k]'hlt).ins = ins
      · obtain ⟨g1, g2, s1, a, cc, hev⟩ := HEV.out A1 c1 W5 HX.out HM.out k hlt he
        have HV := Lib.hid hev
        have hcc := hev.lt
        have hq : ((ls[k]'hlt).ins == ins) = true := beq_iff_eq.2 he
        have hs1 := Lib.hid hev.s1
        clear he hev
        generalize (ls[k]'hlt) = x at *
        generalize ofQ (sumG ls ins k) = s0 at *
        have HXO := Lib.hid HX.out
        have HBX := Lib.hid (Blk.new wr 50 (lc x))
        have HX := Lib.hid (HY.out.alloc (.cells (lc x) 50))
        replace HB := Lib.hid (HB.out.alloc (.cells (lc x) 50))
        go_wp2_with fail
        refine (HV.out.gap1 _ HX.out).mono ?_
        rintro e w6 ⟨rfl, hx1⟩
        replace HB := Lib.hid (HB.out.ext hx1)
        replace HBX := Lib.hid (HBX.out.ext hx1)
        replace HX := Lib.hid (HX.out.trans hx1)
        clear hx1
        have HD1 := Lib.hid (Blk.new w6 28 #[.string (bs g1.num), .string (bs g1.den)])
        replace HX := Lib.hid (HX.out.alloc (.cells #[.string (bs g1.num), .string (bs g1.den)] 28))
        replace HB := Lib.hid (HB.out.alloc (.cells #[.string (bs g1.num), .string (bs g1.den)] 28))
        replace HBX := Lib.hid (HBX.out.alloc (.cells #[.string (bs g1.num), .string (bs g1.den)] 28))
        go_upto_region 12 with fail
        generalize w6.alloc (.cells #[.string (bs g1.num), .string (bs g1.den)] 28) = W6 at *
        generalize w6.heap.size = D1 at *
        obtain ⟨x0, _, _, _, _, _, _⟩ := lotBlk HBX.out (Ext.refl _)
        go_wp2_with fail
        refine (HV.out.gap2 _ HX.out).mono ?_
        rintro e w7 ⟨rfl, hx1⟩
        replace HB := Lib.hid (HB.out.ext hx1)
        replace HBX := Lib.hid (HBX.out.ext hx1)
        replace HD1 := Lib.hid (HD1.out.ext hx1)
        replace HX := Lib.hid (HX.out.trans hx1)
        clear hx1
        have HD2 := Lib.hid (Blk.new w7 28 #[.string (bs g2.num), .string (bs g2.den)])
        replace HX := Lib.hid (HX.out.alloc (.cells #[.string (bs g2.num), .string (bs g2.den)] 28))
        replace HB := Lib.hid (HB.out.alloc (.cells #[.string (bs g2.num), .string (bs g2.den)] 28))
        replace HD1 := Lib.hid (HD1.out.alloc (.cells #[.string (bs g2.num), .string (bs g2.den)] 28))
        go_upto_region 13 with fail
        generalize w7.alloc (.cells #[.string (bs g2.num), .string (bs g2.den)] 28) = W7 at *
        generalize w7.heap.size = D2 at *
        obtain ⟨y0, y1, _, _⟩ := frBlk HD2.out (Ext.refl _)
        go_wp2_with fail
        refine (HV.out.abs _ (HE.out.ext (HXO.out.trans HX.out))).mono ?_
        rintro e v13 ⟨rfl, hx1⟩
        replace HB := Lib.hid (HB.out.ext hx1)
        replace HD1 := Lib.hid (HD1.out.ext hx1)
        replace HX := Lib.hid (HX.out.trans hx1)
        clear hx1
        go_wp2_with fail
        refine (HO.out _ (HE.out.ext (HXO.out.trans HX.out))).mono ?_
        rintro e v14 ⟨rfl, hx1⟩
        replace HB := Lib.hid (HB.out.ext hx1)
        replace HD1 := Lib.hid (HD1.out.ext hx1)
        replace HX := Lib.hid (HX.out.trans hx1)
        clear hx1
        go_wp2_with fail
        refine (HV.out.cmp _ (HE.out.ext (HXO.out.trans HX.out))).mono ?_
        rintro e w8 ⟨rfl, hx1⟩
        replace HB := Lib.hid (HB.out.ext hx1)
        replace HD1 := Lib.hid (HD1.out.ext hx1)
        replace HX := Lib.hid (HX.out.trans hx1)
        clear hx1
        obtain ⟨y0, y1, _, _⟩ := frBlk HD1.out (Ext.refl _)
        obtain ⟨z0, z1, _, _⟩ := frBlk HB.out (Ext.refl _)
        go_wp2_with fail
        refine (HV.out.add _ (HE.out.ext (HXO.out.trans HX.out))).mono ?_
        rintro e w9 ⟨rfl, hx1⟩
        replace HB := Lib.hid (HB.out.ext hx1)
        replace HX := Lib.hid (HX.out.trans hx1)
        clear hx1
        obtain ⟨z0, z1, z2, z3⟩ := frBlk HB.out (Ext.refl _)
        go_wp2_with fail
        exact ⟨⟨k + 1, by omega, by go_num, (HX.out.setCell (p := ⟨_, 0, none⟩) (Nat.le_refl _) _).setCell (p := ⟨_, 1, none⟩) (Nat.le_refl _) _, by rw [← hs1.out]; exact (HB.out.set_ 0 _).set_ 1 _⟩, by simp [intOf]; omega⟩
      · have q := bs_ne he
        have HS := Lib.hid (HSK.out k hlt he)
        clear he
        generalize (ls[k]'hlt) = x at *
        go_wp2_with fail
        exact ⟨⟨k + 1, by omega, by go_num, HY.out.alloc _, by rw [← HS.out]; exact HB.out.alloc _⟩, by simp [intOf]; omega⟩
    · have hkk : k = ls.length := by omega
      subst hkk
      rw [HS1.out, ofQ_zero] at HB
      replace HX := Lib.hid (HX.out.trans HY.out)
      obtain ⟨q0, q1, _, _⟩ := frBlk HB.out (Ext.refl _)
      go_wp2_with fail
      refine (lawAwake _ (HE.out.ext HX.out)).mono ?_
      rintro e v18 ⟨rfl, hx1⟩
      replace HX := Lib.hid (HX.out.trans hx1)
      clear hx1
      go_wp2_with fail
      go_ret
      exact ⟨rfl, HX.out⟩
end Go.Proofs.YtikehdbkiplleaaGreatDoor
namespace Go.Proofs.YtikehdbkiplleaaGreatDoor.averageEven
open Go.ChangeShapes Go.WideShapes Go.ChangeAt Go.RowKit Go.Deep Go.Joins

set_option maxRecDepth 100000 in
theorem contract (H : Type) (enc : TypeId × Value → H) (W : World) (base : Nat) (args : Array Value) (ds gs : List (DataW H)) (before : List MemPlace)
    (hval : ∀ (j : Nat) t v, Tryz.f5.params[j]? = some t → args[j]? = some v → Value.okWide Tryz.prog W .any base t v)
    (hW : DataW.Whole enc Tryz.prog Tryz.f5.params.toList Rows.averageEvenSpec.vars false W args.toList ds gs before) (hwt : (DataW.weightsEach Tryz.prog (Tryz.f5.params.toList ++ (OpenSpec.ofChange Rows.averageEvenSpec).bare.plain.varTypes Tryz.prog) (ds ++ gs)).all (· ≤ reachBytes) = true)
    (hL : laidMetH Tryz.prog Rows.averageEvenRow.laid W) (hsh : W.ShapedOpen Tryz.prog) :
    Calls Tryz.prog 5 args W fun e W' => ∃ v, e = .returned v ∧ Rows.averageEvenSpec.post enc Tryz.prog Tryz.f5 false true false false W args v W' := by
  have hE : Env W := env_of (show laidMet Tryz.prog _ W from hL) hsh
  have hW' := hW
  obtain ⟨p, q, hA0, hV, rfl, hfz, hnd⟩ := hW
  have hA : DataW.TrodAll enc Tryz.prog W 0 (fun _ => true) true Tryz.f5.params.toList args.toList ds p := hA0
  rw [Tryz.params5] at hA hval hwt
  obtain ⟨v0, vs0, d0, ds0, p0, q0, hargs, rfl, rfl, h0, r0⟩ := trodAll_cons hA
  obtain ⟨v1, vs1, d1, ds1, p1, q1, rfl, rfl, rfl, h1, r1⟩ := trodAll_cons r0
  obtain ⟨rfl, rfl, rfl⟩ := trodAll_nil r1
  obtain rfl : args = #[v0, v1] := by cases args; simp_all
  obtain ⟨rfl, rfl⟩ := trodVars_none hV
  simp only [List.append_nil, List.cons_append, List.nil_append, DataW.weightsEach, List.all_append, Bool.and_eq_true] at hwt
  obtain ⟨s0, A0, c0, rfl, hR0, hc0, hn0⟩ := open_lots (hval 0 22 v0 rfl rfl) h0 hwt.1
  obtain ⟨x1, rfl, rfl, rfl, hx1⟩ := ChangeMaps.open_string Tryz.underlying9 (hval 1 9 v1 rfl rfl) h1
  obtain ⟨t1, rfl⟩ : ∃ t, x1 = bs t := ⟨L x1, (bs_L x1).symm⟩
  refine (lawEven s0 A0 c0 t1 W hR0 hc0 hn0 hE).mono fun e W' ⟨he, hx⟩ => ?_
  subst he
  exact ⟨_, rfl, post_law laidOut (by kernel_rfl) (by kernel_rfl) Tryz.underlying4 rfl hW' rfl rfl rfl hx⟩

def flat1 : DataW Unit → List Value | .lit (.int k n) => [.int k n] | _ => []
def flat2 : DataW Unit → List Value | .agg ps => ps.flatMap flat1 | x => flat1 x
def flat3 : DataW Unit → List Value | .agg ps => ps.flatMap flat2 | x => flat1 x
def layIn (w : World) (g : Nat) (d : DataW Unit) : World := { w with heap := w.heap.modify g fun
  | .cells _ t frozen => .cells (flat3 d).toArray t frozen
  | o => o }
/-- A WORLD FOR THE WITNESS: the settled one, the library's tables holding what their initialisers lay. -/
noncomputable def low : Nat := (World.holding Tryz.prog default ⟨#[], #[], []⟩).heap.size
def layErr (w : World) (g b : Nat) : World := { w with heap := w.heap.modify g fun
  | .cells _ t frozen => .cells #[.iface 222 (.pointer (some ⟨b, 0, none⟩))] t frozen
  | o => o }
noncomputable def laidWorld (os : Os) : World :=
  layErr (layErr (layIn (layIn (layIn (layIn (layIn (World.holding Tryz.prog os ⟨#[.cells #[.string ⟨#[118, 97, 108, 117, 101, 32, 111, 117, 116, 32, 111, 102, 32, 114, 97, 110, 103, 101]⟩] 224, .cells #[.string ⟨#[105, 110, 118, 97, 108, 105, 100, 32, 115, 121, 110, 116, 97, 120]⟩] 224], #[], []⟩) 6 Rows.laid_math_bits_deBruijn32tab) 7 Rows.laid_math_bits_deBruijn64tab) 2 Rows.laid_internal_strconv_uint64pow10) 5 Rows.laid_unicode_utf8_acceptRanges) 4 Rows.laid_unicode_utf8_first) 1 low) 0 (low + 1)
theorem laid_met (os : Os) : laidMet Tryz.prog Rows.averageEvenRow.laid ((laidWorld os).forCall (fun _ _ => 0) ⟨#[], #[.slice none 0 0, .string ⟨#[]⟩], []⟩).memory :=
  laidMet_of_run' 8 (by kernel_rfl) (by kernel_rfl)
theorem reads (os : Os) {H : Type} (enc : TypeId × Value → H) : ∃ places, DataW.whole enc Tryz.prog ((laidWorld os).forCall (fun _ _ => 0) ⟨#[], #[.slice none 0 0, .string ⟨#[]⟩], []⟩).memory Tryz.f5.params.toList Rows.averageEvenSpec.vars false (#[.slice none 0 0, .string ⟨#[]⟩] : Array Value).toList 8 = some ([.nil, .lit (.string [])], [], places) :=
  ⟨[], by kernel_rfl⟩

set_option maxRecDepth 100000 in
theorem lifted (os : Os) (started : os.Started) (H : Type) (enc : TypeId × Value → H) (F : Stop.Interp) :
    ReturnsInHanded {} Tryz.checked os 5 .any ((OpenSpec.ofChange Rows.averageEvenSpec).preRow enc Tryz.prog Tryz.f5 Rows.averageEvenRow.domain false Rows.averageEvenRow.laid) (((OpenSpec.ofChange Rows.averageEvenSpec).at F).post enc Tryz.prog Tryz.f5 false true false false) := by
  obtain ⟨places, hx⟩ := reads os enc
  refine returnsInHanded_of_row (C := Tryz.checked) (s := OpenSpec.ofChange Rows.averageEvenSpec) own started (by kernel_rfl) Tryz.func5
    (witness_row_at (enc := enc) (C := Tryz.checked) false (laidWorld os) #[.slice none 0 0, .string ⟨#[]⟩] rfl (by kernel_rfl) (by kernel_rfl) (by kernel_rfl)
      (OpenSpec.preRow_of_cond 8 hx (by kernel_rfl) (fun k hk => by cases hk) (by kernel_rfl) (laid_met os))) ?_
  intro W base args ds gs before hval hW _ _ hwt hL hsh _
  exact contract H enc W base args ds gs before hval hW hwt hL hsh

theorem said : Rows.AverageEvenSaid :=
  OpenClaim.holds_of_cond 5 Tryz.f5 rfl rfl rfl rfl rfl rfl rfl ⟨rfl, rfl, rfl, rfl, rfl⟩ rfl rfl rfl rfl rfl (by kernel_rfl) Tryz.func5 (by kernel_rfl)
    (of_decide_eq_true (by kernel_rfl)) (by unfold Func.isWrapper; first | (rw [if_pos (by decide +kernel)]; kernel_rfl) | (rw [if_neg (by decide +kernel)]; exact ⟨rfl, rfl⟩))
    (fun os started H enc _ F => by rw [OpenClaim.pre_eq_preRow]; exact lifted os started H enc F)

theorem plain (f : FuncId) (fn : Func) (hf : Tryz.pinned.checked.prog.funcNamed "tranche/tranchelaw22.AverageEven" = some f) (hfn : Tryz.pinned.checked.prog.funcs[f]? = some fn) :
    true = Tryz.pinned.checked.prog.looks [] ∧ ∀ (j : Nat) t, fn.params[j]? = some t → Tryz.pinned.checked.prog.wantsStandIn t = false := by
  obtain rfl : f = 5 := Option.some.inj ((show Tryz.prog.funcNamed "tranche/tranchelaw22.AverageEven" = some 5 by kernel_rfl).symm.trans hf) |>.symm
  obtain rfl : fn = Tryz.f5 := (Option.some.inj (Tryz.func5.symm.trans hfn)).symm
  refine ⟨by kernel_rfl, fun j t ht => ?_⟩
  rw [Tryz.params5] at ht
  have hm := Array.mem_of_getElem? ht
  simp only [List.mem_toArray, List.mem_cons, List.not_mem_nil, or_false] at hm
  rcases hm with rfl | rfl
  · exact (show Tryz.prog.wantsStandIn 22 = false by kernel_rfl)
  · exact (show Tryz.prog.wantsStandIn 9 = false by kernel_rfl)

/-- THE CARD -/
theorem card : Rows.AverageEvenCardSaid :=
  Claim7.holds_tied_plain_at .later [] _ _ _ _ said (fun _ h => by cases h) (by kernel_rfl) (fun _ h => by cases h) averageEven_row_tie rfl ⟨rfl, rfl⟩ (by kernel_rfl) rfl plain (by kernel_rfl)
end Go.Proofs.YtikehdbkiplleaaGreatDoor.averageEven
