/- AverageTakes (P22.4): for all lots, every instrument and every quantity the law returns true, that is: the cost that is taken and the rest add up to the total cost, the cost differs from the average cost of the quantity by at most one half, and taking everything takes all of the cost (within the sizes that the law checks itself; beyond them it answers by its example); every argument reads afterwards as it did. Condition: the library's tables and sentinel errors hold what their initialisers lay (the card ties them). -/
import Derived.Test.YtikehdbkiplleaaGreatDoorZ5
import Derived.Deep.RegionHeld3
import Derived.Test.YtikehdbkiplleaaGreatDoorCards
import Derived.Test.YtikehdbkiplleaaGreatDoorTie
import Derived.Deep.DeepHandedRow
import Derived.ProofKit
/- Plain: what the law of the average cost of a quantity says. No program in sight. -/
namespace Go.Proofs.YtikehdbkiplleaaGreatDoor
open Go.RowKit

theorem take_none {ls : List LotV} {ins qty : Bs} (hv : checkAllL ls = 0) (hq : checkI qty = 0) (h : totQ ls ins = 0) : takeV ls ins qty = ([], [], 6) := by
  unfold takeV; rw [if_neg (by rw [avgE_ok hv (by simpa using hq)]; decide), if_pos h]
theorem take_low {ls : List LotV} {ins qty : Bs} (hv : checkAllL ls = 0) (hq : checkI qty = 0) (h : 0 < totQ ls ins) (h1 : valI qty ≤ 0) : takeV ls ins qty = ([], [], 2) := by
  unfold takeV; rw [if_neg (by rw [avgE_ok hv (by simpa using hq)]; decide), if_neg (by omega), if_pos h1]
theorem take_high {ls : List LotV} {ins qty : Bs} (hv : checkAllL ls = 0) (hq : checkI qty = 0) (h : 0 < totQ ls ins) (h1 : totQ ls ins < valI qty) : takeV ls ins qty = ([], [], 15) := by
  unfold takeV; rw [if_neg (by rw [avgE_ok hv (by simpa using hq)]; decide), if_neg (by omega), if_neg (by omega), if_pos h1]
theorem take_ok {ls : List LotV} {ins qty : Bs} (hv : checkAllL ls = 0) (hq : checkI qty = 0) (h : 0 < totQ ls ins) (h1 : ¬ valI qty ≤ 0) (h2 : ¬ totQ ls ins < valI qty) :
    takeV ls ins qty = (ofI (shareZ (totC ls ins) (valI qty) (totQ ls ins)), ofI (totC ls ins - shareZ (totC ls ins) (valI qty) (totQ ls ins)), 0) := by
  unfold takeV; rw [if_neg (by rw [avgE_ok hv (by simpa using hq)]; decide), if_neg (by omega), if_neg h1, if_neg h2]
theorem take_all {ls : List LotV} {ins : Bs} (hv : checkAllL ls = 0) (h : 0 < totQ ls ins) : takeV ls ins (ofI (totQ ls ins)) = (ofI (totC ls ins), [], 0) := by
  rw [take_ok hv (checkI_ofI _) h (by rw [valI_ofI]; omega) (by rw [valI_ofI]; omega), valI_ofI, shareZ_all _ _ (by omega), Int.sub_self, ofI_nil.2 rfl]
theorem priceV_ok {ls : List LotV} {ins : Bs} (hv : checkAllL ls = 0) (h : 0 < totQ ls ins) : priceV ls ins = (ofQ (Rat.divInt (totC ls ins) (totQ ls ins)), 0) := by
  unfold priceV; rw [if_neg (by rw [avgE_ok hv (by simp)]; decide), prV_ok h]
theorem priceV_no {ls : List LotV} {ins : Bs} (hv : checkAllL ls = 0) (h : totQ ls ins = 0) : priceV ls ins = (⟨[], []⟩, 6) := by
  unfold priceV prV; rw [if_neg (by rw [avgE_ok hv (by simp)]; decide), if_pos h]
theorem share_qbL {t p a : Bs} {L : Nat} (h0 : 0 < L) (lt : t.length ≤ L) (lp : p.length ≤ L) (la : a.length ≤ L) : QB (L + L + 1) ((roundQ (Rat.divInt (valI t * valI p) (valI a)) : Int) : Rat) :=
  qb_int (by omega) (roundQ_abs (qb_ratio h0 lt lp la))
theorem share_qb {w : World} {A : Option Addr} {ls : List LotV} (h : LotsAt w A ls) (ins qty : Bs) (hq : qty.length ≤ 2000) : QB 4001 ((shareZ (totC ls ins) (valI qty) (totQ ls ins) : Int) : Rat) := by
  have h1 := share_qbL (t := ofI (totC ls ins)) (p := qty) (a := ofI (totQ ls ins)) (L := 2000) (by omega) (totC_le h ins) hq (totQ_le h ins)
  rw [valI_ofI, valI_ofI] at h1
  exact h1.mono (by omega)
theorem share_len {w : World} {A : Option Addr} {ls : List LotV} (h : LotsAt w A ls) (ins qty : Bs) (hq : qty.length ≤ 2000) : (ofI (shareZ (totC ls ins) (valI qty) (totQ ls ins))).length ≤ 4002 := by
  have h1 := qb_ratio (t := ofI (totC ls ins)) (p := qty) (a := ofI (totQ ls ins)) (L := 2000) (by omega) (totC_le h ins) hq (totQ_le h ins)
  rw [valI_ofI, valI_ofI] at h1
  exact round_len h1
theorem avg_qb {w : World} {A : Option Addr} {ls : List LotV} (h : LotsAt w A ls) (ins : Bs) : QB 2000 (Rat.divInt (totC ls ins) (totQ ls ins)) := by
  rw [← valI_ofI (totC ls ins), ← valI_ofI (totQ ls ins)]
  exact qb_two (totC_le h ins) (totQ_le h ins) (by omega)
theorem half_frQ : frQ ⟨[49], [50]⟩ = 1 / 2 := by
  unfold frQ frN frD
  rw [show valI [49] = 1 by decide, show valI [50] = 2 by decide, if_neg (by decide), Rat.divInt_eq_div]
  simp
end Go.Proofs.YtikehdbkiplleaaGreatDoor
/- The walk over the law AverageTakes. -/
namespace Go.Proofs.YtikehdbkiplleaaGreatDoor
open Go.RowKit
attribute [local go_sem] size_bs toList_bs
def BoxAt (W : World) (r : Fr) (p : Value) (wx : World) : Prop := ∃ P, p = .pointer (some ⟨P, 0, none⟩) ∧ Blk wx P 28 #[.string (bs r.num), .string (bs r.den)] ∧ Ext W wx
set_option maxRecDepth 100000 in
set_option maxHeartbeats 4000000 in
theorem lawTakes (ls : List LotV) (A : Option Addr) (c : Nat) (ins qty : Bs) (w : World) (hA : RdL w A ls) (hc : ls.length ≤ c) (hn : ls.length ≤ 4611686018427387904) (hE : Env w) :
    Calls Tryz.prog 4 #[.slice A ls.length c, .string (bs ins), .string (bs qty)] w fun e w' => e = .returned (.bool true) ∧ Ext w w' := by
  have HE := Lib.hid hE
  have HFN := Lib.hid (lawFine ls A c w hA hn hc)
  cases hf : fineB ls
  · rw [hf] at HFN
    clear hf hE hA
    go_enter Tryz.func4, Tryz.ntmps4
    go_wp2_with fail
    refine HFN.out.mono ?_
    rintro e w1 ⟨rfl, hx1⟩
    have HX := Lib.hid hx1
    clear hx1
    go_wp2_with fail
    refine (lawAwake _ (HE.out.ext HX.out)).mono ?_
    rintro e v3 ⟨rfl, hx1⟩
    replace HX := Lib.hid (HX.out.trans hx1)
    clear hx1
    go_wp2_with fail
    go_ret
    exact ⟨rfl, HX.out⟩
  rw [hf] at HFN
  obtain ⟨hg, hl12, hv⟩ := fineB_ok hf
  have hL : LotsAt w A ls := ⟨hA, great_small hg, by omega⟩
  have HL := Lib.hid hL
  have HLQ := Lib.hid (fun W => refLong qty W)
  clear hf hg
  cases h1 : decide (40 < (ins.length : Int))
  rotate_left
  · clear hE hA hv hL
    go_enter Tryz.func4, Tryz.ntmps4
    go_wp2_with fail
    refine HFN.out.mono ?_
    rintro e w1 ⟨rfl, hx1⟩
    have HX := Lib.hid hx1
    clear hx1
    go_wp2_with fail
    refine (lawAwake _ (HE.out.ext HX.out)).mono ?_
    rintro e v7 ⟨rfl, hx1⟩
    replace HX := Lib.hid (HX.out.trans hx1)
    clear hx1
    go_wp2_with fail
    go_ret
    exact ⟨rfl, HX.out⟩
  cases h2 : decide (13 < (qty.length : Int))
  rotate_left
  · rw [h2] at HLQ
    clear hE hA hv hL h2
    go_enter Tryz.func4, Tryz.ntmps4
    go_wp2_with fail
    refine HFN.out.mono ?_
    rintro e w1 ⟨rfl, hx1⟩
    have HX := Lib.hid hx1
    clear hx1
    go_wp2_with fail
    refine (HLQ.out _).mono ?_
    rintro e wy ⟨h1, h2⟩
    subst h1
    subst h2
    go_wp2_with fail
    refine (lawAwake _ (HE.out.ext HX.out)).mono ?_
    rintro e v12 ⟨rfl, hx1⟩
    replace HX := Lib.hid (HX.out.trans hx1)
    clear hx1
    go_wp2_with fail
    go_ret
    exact ⟨rfl, HX.out⟩
  rw [h2] at HLQ
  have hq13 : qty.length ≤ 13 := by simp only [decide_eq_false_iff_not] at h2; omega
  have HCK := Lib.hid (fun W => refCheckI qty W (by omega))
  clear h2
  by_cases h3 : checkI qty = 0
  rotate_left
  · have g3 : (checkI qty != 0) = true := by rw [bne_iff_ne]; exact h3
    generalize checkI qty = ck at *
    clear hE hA hv hL h3
    go_enter Tryz.func4, Tryz.ntmps4
    go_wp2_with fail
    refine HFN.out.mono ?_
    rintro e w1 ⟨rfl, hx1⟩
    have HX := Lib.hid hx1
    clear hx1
    go_wp2_with fail
    refine (HLQ.out _).mono ?_
    rintro e wy ⟨h1, h2⟩
    subst h1
    subst h2
    go_wp2_with fail
    refine (HCK.out _).mono ?_
    rintro e wy ⟨h1, h2⟩
    subst h1
    subst h2
    go_wp2_with fail
    refine (lawAwake _ (HE.out.ext HX.out)).mono ?_
    rintro e v18 ⟨rfl, hx1⟩
    replace HX := Lib.hid (HX.out.trans hx1)
    clear hx1
    go_wp2_with fail
    go_ret
    exact ⟨rfl, HX.out⟩
  rw [h3] at HCK
  have HT := Lib.hid (fun W hx => lotTotal ls A c ins W (hE.ext hx) (hA.ext hx) hL.sm hL.le)
  have HK := Lib.hid (fun W hx => avgTake ls A c ins qty W (hE.ext hx) (hL.ext hx) (by omega))
  by_cases h0 : totQ ls ins = 0
  · rw [take_none hv h3 h0] at HK
    rw [h0, ofI_nil.2 rfl] at HT
    generalize ofI (totC ls ins) = cs at *
    clear hE hA hv hL h3 h0
    go_enter Tryz.func4, Tryz.ntmps4
    go_wp2_with fail
    refine HFN.out.mono ?_
    rintro e w1 ⟨rfl, hx1⟩
    have HX := Lib.hid hx1
    clear hx1
    go_wp2_with fail
    refine (HLQ.out _).mono ?_
    rintro e wy ⟨h1, h2⟩
    subst h1
    subst h2
    go_wp2_with fail
    refine (HCK.out _).mono ?_
    rintro e wy ⟨h1, h2⟩
    subst h1
    subst h2
    go_wp2_with fail
    refine (HT.out _ HX.out).mono ?_
    rintro e v23 ⟨rfl, hx1⟩
    replace HX := Lib.hid (HX.out.trans hx1)
    clear hx1
    go_wp2_with fail
    refine (HK.out _ HX.out).mono ?_
    rintro e v24 ⟨rfl, hx1⟩
    replace HX := Lib.hid (HX.out.trans hx1)
    clear hx1
    go_wp2_with fail
    refine (lawAwake _ (HE.out.ext HX.out)).mono ?_
    rintro e v26 ⟨rfl, hx1⟩
    replace HX := Lib.hid (HX.out.trans hx1)
    clear hx1
    go_wp2_with fail
    go_ret
    exact ⟨rfl, HX.out⟩
  have hQ : 0 < totQ ls ins := by have := totQ_nonneg (ins := ins) hv; omega
  have hqe : (ofI (totQ ls ins)).isEmpty = false := by
    cases h : ofI (totQ ls ins) with
    | nil => exact absurd (ofI_nil.1 h) h0
    | cons _ _ => rfl
  have HK2 := Lib.hid (fun W hx => avgTake ls A c ins (ofI (totQ ls ins)) W (hE.ext hx) (hL.ext hx) (totQ_le hL ins))
  rw [take_all hv hQ] at HK2
  by_cases h4 : valI qty ≤ 0
  · rw [take_low hv h3 hQ h4] at HK
    have HC := Lib.hid (cmp0P qty (by omega))
    have g : decide (cmpI (valI qty) 0 ≤ 0) = true := by rw [decide_eq_true_iff]; have := cmpI_pos (x := valI qty) (y := 0); omega
    generalize cmpI (valI qty) 0 = cc at *
    generalize ofI (totC ls ins) = cs at *
    generalize ofI (totQ ls ins) = qs at *
    clear hE hA hv hL h3 h0 h4 hQ
    go_enter Tryz.func4, Tryz.ntmps4
    go_wp2_with fail
    refine HFN.out.mono ?_
    rintro e w1 ⟨rfl, hx1⟩
    have HX := Lib.hid hx1
    clear hx1
    go_wp2_with fail
    refine (HLQ.out _).mono ?_
    rintro e wy ⟨h1, h2⟩
    subst h1
    subst h2
    go_wp2_with fail
    refine (HCK.out _).mono ?_
    rintro e wy ⟨h1, h2⟩
    subst h1
    subst h2
    go_wp2_with fail
    refine (HT.out _ HX.out).mono ?_
    rintro e v31 ⟨rfl, hx1⟩
    replace HX := Lib.hid (HX.out.trans hx1)
    clear hx1
    go_wp2_with fail
    refine (HK.out _ HX.out).mono ?_
    rintro e v32 ⟨rfl, hx1⟩
    replace HX := Lib.hid (HX.out.trans hx1)
    clear hx1
    go_wp2_with fail
    refine (HK2.out _ HX.out).mono ?_
    rintro e v33 ⟨rfl, hx1⟩
    replace HX := Lib.hid (HX.out.trans hx1)
    clear hx1
    go_wp2_with fail
    refine (HC.out _ (HE.out.ext HX.out)).mono ?_
    rintro e v34 ⟨rfl, hx1⟩
    replace HX := Lib.hid (HX.out.trans hx1)
    clear hx1
    go_wp2_with fail
    refine (lawAwake _ (HE.out.ext HX.out)).mono ?_
    rintro e v36 ⟨rfl, hx1⟩
    replace HX := Lib.hid (HX.out.trans hx1)
    clear hx1
    go_wp2_with fail
    go_ret
    exact ⟨rfl, HX.out⟩
  by_cases h5 : totQ ls ins < valI qty
  · rw [take_high hv h3 hQ h5] at HK
    have HC := Lib.hid (cmpP qty (ofI (totQ ls ins)) (by omega) (by have := totQ_le hL ins; omega))
    rw [valI_ofI] at HC
    have g : decide (0 < cmpI (valI qty) (totQ ls ins)) = true := by rw [decide_eq_true_iff]; exact cmpI_pos.2 h5
    generalize cmpI (valI qty) (totQ ls ins) = cc at *
    generalize ofI (totC ls ins) = cs at *
    generalize ofI (totQ ls ins) = qs at *
    clear hE hA hv hL h3 h0 h4 h5 hQ
    go_enter Tryz.func4, Tryz.ntmps4
    go_wp2_with fail
    refine HFN.out.mono ?_
    rintro e w1 ⟨rfl, hx1⟩
    have HX := Lib.hid hx1
    clear hx1
    go_wp2_with fail
    refine (HLQ.out _).mono ?_
    rintro e wy ⟨h1, h2⟩
    subst h1
    subst h2
    go_wp2_with fail
    refine (HCK.out _).mono ?_
    rintro e wy ⟨h1, h2⟩
    subst h1
    subst h2
    go_wp2_with fail
    refine (HT.out _ HX.out).mono ?_
    rintro e v41 ⟨rfl, hx1⟩
    replace HX := Lib.hid (HX.out.trans hx1)
    clear hx1
    go_wp2_with fail
    refine (HK.out _ HX.out).mono ?_
    rintro e v42 ⟨rfl, hx1⟩
    replace HX := Lib.hid (HX.out.trans hx1)
    clear hx1
    go_wp2_with fail
    refine (HK2.out _ HX.out).mono ?_
    rintro e v43 ⟨rfl, hx1⟩
    replace HX := Lib.hid (HX.out.trans hx1)
    clear hx1
    go_wp2_with fail
    refine (HC.out _ (HE.out.ext HX.out)).mono ?_
    rintro e v44 ⟨rfl, hx1⟩
    replace HX := Lib.hid (HX.out.trans hx1)
    clear hx1
    go_wp2_with fail
    refine (lawAwake _ (HE.out.ext HX.out)).mono ?_
    rintro e v46 ⟨rfl, hx1⟩
    replace HX := Lib.hid (HX.out.trans hx1)
    clear hx1
    go_wp2_with fail
    go_ret
    exact ⟨rfl, HX.out⟩
  rw [take_ok hv h3 hQ h4 h5] at HK
  have HP := Lib.hid (fun W hx => avgPrice ls A c ins W (hE.ext hx) (hL.ext hx))
  rw [priceV_ok hv hQ] at HP
  have hsq := share_qb hL ins qty (by omega)
  have hsl := share_len hL ins qty (by omega)
  have hav := avg_qb hL ins
  have hcl := totC_le hL ins
  have hqq : QB 2000 ((valI qty : Int) : Rat) := qb_val (by omega) (by omega)
  have hnear := shareZ_near (totC ls ins) (valI qty) (totQ ls ins)
  generalize shareZ (totC ls ins) (valI qty) (totQ ls ins) = s at *
  have hrl : (ofI (totC ls ins - s)).length ≤ 5000 := by
    have := sub_len (x := ofI (totC ls ins)) (y := ofI s) (L := 4002) (by omega) hsl
    rw [valI_ofI, valI_ofI] at this; omega
  have o1 := fracOf (ofI s) (by omega)
  rw [valI_ofI] at o1
  have o2 := fracOf qty (by omega)
  have b4 := hav.mul hqq
  have b5 := hsq.sub (b4.mono (by omega : 2000 + 2000 ≤ 4001))
  have l1 := hsq.num_len
  have l1' := hsq.den_len
  have l2 := hqq.num_len
  have l2' := hqq.den_len
  have l3 := hav.num_len
  have l3' := hav.den_len
  have l4 := b4.num_len
  have l4' := b4.den_len
  have b6 := absQ_qb b5
  have l6 := b6.num_len
  have l6' := b6.den_len
  have m1 := fracMul (ofQ (Rat.divInt (totC ls ins) (totQ ls ins))) (ofQ ((valI qty : Int) : Rat)) (by omega) (by omega) (by omega) (by omega)
  rw [frQ_ofQ, frQ_ofQ] at m1
  have s1 := fracSub (ofQ ((s : Int) : Rat)) (ofQ (Rat.divInt (totC ls ins) (totQ ls ins) * ((valI qty : Int) : Rat))) (by omega) (by omega) (by omega) (by omega)
  rw [frQ_ofQ, frQ_ofQ] at s1
  have a1 := lawAbs _ (b5.mono (by omega : 4001 + 4001 + 1 ≤ 10000))
  have c1 := fracCmp (ofQ (absQ ((s : Int) - Rat.divInt (totC ls ins) (totQ ls ins) * ((valI qty : Int) : Rat)))) ⟨[49], [50]⟩ (by omega) (by omega) (by simp) (by simp)
  rw [frQ_ofQ, half_frQ] at c1
  have d1 := addP (ofI s) (ofI (totC ls ins - s)) (by omega) (by omega)
  rw [valI_ofI, valI_ofI, show s + (totC ls ins - s) = totC ls ins by omega] at d1
  have g : decide (cmpQ (absQ ((s : Int) - Rat.divInt (totC ls ins) (totQ ls ins) * ((valI qty : Int) : Rat))) (1 / 2) ≤ 0) = true := by
    rw [decide_eq_true_iff]
    have h6 : ¬ (1 / 2 < absQ ((s : Int) - Rat.divInt (totC ls ins) (totQ ls ins) * ((valI qty : Int) : Rat))) := Rat.not_lt.2 hnear
    have h7 := mt cmpQ_pos.1 h6
    omega
  have O1 := Lib.hid o1
  have O2 := Lib.hid o2
  have M1 := Lib.hid m1
  have S1 := Lib.hid s1
  have A1 := Lib.hid a1
  have C1 := Lib.hid c1
  have D1 := Lib.hid d1
  clear o1 o2 m1 s1 a1 c1 d1 l1 l1' l2 l2' l3 l3' l4 l4' l6 l6' b4 b5 b6 hsq hsl hav hcl hqq hnear hrl
  generalize cmpQ (absQ ((s : Int) - Rat.divInt (totC ls ins) (totQ ls ins) * ((valI qty : Int) : Rat))) (1 / 2) = cc at *
  generalize ofQ (absQ ((s : Int) - Rat.divInt (totC ls ins) (totQ ls ins) * ((valI qty : Int) : Rat))) = rz at *
  generalize ofQ ((s : Int) - Rat.divInt (totC ls ins) (totQ ls ins) * ((valI qty : Int) : Rat)) = ry at *
  generalize ofQ (Rat.divInt (totC ls ins) (totQ ls ins) * ((valI qty : Int) : Rat)) = rx at *
  generalize ofQ (Rat.divInt (totC ls ins) (totQ ls ins)) = rp at *
  generalize ofQ ((valI qty : Int) : Rat) = rq at *
  generalize ofQ ((s : Int) : Rat) = rs at *
  generalize ofI (totC ls ins - s) = bs2 at *
  generalize ofI s = bs1 at *
  generalize ofI (totC ls ins) = cs at *
  generalize ofI (totQ ls ins) = qs at *
  clear hE hA hv hL h3 h0 h4 h5 hQ
  go_enter Tryz.func4, Tryz.ntmps4
  go_wp2_with fail
  refine HFN.out.mono ?_
  rintro e w1 ⟨rfl, hx1⟩
  have HX := Lib.hid hx1
  clear hx1
  go_wp2_with fail
  refine (HLQ.out _).mono ?_
  rintro e wy ⟨h1, h2⟩
  subst h1
  subst h2
  go_wp2_with fail
  refine (HCK.out _).mono ?_
  rintro e wy ⟨h1, h2⟩
  subst h1
  subst h2
  go_wp2_with fail
  refine (HT.out _ HX.out).mono ?_
  rintro e v51 ⟨rfl, hx1⟩
  replace HX := Lib.hid (HX.out.trans hx1)
  clear hx1
  go_wp2_with fail
  refine (HK.out _ HX.out).mono ?_
  rintro e v52 ⟨rfl, hx1⟩
  replace HX := Lib.hid (HX.out.trans hx1)
  clear hx1
  go_wp2_with fail
  refine (HK2.out _ HX.out).mono ?_
  rintro e v53 ⟨rfl, hx1⟩
  replace HX := Lib.hid (HX.out.trans hx1)
  clear hx1
  go_wp2_with fail
  refine (HP.out _ HX.out).mono ?_
  rintro e wp ⟨rfl, hx1⟩
  replace HX := Lib.hid (HX.out.trans hx1)
  clear hx1
  have HB := Lib.hid (Blk.new wp 28 #[.string (bs rp.num), .string (bs rp.den)])
  replace HX := Lib.hid (HX.out.alloc (.cells #[.string (bs rp.num), .string (bs rp.den)] 28))
  go_upto_region 13 with fail
  generalize wp.alloc (.cells #[.string (bs rp.num), .string (bs rp.den)] 28) = W at *
  generalize wp.heap.size = Q at *
  go_cut [17] (fun p17 wx => BoxAt W rz p17 wx)
  case first =>
    obtain ⟨q0, q1, _, _⟩ := frBlk HB.out (Ext.refl W)
    have HD : Hid (Ext W W.drew) := Lib.hid (Ext.refl W).drew
    have HBP := Lib.hid (HB.out.drew)
    go_region_held3 (fun w' => w'.cell? ⟨Q, 0, none⟩ = some (.string (bs rp.num)) ∧ w'.cell? ⟨Q, 1, none⟩ = some (.string (bs rp.den)))
      (go_keep)
      (first
        | (go_at_call 27; ((with_reducible refine (O1.out _ (HE.out.ext (HX.out.trans HD.out))).mono ?_); rintro e w5 ⟨rfl, hx⟩); (replace HD := Lib.hid (HD.out.trans hx)); (obtain ⟨q2, q3, _, _⟩ := frBlk HB.out HD.out); (replace HBP := Lib.hid (HBP.out.ext hx)); (obtain ⟨p0, p1, p2, p3⟩ := frBlk HBP.out (Ext.refl _)); (have hq5 := Nat.ne_of_lt (HB.out.ext HD.out).lt); (have hq6 := Nat.ne_of_gt (HB.out.ext HD.out).lt); clear hx)
        | (go_at_call 27; ((with_reducible refine (O1.out _ (HE.out.ext (HX.out.trans (HD.out.alloc _)))).mono ?_); rintro e w5 ⟨rfl, hx⟩); (have HLE := Lib.hid HD.out.size); (have hpq := Nat.ne_of_lt (Nat.lt_of_lt_of_le HB.out.lt HLE.out)); (have hqp := Nat.ne_of_gt (Nat.lt_of_lt_of_le HB.out.lt HLE.out)); (have HBP := Lib.hid ((Blk.new _ _ _).ext hx)); (replace HD := Lib.hid ((HD.out.alloc _).trans hx)); (obtain ⟨q2, q3, _, _⟩ := frBlk HB.out HD.out); (obtain ⟨p0, p1, p2, p3⟩ := frBlk HBP.out (Ext.refl _)); (have hq5 := Nat.ne_of_lt (HB.out.ext HD.out).lt); (have hq6 := Nat.ne_of_gt (HB.out.ext HD.out).lt); clear hx)
        | (go_at_call 27; ((with_reducible refine (O1.out _ (HE.out.ext (HX.out.trans ((Ext.new _ _).drew)))).mono ?_); rintro e w5 ⟨rfl, hx⟩); (have HLE := Lib.hid (Nat.le_refl W.heap.size)); (have hpq := Nat.ne_of_lt (Nat.lt_of_lt_of_le HB.out.lt HLE.out)); (have hqp := Nat.ne_of_gt (Nat.lt_of_lt_of_le HB.out.lt HLE.out)); (have HBP := Lib.hid (((Blk.new _ _ _).drew).ext hx)); (replace HD := Lib.hid (((Ext.new W _).drew).trans hx)); (obtain ⟨q2, q3, _, _⟩ := frBlk HB.out HD.out); (obtain ⟨p0, p1, p2, p3⟩ := frBlk HBP.out (Ext.refl _)); (have hq5 := Nat.ne_of_lt (HB.out.ext HD.out).lt); (have hq6 := Nat.ne_of_gt (HB.out.ext HD.out).lt); clear hx)
        | (go_at_call 27; ((with_reducible refine (O2.out _ (HE.out.ext (HX.out.trans HD.out))).mono ?_); rintro e w5 ⟨rfl, hx⟩); (replace HD := Lib.hid (HD.out.trans hx)); (obtain ⟨q2, q3, _, _⟩ := frBlk HB.out HD.out); (replace HBP := Lib.hid (HBP.out.ext hx)); (obtain ⟨p0, p1, p2, p3⟩ := frBlk HBP.out (Ext.refl _)); (have hq5 := Nat.ne_of_lt (HB.out.ext HD.out).lt); (have hq6 := Nat.ne_of_gt (HB.out.ext HD.out).lt); clear hx)
        | (go_at_call 27; ((with_reducible refine (O2.out _ (HE.out.ext (HX.out.trans (HD.out.alloc _)))).mono ?_); rintro e w5 ⟨rfl, hx⟩); (have HLE := Lib.hid HD.out.size); (have hpq := Nat.ne_of_lt (Nat.lt_of_lt_of_le HB.out.lt HLE.out)); (have hqp := Nat.ne_of_gt (Nat.lt_of_lt_of_le HB.out.lt HLE.out)); (have HBP := Lib.hid ((Blk.new _ _ _).ext hx)); (replace HD := Lib.hid ((HD.out.alloc _).trans hx)); (obtain ⟨q2, q3, _, _⟩ := frBlk HB.out HD.out); (obtain ⟨p0, p1, p2, p3⟩ := frBlk HBP.out (Ext.refl _)); (have hq5 := Nat.ne_of_lt (HB.out.ext HD.out).lt); (have hq6 := Nat.ne_of_gt (HB.out.ext HD.out).lt); clear hx)
        | (go_at_call 28; ((with_reducible refine (M1.out _ (HE.out.ext (HX.out.trans HD.out))).mono ?_); rintro e w5 ⟨rfl, hx⟩); (replace HD := Lib.hid (HD.out.trans hx)); (obtain ⟨q2, q3, _, _⟩ := frBlk HB.out HD.out); (replace HBP := Lib.hid (HBP.out.ext hx)); (obtain ⟨p0, p1, p2, p3⟩ := frBlk HBP.out (Ext.refl _)); (have hq5 := Nat.ne_of_lt (HB.out.ext HD.out).lt); (have hq6 := Nat.ne_of_gt (HB.out.ext HD.out).lt); clear hx)
        | (go_at_call 28; ((with_reducible refine (M1.out _ (HE.out.ext (HX.out.trans (HD.out.alloc _)))).mono ?_); rintro e w5 ⟨rfl, hx⟩); (have HLE := Lib.hid HD.out.size); (have hpq := Nat.ne_of_lt (Nat.lt_of_lt_of_le HB.out.lt HLE.out)); (have hqp := Nat.ne_of_gt (Nat.lt_of_lt_of_le HB.out.lt HLE.out)); (have HBP := Lib.hid ((Blk.new _ _ _).ext hx)); (replace HD := Lib.hid ((HD.out.alloc _).trans hx)); (obtain ⟨q2, q3, _, _⟩ := frBlk HB.out HD.out); (obtain ⟨p0, p1, p2, p3⟩ := frBlk HBP.out (Ext.refl _)); (have hq5 := Nat.ne_of_lt (HB.out.ext HD.out).lt); (have hq6 := Nat.ne_of_gt (HB.out.ext HD.out).lt); clear hx)
        | (go_at_call 26; ((with_reducible refine (S1.out _ (HE.out.ext (HX.out.trans HD.out))).mono ?_); rintro e w5 ⟨rfl, hx⟩); (replace HD := Lib.hid (HD.out.trans hx)); (obtain ⟨q2, q3, _, _⟩ := frBlk HB.out HD.out); (replace HBP := Lib.hid (HBP.out.ext hx)); (obtain ⟨p0, p1, p2, p3⟩ := frBlk HBP.out (Ext.refl _)); (have hq5 := Nat.ne_of_lt (HB.out.ext HD.out).lt); (have hq6 := Nat.ne_of_gt (HB.out.ext HD.out).lt); clear hx)
        | (go_at_call 26; ((with_reducible refine (S1.out _ (HE.out.ext (HX.out.trans (HD.out.alloc _)))).mono ?_); rintro e w5 ⟨rfl, hx⟩); (have HLE := Lib.hid HD.out.size); (have hpq := Nat.ne_of_lt (Nat.lt_of_lt_of_le HB.out.lt HLE.out)); (have hqp := Nat.ne_of_gt (Nat.lt_of_lt_of_le HB.out.lt HLE.out)); (have HBP := Lib.hid ((Blk.new _ _ _).ext hx)); (replace HD := Lib.hid ((HD.out.alloc _).trans hx)); (obtain ⟨q2, q3, _, _⟩ := frBlk HB.out HD.out); (obtain ⟨p0, p1, p2, p3⟩ := frBlk HBP.out (Ext.refl _)); (have hq5 := Nat.ne_of_lt (HB.out.ext HD.out).lt); (have hq6 := Nat.ne_of_gt (HB.out.ext HD.out).lt); clear hx)
        | (go_at_call 25; ((with_reducible refine (A1.out _ (HE.out.ext (HX.out.trans HD.out))).mono ?_); rintro e w5 ⟨rfl, hx⟩); (replace HD := Lib.hid (HD.out.trans hx)); (obtain ⟨q2, q3, _, _⟩ := frBlk HB.out HD.out); (replace HBP := Lib.hid (HBP.out.ext hx)); (obtain ⟨p0, p1, p2, p3⟩ := frBlk HBP.out (Ext.refl _)); (have hq5 := Nat.ne_of_lt (HB.out.ext HD.out).lt); (have hq6 := Nat.ne_of_gt (HB.out.ext HD.out).lt); clear hx)
        | (go_at_call 25; ((with_reducible refine (A1.out _ (HE.out.ext (HX.out.trans (HD.out.alloc _)))).mono ?_); rintro e w5 ⟨rfl, hx⟩); (have HLE := Lib.hid HD.out.size); (have hpq := Nat.ne_of_lt (Nat.lt_of_lt_of_le HB.out.lt HLE.out)); (have hqp := Nat.ne_of_gt (Nat.lt_of_lt_of_le HB.out.lt HLE.out)); (have HBP := Lib.hid ((Blk.new _ _ _).ext hx)); (replace HD := Lib.hid ((HD.out.alloc _).trans hx)); (obtain ⟨q2, q3, _, _⟩ := frBlk HB.out HD.out); (obtain ⟨p0, p1, p2, p3⟩ := frBlk HBP.out (Ext.refl _)); (have hq5 := Nat.ne_of_lt (HB.out.ext HD.out).lt); (have hq6 := Nat.ne_of_gt (HB.out.ext HD.out).lt); clear hx)
        | fail)
    all_goals
      go_wp2_with fail
      go_meet
      first
        | exact ⟨_, rfl, Blk.new _ _ _, HD.out.alloc _⟩
        | exact ⟨_, rfl, (HBP.out.set_ 0 _).set_ 1 _, (HD.out.setCell (p := ⟨_, 0, none⟩) HLE.out _).setCell (p := ⟨_, 1, none⟩) HLE.out _⟩
  case rest =>
    obtain ⟨P, rfl, hbp, hxw⟩ := hcut
    obtain ⟨z0, z1, _, _⟩ := frBlk hbp (Ext.refl _)
    have HBZ := Lib.hid hbp
    replace HX := Lib.hid (HX.out.trans hxw)
    clear hbp hxw O1 O2 M1 S1 A1 HB z0 z1
    go_wp2_with fail
    refine (D1.out _ (HE.out.ext HX.out)).mono ?_
    rintro e v61 ⟨rfl, hx1⟩
    replace HBZ := Lib.hid (HBZ.out.ext hx1)
    replace HX := Lib.hid (HX.out.trans hx1)
    clear hx1
    obtain ⟨z0, z1, _, _⟩ := frBlk HBZ.out (Ext.refl _)
    go_wp2_with fail
    refine (C1.out _ (HE.out.ext HX.out)).mono ?_
    rintro e v62 ⟨rfl, hx1⟩
    replace HX := Lib.hid (HX.out.trans hx1)
    clear hx1
    go_wp2_with fail
    refine (lawAwake _ (HE.out.ext HX.out)).mono ?_
    rintro e v64 ⟨rfl, hx1⟩
    replace HX := Lib.hid (HX.out.trans hx1)
    clear hx1
    go_wp2_with fail
    go_ret
    exact ⟨rfl, HX.out⟩
end Go.Proofs.YtikehdbkiplleaaGreatDoor
namespace Go.Proofs.YtikehdbkiplleaaGreatDoor.averageTakes
open Go.ChangeShapes Go.WideShapes Go.ChangeAt Go.RowKit Go.Deep Go.Joins

set_option maxRecDepth 100000 in
theorem contract (H : Type) (enc : TypeId × Value → H) (W : World) (base : Nat) (args : Array Value) (ds gs : List (DataW H)) (before : List MemPlace)
    (hval : ∀ (j : Nat) t v, Tryz.f4.params[j]? = some t → args[j]? = some v → Value.okWide Tryz.prog W .any base t v)
    (hW : DataW.Whole enc Tryz.prog Tryz.f4.params.toList Rows.averageTakesSpec.vars false W args.toList ds gs before) (hwt : (DataW.weightsEach Tryz.prog (Tryz.f4.params.toList ++ (OpenSpec.ofChange Rows.averageTakesSpec).bare.plain.varTypes Tryz.prog) (ds ++ gs)).all (· ≤ reachBytes) = true)
    (hL : laidMetH Tryz.prog Rows.averageTakesRow.laid W) (hsh : W.ShapedOpen Tryz.prog) :
    Calls Tryz.prog 4 args W fun e W' => ∃ v, e = .returned v ∧ Rows.averageTakesSpec.post enc Tryz.prog Tryz.f4 false true false false W args v W' := by
  have hE : Env W := env_of (show laidMet Tryz.prog _ W from hL) hsh
  have hW' := hW
  obtain ⟨p, q, hA0, hV, rfl, hfz, hnd⟩ := hW
  have hA : DataW.TrodAll enc Tryz.prog W 0 (fun _ => true) true Tryz.f4.params.toList args.toList ds p := hA0
  rw [Tryz.params4] at hA hval hwt
  obtain ⟨v0, vs0, d0, ds0, p0, q0, hargs, rfl, rfl, h0, r0⟩ := trodAll_cons hA
  obtain ⟨v1, vs1, d1, ds1, p1, q1, rfl, rfl, rfl, h1, r1⟩ := trodAll_cons r0
  obtain ⟨v2, vs2, d2, ds2, p2, q2, rfl, rfl, rfl, h2, r2⟩ := trodAll_cons r1
  obtain ⟨rfl, rfl, rfl⟩ := trodAll_nil r2
  obtain rfl : args = #[v0, v1, v2] := by cases args; simp_all
  obtain ⟨rfl, rfl⟩ := trodVars_none hV
  simp only [List.append_nil, List.cons_append, List.nil_append, DataW.weightsEach, List.all_append, Bool.and_eq_true] at hwt
  obtain ⟨s0, A0, c0, rfl, hR0, hc0, hn0⟩ := open_lots (hval 0 22 v0 rfl rfl) h0 hwt.1
  obtain ⟨x1, rfl, rfl, rfl, hx1⟩ := ChangeMaps.open_string Tryz.underlying9 (hval 1 9 v1 rfl rfl) h1
  obtain ⟨t1, rfl⟩ : ∃ t, x1 = bs t := ⟨L x1, (bs_L x1).symm⟩
  obtain ⟨x2, rfl, rfl, rfl, hx2⟩ := ChangeMaps.open_string Tryz.underlying23 (hval 2 23 v2 rfl rfl) h2
  obtain ⟨t2, rfl⟩ : ∃ t, x2 = bs t := ⟨L x2, (bs_L x2).symm⟩
  refine (lawTakes s0 A0 c0 t1 t2 W hR0 hc0 hn0 hE).mono fun e W' ⟨he, hx⟩ => ?_
  subst he
  exact ⟨_, rfl, post_law laidOut (by kernel_rfl) (by kernel_rfl) Tryz.underlying4 rfl hW' rfl rfl rfl hx⟩

def flat1 : DataW Unit → List Value | .lit (.int k n) => [.int k n] | _ => []
def flat2 : DataW Unit → List Value | .agg ps => ps.flatMap flat1 | x => flat1 x
def flat3 : DataW Unit → List Value | .agg ps => ps.flatMap flat2 | x => flat1 x
def layIn (w : World) (g : Nat) (d : DataW Unit) : World := { w with heap := w.heap.modify g fun
  | .cells _ t frozen => .cells (flat3 d).toArray t frozen
  | o => o }
/-- A WORLD FOR THE WITNESS: the settled one, the library's tables holding what their initialisers lay. -/
noncomputable def low : Nat := (World.holding Tryz.prog default ⟨#[], #[], []⟩).heap.size
def layErr (w : World) (g b : Nat) : World := { w with heap := w.heap.modify g fun
  | .cells _ t frozen => .cells #[.iface 222 (.pointer (some ⟨b, 0, none⟩))] t frozen
  | o => o }
noncomputable def laidWorld (os : Os) : World :=
  layErr (layErr (layIn (layIn (layIn (layIn (layIn (World.holding Tryz.prog os ⟨#[.cells #[.string ⟨#[118, 97, 108, 117, 101, 32, 111, 117, 116, 32, 111, 102, 32, 114, 97, 110, 103, 101]⟩] 224, .cells #[.string ⟨#[105, 110, 118, 97, 108, 105, 100, 32, 115, 121, 110, 116, 97, 120]⟩] 224], #[], []⟩) 6 Rows.laid_math_bits_deBruijn32tab) 7 Rows.laid_math_bits_deBruijn64tab) 2 Rows.laid_internal_strconv_uint64pow10) 5 Rows.laid_unicode_utf8_acceptRanges) 4 Rows.laid_unicode_utf8_first) 1 low) 0 (low + 1)
theorem laid_met (os : Os) : laidMet Tryz.prog Rows.averageTakesRow.laid ((laidWorld os).forCall (fun _ _ => 0) ⟨#[], #[.slice none 0 0, .string ⟨#[]⟩, .string ⟨#[]⟩], []⟩).memory :=
  laidMet_of_run' 8 (by kernel_rfl) (by kernel_rfl)
theorem reads (os : Os) {H : Type} (enc : TypeId × Value → H) : ∃ places, DataW.whole enc Tryz.prog ((laidWorld os).forCall (fun _ _ => 0) ⟨#[], #[.slice none 0 0, .string ⟨#[]⟩, .string ⟨#[]⟩], []⟩).memory Tryz.f4.params.toList Rows.averageTakesSpec.vars false (#[.slice none 0 0, .string ⟨#[]⟩, .string ⟨#[]⟩] : Array Value).toList 8 = some ([.nil, .lit (.string []), .lit (.string [])], [], places) :=
  ⟨[], by kernel_rfl⟩

set_option maxRecDepth 100000 in
theorem lifted (os : Os) (started : os.Started) (H : Type) (enc : TypeId × Value → H) (F : Stop.Interp) :
    ReturnsInHanded {} Tryz.checked os 4 .any ((OpenSpec.ofChange Rows.averageTakesSpec).preRow enc Tryz.prog Tryz.f4 Rows.averageTakesRow.domain false Rows.averageTakesRow.laid) (((OpenSpec.ofChange Rows.averageTakesSpec).at F).post enc Tryz.prog Tryz.f4 false true false false) := by
  obtain ⟨places, hx⟩ := reads os enc
  refine returnsInHanded_of_row (C := Tryz.checked) (s := OpenSpec.ofChange Rows.averageTakesSpec) own started (by kernel_rfl) Tryz.func4
    (witness_row_at (enc := enc) (C := Tryz.checked) false (laidWorld os) #[.slice none 0 0, .string ⟨#[]⟩, .string ⟨#[]⟩] rfl (by kernel_rfl) (by kernel_rfl) (by kernel_rfl)
      (OpenSpec.preRow_of_cond 8 hx (by kernel_rfl) (fun k hk => by cases hk) (by kernel_rfl) (laid_met os))) ?_
  intro W base args ds gs before hval hW _ _ hwt hL hsh _
  exact contract H enc W base args ds gs before hval hW hwt hL hsh

theorem said : Rows.AverageTakesSaid :=
  OpenClaim.holds_of_cond 4 Tryz.f4 rfl rfl rfl rfl rfl rfl rfl ⟨rfl, rfl, rfl, rfl, rfl⟩ rfl rfl rfl rfl rfl (by kernel_rfl) Tryz.func4 (by kernel_rfl)
    (of_decide_eq_true (by kernel_rfl)) (by unfold Func.isWrapper; first | (rw [if_pos (by decide +kernel)]; kernel_rfl) | (rw [if_neg (by decide +kernel)]; exact ⟨rfl, rfl⟩))
    (fun os started H enc _ F => by rw [OpenClaim.pre_eq_preRow]; exact lifted os started H enc F)

theorem plain (f : FuncId) (fn : Func) (hf : Tryz.pinned.checked.prog.funcNamed "tranche/tranchelaw22.AverageTakes" = some f) (hfn : Tryz.pinned.checked.prog.funcs[f]? = some fn) :
    true = Tryz.pinned.checked.prog.looks [] ∧ ∀ (j : Nat) t, fn.params[j]? = some t → Tryz.pinned.checked.prog.wantsStandIn t = false := by
  obtain rfl : f = 4 := Option.some.inj ((show Tryz.prog.funcNamed "tranche/tranchelaw22.AverageTakes" = some 4 by kernel_rfl).symm.trans hf) |>.symm
  obtain rfl : fn = Tryz.f4 := (Option.some.inj (Tryz.func4.symm.trans hfn)).symm
  refine ⟨by kernel_rfl, fun j t ht => ?_⟩
  rw [Tryz.params4] at ht
  have hm := Array.mem_of_getElem? ht
  simp only [List.mem_toArray, List.mem_cons, List.not_mem_nil, or_false] at hm
  rcases hm with rfl | rfl | rfl
  · exact (show Tryz.prog.wantsStandIn 22 = false by kernel_rfl)
  · exact (show Tryz.prog.wantsStandIn 9 = false by kernel_rfl)
  · exact (show Tryz.prog.wantsStandIn 23 = false by kernel_rfl)

/-- THE CARD -/
theorem card : Rows.AverageTakesCardSaid :=
  Claim7.holds_tied_plain_at .later [] _ _ _ _ said (fun _ h => by cases h) (by kernel_rfl) (fun _ h => by cases h) averageTakes_row_tie rfl ⟨rfl, rfl⟩ (by kernel_rfl) rfl plain (by kernel_rfl)
end Go.Proofs.YtikehdbkiplleaaGreatDoor.averageTakes
