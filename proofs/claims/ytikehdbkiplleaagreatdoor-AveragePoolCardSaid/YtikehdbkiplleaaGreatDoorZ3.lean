/- The seat's texts, part 3 of 5. -/
import Derived.Test.YtikehdbkiplleaaGreatDoorZ2
import Derived.Deep.RegionHeld3
import Derived.BigQuiet
import Derived.Test.YtikehdbkiplleaaGreatDoorProg
import Derived.Lib.SplitLaws
import Derived.RangeFuncNested
import Derived.RangeFuncBound
import Derived.RangeFuncCalls
import Derived.RangeFuncLeaves
import Derived.Shelf.Abstract
import Derived.Shelf.RegionOpen
import Derived.OwnWalkIn
import Derived.TacticsInMore
import Derived.LoopNIn
import Derived.LoopIn
import Derived.RangeFuncRecord
import Derived.WideMake
import Derived.Lib.LaidTab
import Derived.Shelf.Vars
import Derived.Stop.LaidErr
import Derived.RangeFuncStops
import Derived.OrdersIn

/- The walks over the program's division by one group, and over its Mul. -/
namespace Go.Proofs.YtikehdbkiplleaaGreatDoor
open Go.RowKit
attribute [local go_sem] size_bs toList_bs

def SgEnds (q r : Nat) (w : World) (e : Ending) (w' : World) : Prop :=
  ∃ A c, e = .returned (.tuple #[.slice A (gr q).length c, .int .u64 (r : Nat)]) ∧ w'.ownsRow w.heap.size 114 1 (.slice A (gr q).length c) (gr q).length (ucells (gr q)) ∧ Ext w w'
theorem sgQ (r x d : Nat) : ((r : Int) * 1000000000 + (x : Int)) / (d : Int) = (((r * B9 + x) / d : Nat) : Int) ∧ ((r : Int) * 1000000000 + (x : Int)) % (d : Int) = (((r * B9 + x) % d : Nat) : Int) := by
  have e : (r : Int) * 1000000000 + (x : Int) = ((r * B9 + x : Nat) : Int) := by
    rw [Int.natCast_add, Int.natCast_mul]; rfl
  rw [e]
  exact ⟨rfl, rfl⟩
set_option maxRecDepth 100000 in
set_option maxHeartbeats 1000000 in
theorem intSingle (x d : Nat) (hd : 0 < d) (hdB : d < B9) (A : Option Addr) (c : Nat) (w : World) (hA : RdU w A (gr x)) (hn : (gr x).length ≤ 1000000) :
    Calls Tryz.prog 214 #[.slice A (gr x).length c, .int .u64 (d : Nat)] w (SgEnds (x / d) (x % d) w) := by
  have HA := Lib.hid hA
  have HBX : Hid (AllB (gr x)) := Lib.hid (gr_lt x)
  have HVX := Lib.hid (gval_gr x)
  generalize gr x = gx at *
  clear hA
  obtain ⟨W, hmk, hrow, hxW⟩ := makeU gx.length _ w rfl (by omega)
  have HROW := Lib.hid hrow
  have HXW := Lib.hid hxW
  clear hrow hxW
  have e9 : B9 = 1000000000 := rfl
  rw [e9] at hdB
  clear e9
  have hdz : ((d : Int) == 0) = false := by rw [beq_eq_false_iff_ne]; omega
  go_enter Tryz.func214, Tryz.ntmps214
  go_wp2_with fail
  clear hmk
  go_loopw [8, 7] (fun vi vr wr => ∃ (i r : Nat) (R : List Nat), i ≤ gx.length ∧ vi = .int .i64 ((i : Int) - 1) ∧ vr = .int .u64 r ∧ RowU wr w.heap.size gx.length R ∧ SgAt gx d i r R ∧ Ext w wr) (fun vi _ _ => (intOf vi + 1).toNat)
  case atStart => exact ⟨gx.length, 0, _, Nat.le_refl _, rfl, rfl, HROW.out, SgAt.start hd _ (by simp) (fun g hg => by rw [(List.mem_replicate.1 hg).2]; decide), HXW.out⟩
  case round =>
    clear HROW HXW
    obtain ⟨i, r, R, hi, rfl, rfl, hrow, hs, hx⟩ := hrel
    have HR := Lib.hid hrow
    have HS := Lib.hid hs
    have HX := Lib.hid hx
    have hRl := hs.len
    have hrb := hs.rb
    clear hrow hs hx
    rcases Nat.eq_zero_or_pos i with h0 | h0
    · subst h0
      obtain ⟨f1, f2, f3⟩ := HS.out.fin
      have HF2 : Hid (x % d = r) := Lib.hid (by rw [← HVX.out]; exact f2)
      have HCF : Hid (cutL R = gr (x / d)) := Lib.hid (by rw [f3, HVX.out])
      have HCP := Lib.hid (HR.out.caps)
      have HCUT := Lib.hid (intCut R (some ⟨w.heap.size, 0, none⟩) gx.length wr HR.out.reads HCP.out.1 HCP.out.2 HS.out.all)
      have HOW := Lib.hid (HR.out.cutOwn (base := w.heap.size) (Nat.le_refl _))
      rw [HCF.out] at HCUT HOW
      rw [hRl] at HCUT
      clear f1 f2 f3
      go_wp2_with fail
      refine HCUT.out.mono ?_
      rintro e w9 ⟨rfl, rfl⟩
      go_wp2_with fail
      go_ret2
      exact ⟨_, _, by rw [HF2.out]; rfl, HOW.out, HX.out⟩
    · obtain ⟨j, rfl⟩ : ∃ j, i = j + 1 := ⟨i - 1, by omega⟩
      have hj : j < gx.length := by omega
      have e0 : ((j + 1 : Nat) : Int) - 1 = (j : Int) := by omega
      rw [e0]
      clear e0
      obtain ⟨b, o, rfl, hb, hcx⟩ := (HA.out.ext HX.out).at_ hj
      rw [← at0_lt hj] at hcx
      have hbx := HBX.out.at0 j
      have HST := Lib.hid (HS.out.step HBX.out hj)
      have hcr := HR.out.at0 (k := j) (by omega)
      have hfr := HR.out.frozen j
      have HRS := Lib.hid (fun v z hz => HR.out.put j z v (by omega) hz)
      have e9 : B9 = 1000000000 := rfl
      rw [e9] at hbx
      clear e9
      generalize at0 gx j = xj at *
      generalize at0 R j = oj at *
      obtain ⟨hq, hr⟩ := sgQ r xj d
      have HQ := Lib.hid hq
      have HRM := Lib.hid hr
      clear hq hr
      go_wp2_with fail
      exact ⟨⟨j, _, _, by omega, by first | rfl | go_num, by rw [HRM.out], HRS.out _ _ HQ.out, HST.out, HX.out.setCell (p := ⟨w.heap.size, j, none⟩) (Nat.le_refl _) _⟩, by simp [intOf] <;> omega⟩
theorem sgn_mul (a b : Bool) (x y : Nat) : sgn (a != b) (x * y) = sgn a x * sgn b y := by
  cases a <;> cases b <;> simp [sgn, Int.natCast_mul, Int.neg_mul, Int.mul_neg]
theorem mul_len10 {x y L : Nat} (hx : x < 10 ^ L) (hy : y < 10 ^ L) : (gr (x * y)).length ≤ L + L := by
  refine gr_len10 ?_
  rw [Nat.pow_add]
  exact Nat.mul_lt_mul'' hx hy
set_option maxRecDepth 100000 in
set_option maxHeartbeats 2000000 in
theorem intMul (a b : Bs) (w : World) (ha : a.length ≤ 100000) (hb : b.length ≤ 100000) (hE : Env w) :
    Calls Tryz.prog 89 #[.string (bs a), .string (bs b)] w fun e w' => e = .returned (.string (bs (ofI (valI a * valI b)))) ∧ Ext w w' := by
  have HR1 := Lib.hid (fun W => intRead a W (by omega))
  have HR2 := Lib.hid (fun W => intRead b W (by omega))
  obtain ⟨L, hLa, hLb, hL⟩ : ∃ L : Nat, a.length ≤ L ∧ b.length ≤ L ∧ L ≤ 100000 := ⟨max a.length b.length, by omega, by omega, by omega⟩
  have HL1 : Hid ((gr (natOf (mag a))).length ≤ 1000000) := Lib.hid (by have := gr_len10 (mag_pow a hLa); omega)
  have HL2 : Hid ((gr (natOf (mag b))).length ≤ 1000000) := Lib.hid (by have := gr_len10 (mag_pow b hLb); omega)
  have HL3 : Hid ((gr (natOf (mag a) * natOf (mag b))).length ≤ 1000000) := Lib.hid (by have := mul_len10 (mag_pow a hLa) (mag_pow b hLb); omega)
  have HE := Lib.hid hE
  have HV : Hid (txt (!(neg a == neg b)) (natOf (mag a) * natOf (mag b)) = ofI (valI a * valI b)) := Lib.hid (by rw [txt_ofI, show (!(neg a == neg b)) = (neg a != neg b) from rfl, sgn_mul]; rfl)
  generalize ofI (valI a * valI b) = z at *
  generalize natOf (mag a) = x at *
  generalize natOf (mag b) = y at *
  generalize neg a = ba at *
  generalize neg b = bb at *
  clear ha hb hLa hLb hE
  go_enter Tryz.func89, Tryz.ntmps89
  go_wp2_with fail
  refine (HR1.out _).mono ?_
  rintro e w1 ⟨A, c, rfl, hrd1, hx1, _, _⟩
  go_wp2_with fail
  refine (HR2.out _).mono ?_
  rintro e w2 ⟨A', c', rfl, hrd2, hx2, _, _⟩
  have HB1 := Lib.hid ((Blk.new w2 81 #[.bool ba, .slice A (gr x).length c]).alloc (.cells #[.bool bb, .slice A' (gr y).length c'] 81))
  have HB2 := Lib.hid (blk_at (w2.alloc (.cells #[.bool ba, .slice A (gr x).length c] 81)) 81 #[.bool bb, .slice A' (gr y).length c'] (w2.heap.size + 1) (by simp))
  have HX : Hid (Ext w ((w2.alloc (.cells #[.bool ba, .slice A (gr x).length c] 81)).alloc (.cells #[.bool bb, .slice A' (gr y).length c'] 81))) := Lib.hid (((hx1.trans hx2).alloc _).alloc _)
  have HD1 := Lib.hid (((hrd1.ext hx2).ext (Ext.new _ (.cells #[.bool ba, .slice A (gr x).length c] 81))).ext (Ext.new _ (.cells #[.bool bb, .slice A' (gr y).length c'] 81)))
  have HD2 := Lib.hid ((hrd2.ext (Ext.new _ (.cells #[.bool ba, .slice A (gr x).length c] 81))).ext (Ext.new _ (.cells #[.bool bb, .slice A' (gr y).length c'] 81)))
  clear hrd1 hrd2 hx1 hx2
  go_wp2_with fail
  generalize ((w2.alloc (.cells #[.bool ba, .slice A (gr x).length c] 81)).alloc (.cells #[.bool bb, .slice A' (gr y).length c'] 81)) = W at *
  generalize w2.heap.size = g at *
  have x0 := HB1.out.cell 0
  have x1 := HB1.out.cell 1
  have y0 := HB2.out.cell 0
  have y1 := HB2.out.cell 1
  simp only [List.getElem?_toArray, List.getElem?_cons_zero, List.getElem?_cons_succ] at x0 x1 y0 y1
  replace HX := Lib.hid HX.out.drew
  replace HB1 := Lib.hid HB1.out.drew
  replace HB2 := Lib.hid HB2.out.drew
  replace HD1 := Lib.hid (HD1.out.ext (Ext.refl W).drew)
  replace HD2 := Lib.hid (HD2.out.ext (Ext.refl W).drew)
  go_region_held3 (fun w' => w'.cell? ⟨g, 0, none⟩ = some (.bool ba) ∧ w'.cell? ⟨g, 1, none⟩ = some (.slice A (gr x).length c) ∧ w'.cell? ⟨g + 1, 0, none⟩ = some (.bool bb) ∧ w'.cell? ⟨g + 1, 1, none⟩ = some (.slice A' (gr y).length c'))
    (go_keep)
    (first
      | (go_at_call 140; ((with_reducible refine (intTimes x y A A' c c' _ HD1.out HD2.out HL1.out HL2.out).mono ?_); rintro e w4 h4); (obtain ⟨A1, c1, rfl, hrd, hx, hc1, hc2⟩ := h4.mag); (have hb1 := HB1.out.ext hx); (have hb2 := HB2.out.ext hx); (have u0 := hb1.cell 0); (have u1 := hb1.cell 1); (have v0 := hb2.cell 0); (have v1 := hb2.cell 1); (simp only [List.getElem?_toArray, List.getElem?_cons_zero, List.getElem?_cons_succ] at u0 u1 v0 v1); (replace HB1 := Lib.hid hb1); (replace HB2 := Lib.hid hb2); (replace HX := Lib.hid (HX.out.trans hx)); (have HD := Lib.hid hrd); (have HC := Lib.hid (And.intro hc1 hc2)); clear hb1 hb2 hrd hx hc1 hc2 h4)
      | (go_at_call 72; ((with_reducible refine (intText (!(ba == bb)) (x * y) A1 c1 _ HD.out HL3.out HC.out.1 HC.out.2 (HE.out.ext HX.out)).mono ?_); rintro e w5 ⟨rfl, hx⟩); (have hb1 := HB1.out.ext hx); (have hb2 := HB2.out.ext hx); (have s0 := hb1.cell 0); (have s1 := hb1.cell 1); (have t0 := hb2.cell 0); (have t1 := hb2.cell 1); (simp only [List.getElem?_toArray, List.getElem?_cons_zero, List.getElem?_cons_succ] at s0 s1 t0 t1); (replace HX := Lib.hid (HX.out.trans hx)); clear hb1 hb2 hx))
  all_goals
    rw [HV.out]
    go_wp2_with fail
    go_ret
    exact ⟨rfl, HX.out⟩
end Go.Proofs.YtikehdbkiplleaaGreatDoor

/- The walks over the program's division of magnitudes: the short ways. -/
namespace Go.Proofs.YtikehdbkiplleaaGreatDoor
open Go.RowKit
attribute [local go_sem] size_bs toList_bs

def DivEnds (q r : Nat) (w : World) (e : Ending) (w' : World) : Prop :=
  ∃ A1 c1 A2 c2, e = .returned (.tuple #[.slice A1 (gr q).length c1, .slice A2 (gr r).length c2]) ∧ RdU w' A1 (gr q) ∧ RdU w' A2 (gr r) ∧ Ext w w' ∧ ((gr q).length ≤ c1 ∧ c1 ≤ maxLen) ∧ ((gr r).length ≤ c2 ∧ c2 ≤ maxLen)
set_option maxRecDepth 100000 in
set_option maxHeartbeats 1000000 in
theorem intDivide_lt (x y : Nat) (h : x < y) (A A' : Option Addr) (c c' : Nat) (w : World) (hA : RdU w A (gr x)) (hA' : RdU w A' (gr y)) (hn : (gr x).length ≤ 1000000) (hn' : (gr y).length ≤ 1000000) (hc : (gr x).length ≤ c) (hm : c ≤ maxLen) :
    Calls Tryz.prog 178 #[.slice A (gr x).length c, .slice A' (gr y).length c'] w (DivEnds (x / y) (x % y) w) := by
  have HA := Lib.hid hA
  have HC := Lib.hid (And.intro hc hm)
  have HCP := Lib.hid (intCompare x y A A' c c' w hA hA' hn hn')
  have HQ : Hid (gr (x / y) = [] ∧ gr (x % y) = gr x) := Lib.hid ⟨by rw [Nat.div_eq_of_lt h, gr_zero], by rw [Nat.mod_eq_of_lt h]⟩
  clear hA hA' hc hm
  go_enter Tryz.func178, Tryz.ntmps178
  go_wp2_with fail
  refine HCP.out.mono ?_
  rintro e w1 ⟨hx1, r, rfl, hcase⟩
  have hr : r < 0 := by omega
  have HX1 := Lib.hid hx1
  clear hcase hx1
  go_wp2_with fail
  go_ret2
  refine ⟨none, 0, A, c, by rw [HQ.out.1, HQ.out.2]; rfl, by rw [HQ.out.1]; exact Reads.nil, by rw [HQ.out.2]; exact HA.out.ext HX1.out, HX1.out, by rw [HQ.out.1]; exact ⟨by simp, by unfold maxLen; omega⟩, by rw [HQ.out.2]; exact HC.out⟩
theorem gr_one {y : Nat} (h : (gr y).length = 1) : gr y = [y] ∧ 0 < y ∧ y < B9 := by
  have hy : y ≠ 0 := by intro e; rw [e, gr_zero] at h; simp at h
  rw [gr_pos hy] at h
  have h2 : gr (y / B9) = [] := List.length_eq_zero_iff.1 (by simpa using h)
  have h3 : y / B9 = 0 := gr_inj (by rw [h2, gr_zero])
  have e : B9 = 1000000000 := rfl
  have h4 : y < B9 := by rw [e] at h3 ⊢; omega
  exact ⟨by rw [gr_pos hy, h2, Nat.mod_eq_of_lt h4], by omega, h4⟩
theorem cut_one {r : Nat} (h : r < B9) : cutL [r] = gr r := by
  rw [cutL_gr (by intro g hg; simp at hg; omega)]
  show gr (r + B9 * 0) = gr r
  rw [Nat.mul_zero, Nat.add_zero]
set_option maxRecDepth 100000 in
set_option maxHeartbeats 1000000 in
theorem intDivide_one (x y : Nat) (h : y ≤ x) (h1 : (gr y).length = 1) (A A' : Option Addr) (c c' : Nat) (w : World) (hA : RdU w A (gr x)) (hA' : RdU w A' (gr y)) (hn : (gr x).length ≤ 1000000) :
    Calls Tryz.prog 178 #[.slice A (gr x).length c, .slice A' (gr y).length c'] w (DivEnds (x / y) (x % y) w) := by
  obtain ⟨e1, hy0, hyB⟩ := gr_one h1
  have HA := Lib.hid hA
  have HCP := Lib.hid (intCompare x y A A' c c' w hA hA' hn (by omega))
  have HSG := Lib.hid (fun W hW => intSingle x y hy0 hyB A c W hW hn)
  have hA2 := hA'
  rw [e1] at hA2
  obtain ⟨b, o, rfl, hb, hcy⟩ := hA2.at_ (k := 0) (by simp)
  have HCY := Lib.hid hcy
  have HRB : Hid (x % y < B9) := Lib.hid (Nat.lt_trans (Nat.mod_lt _ hy0) hyB)
  have HL : Hid ((gr y).length = 1) := Lib.hid h1
  rw [h1] at HCP ⊢
  clear hA hA' hA2 e1 h1 hcy hyB
  generalize x / y = q at *
  generalize x % y = r at *
  go_enter Tryz.func178, Tryz.ntmps178
  go_wp2_with fail
  refine HCP.out.mono ?_
  rintro e w1 ⟨hx1, z, rfl, hcase⟩
  have hr : ¬ z < 0 := by omega
  have HX1 := Lib.hid hx1
  have hcy := (hx1.cell (p := ⟨b, o + 0, none⟩) hb).trans HCY.out
  simp only [Nat.add_zero, List.getElem_cons_zero] at hcy
  clear hcase hx1
  go_wp2_with fail
  refine (HSG.out _ (HA.out.ext HX1.out)).mono ?_
  rintro e w2 ⟨A1, c1, rfl, hown, hx2⟩
  have HOW := Lib.hid hown
  have HX2 := Lib.hid (HX1.out.trans hx2)
  clear hown hx2 hcy
  have HCUT := Lib.hid (intCut [r] (some ⟨w2.heap.size, 0, none⟩) 1 (w2.alloc (.cells #[.int .u64 r] 114)) (Reads.lit rfl) (by simp) (by unfold maxLen; omega) (by intro g hg; simp at hg; have := HRB.out; omega))
  rw [cut_one HRB.out] at HCUT
  go_wp2_with fail
  refine HCUT.out.mono ?_
  rintro e w3 ⟨rfl, rfl⟩
  go_wp2_with fail
  go_ret2
  have hrd : RdU (w2.alloc (.cells #[.int .u64 r] 114)) (some ⟨w2.heap.size, 0, none⟩) (gr r) := by
    have h1 : RdU (w2.alloc (.cells #[.int .u64 r] 114)) (some ⟨w2.heap.size, 0, none⟩) [r] := Reads.lit rfl
    have h2 := cutL_prefix [r]
    rw [cut_one HRB.out] at h2
    rw [h2]; exact h1.take _
  have hrl : (gr r).length ≤ 1 := by have := cutL_le [r]; rw [cut_one HRB.out] at this; simpa using this
  exact ⟨A1, c1, _, _, rfl, (show RdU w2 A1 (gr q) from Reads.own HOW.out).ext (Ext.new _ _), hrd, HX2.out.alloc _, own_cap HOW.out, hrl, by unfold maxLen; omega⟩
end Go.Proofs.YtikehdbkiplleaaGreatDoor

/- Plain: the start of a long division. No program in sight. -/
namespace Go.Proofs.YtikehdbkiplleaaGreatDoor
open Go.RowKit

theorem RowU.far {w : World} {g cap : Nat} {gs : List Nat} (h : RowU w g cap gs) {g' : Nat} (hne : g ≠ g') (k : Nat) (u : Value) : RowU (w.setCell ⟨g', k, none⟩ u) g cap gs := by
  obtain ⟨cur, h⟩ := h
  exact ⟨cur, { h with blk := h.blk.far (p := ⟨g', k, none⟩) hne u }⟩
theorem RowU.of_own {w : World} {base : Nat} {A : Option Addr} {c : Nat} {gs : List Nat} (h : w.ownsRow base 114 1 (.slice A gs.length c) gs.length (ucells gs)) (h0 : 0 < gs.length) : ∃ g, A = some ⟨g, 0, none⟩ ∧ base ≤ g ∧ RowU w g c gs := by
  obtain ⟨g, cap, e1, hg, hlt⟩ := h.form h0
  injection e1 with e1 _ e3
  subst e1; subst e3
  obtain ⟨hgb, cur, hrow⟩ := Row.of_own h
  exact ⟨g, rfl, hgb, cur, hrow⟩
/-- the factor that makes the highest group large -/
theorem scale_ok {t : Nat} (h0 : 0 < t) (hB : t < B9) : 0 < 1000000000 / (t + 1) ∧ 1000000000 / (t + 1) < B9 := by
  have e : B9 = 1000000000 := rfl
  rw [e] at hB ⊢
  constructor
  · exact Nat.div_pos (by omega) (by omega)
  · exact Nat.div_lt_self (by omega) (by omega)
theorem gr_small {s : Nat} (h0 : 0 < s) (hB : s < B9) : gr s = [s] := by
  rw [gr_pos (by omega), Nat.mod_eq_of_lt hB, Nat.div_eq_of_lt hB, gr_zero]
theorem gr_topPos {y : Nat} (h : 0 < (gr y).length) : 0 < at0 (gr y) ((gr y).length - 1) := by
  have hne : gr y ≠ [] := by intro e; rw [e] at h; simp at h
  have ht := gr_top y ((gr y).dropLast) ((gr y).getLast hne) (List.dropLast_concat_getLast hne).symm
  rw [at0_lt (by omega), ← List.getLast_eq_getElem hne]; omega
theorem dvr_gr {y : Nat} (h : 2 ≤ (gr y).length) : Dvr (gr y) := ⟨h, gr_lt y, gr_topPos (by omega)⟩
theorem allB_append {a b : List Nat} (ha : AllB a) (hb : AllB b) : AllB (a ++ b) := fun g hg => by
  rcases List.mem_append.1 hg with h | h
  · exact ha g h
  · exact hb g h
/-- how the long division begins: two groups 0 are laid behind -/
theorem kn_start {X Y : Nat} (hY : 2 ≤ (gr Y).length) (hXY : Y ≤ X) : KnAt X (gr Y) ((gr X).length + 2) ((gr X).length + 2 - (gr Y).length) (gr X ++ [0, 0]) (List.replicate ((gr X).length + 2 - (gr Y).length) 0) ∧ (gr Y).length ≤ (gr X).length := by
  have hl := gr_len_mono hXY
  have hb := dvr_gr hY
  refine ⟨KnAt.start hb (by simp) (allB_append (gr_lt X) (by intro g hg; simp at hg; subst hg; decide)) (by simp) (fun g hg => by rw [(List.mem_replicate.1 hg).2]; decide) ?_ (by omega) ?_, hl⟩
  · rw [gval_append, show gval [0, 0] = 0 from rfl, Nat.mul_zero, Nat.add_zero, gval_gr]
  · have e1 : (gr X ++ [0, 0]).drop ((gr X).length + 2 - (gr Y).length) = (gr X).drop ((gr X).length + 2 - (gr Y).length) ++ [0, 0] := by
      rw [List.drop_append_of_le_length (by omega)]
    rw [e1, gval_append, show gval [0, 0] = 0 from rfl, Nat.mul_zero, Nat.add_zero]
    have h1 := gval_lt (AllB.drop (gr_lt X) ((gr X).length + 2 - (gr Y).length))
    rw [List.length_drop] at h1
    have h2 : (gr X).length - ((gr X).length + 2 - (gr Y).length) = (gr Y).length - 2 := by omega
    rw [h2] at h1
    obtain ⟨p1, _⟩ := hb.parts
    have h3 : 1 * B9 ^ ((gr Y).length - 2) ≤ (at0 (gr Y) ((gr Y).length - 1) * B9 + at0 (gr Y) ((gr Y).length - 2)) * B9 ^ ((gr Y).length - 2) := Nat.mul_le_mul_right _ (by have := hb.top; have e : B9 = 1000000000 := rfl; rw [e]; omega)
    omega
theorem scaled {x y s : Nat} (hs : 0 < s) (_hy : 0 < y) : (x * s) / (y * s) = x / y ∧ (x * s) % (y * s) = (x % y) * s ∧ (x % y) * s / s = x % y :=
  ⟨Nat.mul_div_mul_right _ _ hs, Nat.mul_mod_mul_right _ _ _, Nat.mul_div_cancel _ hs⟩
theorem kn_end {X Y : Nat} {a q : List Nat} (h : KnAt X (gr Y) ((gr X).length + 2) 0 a q) (hY : 2 ≤ (gr Y).length) (hl : (gr Y).length ≤ (gr X).length) : cutL q = gr (X / Y) ∧ cutL (a.take (gr Y).length) = gr (X % Y) := by
  obtain ⟨f1, f2, f3⟩ := h.fin (dvr_gr hY) (by omega)
  rw [gval_gr] at f1 f2
  refine ⟨by rw [cutL_gr h.allq, f1], ?_⟩
  rw [cutL_gr (h.alla.take _), f3, f2]
theorem SubIn.top {g : Nat} {b a0 a : List Nat} {i j bo : Nat} (h : SubIn g b a0 i j bo a) : at0 a (i + j) = at0 a0 (i + j) := by
  have h1 := at0_drop a (i + j) 0
  have h2 := at0_drop a0 (i + j) 0
  rw [h.high] at h1
  rw [Nat.add_zero] at h1 h2; rw [← h1, ← h2]
theorem AddIn.top {b a0 a : List Nat} {i j ca : Nat} (h : AddIn b a0 i j ca a) : at0 a (i + j) = at0 a0 (i + j) := by
  have h1 := at0_drop a (i + j) 0
  have h2 := at0_drop a0 (i + j) 0
  rw [h.high] at h1
  rw [Nat.add_zero] at h1 h2; rw [← h1, ← h2]
theorem AddIn.ex {b a0 : List Nat} {i : Nat} (hb : AllB b) (ha : AllB a0) : ∀ j, i + j ≤ a0.length → ∃ ca a, AddIn b a0 i j ca a
  | 0, _ => ⟨0, a0, AddIn.start ha⟩
  | j + 1, h => by
    obtain ⟨ca, a, h1⟩ := AddIn.ex (i := i) hb ha j (by omega)
    exact ⟨_, _, h1.step hb (by omega)⟩
theorem KnAt.pos {A0 La i : Nat} {b a q a1 : List Nat} {g bo : Nat} (h : KnAt A0 b La (i + 1) a q) (hb : Dvr b) (hi : i + b.length < La) (hs : SubIn g b a i b.length bo a1) (hg : g < B9) (hle : g ≤ gval (a.drop i) / gval b + 1) (ht : at0 a (i + b.length) < bo) : 0 < g := by
  obtain ⟨ca, a2, h1⟩ := AddIn.ex (b := b) (i := i) hb.all hs.all b.length (by rw [hs.len, h.la]; omega)
  exact (h.wrong hb hi hs h1 hg hle ht).1
end Go.Proofs.YtikehdbkiplleaaGreatDoor

/- The walk over the program's long division of magnitudes. -/
namespace Go.Proofs.YtikehdbkiplleaaGreatDoor
open Go.RowKit
attribute [local go_sem] size_bs toList_bs

/-- how the long division stands in memory -/
def KnRel (X : Nat) (bL : List Nat) (La ga gb gq capA cB capQ : Nat) (w : World) (vi : Value) (wr : World) : Prop :=
  ∃ (i : Nat) (a q : List Nat), vi = .int .i64 ((i : Int) - 1) ∧ i ≤ La - bL.length ∧ RowU wr ga capA a ∧ RowU wr gb cB bL ∧ RowU wr gq capQ q ∧ KnAt X bL La i a q ∧ Ext w wr
set_option maxRecDepth 100000 in
set_option maxHeartbeats 2000000 in
theorem intDivide_long (x y : Nat) (h : y ≤ x) (h2 : 2 ≤ (gr y).length) (A A' : Option Addr) (c c' : Nat) (w : World) (hA : RdU w A (gr x)) (hA' : RdU w A' (gr y)) (hn : (gr x).length ≤ 900000) (hn' : (gr y).length ≤ 900000) :
    Calls Tryz.prog 178 #[.slice A (gr x).length c, .slice A' (gr y).length c'] w (DivEnds (x / y) (x % y) w) := by
  have hy0 : 0 < y := by
    rcases Nat.eq_zero_or_pos y with e | e
    · rw [e, gr_zero] at h2; simp at h2
    · exact e
  have HA := Lib.hid hA
  have HA' := Lib.hid hA'
  have HCP := Lib.hid (intCompare x y A A' c c' w hA hA' (by omega) (by omega))
  have htp := gr_topPos (y := y) (by omega)
  have htb : at0 (gr y) ((gr y).length - 1) < B9 := at0_bd (gr_lt y) _
  obtain ⟨hs0, hsB⟩ := scale_ok htp htb
  obtain ⟨b, o, rfl, hb, hct⟩ := hA'.at_ (k := (gr y).length - 1) (by omega)
  rw [← at0_lt] at hct
  have HCT := Lib.hid hct
  have HTM := Lib.hid (fun s (_ : 0 < s) (_ : s < B9) (B : Option Addr) (W : World) (h1 : RdU W A (gr x)) (h3 : RdU W B (gr s)) => intTimes x s A B c 1 W h1 h3 (by omega) (by rw [gr_small ‹_› ‹_›]; simp))
  have HTN := Lib.hid (fun s (_ : 0 < s) (_ : s < B9) (B : Option Addr) (W : World) (h1 : RdU W (some ⟨b, o, none⟩) (gr y)) (h3 : RdU W B (gr s)) => intTimes y s (some ⟨b, o, none⟩) B c' 1 W h1 h3 (by omega) (by rw [gr_small ‹_› ‹_›]; simp))
  generalize htt : at0 (gr y) ((gr y).length - 1) = t at *
  clear hA hA' hct htt
  have e9 : B9 = 1000000000 := rfl
  rw [e9] at htb
  clear e9
  have hks : ((gr y).length : Int) - 1 = (((gr y).length - 1 : Nat) : Int) := by omega
  have hk1 : (((gr y).length : Int) == 1) = false := by rw [beq_eq_false_iff_ne]; omega
  go_enter Tryz.func178, Tryz.ntmps178
  go_wp2_with fail
  refine HCP.out.mono ?_
  rintro e w1 ⟨hx1, z, rfl, hcase⟩
  have hr : ¬ z < 0 := by omega
  have hrb : decide (z < 0) = false := by simpa using hr
  have HX1 := Lib.hid hx1
  have hcy := (hx1.cell (p := ⟨b, o + ((gr y).length - 1), none⟩) hb).trans HCT.out
  clear hcase hx1
  go_wp2_with fail
  have hsI : (1000000000 : Int) / ((t : Int) + 1) = ((1000000000 / (t + 1) : Nat) : Int) := by
    rw [Int.natCast_ediv, Int.natCast_add]; rfl
  rw [hsI]
  clear hsI
  generalize 1000000000 / (t + 1) = s at *
  obtain ⟨f1, f2, f3⟩ := scaled (x := x) hs0 hy0
  have HF := Lib.hid (And.intro f1 (And.intro f2 f3))
  have hXY : y * s ≤ x * s := Nat.mul_le_mul_right _ h
  have hYl : 2 ≤ (gr (y * s)).length := Nat.le_trans h2 (gr_len_mono (Nat.le_mul_of_pos_right _ hs0))
  have HGS := Lib.hid (gr_small hs0 hsB)
  have HLX : Hid ((gr (x * s)).length ≤ 900001) := Lib.hid (by
    have h5 : x < B9 ^ (gr x).length := by have := gval_lt (gr_lt x); rwa [gval_gr] at this
    have h6 : x * s < B9 ^ ((gr x).length + 1) := by rw [Nat.pow_succ]; exact Nat.mul_lt_mul'' h5 hsB
    have := gr_len_le h6; omega)
  obtain ⟨hkn, hlk⟩ := kn_start hYl hXY
  have HKN := Lib.hid hkn
  have HKE := Lib.hid (fun a q hk => kn_end (X := x * s) (Y := y * s) (a := a) (q := q) hk hYl hlk)
  have HDV := Lib.hid (dvr_gr hYl)
  clear f1 f2 f3 hkn hcy htb htp
  have HB1 : Hid (RdU (w1.alloc (.cells #[.int .u64 s] 114)) (some ⟨w1.heap.size, 0, none⟩) (gr s)) := Lib.hid (by rw [HGS.out]; exact Reads.lit rfl)
  have HT1 := Lib.hid (HTM.out s hs0 hsB (some ⟨w1.heap.size, 0, none⟩) (w1.alloc (.cells #[.int .u64 s] 114)) (HA.out.ext (HX1.out.alloc _)) HB1.out)
  rw [show (gr s).length = 1 by rw [HGS.out]; rfl] at HT1
  refine HT1.out.mono ?_
  rintro e w2 ⟨A2, c2, rfl, hown2, hx2⟩
  have HX2 := Lib.hid ((HX1.out.alloc _).trans hx2)
  have hz2 := hx2.size
  simp only [World.size_alloc] at hz2
  have HOW2 := Lib.hid hown2
  clear hown2 hx2 HT1 HB1
  obtain ⟨i0, hI, hz0, hz1, hzb⟩ := info_parts u64Info
  have HI := Lib.hid hI
  clear hI
  have hXl : 0 < (gr (x * s)).length := by omega
  have hlx := HLX.out
  go_wp2_with (at_builtin; refine wpList_append_lies _ rfl (.tmp 55) (.tmp 56) 79 rfl (w1.alloc (.cells #[.int .u64 s] 114)).heap.size 114 i0 _ 1 8 Tryz.underlying79 HI.out hz0 hz1 hzb rfl (by decide) _ (gr (x * s)).length (ucells (gr (x * s))) rfl (own_ext2 HOW2.out (Ext.new _ _)) ⟨w2.heap.size, 0, none⟩ 2 2 [.int .u64 0, .int .u64 0] rfl rfl (World.news_of_block (heap_alloc_new w2 _)) (by simp [Value.oneCell']) (by omega) (by simp only [maxLen]; omega) (by omega) (by simp; omega) _ rfl ?_; intro ga capA w3 hown3 hgrow3 hat3 hlt3)
  have HX3 : Hid (Ext w w3) := Lib.hid (Ext.grown (HX2.out.alloc _) hgrow3 (fun k hk => Nat.le_trans (HX1.out.alloc _).size (own_base HOW2.out k hk)))
  have hrowA : RowU w3 ga capA (gr (x * s) ++ [0, 0]) := by
    obtain ⟨hgb, cur, hrow⟩ := Row.of_own hown3
    refine ⟨cur, ?_⟩
    have e1 : (gr (x * s) ++ [0, 0]).length = (gr (x * s)).length + 2 := by simp
    have e2 : ucells (gr (x * s) ++ [0, 0]) = ucells (gr (x * s)) ++ [.int .u64 0, .int .u64 0] := by simp [ucells]
    rw [e1, e2]; exact hrow
  have HGA : Hid (w.heap.size ≤ ga) := Lib.hid (Nat.le_trans (HX1.out.alloc _).size (Row.of_own hown3).1)
  have HRA := Lib.hid hrowA
  clear hown3 hgrow3 hat3 hrowA HOW2 HX2 hz2
  have HB2 : Hid (RdU (w3.alloc (.cells #[.int .u64 s] 114)) (some ⟨w3.heap.size, 0, none⟩) (gr s)) := Lib.hid (by rw [HGS.out]; exact Reads.lit rfl)
  have HT2 := Lib.hid (HTN.out s hs0 hsB (some ⟨w3.heap.size, 0, none⟩) (w3.alloc (.cells #[.int .u64 s] 114)) (HA'.out.ext (HX3.out.alloc _)) HB2.out)
  rw [show (gr s).length = 1 by rw [HGS.out]; rfl] at HT2
  refine HT2.out.mono ?_
  rintro e w4 ⟨A4, cB, rfl, hown4, hx4⟩
  obtain ⟨gb, rfl, hgb, hrowB⟩ := RowU.of_own hown4 (by omega)
  have HX4 := Lib.hid ((HX3.out.alloc _).trans hx4)
  have HGB : Hid (ga < gb ∧ gb < w4.heap.size) := Lib.hid ⟨by have := HRA.out.lt; simp at hgb; omega, hrowB.lt⟩
  have HRB := Lib.hid hrowB
  replace HRA := Lib.hid ((HRA.out.ext (Ext.new _ _)).ext hx4)
  clear hown4 hx4 HT2 HB2 hrowB hgb HTM HTN
  generalize hLX : (gr (x * s)).length = LX at *
  generalize hLY : (gr (y * s)).length = LY at *
  obtain ⟨W5, hmk, hrowQ, hx5⟩ := makeU (LX + 2 - LY) _ w4 rfl (by omega)
  have hLI : (LX : Int) + 2 - (LY : Int) = ((LX + 2 - LY : Nat) : Int) := by omega
  rw [← hLI] at hmk
  have HX5 := Lib.hid (HX4.out.trans hx5)
  have HRQ := Lib.hid hrowQ
  replace HRA := Lib.hid (HRA.out.ext hx5)
  replace HRB := Lib.hid (HRB.out.ext hx5)
  clear hrowQ hx5 hLI
  have HLXe := Lib.hid hLX
  have HLYe := Lib.hid hLY
  clear hLX hLY
  generalize x * s = X at *
  generalize y * s = Y at *
  generalize gr Y = bL at *
  go_wp2_with fail
  clear hmk
  have HGQ : Hid (gb < w4.heap.size) := Lib.hid HGB.out.2
  generalize w4.heap.size = gq at *
  have hlyb : bL.length = LY := HLYe.out
  have HB0 : Hid (KnRel X bL (LX + 2) ga gb gq capA cB (LX + 2 - LY) w (.int .i64 ((LX : Int) + 2 - (LY : Int) - 1)) W5) := Lib.hid ⟨LX + 2 - LY, _, _, by congr 1; omega, by omega, HRA.out, HRB.out, HRQ.out, HKN.out, HX5.out⟩
  clear HRA HRB HRQ HX5 HKN hlyb
  go_loopw [13, 14, 15, 16, 17, 18, 19, 20, 21] (fun vi _ _ _ _ _ _ _ _ wr => KnRel X bL (LX + 2) ga gb gq capA cB (LX + 2 - LY) w vi wr) (fun vi _ _ _ _ _ _ _ _ _ => (intOf vi + 1).toNat)
  case atStart => exact HB0.out
  case round =>
    clear HB0
    obtain ⟨i, a, q, rfl, hi, hra, hrb', hrq, hkn, hx⟩ := hrel
    have HRA := Lib.hid hra
    have HRB := Lib.hid hrb'
    have HRQ := Lib.hid hrq
    have HKN := Lib.hid hkn
    have HX := Lib.hid hx
    have hla := hkn.la
    have hlq := hkn.lq
    have hlyb : bL.length = LY := HLYe.out
    rw [hlyb] at hi hlq
    clear hra hrb' hrq hkn hx
    rcases Nat.eq_zero_or_pos i with h0 | h0
    · subst h0
      obtain ⟨k1, k2⟩ := HKE.out a q HKN.out
      have HK1 : Hid (cutL q = gr (x / y)) := Lib.hid (by rw [k1, HF.out.1])
      have HK2 := Lib.hid k2
      have hcA := HRA.out.caps
      have hcQ := HRQ.out.caps
      have htl : (a.take LY).length = LY := by rw [List.length_take]; omega
      have HCA := Lib.hid (intCut (a.take LY) (some ⟨ga, 0, none⟩) capA wr (HRA.out.reads.take LY) (by omega) hcA.2 (HKN.out.alla.take LY))
      rw [htl, k2] at HCA
      have HRR : Hid (RdU wr (some ⟨ga, 0, none⟩) (gr (X % Y))) := Lib.hid (by rw [← k2, cutL_prefix (a.take LY)]; exact (HRA.out.reads.take LY).take _)
      have HRL : Hid ((gr (X % Y)).length ≤ 1000000) := Lib.hid (by have := cutL_le (a.take LY); rw [k2, htl] at this; omega)
      have HSG := Lib.hid (intSingle (X % Y) s hs0 hsB (some ⟨ga, 0, none⟩) capA wr HRR.out HRL.out)
      rw [show (X % Y) / s = x % y by rw [HF.out.2.1, HF.out.2.2]] at HSG
      have HCQ := Lib.hid (fun W hW => intCut q (some ⟨gq, 0, none⟩) (LX + 2 - LY) W hW hcQ.1 hcQ.2 HKN.out.allq)
      rw [hlq, HK1.out] at HCQ
      have HQL : Hid ((gr (x / y)).length ≤ LX + 2 - LY) := Lib.hid (by have := cutL_le q; rw [HK1.out, hlq] at this; exact this)
      have HRDQ : Hid (RdU wr (some ⟨gq, 0, none⟩) (gr (x / y))) := Lib.hid (by rw [← HK1.out, cutL_prefix q]; exact HRQ.out.reads.take _)
      have HCQ2 := Lib.hid hcQ
      have hclA : LY ≤ capA := by omega
      have hmA := hcA.2
      unfold maxLen at hmA
      clear k1 k2 htl hcA hcQ
      generalize x / y = xq at *
      generalize x % y = xr at *
      go_wp2_with fail
      refine HCA.out.mono ?_
      rintro e w7 ⟨rfl, rfl⟩
      go_wp2_with fail
      refine HSG.out.mono ?_
      rintro e w8 ⟨A8, c8, rfl, hown8, hx8⟩
      have HOW8 := Lib.hid hown8
      have HX8 := Lib.hid hx8
      clear hown8 hx8
      go_wp2_with fail
      refine (HCQ.out _ (HRQ.out.reads.ext HX8.out)).mono ?_
      rintro e w9 ⟨rfl, rfl⟩
      go_wp2_with fail
      go_ret2
      exact ⟨_, _, A8, c8, rfl, HRDQ.out.ext HX8.out, Reads.own HOW8.out, HX.out.trans HX8.out, ⟨HQL.out, HCQ2.out.2⟩, own_cap HOW8.out⟩
    · obtain ⟨j, rfl⟩ : ∃ j, i = j + 1 := ⟨i - 1, by omega⟩
      have e0 : ((j + 1 : Nat) : Int) - 1 = (j : Int) := by omega
      rw [e0]
      clear e0
      have hj : j + LY < LX + 2 := by omega
      have a0 := HRA.out.at0 (k := j + LY) (by omega)
      have a1 := HRA.out.at0 (k := j + LY - 1) (by omega)
      have b1 := HRB.out.at0 (k := LY - 1) (by omega)
      have ba0 := HKN.out.alla.at0 (j + LY)
      have ba1 := HKN.out.alla.at0 (j + LY - 1)
      have bb1 : at0 bL (LY - 1) < B9 := HDV.out.all.at0 (LY - 1)
      have bb1p : 0 < at0 bL (LY - 1) := by have := HDV.out.top; rw [hlyb] at this; exact this
      have e9 : B9 = 1000000000 := rfl
      rw [e9] at ba0 ba1 bb1
      clear e9
      generalize hq0 : at0 a (j + LY) = t0 at *
      generalize hq1 : at0 a (j + LY - 1) = t1 at *
      generalize hq2 : at0 bL (LY - 1) = d1 at *
      have HQ0 := Lib.hid hq0
      have HQ1 := Lib.hid hq1
      have HQ2 := Lib.hid hq2
      clear hq0 hq1 hq2
      have w0 : IntKind.i64.wrap ((j : Int) + (LY : Int)) = (j : Int) + (LY : Int) := IntWalk.i64_in _ (by omega)
      have w1' : IntKind.i64.wrap ((j : Int) + (LY : Int) - 1) = (j : Int) + (LY : Int) - 1 := IntWalk.i64_in _ (by omega)
      have n0 : ((j : Int) + (LY : Int)).toNat = j + LY := by omega
      have n1 : ((j : Int) + (LY : Int) - 1).toNat = j + LY - 1 := by omega
      have p0 : (0 : Int) ≤ (j : Int) + (LY : Int) := by omega
      have p1 : (0 : Int) ≤ (j : Int) + (LY : Int) - 1 := by omega
      have p2 : (1 : Int) ≤ (j : Int) + (LY : Int) := by omega
      have m0 : (j : Int) + (LY : Int) < (LX : Int) + 2 := by omega
      have m1 : (j : Int) + (LY : Int) - 1 < (LX : Int) + 2 := by omega
      go_wp2_with fail
      go_quiet (fail)
      go_wp2_with fail
      clear w0 w1' n0 n1 p0 p1 p2 m0 m1 a0 a1 b1
      have hT : (t0 : Int) * 1000000000 + (t1 : Int) = ((t0 * B9 + t1 : Nat) : Int) := by rw [Int.natCast_add, Int.natCast_mul]; rfl
      have hTb : t0 * B9 + t1 < 1000000000000000000 := by have e9 : B9 = 1000000000 := rfl; rw [e9]; omega
      have hM : min (((t0 * B9 + t1 : Nat) : Int) / (d1 : Int)) 999999999 = ((min ((t0 * B9 + t1) / d1) (B9 - 1) : Nat) : Int) := by
        rw [← Int.natCast_ediv, show (999999999 : Int) = ((B9 - 1 : Nat) : Int) from rfl]
        generalize (t0 * B9 + t1) / d1 = u
        generalize B9 - 1 = v
        omega
      rw [hT, hM]
      clear hT hM
      have HEW := Lib.hid (Ext.refl wr |>.drewN nq)
      replace HRA := Lib.hid (HRA.out.ext HEW.out)
      replace HRB := Lib.hid (HRB.out.ext HEW.out)
      replace HRQ := Lib.hid (HRQ.out.ext HEW.out)
      replace HX := Lib.hid (HX.out.trans HEW.out)
      clear HEW
      generalize wr.drewN nq = W6 at *
      have ba2 := HKN.out.alla.at0 (j + LY - 2)
      have bb2 : at0 bL (LY - 2) < B9 := HDV.out.all.at0 (LY - 2)
      have HDVb2 := Lib.hid bb2
      have HG0 := Lib.hid (GuessAt.start (top := t0 * B9 + t1) (a2 := at0 a (j + LY - 2)) (b1 := d1) (b2 := at0 bL (LY - 2)) ba2 bb1p)
      have e9 : B9 = 1000000000 := rfl
      generalize ht3 : t0 * B9 + t1 = T at *
      generalize hq4 : at0 a (j + LY - 2) = t2 at *
      generalize hq5 : at0 bL (LY - 2) = d2 at *
      rw [e9] at ba2 bb2
      have HT3 := Lib.hid ht3
      have HQ4 := Lib.hid hq4
      have HQ5 := Lib.hid hq5
      clear e9 ht3 hq4 hq5
      go_loopw [15, 16] (fun vz _ wr => ∃ z : Nat, vz = .int .u64 z ∧ GuessAt T t2 d1 d2 z ∧ Ext W6 wr) (fun vz _ _ => (intOf vz).toNat)
      case atStart => exact ⟨_, rfl, HG0.out, Ext.refl _⟩
      case round =>
        clear HG0
        obtain ⟨g, rfl, hg, hx6⟩ := hrel
        have HG := Lib.hid hg
        have HX6 := Lib.hid hx6
        have hgB := hg.lt
        have hgl := hg.le
        have b1 := (HRB.out.ext HX6.out).at0 (k := LY - 1) (by omega)
        have b2 := (HRB.out.ext HX6.out).at0 (k := LY - 2) (by omega)
        have a2 := (HRA.out.ext HX6.out).at0 (k := j + LY - 2) (by omega)
        rw [HQ2.out] at b1
        rw [HQ5.out] at b2
        rw [HQ4.out] at a2
        have e9 : B9 = 1000000000 := rfl
        rw [e9] at hgB
        clear e9 hg hx6
        have hpd : (g : Int) * (d1 : Int) = ((g * d1 : Nat) : Int) := (Int.natCast_mul _ _).symm
        have hgd0 : (0 : Int) ≤ (g : Int) * (d1 : Int) := by rw [hpd]; omega
        have hgd1 : (g : Int) * (d1 : Int) ≤ (T : Int) := by rw [hpd]; omega
        clear hpd
        go_wp2_with fail
        have hLI : (T : Int) - (g : Int) * (d1 : Int) = ((T - g * d1 : Nat) : Int) := by
          have hpd : (g : Int) * (d1 : Int) = ((g * d1 : Nat) : Int) := (Int.natCast_mul _ _).symm
          rw [hpd]; omega
        rw [hLI]
        clear hLI hgd0 hgd1
        have hLT : T - g * d1 ≤ T := Nat.sub_le _ _
        have HFN := Lib.hid (fun hc => HG.out.fine HDVb2.out hc)
        have HDN := Lib.hid (fun hc => HG.out.down hc)
        generalize T - g * d1 = L at *
        have b2I : (g : Int) * (d2 : Int) = ((g * d2 : Nat) : Int) := (Int.natCast_mul _ _).symm
        have hgd : g * d2 ≤ 999999999 * 999999999 := Nat.mul_le_mul (by omega) (by omega)
        have hz0' : (0 : Int) ≤ (g : Int) * (d2 : Int) := by rw [b2I]; omega
        have hz1' : (g : Int) * (d2 : Int) ≤ 999999998000000001 := by rw [b2I]; omega
        have v0 : IntKind.i64.wrap ((j : Int) + (LY : Int)) = (j : Int) + (LY : Int) := IntWalk.i64_in _ (by omega)
        have v1 : IntKind.i64.wrap ((j : Int) + (LY : Int) - 2) = (j : Int) + (LY : Int) - 2 := IntWalk.i64_in _ (by omega)
        have v2 : IntKind.i64.wrap ((LY : Int) - 2) = (LY : Int) - 2 := IntWalk.i64_in _ (by omega)
        have v3 : IntKind.u64.wrap ((g : Int) * (d2 : Int)) = (g : Int) * (d2 : Int) := IntWalk.u64_in _ (by omega)
        have n1 : ((j : Int) + (LY : Int) - 2).toNat = j + LY - 2 := by omega
        have n2 : ((LY : Int) - 2).toNat = LY - 2 := by omega
        have p1 : (0 : Int) ≤ (j : Int) + (LY : Int) - 2 := by omega
        have p2 : (2 : Int) ≤ (j : Int) + (LY : Int) := by omega
        have p3 : (0 : Int) ≤ (LY : Int) - 2 := by omega
        have p4 : (2 : Int) ≤ (LY : Int) := by omega
        have m1 : (j : Int) + (LY : Int) - 2 < (LX : Int) + 2 := by omega
        have m2 : (LY : Int) - 2 < (LY : Int) := by omega
        by_cases hL : 1000000000 ≤ L
        rotate_left
        focus
          have hLb : decide ((1000000000 : Int) ≤ (L : Int)) = false := by simp; omega
          have v4 : IntKind.u64.wrap ((L : Int) * 1000000000) = (L : Int) * 1000000000 := IntWalk.u64_in _ (by omega)
          have v5 : IntKind.u64.wrap ((L : Int) * 1000000000 + (t2 : Int)) = (L : Int) * 1000000000 + (t2 : Int) := IntWalk.u64_in _ (by omega)
          by_cases hc : g * d2 ≤ L * B9 + t2
          rotate_left
          focus
            have hcI : decide ((g : Int) * (d2 : Int) ≤ (L : Int) * 1000000000 + (t2 : Int)) = false := by
              rw [b2I, decide_eq_false_iff_not]; have e9 : B9 = 1000000000 := rfl; rw [e9] at hc; omega
            obtain ⟨hg0, hgd'⟩ := HDN.out hc
            have HGD := Lib.hid hgd'
            clear hc b2I hgd'
            go_quiet (fail)
            go_wp2_with fail
            exact ⟨⟨g - 1, by go_num, HGD.out, HX6.out.drewN _⟩, by simp [intOf]; omega⟩
          have hcI : decide ((g : Int) * (d2 : Int) ≤ (L : Int) * 1000000000 + (t2 : Int)) = true := by
            rw [b2I, decide_eq_true_eq]; have e9 : B9 = 1000000000 := rfl; rw [e9] at hc; omega
          have HFINE := Lib.hid (HFN.out (.inr hc))
          clear hc b2I
          go_quiet (fail)
          go_wp2_with fail
          clear v0 v1 v2 v3 v4 v5 n1 n2 p1 p2 p3 p4 m1 m2 hz0' hz1' b1 b2 a2 hgd HFN HDN hLb hcI hL
        rotate_left
        focus
          have hLb : decide ((1000000000 : Int) ≤ (L : Int)) = true := by simp; omega
          have HFINE := Lib.hid (HFN.out (.inl hL))
          clear b2I
          go_quiet (fail)
          go_wp2_with fail
          clear v0 v1 v2 v3 n1 n2 p1 p2 p3 p4 m1 m2 hz0' hz1' b1 b2 a2 hgd HFN HDN hLb hL
        all_goals
          have HXW := Lib.hid (HX6.out.drewN nq)
          have HRA7 := Lib.hid (HRA.out.ext HXW.out)
          have HRB7 := Lib.hid (HRB.out.ext HXW.out)
          have HRQ7 := Lib.hid (HRQ.out.ext HXW.out)
          have HX7 := Lib.hid (HX.out.trans HXW.out)
          have HGUESS : Hid (gval (a.drop j) / gval bL ≤ g ∧ g ≤ gval (a.drop j) / gval bL + 1) := Lib.hid (HKN.out.guess HDV.out (by rw [hlyb]; exact hj) (by rw [hlyb, HQ0.out, HQ1.out, HQ2.out, HQ4.out, HQ5.out, HT3.out]; exact HG.out) (by rw [hlyb, HQ0.out, HQ1.out, HQ2.out, HQ4.out, HQ5.out, HT3.out]; exact HFINE.out))
          clear HXW HX6 HFINE HRA HRB HRQ HX
          generalize wr.drewN nq = W7 at *
          go_loopw [136, 17, 18, 19] (fun vk vb _ _ wr => ∃ (k bo : Nat) (a1 : List Nat), k ≤ LY ∧ vk = .int .i64 k ∧ vb = .int .u64 bo ∧ RowU wr ga capA a1 ∧ SubIn g bL a j k bo a1 ∧ RowU wr gb cB bL ∧ RowU wr gq (LX + 2 - LY) q ∧ Ext w wr) (fun vk _ _ _ _ => LY - (intOf vk).toNat)
          case atStart => exact ⟨0, 0, a, by omega, rfl, rfl, HRA7.out, SubIn.start HKN.out.alla, HRB7.out, HRQ7.out, HX7.out⟩
          case round =>
            clear HRA7 HRB7 HRQ7 HX7
            obtain ⟨k, bo, a1, hk, rfl, rfl, hra, hsb, hrb', hrq, hx⟩ := hrel
            have HRA := Lib.hid hra
            have HSB := Lib.hid hsb
            have HRB := Lib.hid hrb'
            have HRQ := Lib.hid hrq
            have HX := Lib.hid hx
            have hl1 := hsb.len
            have hbo := hsb.bb
            clear hra hsb hrb' hrq hx
            by_cases hltk : k < LY
            · have cb := HRB.out.at0 (k := k) (by omega)
              have ca := HRA.out.at0 (k := j + k) (by omega)
              have fa := HRA.out.frozen (j + k)
              have bbk := HDV.out.all.at0 k
              have bak := HSB.out.all.at0 (j + k)
              have HST := Lib.hid (HSB.out.step (by have e9 : B9 = 1000000000 := rfl; rw [e9]; exact hgB) HDV.out.all (by omega))
              have HSBD := Lib.hid (sub_bounds (g := g) (by have e9 : B9 = 1000000000 := rfl; rw [e9]; exact hgB) bbk hbo bak)
              have HP1 := Lib.hid (fun v z hz => HRA.out.put (j + k) z v (by omega) hz)
              have HP2 := Lib.hid (fun v0 z0 hz0 v z hz => (HRA.out.put (j + k) z0 v0 (by omega) hz0).put (j + k) z v (by rw [List.length_set]; omega) hz)
              generalize at0 bL k = bk at *
              generalize at0 a1 (j + k) = ak at *
              obtain ⟨hm0, hm1⟩ := mulI (x := g) (y := bk) (by have e9 : B9 = 1000000000 := rfl; rw [e9]; exact hgB) bbk
              have e9 : B9 = 1000000000 := rfl
              rw [e9] at hbo bbk bak
              clear e9
              have hjk : ((j : Int) + (k : Int)).toNat = j + k := by omega
              have hLs : ((g : Int) * (bk : Int) + (bo : Int)) % 1000000000 = (subLess g bk bo : Nat) := by
                unfold subLess; rw [Int.natCast_emod, Int.natCast_add, Int.natCast_mul]; rfl
              have hQs : ((g : Int) * (bk : Int) + (bo : Int)) / 1000000000 = ((g * bk + bo) / B9 : Nat) := by
                rw [Int.natCast_ediv, Int.natCast_add, Int.natCast_mul]; rfl
              have HLs := Lib.hid hLs
              have HQs := Lib.hid hQs
              clear hLs hQs
              have hsl : subLess g bk bo < 1000000000 := Nat.mod_lt _ (by decide)
              by_cases hlt : (ak : Int) < ((g : Int) * (bk : Int) + (bo : Int)) % 1000000000
              · have hltN : ak < subLess g bk bo := by rw [HLs.out] at hlt; omega
                have HB : Hid (subBo g bk bo ak = (g * bk + bo) / B9 + 1 ∧ subGr g bk bo ak = ak + B9 - subLess g bk bo) := Lib.hid ⟨by unfold subBo; rw [if_pos hltN], by unfold subGr; rw [if_pos hltN]⟩
                go_wp2_with fail
                exact ⟨⟨k + 1, _, _, by omega, by go_num, by rw [HB.out.1, HQs.out]; go_num, by
                  have hp := HP2.out (ak + 1000000000) ((ak : Int) + 1000000000) (by omega) (subGr g bk bo ak) ((ak : Int) + 1000000000 - ((g : Int) * (bk : Int) + (bo : Int)) % 1000000000) (by rw [HLs.out, HB.out.2, show B9 = 1000000000 from rfl]; omega)
                  rw [List.set_set] at hp
                  exact hp, HST.out, (HRB.out.far (by have := HGB.out.1; omega) _ _).far (by have := HGB.out.1; omega) _ _, (HRQ.out.far (by have := HGB.out.1; have := HGQ.out; omega) _ _).far (by have := HGB.out.1; have := HGQ.out; omega) _ _, (HX.out.setCell (p := ⟨ga, j + k, none⟩) HGA.out _).setCell (p := ⟨ga, j + k, none⟩) HGA.out _⟩, by simp [intOf]; omega⟩
              · have hltN : ¬ ak < subLess g bk bo := by rw [HLs.out] at hlt; omega
                have HB : Hid (subBo g bk bo ak = (g * bk + bo) / B9 ∧ subGr g bk bo ak = ak - subLess g bk bo) := Lib.hid ⟨by unfold subBo; rw [if_neg hltN]; rfl, by unfold subGr; rw [if_neg hltN]⟩
                go_wp2_with fail
                exact ⟨⟨k + 1, _, _, by omega, by go_num, by rw [HB.out.1, HQs.out], HP1.out (subGr g bk bo ak) _ (by rw [HLs.out, HB.out.2]; omega), HST.out, HRB.out.far (by have := HGB.out.1; omega) _ _, HRQ.out.far (by have := HGB.out.1; have := HGQ.out; omega) _ _, HX.out.setCell (p := ⟨ga, j + k, none⟩) HGA.out _⟩, by simp [intOf]; omega⟩
            · have hkl : k = LY := by omega
              subst hkl
              clear hltk hk
              have hat : at0 a1 (j + k) = t0 := by rw [HSB.out.top]; exact HQ0.out
              have ca := HRA.out.at0 (k := j + k) (by omega)
              rw [hat] at ca
              have fa := HRA.out.frozen (j + k)
              have fq := HRQ.out.frozen j
              have cq := HRQ.out.at0 (k := j) (by omega)
              have hqg : gq ≠ ga := by have := HGB.out.1; have := HGQ.out; omega
              have hgq' : ga ≠ gq := by have := HGB.out.1; have := HGQ.out; omega
              have hjk : ((j : Int) + (k : Int)).toNat = j + k := by omega
              have HSBk : Hid (SubIn g bL a j bL.length bo a1) := Lib.hid (by rw [hlyb]; exact HSB.out)
              have hgB9 : g < B9 := by have e9 : B9 = 1000000000 := rfl; rw [e9]; exact hgB
              have HGB9 := Lib.hid hgB9
              have HHJ : Hid (j + bL.length < k + (LX + 2 - k)) := Lib.hid (by omega)
              clear hgB9
              have e9 : B9 = 1000000000 := rfl
              rw [e9] at hbo
              clear e9
              by_cases hbt : bo ≤ t0
              · have HKR := Lib.hid ((HKN.out.right HDV.out (by omega) HSBk.out HGB9.out HGUESS.out.1 (by rw [hlyb, HQ0.out]; exact hbt)).1)
                rw [hlyb, HQ0.out] at HKR
                have HP1 := Lib.hid (fun v z hz => HRA.out.put (j + k) z v (by omega) hz)
                have HPQ := Lib.hid (fun W (hW : RowU W gq (LX + 2 - k) q) => hW.put j (g : Int) g (by omega) rfl)
                generalize at0 q j = qj at *
                go_wp2_with fail
                exact ⟨⟨j, _, _, by first | rfl | go_num, by omega, (HP1.out (t0 - bo) _ (by omega)).far hgq' _ _, (HRB.out.far (by have := HGB.out.1; omega) _ _).far (by have := HGQ.out; omega) _ _, HPQ.out _ (HRQ.out.far hqg _ _), HKR.out, (HX.out.setCell (p := ⟨ga, j + k, none⟩) HGA.out _).setCell (p := ⟨gq, j, none⟩) (by have := HGA.out; have := HGB.out.1; have := HGQ.out; show w.heap.size ≤ gq; omega) _⟩, by simp [intOf] <;> omega⟩
              · have hg0 := HKN.out.pos HDV.out (by omega) HSBk.out HGB9.out HGUESS.out.2 (by rw [hlyb, HQ0.out]; omega)
                obtain ⟨wo, rfl⟩ : ∃ wo : World, wo = wr := ⟨_, rfl⟩
                go_wp2_with fail
                clear ca fa fq cq
                go_loopw [200, 20, 21] (fun vk vc _ wr => ∃ (l ca : Nat) (a2 : List Nat), l ≤ k ∧ vk = .int .i64 l ∧ vc = .int .u64 ca ∧ RowU wr ga capA a2 ∧ AddIn bL a1 j l ca a2 ∧ RowU wr gb cB bL ∧ RowU wr gq (LX + 2 - k) q ∧ Ext w wr) (fun vk _ _ _ => k - (intOf vk).toNat)
                case atStart => exact ⟨0, 0, a1, by omega, rfl, rfl, HRA.out, AddIn.start HSB.out.all, HRB.out, HRQ.out, HX.out⟩
                case round =>
                  clear HRA HRB HRQ HX
                  obtain ⟨l, ca, a2, hl, rfl, rfl, hra, had, hrb', hrq, hx⟩ := hrel
                  have HRA := Lib.hid hra
                  have HAD := Lib.hid had
                  have HRB := Lib.hid hrb'
                  have HRQ := Lib.hid hrq
                  have HX := Lib.hid hx
                  have hl2 := had.len
                  have hcb := had.cb
                  clear hra had hrb' hrq hx
                  have bbl := HDV.out.all.at0 l
                  have bal := HAD.out.all.at0 (j + l)
                  have hgab : gb ≠ ga := by have := HGB.out.1; omega
                  have hgba : ga ≠ gb := by have := HGB.out.1; omega
                  by_cases hlk : l < k
                  · have cb := HRB.out.at0 (k := l) (by omega)
                    have cc := HRA.out.at0 (k := j + l) (by omega)
                    have fa := HRA.out.frozen (j + l)
                    have HST := Lib.hid (HAD.out.step HDV.out.all (by omega))
                    have HP2 := Lib.hid (fun z0 v0 hz0 z v hz => (HRA.out.put (j + l) z0 v0 (by omega) hz0).put (j + l) z v (by rw [List.length_set]; omega) hz)
                    generalize at0 bL l = bl at *
                    generalize at0 a2 (j + l) = al at *
                    have e9 : B9 = 1000000000 := rfl
                    rw [e9] at bbl bal HST
                    clear e9
                    have hjl : ((j : Int) + (l : Int)).toNat = j + l := by omega
                    have HC1 : Hid (((al : Int) + ((bl : Int) + (ca : Int))) / 1000000000 = (((al + (bl + ca)) / 1000000000 : Nat) : Int)) := Lib.hid (by omega)
                    have HP1 : Hid (((al : Int) + ((bl : Int) + (ca : Int))) % 1000000000 = (((al + (bl + ca)) % 1000000000 : Nat) : Int)) := Lib.hid (by omega)
                    go_wp2_with fail
                    go_region
                    go_wp2_with fail
                    refine ⟨⟨l + 1, _, _, by omega, by go_num, by rw [HC1.out], ?_, HST.out, ?_, ?_, ?_⟩, by simp [intOf]; omega⟩
                    · have hp := HP2.out ((al : Int) + ((bl : Int) + (ca : Int))) (al + (bl + ca)) (by omega) (((al : Int) + ((bl : Int) + (ca : Int))) % 1000000000) ((al + (bl + ca)) % 1000000000) HP1.out
                      rw [List.set_set] at hp
                      exact hp.drew
                    · exact ((HRB.out.far hgab _ _).far hgab _ _).drew
                    · exact ((HRQ.out.far hqg _ _).far hqg _ _).drew
                    · exact ((HX.out.setCell (p := ⟨ga, j + l, none⟩) HGA.out _).setCell (p := ⟨ga, j + l, none⟩) HGA.out _).drew
                  · have hkl : k = l := by omega
                    subst hkl
                    obtain ⟨_, htc, hat2, hkw⟩ := HKN.out.wrong HDV.out (by omega) HSBk.out (by rw [hlyb]; exact HAD.out) HGB9.out HGUESS.out.2 (by rw [hlyb, HQ0.out]; omega)
                    rw [hlyb, HQ0.out] at htc hat2
                    rw [hlyb] at hkw
                    have HKW := Lib.hid hkw
                    have cc := HRA.out.at0 (k := j + k) (by omega)
                    rw [hat2] at cc
                    have fa := HRA.out.frozen (j + k)
                    have fq := HRQ.out.frozen j
                    have cq := HRQ.out.at0 (k := j) (by omega)
                    have HP1 := Lib.hid (fun v z hz => HRA.out.put (j + k) z v (by omega) hz)
                    have HPQ := Lib.hid (fun W (hW : RowU W gq (LX + 2 - k) q) z hz => hW.put j z (g - 1) (by omega) hz)
                    generalize at0 q j = qj at *
                    clear hkw hat2 bal bbl hlk
                    go_wp2_with fail
                    exact ⟨⟨j, _, _, by first | rfl | go_num, by omega, (HP1.out 0 _ (by omega)).far hgq' _ _, (HRB.out.far (by have := HGB.out.1; omega) _ _).far (by have := HGQ.out; omega) _ _, HPQ.out _ (HRQ.out.far hqg _ _) _ (by omega), HKW.out, (HX.out.setCell (p := ⟨ga, j + k, none⟩) HGA.out _).setCell (p := ⟨gq, j, none⟩) (by have := HGA.out; have := HGB.out.1; have := HGQ.out; show w.heap.size ≤ gq; omega) _⟩, by simp [intOf] <;> omega⟩
end Go.Proofs.YtikehdbkiplleaaGreatDoor

/- Plain: quotients rounded down, and remainders, of integers; the order of integers. No program in sight. -/
namespace Go.Proofs.YtikehdbkiplleaaGreatDoor
open Go.RowKit

/-- the quotient, rounded down, and the remainder -/
def divF (x y : Int) : Int := if y < 0 then (-x) / (-y) else x / y
def modF (x y : Int) : Int := x - y * divF x y
theorem ediv_unique {x y q r : Int} (h : x = q * y + r) (h0 : 0 ≤ r) (h1 : r < y) : x / y = q := by
  have hy : 0 < y := by omega
  rw [h, Int.add_comm, Int.add_mul_ediv_right r q (by omega), Int.ediv_eq_zero_of_lt h0 h1, Int.zero_add]
theorem divF_unique {x y q r : Int} (h : x = q * y + r) (hr : (0 ≤ r ∧ r < y) ∨ (y < r ∧ r ≤ 0)) : divF x y = q ∧ modF x y = r := by
  have hd : divF x y = q := by
    unfold divF
    rcases hr with ⟨h0, h1⟩ | ⟨h0, h1⟩
    · rw [if_neg (by omega)]; exact ediv_unique h h0 h1
    · rw [if_pos (by omega)]
      refine ediv_unique (r := -r) ?_ (by omega) (by omega)
      rw [h, Int.neg_add, Int.mul_neg]
  refine ⟨hd, ?_⟩
  unfold modF; rw [hd, h, Int.mul_comm y q]; omega
theorem sgn_zero (b : Bool) : sgn b 0 = 0 := by cases b <;> rfl
/-- out of absolute values: nothing is left, or the signs are the same -/
theorem div_same {sx sy : Bool} {X Y : Nat} (hY : 0 < Y) (h : sx = sy ∨ X % Y = 0) : divF (sgn sx X) (sgn sy Y) = sgn (sx != sy) (X / Y) ∧ modF (sgn sx X) (sgn sy Y) = sgn sy (X % Y) := by
  have hd := Nat.div_add_mod X Y
  have hm := Nat.mod_lt X hY
  have hdI : (X : Int) = (X / Y : Nat) * (Y : Int) + (X % Y : Nat) := by
    rw [← Int.natCast_mul, ← Int.natCast_add, Nat.mul_comm, hd]
  generalize X / Y = q at *
  generalize X % Y = r at *
  apply divF_unique
  · rcases h with h | h
    · subst h
      cases sx
      · show (X : Int) = (q : Int) * Y + r
        exact hdI
      · show -(X : Int) = (q : Int) * -(Y : Int) + -(r : Int)
        rw [hdI, Int.mul_neg]; omega
    · subst h
      cases sx <;> cases sy
      · show (X : Int) = (q : Int) * Y + ((0 : Nat) : Int)
        exact hdI
      · show (X : Int) = -(q : Int) * -(Y : Int) + -((0 : Nat) : Int)
        rw [hdI, Int.neg_mul_neg]; omega
      · show -(X : Int) = -(q : Int) * (Y : Int) + ((0 : Nat) : Int)
        rw [hdI, Int.neg_mul]; omega
      · show -(X : Int) = (q : Int) * -(Y : Int) + -((0 : Nat) : Int)
        rw [hdI, Int.mul_neg]; omega
  · cases sy
    · left; show 0 ≤ (r : Int) ∧ (r : Int) < Y; omega
    · right; show -(Y : Int) < -(r : Int) ∧ -(r : Int) ≤ 0; omega
/-- the signs differ, and something is left -/
theorem div_other {sx sy : Bool} {X Y : Nat} (hY : 0 < Y) (hs : sx ≠ sy) (h0 : X % Y ≠ 0) : divF (sgn sx X) (sgn sy Y) = sgn true (X / Y + 1) ∧ modF (sgn sx X) (sgn sy Y) = sgn sy (Y - X % Y) := by
  have hd := Nat.div_add_mod X Y
  have hm := Nat.mod_lt X hY
  have hdI : (X : Int) = (X / Y : Nat) * (Y : Int) + (X % Y : Nat) := by
    rw [← Int.natCast_mul, ← Int.natCast_add, Nat.mul_comm, hd]
  generalize X / Y = q at *
  generalize X % Y = r at *
  have e : ((Y - r : Nat) : Int) = (Y : Int) - r := by omega
  apply divF_unique
  · cases sx <;> cases sy
    · exact absurd rfl hs
    · show (X : Int) = -((q + 1 : Nat) : Int) * -(Y : Int) + -((Y - r : Nat) : Int)
      rw [Int.neg_mul_neg, e, hdI, Int.natCast_add, Int.add_mul]; simp; omega
    · show -(X : Int) = -((q + 1 : Nat) : Int) * (Y : Int) + ((Y - r : Nat) : Int)
      rw [Int.neg_mul, e, hdI, Int.natCast_add, Int.add_mul]; simp; omega
    · exact absurd rfl hs
  · cases sy
    · left; show 0 ≤ ((Y - r : Nat) : Int) ∧ ((Y - r : Nat) : Int) < Y; omega
    · right; show -(Y : Int) < -((Y - r : Nat) : Int) ∧ -((Y - r : Nat) : Int) ≤ 0; omega
/-- out of Go's own quotient, towards 0 -/
theorem div_trunc {m n : Int} (hn : n ≠ 0) : (m.tmod n ≠ 0 ∧ (m.tmod n < 0 ↔ ¬ n < 0) → divF m n = m.tdiv n - 1 ∧ modF m n = m.tmod n + n) ∧ (¬ (m.tmod n ≠ 0 ∧ (m.tmod n < 0 ↔ ¬ n < 0)) → divF m n = m.tdiv n ∧ modF m n = m.tmod n) := by
  have h1 := Int.mul_tdiv_add_tmod m n
  have h2 : (m.tmod n).natAbs < n.natAbs := by
    rw [Int.natAbs_tmod]; exact Nat.mod_lt _ (by omega)
  have h3 : m = m.tdiv n * n + m.tmod n := by rw [Int.mul_comm]; exact h1.symm
  generalize m.tdiv n = q at *
  generalize m.tmod n = r at *
  constructor
  · rintro ⟨hr, hs⟩
    apply divF_unique
    · rw [Int.sub_mul, Int.one_mul]; omega
    · omega
  · intro h
    apply divF_unique h3
    by_cases hr : r = 0
    · omega
    · have : ¬ (r < 0 ↔ ¬ n < 0) := fun h' => h ⟨hr, h'⟩
      omega
/-- the order of integers -/
def cmpI (x y : Int) : Int := if x < y then -1 else if x = y then 0 else 1
end Go.Proofs.YtikehdbkiplleaaGreatDoor

/- Plain: the order of strings; the first error of several. No program in sight. -/
namespace Go.Proofs.YtikehdbkiplleaaGreatDoor
open Go.RowKit

/-- a comes before b -/
def lt (a b : Bs) : Bool := Op.bytesLess a b
theorem lt_irrefl (a : Bs) : lt a a = false := by
  unfold lt; induction a with
  | nil => rfl
  | cons c r ih => simp [Op.bytesLess, ih]
theorem lt_asymm : ∀ (a b : Bs), lt a b = true → lt b a = false := by
  intro a; induction a with
  | nil => intro b _; unfold lt; cases b <;> rfl
  | cons c r ih =>
    intro b h; cases b with
    | nil => simp [lt, Op.bytesLess] at h
    | cons d s =>
      simp only [lt, Op.bytesLess, Bool.or_eq_true, decide_eq_true_eq, Bool.and_eq_true, beq_iff_eq] at h
      simp only [lt, Op.bytesLess, Bool.or_eq_false_iff, decide_eq_false_iff_not, Bool.and_eq_false_iff]
      rcases h with h | ⟨rfl, h⟩
      · exact ⟨by rw [UInt8.lt_iff_toNat_lt] at h ⊢; omega, .inl (by rw [beq_eq_false_iff_ne]; intro e; subst e; rw [UInt8.lt_iff_toNat_lt] at h; omega)⟩
      · exact ⟨by rw [UInt8.lt_iff_toNat_lt]; omega, .inr (ih s h)⟩
theorem lt_total : ∀ (a b : Bs), lt a b = false → lt b a = false → a = b := by
  intro a; induction a with
  | nil => intro b h _; cases b with | nil => rfl | cons d s => simp [lt, Op.bytesLess] at h
  | cons c r ih =>
    intro b h k; cases b with
    | nil => simp [lt, Op.bytesLess] at k
    | cons d s =>
      simp only [lt, Op.bytesLess, Bool.or_eq_false_iff, decide_eq_false_iff_not, Bool.and_eq_false_iff] at h k
      have e : c = d := by
        apply UInt8.toNat_inj.1
        have h1 := h.1; have k1 := k.1
        rw [UInt8.lt_iff_toNat_lt] at h1 k1; omega
      subst e
      have h2 : Op.bytesLess r s = false := by rcases h.2 with h | h; simp at h; exact h
      have k2 : Op.bytesLess s r = false := by rcases k.2 with h | h; simp at h; exact h
      rw [ih s h2 k2]
theorem lt_trans : ∀ (a b c : Bs), lt a b = true → lt b c = true → lt a c = true := by
  intro a; induction a with
  | nil =>
    intro b c h k; cases c with
    | nil => cases b <;> simp [lt, Op.bytesLess] at k
    | cons => rfl
  | cons x r ih =>
    intro b c h k; cases b with
    | nil => simp [lt, Op.bytesLess] at h
    | cons y s =>
      cases c with
      | nil => simp [lt, Op.bytesLess] at k
      | cons z t =>
        simp only [lt, Op.bytesLess, Bool.or_eq_true, decide_eq_true_eq, Bool.and_eq_true, beq_iff_eq] at h k ⊢
        rcases h with h | ⟨rfl, h⟩
        · rcases k with k | ⟨rfl, k⟩
          · left; rw [UInt8.lt_iff_toNat_lt] at h k ⊢; omega
          · left; exact h
        · rcases k with k | ⟨rfl, k⟩
          · left; exact k
          · right; exact ⟨rfl, ih s t h k⟩
/-- the program's 'a <= b' is the reference's 'b >= a' -/
theorem leq_geq (a b : Bs) : (Op.bytesLess a b || a == b) = !(Op.bytesLess b a) := by
  show (lt a b || a == b) = !(lt b a)
  cases h : lt b a with
  | true =>
    have h2 := lt_asymm b a h
    rw [h2, Bool.false_or, Bool.not_true, beq_eq_false_iff_ne]
    intro e; subst e; rw [lt_irrefl] at h; cases h
  | false =>
    cases h2 : lt a b with
    | true => rfl
    | false => rw [lt_total a b h2 h]; simp

/-- the first f k that is not 0, for k below n -/
def firstErr (f : Nat → Int) (n : Nat) : Int := match (List.range n).find? (fun k => f k != 0) with | some k => f k | none => 0
theorem firstErr_hit (f : Nat → Int) (n k : Nat) (hk : k < n) (h : ∀ j, j < k → f j = 0) (hf : f k ≠ 0) : firstErr f n = f k := by
  have : (List.range n).find? (fun k => f k != 0) = some k := by
    rw [List.find?_range_eq_some]
    exact ⟨by simp [hf], by rw [List.mem_range]; exact hk, fun j hj => by simp [h j hj]⟩
  unfold firstErr; rw [this]
theorem firstErr_none (f : Nat → Int) (n : Nat) (h : ∀ j, j < n → f j = 0) : firstErr f n = 0 := by
  have : (List.range n).find? (fun k => f k != 0) = none := by
    rw [List.find?_eq_none]; intro x hx; rw [List.mem_range] at hx; simp [h x hx]
  unfold firstErr; rw [this]
theorem firstErr_zero (f : Nat → Int) (n : Nat) : firstErr f n = 0 ↔ ∀ j, j < n → f j = 0 := by
  constructor
  · intro h j
    induction j using Nat.strongRecOn with
    | ind j ih =>
      intro hj
      by_cases hf : f j = 0
      · exact hf
      · exfalso
        have := firstErr_hit f n j hj (fun i hi => ih i hi (by omega)) hf
        rw [h] at this; exact hf this.symm
  · exact firstErr_none f n
end Go.Proofs.YtikehdbkiplleaaGreatDoor

/- Plain: the order of numbers by their digits. No program in sight. -/
namespace Go.Proofs.YtikehdbkiplleaaGreatDoor
open Go.RowKit

theorem dval_u {c : UInt8} (h : isD c = true) : c.toNat = dval c + 48 := by have := (isD_iff c).1 h; unfold dval; omega
theorem natOf_cons (c : UInt8) (r : Bs) : natOf (c :: r) = dval c * 10 ^ r.length + natOf r := by
  have := natOf_append [c] r
  rw [show natOf [c] = dval c by show 10 * 0 + dval c = _; omega] at this
  exact this
/-- digits of one length: the order of the strings is the order of the values -/
theorem lt_digits : ∀ {a b : Bs}, a.all isD = true → b.all isD = true → a.length = b.length → (lt a b = true ↔ natOf a < natOf b)
  | [], [], _, _, _ => by simp [lt, Op.bytesLess, natOf]
  | [], _ :: _, _, _, h => by simp at h
  | _ :: _, [], _, _, h => by simp at h
  | c :: r, d :: s, ha, hb, hl => by
    simp only [List.all_cons, Bool.and_eq_true] at ha hb
    have hl' : r.length = s.length := by simpa using hl
    have ih := lt_digits ha.2 hb.2 hl'
    rw [natOf_cons, natOf_cons, hl']
    have h1 := natOf_lt ha.2
    have h2 := natOf_lt hb.2
    rw [hl'] at h1
    have hc := dval_u ha.1
    have hd := dval_u hb.1
    simp only [lt, Op.bytesLess, Bool.or_eq_true, decide_eq_true_eq, Bool.and_eq_true, beq_iff_eq]
    rw [UInt8.lt_iff_toNat_lt]
    have hp : 0 < 10 ^ s.length := Nat.pow_pos (by decide)
    constructor
    · rintro (h | ⟨rfl, h⟩)
      · have : (dval c + 1) * 10 ^ s.length ≤ dval d * 10 ^ s.length := Nat.mul_le_mul_right _ (by omega)
        rw [Nat.add_mul, Nat.one_mul] at this; omega
      · have := ih.1 h; omega
    · intro h
      rcases Nat.lt_trichotomy (dval c) (dval d) with h3 | h3 | h3
      · left; omega
      · right
        have e : c = d := UInt8.toNat_inj.1 (by omega)
        subst e
        exact ⟨rfl, ih.2 (by omega)⟩
      · exfalso
        have : (dval d + 1) * 10 ^ s.length ≤ dval c * 10 ^ s.length := Nat.mul_le_mul_right _ (by omega)
        rw [Nat.add_mul, Nat.one_mul] at this; omega
theorem lead_ge {t : Bs} (ht : t.all isD = true) (hl : Lead t) (hn : t ≠ []) : 10 ^ (t.length - 1) ≤ natOf t := by
  cases t with
  | nil => exact absurd rfl hn
  | cons c r =>
    simp only [List.all_cons, Bool.and_eq_true] at ht
    rw [natOf_cons, List.length_cons, Nat.add_sub_cancel]
    have h1 := hl c r rfl
    have h2 := dval_u ht.1
    have h3 : dval c ≠ 0 := fun h => h1 (UInt8.toNat_inj.1 (by rw [h2, h]; rfl))
    have : 1 * 10 ^ r.length ≤ dval c * 10 ^ r.length := Nat.mul_le_mul_right _ (by omega)
    omega
theorem shorter_lt {s t : Bs} (hs : s.all isD = true) (ht : t.all isD = true) (hl : Lead t) (h : s.length < t.length) : natOf s < natOf t := by
  have h1 := natOf_lt hs
  have h2 := lead_ge ht hl (by rintro rfl; simp at h)
  have h3 : 10 ^ s.length ≤ 10 ^ (t.length - 1) := Nat.pow_le_pow_right (by decide) (by omega)
  omega
theorem neg_pos {l : Bs} (h : neg l = true) : 0 < natOf (mag l) := by
  have h0 : mag l ≠ [] := by
    unfold neg at h
    first
      | (intro e; simp [e] at h)
      | (intro e; unfold negT at h; rw [show magT (strip l) = mag l from rfl, e] at h; simp at h)
  have := lead_ge (mag_all l) (mag_lead l) h0
  exact Nat.lt_of_lt_of_le (Nat.pow_pos (by decide)) this
theorem cmp_sgn {a b : Bool} {x y : Nat} (ha : a = true → 0 < x) (hb : b = true → 0 < y) : cmpI (sgn a x) (sgn b y) = if a ≠ b then (if a then -1 else 1) else if x = y then 0 else if (x < y) = (a = false) then -1 else 1 := by
  unfold cmpI sgn
  cases a <;> cases b
  · simp only [Bool.false_eq_true, if_false, ne_eq, not_true_eq_false, eq_iff_iff, iff_true]
    split <;> split <;> (try split) <;> omega
  · have := hb rfl
    simp; omega
  · have := ha rfl
    simp; omega
  · have h1 := ha rfl
    have h2 := hb rfl
    simp
    split <;> split <;> (try split) <;> omega
end Go.Proofs.YtikehdbkiplleaaGreatDoor

/- The program's division of magnitudes in all cases; its Neg and Compare. -/
namespace Go.Proofs.YtikehdbkiplleaaGreatDoor
open Go.RowKit
attribute [local go_sem] size_bs toList_bs

theorem intDivide (x y : Nat) (hy : 0 < y) (A A' : Option Addr) (c c' : Nat) (w : World) (hA : RdU w A (gr x)) (hA' : RdU w A' (gr y)) (hn : (gr x).length ≤ 900000) (hn' : (gr y).length ≤ 900000) (hc : (gr x).length ≤ c) (hm : c ≤ maxLen) :
    Calls Tryz.prog 178 #[.slice A (gr x).length c, .slice A' (gr y).length c'] w (DivEnds (x / y) (x % y) w) := by
  rcases Nat.lt_or_ge x y with h | h
  · exact intDivide_lt x y h A A' c c' w hA hA' (by omega) (by omega) hc hm
  · rcases Nat.lt_or_ge (gr y).length 2 with h2 | h2
    · have h0 : (gr y).length ≠ 0 := by
        intro e
        have e2 : gr y = [] := List.length_eq_zero_iff.1 e
        have e3 : y = 0 := gr_inj (by rw [e2, gr_zero])
        omega
      exact intDivide_one x y h (by omega) A A' c c' w hA hA' (by omega)
    · exact intDivide_long x y h h2 A A' c c' w hA hA' hn hn'
set_option maxRecDepth 100000 in
set_option maxHeartbeats 2000000 in
theorem intNeg (a : Bs) (w : World) (ha : a.length ≤ 100000) (hE : Env w) :
    Calls Tryz.prog 111 #[.string (bs a)] w fun e w' => e = .returned (.string (bs (ofI (-(valI a))))) ∧ Ext w w' := by
  have HR1 := Lib.hid (fun W => intRead a W (by omega))
  have HL1 : Hid ((gr (natOf (mag a))).length ≤ 1000000) := Lib.hid (by have := gr_len10 (mag_pow a ha); omega)
  have HE := Lib.hid hE
  have HV : Hid (txt (!(neg a)) (natOf (mag a)) = ofI (-(valI a))) := Lib.hid (by rw [txt_ofI, sgn_not]; rfl)
  generalize ofI (-(valI a)) = z at *
  generalize natOf (mag a) = x at *
  generalize neg a = ba at *
  clear ha hE
  go_enter Tryz.func111, Tryz.ntmps111
  go_wp2_with fail
  refine (HR1.out _).mono ?_
  rintro e w1 ⟨A, c, rfl, hrd1, hx1, hc1, hc2⟩
  have HD1 := Lib.hid hrd1
  have HX1 := Lib.hid hx1
  have HC := Lib.hid (And.intro hc1 hc2)
  clear hrd1 hx1 hc1 hc2
  go_wp2_with fail
  have HX2 : Hid (Ext w (w1.alloc (.cells #[.bool (!ba), .slice A (gr x).length c] 81))) := Lib.hid (HX1.out.alloc _)
  refine (intText (!ba) x A c _ (HD1.out.ext (Ext.new _ _)) HL1.out HC.out.1 HC.out.2 (HE.out.ext HX2.out)).mono ?_
  rintro e w5 ⟨rfl, hx5⟩
  rw [HV.out]
  go_wp2_with fail
  go_ret
  exact ⟨rfl, HX2.out.trans hx5⟩
theorem cmp_of {a b : Bool} {x y : Nat} {r : Int} (ha : a = true → 0 < x) (hb : b = true → 0 < y) (h : (r < 0 ∧ x < y) ∨ (r = 0 ∧ x = y) ∨ (0 < r ∧ y < x)) : cmpI (sgn a x) (sgn b y) = max (-1) (min (if (!(a == b)) = true then (if a then -1 else 1) else if a then -r else r) 1) := by
  unfold cmpI sgn
  cases a <;> cases b
  · simp; split <;> (try split) <;> omega
  · have := hb rfl; simp; omega
  · have := ha rfl; simp; omega
  · simp; split <;> (try split) <;> omega
set_option maxRecDepth 100000 in
set_option maxHeartbeats 2000000 in
theorem intCmp (a b : Bs) (w : World) (ha : a.length ≤ 100000) (hb : b.length ≤ 100000) :
    Calls Tryz.prog 24 #[.string (bs a), .string (bs b)] w fun e w' => e = .returned (.int .i64 (cmpI (valI a) (valI b))) ∧ Ext w w' := by
  have HR1 := Lib.hid (fun W => intRead a W (by omega))
  have HR2 := Lib.hid (fun W => intRead b W (by omega))
  have HL1 : Hid ((gr (natOf (mag a))).length ≤ 1000000) := Lib.hid (by have := gr_len10 (mag_pow a ha); omega)
  have HL2 : Hid ((gr (natOf (mag b))).length ≤ 1000000) := Lib.hid (by have := gr_len10 (mag_pow b hb); omega)
  have HV := Lib.hid (fun r h => cmp_of (a := neg a) (b := neg b) (x := natOf (mag a)) (y := natOf (mag b)) (r := r) neg_pos neg_pos h)
  rw [show sgn (neg a) (natOf (mag a)) = valI a from rfl, show sgn (neg b) (natOf (mag b)) = valI b from rfl] at HV
  generalize cmpI (valI a) (valI b) = z at *
  generalize natOf (mag a) = x at *
  generalize natOf (mag b) = y at *
  generalize neg a = ba at *
  generalize neg b = bb at *
  clear ha hb
  go_enter Tryz.func24, Tryz.ntmps24
  go_wp2_with fail
  refine (HR1.out _).mono ?_
  rintro e w1 ⟨A, c, rfl, hrd1, hx1, _, _⟩
  go_wp2_with fail
  refine (HR2.out _).mono ?_
  rintro e w2 ⟨A', c', rfl, hrd2, hx2, _, _⟩
  have HB1 := Lib.hid ((Blk.new w2 81 #[.bool ba, .slice A (gr x).length c]).alloc (.cells #[.bool bb, .slice A' (gr y).length c'] 81))
  have HB2 := Lib.hid (blk_at (w2.alloc (.cells #[.bool ba, .slice A (gr x).length c] 81)) 81 #[.bool bb, .slice A' (gr y).length c'] (w2.heap.size + 1) (by simp))
  have HX : Hid (Ext w ((w2.alloc (.cells #[.bool ba, .slice A (gr x).length c] 81)).alloc (.cells #[.bool bb, .slice A' (gr y).length c'] 81))) := Lib.hid (((hx1.trans hx2).alloc _).alloc _)
  have HD1 := Lib.hid (((hrd1.ext hx2).ext (Ext.new _ (.cells #[.bool ba, .slice A (gr x).length c] 81))).ext (Ext.new _ (.cells #[.bool bb, .slice A' (gr y).length c'] 81)))
  have HD2 := Lib.hid ((hrd2.ext (Ext.new _ (.cells #[.bool ba, .slice A (gr x).length c] 81))).ext (Ext.new _ (.cells #[.bool bb, .slice A' (gr y).length c'] 81)))
  clear hrd1 hrd2 hx1 hx2
  go_wp2_with fail
  generalize ((w2.alloc (.cells #[.bool ba, .slice A (gr x).length c] 81)).alloc (.cells #[.bool bb, .slice A' (gr y).length c'] 81)) = W at *
  generalize w2.heap.size = g at *
  refine (intCompareB x y A A' c c' _ HD1.out HD2.out HL1.out HL2.out).mono ?_
  rintro e w4 ⟨hx, r, rfl, hcase, hr1, hr2⟩
  have x0 := (HB1.out.ext hx).cell 0
  have y0 := (HB2.out.ext hx).cell 0
  simp only [List.getElem?_toArray, List.getElem?_cons_zero] at x0 y0
  replace HX := Lib.hid (HX.out.trans hx)
  have HZ := Lib.hid (HV.out r hcase)
  clear hx hcase
  cases ba <;> cases bb
  all_goals
    go_wp2_with fail
    go_ret
    exact ⟨by rw [HZ.out]; simp, HX.out⟩
end Go.Proofs.YtikehdbkiplleaaGreatDoor

/- The walk over the program's Div. -/
namespace Go.Proofs.YtikehdbkiplleaaGreatDoor
open Go.RowKit
attribute [local go_sem] size_bs toList_bs

/-- how Div stands in memory behind the division -/
structure DvAt (w : World) (g : Nat) (ba bb : Bool) (A A' A1 A2 : Option Addr) (x y q r c c' : Nat) (W : World) : Prop where
  ext : Ext w W
  b1 : Blk W g 81 #[.bool ba, .slice A (gr x).length c]
  b2 : Blk W (g + 1) 81 #[.bool bb, .slice A' (gr y).length c']
  ry : RdU W A' (gr y)
  rq : RdU W A1 (gr q)
  rr : RdU W A2 (gr r)
theorem DvAt.on {w : World} {g : Nat} {ba bb : Bool} {A A' A1 A2 : Option Addr} {x y q r c c' : Nat} {W W' : World} (h : DvAt w g ba bb A A' A1 A2 x y q r c c' W) (hx : Ext W W') : DvAt w g ba bb A A' A1 A2 x y q r c c' W' :=
  ⟨h.ext.trans hx, h.b1.ext hx, h.b2.ext hx, h.ry.ext hx, h.rq.ext hx, h.rr.ext hx⟩
theorem DvAt.cells {w : World} {g : Nat} {ba bb : Bool} {A A' A1 A2 : Option Addr} {x y q r c c' : Nat} {W : World} (h : DvAt w g ba bb A A' A1 A2 x y q r c c' W) : W.cell? ⟨g, 0, none⟩ = some (.bool ba) ∧ W.cell? ⟨g + 1, 0, none⟩ = some (.bool bb) ∧ W.cell? ⟨g + 1, 1, none⟩ = some (.slice A' (gr y).length c') := by
  have x0 := h.b1.cell 0
  have y0 := h.b2.cell 0
  have y1 := h.b2.cell 1
  simp only [List.getElem?_toArray, List.getElem?_cons_zero, List.getElem?_cons_succ] at x0 y0 y1
  exact ⟨x0, y0, y1⟩
theorem lit1 {W : World} {g : Nat} (h : W.heap.size = g) : RdU (W.alloc (.cells #[.int .u64 1] 114)) (some ⟨g, 0, none⟩) [1] := by
  subst h; exact Reads.lit rfl
theorem gr_le {m n L : Nat} (h : n ≤ m + 1) (hm : m < 10 ^ L) (hL : L ≤ 100000) : (gr n).length ≤ 1000000 := by
  have h1 : n < 10 ^ (L + 1) := by rw [Nat.pow_succ]; omega
  have := gr_len10 h1
  omega
set_option maxRecDepth 100000 in
set_option maxHeartbeats 2000000 in
theorem intDiv_zero (a b : Bs) (w : World) (ha : a.length ≤ 100000) (hb : b.length ≤ 100000) (h0 : natOf (mag b) = 0) :
    Calls Tryz.prog 142 #[.string (bs a), .string (bs b)] w fun e w' => e = .returned (.tuple #[.string (bs []), .string (bs []), .int .i64 10]) ∧ Ext w w' := by
  have HR1 := Lib.hid (fun W => intRead a W (by omega))
  have HR2 := Lib.hid (fun W => intRead b W (by omega))
  rw [h0, gr_zero] at HR2
  generalize natOf (mag a) = x at *
  generalize neg a = ba at *
  generalize neg b = bb at *
  clear ha hb h0
  go_enter Tryz.func142, Tryz.ntmps142
  go_wp2_with fail
  refine (HR1.out _).mono ?_
  rintro e w1 ⟨A, c, rfl, hrd1, hx1, _, _⟩
  go_wp2_with fail
  refine (HR2.out _).mono ?_
  rintro e w2 ⟨A', c', rfl, hrd2, hx2, _, _⟩
  have HX : Hid (Ext w ((w2.alloc (.cells #[.bool ba, .slice A (gr x).length c] 81)).alloc (.cells #[.bool bb, .slice A' 0 c'] 81))) := Lib.hid (((hx1.trans hx2).alloc _).alloc _)
  clear hrd1 hrd2 hx1 hx2
  go_wp2_with fail
  go_ret3
  exact ⟨rfl, HX.out⟩
set_option maxRecDepth 100000 in
set_option maxHeartbeats 4000000 in
theorem intDiv_some (a b : Bs) (w : World) (ha : a.length ≤ 100000) (hb : b.length ≤ 100000) (h0 : 0 < natOf (mag b)) (hE : Env w) :
    Calls Tryz.prog 142 #[.string (bs a), .string (bs b)] w fun e w' => e = .returned (.tuple #[.string (bs (ofI (divF (valI a) (valI b)))), .string (bs (ofI (modF (valI a) (valI b)))), .int .i64 0]) ∧ Ext w w' := by
  have HR1 := Lib.hid (fun W => intRead a W (by omega))
  have HR2 := Lib.hid (fun W => intRead b W (by omega))
  obtain ⟨L, hLa, hLb, hL⟩ : ∃ L : Nat, a.length ≤ L ∧ b.length ≤ L ∧ L ≤ 100000 := ⟨max a.length b.length, by omega, by omega, by omega⟩
  have HL1 : Hid ((gr (natOf (mag a))).length ≤ 900000) := Lib.hid (by have := gr_len10 (mag_pow a hLa); omega)
  have HL2 : Hid ((gr (natOf (mag b))).length ≤ 900000) := Lib.hid (by have := gr_len10 (mag_pow b hLb); omega)
  have HLQ : Hid (∀ n, n ≤ natOf (mag a) + 1 → (gr n).length ≤ 1000000) := Lib.hid (fun n h => gr_le h (mag_pow a hLa) hL)
  have HLR : Hid (∀ n, n ≤ natOf (mag b) + 1 → (gr n).length ≤ 1000000) := Lib.hid (fun n h => gr_le h (mag_pow b hLb) hL)
  have HE := Lib.hid hE
  have HS : Hid ((neg a = neg b ∨ natOf (mag a) % natOf (mag b) = 0) → txt (neg a != neg b) (natOf (mag a) / natOf (mag b)) = ofI (divF (valI a) (valI b)) ∧ txt (neg b) (natOf (mag a) % natOf (mag b)) = ofI (modF (valI a) (valI b))) := Lib.hid (fun h => by
    have := div_same h0 h
    rw [txt_ofI, txt_ofI, ← this.1, ← this.2]; exact ⟨rfl, rfl⟩)
  have HO : Hid (neg a ≠ neg b → natOf (mag a) % natOf (mag b) ≠ 0 → txt true (natOf (mag a) / natOf (mag b) + 1) = ofI (divF (valI a) (valI b)) ∧ txt (neg b) (natOf (mag b) - natOf (mag a) % natOf (mag b)) = ofI (modF (valI a) (valI b))) := Lib.hid (fun h h2 => by
    have := div_other h0 h h2
    rw [txt_ofI, txt_ofI, ← this.1, ← this.2]; exact ⟨rfl, rfl⟩)
  generalize ofI (divF (valI a) (valI b)) = zq at *
  generalize ofI (modF (valI a) (valI b)) = zr at *
  generalize natOf (mag a) = x at *
  generalize natOf (mag b) = y at *
  generalize neg a = ba at *
  generalize neg b = bb at *
  have hyl : 0 < (gr y).length := by
    rcases Nat.eq_zero_or_pos (gr y).length with e | e
    · have e3 : y = 0 := gr_inj (by rw [List.length_eq_zero_iff.1 e, gr_zero])
      omega
    · exact e
  clear ha hb hLa hLb hE
  go_enter Tryz.func142, Tryz.ntmps142
  go_wp2_with fail
  refine (HR1.out _).mono ?_
  rintro e w1 ⟨A, c, rfl, hrd1, hx1, hca, hcm⟩
  have HC := Lib.hid (And.intro hca hcm)
  clear hca hcm
  go_wp2_with fail
  refine (HR2.out _).mono ?_
  rintro e w2 ⟨A', c', rfl, hrd2, hx2, _, _⟩
  have HB1 := Lib.hid ((Blk.new w2 81 #[.bool ba, .slice A (gr x).length c]).alloc (.cells #[.bool bb, .slice A' (gr y).length c'] 81))
  have HB2 := Lib.hid (blk_at (w2.alloc (.cells #[.bool ba, .slice A (gr x).length c] 81)) 81 #[.bool bb, .slice A' (gr y).length c'] (w2.heap.size + 1) (by simp))
  have HX : Hid (Ext w ((w2.alloc (.cells #[.bool ba, .slice A (gr x).length c] 81)).alloc (.cells #[.bool bb, .slice A' (gr y).length c'] 81))) := Lib.hid (((hx1.trans hx2).alloc _).alloc _)
  have HD1 := Lib.hid (((hrd1.ext hx2).ext (Ext.new _ (.cells #[.bool ba, .slice A (gr x).length c] 81))).ext (Ext.new _ (.cells #[.bool bb, .slice A' (gr y).length c'] 81)))
  have HD2 := Lib.hid ((hrd2.ext (Ext.new _ (.cells #[.bool ba, .slice A (gr x).length c] 81))).ext (Ext.new _ (.cells #[.bool bb, .slice A' (gr y).length c'] 81)))
  clear hrd1 hrd2 hx1 hx2
  go_wp2_with fail
  generalize ((w2.alloc (.cells #[.bool ba, .slice A (gr x).length c] 81)).alloc (.cells #[.bool bb, .slice A' (gr y).length c'] 81)) = W at *
  generalize w2.heap.size = g at *
  refine (intDivide x y h0 A A' c c' _ HD1.out HD2.out HL1.out HL2.out HC.out.1 HC.out.2).mono ?_
  rintro e w4 ⟨A1, c1, A2, c2, rfl, hrq, hrr, hx, hq, hr⟩
  have H : Hid (DvAt w g ba bb A A' A1 A2 x y (x / y) (x % y) c c' w4) := Lib.hid ⟨HX.out.trans hx, HB1.out.ext hx, HB2.out.ext hx, HD2.out.ext hx, hrq, hrr⟩
  have HCQ := Lib.hid hq
  have HCR := Lib.hid hr
  have hrl : x % y < y := Nat.mod_lt _ h0
  have hql : x / y ≤ x := Nat.div_le_self _ _
  have HLq := Lib.hid (HLQ.out (x / y) (by omega))
  have HLr := Lib.hid (HLR.out (x % y) (by omega))
  have HLq1 := Lib.hid (HLQ.out (x / y + 1) (by omega))
  have HLr1 := Lib.hid (HLR.out (y - x % y) (by omega))
  have HMI := Lib.hid (fun W hW hW' => intMinus y (x % y) (by omega) A' A2 c' c2 W hW hW' (by have := HL2.out; omega) HLr.out)
  have HPL : Hid (∀ W B, RdU W A1 (gr (x / y)) → RdU W B [1] → Calls Tryz.prog 117 #[.slice A1 (gr (x / y)).length c1, .slice B 1 1] W (MagEnds (x / y + 1) W)) := Lib.hid (fun W B h1 h2 => by
    have e1 : gr 1 = [1] := gr_small (by decide) (by decide)
    have := intPlus (x / y) 1 A1 B c1 1 W h1 (by rw [e1]; exact h2) HLq.out (by rw [e1]; simp)
    rw [e1] at this
    exact this)
  clear hrq hrr hx hq hr HB1 HB2 HX HD1 HD2 HR1 HR2 HL1 HL2 HLQ HLR hrl hql
  cases ba <;> cases bb
  · have HVQ : Hid (txt false (x / y) = zq) := Lib.hid (HS.out (.inl rfl)).1
    have HVR : Hid (txt false (x % y) = zr) := Lib.hid (HS.out (.inl rfl)).2
    clear HLq1 HLr1 HMI HPL HS HO
    generalize x / y = qq at *
    generalize x % y = rr at *
    have HT2 := Lib.hid (fun s W h1 h2 => intText s rr A2 c2 W h1 HLr.out HCR.out.1 HCR.out.2 h2)
    obtain ⟨x0, y0, y1⟩ := H.out.cells
    go_wp2_with fail
    replace H := Lib.hid (H.out.on (Ext.refl _).drew)
    go_region_held3 (fun w' => w'.cell? ⟨g, 0, none⟩ = some (.bool false) ∧ w'.cell? ⟨g + 1, 0, none⟩ = some (.bool false))
      (go_keep)
      (first
        | (go_at_call 72; ((with_reducible refine (intText _ qq A1 c1 _ H.out.rq HLq.out HCQ.out.1 HCQ.out.2 (HE.out.ext H.out.ext)).mono ?_); rintro e w5 ⟨rfl, hx⟩); (replace H := Lib.hid (H.out.on hx)); (obtain ⟨u0, v0, _⟩ := H.out.cells); clear hx)
        | (go_at_call 72; ((with_reducible refine (HT2.out _ _ H.out.rr (HE.out.ext H.out.ext)).mono ?_); rintro e w6 ⟨rfl, hx⟩); (replace H := Lib.hid (H.out.on hx)); (obtain ⟨s0, t0, _⟩ := H.out.cells); clear hx))
    all_goals
      rw [HVQ.out, HVR.out]
      go_wp2_with fail
      go_ret3
      exact ⟨rfl, H.out.ext⟩
  · by_cases hz : x % y = 0
    · have HVQ : Hid (txt true (x / y) = zq) := Lib.hid (HS.out (.inr hz)).1
      have HVR : Hid (txt true (x % y) = zr) := Lib.hid (HS.out (.inr hz)).2
      have hl0 : (gr (x % y)).length = 0 := by rw [hz, gr_zero]; rfl
      clear HLq1 HLr1 HMI HPL HS HO hz
      generalize x / y = qq at *
      generalize x % y = rr at *
      have HT2 := Lib.hid (fun s W h1 h2 => intText s rr A2 c2 W h1 HLr.out HCR.out.1 HCR.out.2 h2)
      rw [hl0] at HT2
      obtain ⟨x0, y0, y1⟩ := H.out.cells
      go_wp2_with fail
      replace H := Lib.hid (H.out.on (Ext.refl _).drew)
      go_region_held3 (fun w' => w'.cell? ⟨g, 0, none⟩ = some (.bool false) ∧ w'.cell? ⟨g + 1, 0, none⟩ = some (.bool true))
        (go_keep)
        (first
          | (go_at_call 72; ((with_reducible refine (intText _ qq A1 c1 _ H.out.rq HLq.out HCQ.out.1 HCQ.out.2 (HE.out.ext H.out.ext)).mono ?_); rintro e w5 ⟨rfl, hx⟩); (replace H := Lib.hid (H.out.on hx)); (obtain ⟨u0, v0, _⟩ := H.out.cells); clear hx)
          | (go_at_call 72; ((with_reducible refine (HT2.out _ _ H.out.rr (HE.out.ext H.out.ext)).mono ?_); rintro e w6 ⟨rfl, hx⟩); (replace H := Lib.hid (H.out.on hx)); (obtain ⟨s0, t0, _⟩ := H.out.cells); clear hx))
      all_goals
        rw [HVQ.out, HVR.out]
        go_wp2_with fail
        go_ret3
        exact ⟨rfl, H.out.ext⟩
    · have HVQ : Hid (txt true (x / y + 1) = zq) := Lib.hid (HO.out (by decide) hz).1
      have HVR : Hid (txt true (y - x % y) = zr) := Lib.hid (HO.out (by decide) hz).2
      have hl0 : 0 < (gr (x % y)).length := by
        rcases Nat.eq_zero_or_pos (gr (x % y)).length with e | e
        · exact absurd (gr_inj (by rw [List.length_eq_zero_iff.1 e, gr_zero]) : x % y = 0) hz
        · exact e
      clear HS HO hz HLq HLr HCQ HCR
      generalize x / y = q0 at *
      generalize x % y = r0 at *
      obtain ⟨x0, y0, y1⟩ := H.out.cells
      have hgs := H.out.b2.lt
      go_wp2_with fail
      have H0 := H
      replace H := Lib.hid (H.out.on (Ext.refl _).drew)
      obtain ⟨x2, y2, y3⟩ := H.out.cells
      go_region_held3 (fun w' => w'.cell? ⟨g + 1, 1, none⟩ = some (.slice A' (gr y).length c'))
        (go_keep)
        (first
          | (go_at_call 117; ((with_reducible refine (HPL.out _ _ ((H0.out.on (Ext.new _ _)).on (Ext.refl _).drew).rq ((lit1 (by first | rfl | simp)).ext (Ext.refl _).drew)).mono ?_); rintro e w5 ⟨A3, c3, rfl, hrd3, hx, hc3, hm3⟩); (replace H := Lib.hid (((H0.out.on (Ext.new _ _)).on (Ext.refl _).drew).on hx)); (have HCQ := Lib.hid (And.intro hc3 hm3)); (have HRQ := Lib.hid hrd3); (obtain ⟨_, _, v1⟩ := H.out.cells); (try (replace HRR := Lib.hid (HRR.out.ext hx))); clear hx hrd3 hc3 hm3)
          | (go_at_call 117; ((with_reducible refine (HPL.out _ _ (H.out.on (Ext.new _ _)).rq (lit1 (by first | rfl | simp))).mono ?_); rintro e w5 ⟨A3, c3, rfl, hrd3, hx, hc3, hm3⟩); (replace H := Lib.hid ((H.out.on (Ext.new _ _)).on hx)); (have HCQ := Lib.hid (And.intro hc3 hm3)); (have HRQ := Lib.hid hrd3); (obtain ⟨_, _, v1⟩ := H.out.cells); (try (replace HRR := Lib.hid (HRR.out.ext hx))); clear hx hrd3 hc3 hm3)
          | (go_at_call 117; ((with_reducible refine (HPL.out _ _ H.out.rq HLIT.out).mono ?_); rintro e w5 ⟨A3, c3, rfl, hrd3, hx, hc3, hm3⟩); (replace H := Lib.hid (H.out.on hx)); (have HCQ := Lib.hid (And.intro hc3 hm3)); (have HRQ := Lib.hid hrd3); (obtain ⟨_, _, v1⟩ := H.out.cells); (try (replace HRR := Lib.hid (HRR.out.ext hx))); clear hx hrd3 hc3 hm3)
          | (go_at_call 118; ((with_reducible refine (HMI.out _ H.out.ry H.out.rr).mono ?_); rintro e w6 ⟨A4, c4, rfl, hrd4, hx, hc4, hm4⟩); (replace H := Lib.hid (H.out.on hx)); (have HCR := Lib.hid (And.intro hc4 hm4)); (have HRR := Lib.hid hrd4); (obtain ⟨_, _, v1⟩ := H.out.cells); (try (replace HRQ := Lib.hid (HRQ.out.ext hx))); clear hx hrd4 hc4 hm4)
          | (go_at_call 118; ((with_reducible refine (HMI.out _ ((H0.out.on (Ext.new _ _)).on (Ext.refl _).drew).ry ((H0.out.on (Ext.new _ _)).on (Ext.refl _).drew).rr).mono ?_); rintro e w6 ⟨A4, c4, rfl, hrd4, hx, hc4, hm4⟩); (have HLIT : Hid (RdU w6 _ [1]) := Lib.hid (((lit1 rfl).ext (Ext.refl _).drew).ext hx)); (replace H := Lib.hid (((H0.out.on (Ext.new _ _)).on (Ext.refl _).drew).on hx)); (have HCR := Lib.hid (And.intro hc4 hm4)); (have HRR := Lib.hid hrd4); (obtain ⟨_, _, v1⟩ := H.out.cells); clear hx hrd4 hc4 hm4))
      all_goals
        replace H : Hid (DvAt w g false true A A' A3 A4 x y (q0 + 1) (y - r0) c c' _) := Lib.hid ⟨H.out.ext, H.out.b1, H.out.b2, H.out.ry, HRQ.out, HRR.out⟩
        have HLq := HLq1
        have HLr := HLr1
        clear HLq1 HLr1 HMI HPL HRQ HRR
        generalize q0 + 1 = qq at *
        generalize y - r0 = rr at *
        have HT2 := Lib.hid (fun s W h1 h2 => intText s rr A4 c4 W h1 HLr.out HCR.out.1 HCR.out.2 h2)
        obtain ⟨x0, y0, y1⟩ := H.out.cells
        go_wp2_with fail
        replace H := Lib.hid (H.out.on (Ext.refl _).drew)
        go_region_held3 (fun w' => w'.cell? ⟨g, 0, none⟩ = some (.bool false) ∧ w'.cell? ⟨g + 1, 0, none⟩ = some (.bool true))
          (go_keep)
          (first
            | (go_at_call 72; ((with_reducible refine (intText _ qq A3 c3 _ H.out.rq HLq.out HCQ.out.1 HCQ.out.2 (HE.out.ext H.out.ext)).mono ?_); rintro e w5 ⟨rfl, hx⟩); (replace H := Lib.hid (H.out.on hx)); (obtain ⟨u0, v0, _⟩ := H.out.cells); clear hx)
            | (go_at_call 72; ((with_reducible refine (HT2.out _ _ H.out.rr (HE.out.ext H.out.ext)).mono ?_); rintro e w6 ⟨rfl, hx⟩); (replace H := Lib.hid (H.out.on hx)); (obtain ⟨s0, t0, _⟩ := H.out.cells); clear hx))
        all_goals
          rw [HVQ.out, HVR.out]
          go_wp2_with fail
          go_ret3
          exact ⟨rfl, H.out.ext⟩
  · by_cases hz : x % y = 0
    · have HVQ : Hid (txt true (x / y) = zq) := Lib.hid (HS.out (.inr hz)).1
      have HVR : Hid (txt false (x % y) = zr) := Lib.hid (HS.out (.inr hz)).2
      have hl0 : (gr (x % y)).length = 0 := by rw [hz, gr_zero]; rfl
      clear HLq1 HLr1 HMI HPL HS HO hz
      generalize x / y = qq at *
      generalize x % y = rr at *
      have HT2 := Lib.hid (fun s W h1 h2 => intText s rr A2 c2 W h1 HLr.out HCR.out.1 HCR.out.2 h2)
      rw [hl0] at HT2
      obtain ⟨x0, y0, y1⟩ := H.out.cells
      go_wp2_with fail
      replace H := Lib.hid (H.out.on (Ext.refl _).drew)
      go_region_held3 (fun w' => w'.cell? ⟨g, 0, none⟩ = some (.bool true) ∧ w'.cell? ⟨g + 1, 0, none⟩ = some (.bool false))
        (go_keep)
        (first
          | (go_at_call 72; ((with_reducible refine (intText _ qq A1 c1 _ H.out.rq HLq.out HCQ.out.1 HCQ.out.2 (HE.out.ext H.out.ext)).mono ?_); rintro e w5 ⟨rfl, hx⟩); (replace H := Lib.hid (H.out.on hx)); (obtain ⟨u0, v0, _⟩ := H.out.cells); clear hx)
          | (go_at_call 72; ((with_reducible refine (HT2.out _ _ H.out.rr (HE.out.ext H.out.ext)).mono ?_); rintro e w6 ⟨rfl, hx⟩); (replace H := Lib.hid (H.out.on hx)); (obtain ⟨s0, t0, _⟩ := H.out.cells); clear hx))
      all_goals
        rw [HVQ.out, HVR.out]
        go_wp2_with fail
        go_ret3
        exact ⟨rfl, H.out.ext⟩
    · have HVQ : Hid (txt true (x / y + 1) = zq) := Lib.hid (HO.out (by decide) hz).1
      have HVR : Hid (txt false (y - x % y) = zr) := Lib.hid (HO.out (by decide) hz).2
      have hl0 : 0 < (gr (x % y)).length := by
        rcases Nat.eq_zero_or_pos (gr (x % y)).length with e | e
        · exact absurd (gr_inj (by rw [List.length_eq_zero_iff.1 e, gr_zero]) : x % y = 0) hz
        · exact e
      clear HS HO hz HLq HLr HCQ HCR
      generalize x / y = q0 at *
      generalize x % y = r0 at *
      obtain ⟨x0, y0, y1⟩ := H.out.cells
      have hgs := H.out.b2.lt
      go_wp2_with fail
      have H0 := H
      replace H := Lib.hid (H.out.on (Ext.refl _).drew)
      obtain ⟨x2, y2, y3⟩ := H.out.cells
      go_region_held3 (fun w' => w'.cell? ⟨g + 1, 1, none⟩ = some (.slice A' (gr y).length c'))
        (go_keep)
        (first
          | (go_at_call 117; ((with_reducible refine (HPL.out _ _ ((H0.out.on (Ext.new _ _)).on (Ext.refl _).drew).rq ((lit1 (by first | rfl | simp)).ext (Ext.refl _).drew)).mono ?_); rintro e w5 ⟨A3, c3, rfl, hrd3, hx, hc3, hm3⟩); (replace H := Lib.hid (((H0.out.on (Ext.new _ _)).on (Ext.refl _).drew).on hx)); (have HCQ := Lib.hid (And.intro hc3 hm3)); (have HRQ := Lib.hid hrd3); (obtain ⟨_, _, v1⟩ := H.out.cells); (try (replace HRR := Lib.hid (HRR.out.ext hx))); clear hx hrd3 hc3 hm3)
          | (go_at_call 117; ((with_reducible refine (HPL.out _ _ (H.out.on (Ext.new _ _)).rq (lit1 (by first | rfl | simp))).mono ?_); rintro e w5 ⟨A3, c3, rfl, hrd3, hx, hc3, hm3⟩); (replace H := Lib.hid ((H.out.on (Ext.new _ _)).on hx)); (have HCQ := Lib.hid (And.intro hc3 hm3)); (have HRQ := Lib.hid hrd3); (obtain ⟨_, _, v1⟩ := H.out.cells); (try (replace HRR := Lib.hid (HRR.out.ext hx))); clear hx hrd3 hc3 hm3)
          | (go_at_call 117; ((with_reducible refine (HPL.out _ _ H.out.rq HLIT.out).mono ?_); rintro e w5 ⟨A3, c3, rfl, hrd3, hx, hc3, hm3⟩); (replace H := Lib.hid (H.out.on hx)); (have HCQ := Lib.hid (And.intro hc3 hm3)); (have HRQ := Lib.hid hrd3); (obtain ⟨_, _, v1⟩ := H.out.cells); (try (replace HRR := Lib.hid (HRR.out.ext hx))); clear hx hrd3 hc3 hm3)
          | (go_at_call 118; ((with_reducible refine (HMI.out _ H.out.ry H.out.rr).mono ?_); rintro e w6 ⟨A4, c4, rfl, hrd4, hx, hc4, hm4⟩); (replace H := Lib.hid (H.out.on hx)); (have HCR := Lib.hid (And.intro hc4 hm4)); (have HRR := Lib.hid hrd4); (obtain ⟨_, _, v1⟩ := H.out.cells); (try (replace HRQ := Lib.hid (HRQ.out.ext hx))); clear hx hrd4 hc4 hm4)
          | (go_at_call 118; ((with_reducible refine (HMI.out _ ((H0.out.on (Ext.new _ _)).on (Ext.refl _).drew).ry ((H0.out.on (Ext.new _ _)).on (Ext.refl _).drew).rr).mono ?_); rintro e w6 ⟨A4, c4, rfl, hrd4, hx, hc4, hm4⟩); (have HLIT : Hid (RdU w6 _ [1]) := Lib.hid (((lit1 rfl).ext (Ext.refl _).drew).ext hx)); (replace H := Lib.hid (((H0.out.on (Ext.new _ _)).on (Ext.refl _).drew).on hx)); (have HCR := Lib.hid (And.intro hc4 hm4)); (have HRR := Lib.hid hrd4); (obtain ⟨_, _, v1⟩ := H.out.cells); clear hx hrd4 hc4 hm4))
      all_goals
        replace H : Hid (DvAt w g true false A A' A3 A4 x y (q0 + 1) (y - r0) c c' _) := Lib.hid ⟨H.out.ext, H.out.b1, H.out.b2, H.out.ry, HRQ.out, HRR.out⟩
        have HLq := HLq1
        have HLr := HLr1
        clear HLq1 HLr1 HMI HPL HRQ HRR
        generalize q0 + 1 = qq at *
        generalize y - r0 = rr at *
        have HT2 := Lib.hid (fun s W h1 h2 => intText s rr A4 c4 W h1 HLr.out HCR.out.1 HCR.out.2 h2)
        obtain ⟨x0, y0, y1⟩ := H.out.cells
        go_wp2_with fail
        replace H := Lib.hid (H.out.on (Ext.refl _).drew)
        go_region_held3 (fun w' => w'.cell? ⟨g, 0, none⟩ = some (.bool true) ∧ w'.cell? ⟨g + 1, 0, none⟩ = some (.bool false))
          (go_keep)
          (first
            | (go_at_call 72; ((with_reducible refine (intText _ qq A3 c3 _ H.out.rq HLq.out HCQ.out.1 HCQ.out.2 (HE.out.ext H.out.ext)).mono ?_); rintro e w5 ⟨rfl, hx⟩); (replace H := Lib.hid (H.out.on hx)); (obtain ⟨u0, v0, _⟩ := H.out.cells); clear hx)
            | (go_at_call 72; ((with_reducible refine (HT2.out _ _ H.out.rr (HE.out.ext H.out.ext)).mono ?_); rintro e w6 ⟨rfl, hx⟩); (replace H := Lib.hid (H.out.on hx)); (obtain ⟨s0, t0, _⟩ := H.out.cells); clear hx))
        all_goals
          rw [HVQ.out, HVR.out]
          go_wp2_with fail
          go_ret3
          exact ⟨rfl, H.out.ext⟩
  · have HVQ : Hid (txt false (x / y) = zq) := Lib.hid (HS.out (.inl rfl)).1
    have HVR : Hid (txt true (x % y) = zr) := Lib.hid (HS.out (.inl rfl)).2
    clear HLq1 HLr1 HMI HPL HS HO
    generalize x / y = qq at *
    generalize x % y = rr at *
    have HT2 := Lib.hid (fun s W h1 h2 => intText s rr A2 c2 W h1 HLr.out HCR.out.1 HCR.out.2 h2)
    obtain ⟨x0, y0, y1⟩ := H.out.cells
    go_wp2_with fail
    replace H := Lib.hid (H.out.on (Ext.refl _).drew)
    go_region_held3 (fun w' => w'.cell? ⟨g, 0, none⟩ = some (.bool true) ∧ w'.cell? ⟨g + 1, 0, none⟩ = some (.bool true))
      (go_keep)
      (first
        | (go_at_call 72; ((with_reducible refine (intText _ qq A1 c1 _ H.out.rq HLq.out HCQ.out.1 HCQ.out.2 (HE.out.ext H.out.ext)).mono ?_); rintro e w5 ⟨rfl, hx⟩); (replace H := Lib.hid (H.out.on hx)); (obtain ⟨u0, v0, _⟩ := H.out.cells); clear hx)
        | (go_at_call 72; ((with_reducible refine (HT2.out _ _ H.out.rr (HE.out.ext H.out.ext)).mono ?_); rintro e w6 ⟨rfl, hx⟩); (replace H := Lib.hid (H.out.on hx)); (obtain ⟨s0, t0, _⟩ := H.out.cells); clear hx))
    all_goals
      rw [HVQ.out, HVR.out]
      go_wp2_with fail
      go_ret3
      exact ⟨rfl, H.out.ext⟩
end Go.Proofs.YtikehdbkiplleaaGreatDoor

/- Plain: fractions in lowest terms. No program in sight. -/
namespace Go.Proofs.YtikehdbkiplleaaGreatDoor
open Go.RowKit

/-- a fraction: numerator and denominator as strings -/
structure Fr where
  num : Bs
  den : Bs
/-- n / d in lowest terms, the denominator positive -/
def redN (n d : Int) : Int := (if d < 0 then -n else n) / (Int.gcd n d : Nat)
def redD (n d : Int) : Int := (d.natAbs / Int.gcd n d : Nat)
def frq (n d : Int) : Fr := ⟨ofI (redN n d), if redD n d = 1 then [] else ofI (redD n d)⟩
theorem gcd_pos {n d : Int} (hd : d ≠ 0) : 0 < Int.gcd n d := Int.gcd_pos_of_ne_zero_right _ hd
theorem redN_exact {n d : Int} (_hd : d ≠ 0) : redN n d * (Int.gcd n d : Nat) = if d < 0 then -n else n := by
  unfold redN
  apply Int.ediv_mul_cancel
  split
  · exact Int.dvd_neg.2 (Int.gcd_dvd_left n d)
  · exact Int.gcd_dvd_left n d
theorem redD_exact {n d : Int} (_hd : d ≠ 0) : redD n d * (Int.gcd n d : Nat) = d.natAbs := by
  unfold redD
  rw [← Int.natCast_mul]
  congr 1
  apply Nat.div_mul_cancel
  exact Nat.gcd_dvd_right n.natAbs d.natAbs
theorem redD_pos {n d : Int} (hd : d ≠ 0) : 0 < redD n d := by
  have h1 := redD_exact (n := n) hd
  have h2 : (0 : Int) < d.natAbs := by omega
  rw [← h1] at h2
  have hg : (0 : Int) < (Int.gcd n d : Nat) := by have := gcd_pos (n := n) hd; omega
  exact Int.pos_of_mul_pos_left h2 hg |> fun h => h
/-- the ratio is kept -/
theorem red_ratio {n d : Int} (hd : d ≠ 0) : redN n d * d = n * redD n d := by
  have h1 := redN_exact (n := n) hd
  have h2 := redD_exact (n := n) hd
  have hg : ((Int.gcd n d : Nat) : Int) ≠ 0 := by have := gcd_pos (n := n) hd; omega
  apply Int.eq_of_mul_eq_mul_right hg
  rw [Int.mul_assoc, Int.mul_comm d, ← Int.mul_assoc, h1, Int.mul_assoc, h2]
  split
  · rw [show ((d.natAbs : Nat) : Int) = -d by omega, Int.neg_mul, Int.mul_neg]
  · rw [show ((d.natAbs : Nat) : Int) = d by omega]
theorem red_scale {n d k : Int} (hd : d ≠ 0) (hk : k ≠ 0) : redN (n * k) (d * k) = redN n d ∧ redD (n * k) (d * k) = redD n d := by
  have hg : Int.gcd (n * k) (d * k) = Int.gcd n d * k.natAbs := Int.gcd_mul_right ..
  have hg0 := gcd_pos (n := n) hd
  have hka : 0 < k.natAbs := by omega
  constructor
  · unfold redN
    rw [hg, Int.natCast_mul]
    have e : (if d * k < 0 then -(n * k) else n * k) = (if d < 0 then -n else n) * (k.natAbs : Nat) := by
      rcases Int.lt_or_gt_of_ne hk with h | h
      · rw [show ((k.natAbs : Nat) : Int) = -k by omega]
        rcases Int.lt_or_gt_of_ne hd with h2 | h2
        · rw [if_neg (by have := Int.mul_pos_of_neg_of_neg h2 h; omega), if_pos h2, Int.neg_mul_neg]
        · rw [if_pos (Int.mul_neg_of_pos_of_neg h2 h), if_neg (by omega), Int.mul_neg]
      · rw [show ((k.natAbs : Nat) : Int) = k by omega]
        rcases Int.lt_or_gt_of_ne hd with h2 | h2
        · rw [if_pos (Int.mul_neg_of_neg_of_pos h2 h), if_pos h2, Int.neg_mul]
        · rw [if_neg (by have := Int.mul_pos h2 h; omega), if_neg (by omega)]
    rw [e, Int.mul_ediv_mul_of_pos_left _ _ (by omega)]
  · unfold redD
    rw [hg, Int.natAbs_mul, Nat.mul_div_mul_right _ _ hka]
/-- equal ratios have one form -/
theorem red_eq {n d n' d' : Int} (hd : d ≠ 0) (hd' : d' ≠ 0) (h : n * d' = n' * d) : redN n d = redN n' d' ∧ redD n d = redD n' d' := by
  have h1 := red_scale (n := n) hd hd'
  have h2 := red_scale (n := n') hd' hd
  rw [h, Int.mul_comm d d'] at h1
  rw [← h1.1, ← h1.2, h2.1, h2.2]; exact ⟨rfl, rfl⟩
theorem frq_eq {n d n' d' : Int} (hd : d ≠ 0) (hd' : d' ≠ 0) (h : n * d' = n' * d) : frq n d = frq n' d' := by
  obtain ⟨h1, h2⟩ := red_eq hd hd' h
  unfold frq; rw [h1, h2]
/-- the value of a fraction: numerator and denominator; a denominator 0 stands for 1 -/
def frN (f : Fr) : Int := valI f.num
def frD (f : Fr) : Int := if valI f.den = 0 then 1 else valI f.den
theorem frD_ne (f : Fr) : frD f ≠ 0 := by unfold frD; split; decide; assumption
theorem frq_N (n d : Int) : frN (frq n d) = redN n d := valI_ofI _
theorem frq_D {n d : Int} (hd : d ≠ 0) : frD (frq n d) = redD n d := by
  have hp := redD_pos (n := n) hd
  unfold frD frq
  by_cases h : redD n d = 1
  · simp only [if_pos h]; rw [h]; decide
  · simp only [if_neg h]; rw [valI_ofI, if_neg (by omega)]
theorem frq_self {n d : Int} (hd : d ≠ 0) : frq (frN (frq n d)) (frD (frq n d)) = frq n d := by
  rw [frq_N, frq_D hd]
  exact frq_eq (by have := redD_pos (n := n) hd; omega) hd (red_ratio hd)
end Go.Proofs.YtikehdbkiplleaaGreatDoor

/- Plain: fractions as rational numbers, and how large they are. No program in sight. -/
namespace Go.Proofs.YtikehdbkiplleaaGreatDoor
open Go.RowKit

/-- the canonical fraction of a rational number -/
def ofQ (q : Rat) : Fr := ⟨ofI q.num, if q.den = 1 then [] else ofI q.den⟩
/-- the value of a fraction -/
def frQ (f : Fr) : Rat := Rat.divInt (frN f) (frD f)
theorem redN_num {n d : Int} (hd : d ≠ 0) : redN n d = (Rat.divInt n d).num := by
  unfold redN
  rw [Rat.num_divInt, Int.gcd_comm d n]
  congr 1
  rcases Int.lt_or_gt_of_ne hd with h | h
  · rw [if_pos h, Int.sign_eq_neg_one_of_neg h]; omega
  · rw [if_neg (by omega), Int.sign_eq_one_of_pos h]; omega
theorem redD_den {n d : Int} (hd : d ≠ 0) : redD n d = (Rat.divInt n d).den := by
  unfold redD
  rw [Rat.den_divInt, if_neg hd, Int.gcd_comm d n]
theorem frq_ofQ {n d : Int} (hd : d ≠ 0) : frq n d = ofQ (Rat.divInt n d) := by
  unfold frq ofQ
  rw [redN_num hd, redD_den hd]
  congr 1
  by_cases h : (Rat.divInt n d).den = 1
  · rw [if_pos (by omega), if_pos h]
  · rw [if_neg (by omega), if_neg h]
theorem frN_ofQ (q : Rat) : frN (ofQ q) = q.num := valI_ofI _
theorem frD_ofQ (q : Rat) : frD (ofQ q) = q.den := by
  have hp := q.den_pos
  unfold frD ofQ
  by_cases h : q.den = 1
  · simp only [if_pos h]; rw [h]; decide
  · simp only [if_neg h]; rw [valI_ofI, if_neg (by omega)]
theorem frQ_ofQ (q : Rat) : frQ (ofQ q) = q := by
  unfold frQ
  rw [frN_ofQ, frD_ofQ]
  exact Rat.num_divInt_den q
theorem ofQ_inj {p q : Rat} (h : ofQ p = ofQ q) : p = q := by rw [← frQ_ofQ p, h, frQ_ofQ]
theorem ofQ_int (z : Int) : ofQ z = ⟨ofI z, []⟩ := by
  unfold ofQ; simp
theorem ofQ_zero : ofQ 0 = ⟨[], []⟩ := by
  have : ofQ ((0 : Int) : Rat) = ⟨[], []⟩ := by rw [ofQ_int]; rw [show ofI 0 = [] by unfold ofI; simp [dig10_zero]]
  exact this
/-- numerator and denominator have at most L digits -/
def QB (L : Nat) (q : Rat) : Prop := q.num.natAbs < 10 ^ L ∧ q.den < 10 ^ L
theorem QB.mono {L M : Nat} {q : Rat} (h : QB L q) (hm : L ≤ M) : QB M q := by
  have : 10 ^ L ≤ 10 ^ M := Nat.pow_le_pow_right (by decide) hm
  exact ⟨by have := h.1; omega, by have := h.2; omega⟩
theorem qb_divInt {L : Nat} {n d : Int} (hL : 0 < L) (hn : n.natAbs < 10 ^ L) (hd : d.natAbs < 10 ^ L) : QB L (Rat.divInt n d) := by
  have h1 : 1 < 10 ^ L := Nat.one_lt_pow (by omega) (by decide)
  constructor
  · rw [Rat.num_divInt]
    refine Nat.lt_of_le_of_lt ?_ hn
    refine Nat.le_trans (Int.natAbs_ediv_le_natAbs _ _) ?_
    rw [Int.natAbs_mul]
    have : d.sign.natAbs ≤ 1 := by
      rcases Int.lt_trichotomy d 0 with h | h | h
      · rw [Int.sign_eq_neg_one_of_neg h]; decide
      · rw [h]; decide
      · rw [Int.sign_eq_one_of_pos h]; decide
    exact Nat.le_trans (Nat.mul_le_mul_right _ this) (Nat.le_of_eq (Nat.one_mul _))
  · rw [Rat.den_divInt]
    split
    · exact h1
    · exact Nat.lt_of_le_of_lt (Nat.div_le_self _ _) hd
theorem QB.neg {L : Nat} {q : Rat} (h : QB L q) : QB L (-q) := ⟨by rw [Rat.neg_num, Int.natAbs_neg]; exact h.1, h.2⟩
theorem mul_lt10 {a b L M : Nat} (ha : a < 10 ^ L) (hb : b < 10 ^ M) : a * b < 10 ^ (L + M) := by
  rw [Nat.pow_add]
  rcases Nat.eq_zero_or_pos b with h | h
  · subst h; rw [Nat.mul_zero]; exact Nat.mul_pos (Nat.pow_pos (by decide)) (Nat.pow_pos (by decide))
  · exact Nat.lt_of_lt_of_le (Nat.mul_lt_mul_of_pos_right ha h) (Nat.mul_le_mul_left _ (by omega))
theorem QB.pos {L : Nat} {q : Rat} (h : QB L q) : 0 < L := by
  rcases Nat.eq_zero_or_pos L with h0 | h0
  · subst h0; have := h.2; have := q.den_pos; omega
  · exact h0
theorem add_lt10 {a b L : Nat} (ha : a < 10 ^ L) (hb : b < 10 ^ L) : a + b < 10 ^ (L + 1) := by rw [Nat.pow_succ]; omega
theorem QB.mul {L M : Nat} {p q : Rat} (h : QB L p) (k : QB M q) : QB (L + M) (p * q) := by
  rw [Rat.mul_def', ← Rat.divInt_ofNat]
  refine qb_divInt (by have := h.pos; omega) ?_ ?_
  · rw [Int.natAbs_mul]; exact mul_lt10 h.1 k.1
  · rw [Int.natAbs_natCast]; exact mul_lt10 h.2 k.2
theorem QB.add {L M : Nat} {p q : Rat} (h : QB L p) (k : QB M q) : QB (L + M + 1) (p + q) := by
  rw [Rat.add_def', ← Rat.divInt_ofNat]
  refine qb_divInt (by omega) ?_ ?_
  · refine Nat.lt_of_le_of_lt (Int.natAbs_add_le _ _) ?_
    rw [Int.natAbs_mul, Int.natAbs_mul, Int.natAbs_natCast, Int.natAbs_natCast]
    refine add_lt10 (mul_lt10 h.1 k.2) ?_
    rw [Nat.add_comm L M]; exact mul_lt10 k.1 h.2
  · rw [Int.natAbs_natCast]
    have := mul_lt10 h.2 k.2
    rw [Nat.pow_succ]; omega
theorem QB.sub {L M : Nat} {p q : Rat} (h : QB L p) (k : QB M q) : QB (L + M + 1) (p - q) := by
  rw [Rat.sub_eq_add_neg]; exact h.add k.neg
theorem qb_int {L : Nat} {z : Int} (hL : 0 < L) (h : z.natAbs < 10 ^ L) : QB L (z : Rat) := ⟨by simpa using h, by simp; exact Nat.one_lt_pow (by omega) (by decide)⟩
/-- how long a canonical integer is -/
theorem ofI_lt10 {z : Int} {L : Nat} (h : z.natAbs < 10 ^ L) : (ofI z).length ≤ L + 1 := by
  have := dig10_len h
  unfold ofI; split
  · rw [List.length_cons]; omega
  · omega
theorem QB.num_len {L : Nat} {q : Rat} (h : QB L q) : (ofQ q).num.length ≤ L + 1 := ofI_lt10 h.1
theorem QB.den_len {L : Nat} {q : Rat} (h : QB L q) : (ofQ q).den.length ≤ L + 1 := by
  unfold ofQ; simp only
  split
  · simp
  · exact ofI_lt10 (by rw [Int.natAbs_natCast]; exact h.2)
theorem valI_lt10 {l : Bs} {L : Nat} (h : l.length ≤ L) : (valI l).natAbs < 10 ^ L := by
  have h1 := natOf_lt (mag_all l)
  have h2 : 10 ^ (mag l).length ≤ 10 ^ L := Nat.pow_le_pow_right (by decide) (Nat.le_trans (mag_le l) h)
  unfold valI; split <;> omega
/-- a fraction with short strings -/
theorem frQ_qb {f : Fr} {L : Nat} (h1 : f.num.length ≤ L) (h2 : f.den.length ≤ L) (h0 : 0 < L) : QB L (frQ f) := by
  refine qb_divInt h0 (valI_lt10 h1) ?_
  unfold frD; split
  · exact Nat.one_lt_pow (by omega) (by decide)
  · exact valI_lt10 h2
theorem divInt_one (z : Int) : Rat.divInt z 1 = (z : Rat) := by
  rw [Rat.divInt_eq_div]; simp only [Rat.intCast_one]; grind
theorem num_neg (q : Rat) : q.num < 0 ↔ q < 0 := by
  have := Rat.num_nonneg (q := q)
  grind
/-- the order of rational numbers -/
def cmpQ (p q : Rat) : Int := if p < q then -1 else if p = q then 0 else 1
theorem cmpQ_num (p q : Rat) : cmpI (p - q).num 0 = cmpQ p q := by
  unfold cmpI cmpQ
  have h1 := num_neg (p - q)
  have h2 : (p - q).num = 0 ↔ p - q = 0 := Rat.num_eq_zero
  have h3 : p - q < 0 ↔ p < q := by grind
  have h4 : p - q = 0 ↔ p = q := by grind
  by_cases a : p < q
  · rw [if_pos (h1.2 (h3.2 a)), if_pos a]
  · rw [if_neg (fun h => a (h3.1 (h1.1 h))), if_neg a]
    by_cases b : p = q
    · rw [if_pos (h2.2 (h4.2 b)), if_pos b]
    · rw [if_neg (fun h => b (h4.1 (h2.1 h))), if_neg b]
theorem cmpQ_neg {p q : Rat} : cmpQ p q < 0 ↔ p < q := by unfold cmpQ; split <;> (try split) <;> simp_all
theorem cmpQ_pos {p q : Rat} : 0 < cmpQ p q ↔ q < p := by
  unfold cmpQ; split
  · simp; grind
  · split
    · simp; grind
    · simp; grind
theorem cmpQ_zero {p q : Rat} : cmpQ p q = 0 ↔ p = q := by
  unfold cmpQ; split
  · simp; grind
  · split <;> simp_all
theorem mul_len {x y : Bs} {L M : Nat} (hx : x.length ≤ L) (hy : y.length ≤ M) : (ofI (valI x * valI y)).length ≤ L + M + 1 := ofI_lt10 (by rw [Int.natAbs_mul]; exact mul_lt10 (valI_lt10 hx) (valI_lt10 hy))
theorem add_len {x y : Bs} {L : Nat} (hx : x.length ≤ L) (hy : y.length ≤ L) : (ofI (valI x + valI y)).length ≤ L + 2 := ofI_lt10 (Nat.lt_of_le_of_lt (Int.natAbs_add_le _ _) (add_lt10 (valI_lt10 hx) (valI_lt10 hy)))
theorem sub_len {x y : Bs} {L : Nat} (hx : x.length ≤ L) (hy : y.length ≤ L) : (ofI (valI x - valI y)).length ≤ L + 2 := ofI_lt10 (Nat.lt_of_le_of_lt (Int.natAbs_sub_le _ _) (add_lt10 (valI_lt10 hx) (valI_lt10 hy)))
theorem neg_len {x : Bs} {L : Nat} (hx : x.length ≤ L) : (ofI (-(valI x))).length ≤ L + 1 := ofI_lt10 (by rw [Int.natAbs_neg]; exact valI_lt10 hx)
end Go.Proofs.YtikehdbkiplleaaGreatDoor

/- Plain: an integer divided in proportion to weights: rounded down, and what is missing goes to the greatest rests. No program in sight. -/
namespace Go.Proofs.YtikehdbkiplleaaGreatDoor
open Go.RowKit

/-- how the indexes are ordered: the greater rest first, then the smaller index -/
def cfR (r : List Int) (i k : Fin r.length) : Int := if cmpI r[k] r[i] ≠ 0 then cmpI r[k] r[i] else cmpI (i.val : Int) (k.val : Int)
def ltR (r : List Int) (i k : Fin r.length) : Bool := decide (cfR r i k < 0)
theorem cmpI_neg {x y : Int} : cmpI x y < 0 ↔ x < y := by unfold cmpI; split <;> (try split) <;> omega
theorem cmpI_zero {x y : Int} : cmpI x y = 0 ↔ x = y := by unfold cmpI; split <;> (try split) <;> omega
theorem cmpI_pos {x y : Int} : 0 < cmpI x y ↔ y < x := by unfold cmpI; split <;> (try split) <;> omega
theorem ltR_iff {r : List Int} {i k : Fin r.length} : ltR r i k = true ↔ r[k] < r[i] ∨ (r[k] = r[i] ∧ i.val < k.val) := by
  unfold ltR cfR
  rw [decide_eq_true_iff]
  by_cases h : r[k] = r[i]
  · rw [if_neg (by rw [Ne, cmpI_zero]; omega), cmpI_neg]; omega
  · rw [if_pos (by rw [Ne, cmpI_zero]; omega), cmpI_neg]; omega
def ordR (r : List Int) : List (Fin r.length) := (List.finRange r.length).mergeSort (fun x y => !ltR r y x)
theorem ordR_perm (r : List Int) : (ordR r).Perm (List.finRange r.length) := List.mergeSort_perm _ _
theorem ordR_len (r : List Int) : (ordR r).length = r.length := by rw [ordR, List.length_mergeSort, List.length_finRange]
theorem ordR_nodup (r : List Int) : (ordR r).Nodup := (ordR_perm r).nodup_iff.2 (List.nodup_finRange _)
theorem ordR_sorted (r : List Int) : (ordR r).Pairwise (fun x y => r[y] ≤ r[x]) := by
  have h := List.pairwise_mergeSort (le := fun x y => !ltR r y x) (by
    intro a b c h1 h2
    simp only [Bool.not_eq_true', ← Bool.not_eq_true, ltR_iff] at *
    omega) (by
    intro a b
    simp only [Bool.or_eq_true, Bool.not_eq_true', ← Bool.not_eq_true, ltR_iff]
    omega) (List.finRange r.length)
  refine List.Pairwise.imp ?_ h
  intro a b hab
  simp only [Bool.not_eq_true', ← Bool.not_eq_true, ltR_iff] at hab
  omega
/-- one more at each of the indexes -/
def bumpAll (p : List Int) (is : List Nat) : List Int := is.foldl (fun l i => l.modify i (· + 1)) p
theorem bumpAll_len (p : List Int) (is : List Nat) : (bumpAll p is).length = p.length := by
  unfold bumpAll
  induction is generalizing p with
  | nil => rfl
  | cons i r ih => rw [List.foldl_cons, ih, List.length_modify]
theorem sum_modify (p : List Int) (i : Nat) (h : i < p.length) : (p.modify i (· + 1)).sum = p.sum + 1 := by
  induction p generalizing i with
  | nil => simp at h
  | cons a r ih =>
    cases i with
    | zero => simp; omega
    | succ i => simp only [List.modify_succ_cons, List.sum_cons]; rw [ih i (by simpa using h)]; omega
theorem bumpAll_sum (p : List Int) (is : List Nat) (h : ∀ i ∈ is, i < p.length) : (bumpAll p is).sum = p.sum + is.length := by
  unfold bumpAll
  induction is generalizing p with
  | nil => simp
  | cons i r ih =>
    rw [List.foldl_cons, ih _ (fun k hk => by rw [List.length_modify]; exact h k (by simp [hk])), sum_modify _ _ (h i (by simp)), List.length_cons]
    omega
theorem bumpAll_get (p : List Int) (is : List Nat) (hn : is.Nodup) (k : Nat) (hk : k < p.length) : (bumpAll p is)[k]? = some (p[k] + if k ∈ is then 1 else 0) := by
  unfold bumpAll
  induction is generalizing p with
  | nil => simp [hk]
  | cons i r ih =>
    rw [List.nodup_cons] at hn
    rw [List.foldl_cons, ih _ hn.2 (by rw [List.length_modify]; exact hk), List.getElem_modify]
    congr 1
    by_cases e : i = k
    · subst e
      rw [if_pos rfl, if_neg hn.1, if_pos (by simp)]; omega
    · rw [if_neg e]
      by_cases hr : k ∈ r
      · rw [if_pos hr, if_pos (by simp [hr])]
      · rw [if_neg hr, if_neg (by simp [hr]; omega)]
def prtL (T : Int) (ws : List Int) : List Int := ws.map (fun x => T * x / ws.sum)
def rstL (T : Int) (ws : List Int) : List Int := ws.map (fun x => T * x % ws.sum)
/-- how many are missing -/
def missN (T : Int) (ws : List Int) : Int := T - (prtL T ws).sum
def topL (T : Int) (ws : List Int) : List Nat := ((ordR (rstL T ws)).take (missN T ws).toNat).map (·.val)
def splitP (T : Int) (ws : List Int) : List Int := bumpAll (prtL T ws) (topL T ws)
def splitV (T : Int) (ws : List Int) : List Int := if T < 0 then (splitP (-T) ws).map (-·) else splitP T ws
theorem prtL_len (T : Int) (ws : List Int) : (prtL T ws).length = ws.length := List.length_map ..
theorem rstL_len (T : Int) (ws : List Int) : (rstL T ws).length = ws.length := List.length_map ..
theorem splitP_len (T : Int) (ws : List Int) : (splitP T ws).length = ws.length := by rw [splitP, bumpAll_len, prtL_len]
theorem splitV_len (T : Int) (ws : List Int) : (splitV T ws).length = ws.length := by
  unfold splitV; split
  · rw [List.length_map, splitP_len]
  · exact splitP_len _ _
theorem sum_mul (T : Int) (l : List Int) : (l.map (T * ·)).sum = T * l.sum := by
  induction l with
  | nil => simp
  | cons a r ih => simp only [List.map_cons, List.sum_cons]; rw [ih, Int.mul_add]
theorem sum_divmod (T S : Int) (l : List Int) : S * (l.map (fun x => T * x / S)).sum + (l.map (fun x => T * x % S)).sum = T * l.sum := by
  induction l with
  | nil => simp
  | cons a r ih =>
    simp only [List.map_cons, List.sum_cons]
    have := Int.mul_ediv_add_emod (T * a) S
    rw [Int.mul_add, Int.mul_add]; omega
theorem miss_eq {T : Int} {ws : List Int} : ws.sum * missN T ws = (rstL T ws).sum := by
  have := sum_divmod T ws.sum ws
  have e : (prtL T ws).sum = (ws.map (fun x => T * x / ws.sum)).sum := rfl
  have e2 : (rstL T ws).sum = (ws.map (fun x => T * x % ws.sum)).sum := rfl
  unfold missN
  rw [Int.mul_sub, e, e2, Int.mul_comm ws.sum T]; omega
theorem sum_bounds {S : Int} (l : List Int) (h : ∀ x ∈ l, 0 ≤ x ∧ x < S) : 0 ≤ l.sum ∧ l.sum ≤ l.length * (S - 1) := by
  induction l with
  | nil => simp
  | cons a r ih =>
    have h1 := h a (by simp)
    have h2 := ih (fun x hx => h x (by simp [hx]))
    simp only [List.sum_cons, List.length_cons]
    rw [Int.natCast_add, Int.add_mul]; omega
theorem rstL_bounds {T : Int} {ws : List Int} (hS : 0 < ws.sum) : ∀ x ∈ rstL T ws, 0 ≤ x ∧ x < ws.sum := by
  intro x hx
  obtain ⟨a, _, rfl⟩ := List.mem_map.1 hx
  exact ⟨Int.emod_nonneg _ (by omega), Int.emod_lt_of_pos _ hS⟩
theorem miss_bounds {T : Int} {ws : List Int} (hS : 0 < ws.sum) : 0 ≤ missN T ws ∧ missN T ws ≤ ws.length := by
  have h1 := sum_bounds _ (rstL_bounds (T := T) hS)
  rw [← miss_eq, rstL_len] at h1
  constructor
  · have := Int.le_of_mul_le_mul_left (a := ws.sum) (b := 0) (c := missN T ws) (by rw [Int.mul_zero]; exact h1.1) hS
    exact this
  · have h2 : ws.sum * missN T ws ≤ ws.sum * ws.length := by
      refine Int.le_trans h1.2 ?_
      rw [Int.mul_sub, Int.mul_one, Int.mul_comm]; omega
    exact Int.le_of_mul_le_mul_left h2 hS
theorem topL_len {T : Int} {ws : List Int} (hS : 0 < ws.sum) : ((topL T ws).length : Int) = missN T ws := by
  have := miss_bounds (T := T) hS
  rw [topL, List.length_map, List.length_take, ordR_len, rstL_len]; omega
theorem topL_lt {T : Int} {ws : List Int} : ∀ i ∈ topL T ws, i < ws.length := by
  intro i hi
  obtain ⟨k, _, rfl⟩ := List.mem_map.1 hi
  exact Nat.lt_of_lt_of_eq k.isLt (rstL_len T ws)
theorem topL_nodup {T : Int} {ws : List Int} : (topL T ws).Nodup := by
  unfold topL
  refine List.pairwise_map.2 (List.Pairwise.imp ?_ ((ordR_nodup _).sublist (List.take_sublist _ _)))
  intro a b hab he; exact hab (Fin.ext he)
/-- nothing is lost -/
theorem splitP_sum {T : Int} {ws : List Int} (hS : 0 < ws.sum) : (splitP T ws).sum = T := by
  rw [splitP, bumpAll_sum _ _ (fun i hi => by rw [prtL_len]; exact topL_lt i hi), topL_len hS]
  unfold missN; omega
theorem sum_neg (l : List Int) : (l.map (-·)).sum = -l.sum := by
  induction l with
  | nil => simp
  | cons a r ih => simp only [List.map_cons, List.sum_cons]; rw [ih]; omega
theorem splitV_sum {T : Int} {ws : List Int} (hS : 0 < ws.sum) : (splitV T ws).sum = T := by
  unfold splitV; split
  · rw [sum_neg, splitP_sum hS]; omega
  · exact splitP_sum hS
/-- what gets one more has a rest -/
theorem sum_split {α : Type} (f : α → Int) (a b : List α) : ((a ++ b).map f).sum = (a.map f).sum + (b.map f).sum := by simp
theorem perm_sum {α : Type} (f : α → Int) {a b : List α} (h : a.Perm b) : (a.map f).sum = (b.map f).sum := by
  induction h with
  | nil => rfl
  | cons x _ ih => simp [ih]
  | swap x y l => simp; omega
  | trans _ _ ih1 ih2 => exact ih1.trans ih2
theorem finRange_sum (r : List Int) : ((List.finRange r.length).map (fun i => r[i])).sum = r.sum := by
  congr 1
  apply List.ext_getElem
  · simp
  · intro i h1 h2; simp
theorem sum_zero {α : Type} (f : α → Int) (l : List α) (h : ∀ x ∈ l, f x = 0) : (l.map f).sum = 0 := by
  induction l with
  | nil => rfl
  | cons a r ih => simp only [List.map_cons, List.sum_cons]; rw [h a (by simp), ih (fun x hx => h x (by simp [hx]))]; rfl
theorem sum_some_zero {α : Type} {S : Int} (f : α → Int) (l : List α) (h : ∀ x ∈ l, 0 ≤ f x ∧ f x < S) {i : α} (hi : i ∈ l) (h0 : f i = 0) : (l.map f).sum ≤ (l.length - 1) * (S - 1) := by
  induction l with
  | nil => simp at hi
  | cons a r ih =>
    have h1 := h a (by simp)
    have h2 := fun x hx => h x (List.mem_cons_of_mem a hx)
    have hb := sum_bounds (S := S) (r.map f) (fun x hx => by obtain ⟨y, hy, rfl⟩ := List.mem_map.1 hx; exact h2 y hy)
    rw [List.length_map] at hb
    simp only [List.map_cons, List.sum_cons, List.length_cons]
    rcases List.mem_cons.1 hi with rfl | hi
    · rw [h0]
      rw [Int.natCast_add, show ((r.length : Int) + ((1 : Nat) : Int) - 1) = r.length by omega]; omega
    · have := ih h2 hi
      rw [Int.natCast_add, show ((r.length : Int) + ((1 : Nat) : Int) - 1) = (r.length - 1) + 1 by omega, Int.add_mul]; omega
theorem topL_rest {T : Int} {ws : List Int} (hS : 0 < ws.sum) {k : Nat} (hk : k ∈ topL T ws) (hl : k < (rstL T ws).length) : 0 < (rstL T ws)[k] := by
  obtain ⟨i, hi, rfl⟩ := List.mem_map.1 hk
  have hr := rstL_bounds (T := T) hS
  have hget : ∀ j : Fin (rstL T ws).length, 0 ≤ (rstL T ws)[j] ∧ (rstL T ws)[j] < ws.sum := fun j => hr _ (List.getElem_mem _)
  have hm := miss_bounds (T := T) hS
  have hme := miss_eq (T := T) (ws := ws)
  have hord := ordR_sorted (rstL T ws)
  have hperm := ordR_perm (rstL T ws)
  have hlen := ordR_len (rstL T ws)
  rcases Int.lt_or_le 0 ((rstL T ws)[i.val]'hl) with h | h
  · exact h
  · exfalso
    have h0 : (rstL T ws)[i] = 0 := by have := hget i; simp only [Fin.getElem_fin] at *; omega
    generalize hL : ordR (rstL T ws) = L at *
    have hsp : L.take (missN T ws).toNat ++ L.drop (missN T ws).toNat = L := List.take_append_drop _ _
    have hz : ∀ x ∈ L.drop (missN T ws).toNat, (rstL T ws)[x] = 0 := by
      intro x hx
      rw [← hsp, List.pairwise_append] at hord
      have := hord.2.2 i hi x hx
      have := hget x
      omega
    have hs : ((L.take (missN T ws).toNat).map (fun j => (rstL T ws)[j])).sum = (rstL T ws).sum := by
      have e1 := sum_split (fun j => (rstL T ws)[j]) (L.take (missN T ws).toNat) (L.drop (missN T ws).toNat)
      rw [hsp, sum_zero _ _ hz, perm_sum _ hperm, finRange_sum] at e1
      omega
    have hb := sum_some_zero (S := ws.sum) (fun j => (rstL T ws)[j]) (L.take (missN T ws).toNat) (fun x _ => hget x) hi h0
    rw [hs, ← hme] at hb
    have hln : ((L.take (missN T ws).toNat).length : Int) = missN T ws := by
      rw [List.length_take, hlen, rstL_len]; omega
    have hpos : 0 < missN T ws := by
      rw [← hln]
      have := List.length_pos_of_mem hi
      omega
    rw [hln] at hb
    have e2 : (missN T ws - 1) * (ws.sum - 1) = ws.sum * missN T ws - missN T ws - ws.sum + 1 := by
      rw [Int.sub_mul, Int.mul_sub, Int.mul_comm (missN T ws) ws.sum]; omega
    omega
/-- each part is less than 1 away from its due -/
theorem splitP_near {T : Int} {ws : List Int} (hS : 0 < ws.sum) (k : Nat) (hk : k < ws.length) (hk2 : k < (splitP T ws).length) :
    -ws.sum < (splitP T ws)[k] * ws.sum - T * ws[k] ∧ (splitP T ws)[k] * ws.sum - T * ws[k] < ws.sum := by
  have hp : k < (prtL T ws).length := by rw [prtL_len]; exact hk
  have hr : k < (rstL T ws).length := by rw [rstL_len]; exact hk
  have hg := bumpAll_get (prtL T ws) (topL T ws) topL_nodup k hp
  have e : (splitP T ws)[k] = (prtL T ws)[k] + if k ∈ topL T ws then 1 else 0 := by
    have : (splitP T ws)[k]? = some ((splitP T ws)[k]) := List.getElem?_eq_getElem hk2
    unfold splitP at this hg ⊢
    rw [hg] at this; injection this with this; exact this.symm
  have ep : (prtL T ws)[k] = T * ws[k] / ws.sum := by simp [prtL]
  have er : (rstL T ws)[k] = T * ws[k] % ws.sum := by simp [rstL]
  have h1 := Int.mul_ediv_add_emod (T * ws[k]) ws.sum
  have h2 := Int.emod_nonneg (T * ws[k]) (b := ws.sum) (by omega)
  have h3 := Int.emod_lt_of_pos (T * ws[k]) hS
  rw [e, ep, Int.add_mul, Int.mul_comm (T * ws[k] / ws.sum) ws.sum]
  by_cases h : k ∈ topL T ws
  · have h4 := topL_rest hS h hr
    rw [er] at h4
    rw [if_pos h, Int.one_mul]; omega
  · rw [if_neg h, Int.zero_mul]; omega
theorem splitP_nonneg {T : Int} {ws : List Int} (hT : 0 ≤ T) (hw : ∀ x ∈ ws, 0 ≤ x) (hS : 0 < ws.sum) : ∀ x ∈ splitP T ws, 0 ≤ x := by
  intro x hx
  obtain ⟨k, hk, rfl⟩ := List.mem_iff_getElem.1 hx
  have hk' : k < ws.length := by rw [splitP_len] at hk; exact hk
  have hp : k < (prtL T ws).length := by rw [prtL_len]; exact hk'
  have hg := bumpAll_get (prtL T ws) (topL T ws) topL_nodup k hp
  have e : (splitP T ws)[k] = (prtL T ws)[k] + if k ∈ topL T ws then 1 else 0 := by
    have : (splitP T ws)[k]? = some ((splitP T ws)[k]) := List.getElem?_eq_getElem hk
    unfold splitP at this hg ⊢
    rw [hg] at this; injection this with this; exact this.symm
  have ep : (prtL T ws)[k] = T * ws[k] / ws.sum := by simp [prtL]
  have : 0 ≤ T * ws[k] / ws.sum := Int.ediv_nonneg (Int.mul_nonneg hT (hw _ (List.getElem_mem _))) (by omega)
  rw [e, ep]; split <;> omega
end Go.Proofs.YtikehdbkiplleaaGreatDoor

/- Contracts of functions that only compute ('Pure'): on texts they return a value, and leave all that lay there as it was. The program's integers in this form. -/
namespace Go.Proofs.YtikehdbkiplleaaGreatDoor
open Go.RowKit
attribute [local go_sem] size_bs toList_bs

abbrev Pure (f : FuncId) (args : Array Value) (v : Value) : Prop := ∀ W, Env W → Calls Tryz.prog f args W fun e w' => e = .returned v ∧ Ext W w'
theorem addP (a b : Bs) (ha : a.length ≤ 100000) (hb : b.length ≤ 100000) : Pure 29 #[.string (bs a), .string (bs b)] (.string (bs (ofI (valI a + valI b)))) := fun W h => intAddS a b W ha hb h
theorem subP (a b : Bs) (ha : a.length ≤ 100000) (hb : b.length ≤ 100000) : Pure 79 #[.string (bs a), .string (bs b)] (.string (bs (ofI (valI a - valI b)))) := fun W h => intSub a b W ha hb h
theorem mulP (a b : Bs) (ha : a.length ≤ 100000) (hb : b.length ≤ 100000) : Pure 89 #[.string (bs a), .string (bs b)] (.string (bs (ofI (valI a * valI b)))) := fun W h => intMul a b W ha hb h
theorem negP (a : Bs) (ha : a.length ≤ 100000) : Pure 111 #[.string (bs a)] (.string (bs (ofI (-(valI a))))) := fun W h => intNeg a W ha h
theorem cmpP (a b : Bs) (ha : a.length ≤ 100000) (hb : b.length ≤ 100000) : Pure 24 #[.string (bs a), .string (bs b)] (.int .i64 (cmpI (valI a) (valI b))) := fun W _ => intCmp a b W ha hb
theorem valI_nil : valI [] = 0 := by decide
theorem cmp0P (a : Bs) (ha : a.length ≤ 100000) : Pure 24 #[.string (bs a), .string ⟨#[]⟩] (.int .i64 (cmpI (valI a) 0)) := by
  have := cmpP a [] ha (by simp)
  rw [valI_nil] at this; exact this
theorem natOf_abs (l : Bs) : natOf (mag l) = (valI l).natAbs := by unfold valI; split <;> omega
theorem divP (a b : Bs) (ha : a.length ≤ 100000) (hb : b.length ≤ 100000) (h : valI b ≠ 0) : Pure 142 #[.string (bs a), .string (bs b)] (.tuple #[.string (bs (ofI (divF (valI a) (valI b)))), .string (bs (ofI (modF (valI a) (valI b)))), .int .i64 0]) := fun W hE => intDiv_some a b W ha hb (by rw [natOf_abs]; omega) hE
theorem checkP (a : Bs) (ha : a.length ≤ 100000) : Pure 78 #[.string (bs a)] (.int .i64 (checkI a)) := fun W _ => intCheck a W (by omega)
theorem canonP (a : Bs) (ha : a.length ≤ 100000) : Pure 133 #[.string (bs a)] (.string (bs (ofI (valI a)))) := fun W _ => by rw [← canon_ofI]; exact intCanonical a W (by omega)
theorem divF_pos {x y : Int} (h : 0 < y) : divF x y = x / y := by unfold divF; rw [if_neg (by omega)]
theorem modF_pos {x y : Int} (h : 0 < y) : modF x y = x % y := by unfold modF; rw [divF_pos h, Int.emod_def]
theorem ofI_nil {z : Int} : ofI z = [] ↔ z = 0 := by
  constructor
  · intro h; rw [← valI_ofI z, h, valI_nil]
  · rintro rfl; unfold ofI; simp [dig10_zero]
theorem ofI_inj {a b : Int} (h : ofI a = ofI b) : a = b := by rw [← valI_ofI a, h, valI_ofI]
theorem ofI_one : ofI 1 = [49] := by decide +kernel
theorem valI_one : valI [49] = 1 := by decide +kernel
/-- canonical: it is the text of its value -/
theorem checkI_ok {l : Bs} : checkI l = 0 ↔ ofI (valI l) = l := by
  unfold checkI; rw [canon_ofI]; split
  · simp [*]
  · simp [*]
theorem checkI_no {l : Bs} (h : checkI l ≠ 0) : checkI l = 1 := by unfold checkI at *; split at h <;> simp_all
end Go.Proofs.YtikehdbkiplleaaGreatDoor

/- The walks: names (program and reference), numbers of digits. -/
namespace Go.Proofs.YtikehdbkiplleaaGreatDoor
open Go.RowKit
attribute [local go_sem] size_bs toList_bs extract_bs get_bs append_bs lit_append append_lit

set_option maxHeartbeats 400000 in
theorem insName (l : Bs) (w : World) (hs : l.length ≤ 1000000000) :
    Calls Tryz.prog 131 #[.string (bs l)] w fun e w' => e = .returned (.bool (isName l)) ∧ Ext w w' := by
  by_cases h0 : l.length = 0
  · obtain rfl : l = [] := List.eq_nil_of_length_eq_zero h0
    go_enter Tryz.func131, Tryz.ntmps131
    go_wp2_with fail
    go_ret
    exact ⟨rfl, Ext.refl _⟩
  have h0b : ((l.length : Int) == 0) = false := by rw [beq_eq_false_iff_ne]; omega
  by_cases h1 : 16 < l.length
  · have h1b : decide (16 < (l.length : Int)) = true := by simp; omega
    clear h0
    go_enter Tryz.func131, Tryz.ntmps131
    go_wp2_with fail
    go_ret
    exact ⟨by simp [isName]; omega, Ext.refl _⟩
  have h1b : decide (16 < (l.length : Int)) = false := by simp; omega
  obtain ⟨cap, w1, hrun, hx, hsz, hcell⟩ := conv_bytes (P := Tryz.prog) w 9 123 5 l Tryz.underlying9 Tryz.underlying123 Tryz.underlying5
  have HC := Lib.hid hcell
  have HN : Hid (1 ≤ l.length) := Lib.hid (by omega)
  clear hcell hsz h0
  go_enter Tryz.func131, Tryz.ntmps131
  go_wp2_with fail
  go_loop [16] (fun i => ∃ k : Nat, k ≤ l.length ∧ i = .int .i64 k ∧ (l.take k).all isN = true) (fun i => l.length - (intOf i).toNat)
  case atStart => exact ⟨0, Nat.zero_le _, rfl, rfl⟩
  case round =>
    obtain ⟨k, hk, rfl, hd⟩ := hrel
    have HD := Lib.hid hd
    clear hd hrun
    by_cases hlt : k < l.length
    · have hc := HC.out k hlt
      by_cases h95 : ((l[k]'hlt).toNat : Int) = 95
      · have h95a : ((l[k]'hlt).toNat : Int) ≤ 95 := by omega
        have h95c : 95 ≤ ((l[k]'hlt).toNat : Int) := by omega
        have h95b : (((l[k]'hlt).toNat : Int) != 95) = false := by rw [bne_eq_false_iff_eq]; exact h95
        clear h95
        go_wp2_with fail
        all_goals
          go_round
          case rel => exact ⟨k + 1, by omega, by go_num, takeN_succ l k hlt HD.out (isN_good (by omega))⟩
          case measure => simp [intOf]; omega
      · have h95b : (((l[k]'hlt).toNat : Int) != 95) = true := by rw [bne_iff_ne]; exact h95
        go_wp2_with fail
        all_goals first
          | (go_ret
             exact ⟨by rw [isName_bad l k hlt (isN_bad (by omega))]; rfl, hx⟩)
          | (go_round
             case rel => exact ⟨k + 1, by omega, by go_num, takeN_succ l k hlt HD.out (isN_good (by omega))⟩
             case measure => simp [intOf]; omega)
    · go_wp2_with fail
      go_ret
      exact ⟨by rw [isName_good l k hlt HD.out HN.out (by omega)]; rfl, hx⟩

set_option maxHeartbeats 400000 in
theorem refName (l : Bs) (w : World) (hs : l.length ≤ 1000000000) :
    Calls Tryz.prog 82 #[.string (bs l)] w fun e w' => e = .returned (.bool (isName l)) ∧ w = w' := by
  go_enter Tryz.func82, Tryz.ntmps82
  go_wp2_with fail
  go_loop [3] (fun i => ∃ k : Nat, k ≤ l.length ∧ i = .int .i64 k ∧ (l.take k).all isN = true) (fun i => l.length - (intOf i).toNat)
  case atStart => exact ⟨0, Nat.zero_le _, rfl, rfl⟩
  case round =>
    obtain ⟨k, hk, rfl, hd⟩ := hrel
    have HD := Lib.hid hd
    clear hd
    by_cases hlt : k < l.length
    · by_cases h95 : ((l[k]'hlt).toNat : Int) = 95
      · have h95a : ((l[k]'hlt).toNat : Int) ≤ 95 := by omega
        have h95c : 95 ≤ ((l[k]'hlt).toNat : Int) := by omega
        have h95b : (((l[k]'hlt).toNat : Int) != 95) = false := by rw [bne_eq_false_iff_eq]; exact h95
        clear h95
        go_wp2_with fail
        all_goals
          go_round
          case rel => exact ⟨k + 1, by omega, by go_num, takeN_succ l k hlt HD.out (isN_good (by omega))⟩
          case measure => simp [intOf]; omega
      · have h95b : (((l[k]'hlt).toNat : Int) != 95) = true := by rw [bne_iff_ne]; exact h95
        go_wp2_with fail
        all_goals first
          | (go_ret
             exact ⟨by rw [isName_bad l k hlt (isN_bad (by omega))]; rfl, rfl⟩)
          | (go_round
             case rel => exact ⟨k + 1, by omega, by go_num, takeN_succ l k hlt HD.out (isN_good (by omega))⟩
             case measure => simp [intOf]; omega)
    · have hall := Lib.hid (takeN_end l k hlt HD.out)
      by_cases h1 : 1 ≤ l.length
      · by_cases h2 : l.length ≤ 16
        · have h1b : decide (1 ≤ (l.length : Int)) = true := by simp; omega
          have h2b : decide ((l.length : Int) ≤ 16) = true := by simp; omega
          go_wp2_with fail
          go_ret
          exact ⟨by rw [isName_all l hall.out]; simp [h1, h2], rfl⟩
        · have h1b : decide (1 ≤ (l.length : Int)) = true := by simp; omega
          have h2b : decide ((l.length : Int) ≤ 16) = false := by simp; omega
          go_wp2_with fail
          go_ret
          exact ⟨by rw [isName_all l hall.out]; simp [h2], rfl⟩
      · have h1b : decide (1 ≤ (l.length : Int)) = false := by simp; omega
        go_wp2_with fail
        go_ret
        exact ⟨by rw [isName_all l hall.out]; simp [h1], rfl⟩
end Go.Proofs.YtikehdbkiplleaaGreatDoor

/- The walks over the program's lots: isId, valid, Check. -/
namespace Go.Proofs.YtikehdbkiplleaaGreatDoor
open Go.RowKit Go.Shelf
attribute [local go_sem] size_bs toList_bs

theorem cut_slash (l : Bs) : (Lib.cut l [47]).1 = (cut47 l).1 ∧ (Lib.cut l [47]).2.1 = (cut47 l).2 := by
  unfold Lib.cut
  rw [Lib.index_one]
  have key : ∀ l : Bs, (Lib.indexByte l 47 = -1 ∧ cut47 l = (l, [])) ∨ ∃ k : Nat, Lib.indexByte l 47 = (k : Int) ∧ cut47 l = (l.take k, l.drop (k + 1)) := by
    intro l
    induction l with
    | nil => left; exact ⟨rfl, rfl⟩
    | cons x r ih =>
      by_cases h : x = 47
      · right; refine ⟨0, by simp [Lib.indexByte, h], by simp [cut47, h]⟩
      · rcases ih with ⟨h1, h2⟩ | ⟨k, h1, h2⟩
        · left; exact ⟨by simp [Lib.indexByte, h, h1], by simp [cut47, h, h2]⟩
        · right
          have : ¬ ((k : Nat) : Int) = -1 := by omega
          exact ⟨k + 1, by simp [Lib.indexByte, h, h1, this], by simp [cut47, h, h2]⟩
  rcases key l with ⟨h1, h2⟩ | ⟨k, h1, h2⟩
  · rw [h1, h2]; exact ⟨rfl, rfl⟩
  · rw [h1, h2, if_pos (by omega), Int.toNat_natCast]; exact ⟨rfl, rfl⟩
theorem cut47_len (l : Bs) : (cut47 l).1.length ≤ l.length ∧ (cut47 l).2.length ≤ l.length := by
  induction l with
  | nil => exact ⟨Nat.le_refl _, Nat.le_refl _⟩
  | cons x r ih =>
    unfold cut47
    split
    · simp
    · simp only [List.length_cons]; omega
theorem cutSlash (l : Bs) (w : World) (hl : l.length ≤ 1000000) (hE : Env w) :
    Calls Tryz.prog 174 #[.string (bs l), .string { data := #[47] }] w fun e w' => (∃ b, e = .returned (.tuple #[.string (bs (cut47 l).1), .string (bs (cut47 l).2), .bool b])) ∧ Ext w w' := by
  obtain ⟨m, hm⟩ := hE.len
  refine (Tryz.strings_Cut (bs l) (bs [47]) m w (by rw [size_bs]; omega) hm).mono ?_
  rintro e w' ⟨rfl, n, rfl⟩
  refine ⟨⟨(Lib.cut l [47]).2.2, ?_⟩, (Ext.refl w).drewN n⟩
  have h := cut_slash l
  rw [data_bs, data_bs, ← h.1, ← h.2]; rfl
theorem ext_bytes (w : World) (t : TypeId) (b : ByteArray) : Ext w (Lib.bytesWorld w t b) :=
  ⟨rfl, rfl, rfl, by rw [Lib.bytesWorld_size]; omega, fun k hk => Lib.bytesWorld_at_old w t b k hk⟩
theorem atoi_ok (t : Bs) (v : Int) (h : Lib.atoiAll t = .ok v) (ht : t.length ≤ 1000000) (w : World) :
    Calls Tryz.prog 175 #[.string (bs t)] w fun e w' => e = .returned (.tuple #[.int .i64 v, .nilIface]) ∧ Ext w w' := by
  refine (Tryz.strconv_Atoi_ok (bs t) (by rw [size_bs]; omega) v (by rw [data_bs]; exact h) w).mono ?_
  rintro e w' ⟨rfl, rfl | ⟨q, rfl⟩⟩
  · exact ⟨rfl, Ext.refl _⟩
  · exact ⟨rfl, ext_bytes _ _ _⟩
theorem atoi_no (t : Bs) (h : ∀ v, Lib.atoiAll t ≠ .ok v) (ht : t.length ≤ 1000000) (w : World) (hE : Env w) :
    Calls Tryz.prog 175 #[.string (bs t)] w fun e w' => (∃ n p, e = .returned (.tuple #[.int .i64 n, .iface 177 p])) ∧ Ext w w' := by
  cases k : Lib.atoiAll t
  · exact absurd k (h _)
  · obtain ⟨ev, hv, hev⟩ := hE.syn
    have hs : Calls Tryz.prog 175 #[.string (bs t)] w fun e w' => ∃ N, e = .returned (.tuple #[.int .i64 0, .iface 177 (.pointer (some ⟨N, 0, none⟩))]) ∧ w.heap.size ≤ N ∧ w'.heap[N]? = some (.cells #[.string ⟨#[65, 116, 111, 105]⟩, .string (bs t), ev] 205 (0, 0)) ∧ Below w.heap.size w w' :=
      Go.Proofs.Any.strconv_Atoi_syntax Tryz.laysC172 (bs t) (by rw [size_bs]; omega) (by rw [data_bs]; exact k) ev w hv hev
    refine hs.mono ?_
    rintro e w' ⟨N, rfl, _, _, hb⟩
    exact ⟨⟨_, _, rfl⟩, hb⟩
  · obtain ⟨ev, hv, hev⟩ := hE.rng
    refine (Tryz.strconv_Atoi_range (bs t) (by rw [size_bs]; omega) (by rw [data_bs]; exact k) ev w hv hev).mono ?_
    rintro e w' ⟨N, rfl, _, _, hb⟩
    exact ⟨⟨_, _, rfl⟩, hb⟩
set_option maxRecDepth 100000 in
set_option maxHeartbeats 2000000 in
theorem lotIsId (l : Bs) (hl : l.length ≤ 100000) : Pure 130 #[.string (bs l)] (.bool (isId l)) := by
  intro w hE
  have HE := Lib.hid hE
  have hcl := cut47_len l
  have HC := Lib.hid (fun W h => cutSlash l W (by omega) h)
  have HN := Lib.hid (fun W => insName (cut47 l).1 W (by omega))
  unfold isId
  rcases Classical.em (∃ v, Lib.atoiAll (cut47 l).2 = .ok v) with ⟨v, hk⟩ | hk
  · have HA := Lib.hid (fun W => atoi_ok (cut47 l).2 v hk (by omega) W)
    have HP := Lib.hid (numOK_prog hk)
    rw [HP.out]
    generalize (cut47 l).1 = nm at *
    generalize (cut47 l).2 = nu at *
    generalize isName nm = ok at *
    clear hk hcl hE HP
    by_cases h1 : 1 ≤ v
    · by_cases h2 : v ≤ 9999
      · have HI := Lib.hid (fun W h => itoa_any v W (by omega) (by omega) h)
        generalize Lib.itoa v = it at *
        have g1 : decide (1 ≤ v) = true := by simpa using h1
        have g2 : decide (v ≤ 9999) = true := by simpa using h2
        by_cases h3 : it = nu
        · have g3 : (it == nu) = true := by simpa using h3
          have H3 : Hid (ok = (ok && (decide (1 ≤ v) && decide (v ≤ 9999) && (it == nu)))) := Lib.hid (by rw [g1, g2, g3]; simp)
          rw [← H3.out]
          clear h3
          go_enter Tryz.func130, Tryz.ntmps130
          go_wp2_with fail
          refine (HC.out _ HE.out).mono ?_
          rintro e w1 ⟨⟨b, rfl⟩, hx1⟩
          have HX := Lib.hid hx1
          clear hx1
          go_wp2_with fail
          refine (HA.out _).mono ?_
          rintro e w2 ⟨rfl, hx1⟩
          replace HX := Lib.hid (HX.out.trans hx1)
          clear hx1
          go_wp2_with fail
          refine (HI.out _ (HE.out.ext HX.out)).mono ?_
          rintro e w3 ⟨rfl, hx1⟩
          replace HX := Lib.hid (HX.out.trans hx1)
          clear hx1
          go_wp2_with fail
          refine (HN.out _).mono ?_
          rintro e w4 ⟨rfl, hx1⟩
          replace HX := Lib.hid (HX.out.trans hx1)
          clear hx1
          go_wp2_with fail
          go_ret
          exact ⟨rfl, HX.out⟩
        · have g3 : (it == nu) = false := by simpa using h3
          have H3 : Hid (false = (ok && (decide (1 ≤ v) && decide (v ≤ 9999) && (it == nu)))) := Lib.hid (by rw [g1, g2, g3]; simp)
          rw [← H3.out]
          clear h3
          go_enter Tryz.func130, Tryz.ntmps130
          go_wp2_with fail
          refine (HC.out _ HE.out).mono ?_
          rintro e w1 ⟨⟨b, rfl⟩, hx1⟩
          have HX := Lib.hid hx1
          clear hx1
          go_wp2_with fail
          refine (HA.out _).mono ?_
          rintro e w2 ⟨rfl, hx1⟩
          replace HX := Lib.hid (HX.out.trans hx1)
          clear hx1
          go_wp2_with fail
          refine (HI.out _ (HE.out.ext HX.out)).mono ?_
          rintro e w3 ⟨rfl, hx1⟩
          replace HX := Lib.hid (HX.out.trans hx1)
          clear hx1
          go_wp2_with fail
          go_ret
          exact ⟨rfl, HX.out⟩
      · have g1 : decide (1 ≤ v) = true := by simpa using h1
        have g2 : decide (v ≤ 9999) = false := by simpa using h2
        generalize Lib.itoa v = it at *
        have H3 : Hid (false = (ok && (decide (1 ≤ v) && decide (v ≤ 9999) && (it == nu)))) := Lib.hid (by rw [g1, g2]; simp)
        rw [← H3.out]
        go_enter Tryz.func130, Tryz.ntmps130
        go_wp2_with fail
        refine (HC.out _ HE.out).mono ?_
        rintro e w1 ⟨⟨b, rfl⟩, hx1⟩
        have HX := Lib.hid hx1
        clear hx1
        go_wp2_with fail
        refine (HA.out _).mono ?_
        rintro e w2 ⟨rfl, hx1⟩
        replace HX := Lib.hid (HX.out.trans hx1)
        clear hx1
        go_wp2_with fail
        go_ret
        exact ⟨rfl, HX.out⟩
    · have g1 : decide (1 ≤ v) = false := by simpa using h1
      generalize Lib.itoa v = it at *
      have H3 : Hid (false = (ok && (decide (1 ≤ v) && decide (v ≤ 9999) && (it == nu)))) := Lib.hid (by rw [g1]; simp)
      rw [← H3.out]
      go_enter Tryz.func130, Tryz.ntmps130
      go_wp2_with fail
      refine (HC.out _ HE.out).mono ?_
      rintro e w1 ⟨⟨b, rfl⟩, hx1⟩
      have HX := Lib.hid hx1
      clear hx1
      go_wp2_with fail
      refine (HA.out _).mono ?_
      rintro e w2 ⟨rfl, hx1⟩
      replace HX := Lib.hid (HX.out.trans hx1)
      clear hx1
      go_wp2_with fail
      go_ret
      exact ⟨rfl, HX.out⟩
  · have hk' : ∀ v, Lib.atoiAll (cut47 l).2 ≠ .ok v := fun v h => hk ⟨v, h⟩
    have HA := Lib.hid (fun W h => atoi_no (cut47 l).2 hk' (by omega) W h)
    rw [numOK_bad hk', Bool.and_false]
    generalize (cut47 l).1 = nm at *
    generalize (cut47 l).2 = nu at *
    clear hk hk' hcl hE HN
    go_enter Tryz.func130, Tryz.ntmps130
    go_wp2_with fail
    refine (HC.out _ HE.out).mono ?_
    rintro e w1 ⟨⟨b, rfl⟩, hx1⟩
    have HX := Lib.hid hx1
    clear hx1
    go_wp2_with fail
    refine (HA.out _ (HE.out.ext HX.out)).mono ?_
    rintro e w2 ⟨⟨n, p, rfl⟩, hx1⟩
    replace HX := Lib.hid (HX.out.trans hx1)
    clear hx1
    go_wp2_with fail
    go_ret
    exact ⟨rfl, HX.out⟩
set_option maxRecDepth 100000 in
theorem lotValid (d : Int) (w : World) : Calls Tryz.prog 132 #[.int .i64 d] w fun e w' => e = .returned (.bool (dayOK d)) ∧ w = w' := by
  unfold dayOK
  by_cases h : -25567 ≤ d
  · have g : decide (-25567 ≤ d) = true := by simpa using h
    rw [g, Bool.true_and]
    go_enter Tryz.func132, Tryz.ntmps132
    go_wp2_with fail
    go_ret
    exact ⟨rfl, rfl⟩
  · have g : decide (-25567 ≤ d) = false := by simpa using h
    rw [g, Bool.false_and]
    go_enter Tryz.func132, Tryz.ntmps132
    go_wp2_with fail
    go_ret
    exact ⟨rfl, rfl⟩
end Go.Proofs.YtikehdbkiplleaaGreatDoor

/- The walk over the program's Check of a lot. -/
namespace Go.Proofs.YtikehdbkiplleaaGreatDoor
open Go.RowKit Go.Shelf
attribute [local go_sem] size_bs toList_bs

abbrev lv (x : LotV) : Value := .agg #[.string (bs x.id), .string (bs x.ins), .int .i64 x.acq, .int .i64 x.opn, .string (bs x.q), .string (bs x.c), .string (bs x.u)]
abbrev lc (x : LotV) : Array Value := #[.string (bs x.id), .string (bs x.ins), .int .i64 x.acq, .int .i64 x.opn, .string (bs x.q), .string (bs x.c), .string (bs x.u)]
theorem lotBlk {w w' : World} {g : Nat} {x : LotV} (h : Blk w g 50 (lc x)) (hx : Ext w w') : w'.cell? ⟨g, 0, none⟩ = some (.string (bs x.id)) ∧ w'.cell? ⟨g, 1, none⟩ = some (.string (bs x.ins)) ∧ w'.cell? ⟨g, 2, none⟩ = some (.int .i64 x.acq) ∧ w'.cell? ⟨g, 3, none⟩ = some (.int .i64 x.opn) ∧ w'.cell? ⟨g, 4, none⟩ = some (.string (bs x.q)) ∧ w'.cell? ⟨g, 5, none⟩ = some (.string (bs x.c)) ∧ w'.cell? ⟨g, 6, none⟩ = some (.string (bs x.u)) := by
  have k := h.ext hx
  have h0 := k.cell 0
  have h1 := k.cell 1
  have h2 := k.cell 2
  have h3 := k.cell 3
  have h4 := k.cell 4
  have h5 := k.cell 5
  have h6 := k.cell 6
  simp only [List.getElem?_toArray, List.getElem?_cons_zero, List.getElem?_cons_succ] at h0 h1 h2 h3 h4 h5 h6
  exact ⟨h0, h1, h2, h3, h4, h5, h6⟩
/-- the tests of Check, one after the other -/
structure CkL (x : LotV) (r : Int) : Prop where
  k1 : isId x.id = false → r = 23
  k2 : isId x.id = true → isName x.ins = false → r = 23
  k3 : isId x.id = true → isName x.ins = true → dayOK x.acq = false → r = 13
  k4 : isId x.id = true → isName x.ins = true → dayOK x.acq = true → dayOK x.opn = false → r = 13
  k5 : isId x.id = true → isName x.ins = true → dayOK x.acq = true → dayOK x.opn = true → x.opn < x.acq → r = 8
  k6 : isId x.id = true → isName x.ins = true → dayOK x.acq = true → dayOK x.opn = true → ¬ x.opn < x.acq → (checkI x.q ≠ 0 ∨ checkI x.c ≠ 0 ∨ checkI x.u ≠ 0) → r = 1
  k7 : isId x.id = true → isName x.ins = true → dayOK x.acq = true → dayOK x.opn = true → ¬ x.opn < x.acq → ¬ (checkI x.q ≠ 0 ∨ checkI x.c ≠ 0 ∨ checkI x.u ≠ 0) → (valI x.q ≤ 0 ∨ valI x.c < 0 ∨ (x.u ≠ [] ∧ x.u ≠ x.q)) → r = 2
  k8 : isId x.id = true → isName x.ins = true → dayOK x.acq = true → dayOK x.opn = true → ¬ x.opn < x.acq → ¬ (checkI x.q ≠ 0 ∨ checkI x.c ≠ 0 ∨ checkI x.u ≠ 0) → ¬ (valI x.q ≤ 0 ∨ valI x.c < 0 ∨ (x.u ≠ [] ∧ x.u ≠ x.q)) → r = 0
theorem ckL (x : LotV) : CkL x (checkL x) := by
  unfold checkL
  constructor
  · intro h; simp [h]
  · intro h1 h2; simp [h1, h2]
  · intro h1 h2 h3; simp [h1, h2, h3]
  · intro h1 h2 h3 h4; simp [h1, h2, h3, h4]
  · intro h1 h2 h3 h4 h5; simp [h1, h2, h3, h4, h5]
  · intro h1 h2 h3 h4 h5 h6; rw [if_neg (by simp [h1, h2]), if_neg (by simp [h3, h4]), if_neg h5, if_pos h6]
  · intro h1 h2 h3 h4 h5 h6 h7; rw [if_neg (by simp [h1, h2]), if_neg (by simp [h3, h4]), if_neg h5, if_neg h6, if_pos h7]
  · intro h1 h2 h3 h4 h5 h6 h7; rw [if_neg (by simp [h1, h2]), if_neg (by simp [h3, h4]), if_neg h5, if_neg h6, if_neg h7]
theorem sl3 {w w' : World} {g : Nat} {a b c : Value} (h : Blk w g 23 #[a, b, c]) (hx : Ext w w') : w'.cell? ⟨g, 0, none⟩ = some a ∧ w'.cell? ⟨g, 1, none⟩ = some b ∧ w'.cell? ⟨g, 2, none⟩ = some c := by
  have k := h.ext hx
  have h0 := k.cell 0
  have h1 := k.cell 1
  have h2 := k.cell 2
  simp only [List.getElem?_toArray, List.getElem?_cons_zero, List.getElem?_cons_succ] at h0 h1 h2
  exact ⟨h0, h1, h2⟩
set_option maxRecDepth 100000 in
set_option maxHeartbeats 4000000 in
theorem lotCheck (x : LotV) (hs : SmallL x) : Pure 77 #[lv x] (.int .i64 (checkL x)) := by
  intro w hE
  obtain ⟨s1, s2, s3, s4, s5⟩ := hs
  have HE := Lib.hid hE
  have HK := Lib.hid (ckL x)
  generalize checkL x = r at *
  have H1 := Lib.hid (lotIsId x.id (by omega))
  have H2 := Lib.hid (fun W => insName x.ins W (by omega))
  have H3 := Lib.hid (checkP x.q (by omega))
  have H4 := Lib.hid (checkP x.c (by omega))
  have H5 := Lib.hid (checkP x.u (by omega))
  have H6 := Lib.hid (cmp0P x.q (by omega))
  have H7 := Lib.hid (cmp0P x.c (by omega))
  clear hE s1 s2 s3 s4 s5
  have HB := Lib.hid (Blk.new w 50 (lc x))
  have HX : Hid (Ext w (w.alloc (.cells (lc x) 50))) := Lib.hid (Ext.new _ _)
  obtain ⟨xi, xn, xa, xo, xq, xc, xu⟩ := x
  simp only at *
  go_enter Tryz.func77, Tryz.ntmps77
  go_wp2_with fail
  refine (H1.out _ (HE.out.ext HX.out)).mono ?_
  rintro e w1 ⟨rfl, hx1⟩
  obtain ⟨p0, p1, p2, p3, p4, p5, p6⟩ := lotBlk HB.out hx1
  replace HB := Lib.hid (HB.out.ext hx1)
  replace HX := Lib.hid (HX.out.trans hx1)
  clear hx1
  cases hb1 : isId xi
  · have HR := Lib.hid (HK.out.k1 hb1)
    clear hb1 HK
    go_wp2_with fail
    go_ret
    exact ⟨by rw [HR.out]; rfl, HX.out⟩
  · have B1 := Lib.hid hb1
    clear hb1
    go_wp2_with fail
    refine (H2.out _).mono ?_
    rintro e w2 ⟨rfl, hx1⟩
    obtain ⟨p0, p1, p2, p3, p4, p5, p6⟩ := lotBlk HB.out hx1
    replace HB := Lib.hid (HB.out.ext hx1)
    replace HX := Lib.hid (HX.out.trans hx1)
    clear hx1
    cases hb2 : isName xn
    · have HR := Lib.hid (HK.out.k2 B1.out hb2)
      clear hb2 HK
      go_wp2_with fail
      go_ret
      exact ⟨by rw [HR.out]; rfl, HX.out⟩
    · have B2 := Lib.hid hb2
      clear hb2
      go_wp2_with fail
      refine (lotValid xa _).mono ?_
      rintro e w3 ⟨rfl, rfl⟩
      cases hb3 : dayOK xa
      · have HR := Lib.hid (HK.out.k3 B1.out B2.out hb3)
        clear hb3 HK
        go_wp2_with fail
        go_ret
        exact ⟨by rw [HR.out]; rfl, HX.out⟩
      · have B3 := Lib.hid hb3
        clear hb3
        go_wp2_with fail
        refine (lotValid xo _).mono ?_
        rintro e w4 ⟨rfl, rfl⟩
        cases hb4 : dayOK xo
        · have HR := Lib.hid (HK.out.k4 B1.out B2.out B3.out hb4)
          clear hb4 HK
          go_wp2_with fail
          go_ret
          exact ⟨by rw [HR.out]; rfl, HX.out⟩
        · have B4 := Lib.hid hb4
          clear hb4
          by_cases hb5 : xo < xa
          · have HR := Lib.hid (HK.out.k5 B1.out B2.out B3.out B4.out hb5)
            have g5 : decide (xo < xa) = true := by simpa using hb5
            clear HK
            go_wp2_with fail
            go_ret
            exact ⟨by rw [HR.out]; rfl, HX.out⟩
          · have B5 := Lib.hid hb5
            have g5 : decide (xo < xa) = false := by simpa using hb5
            have HS := Lib.hid (Blk.new w2 23 #[.string (bs xq), .string (bs xc), .string (bs xu)])
            go_wp2_with fail
            have HXW : Hid (Ext w2 (w2.alloc (.cells #[.string (bs xq), .string (bs xc), .string (bs xu)] 23))) := Lib.hid (Ext.new _ _)
            replace HB := Lib.hid (HB.out.ext HXW.out)
            replace HX := Lib.hid (HX.out.trans HXW.out)
            clear HXW
            generalize hgs : w2.heap.size = gs at *
            generalize w2.alloc (.cells #[.string (bs xq), .string (bs xc), .string (bs xu)] 23) = W2 at *
            clear hgs
            obtain ⟨s0, s1, s2⟩ := sl3 HS.out (Ext.refl W2)
            refine wp_loop_rounds 4 ?_
            rw [rounds_succ]
            go_wp2_with fail
            refine (H3.out _ (HE.out.ext HX.out)).mono ?_
            rintro e w5 ⟨rfl, hx1⟩
            obtain ⟨p0, p1, p2, p3, p4, p5, p6⟩ := lotBlk HB.out hx1
            replace HB := Lib.hid (HB.out.ext hx1)
            obtain ⟨s0, s1, s2⟩ := sl3 HS.out hx1
            replace HS := Lib.hid (HS.out.ext hx1)
            replace HX := Lib.hid (HX.out.trans hx1)
            clear hx1
            by_cases hq : checkI xq = 0
            · rw [hq]
              have Q1 := Lib.hid hq
              clear hq
              go_wp2_with fail
              rw [rounds_succ]
              go_wp2_with fail
              refine (H4.out _ (HE.out.ext HX.out)).mono ?_
              rintro e w6 ⟨rfl, hx1⟩
              obtain ⟨p0, p1, p2, p3, p4, p5, p6⟩ := lotBlk HB.out hx1
              replace HB := Lib.hid (HB.out.ext hx1)
              obtain ⟨s0, s1, s2⟩ := sl3 HS.out hx1
              replace HS := Lib.hid (HS.out.ext hx1)
              replace HX := Lib.hid (HX.out.trans hx1)
              clear hx1
              by_cases hc : checkI xc = 0
              · rw [hc]
                have Q2 := Lib.hid hc
                clear hc
                go_wp2_with fail
                rw [rounds_succ]
                go_wp2_with fail
                refine (H5.out _ (HE.out.ext HX.out)).mono ?_
                rintro e w7 ⟨rfl, hx1⟩
                obtain ⟨p0, p1, p2, p3, p4, p5, p6⟩ := lotBlk HB.out hx1
                replace HB := Lib.hid (HB.out.ext hx1)
                obtain ⟨s0, s1, s2⟩ := sl3 HS.out hx1
                replace HS := Lib.hid (HS.out.ext hx1)
                replace HX := Lib.hid (HX.out.trans hx1)
                clear hx1
                by_cases hu : checkI xu = 0
                · rw [hu]
                  have Q3 := Lib.hid hu
                  clear hu
                  go_wp2_with fail
                  rw [rounds_succ]
                  have HQ : Hid (¬ (checkI xq ≠ 0 ∨ checkI xc ≠ 0 ∨ checkI xu ≠ 0)) := Lib.hid (by
                    rintro (h | h | h)
                    · exact h Q1.out
                    · exact h Q2.out
                    · exact h Q3.out)
                  have HK7 := Lib.hid (HK.out.k7 B1.out B2.out B3.out B4.out (Int.not_lt.2 B5.out) HQ.out)
                  have HK8 := Lib.hid (HK.out.k8 B1.out B2.out B3.out B4.out (Int.not_lt.2 B5.out) HQ.out)
                  clear HK hb5 g5 HQ
                  go_wp2_with fail
                  refine (H6.out _ (HE.out.ext HX.out)).mono ?_
                  rintro e w8 ⟨rfl, hx1⟩
                  obtain ⟨p0, p1, p2, p3, p4, p5, p6⟩ := lotBlk HB.out hx1
                  replace HB := Lib.hid (HB.out.ext hx1)
                  replace HX := Lib.hid (HX.out.trans hx1)
                  clear hx1
                  by_cases hv : valI xq ≤ 0
                  · have g7 : decide (cmpI (valI xq) 0 ≤ 0) = true := by
                      rw [decide_eq_true_iff]; have := cmpI_pos (x := valI xq) (y := 0); omega
                    have HR := Lib.hid (HK7.out (.inl hv))
                    generalize cmpI (valI xq) 0 = cc at *
                    clear hv HK7 HK8
                    go_wp2_with fail
                    go_ret
                    exact ⟨by rw [HR.out]; rfl, HX.out⟩
                  · have g7 : decide (cmpI (valI xq) 0 ≤ 0) = false := by
                      rw [decide_eq_false_iff_not]; have := cmpI_pos (x := valI xq) (y := 0); omega
                    generalize cmpI (valI xq) 0 = cc at *
                    have V1 := Lib.hid hv
                    clear hv
                    go_wp2_with fail
                    refine (H7.out _ (HE.out.ext HX.out)).mono ?_
                    rintro e w9 ⟨rfl, hx1⟩
                    obtain ⟨p0, p1, p2, p3, p4, p5, p6⟩ := lotBlk HB.out hx1
                    replace HB := Lib.hid (HB.out.ext hx1)
                    replace HX := Lib.hid (HX.out.trans hx1)
                    clear hx1
                    by_cases hv2 : valI xc < 0
                    · have g8 : decide (cmpI (valI xc) 0 < 0) = true := by rw [decide_eq_true_iff, cmpI_neg]; exact hv2
                      have HR := Lib.hid (HK7.out (.inr (.inl hv2)))
                      generalize cmpI (valI xc) 0 = cd at *
                      clear hv2 HK7 HK8
                      go_wp2_with fail
                      go_ret
                      exact ⟨by rw [HR.out]; rfl, HX.out⟩
                    · have g8 : decide (cmpI (valI xc) 0 < 0) = false := by rw [decide_eq_false_iff_not, cmpI_neg]; exact hv2
                      generalize cmpI (valI xc) 0 = cd at *
                      have V2 := Lib.hid hv2
                      clear hv2
                      by_cases hu0 : xu = []
                      · have g9 : (!xu.isEmpty) = false := by rw [hu0]; rfl
                        have HR := Lib.hid (HK8.out (by
                          rintro (h | h | h)
                          · have := V1.out; omega
                          · have := V2.out; omega
                          · exact h.1 hu0))
                        clear hu0 HK7 HK8
                        go_wp2_with fail
                        go_ret
                        exact ⟨by rw [HR.out]; rfl, HX.out⟩
                      · have g9 : (!xu.isEmpty) = true := by simpa using hu0
                        by_cases hu1 : xu = xq
                        · have g10 : (xu != xq) = false := by rw [bne_eq_false_iff_eq]; exact hu1
                          have g11 : (xu == xq) = true := by rw [beq_iff_eq]; exact hu1
                          have HR := Lib.hid (HK8.out (by
                            rintro (h | h | h)
                            · have := V1.out; omega
                            · have := V2.out; omega
                            · exact h.2 hu1))
                          clear hu0 hu1 HK7 HK8
                          go_wp2_with fail
                          go_ret
                          exact ⟨by rw [HR.out]; rfl, HX.out⟩
                        · have g10 : (xu != xq) = true := by rw [bne_iff_ne]; exact hu1
                          have g11 : (xu == xq) = false := by rw [beq_eq_false_iff_ne]; exact hu1
                          have HR := Lib.hid (HK7.out (.inr (.inr ⟨hu0, hu1⟩)))
                          clear hu0 hu1 HK7 HK8
                          go_wp2_with fail
                          go_ret
                          exact ⟨by rw [HR.out]; rfl, HX.out⟩
                · have HR := Lib.hid (HK.out.k6 B1.out B2.out B3.out B4.out (Int.not_lt.2 B5.out) (.inr (.inr hu)))
                  have g6 : (checkI xu != 0) = true := by rw [bne_iff_ne]; exact hu
                  clear HK hu hb5
                  go_wp2_with fail
                  go_ret
                  exact ⟨by rw [HR.out]; rfl, HX.out⟩
              · have HR := Lib.hid (HK.out.k6 B1.out B2.out B3.out B4.out (Int.not_lt.2 B5.out) (.inr (.inl hc)))
                have g6 : (checkI xc != 0) = true := by rw [bne_iff_ne]; exact hc
                clear HK hc hb5
                go_wp2_with fail
                go_ret
                exact ⟨by rw [HR.out]; rfl, HX.out⟩
            · have HR := Lib.hid (HK.out.k6 B1.out B2.out B3.out B4.out (Int.not_lt.2 B5.out) (.inl hq))
              have g6 : (checkI xq != 0) = true := by rw [bne_iff_ne]; exact hq
              clear HK hq hb5
              go_wp2_with fail
              go_ret
              exact ⟨by rw [HR.out]; rfl, HX.out⟩
end Go.Proofs.YtikehdbkiplleaaGreatDoor

/- A range over a function whose iterator keeps its state in cells of its own (a captured variable): one round as a step of the iterator's walk, and the statement. -/
namespace Go.Proofs.YtikehdbkiplleaaGreatDoor
open Go Go.RowKit Go.Shelf

section
variable {F : Fence} {n m : Nat} {P : Program}

/-- how a round of the loop with the record 'rec' in block l may be left: off its end, or by 'return' -/
def roundEnds (l : Nat) (rec : Loop) (R : Ending → World → Prop) : Exit → Act → World → Prop
  | .normal, _, W => W.heap[l]? = some (.loop { rec with state := .busy }) ∧ R (.returned (.bool true)) (W.putObj l (.loop { rec with state := .ready, pending := none }))
  | .ret, _, W => W.heap[l]? = some (.loop { rec with state := .busy }) ∧ R (.returned (.bool false)) (W.putObj l (.loop { rec with state := .done, pending := some .ret }))
  | .exit _, _, _ => False
  | .goto _, _, _ => False
  | .panic _, _, _ => False
  | .outgrown, _, _ => False

/-- ONE ROUND, as the iterator's walk meets it at its call of yield -/
theorem yield_round {l : Nat} {rec : Loop} {args : Array Value} {W : World} {R : Ending → World → Prop} (hl : W.heap[l]? = some (.loop rec)) (hs : rec.state = .ready) (hps : args.size = rec.params.size) (hfn : F.fn rec.fn)
    (h : rec.assign.wpIn (F.inRound l) m P (Exit.then (fun a1 Wa => Wa.heap[l]? = some (.loop rec) ∧ rec.body.wpIn (F.inRound l) m P (roundEnds l rec R) a1 (Wa.putObj l (.loop { rec with state := .busy }))) (fun _ _ _ => False))
      { tmps := (rec.params.zip args).foldl (fun tmps (t, a) => tmps.setIfInBounds t a) rec.tmps, defers := [] } W) :
    YieldAt F m P l args W R := by
  refine ⟨_, _, _, _, run_yield hl hps, roundIn_of_wpIn hfn (wpIn_mono h ?_)⟩
  intro e a1 Wa hp
  cases e with
  | normal =>
    obtain ⟨hla, hb⟩ := hp
    refine ⟨_, run_beginRound hla hs, wpIn_mono hb ?_⟩
    intro e a2 W2 hq
    cases e with
    | normal =>
      obtain ⟨h2, hR⟩ := hq
      exact ⟨_, _, run_endRound none h2, hR⟩
    | ret =>
      obtain ⟨h2, hR⟩ := hq
      exact ⟨_, _, run_endRound (some .ret) h2, hR⟩
    | exit id => exact hq.elim
    | goto t => exact hq.elim
    | panic c => exact hq.elim
    | outgrown => exact hq.elim
  | ret => exact hp.elim
  | exit id => exact hp.elim
  | goto t => exact hp.elim
  | panic c => exact hp.elim
  | outgrown => exact hp.elim

/-- the same, the record's parts as letters -/
theorem yield_round' {l : Nat} {rec : Loop} {args : Array Value} {W : World} {R : Ending → World → Prop} (hl : W.heap[l]? = some (.loop rec)) (hs : rec.state = .ready) (hps : args.size = rec.params.size) (hfn : F.fn rec.fn)
    {assign body : Code} {tmps tmps0 : Array Value} {ps : Array Tmp} (ha : rec.assign = assign) (hb : rec.body = body) (hp : rec.params = ps) (ht0 : rec.tmps = tmps0) (ht : (ps.zip args).foldl (fun tmps (t, a) => tmps.setIfInBounds t a) tmps0 = tmps) {rb : Loop} (hrb : { rec with state := .busy } = rb)
    (h : assign.wpIn (F.inRound l) m P (Exit.then (fun a1 Wa => Wa.heap[l]? = some (.loop rec) ∧ body.wpIn (F.inRound l) m P (roundEnds l rec R) a1 (Wa.putObj l (.loop rb))) (fun _ _ _ => False)) { tmps, defers := [] } W) :
    YieldAt F m P l args W R := by
  subst ha; subst hb; subst hp; subst ht0; subst ht; subst hrb
  exact yield_round hl hs hps hfn h

/-- the record that the statement lays -/
def recOf (fn : FuncId) (a : Act) (ps : Array Tmp) (assign body : Code) (D : Nat) : Loop := { state := .ready, pending := none, fn, tmps := a.tmps, params := ps, assign, body, defers := D }

/-- THE STATEMENT: what is owed is the iterator's call, with the record laid; it ends with the record ready (all have come) or done (a round has returned). -/
theorem range_outer {g : Operand} {ps : Array Tmp} {assign body : Code} {Q : Exit → Act → World → Prop} {a : Act} {w : World} (hro : F.round = none) (h1 : 1 ≤ n) {gf : Nat} {lb : Array Value}
    (hg : a.eval g = .func (.func gf) #[] lb) (hFg : F.fn gf) (eg : ∀ args w, (callFunc gf args).run P w = .ok (.enter gf args) w)
    (h : ∀ fn, F.fn fn → CallsIn F (n - 1) P gf (#[.func (.yield (w.heap.size + 1)) #[] #[]] ++ lb) ((w.alloc (.deferred (some []))).alloc (.loop (recOf fn a ps assign body w.heap.size)))
      (fun e W => (∃ v, e = .returned v) ∧
        ((W.heap[w.heap.size + 1]? = some (.loop (recOf fn a ps assign body w.heap.size)) ∧ Q .normal { a with defers := { target := .collected w.heap.size, args := #[] } :: a.defers } (W.putObj (w.heap.size + 1) (.loop { recOf fn a ps assign body w.heap.size with state := .exhausted }))) ∨
         (W.heap[w.heap.size + 1]? = some (.loop { recOf fn a ps assign body w.heap.size with state := .done, pending := some .ret }) ∧ Code.ret.wpIn F n P Q { a with defers := { target := .collected w.heap.size, args := #[] } :: a.defers } (W.putObj (w.heap.size + 1) (.loop { recOf fn a ps assign body w.heap.size with state := .exhausted, pending := some .ret })))))) :
    (Code.rangeFunc g ps assign body).wpIn F n P Q a w := by
  refine wpIn_rangeFunc ?_
  intro fn hfn
  rw [hro]
  obtain ⟨W1, hW1⟩ : ∃ W1, (w.alloc (.deferred (some []))).alloc (.loop (recOf fn a ps assign body w.heap.size)) = W1 := ⟨_, rfl⟩
  refine ⟨w.heap.size + 1, [{ target := .collected w.heap.size, args := #[] }], W1, { target := .fn (.func gf) lb, args := #[.func (.yield (w.heap.size + 1)) #[] #[]] }, W1, gf,
    #[.func (.yield (w.heap.size + 1)) #[] #[]] ++ lb, W1, ?_, ?_, ?_, ?_, fun _ => h1, ?_⟩
  · rw [← hW1]; exact run_enterLoop_outer _ _ _ _ _
  · simp only [resolve, hg]
    simp [go_sem]
  · intro f' hf'; simp [Target.leads] at hf'; subst hf'; exact hFg
  · simp [invoke, go_sem, eg]
  · rw [← hW1]
    refine (h fn hfn).mono ?_
    rintro e W ⟨⟨v, rfl⟩, (⟨hl, hq⟩ | ⟨hl, hq⟩)⟩
    · exact ⟨none, _, run_endLoop hl (by simp [recOf]), hq⟩
    · exact ⟨some .ret, _, run_endLoop hl (by simp), hq⟩

/-- the same, the record, its block and the world as letters -/
theorem range_outer' {g : Operand} {ps : Array Tmp} {assign body : Code} {Q : Exit → Act → World → Prop} {a : Act} {w : World} (hro : F.round = none) (h1 : 1 ≤ n) {gf : Nat} {lb : Array Value} (D : Nat) (hD : w.heap.size = D)
    (hg : a.eval g = .func (.func gf) #[] lb) (hFg : F.fn gf) (eg : ∀ args w, (callFunc gf args).run P w = .ok (.enter gf args) w)
    (h : ∀ fn rec W1, rec = recOf fn a ps assign body D → W1 = (w.alloc (.deferred (some []))).alloc (.loop rec) → F.fn fn → CallsIn F (n - 1) P gf (#[.func (.yield (D + 1)) #[] #[]] ++ lb) W1
      (fun e W => (∃ v, e = .returned v) ∧
        ((W.heap[D + 1]? = some (.loop rec) ∧ Q .normal { a with defers := { target := .collected D, args := #[] } :: a.defers } (W.putObj (D + 1) (.loop { rec with state := .exhausted }))) ∨
         (W.heap[D + 1]? = some (.loop { rec with state := .done, pending := some .ret }) ∧ Code.ret.wpIn F n P Q { a with defers := { target := .collected D, args := #[] } :: a.defers } (W.putObj (D + 1) (.loop { rec with state := .exhausted, pending := some .ret })))))) :
    (Code.rangeFunc g ps assign body).wpIn F n P Q a w := by
  subst hD
  exact range_outer hro h1 hg hFg eg (fun fn hfn => h fn _ _ rfl rfl hfn)
end
end Go.Proofs.YtikehdbkiplleaaGreatDoor

/- A range over a function: small laws on the blocks that it lays. -/
namespace Go.Proofs.YtikehdbkiplleaaGreatDoor
open Go.RowKit

theorem Ext.putObj {a b : World} (h : Ext a b) {r : Nat} (hr : a.heap.size ≤ r) (o : Obj) : Ext a (b.putObj r o) :=
  ⟨h.os, h.tape, h.output, by have := h.size; simpa using this, fun i hi => (World.putObj_heap_other (by omega)).trans (h.block i hi)⟩
theorem Blk.put {w : World} {g : Nat} {t : TypeId} {cs : Array Value} {l : Nat} (h : Blk w g t cs) (o : Obj) (hne : g ≠ l) : Blk (w.putObj l o) g t cs := (World.putObj_heap_other (by omega)).trans h
theorem Blk.newAt (w : World) (t : TypeId) (cs : Array Value) (g : Nat) (hg : w.heap.size = g) : Blk (w.alloc (.cells cs t)) g t cs := by subst hg; exact Blk.new w t cs
theorem newAt (w : World) (o : Obj) (g : Nat) (hg : w.heap.size = g) : (w.alloc o).heap[g]? = some o := by subst hg; exact heap_alloc_new w o
theorem oldAt {w : World} {o o' : Obj} {g : Nat} (h : w.heap[g]? = some o) : (w.alloc o').heap[g]? = some o := (Below.heap_alloc w o' g (Array.getElem?_eq_some_iff.1 h).1).trans h
theorem dfar {W : World} {d g i : Nat} {o : Obj} {u : Value} (h : W.heap[d]? = some o) (hne : d ≠ g) : (W.setCell ⟨g, i, none⟩ u).heap[d]? = some o := (Below.heap_setCell W ⟨g, i, none⟩ u d hne).trans h
theorem drew_heap {W : World} {d : Nat} {o : Obj} (h : W.heap[d]? = some o) : W.drew.heap[d]? = some o := h
theorem ext_heap {W W' : World} {d : Nat} {o : Obj} (h : W.heap[d]? = some o) (hx : Ext W W') : W'.heap[d]? = some o := (hx.block d (Array.getElem?_eq_some_iff.1 h).1).trans h
theorem put_heap {W : World} {d l : Nat} {o o' : Obj} (h : W.heap[d]? = some o) (hne : d ≠ l) : (W.putObj l o').heap[d]? = some o := (World.putObj_heap_other (by omega)).trans h
theorem zip1 (p : Tmp) (x : Value) (T : Array Value) : ((#[p] : Array Tmp).zip #[x]).foldl (fun tmps (t, a) => tmps.setIfInBounds t a) T = T.setIfInBounds p x := by simp [Array.zip]
theorem zip2 (p q : Tmp) (x y : Value) (T : Array Value) : ((#[p, q] : Array Tmp).zip #[x, y]).foldl (fun tmps (t, a) => tmps.setIfInBounds t a) T = (T.setIfInBounds p x).setIfInBounds q y := by simp [Array.zip]
theorem Reads.put {w : World} {size n : Nat} {A : Option Addr} {xs : List Value} (h : Reads w size A n xs) {l : Nat} {o : Obj} (hl : w.heap[l]? = some o) (ho : ∀ cs t z, o ≠ .cells cs t z) (h0 : 0 < xs.length) (o' : Obj) : Reads (w.putObj l o') size A n xs := by
  refine ⟨h.1, fun hn => ?_⟩
  obtain ⟨b, off, rfl, hb, hc⟩ := h.2 hn
  have hne : b ≠ l := by
    rintro rfl
    have h1 := hc 0 (xs[0]'h0) (List.getElem?_eq_getElem h0)
    unfold World.cell? at h1
    simp only [hl] at h1
    cases o <;> simp_all
  refine ⟨b, off, rfl, by simpa using hb, fun j u hu => ?_⟩
  rw [← hc j u hu]
  unfold World.cell?
  rw [World.putObj_heap_other (by simpa using hne)]
end Go.Proofs.YtikehdbkiplleaaGreatDoor

/- Lots in memory, and a map of ids. -/
namespace Go.Proofs.YtikehdbkiplleaaGreatDoor
open Go.RowKit Go.Shelf
attribute [local go_sem] size_bs toList_bs

theorem lotCells_len (x : LotV) : (lotCells x).length = 7 := rfl
/-- a slice that reads as lots -/
def RdL (w : World) (A : Option Addr) (ls : List LotV) : Prop := Reads w 7 A ls.length (ls.flatMap lotCells)
theorem RdL.ext {w w' : World} {A : Option Addr} {ls : List LotV} (h : RdL w A ls) (he : Ext w w') : RdL w' A ls := Reads.ext h he
theorem RdL.at_ {w : World} {A : Option Addr} {ls : List LotV} (h : RdL w A ls) {k : Nat} (hk : k < ls.length) :
    ∃ b o, A = some ⟨b, o, none⟩ ∧ b < w.heap.size ∧ w.cell? ⟨b, o + k * 7, none⟩ = some (.string (bs (ls[k]'hk).id)) ∧ w.cell? ⟨b, o + k * 7 + 1, none⟩ = some (.string (bs (ls[k]'hk).ins)) ∧ w.cell? ⟨b, o + k * 7 + 2, none⟩ = some (.int .i64 (ls[k]'hk).acq) ∧ w.cell? ⟨b, o + k * 7 + 3, none⟩ = some (.int .i64 (ls[k]'hk).opn) ∧
      w.cell? ⟨b, o + k * 7 + 4, none⟩ = some (.string (bs (ls[k]'hk).q)) ∧ w.cell? ⟨b, o + k * 7 + 5, none⟩ = some (.string (bs (ls[k]'hk).c)) ∧ w.cell? ⟨b, o + k * 7 + 6, none⟩ = some (.string (bs (ls[k]'hk).u)) := by
  obtain ⟨b, o, rfl, hb⟩ := Reads.at_ h (by omega)
  have key : ∀ j (_ : j < 7), w.cell? ⟨b, o + k * 7 + j, none⟩ = (lotCells (ls[k]'hk))[j]? := fun j hj => by
    have h1 := flat_at lotCells 7 lotCells_len ls k j hk hj
    have hl : j < (lotCells (ls[k]'hk)).length := by rw [lotCells_len]; exact hj
    rw [List.getElem?_eq_getElem hl] at h1 ⊢
    have h2 := Reads.cell h h1
    rw [← Nat.add_assoc] at h2
    exact h2
  exact ⟨b, o, rfl, hb, key 0 (by decide), key 1 (by decide), key 2 (by decide), key 3 (by decide), key 4 (by decide), key 5 (by decide), key 6 (by decide)⟩
section
variable {P : Program} {w : World}
theorem run_ins (mty kt et : TypeId) (r clock : Nat) (es : Array MapEntry) (s : ByteArray) (val : Value) (hm : P.underlying mty = some (.map kt et)) (hk : P.underlying kt = some .string) (hb : w.heap[r]? = some (.map es clock))
    (hf : Instr.findNow .string (.string s) es.toList 0 = some none) :
    (Instr.mapUpdate mty (.map (some r)) (.string s) val).run P w = .ok () (w.putObj r (.map (es.push { key := .string s, val := val, born := clock }) (clock + 1))) := by
  have hc : (Instr.checkKey false 10000 kt (.string s)).run P w = .ok () w := MapKept.run_checkKey (k := .string s) hk (by simp [MapKept.IsKey]) false 9999
  simp [Instr.mapUpdate, run_underlying hm, MapKept.run_getObj_map hb, hc, MapKept.run_findKey hk hf, MapKept.run_setObj_map _ hb, Result.andThen, World.putObj]
theorem run_look (mty kt et : TypeId) (r clock : Nat) (es : Array MapEntry) (s : ByteArray) (i : Nat) (val : Value) (hm : P.underlying mty = some (.map kt et)) (hk : P.underlying kt = some .string) (hb : w.heap[r]? = some (.map es clock))
    (hf : Instr.findNow .string (.string s) es.toList 0 = some (some (i, val))) :
    (Instr.lookup mty (.map (some r)) (.string s) false).run P w = .ok val w := by
  have hc : (Instr.checkKey es.isEmpty 10000 kt (.string s)).run P w = .ok () w := MapKept.run_checkKey (k := .string s) hk (by simp [MapKept.IsKey]) es.isEmpty 9999
  simp [Instr.lookup, run_underlying hm, MapKept.run_getObj_map hb, hc, MapKept.run_findKey hk hf, Result.andThen]
theorem run_look_no (mty kt et : TypeId) (r clock : Nat) (es : Array MapEntry) (s : ByteArray) (z : Value) (hm : P.underlying mty = some (.map kt et)) (hk : P.underlying kt = some .string) (hb : w.heap[r]? = some (.map es clock))
    (hf : Instr.findNow .string (.string s) es.toList 0 = some none) (hz : (zeroValue et).run P w = .ok z w) :
    (Instr.lookup mty (.map (some r)) (.string s) false).run P w = .ok z w := by
  have hc : (Instr.checkKey es.isEmpty 10000 kt (.string s)).run P w = .ok () w := MapKept.run_checkKey (k := .string s) hk (by simp [MapKept.IsKey]) es.isEmpty 9999
  simp [Instr.lookup, run_underlying hm, MapKept.run_getObj_map hb, hc, MapKept.run_findKey hk hf, hz, Result.andThen]
end
/-- the entries of a set of ids -/
def entsL : List Bs → Nat → List MapEntry
  | [], _ => []
  | s :: r, i => { key := .string (bs s), val := .bool true, born := i } :: entsL r (i + 1)
theorem entsL_snoc (l : List Bs) (s : Bs) (i : Nat) : entsL (l ++ [s]) i = entsL l i ++ [{ key := .string (bs s), val := .bool true, born := i + l.length }] := by
  induction l generalizing i with
  | nil => rfl
  | cons a r ih => simp only [List.cons_append, entsL, ih, List.length_cons]; rw [show i + 1 + r.length = i + (r.length + 1) by omega]
theorem bs_beq (a b : Bs) : ((bs a : ByteArray) == bs b) = decide (a = b) := by
  rw [Bool.eq_iff_iff, MapKept.bytes_beq, decide_eq_true_iff]
  constructor
  · intro h; have := congrArg (fun b => b.data.toList) h; simpa [bs] using this
  · intro h; rw [h]
theorem find_in (s : Bs) : ∀ (l : List Bs) (i n : Nat), s ∈ l → ∃ k, Instr.findNow .string (.string (bs s)) (entsL l i) n = some (some (k, .bool true))
  | [], _, _, h => by simp at h
  | a :: r, i, n, h => by
    by_cases e : s = a
    · exact ⟨n, by simp [entsL, Instr.findNow, Instr.sameNow, bs_beq, e]⟩
    · obtain ⟨k, hk⟩ := find_in s r (i + 1) (n + 1) (by simpa [e] using h)
      exact ⟨k, by simp [entsL, Instr.findNow, Instr.sameNow, bs_beq, e, hk]⟩
theorem find_out (s : Bs) : ∀ (l : List Bs) (i n : Nat), s ∉ l → Instr.findNow .string (.string (bs s)) (entsL l i) n = some none
  | [], _, _, _ => rfl
  | a :: r, i, n, h => by
    have e : s ≠ a := by rintro rfl; simp at h
    have := find_out s r (i + 1) (n + 1) (by simp at h; exact h.2)
    simp [entsL, Instr.findNow, Instr.sameNow, bs_beq, e, this]
/-- a map that holds a set of ids -/
def IdsAt (W : World) (r : Nat) (ids : List Bs) : Prop := W.heap[r]? = some (.map (entsL ids 0).toArray ids.length)
end Go.Proofs.YtikehdbkiplleaaGreatDoor

/- Lots as arguments of a row, and the library's variables. -/
namespace Go.Proofs.YtikehdbkiplleaaGreatDoor
open Go.ChangeShapes Go.WideShapes Go.ChangeAt Go.RowKit Go.Deep Go.Joins

section
variable {P : Program} {w : World} {base : Nat} {spare : Nat → Bool} {held : Bool} {H : Type} {enc : TypeId × Value → H}
theorem open_lot {t t0 t1 t2 t3 t4 t5 t6 : TypeId} {n : Nat} {cs : List Value} {y : DataW H × List MemPlace} {f0 f1 f2 f3 f4 f5 f6 : Field} (hs : P.underlying t = some (.struct #[f0, f1, f2, f3, f4, f5, f6])) (hone : oneCellFields P #[f0, f1, f2, f3, f4, f5, f6] = true) (hC : P.cellsOf t = 7)
    (h0 : f0.type = t0) (h1 : f1.type = t1) (h2 : f2.type = t2) (h3 : f3.type = t3) (h4 : f4.type = t4) (h5 : f5.type = t5) (h6 : f6.type = t6)
    (u0 : P.underlying t0 = some .string) (u1 : P.underlying t1 = some .string) (u2 : P.underlying t2 = some (.int .i64)) (u3 : P.underlying t3 = some (.int .i64)) (u4 : P.underlying t4 = some .string) (u5 : P.underlying t5 = some .string) (u6 : P.underlying t6 = some .string) (h : DataW.trod enc P w base spare held n t cs = some y) :
    ∃ a : LotV, cs = lotCells a := by
  obtain ⟨xs, n, _, _, hlen, hl, hg⟩ := DataW.trod_struct hs h
  rw [hC] at hlen
  obtain ⟨o0, k0⟩ := hone_of hone 0 f0 rfl
  obtain ⟨o1, k1⟩ := hone_of hone 1 f1 rfl
  obtain ⟨o2, k2⟩ := hone_of hone 2 f2 rfl
  obtain ⟨o3, k3⟩ := hone_of hone 3 f3 rfl
  obtain ⟨o4, k4⟩ := hone_of hone 4 f4 rfl
  obtain ⟨o5, k5⟩ := hone_of hone 5 f5 rfl
  obtain ⟨o6, k6⟩ := hone_of hone 6 f6 rfl
  match cs, hlen, xs, hl with
  | [c0, c1, c2, c3, c4, c5, c6], _, [y0, y1, y2, y3, y4, y5, y6], _ =>
    have g0 := hg 0 f0 rfl
    rw [o0, k0, h0] at g0
    have g1 := hg 1 f1 rfl
    rw [o1, k1, h1] at g1
    have g2 := hg 2 f2 rfl
    rw [o2, k2, h2] at g2
    have g3 := hg 3 f3 rfl
    rw [o3, k3, h3] at g3
    have g4 := hg 4 f4 rfl
    rw [o4, k4, h4] at g4
    have g5 := hg 5 f5 rfl
    rw [o5, k5, h5] at g5
    have g6 := hg 6 f6 rfl
    rw [o6, k6, h6] at g6
    obtain ⟨s0, e0, _⟩ := DataW.trod_string u0 (x := y0) (by simpa using g0)
    obtain ⟨s1, e1, _⟩ := DataW.trod_string u1 (x := y1) (by simpa using g1)
    obtain ⟨s2, e2, _⟩ := DataW.trod_int u2 (x := y2) (by simpa using g2)
    obtain ⟨s3, e3, _⟩ := DataW.trod_int u3 (x := y3) (by simpa using g3)
    obtain ⟨s4, e4, _⟩ := DataW.trod_string u4 (x := y4) (by simpa using g4)
    obtain ⟨s5, e5, _⟩ := DataW.trod_string u5 (x := y5) (by simpa using g5)
    obtain ⟨s6, e6, _⟩ := DataW.trod_string u6 (x := y6) (by simpa using g6)
    simp at e0 e1 e2 e3 e4 e5 e6
    subst e0; subst e1; subst e2; subst e3; subst e4; subst e5; subst e6
    exact ⟨⟨L s0, L s1, s2, s3, L s4, L s5, L s6⟩, by simp [lotCells, bs_L]⟩
end
set_option maxRecDepth 100000 in
theorem list_small {H : Type} {P : Program} {t e : TypeId} {α : Type} {xs : List α} {d : DataW H} (ht : P.underlying t = some (.slice e)) (hb : 0 < P.bytesOf e) (hw : (d.weights P t).all (· ≤ reachBytes) = true) (hx : xs = [] ∨ ∃ el sp, d = .slice el sp ∧ el.length = xs.length) : xs.length ≤ 4611686018427387904 := by
  rcases hx with rfl | ⟨el, sp, rfl, hl⟩
  · simp
  · simp only [DataW.weights, ht, List.all_cons, Bool.and_eq_true, decide_eq_true_eq] at hw
    have h1 : el.length * 1 ≤ (el.length + sp.length) * P.bytesOf e := Nat.mul_le_mul (by omega) hb
    have h2 : reachBytes ≤ 4611686018427387904 := by decide
    omega
set_option maxRecDepth 100000 in
theorem open_lots {H : Type} {enc : TypeId × Value → H} {W : World} {r : Reach} {b0 base : Nat} {spare : Nat → Bool} {held : Bool} {v : Value} {d : DataW H} {p : List MemPlace} (hv : Value.okWide Tryz.prog W r b0 22 v) (h : DataW.Trod enc Tryz.prog W base spare held 22 v d p)
    (hw : (d.weights Tryz.prog 22).all (· ≤ reachBytes) = true) :
    ∃ (ls : List LotV) (A : Option Addr) (c : Nat), v = .slice A ls.length c ∧ RdL W A ls ∧ ls.length ≤ c ∧ ls.length ≤ 4611686018427387904 := by
  obtain ⟨a, n, c, rfl⟩ := okWide_slice Tryz.underlying22 hv
  obtain ⟨fuel, hf⟩ := h
  obtain ⟨A, c', ls, e, hr, hlc, hx⟩ := open_list (α := LotV) lotCells 7 (by decide) lotCells_len Tryz.underlying22 (by kernel_rfl) (fun n cs y hy => open_lot Tryz.underlying50 (by kernel_rfl) (by kernel_rfl) rfl rfl rfl rfl rfl rfl rfl Tryz.underlying9 Tryz.underlying9 Tryz.underlying48 Tryz.underlying48 Tryz.underlying23 Tryz.underlying23 Tryz.underlying23 hy) hf
  simp only [Value.cells, List.cons.injEq, and_true] at e
  rw [e]
  exact ⟨ls, A, c', rfl, hr, hlc, list_small Tryz.underlying22 (by rw [show Tryz.prog.bytesOf 50 = 96 by kernel_rfl]; decide) hw hx⟩
set_option maxRecDepth 100000 in
theorem open_lot1 {H : Type} {enc : TypeId × Value → H} {W : World} {r : Reach} {b0 base : Nat} {spare : Nat → Bool} {held : Bool} {v : Value} {d : DataW H} {p : List MemPlace} (hv : Value.okWide Tryz.prog W r b0 50 v) (h : DataW.Trod enc Tryz.prog W base spare held 50 v d p) :
    ∃ x : LotV, v = .agg #[.string (bs x.id), .string (bs x.ins), .int .i64 x.acq, .int .i64 x.opn, .string (bs x.q), .string (bs x.c), .string (bs x.u)] := by
  obtain ⟨cs, rfl, _⟩ := okWide_struct Tryz.underlying50 hv
  obtain ⟨fuel, hf⟩ := h
  obtain ⟨x, e⟩ := open_lot Tryz.underlying50 (by kernel_rfl) (by kernel_rfl) rfl rfl rfl rfl rfl rfl rfl Tryz.underlying9 Tryz.underlying9 Tryz.underlying48 Tryz.underlying48 Tryz.underlying23 Tryz.underlying23 Tryz.underlying23 hf
  refine ⟨x, ?_⟩
  simp only [Value.cells] at e
  rw [← Array.toList_inj.1 (e.trans (by simp [lotCells] : lotCells x = #[Value.string (bs x.id), .string (bs x.ins), .int .i64 x.acq, .int .i64 x.opn, .string (bs x.q), .string (bs x.c), .string (bs x.u)].toList))]
theorem own : ownKnob Tryz.prog.godebug = none := by kernel_rfl
theorem laidOut : laidOutB Tryz.prog = true := by kernel_rfl
theorem star : "*" ++ "errors.errorString" = "*errors.errorString" := by decide
theorem errRow (u : TypeId) (h : Tryz.prog.typeName? 3 u = some "*errors.errorString") : u = 222 :=
  typeName_ptr_named (nm := "errors.errorString") (by rw [star]; kernel_rfl) (by kernel_rfl) (by decide) u (by rw [star]; exact h)
theorem block_of_cell {w : World} {p : Addr} {u : Value} (h : w.cell? p = some u) : p.block < w.heap.size := by
  unfold World.cell? at h
  cases hb : w.heap[p.block]? with
  | none => simp [hb] at h
  | some o => exact (Array.getElem?_eq_some_iff.1 hb).1
set_option maxRecDepth 100000 in
/-- WHAT THE ROW's LIST AND THE WORLD's SHAPE GIVE -/
theorem env_of {W : World} {x y u : String × DataW Unit} {rest : List (String × DataW Unit)} (h : laidMet Tryz.prog (x :: y :: ("internal/strconv.uint64pow10", Rows.laid_internal_strconv_uint64pow10) :: u :: ("strconv.ErrRange", Rows.laid_strconv_ErrRange) :: ("strconv.ErrSyntax", Rows.laid_strconv_ErrSyntax) :: rest) W) (hsh : W.ShapedOpen Tryz.prog) : Env W := by
  have h1 : Lib.TabIs Tryz.prog W "internal/strconv.uint64pow10" .u64 Lib.pow10Tab :=
    Lib.tabIs_of_head (g := 2) (by kernel_rfl) (by kernel_rfl) Tryz.underlying210 Tryz.underlying114 (by kernel_rfl) (by kernel_rfl) h.tail.tail
  have h2 : ∃ m, W.cell? ⟨3, 0, none⟩ = some (.int .i64 m) :=
    cell_of_shapedOpen_int (zero := #[.int .i64 0]) hsh (by decide +kernel) (by kernel_rfl) (by kernel_rfl) (by kernel_rfl) (by kernel_rfl) Tryz.underlying3
  have h3 := h1.cell (g := 2) (by kernel_rfl) 0 (by decide)
  have gR : Tryz.prog.globalNamed "strconv.ErrRange" = some 1 := by kernel_rfl
  have gS : Tryz.prog.globalNamed "strconv.ErrSyntax" = some 0 := by kernel_rfl
  obtain ⟨a1, s1, v1, _, _, _⟩ := laid_sentinel h.tail.tail.tail.tail gR (by kernel_rfl) Tryz.underlying116 errRow Tryz.underlying222 Tryz.underlying224 rfl rfl Tryz.underlying9 (by kernel_rfl) (by kernel_rfl)
  obtain ⟨a2, s2, v2, _, _, _⟩ := laid_sentinel h.tail.tail.tail.tail.tail gS (by kernel_rfl) Tryz.underlying116 errRow Tryz.underlying222 Tryz.underlying224 rfl rfl Tryz.underlying9 (by kernel_rfl) (by kernel_rfl)
  refine ⟨h1, h2, ⟨block_of_cell h3, ?_⟩, ⟨_, World.var?_cell gS v2 0, .inr ⟨_, _, rfl⟩⟩, ⟨_, World.var?_cell gR v1 0, .inr ⟨_, _, rfl⟩⟩⟩
  obtain ⟨m, hm⟩ := h2
  exact block_of_cell hm
end Go.Proofs.YtikehdbkiplleaaGreatDoor

/- The walks over the program's lots of an instrument, and Total. -/
namespace Go.Proofs.YtikehdbkiplleaaGreatDoor
open Go.RowKit Go.Shelf
attribute [local go_sem] size_bs toList_bs Oper.semAt_some

theorem lotOf (A : Option Addr) (n c : Nat) (ins : Bs) (w : World) :
    Calls Tryz.prog 64 #[.slice A n c, .string (bs ins)] w fun e w' => e = .returned (.func (.func 108) #[] #[.pointer (some ⟨w.heap.size, 0, none⟩), .pointer (some ⟨w.heap.size + 1, 0, none⟩)]) ∧ w' = (w.alloc (.cells #[.slice A n c] 22)).alloc (.cells #[.string (bs ins)] 9) := by
  go_enter Tryz.func64, Tryz.ntmps64
  go_wp2_with fail
  go_ret
  exact ⟨rfl, rfl⟩
def YldEnds (J : Nat → World → Prop) (k : Nat) (e : Ending) (W' : World) : Prop := e = .returned (.bool true) ∧ J (k + 1) W'
set_option maxRecDepth 100000 in
set_option maxHeartbeats 2000000 in
/-- the lots of an instrument, one after the other: J k holds behind the first k lots -/
theorem lotOf1 (n l B : Nat) (w : World) (ls : List LotV) (A : Option Addr) (c : Nat) (ins : Bs) (hA : RdL w A ls) (hn : ls.length ≤ 1000000) (J : Nat → World → Prop)
    (hJ : ∀ k W, J k W → Ext w W ∧ Blk W B 22 #[.slice A ls.length c] ∧ Blk W (B + 1) 9 #[.string (bs ins)]) (hX : ∀ k W W', J k W → Ext W W' → J k W')
    (hY : ∀ k (hk : k < ls.length) W, (ls[k]'hk).ins = ins → J k W → YieldAt Fence.wide (n - 1) Tryz.prog l #[lv (ls[k]'hk)] W (YldEnds J k))
    (hS : ∀ k (hk : k < ls.length) W, (ls[k]'hk).ins ≠ ins → J k W → J (k + 1) W) (W : World) (h0 : J 0 W) :
    CallsIn Fence.wide n Tryz.prog 108 #[.func (.yield l) #[] #[], .pointer (some ⟨B, 0, none⟩), .pointer (some ⟨B + 1, 0, none⟩)] W fun e W' => (∃ v, e = .returned v) ∧ J ls.length W' := by
  have hfn : ∀ k, Fence.wide.fn k := fun _ => trivial
  have hdp : Fence.wide.depth.isSome = false := rfl
  have HA := Lib.hid hA
  have HJ := Lib.hid hJ
  have HX := Lib.hid hX
  have HY := Lib.hid hY
  have HS := Lib.hid hS
  have H0 := Lib.hid h0
  clear hA hJ hX hY hS h0
  obtain ⟨e0, b0, b1⟩ := HJ.out 0 W H0.out
  have q0 := b0.cell 0
  simp only [List.getElem?_toArray, List.getElem?_cons_zero] at q0
  clear e0 b0 b1
  refine callsIn_of_wp Tryz.func108 rfl trivial ?_ rfl
  simp only [Tryz.ntmps108, List.size_toArray, List.length_cons, List.length_nil, Nat.reduceAdd, Nat.reduceSub, Array.replicate_succ, Array.replicate_zero, List.push_toArray, List.append_toArray, List.nil_append, List.cons_append]
  gi_wp2
  gi_loopw [8, 5] (fun i _ wr => ∃ k : Nat, k ≤ ls.length ∧ i = .int .i64 k ∧ J k wr) (fun i _ _ => ls.length - (intOf i).toNat)
  case atStart => exact ⟨0, by omega, rfl, H0.out⟩
  case round =>
    clear H0 q0
    obtain ⟨k, hk, rfl, h⟩ := hrel
    obtain ⟨hx, b0, b1⟩ := HJ.out k wr h
    by_cases hlt : k < ls.length
    · obtain ⟨b, o, rfl, hb, c0, c1, c2, c3, c4, c5, c6⟩ := (HA.out.ext hx).at_ hlt
      have HN := Lib.hid (HX.out k wr (wr.alloc (.cells (lc (ls[k]'hlt)) 50)) h (Ext.new _ _))
      have q1 := (b1.alloc (.cells (lc (ls[k]'hlt)) 50)).cell 0
      have hlb := b1.lt
      simp only [List.getElem?_toArray, List.getElem?_cons_zero] at q1
      by_cases hin : (ls[k]'hlt).ins = ins
      · obtain ⟨fn, tmps, assign, body, hy, hR⟩ := HY.out k hlt _ hin HN.out
        have hbin : ((ls[k]'hlt).ins == ins) = true := by rw [beq_iff_eq]; exact hin
        have HR := Lib.hid hR
        clear hR hin h hx b0 b1 HN
        generalize ls[k]'hlt = x at *
        obtain ⟨xi, xn, xa, xo, xq, xc, xu⟩ := x
        gi_wp2
        refine HR.out.mono ?_
        rintro e W3 ⟨rfl, hJ3⟩
        have HJ3 := Lib.hid hJ3
        clear hJ3 hy HR
        gi_wp2
        go_roundw
        case rel => exact ⟨k + 1, by omega, by go_num, HJ3.out⟩
        case measure => simp [intOf]; omega
      · have hbin : ((ls[k]'hlt).ins == ins) = false := by rw [beq_eq_false_iff_ne]; exact hin
        have HJ3 := Lib.hid (HS.out k hlt _ hin HN.out)
        clear hin h hx b0 b1 HN
        generalize ls[k]'hlt = x at *
        obtain ⟨xi, xn, xa, xo, xq, xc, xu⟩ := x
        gi_wp2
        go_roundw
        case rel => exact ⟨k + 1, by omega, by go_num, HJ3.out⟩
        case measure => simp [intOf]; omega
    · obtain rfl : k = ls.length := by omega
      have HH := Lib.hid h
      clear h b0 b1 hx
      gi_wp2
      go_end0
      exact ⟨⟨_, rfl⟩, HH.out⟩
end Go.Proofs.YtikehdbkiplleaaGreatDoor

/- A region that draws its order, inside a round of a range over a function: what is shown in the plain way, loads first, holds there too. No program in sight. -/
namespace Go.Proofs.YtikehdbkiplleaaGreatDoor
open Go Go.RowKit
section
variable {P : Program} {Q : Exit → Act → World → Prop} {ops : Array Oper} {md : Region.Mode} {l n : Nat}
def plainOp : Op → Bool | .defer _ => false | _ => true
theorem semAt_plain {o : Oper} (h : plainOp o.op = true) (ro : Option Nat) (ρ : Operand → Value) : o.semAt ro ρ = execOp ρ o := by
  unfold Oper.semAt
  cases ro with
  | none => rfl
  | some l =>
    split
    · rename_i c _ he; rw [he] at h; simp [plainOp] at h
    · rfl
theorem upon_in {o : Oper} {a : Act} {K K' : Act → World → Prop} (hK : ∀ a w, K a w → K' a w) (r : Result Next) (h : o.upon P a K Q r) : o.uponIn (Fence.wide.inRound l) n P a K' Q r := by
  cases r with
  | ok nx w' =>
    cases nx with
    | value v => exact hK _ _ h
    | skip => exact hK _ _ h
    | defer d => exact hK _ _ h
    | enter f args =>
      refine ⟨(fun h => by cases h), CallsIn.inRound l (callsIn_wide.2 (Calls.mono h ?_))⟩
      intro e w'' k
      cases e with
      | returned v => exact hK _ _ k
      | panicked c => exact k
      | outgrown => exact k
    | row row args =>
      refine ⟨(fun h => by cases h), ?_⟩
      intro c cs _
      obtain ⟨v, w2, hv, hs⟩ := h c cs
      exact ⟨v, w2, hK _ _ hv, stepsIn_wide.2 hs⟩
    | _ => exact (h : False).elim
  | halt x w' =>
    cases x with
    | panic v => exact h
    | _ => exact (h : False).elim
theorem op_in {i : Nat} {a : Act} {w : World} {K K' : Act → World → Prop} (hK : ∀ a w, K a w → K' a w) (hd : ∀ o ∈ ops, plainOp o.op = true) (hlo : ¬ LetsOut Q) (h : wpOp P ops Q i K a w) : wpOpIn (Fence.wide.inRound l) n P ops Q i K' a w := by
  unfold wpOp at h
  unfold wpOpIn
  cases ho : ops[i]? with
  | none => rw [ho] at h; exact hK _ _ h
  | some o =>
    rw [ho] at h
    simp only at h ⊢
    have hp := hd o (Array.mem_of_getElem? ho)
    split at h
    · rename_i hw
      rw [if_pos hw]
      rcases h with h | h
      · refine ⟨fun _ _ => trivial, ?_⟩
        rw [semAt_plain hp]
        exact upon_in hK _ h
      · exact absurd h.2 hlo
    · rename_i hw
      rw [if_neg hw]
      exact ⟨fun _ _ => trivial, hK _ _ h⟩
theorem any_in (hd : ∀ o ∈ ops, plainOp o.op = true) (hlo : ¬ LetsOut Q) : ∀ (fuel : Nat) (listed : Array Bool) (a : Act) (w : World), wpAny P md ops Q fuel listed a w → wpAnyIn (Fence.wide.inRound l) n P md ops Q fuel listed a w
  | 0, _, _, _, h => h
  | fuel + 1, _, _, _, h => ⟨h.1, fun i hi => op_in (fun a w k => any_in hd hlo fuel _ a w k) hd hlo (h.2 i hi)⟩
/-- THE REGION IN A ROUND -/
theorem region_in {id : Nat} {S : World → Prop} {a : Act} {w : World} (hm : P.follows .mixedOrders = true) (hd : ∀ o ∈ ops, plainOp o.op = true) (hlo : ¬ LetsOut Q) (hS : S w.drew)
    (h : S w.drew → wpAnyH P .any ops Q S ops.size (Array.replicate ops.size false) a w.drew) : (Code.region id ops true).wpIn (Fence.wide.inRound l) n P Q a w :=
  wpIn_region_any hm (any_in hd hlo _ _ _ _ (wpAny_of_held _ _ _ _ (h hS)))
theorem roundEnds_calm {l : Nat} {rec : Loop} {R : Ending → World → Prop} {k : Nat} : ¬ LetsOut (Exit.inBlock k (roundEnds l rec R)) := by
  rintro ⟨a, w, h⟩
  exact h
end
end Go.Proofs.YtikehdbkiplleaaGreatDoor

/- The walk over the program's Total of an instrument. -/
namespace Go.Proofs.YtikehdbkiplleaaGreatDoor
open Go.RowKit Go.Shelf
attribute [local go_sem] size_bs toList_bs Oper.semAt_some

theorem sum_abs {α : Type} (f : α → Int) (M : Nat) : ∀ (l : List α), (∀ x ∈ l, (f x).natAbs ≤ M) → ((l.map f).sum).natAbs ≤ l.length * M
  | [], _ => by simp
  | a :: r, h => by
    have h1 := h a (by simp)
    have h2 := sum_abs f M r (fun x hx => h x (by simp [hx]))
    simp only [List.map_cons, List.sum_cons, List.length_cons]
    refine Nat.le_trans (Int.natAbs_add_le _ _) ?_
    rw [Nat.succ_mul]; omega
theorem tot_lenL (f : LotV → Bs) (L : Nat) (ls : List LotV) (hs : ∀ x ∈ ls, (f x).length ≤ L) (hn : ls.length ≤ 100000) : (ofI ((ls.map (fun x => valI (f x))).sum)).length ≤ L + 7 := by
  have h := sum_abs (fun x => valI (f x)) (10 ^ L) ls (fun x hx => Nat.le_of_lt (valI_lt10 (hs x hx)))
  have h2 : ls.length * 10 ^ L ≤ 10 ^ 5 * 10 ^ L := Nat.mul_le_mul_right _ (by omega)
  have h4 : 10 ^ (L + 6) = 1000000 * 10 ^ L := by rw [Nat.pow_add, Nat.mul_comm]
  have h5 : 0 < 10 ^ L := Nat.pow_pos (by decide)
  exact ofI_lt10 (L := L + 6) (by omega)
theorem tot_len (f : LotV → Bs) (ls : List LotV) (hs : ∀ x ∈ ls, (f x).length ≤ 1000) (hn : ls.length ≤ 100000) : (ofI ((ls.map (fun x => valI (f x))).sum)).length ≤ 2000 := by
  have := tot_lenL f 1000 ls hs hn
  omega
theorem ofL_take_hit {ls : List LotV} {ins : Bs} {k : Nat} (hk : k < ls.length) (h : (ls[k]'hk).ins = ins) : ofL (ls.take (k + 1)) ins = ofL (ls.take k) ins ++ [ls[k]'hk] := by
  unfold ofL; rw [List.take_succ_eq_append_getElem hk, List.filter_append]; simp [h]
theorem ofL_take_skip {ls : List LotV} {ins : Bs} {k : Nat} (hk : k < ls.length) (h : (ls[k]'hk).ins ≠ ins) : ofL (ls.take (k + 1)) ins = ofL (ls.take k) ins := by
  unfold ofL; rw [List.take_succ_eq_append_getElem hk, List.filter_append]; simp [h]
theorem totQ_hit {ls : List LotV} {ins : Bs} {k : Nat} (hk : k < ls.length) (h : (ls[k]'hk).ins = ins) : totQ (ls.take (k + 1)) ins = totQ (ls.take k) ins + valI (ls[k]'hk).q := by
  unfold totQ; rw [ofL_take_hit hk h]; simp
theorem totC_hit {ls : List LotV} {ins : Bs} {k : Nat} (hk : k < ls.length) (h : (ls[k]'hk).ins = ins) : totC (ls.take (k + 1)) ins = totC (ls.take k) ins + valI (ls[k]'hk).c := by
  unfold totC; rw [ofL_take_hit hk h]; simp
theorem ofL_mem {ls : List LotV} {ins : Bs} {x : LotV} {k : Nat} (h : x ∈ ofL (ls.take k) ins) : x ∈ ls := List.mem_of_mem_take (List.mem_filter.1 h).1
theorem ofL_len {ls : List LotV} {ins : Bs} {k : Nat} : (ofL (ls.take k) ins).length ≤ ls.length := Nat.le_trans (List.length_filter_le _ _) (by rw [List.length_take]; exact Nat.min_le_right _ _)
theorem totQ_len {ls : List LotV} (ins : Bs) (k : Nat) (hs : ∀ x ∈ ls, SmallL x) (hn : ls.length ≤ 100000) : (ofI (totQ (ls.take k) ins)).length ≤ 2000 :=
  tot_len (·.q) _ (fun x hx => (hs x (ofL_mem hx)).2.2.1) (Nat.le_trans ofL_len hn)
theorem totC_len {ls : List LotV} (ins : Bs) (k : Nat) (hs : ∀ x ∈ ls, SmallL x) (hn : ls.length ≤ 100000) : (ofI (totC (ls.take k) ins)).length ≤ 2000 :=
  tot_len (·.c) _ (fun x hx => (hs x (ofL_mem hx)).2.2.2.1) (Nat.le_trans ofL_len hn)
/-- how Total stands in memory behind the first k lots -/
structure ToAt (w : World) (lp : Loop) (ls : List LotV) (A : Option Addr) (c : Nat) (ins : Bs) (k : Nat) (W : World) : Prop where
  ext : Ext w W
  qq : Blk W w.heap.size 23 #[.string (bs (ofI (totQ (ls.take k) ins)))]
  cc : Blk W (w.heap.size + 1) 23 #[.string (bs (ofI (totC (ls.take k) ins)))]
  l : Blk W (w.heap.size + 1 + 1) 22 #[.slice A ls.length c]
  i : Blk W (w.heap.size + 1 + 1 + 1) 9 #[.string (bs ins)]
  D : W.heap[w.heap.size + 1 + 1 + 1 + 1]? = some (.deferred (some []))
  L : W.heap[w.heap.size + 1 + 1 + 1 + 1 + 1]? = some (.loop lp)
section
variable {w : World} {lp lp' : Loop} {ls : List LotV} {A : Option Addr} {c : Nat} {ins : Bs} {k : Nat} {W W' : World}
theorem ToAt.on (h : ToAt w lp ls A c ins k W) (hx : Ext W W') : ToAt w lp ls A c ins k W' :=
  ⟨h.ext.trans hx, h.qq.ext hx, h.cc.ext hx, h.l.ext hx, h.i.ext hx, ext_heap h.D hx, ext_heap h.L hx⟩
theorem ToAt.put (h : ToAt w lp ls A c ins k W) : ToAt w lp' ls A c ins k (W.putObj (w.heap.size + 1 + 1 + 1 + 1 + 1) (.loop lp')) :=
  ⟨h.ext.putObj (by omega) _, h.qq.put _ (by omega), h.cc.put _ (by omega), h.l.put _ (by omega), h.i.put _ (by omega), put_heap h.D (by omega), World.putObj_heap_same (Array.getElem?_eq_some_iff.1 h.L).1⟩
theorem ToAt.skip (h : ToAt w lp ls A c ins k W) (hk : k < ls.length) (hne : (ls[k]'hk).ins ≠ ins) : ToAt w lp ls A c ins (k + 1) W :=
  ⟨h.ext, by unfold totQ; rw [ofL_take_skip hk hne]; exact h.qq, by unfold totC; rw [ofL_take_skip hk hne]; exact h.cc, h.l, h.i, h.D, h.L⟩
theorem ToAt.hit (h : ToAt w lp ls A c ins k W) (hk : k < ls.length) (he : (ls[k]'hk).ins = ins) :
    ToAt w lp ls A c ins (k + 1) ((W.setCell ⟨w.heap.size, 0, none⟩ (.string (bs (ofI (totQ (ls.take k) ins + valI (ls[k]'hk).q))))).setCell ⟨w.heap.size + 1, 0, none⟩ (.string (bs (ofI (totC (ls.take k) ins + valI (ls[k]'hk).c))))) := by
  refine ⟨(h.ext.setCell (p := ⟨w.heap.size, 0, none⟩) (Nat.le_refl _) _).setCell (p := ⟨w.heap.size + 1, 0, none⟩) (Nat.le_succ _) _, ?_, ?_, (h.l.far (p := ⟨w.heap.size, 0, none⟩) (by dsimp only; omega) _).far (p := ⟨w.heap.size + 1, 0, none⟩) (by dsimp only; omega) _, (h.i.far (p := ⟨w.heap.size, 0, none⟩) (by dsimp only; omega) _).far (p := ⟨w.heap.size + 1, 0, none⟩) (by dsimp only; omega) _, dfar (dfar h.D (by omega)) (by omega), dfar (dfar h.L (by omega)) (by omega)⟩
  · rw [totQ_hit hk he]
    exact (h.qq.set_ 0 _).far (p := ⟨w.heap.size + 1, 0, none⟩) (by dsimp only; omega) _
  · rw [totC_hit hk he]
    exact (h.cc.far (p := ⟨w.heap.size, 0, none⟩) (by dsimp only; omega) _).set_ 0 _
end
set_option maxRecDepth 100000 in
set_option maxHeartbeats 4000000 in
theorem lotTotal (ls : List LotV) (A : Option Addr) (c : Nat) (ins : Bs) (w : World) (hE : Env w) (hA : RdL w A ls) (hs : ∀ x ∈ ls, SmallL x) (hn : ls.length ≤ 100000) :
    Calls Tryz.prog 23 #[.slice A ls.length c, .string (bs ins)] w fun e w' => e = .returned (.tuple #[.string (bs (ofI (totQ ls ins))), .string (bs (ofI (totC ls ins)))]) ∧ Ext w w' := by
  have hfn : ∀ k, Fence.wide.fn k := fun _ => trivial
  have hdp : Fence.wide.depth.isSome = false := rfl
  have HE := Lib.hid hE
  have HA := Lib.hid hA
  have HS := Lib.hid hs
  have HT : Hid (totQ (ls.take ls.length) ins = totQ ls ins ∧ totC (ls.take ls.length) ins = totC ls ins) := Lib.hid (by rw [List.take_length]; exact ⟨rfl, rfl⟩)
  have HT0 : Hid (ofI (totQ (ls.take 0) ins) = [] ∧ ofI (totC (ls.take 0) ins) = []) := Lib.hid ⟨ofI_nil.2 rfl, ofI_nil.2 rfl⟩
  have HAD := Lib.hid (fun k (hk : k < ls.length) => (⟨addP (ofI (totQ (ls.take k) ins)) (ls[k]'hk).q (by have := totQ_len ins k hs hn; omega) (by have := (hs _ (List.getElem_mem hk)).2.2.1; omega), addP (ofI (totC (ls.take k) ins)) (ls[k]'hk).c (by have := totC_len ins k hs hn; omega) (by have := (hs _ (List.getElem_mem hk)).2.2.2.1; omega)⟩ : _ ∧ _))
  simp only [valI_ofI] at HAD
  clear hE hA hs
  generalize totQ ls ins = TQ at *
  generalize totC ls ins = TC at *
  refine (callsIn_wide (n := 5)).1 ?_
  refine callsIn_of_wp_marks Tryz.func23 rfl trivial ?_ rfl
  simp only [Tryz.ntmps23, List.size_toArray, List.length_cons, List.length_nil, Nat.reduceAdd, Nat.reduceSub, Array.replicate_succ, Array.replicate_zero, List.push_toArray, List.append_toArray, List.nil_append, List.cons_append]
  gi_wp2_with fail
  refine (callsIn_wide.2 (lotOf A _ c ins _)).mono ?_
  rintro e w3 ⟨rfl, rfl⟩
  gi_wp2_with fail
  refine range_outer' rfl (by omega) (w.heap.size + 1 + 1 + 1 + 1) (by simp) rfl trivial (fun _ _ => by rfl) ?_
  intro fn lp W1 hlp hW1 _
  have h0 : ToAt w lp ls A c ins 0 W1 := by
    subst hW1
    refine ⟨(((((Ext.new w _).alloc _).alloc _).alloc _).alloc _).alloc _, ?_, ?_, ?_, ?_, ?_, ?_⟩
    · rw [HT0.out.1]; exact (((((Blk.newAt _ _ _ _ rfl).alloc _).alloc _).alloc _).alloc _).alloc _
    · rw [HT0.out.2]; exact ((((Blk.newAt _ _ _ _ (by simp)).alloc _).alloc _).alloc _).alloc _
    · exact (((Blk.newAt _ _ _ _ (by simp)).alloc _).alloc _).alloc _
    · exact ((Blk.newAt _ _ _ _ (by simp)).alloc _).alloc _
    · exact oldAt (newAt _ _ _ (by simp))
    · exact newAt _ _ _ (by simp)
  refine (lotOf1 4 (w.heap.size + 1 + 1 + 1 + 1 + 1) (w.heap.size + 1 + 1) w ls A c ins HA.out (by omega) (ToAt w lp ls A c ins) (fun k W h => ⟨h.ext, h.l, h.i⟩) (fun k W W' h hx => h.on hx) ?hY (fun k hk W hne h => h.skip hk hne) W1 h0).mono ?_
  case hY =>
    intro k hk W he h
    have e1 := congrArg Loop.assign hlp
    have e2 := congrArg Loop.body hlp
    have e3 := congrArg Loop.tmps hlp
    have e4 := congrArg Loop.params hlp
    have e5 : { lp with state := .ready, pending := none } = lp := by rw [hlp]; rfl
    obtain ⟨lb, hlb⟩ : ∃ lb, { lp with state := .busy } = lb := ⟨_, rfl⟩
    simp only [recOf] at e1 e2 e3 e4
    refine yield_round' (rec := lp) h.L (by rw [hlp]; rfl) (by rw [hlp]; rfl) trivial e1 e2 e4 e3 (zip1 _ _ _) hlb ?_
    clear e1 e2 e3 e4 hlp hW1 h0
    have HXN : Hid (Ext W (W.alloc (.cells (lc (ls[k]'hk)) 50))) := Lib.hid (Ext.new _ _)
    have HL0 := Lib.hid (h.on HXN.out).L
    have HP := Lib.hid ((h.on HXN.out).put (lp' := lb))
    have HBX := Lib.hid ((Blk.new W 50 (lc (ls[k]'hk))).put (.loop lb) (l := w.heap.size + 1 + 1 + 1 + 1 + 1) (by have := (Array.getElem?_eq_some_iff.1 h.L).1; omega))
    have HLB := Lib.hid hlb
    have HE5 := Lib.hid e5
    have HHIT := Lib.hid (fun W' (h : ToAt w lb ls A c ins k W') => h.hit hk he)
    have HAK := Lib.hid (HAD.out k hk)
    clear h hlb e5 he
    generalize ls[k]'hk = x at *
    gi_wp2
    refine ⟨HL0.out, ?_⟩
    generalize hXX : W.heap.size = X at *
    have hXw : w.heap.size + 1 < X := by have := (Array.getElem?_eq_some_iff.1 HL0.out).1; simp only [World.size_alloc] at this; omega
    clear hXX
    generalize (W.alloc (.cells (lc x) 50)).putObj (w.heap.size + 1 + 1 + 1 + 1 + 1) (.loop lb) = Wb at *
    have HX : Hid (Ext Wb Wb) := Lib.hid (Ext.refl _)
    have q0 := HP.out.qq.cell 0
    have q1 := HP.out.qq.frozen 0
    have c0 := HP.out.cc.cell 0
    have c1 := HP.out.cc.frozen 0
    simp only [List.getElem?_toArray, List.getElem?_cons_zero] at q0 c0
    obtain ⟨_, _, _, _, x4, x5, _⟩ := lotBlk HBX.out (Ext.refl Wb)
    obtain ⟨tq, htq⟩ : ∃ tq, totQ (ls.take k) ins = tq := ⟨_, rfl⟩
    obtain ⟨tc, htc⟩ : ∃ tc, totC (ls.take k) ins = tc := ⟨_, rfl⟩
    rw [htq] at q0 HHIT HAK
    rw [htc] at c0 HHIT HAK
    have HTQ := Lib.hid htq
    have HTC := Lib.hid htc
    clear htq htc
    replace HX : Hid (Ext Wb Wb.drew) := Lib.hid HX.out.drew
    gi_wp2
    refine region_in (S := fun w' => w'.cell? ⟨X, 4, none⟩ = some (.string (bs x.q)) ∧ w'.cell? ⟨X, 5, none⟩ = some (.string (bs x.c))) (by kernel_rfl) (by simp [plainOp]) roundEnds_calm ⟨x4, x5⟩ ?_
    intro hHeld
    have a4 : Wb.drew.cell? ⟨X, 4, none⟩ = some (.string (bs x.q)) := x4
    have a5 : Wb.drew.cell? ⟨X, 5, none⟩ = some (.string (bs x.c)) := x5
    have hxg : X ≠ w.heap.size := by omega
    have hxg2 : X ≠ w.heap.size + 1 := by omega
    have hgx : w.heap.size ≠ X := by omega
    have hgx2 : w.heap.size + 1 ≠ X := by omega
    refine wpAnyH_take (i := 1) (v := .pointer (some ⟨X, 4, none⟩)) rfl (by kernel_rfl) (by kernel_rfl) (by kernel_rfl) (fun _ _ _ h => h) (Or.inl ⟨by rfl, ?_⟩) (by assumption) ?_
    · intro w hSw
      (try dsimp only at hSw)
      go_simp
    simp only [Act.put, List.setIfInBounds_toArray]
    refine wpAnyH_take (i := 2) (v := .string (bs x.q)) rfl (by kernel_rfl) (by kernel_rfl) (by kernel_rfl) (fun _ _ _ h => h) (Or.inl ⟨by rfl, ?_⟩) (by assumption) ?_
    · intro w hSw
      (try dsimp only at hSw)
      go_simp
    simp only [Act.put]
    refine wpAnyH_take (i := 5) (v := .pointer (some ⟨X, 5, none⟩)) rfl (by kernel_rfl) (by kernel_rfl) (by kernel_rfl) (fun _ _ _ h => h) (Or.inl ⟨by rfl, ?_⟩) (by assumption) ?_
    · intro w hSw
      (try dsimp only at hSw)
      go_simp
    simp only [Act.put]
    refine wpAnyH_take (i := 6) (v := .string (bs x.c)) rfl (by kernel_rfl) (by kernel_rfl) (by kernel_rfl) (fun _ _ _ h => h) (Or.inl ⟨by rfl, ?_⟩) (by assumption) ?_
    · intro w hSw
      (try dsimp only at hSw)
      go_simp
    simp only [Act.put]
    refine wpAnyH_ready (rs := [0, 4]) (by kernel_rfl) (by simp) ?_
    refine AllReadyH.cons rfl (fun K hK => ?_) (AllReadyH.cons rfl (fun K hK => ?_) (AllReadyH.nil))
    · go_simp
      refine hK.out _ _ ⟨a4, a5⟩ (fun hHeld => ?_)
      clear hK K
      (try simp only [Act.put, List.setIfInBounds_toArray, List.set_cons_zero, List.set_cons_succ])
      refine wpAnyH_ready (rs := [3, 4]) (by kernel_rfl) (by simp) ?_
      refine AllReadyH.cons rfl (fun K hK => ?_) (AllReadyH.cons rfl (fun K hK => ?_) (AllReadyH.nil))
      · go_simp
        refine (HAK.out.1 _ (HE.out.ext (HP.out.ext.trans HX.out))).mono ?_
        rintro e w3 ⟨rfl, hx⟩
        replace HX := Lib.hid (HX.out.trans hx)
        have hq := HP.out.on HX.out
        have a0 := hq.qq.cell 0
        have a1 := hq.cc.cell 0
        have a2 := hq.qq.frozen 0
        have a3 := hq.cc.frozen 0
        simp only [List.getElem?_toArray, List.getElem?_cons_zero] at a0 a1
        rw [HTQ.out] at a0
        rw [HTC.out] at a1
        obtain ⟨_, _, _, _, a4, a5, _⟩ := lotBlk HBX.out HX.out
        clear hx hq
        refine hK.out _ _ ⟨a4, a5⟩ (fun hHeld => ?_)
        clear hK K
        (try simp only [Act.put, List.setIfInBounds_toArray, List.set_cons_zero, List.set_cons_succ])
        refine wpAnyH_ready (rs := [4]) (by kernel_rfl) (by simp) ?_
        refine AllReadyH.cons rfl (fun K hK => ?_) (AllReadyH.nil)
        go_simp
        refine hK.out _ _ ⟨a4, a5⟩ (fun hHeld => ?_)
        clear hK K
        (try simp only [Act.put, List.setIfInBounds_toArray, List.set_cons_zero, List.set_cons_succ])
        refine wpAnyH_ready (rs := [7]) (by kernel_rfl) (by simp) ?_
        refine AllReadyH.cons rfl (fun K hK => ?_) (AllReadyH.nil)
        go_simp
        refine (HAK.out.2 _ (HE.out.ext (HP.out.ext.trans HX.out))).mono ?_
        rintro e w7 ⟨rfl, hx⟩
        replace HX := Lib.hid (HX.out.trans hx)
        have hq := HP.out.on HX.out
        have a0 := hq.qq.cell 0
        have a1 := hq.cc.cell 0
        have a2 := hq.qq.frozen 0
        have a3 := hq.cc.frozen 0
        simp only [List.getElem?_toArray, List.getElem?_cons_zero] at a0 a1
        rw [HTQ.out] at a0
        rw [HTC.out] at a1
        obtain ⟨_, _, _, _, a4, a5, _⟩ := lotBlk HBX.out HX.out
        clear hx hq
        refine hK.out _ _ ⟨a4, a5⟩ (fun hHeld => ?_)
        clear hK K
        (try simp only [Act.put, List.setIfInBounds_toArray, List.set_cons_zero, List.set_cons_succ])
        refine wpAnyH_ready (rs := [8]) (by kernel_rfl) (by simp) ?_
        refine AllReadyH.cons rfl (fun K hK => ?_) (AllReadyH.nil)
        go_simp
        refine hK.out _ _ ⟨?_, ?_⟩ (fun hHeld => ?_)
        · go_simp
        · go_simp
        clear hK K
        (try simp only [Act.put, List.setIfInBounds_toArray, List.set_cons_zero, List.set_cons_succ])
        refine wpAnyH_ready (rs := [9]) (by kernel_rfl) (by simp) ?_
        refine AllReadyH.cons rfl (fun K hK => ?_) (AllReadyH.nil)
        go_simp
        refine hK.out _ _ ⟨?_, ?_⟩ (fun hHeld => ?_)
        · go_simp
        · go_simp
        clear hK K
        refine wpAnyH_done (by kernel_rfl) ?_ _
        have hT := HHIT.out _ (HP.out.on HX.out)
        refine ⟨by rw [HLB.out]; exact hT.L, rfl, ?_⟩
        rw [HE5.out]
        exact hT.put
      · go_simp
        refine hK.out _ _ ⟨a4, a5⟩ (fun hHeld => ?_)
        clear hK K
        (try simp only [Act.put, List.setIfInBounds_toArray, List.set_cons_zero, List.set_cons_succ])
        refine wpAnyH_ready (rs := [3]) (by kernel_rfl) (by simp) ?_
        refine AllReadyH.cons rfl (fun K hK => ?_) (AllReadyH.nil)
        go_simp
        refine (HAK.out.1 _ (HE.out.ext (HP.out.ext.trans HX.out))).mono ?_
        rintro e w3 ⟨rfl, hx⟩
        replace HX := Lib.hid (HX.out.trans hx)
        have hq := HP.out.on HX.out
        have a0 := hq.qq.cell 0
        have a1 := hq.cc.cell 0
        have a2 := hq.qq.frozen 0
        have a3 := hq.cc.frozen 0
        simp only [List.getElem?_toArray, List.getElem?_cons_zero] at a0 a1
        rw [HTQ.out] at a0
        rw [HTC.out] at a1
        obtain ⟨_, _, _, _, a4, a5, _⟩ := lotBlk HBX.out HX.out
        clear hx hq
        refine hK.out _ _ ⟨a4, a5⟩ (fun hHeld => ?_)
        clear hK K
        (try simp only [Act.put, List.setIfInBounds_toArray, List.set_cons_zero, List.set_cons_succ])
        refine wpAnyH_ready (rs := [7]) (by kernel_rfl) (by simp) ?_
        refine AllReadyH.cons rfl (fun K hK => ?_) (AllReadyH.nil)
        go_simp
        refine (HAK.out.2 _ (HE.out.ext (HP.out.ext.trans HX.out))).mono ?_
        rintro e w7 ⟨rfl, hx⟩
        replace HX := Lib.hid (HX.out.trans hx)
        have hq := HP.out.on HX.out
        have a0 := hq.qq.cell 0
        have a1 := hq.cc.cell 0
        have a2 := hq.qq.frozen 0
        have a3 := hq.cc.frozen 0
        simp only [List.getElem?_toArray, List.getElem?_cons_zero] at a0 a1
        rw [HTQ.out] at a0
        rw [HTC.out] at a1
        obtain ⟨_, _, _, _, a4, a5, _⟩ := lotBlk HBX.out HX.out
        clear hx hq
        refine hK.out _ _ ⟨a4, a5⟩ (fun hHeld => ?_)
        clear hK K
        (try simp only [Act.put, List.setIfInBounds_toArray, List.set_cons_zero, List.set_cons_succ])
        refine wpAnyH_ready (rs := [8]) (by kernel_rfl) (by simp) ?_
        refine AllReadyH.cons rfl (fun K hK => ?_) (AllReadyH.nil)
        go_simp
        refine hK.out _ _ ⟨?_, ?_⟩ (fun hHeld => ?_)
        · go_simp
        · go_simp
        clear hK K
        (try simp only [Act.put, List.setIfInBounds_toArray, List.set_cons_zero, List.set_cons_succ])
        refine wpAnyH_ready (rs := [9]) (by kernel_rfl) (by simp) ?_
        refine AllReadyH.cons rfl (fun K hK => ?_) (AllReadyH.nil)
        go_simp
        refine hK.out _ _ ⟨?_, ?_⟩ (fun hHeld => ?_)
        · go_simp
        · go_simp
        clear hK K
        refine wpAnyH_done (by kernel_rfl) ?_ _
        have hT := HHIT.out _ (HP.out.on HX.out)
        refine ⟨by rw [HLB.out]; exact hT.L, rfl, ?_⟩
        rw [HE5.out]
        exact hT.put
    · go_simp
      refine hK.out _ _ ⟨a4, a5⟩ (fun hHeld => ?_)
      clear hK K
      (try simp only [Act.put, List.setIfInBounds_toArray, List.set_cons_zero, List.set_cons_succ])
      refine wpAnyH_ready (rs := [0]) (by kernel_rfl) (by simp) ?_
      refine AllReadyH.cons rfl (fun K hK => ?_) (AllReadyH.nil)
      go_simp
      refine hK.out _ _ ⟨a4, a5⟩ (fun hHeld => ?_)
      clear hK K
      (try simp only [Act.put, List.setIfInBounds_toArray, List.set_cons_zero, List.set_cons_succ])
      refine wpAnyH_ready (rs := [3]) (by kernel_rfl) (by simp) ?_
      refine AllReadyH.cons rfl (fun K hK => ?_) (AllReadyH.nil)
      go_simp
      refine (HAK.out.1 _ (HE.out.ext (HP.out.ext.trans HX.out))).mono ?_
      rintro e w3 ⟨rfl, hx⟩
      replace HX := Lib.hid (HX.out.trans hx)
      have hq := HP.out.on HX.out
      have a0 := hq.qq.cell 0
      have a1 := hq.cc.cell 0
      have a2 := hq.qq.frozen 0
      have a3 := hq.cc.frozen 0
      simp only [List.getElem?_toArray, List.getElem?_cons_zero] at a0 a1
      rw [HTQ.out] at a0
      rw [HTC.out] at a1
      obtain ⟨_, _, _, _, a4, a5, _⟩ := lotBlk HBX.out HX.out
      clear hx hq
      refine hK.out _ _ ⟨a4, a5⟩ (fun hHeld => ?_)
      clear hK K
      (try simp only [Act.put, List.setIfInBounds_toArray, List.set_cons_zero, List.set_cons_succ])
      refine wpAnyH_ready (rs := [7]) (by kernel_rfl) (by simp) ?_
      refine AllReadyH.cons rfl (fun K hK => ?_) (AllReadyH.nil)
      go_simp
      refine (HAK.out.2 _ (HE.out.ext (HP.out.ext.trans HX.out))).mono ?_
      rintro e w7 ⟨rfl, hx⟩
      replace HX := Lib.hid (HX.out.trans hx)
      have hq := HP.out.on HX.out
      have a0 := hq.qq.cell 0
      have a1 := hq.cc.cell 0
      have a2 := hq.qq.frozen 0
      have a3 := hq.cc.frozen 0
      simp only [List.getElem?_toArray, List.getElem?_cons_zero] at a0 a1
      rw [HTQ.out] at a0
      rw [HTC.out] at a1
      obtain ⟨_, _, _, _, a4, a5, _⟩ := lotBlk HBX.out HX.out
      clear hx hq
      refine hK.out _ _ ⟨a4, a5⟩ (fun hHeld => ?_)
      clear hK K
      (try simp only [Act.put, List.setIfInBounds_toArray, List.set_cons_zero, List.set_cons_succ])
      refine wpAnyH_ready (rs := [8]) (by kernel_rfl) (by simp) ?_
      refine AllReadyH.cons rfl (fun K hK => ?_) (AllReadyH.nil)
      go_simp
      refine hK.out _ _ ⟨?_, ?_⟩ (fun hHeld => ?_)
      · go_simp
      · go_simp
      clear hK K
      (try simp only [Act.put, List.setIfInBounds_toArray, List.set_cons_zero, List.set_cons_succ])
      refine wpAnyH_ready (rs := [9]) (by kernel_rfl) (by simp) ?_
      refine AllReadyH.cons rfl (fun K hK => ?_) (AllReadyH.nil)
      go_simp
      refine hK.out _ _ ⟨?_, ?_⟩ (fun hHeld => ?_)
      · go_simp
      · go_simp
      clear hK K
      refine wpAnyH_done (by kernel_rfl) ?_ _
      have hT := HHIT.out _ (HP.out.on HX.out)
      refine ⟨by rw [HLB.out]; exact hT.L, rfl, ?_⟩
      rw [HE5.out]
      exact hT.put
  rintro e W ⟨hv, h⟩
  refine ⟨hv, .inl ⟨h.L, ?_⟩⟩
  have hP := h.put (lp' := { lp with state := .exhausted })
  generalize W.putObj (w.heap.size + 1 + 1 + 1 + 1 + 1) (.loop { lp with state := .exhausted }) = W3 at *
  clear h hv hW1 hlp W1 h0
  have q0 := hP.qq.cell 0
  have c0 := hP.cc.cell 0
  simp only [List.getElem?_toArray, List.getElem?_cons_zero] at q0 c0
  rw [HT.out.1] at q0
  rw [HT.out.2] at c0
  have HP := Lib.hid hP
  clear hP
  gi_wp2
  refine wpIn_wide.2 ?_
  go_region_held3 (fun w' => w'.cell? ⟨w.heap.size, 0, none⟩ = some (.string (bs (ofI TQ))) ∧ w'.cell? ⟨w.heap.size + 1, 0, none⟩ = some (.string (bs (ofI TC)))) (go_keep) (fail)
  all_goals
    gi_wp2
    refine ⟨by simp, .inl ⟨_, _, rfl, run_takeDeferred (drew_heap HP.out.D), ?_⟩⟩
    refine ⟨.tuple #[.string (bs (ofI TQ)), .string (bs (ofI TC))], by simp [results, Tryz.results23, go_sem], ?_⟩
    exact ⟨rfl, HP.out.ext.drew.putObj (by omega) _⟩
end Go.Proofs.YtikehdbkiplleaaGreatDoor
