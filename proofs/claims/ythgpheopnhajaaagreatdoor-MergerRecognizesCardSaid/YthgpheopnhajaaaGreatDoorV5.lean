/- The seat's texts, part 5 of 5. -/
import Derived.Test.YthgpheopnhajaaaGreatDoorV4
import Derived.BigQuiet

/- Plain: the start of a long division. No program in sight. -/
namespace Go.Proofs.YthgpheopnhajaaaGreatDoor
open Go.RowKit
theorem RowU.far {w : World} {g cap : Nat} {gs : List Nat} (h : RowU w g cap gs) {g' : Nat} (hne : g ≠ g') (k : Nat) (u : Value) : RowU (w.setCell ⟨g', k, none⟩ u) g cap gs := by
  obtain ⟨cur, h⟩ := h
  exact ⟨cur, { h with blk := h.blk.far (p := ⟨g', k, none⟩) hne u }⟩
theorem RowU.of_own {w : World} {base : Nat} {A : Option Addr} {c : Nat} {gs : List Nat} (h : w.ownsRow base 183 1 (.slice A gs.length c) gs.length (ucells gs)) (h0 : 0 < gs.length) : ∃ g, A = some ⟨g, 0, none⟩ ∧ base ≤ g ∧ RowU w g c gs := by
  obtain ⟨g, cap, e1, hg, hlt⟩ := h.form h0
  injection e1 with e1 _ e3
  subst e1; subst e3
  obtain ⟨hgb, cur, hrow⟩ := Row.of_own h
  exact ⟨g, rfl, hgb, cur, hrow⟩
/-- the factor that makes the highest group large -/
theorem scale_ok {t : Nat} (h0 : 0 < t) (hB : t < B9) : 0 < 1000000000 / (t + 1) ∧ 1000000000 / (t + 1) < B9 := by
  have e : B9 = 1000000000 := rfl
  rw [e] at hB ⊢
  constructor
  · exact Nat.div_pos (by omega) (by omega)
  · exact Nat.div_lt_self (by omega) (by omega)
theorem gr_small {s : Nat} (h0 : 0 < s) (hB : s < B9) : gr s = [s] := by
  rw [gr_pos (by omega), Nat.mod_eq_of_lt hB, Nat.div_eq_of_lt hB, gr_zero]
theorem gr_topPos {y : Nat} (h : 0 < (gr y).length) : 0 < at0 (gr y) ((gr y).length - 1) := by
  have hne : gr y ≠ [] := by intro e; rw [e] at h; simp at h
  have ht := gr_top y ((gr y).dropLast) ((gr y).getLast hne) (List.dropLast_concat_getLast hne).symm
  rw [at0_lt (by omega), ← List.getLast_eq_getElem hne]; omega
theorem dvr_gr {y : Nat} (h : 2 ≤ (gr y).length) : Dvr (gr y) := ⟨h, gr_lt y, gr_topPos (by omega)⟩
theorem allB_append {a b : List Nat} (ha : AllB a) (hb : AllB b) : AllB (a ++ b) := fun g hg => by
  rcases List.mem_append.1 hg with h | h
  · exact ha g h
  · exact hb g h
/-- how the long division begins: two groups 0 are laid behind -/
theorem kn_start {X Y : Nat} (hY : 2 ≤ (gr Y).length) (hXY : Y ≤ X) : KnAt X (gr Y) ((gr X).length + 2) ((gr X).length + 2 - (gr Y).length) (gr X ++ [0, 0]) (List.replicate ((gr X).length + 2 - (gr Y).length) 0) ∧ (gr Y).length ≤ (gr X).length := by
  have hl := gr_len_mono hXY
  have hb := dvr_gr hY
  refine ⟨KnAt.start hb (by simp) (allB_append (gr_lt X) (by intro g hg; simp at hg; subst hg; decide)) (by simp) (fun g hg => by rw [(List.mem_replicate.1 hg).2]; decide) ?_ (by omega) ?_, hl⟩
  · rw [gval_append, show gval [0, 0] = 0 from rfl, Nat.mul_zero, Nat.add_zero, gval_gr]
  · have e1 : (gr X ++ [0, 0]).drop ((gr X).length + 2 - (gr Y).length) = (gr X).drop ((gr X).length + 2 - (gr Y).length) ++ [0, 0] := by
      rw [List.drop_append_of_le_length (by omega)]
    rw [e1, gval_append, show gval [0, 0] = 0 from rfl, Nat.mul_zero, Nat.add_zero]
    have h1 := gval_lt (AllB.drop (gr_lt X) ((gr X).length + 2 - (gr Y).length))
    rw [List.length_drop] at h1
    have h2 : (gr X).length - ((gr X).length + 2 - (gr Y).length) = (gr Y).length - 2 := by omega
    rw [h2] at h1
    obtain ⟨p1, _⟩ := hb.parts
    have h3 : 1 * B9 ^ ((gr Y).length - 2) ≤ (at0 (gr Y) ((gr Y).length - 1) * B9 + at0 (gr Y) ((gr Y).length - 2)) * B9 ^ ((gr Y).length - 2) := Nat.mul_le_mul_right _ (by have := hb.top; have e : B9 = 1000000000 := rfl; rw [e]; omega)
    omega
theorem scaled {x y s : Nat} (hs : 0 < s) (_hy : 0 < y) : (x * s) / (y * s) = x / y ∧ (x * s) % (y * s) = (x % y) * s ∧ (x % y) * s / s = x % y :=
  ⟨Nat.mul_div_mul_right _ _ hs, Nat.mul_mod_mul_right _ _ _, Nat.mul_div_cancel _ hs⟩
theorem kn_end {X Y : Nat} {a q : List Nat} (h : KnAt X (gr Y) ((gr X).length + 2) 0 a q) (hY : 2 ≤ (gr Y).length) (hl : (gr Y).length ≤ (gr X).length) : cutL q = gr (X / Y) ∧ cutL (a.take (gr Y).length) = gr (X % Y) := by
  obtain ⟨f1, f2, f3⟩ := h.fin (dvr_gr hY) (by omega)
  rw [gval_gr] at f1 f2
  refine ⟨by rw [cutL_gr h.allq, f1], ?_⟩
  rw [cutL_gr (h.alla.take _), f3, f2]
theorem SubIn.top {g : Nat} {b a0 a : List Nat} {i j bo : Nat} (h : SubIn g b a0 i j bo a) : at0 a (i + j) = at0 a0 (i + j) := by
  have h1 := at0_drop a (i + j) 0
  have h2 := at0_drop a0 (i + j) 0
  rw [h.high] at h1
  rw [Nat.add_zero] at h1 h2; rw [← h1, ← h2]
theorem AddIn.top {b a0 a : List Nat} {i j ca : Nat} (h : AddIn b a0 i j ca a) : at0 a (i + j) = at0 a0 (i + j) := by
  have h1 := at0_drop a (i + j) 0
  have h2 := at0_drop a0 (i + j) 0
  rw [h.high] at h1
  rw [Nat.add_zero] at h1 h2; rw [← h1, ← h2]
theorem AddIn.ex {b a0 : List Nat} {i : Nat} (hb : AllB b) (ha : AllB a0) : ∀ j, i + j ≤ a0.length → ∃ ca a, AddIn b a0 i j ca a
  | 0, _ => ⟨0, a0, AddIn.start ha⟩
  | j + 1, h => by
    obtain ⟨ca, a, h1⟩ := AddIn.ex (i := i) hb ha j (by omega)
    exact ⟨_, _, h1.step hb (by omega)⟩
theorem KnAt.pos {A0 La i : Nat} {b a q a1 : List Nat} {g bo : Nat} (h : KnAt A0 b La (i + 1) a q) (hb : Dvr b) (hi : i + b.length < La) (hs : SubIn g b a i b.length bo a1) (hg : g < B9) (hle : g ≤ gval (a.drop i) / gval b + 1) (ht : at0 a (i + b.length) < bo) : 0 < g := by
  obtain ⟨ca, a2, h1⟩ := AddIn.ex (b := b) (i := i) hb.all hs.all b.length (by rw [hs.len, h.la]; omega)
  exact (h.wrong hb hi hs h1 hg hle ht).1
end Go.Proofs.YthgpheopnhajaaaGreatDoor

/- The walk over the program's long division of magnitudes. -/
namespace Go.Proofs.YthgpheopnhajaaaGreatDoor
open Go.RowKit
attribute [local go_sem] size_bs toList_bs
/-- how the long division stands in memory -/
def KnRel (X : Nat) (bL : List Nat) (La ga gb gq capA cB capQ : Nat) (w : World) (vi : Value) (wr : World) : Prop :=
  ∃ (i : Nat) (a q : List Nat), vi = .int .i64 ((i : Int) - 1) ∧ i ≤ La - bL.length ∧ RowU wr ga capA a ∧ RowU wr gb cB bL ∧ RowU wr gq capQ q ∧ KnAt X bL La i a q ∧ Ext w wr
set_option maxRecDepth 100000 in
set_option maxHeartbeats 2000000 in
theorem intDivide_long (x y : Nat) (h : y ≤ x) (h2 : 2 ≤ (gr y).length) (A A' : Option Addr) (c c' : Nat) (w : World) (hA : RdU w A (gr x)) (hA' : RdU w A' (gr y)) (hn : (gr x).length ≤ 900000) (hn' : (gr y).length ≤ 900000) :
    Calls Tryz.prog 213 #[.slice A (gr x).length c, .slice A' (gr y).length c'] w (DivEnds (x / y) (x % y) w) := by
  have hy0 : 0 < y := by
    rcases Nat.eq_zero_or_pos y with e | e
    · rw [e, gr_zero] at h2; simp at h2
    · exact e
  have HA := Lib.hid hA
  have HA' := Lib.hid hA'
  have HCP := Lib.hid (intCompare x y A A' c c' w hA hA' (by omega) (by omega))
  have htp := gr_topPos (y := y) (by omega)
  have htb : at0 (gr y) ((gr y).length - 1) < B9 := at0_bd (gr_lt y) _
  obtain ⟨hs0, hsB⟩ := scale_ok htp htb
  obtain ⟨b, o, rfl, hb, hct⟩ := hA'.at_ (k := (gr y).length - 1) (by omega)
  rw [← at0_lt] at hct
  have HCT := Lib.hid hct
  have HTM := Lib.hid (fun s (_ : 0 < s) (_ : s < B9) (B : Option Addr) (W : World) (h1 : RdU W A (gr x)) (h3 : RdU W B (gr s)) => intTimes x s A B c 1 W h1 h3 (by omega) (by rw [gr_small ‹_› ‹_›]; simp))
  have HTN := Lib.hid (fun s (_ : 0 < s) (_ : s < B9) (B : Option Addr) (W : World) (h1 : RdU W (some ⟨b, o, none⟩) (gr y)) (h3 : RdU W B (gr s)) => intTimes y s (some ⟨b, o, none⟩) B c' 1 W h1 h3 (by omega) (by rw [gr_small ‹_› ‹_›]; simp))
  generalize htt : at0 (gr y) ((gr y).length - 1) = t at *
  clear hA hA' hct htt
  have e9 : B9 = 1000000000 := rfl
  rw [e9] at htb
  clear e9
  have hks : ((gr y).length : Int) - 1 = (((gr y).length - 1 : Nat) : Int) := by omega
  have hk1 : (((gr y).length : Int) == 1) = false := by rw [beq_eq_false_iff_ne]; omega
  go_enter Tryz.func213, Tryz.ntmps213
  go_wp2_with fail
  refine HCP.out.mono ?_
  rintro e w1 ⟨hx1, z, rfl, hcase⟩
  have hr : ¬ z < 0 := by omega
  have hrb : decide (z < 0) = false := by simpa using hr
  have HX1 := Lib.hid hx1
  have hcy := (hx1.cell (p := ⟨b, o + ((gr y).length - 1), none⟩) hb).trans HCT.out
  clear hcase hx1
  go_wp2_with fail
  have hsI : (1000000000 : Int) / ((t : Int) + 1) = ((1000000000 / (t + 1) : Nat) : Int) := by
    rw [Int.natCast_ediv, Int.natCast_add]; rfl
  rw [hsI]
  clear hsI
  generalize 1000000000 / (t + 1) = s at *
  obtain ⟨f1, f2, f3⟩ := scaled (x := x) hs0 hy0
  have HF := Lib.hid (And.intro f1 (And.intro f2 f3))
  have hXY : y * s ≤ x * s := Nat.mul_le_mul_right _ h
  have hYl : 2 ≤ (gr (y * s)).length := Nat.le_trans h2 (gr_len_mono (Nat.le_mul_of_pos_right _ hs0))
  have HGS := Lib.hid (gr_small hs0 hsB)
  have HLX : Hid ((gr (x * s)).length ≤ 900001) := Lib.hid (by
    have h5 : x < B9 ^ (gr x).length := by have := gval_lt (gr_lt x); rwa [gval_gr] at this
    have h6 : x * s < B9 ^ ((gr x).length + 1) := by rw [Nat.pow_succ]; exact Nat.mul_lt_mul'' h5 hsB
    have := gr_len_le h6; omega)
  obtain ⟨hkn, hlk⟩ := kn_start hYl hXY
  have HKN := Lib.hid hkn
  have HKE := Lib.hid (fun a q hk => kn_end (X := x * s) (Y := y * s) (a := a) (q := q) hk hYl hlk)
  have HDV := Lib.hid (dvr_gr hYl)
  clear f1 f2 f3 hkn hcy htb htp
  have HB1 : Hid (RdU (w1.alloc (.cells #[.int .u64 s] 183)) (some ⟨w1.heap.size, 0, none⟩) (gr s)) := Lib.hid (by rw [HGS.out]; exact Reads.lit rfl)
  have HT1 := Lib.hid (HTM.out s hs0 hsB (some ⟨w1.heap.size, 0, none⟩) (w1.alloc (.cells #[.int .u64 s] 183)) (HA.out.ext (HX1.out.alloc _)) HB1.out)
  rw [show (gr s).length = 1 by rw [HGS.out]; rfl] at HT1
  refine HT1.out.mono ?_
  rintro e w2 ⟨A2, c2, rfl, hown2, hx2⟩
  have HX2 := Lib.hid ((HX1.out.alloc _).trans hx2)
  have hz2 := hx2.size
  simp only [World.size_alloc] at hz2
  have HOW2 := Lib.hid hown2
  clear hown2 hx2 HT1 HB1
  obtain ⟨i0, hI, hz0, hz1, hzb⟩ := info_parts u64Info
  have HI := Lib.hid hI
  clear hI
  have hXl : 0 < (gr (x * s)).length := by omega
  have hlx := HLX.out
  go_wp2_with (at_builtin; refine wpList_append_lies _ rfl (.tmp 55) (.tmp 56) 122 rfl (w1.alloc (.cells #[.int .u64 s] 183)).heap.size 183 i0 _ 1 8 Tryz.underlying122 HI.out hz0 hz1 hzb rfl (by decide) _ (gr (x * s)).length (ucells (gr (x * s))) rfl (own_ext2 HOW2.out (Ext.new _ _)) ⟨w2.heap.size, 0, none⟩ 2 2 [.int .u64 0, .int .u64 0] rfl rfl (World.news_of_block (heap_alloc_new w2 _)) (by simp [Value.oneCell']) (by omega) (by simp only [maxLen]; omega) (by omega) (by simp; omega) _ rfl ?_; intro ga capA w3 hown3 hgrow3 hat3 hlt3)
  have HX3 : Hid (Ext w w3) := Lib.hid (Ext.grown (HX2.out.alloc _) hgrow3 (fun k hk => Nat.le_trans (HX1.out.alloc _).size (own_base HOW2.out k hk)))
  have hrowA : RowU w3 ga capA (gr (x * s) ++ [0, 0]) := by
    obtain ⟨hgb, cur, hrow⟩ := Row.of_own hown3
    refine ⟨cur, ?_⟩
    have e1 : (gr (x * s) ++ [0, 0]).length = (gr (x * s)).length + 2 := by simp
    have e2 : ucells (gr (x * s) ++ [0, 0]) = ucells (gr (x * s)) ++ [.int .u64 0, .int .u64 0] := by simp [ucells]
    rw [e1, e2]; exact hrow
  have HGA : Hid (w.heap.size ≤ ga) := Lib.hid (Nat.le_trans (HX1.out.alloc _).size (Row.of_own hown3).1)
  have HRA := Lib.hid hrowA
  clear hown3 hgrow3 hat3 hrowA HOW2 HX2 hz2
  have HB2 : Hid (RdU (w3.alloc (.cells #[.int .u64 s] 183)) (some ⟨w3.heap.size, 0, none⟩) (gr s)) := Lib.hid (by rw [HGS.out]; exact Reads.lit rfl)
  have HT2 := Lib.hid (HTN.out s hs0 hsB (some ⟨w3.heap.size, 0, none⟩) (w3.alloc (.cells #[.int .u64 s] 183)) (HA'.out.ext (HX3.out.alloc _)) HB2.out)
  rw [show (gr s).length = 1 by rw [HGS.out]; rfl] at HT2
  refine HT2.out.mono ?_
  rintro e w4 ⟨A4, cB, rfl, hown4, hx4⟩
  obtain ⟨gb, rfl, hgb, hrowB⟩ := RowU.of_own hown4 (by omega)
  have HX4 := Lib.hid ((HX3.out.alloc _).trans hx4)
  have HGB : Hid (ga < gb ∧ gb < w4.heap.size) := Lib.hid ⟨by have := HRA.out.lt; simp at hgb; omega, hrowB.lt⟩
  have HRB := Lib.hid hrowB
  replace HRA := Lib.hid ((HRA.out.ext (Ext.new _ _)).ext hx4)
  clear hown4 hx4 HT2 HB2 hrowB hgb HTM HTN
  generalize hLX : (gr (x * s)).length = LX at *
  generalize hLY : (gr (y * s)).length = LY at *
  obtain ⟨W5, hmk, hrowQ, hx5⟩ := makeU (LX + 2 - LY) _ w4 rfl (by omega)
  have hLI : (LX : Int) + 2 - (LY : Int) = ((LX + 2 - LY : Nat) : Int) := by omega
  rw [← hLI] at hmk
  have HX5 := Lib.hid (HX4.out.trans hx5)
  have HRQ := Lib.hid hrowQ
  replace HRA := Lib.hid (HRA.out.ext hx5)
  replace HRB := Lib.hid (HRB.out.ext hx5)
  clear hrowQ hx5 hLI
  have HLXe := Lib.hid hLX
  have HLYe := Lib.hid hLY
  clear hLX hLY
  generalize x * s = X at *
  generalize y * s = Y at *
  generalize gr Y = bL at *
  go_wp2_with fail
  clear hmk
  have HGQ : Hid (gb < w4.heap.size) := Lib.hid HGB.out.2
  generalize w4.heap.size = gq at *
  have hlyb : bL.length = LY := HLYe.out
  have HB0 : Hid (KnRel X bL (LX + 2) ga gb gq capA cB (LX + 2 - LY) w (.int .i64 ((LX : Int) + 2 - (LY : Int) - 1)) W5) := Lib.hid ⟨LX + 2 - LY, _, _, by congr 1; omega, by omega, HRA.out, HRB.out, HRQ.out, HKN.out, HX5.out⟩
  clear HRA HRB HRQ HX5 HKN hlyb
  go_loopw [13, 14, 15, 16, 17, 18, 19, 20, 21] (fun vi _ _ _ _ _ _ _ _ wr => KnRel X bL (LX + 2) ga gb gq capA cB (LX + 2 - LY) w vi wr) (fun vi _ _ _ _ _ _ _ _ _ => (intOf vi + 1).toNat)
  case atStart => exact HB0.out
  case round =>
    clear HB0
    obtain ⟨i, a, q, rfl, hi, hra, hrb', hrq, hkn, hx⟩ := hrel
    have HRA := Lib.hid hra
    have HRB := Lib.hid hrb'
    have HRQ := Lib.hid hrq
    have HKN := Lib.hid hkn
    have HX := Lib.hid hx
    have hla := hkn.la
    have hlq := hkn.lq
    have hlyb : bL.length = LY := HLYe.out
    rw [hlyb] at hi hlq
    clear hra hrb' hrq hkn hx
    rcases Nat.eq_zero_or_pos i with h0 | h0
    · subst h0
      obtain ⟨k1, k2⟩ := HKE.out a q HKN.out
      have HK1 : Hid (cutL q = gr (x / y)) := Lib.hid (by rw [k1, HF.out.1])
      have HK2 := Lib.hid k2
      have hcA := HRA.out.caps
      have hcQ := HRQ.out.caps
      have htl : (a.take LY).length = LY := by rw [List.length_take]; omega
      have HCA := Lib.hid (intCut (a.take LY) (some ⟨ga, 0, none⟩) capA wr (HRA.out.reads.take LY) (by omega) hcA.2 (HKN.out.alla.take LY))
      rw [htl, k2] at HCA
      have HRR : Hid (RdU wr (some ⟨ga, 0, none⟩) (gr (X % Y))) := Lib.hid (by rw [← k2, cutL_prefix (a.take LY)]; exact (HRA.out.reads.take LY).take _)
      have HRL : Hid ((gr (X % Y)).length ≤ 1000000) := Lib.hid (by have := cutL_le (a.take LY); rw [k2, htl] at this; omega)
      have HSG := Lib.hid (intSingle (X % Y) s hs0 hsB (some ⟨ga, 0, none⟩) capA wr HRR.out HRL.out)
      rw [show (X % Y) / s = x % y by rw [HF.out.2.1, HF.out.2.2]] at HSG
      have HCQ := Lib.hid (fun W hW => intCut q (some ⟨gq, 0, none⟩) (LX + 2 - LY) W hW hcQ.1 hcQ.2 HKN.out.allq)
      rw [hlq, HK1.out] at HCQ
      have HQL : Hid ((gr (x / y)).length ≤ LX + 2 - LY) := Lib.hid (by have := cutL_le q; rw [HK1.out, hlq] at this; exact this)
      have HRDQ : Hid (RdU wr (some ⟨gq, 0, none⟩) (gr (x / y))) := Lib.hid (by rw [← HK1.out, cutL_prefix q]; exact HRQ.out.reads.take _)
      have HCQ2 := Lib.hid hcQ
      have hclA : LY ≤ capA := by omega
      have hmA := hcA.2
      unfold maxLen at hmA
      clear k1 k2 htl hcA hcQ
      generalize x / y = xq at *
      generalize x % y = xr at *
      go_wp2_with fail
      refine HCA.out.mono ?_
      rintro e w7 ⟨rfl, rfl⟩
      go_wp2_with fail
      refine HSG.out.mono ?_
      rintro e w8 ⟨A8, c8, rfl, hown8, hx8⟩
      have HOW8 := Lib.hid hown8
      have HX8 := Lib.hid hx8
      clear hown8 hx8
      go_wp2_with fail
      refine (HCQ.out _ (HRQ.out.reads.ext HX8.out)).mono ?_
      rintro e w9 ⟨rfl, rfl⟩
      go_wp2_with fail
      go_ret2
      exact ⟨_, _, A8, c8, rfl, HRDQ.out.ext HX8.out, Reads.own HOW8.out, HX.out.trans HX8.out, ⟨HQL.out, HCQ2.out.2⟩, own_cap HOW8.out⟩
    · obtain ⟨j, rfl⟩ : ∃ j, i = j + 1 := ⟨i - 1, by omega⟩
      have e0 : ((j + 1 : Nat) : Int) - 1 = (j : Int) := by omega
      rw [e0]
      clear e0
      have hj : j + LY < LX + 2 := by omega
      have a0 := HRA.out.at0 (k := j + LY) (by omega)
      have a1 := HRA.out.at0 (k := j + LY - 1) (by omega)
      have b1 := HRB.out.at0 (k := LY - 1) (by omega)
      have ba0 := HKN.out.alla.at0 (j + LY)
      have ba1 := HKN.out.alla.at0 (j + LY - 1)
      have bb1 : at0 bL (LY - 1) < B9 := HDV.out.all.at0 (LY - 1)
      have bb1p : 0 < at0 bL (LY - 1) := by have := HDV.out.top; rw [hlyb] at this; exact this
      have e9 : B9 = 1000000000 := rfl
      rw [e9] at ba0 ba1 bb1
      clear e9
      generalize hq0 : at0 a (j + LY) = t0 at *
      generalize hq1 : at0 a (j + LY - 1) = t1 at *
      generalize hq2 : at0 bL (LY - 1) = d1 at *
      have HQ0 := Lib.hid hq0
      have HQ1 := Lib.hid hq1
      have HQ2 := Lib.hid hq2
      clear hq0 hq1 hq2
      have w0 : IntKind.i64.wrap ((j : Int) + (LY : Int)) = (j : Int) + (LY : Int) := IntWalk.i64_in _ (by omega)
      have w1' : IntKind.i64.wrap ((j : Int) + (LY : Int) - 1) = (j : Int) + (LY : Int) - 1 := IntWalk.i64_in _ (by omega)
      have n0 : ((j : Int) + (LY : Int)).toNat = j + LY := by omega
      have n1 : ((j : Int) + (LY : Int) - 1).toNat = j + LY - 1 := by omega
      have p0 : (0 : Int) ≤ (j : Int) + (LY : Int) := by omega
      have p1 : (0 : Int) ≤ (j : Int) + (LY : Int) - 1 := by omega
      have p2 : (1 : Int) ≤ (j : Int) + (LY : Int) := by omega
      have m0 : (j : Int) + (LY : Int) < (LX : Int) + 2 := by omega
      have m1 : (j : Int) + (LY : Int) - 1 < (LX : Int) + 2 := by omega
      go_wp2_with fail
      go_quiet (fail)
      go_wp2_with fail
      clear w0 w1' n0 n1 p0 p1 p2 m0 m1 a0 a1 b1
      have hT : (t0 : Int) * 1000000000 + (t1 : Int) = ((t0 * B9 + t1 : Nat) : Int) := by rw [Int.natCast_add, Int.natCast_mul]; rfl
      have hTb : t0 * B9 + t1 < 1000000000000000000 := by have e9 : B9 = 1000000000 := rfl; rw [e9]; omega
      have hM : min (((t0 * B9 + t1 : Nat) : Int) / (d1 : Int)) 999999999 = ((min ((t0 * B9 + t1) / d1) (B9 - 1) : Nat) : Int) := by
        rw [← Int.natCast_ediv, show (999999999 : Int) = ((B9 - 1 : Nat) : Int) from rfl]
        generalize (t0 * B9 + t1) / d1 = u
        generalize B9 - 1 = v
        omega
      rw [hT, hM]
      clear hT hM
      have HEW := Lib.hid (Ext.refl wr |>.drewN nq)
      replace HRA := Lib.hid (HRA.out.ext HEW.out)
      replace HRB := Lib.hid (HRB.out.ext HEW.out)
      replace HRQ := Lib.hid (HRQ.out.ext HEW.out)
      replace HX := Lib.hid (HX.out.trans HEW.out)
      clear HEW
      generalize wr.drewN nq = W6 at *
      have ba2 := HKN.out.alla.at0 (j + LY - 2)
      have bb2 : at0 bL (LY - 2) < B9 := HDV.out.all.at0 (LY - 2)
      have HDVb2 := Lib.hid bb2
      have HG0 := Lib.hid (GuessAt.start (top := t0 * B9 + t1) (a2 := at0 a (j + LY - 2)) (b1 := d1) (b2 := at0 bL (LY - 2)) ba2 bb1p)
      have e9 : B9 = 1000000000 := rfl
      generalize ht3 : t0 * B9 + t1 = T at *
      generalize hq4 : at0 a (j + LY - 2) = t2 at *
      generalize hq5 : at0 bL (LY - 2) = d2 at *
      rw [e9] at ba2 bb2
      have HT3 := Lib.hid ht3
      have HQ4 := Lib.hid hq4
      have HQ5 := Lib.hid hq5
      clear e9 ht3 hq4 hq5
      go_loopw [15, 16] (fun vz _ wr => ∃ z : Nat, vz = .int .u64 z ∧ GuessAt T t2 d1 d2 z ∧ Ext W6 wr) (fun vz _ _ => (intOf vz).toNat)
      case atStart => exact ⟨_, rfl, HG0.out, Ext.refl _⟩
      case round =>
        clear HG0
        obtain ⟨g, rfl, hg, hx6⟩ := hrel
        have HG := Lib.hid hg
        have HX6 := Lib.hid hx6
        have hgB := hg.lt
        have hgl := hg.le
        have b1 := (HRB.out.ext HX6.out).at0 (k := LY - 1) (by omega)
        have b2 := (HRB.out.ext HX6.out).at0 (k := LY - 2) (by omega)
        have a2 := (HRA.out.ext HX6.out).at0 (k := j + LY - 2) (by omega)
        rw [HQ2.out] at b1
        rw [HQ5.out] at b2
        rw [HQ4.out] at a2
        have e9 : B9 = 1000000000 := rfl
        rw [e9] at hgB
        clear e9 hg hx6
        have hpd : (g : Int) * (d1 : Int) = ((g * d1 : Nat) : Int) := (Int.natCast_mul _ _).symm
        have hgd0 : (0 : Int) ≤ (g : Int) * (d1 : Int) := by rw [hpd]; omega
        have hgd1 : (g : Int) * (d1 : Int) ≤ (T : Int) := by rw [hpd]; omega
        clear hpd
        go_wp2_with fail
        have hLI : (T : Int) - (g : Int) * (d1 : Int) = ((T - g * d1 : Nat) : Int) := by
          have hpd : (g : Int) * (d1 : Int) = ((g * d1 : Nat) : Int) := (Int.natCast_mul _ _).symm
          rw [hpd]; omega
        rw [hLI]
        clear hLI hgd0 hgd1
        have hLT : T - g * d1 ≤ T := Nat.sub_le _ _
        have HFN := Lib.hid (fun hc => HG.out.fine HDVb2.out hc)
        have HDN := Lib.hid (fun hc => HG.out.down hc)
        generalize T - g * d1 = L at *
        have b2I : (g : Int) * (d2 : Int) = ((g * d2 : Nat) : Int) := (Int.natCast_mul _ _).symm
        have hgd : g * d2 ≤ 999999999 * 999999999 := Nat.mul_le_mul (by omega) (by omega)
        have hz0' : (0 : Int) ≤ (g : Int) * (d2 : Int) := by rw [b2I]; omega
        have hz1' : (g : Int) * (d2 : Int) ≤ 999999998000000001 := by rw [b2I]; omega
        have v0 : IntKind.i64.wrap ((j : Int) + (LY : Int)) = (j : Int) + (LY : Int) := IntWalk.i64_in _ (by omega)
        have v1 : IntKind.i64.wrap ((j : Int) + (LY : Int) - 2) = (j : Int) + (LY : Int) - 2 := IntWalk.i64_in _ (by omega)
        have v2 : IntKind.i64.wrap ((LY : Int) - 2) = (LY : Int) - 2 := IntWalk.i64_in _ (by omega)
        have v3 : IntKind.u64.wrap ((g : Int) * (d2 : Int)) = (g : Int) * (d2 : Int) := IntWalk.u64_in _ (by omega)
        have n1 : ((j : Int) + (LY : Int) - 2).toNat = j + LY - 2 := by omega
        have n2 : ((LY : Int) - 2).toNat = LY - 2 := by omega
        have p1 : (0 : Int) ≤ (j : Int) + (LY : Int) - 2 := by omega
        have p2 : (2 : Int) ≤ (j : Int) + (LY : Int) := by omega
        have p3 : (0 : Int) ≤ (LY : Int) - 2 := by omega
        have p4 : (2 : Int) ≤ (LY : Int) := by omega
        have m1 : (j : Int) + (LY : Int) - 2 < (LX : Int) + 2 := by omega
        have m2 : (LY : Int) - 2 < (LY : Int) := by omega
        by_cases hL : 1000000000 ≤ L
        rotate_left
        focus
          have hLb : decide ((1000000000 : Int) ≤ (L : Int)) = false := by simp; omega
          have v4 : IntKind.u64.wrap ((L : Int) * 1000000000) = (L : Int) * 1000000000 := IntWalk.u64_in _ (by omega)
          have v5 : IntKind.u64.wrap ((L : Int) * 1000000000 + (t2 : Int)) = (L : Int) * 1000000000 + (t2 : Int) := IntWalk.u64_in _ (by omega)
          by_cases hc : g * d2 ≤ L * B9 + t2
          rotate_left
          focus
            have hcI : decide ((g : Int) * (d2 : Int) ≤ (L : Int) * 1000000000 + (t2 : Int)) = false := by
              rw [b2I, decide_eq_false_iff_not]; have e9 : B9 = 1000000000 := rfl; rw [e9] at hc; omega
            obtain ⟨hg0, hgd'⟩ := HDN.out hc
            have HGD := Lib.hid hgd'
            clear hc b2I hgd'
            go_quiet (fail)
            go_wp2_with fail
            exact ⟨⟨g - 1, by go_num, HGD.out, HX6.out.drewN _⟩, by simp [intOf]; omega⟩
          have hcI : decide ((g : Int) * (d2 : Int) ≤ (L : Int) * 1000000000 + (t2 : Int)) = true := by
            rw [b2I, decide_eq_true_eq]; have e9 : B9 = 1000000000 := rfl; rw [e9] at hc; omega
          have HFINE := Lib.hid (HFN.out (.inr hc))
          clear hc b2I
          go_quiet (fail)
          go_wp2_with fail
          clear v0 v1 v2 v3 v4 v5 n1 n2 p1 p2 p3 p4 m1 m2 hz0' hz1' b1 b2 a2 hgd HFN HDN hLb hcI hL
        rotate_left
        focus
          have hLb : decide ((1000000000 : Int) ≤ (L : Int)) = true := by simp; omega
          have HFINE := Lib.hid (HFN.out (.inl hL))
          clear b2I
          go_quiet (fail)
          go_wp2_with fail
          clear v0 v1 v2 v3 n1 n2 p1 p2 p3 p4 m1 m2 hz0' hz1' b1 b2 a2 hgd HFN HDN hLb hL
        all_goals
          have HXW := Lib.hid (HX6.out.drewN nq)
          have HRA7 := Lib.hid (HRA.out.ext HXW.out)
          have HRB7 := Lib.hid (HRB.out.ext HXW.out)
          have HRQ7 := Lib.hid (HRQ.out.ext HXW.out)
          have HX7 := Lib.hid (HX.out.trans HXW.out)
          have HGUESS : Hid (gval (a.drop j) / gval bL ≤ g ∧ g ≤ gval (a.drop j) / gval bL + 1) := Lib.hid (HKN.out.guess HDV.out (by rw [hlyb]; exact hj) (by rw [hlyb, HQ0.out, HQ1.out, HQ2.out, HQ4.out, HQ5.out, HT3.out]; exact HG.out) (by rw [hlyb, HQ0.out, HQ1.out, HQ2.out, HQ4.out, HQ5.out, HT3.out]; exact HFINE.out))
          clear HXW HX6 HFINE HRA HRB HRQ HX
          generalize wr.drewN nq = W7 at *
          go_loopw [136, 17, 18, 19] (fun vk vb _ _ wr => ∃ (k bo : Nat) (a1 : List Nat), k ≤ LY ∧ vk = .int .i64 k ∧ vb = .int .u64 bo ∧ RowU wr ga capA a1 ∧ SubIn g bL a j k bo a1 ∧ RowU wr gb cB bL ∧ RowU wr gq (LX + 2 - LY) q ∧ Ext w wr) (fun vk _ _ _ _ => LY - (intOf vk).toNat)
          case atStart => exact ⟨0, 0, a, by omega, rfl, rfl, HRA7.out, SubIn.start HKN.out.alla, HRB7.out, HRQ7.out, HX7.out⟩
          case round =>
            clear HRA7 HRB7 HRQ7 HX7
            obtain ⟨k, bo, a1, hk, rfl, rfl, hra, hsb, hrb', hrq, hx⟩ := hrel
            have HRA := Lib.hid hra
            have HSB := Lib.hid hsb
            have HRB := Lib.hid hrb'
            have HRQ := Lib.hid hrq
            have HX := Lib.hid hx
            have hl1 := hsb.len
            have hbo := hsb.bb
            clear hra hsb hrb' hrq hx
            by_cases hltk : k < LY
            · have cb := HRB.out.at0 (k := k) (by omega)
              have ca := HRA.out.at0 (k := j + k) (by omega)
              have fa := HRA.out.frozen (j + k)
              have bbk := HDV.out.all.at0 k
              have bak := HSB.out.all.at0 (j + k)
              have HST := Lib.hid (HSB.out.step (by have e9 : B9 = 1000000000 := rfl; rw [e9]; exact hgB) HDV.out.all (by omega))
              have HSBD := Lib.hid (sub_bounds (g := g) (by have e9 : B9 = 1000000000 := rfl; rw [e9]; exact hgB) bbk hbo bak)
              have HP1 := Lib.hid (fun v z hz => HRA.out.put (j + k) z v (by omega) hz)
              have HP2 := Lib.hid (fun v0 z0 hz0 v z hz => (HRA.out.put (j + k) z0 v0 (by omega) hz0).put (j + k) z v (by rw [List.length_set]; omega) hz)
              generalize at0 bL k = bk at *
              generalize at0 a1 (j + k) = ak at *
              obtain ⟨hm0, hm1⟩ := mulI (x := g) (y := bk) (by have e9 : B9 = 1000000000 := rfl; rw [e9]; exact hgB) bbk
              have e9 : B9 = 1000000000 := rfl
              rw [e9] at hbo bbk bak
              clear e9
              have hjk : ((j : Int) + (k : Int)).toNat = j + k := by omega
              have hLs : ((g : Int) * (bk : Int) + (bo : Int)) % 1000000000 = (subLess g bk bo : Nat) := by
                unfold subLess; rw [Int.natCast_emod, Int.natCast_add, Int.natCast_mul]; rfl
              have hQs : ((g : Int) * (bk : Int) + (bo : Int)) / 1000000000 = ((g * bk + bo) / B9 : Nat) := by
                rw [Int.natCast_ediv, Int.natCast_add, Int.natCast_mul]; rfl
              have HLs := Lib.hid hLs
              have HQs := Lib.hid hQs
              clear hLs hQs
              have hsl : subLess g bk bo < 1000000000 := Nat.mod_lt _ (by decide)
              by_cases hlt : (ak : Int) < ((g : Int) * (bk : Int) + (bo : Int)) % 1000000000
              · have hltN : ak < subLess g bk bo := by rw [HLs.out] at hlt; omega
                have HB : Hid (subBo g bk bo ak = (g * bk + bo) / B9 + 1 ∧ subGr g bk bo ak = ak + B9 - subLess g bk bo) := Lib.hid ⟨by unfold subBo; rw [if_pos hltN], by unfold subGr; rw [if_pos hltN]⟩
                go_wp2_with fail
                exact ⟨⟨k + 1, _, _, by omega, by go_num, by rw [HB.out.1, HQs.out]; go_num, by
                  have hp := HP2.out (ak + 1000000000) ((ak : Int) + 1000000000) (by omega) (subGr g bk bo ak) ((ak : Int) + 1000000000 - ((g : Int) * (bk : Int) + (bo : Int)) % 1000000000) (by rw [HLs.out, HB.out.2, show B9 = 1000000000 from rfl]; omega)
                  rw [List.set_set] at hp
                  exact hp, HST.out, (HRB.out.far (by have := HGB.out.1; omega) _ _).far (by have := HGB.out.1; omega) _ _, (HRQ.out.far (by have := HGB.out.1; have := HGQ.out; omega) _ _).far (by have := HGB.out.1; have := HGQ.out; omega) _ _, (HX.out.setCell (p := ⟨ga, j + k, none⟩) HGA.out _).setCell (p := ⟨ga, j + k, none⟩) HGA.out _⟩, by simp [intOf]; omega⟩
              · have hltN : ¬ ak < subLess g bk bo := by rw [HLs.out] at hlt; omega
                have HB : Hid (subBo g bk bo ak = (g * bk + bo) / B9 ∧ subGr g bk bo ak = ak - subLess g bk bo) := Lib.hid ⟨by unfold subBo; rw [if_neg hltN]; rfl, by unfold subGr; rw [if_neg hltN]⟩
                go_wp2_with fail
                exact ⟨⟨k + 1, _, _, by omega, by go_num, by rw [HB.out.1, HQs.out], HP1.out (subGr g bk bo ak) _ (by rw [HLs.out, HB.out.2]; omega), HST.out, HRB.out.far (by have := HGB.out.1; omega) _ _, HRQ.out.far (by have := HGB.out.1; have := HGQ.out; omega) _ _, HX.out.setCell (p := ⟨ga, j + k, none⟩) HGA.out _⟩, by simp [intOf]; omega⟩
            · have hkl : k = LY := by omega
              subst hkl
              clear hltk hk
              have hat : at0 a1 (j + k) = t0 := by rw [HSB.out.top]; exact HQ0.out
              have ca := HRA.out.at0 (k := j + k) (by omega)
              rw [hat] at ca
              have fa := HRA.out.frozen (j + k)
              have fq := HRQ.out.frozen j
              have cq := HRQ.out.at0 (k := j) (by omega)
              have hqg : gq ≠ ga := by have := HGB.out.1; have := HGQ.out; omega
              have hgq' : ga ≠ gq := by have := HGB.out.1; have := HGQ.out; omega
              have hjk : ((j : Int) + (k : Int)).toNat = j + k := by omega
              have HSBk : Hid (SubIn g bL a j bL.length bo a1) := Lib.hid (by rw [hlyb]; exact HSB.out)
              have hgB9 : g < B9 := by have e9 : B9 = 1000000000 := rfl; rw [e9]; exact hgB
              have HGB9 := Lib.hid hgB9
              have HHJ : Hid (j + bL.length < k + (LX + 2 - k)) := Lib.hid (by omega)
              clear hgB9
              have e9 : B9 = 1000000000 := rfl
              rw [e9] at hbo
              clear e9
              by_cases hbt : bo ≤ t0
              · have HKR := Lib.hid ((HKN.out.right HDV.out (by omega) HSBk.out HGB9.out HGUESS.out.1 (by rw [hlyb, HQ0.out]; exact hbt)).1)
                rw [hlyb, HQ0.out] at HKR
                have HP1 := Lib.hid (fun v z hz => HRA.out.put (j + k) z v (by omega) hz)
                have HPQ := Lib.hid (fun W (hW : RowU W gq (LX + 2 - k) q) => hW.put j (g : Int) g (by omega) rfl)
                generalize at0 q j = qj at *
                go_wp2_with fail
                exact ⟨⟨j, _, _, by first | rfl | go_num, by omega, (HP1.out (t0 - bo) _ (by omega)).far hgq' _ _, (HRB.out.far (by have := HGB.out.1; omega) _ _).far (by have := HGQ.out; omega) _ _, HPQ.out _ (HRQ.out.far hqg _ _), HKR.out, (HX.out.setCell (p := ⟨ga, j + k, none⟩) HGA.out _).setCell (p := ⟨gq, j, none⟩) (by have := HGA.out; have := HGB.out.1; have := HGQ.out; show w.heap.size ≤ gq; omega) _⟩, by simp [intOf] <;> omega⟩
              · have hg0 := HKN.out.pos HDV.out (by omega) HSBk.out HGB9.out HGUESS.out.2 (by rw [hlyb, HQ0.out]; omega)
                obtain ⟨wo, rfl⟩ : ∃ wo : World, wo = wr := ⟨_, rfl⟩
                go_wp2_with fail
                clear ca fa fq cq
                go_loopw [200, 20, 21] (fun vk vc _ wr => ∃ (l ca : Nat) (a2 : List Nat), l ≤ k ∧ vk = .int .i64 l ∧ vc = .int .u64 ca ∧ RowU wr ga capA a2 ∧ AddIn bL a1 j l ca a2 ∧ RowU wr gb cB bL ∧ RowU wr gq (LX + 2 - k) q ∧ Ext w wr) (fun vk _ _ _ => k - (intOf vk).toNat)
                case atStart => exact ⟨0, 0, a1, by omega, rfl, rfl, HRA.out, AddIn.start HSB.out.all, HRB.out, HRQ.out, HX.out⟩
                case round =>
                  clear HRA HRB HRQ HX
                  obtain ⟨l, ca, a2, hl, rfl, rfl, hra, had, hrb', hrq, hx⟩ := hrel
                  have HRA := Lib.hid hra
                  have HAD := Lib.hid had
                  have HRB := Lib.hid hrb'
                  have HRQ := Lib.hid hrq
                  have HX := Lib.hid hx
                  have hl2 := had.len
                  have hcb := had.cb
                  clear hra had hrb' hrq hx
                  have bbl := HDV.out.all.at0 l
                  have bal := HAD.out.all.at0 (j + l)
                  have hgab : gb ≠ ga := by have := HGB.out.1; omega
                  have hgba : ga ≠ gb := by have := HGB.out.1; omega
                  by_cases hlk : l < k
                  · have cb := HRB.out.at0 (k := l) (by omega)
                    have cc := HRA.out.at0 (k := j + l) (by omega)
                    have fa := HRA.out.frozen (j + l)
                    have HST := Lib.hid (HAD.out.step HDV.out.all (by omega))
                    have HP2 := Lib.hid (fun z0 v0 hz0 z v hz => (HRA.out.put (j + l) z0 v0 (by omega) hz0).put (j + l) z v (by rw [List.length_set]; omega) hz)
                    generalize at0 bL l = bl at *
                    generalize at0 a2 (j + l) = al at *
                    have e9 : B9 = 1000000000 := rfl
                    rw [e9] at bbl bal HST
                    clear e9
                    have hjl : ((j : Int) + (l : Int)).toNat = j + l := by omega
                    have HC1 : Hid (((al : Int) + ((bl : Int) + (ca : Int))) / 1000000000 = (((al + (bl + ca)) / 1000000000 : Nat) : Int)) := Lib.hid (by omega)
                    have HP1 : Hid (((al : Int) + ((bl : Int) + (ca : Int))) % 1000000000 = (((al + (bl + ca)) % 1000000000 : Nat) : Int)) := Lib.hid (by omega)
                    go_wp2_with fail
                    go_region
                    go_wp2_with fail
                    refine ⟨⟨l + 1, _, _, by omega, by go_num, by rw [HC1.out], ?_, HST.out, ?_, ?_, ?_⟩, by simp [intOf]; omega⟩
                    · have hp := HP2.out ((al : Int) + ((bl : Int) + (ca : Int))) (al + (bl + ca)) (by omega) (((al : Int) + ((bl : Int) + (ca : Int))) % 1000000000) ((al + (bl + ca)) % 1000000000) HP1.out
                      rw [List.set_set] at hp
                      exact hp.drew
                    · exact ((HRB.out.far hgab _ _).far hgab _ _).drew
                    · exact ((HRQ.out.far hqg _ _).far hqg _ _).drew
                    · exact ((HX.out.setCell (p := ⟨ga, j + l, none⟩) HGA.out _).setCell (p := ⟨ga, j + l, none⟩) HGA.out _).drew
                  · have hkl : k = l := by omega
                    subst hkl
                    obtain ⟨_, htc, hat2, hkw⟩ := HKN.out.wrong HDV.out (by omega) HSBk.out (by rw [hlyb]; exact HAD.out) HGB9.out HGUESS.out.2 (by rw [hlyb, HQ0.out]; omega)
                    rw [hlyb, HQ0.out] at htc hat2
                    rw [hlyb] at hkw
                    have HKW := Lib.hid hkw
                    have cc := HRA.out.at0 (k := j + k) (by omega)
                    rw [hat2] at cc
                    have fa := HRA.out.frozen (j + k)
                    have fq := HRQ.out.frozen j
                    have cq := HRQ.out.at0 (k := j) (by omega)
                    have HP1 := Lib.hid (fun v z hz => HRA.out.put (j + k) z v (by omega) hz)
                    have HPQ := Lib.hid (fun W (hW : RowU W gq (LX + 2 - k) q) z hz => hW.put j z (g - 1) (by omega) hz)
                    generalize at0 q j = qj at *
                    clear hkw hat2 bal bbl hlk
                    go_wp2_with fail
                    exact ⟨⟨j, _, _, by first | rfl | go_num, by omega, (HP1.out 0 _ (by omega)).far hgq' _ _, (HRB.out.far (by have := HGB.out.1; omega) _ _).far (by have := HGQ.out; omega) _ _, HPQ.out _ (HRQ.out.far hqg _ _) _ (by omega), HKW.out, (HX.out.setCell (p := ⟨ga, j + k, none⟩) HGA.out _).setCell (p := ⟨gq, j, none⟩) (by have := HGA.out; have := HGB.out.1; have := HGQ.out; show w.heap.size ≤ gq; omega) _⟩, by simp [intOf] <;> omega⟩
end Go.Proofs.YthgpheopnhajaaaGreatDoor

/- Plain: quotients rounded down, and remainders, of integers; the order of integers. No program in sight. -/
namespace Go.Proofs.YthgpheopnhajaaaGreatDoor
open Go.RowKit
/-- the quotient, rounded down, and the remainder -/
def divF (x y : Int) : Int := if y < 0 then (-x) / (-y) else x / y
def modF (x y : Int) : Int := x - y * divF x y
theorem ediv_unique {x y q r : Int} (h : x = q * y + r) (h0 : 0 ≤ r) (h1 : r < y) : x / y = q := by
  have hy : 0 < y := by omega
  rw [h, Int.add_comm, Int.add_mul_ediv_right r q (by omega), Int.ediv_eq_zero_of_lt h0 h1, Int.zero_add]
theorem divF_unique {x y q r : Int} (h : x = q * y + r) (hr : (0 ≤ r ∧ r < y) ∨ (y < r ∧ r ≤ 0)) : divF x y = q ∧ modF x y = r := by
  have hd : divF x y = q := by
    unfold divF
    rcases hr with ⟨h0, h1⟩ | ⟨h0, h1⟩
    · rw [if_neg (by omega)]; exact ediv_unique h h0 h1
    · rw [if_pos (by omega)]
      refine ediv_unique (r := -r) ?_ (by omega) (by omega)
      rw [h, Int.neg_add, Int.mul_neg]
  refine ⟨hd, ?_⟩
  unfold modF; rw [hd, h, Int.mul_comm y q]; omega
/-- out of absolute values: nothing is left, or the signs are the same -/
theorem div_same {sx sy : Bool} {X Y : Nat} (hY : 0 < Y) (h : sx = sy ∨ X % Y = 0) : divF (sgn sx X) (sgn sy Y) = sgn (sx != sy) (X / Y) ∧ modF (sgn sx X) (sgn sy Y) = sgn sy (X % Y) := by
  have hd := Nat.div_add_mod X Y
  have hm := Nat.mod_lt X hY
  have hdI : (X : Int) = (X / Y : Nat) * (Y : Int) + (X % Y : Nat) := by
    rw [← Int.natCast_mul, ← Int.natCast_add, Nat.mul_comm, hd]
  generalize X / Y = q at *
  generalize X % Y = r at *
  apply divF_unique
  · rcases h with h | h
    · subst h
      cases sx
      · show (X : Int) = (q : Int) * Y + r
        exact hdI
      · show -(X : Int) = (q : Int) * -(Y : Int) + -(r : Int)
        rw [hdI, Int.mul_neg]; omega
    · subst h
      cases sx <;> cases sy
      · show (X : Int) = (q : Int) * Y + ((0 : Nat) : Int)
        exact hdI
      · show (X : Int) = -(q : Int) * -(Y : Int) + -((0 : Nat) : Int)
        rw [hdI, Int.neg_mul_neg]; omega
      · show -(X : Int) = -(q : Int) * (Y : Int) + ((0 : Nat) : Int)
        rw [hdI, Int.neg_mul]; omega
      · show -(X : Int) = (q : Int) * -(Y : Int) + -((0 : Nat) : Int)
        rw [hdI, Int.mul_neg]; omega
  · cases sy
    · left; show 0 ≤ (r : Int) ∧ (r : Int) < Y; omega
    · right; show -(Y : Int) < -(r : Int) ∧ -(r : Int) ≤ 0; omega
/-- the signs differ, and something is left -/
theorem div_other {sx sy : Bool} {X Y : Nat} (hY : 0 < Y) (hs : sx ≠ sy) (h0 : X % Y ≠ 0) : divF (sgn sx X) (sgn sy Y) = sgn true (X / Y + 1) ∧ modF (sgn sx X) (sgn sy Y) = sgn sy (Y - X % Y) := by
  have hd := Nat.div_add_mod X Y
  have hm := Nat.mod_lt X hY
  have hdI : (X : Int) = (X / Y : Nat) * (Y : Int) + (X % Y : Nat) := by
    rw [← Int.natCast_mul, ← Int.natCast_add, Nat.mul_comm, hd]
  generalize X / Y = q at *
  generalize X % Y = r at *
  have e : ((Y - r : Nat) : Int) = (Y : Int) - r := by omega
  apply divF_unique
  · cases sx <;> cases sy
    · exact absurd rfl hs
    · show (X : Int) = -((q + 1 : Nat) : Int) * -(Y : Int) + -((Y - r : Nat) : Int)
      rw [Int.neg_mul_neg, e, hdI, Int.natCast_add, Int.add_mul]; simp; omega
    · show -(X : Int) = -((q + 1 : Nat) : Int) * (Y : Int) + ((Y - r : Nat) : Int)
      rw [Int.neg_mul, e, hdI, Int.natCast_add, Int.add_mul]; simp; omega
    · exact absurd rfl hs
  · cases sy
    · left; show 0 ≤ ((Y - r : Nat) : Int) ∧ ((Y - r : Nat) : Int) < Y; omega
    · right; show -(Y : Int) < -((Y - r : Nat) : Int) ∧ -((Y - r : Nat) : Int) ≤ 0; omega
/-- the order of integers -/
def cmpI (x y : Int) : Int := if x < y then -1 else if x = y then 0 else 1
end Go.Proofs.YthgpheopnhajaaaGreatDoor

/- Plain: the order of strings; the first error of several. No program in sight. -/
namespace Go.Proofs.YthgpheopnhajaaaGreatDoor
open Go.RowKit
/-- a comes before b -/
def lt (a b : Bs) : Bool := Op.bytesLess a b
theorem lt_total : ∀ (a b : Bs), lt a b = false → lt b a = false → a = b := by
  intro a; induction a with
  | nil => intro b h _; cases b with | nil => rfl | cons d s => simp [lt, Op.bytesLess] at h
  | cons c r ih =>
    intro b h k; cases b with
    | nil => simp [lt, Op.bytesLess] at k
    | cons d s =>
      simp only [lt, Op.bytesLess, Bool.or_eq_false_iff, decide_eq_false_iff_not, Bool.and_eq_false_iff] at h k
      have e : c = d := by
        apply UInt8.toNat_inj.1
        have h1 := h.1; have k1 := k.1
        rw [UInt8.lt_iff_toNat_lt] at h1 k1; omega
      subst e
      have h2 : Op.bytesLess r s = false := by rcases h.2 with h | h; simp at h; exact h
      have k2 : Op.bytesLess s r = false := by rcases k.2 with h | h; simp at h; exact h
      rw [ih s h2 k2]
theorem lt_trans : ∀ (a b c : Bs), lt a b = true → lt b c = true → lt a c = true := by
  intro a; induction a with
  | nil =>
    intro b c h k; cases c with
    | nil => cases b <;> simp [lt, Op.bytesLess] at k
    | cons => rfl
  | cons x r ih =>
    intro b c h k; cases b with
    | nil => simp [lt, Op.bytesLess] at h
    | cons y s =>
      cases c with
      | nil => simp [lt, Op.bytesLess] at k
      | cons z t =>
        simp only [lt, Op.bytesLess, Bool.or_eq_true, decide_eq_true_eq, Bool.and_eq_true, beq_iff_eq] at h k ⊢
        rcases h with h | ⟨rfl, h⟩
        · rcases k with k | ⟨rfl, k⟩
          · left; rw [UInt8.lt_iff_toNat_lt] at h k ⊢; omega
          · left; exact h
        · rcases k with k | ⟨rfl, k⟩
          · left; exact k
          · right; exact ⟨rfl, ih s t h k⟩
end Go.Proofs.YthgpheopnhajaaaGreatDoor

/- Plain: the order of numbers by their digits. No program in sight. -/
namespace Go.Proofs.YthgpheopnhajaaaGreatDoor
open Go.RowKit
theorem dval_u {c : UInt8} (h : isD c = true) : c.toNat = dval c + 48 := by have := (isD_iff c).1 h; unfold dval; omega
theorem natOf_cons (c : UInt8) (r : Bs) : natOf (c :: r) = dval c * 10 ^ r.length + natOf r := by
  have := natOf_append [c] r
  rw [show natOf [c] = dval c by show 10 * 0 + dval c = _; omega] at this
  exact this
/-- digits of one length: the order of the strings is the order of the values -/
theorem lt_digits : ∀ {a b : Bs}, a.all isD = true → b.all isD = true → a.length = b.length → (lt a b = true ↔ natOf a < natOf b)
  | [], [], _, _, _ => by simp [lt, Op.bytesLess, natOf]
  | [], _ :: _, _, _, h => by simp at h
  | _ :: _, [], _, _, h => by simp at h
  | c :: r, d :: s, ha, hb, hl => by
    simp only [List.all_cons, Bool.and_eq_true] at ha hb
    have hl' : r.length = s.length := by simpa using hl
    have ih := lt_digits ha.2 hb.2 hl'
    rw [natOf_cons, natOf_cons, hl']
    have h1 := natOf_lt ha.2
    have h2 := natOf_lt hb.2
    rw [hl'] at h1
    have hc := dval_u ha.1
    have hd := dval_u hb.1
    simp only [lt, Op.bytesLess, Bool.or_eq_true, decide_eq_true_eq, Bool.and_eq_true, beq_iff_eq]
    rw [UInt8.lt_iff_toNat_lt]
    have hp : 0 < 10 ^ s.length := Nat.pow_pos (by decide)
    constructor
    · rintro (h | ⟨rfl, h⟩)
      · have : (dval c + 1) * 10 ^ s.length ≤ dval d * 10 ^ s.length := Nat.mul_le_mul_right _ (by omega)
        rw [Nat.add_mul, Nat.one_mul] at this; omega
      · have := ih.1 h; omega
    · intro h
      rcases Nat.lt_trichotomy (dval c) (dval d) with h3 | h3 | h3
      · left; omega
      · right
        have e : c = d := UInt8.toNat_inj.1 (by omega)
        subst e
        exact ⟨rfl, ih.2 (by omega)⟩
      · exfalso
        have : (dval d + 1) * 10 ^ s.length ≤ dval c * 10 ^ s.length := Nat.mul_le_mul_right _ (by omega)
        rw [Nat.add_mul, Nat.one_mul] at this; omega
theorem lead_ge {t : Bs} (ht : t.all isD = true) (hl : Lead t) (hn : t ≠ []) : 10 ^ (t.length - 1) ≤ natOf t := by
  cases t with
  | nil => exact absurd rfl hn
  | cons c r =>
    simp only [List.all_cons, Bool.and_eq_true] at ht
    rw [natOf_cons, List.length_cons, Nat.add_sub_cancel]
    have h1 := hl c r rfl
    have h2 := dval_u ht.1
    have h3 : dval c ≠ 0 := fun h => h1 (UInt8.toNat_inj.1 (by rw [h2, h]; rfl))
    have : 1 * 10 ^ r.length ≤ dval c * 10 ^ r.length := Nat.mul_le_mul_right _ (by omega)
    omega
theorem shorter_lt {s t : Bs} (hs : s.all isD = true) (ht : t.all isD = true) (hl : Lead t) (h : s.length < t.length) : natOf s < natOf t := by
  have h1 := natOf_lt hs
  have h2 := lead_ge ht hl (by rintro rfl; simp at h)
  have h3 : 10 ^ s.length ≤ 10 ^ (t.length - 1) := Nat.pow_le_pow_right (by decide) (by omega)
  omega
theorem neg_pos {l : Bs} (h : neg l = true) : 0 < natOf (mag l) := by
  have h0 : mag l ≠ [] := by
    unfold neg at h
    first
      | (intro e; simp [e] at h)
      | (intro e; unfold negT at h; rw [show magT (strip l) = mag l from rfl, e] at h; simp at h)
  have := lead_ge (mag_all l) (mag_lead l) h0
  exact Nat.lt_of_lt_of_le (Nat.pow_pos (by decide)) this
end Go.Proofs.YthgpheopnhajaaaGreatDoor

/- The program's division of magnitudes in all cases; its Neg and Compare. -/
namespace Go.Proofs.YthgpheopnhajaaaGreatDoor
open Go.RowKit
attribute [local go_sem] size_bs toList_bs
theorem intDivide (x y : Nat) (hy : 0 < y) (A A' : Option Addr) (c c' : Nat) (w : World) (hA : RdU w A (gr x)) (hA' : RdU w A' (gr y)) (hn : (gr x).length ≤ 900000) (hn' : (gr y).length ≤ 900000) (hc : (gr x).length ≤ c) (hm : c ≤ maxLen) :
    Calls Tryz.prog 213 #[.slice A (gr x).length c, .slice A' (gr y).length c'] w (DivEnds (x / y) (x % y) w) := by
  rcases Nat.lt_or_ge x y with h | h
  · exact intDivide_lt x y h A A' c c' w hA hA' (by omega) (by omega) hc hm
  · rcases Nat.lt_or_ge (gr y).length 2 with h2 | h2
    · have h0 : (gr y).length ≠ 0 := by
        intro e
        have e2 : gr y = [] := List.length_eq_zero_iff.1 e
        have e3 : y = 0 := gr_inj (by rw [e2, gr_zero])
        omega
      exact intDivide_one x y h (by omega) A A' c c' w hA hA' (by omega)
    · exact intDivide_long x y h h2 A A' c c' w hA hA' hn hn'
set_option maxRecDepth 100000 in
set_option maxHeartbeats 2000000 in
theorem intNeg (a : Bs) (w : World) (ha : a.length ≤ 100000) (hE : Env w) :
    Calls Tryz.prog 222 #[.string (bs a)] w fun e w' => e = .returned (.string (bs (ofI (-(valI a))))) ∧ Ext w w' := by
  have HR1 := Lib.hid (fun W => intRead a W (by omega))
  have HL1 : Hid ((gr (natOf (mag a))).length ≤ 1000000) := Lib.hid (by have := gr_len10 (mag_pow a ha); omega)
  have HE := Lib.hid hE
  have HV : Hid (txt (!(neg a)) (natOf (mag a)) = ofI (-(valI a))) := Lib.hid (by rw [txt_ofI, sgn_not]; rfl)
  generalize ofI (-(valI a)) = z at *
  generalize natOf (mag a) = x at *
  generalize neg a = ba at *
  clear ha hE
  go_enter Tryz.func222, Tryz.ntmps222
  go_wp2_with fail
  refine (HR1.out _).mono ?_
  rintro e w1 ⟨A, c, rfl, hrd1, hx1, hc1, hc2⟩
  have HD1 := Lib.hid hrd1
  have HX1 := Lib.hid hx1
  have HC := Lib.hid (And.intro hc1 hc2)
  clear hrd1 hx1 hc1 hc2
  go_wp2_with fail
  have HX2 : Hid (Ext w (w1.alloc (.cells #[.bool (!ba), .slice A (gr x).length c] 124))) := Lib.hid (HX1.out.alloc _)
  refine (intText (!ba) x A c _ (HD1.out.ext (Ext.new _ _)) HL1.out HC.out.1 HC.out.2 (HE.out.ext HX2.out)).mono ?_
  rintro e w5 ⟨rfl, hx5⟩
  rw [HV.out]
  go_wp2_with fail
  go_ret
  exact ⟨rfl, HX2.out.trans hx5⟩
theorem cmp_of {a b : Bool} {x y : Nat} {r : Int} (ha : a = true → 0 < x) (hb : b = true → 0 < y) (h : (r < 0 ∧ x < y) ∨ (r = 0 ∧ x = y) ∨ (0 < r ∧ y < x)) : cmpI (sgn a x) (sgn b y) = max (-1) (min (if (!(a == b)) = true then (if a then -1 else 1) else if a then -r else r) 1) := by
  unfold cmpI sgn
  cases a <;> cases b
  · simp; split <;> (try split) <;> omega
  · have := hb rfl; simp; omega
  · have := ha rfl; simp; omega
  · simp; split <;> (try split) <;> omega
set_option maxRecDepth 100000 in
set_option maxHeartbeats 2000000 in
theorem intCmp (a b : Bs) (w : World) (ha : a.length ≤ 100000) (hb : b.length ≤ 100000) :
    Calls Tryz.prog 20 #[.string (bs a), .string (bs b)] w fun e w' => e = .returned (.int .i64 (cmpI (valI a) (valI b))) ∧ Ext w w' := by
  have HR1 := Lib.hid (fun W => intRead a W (by omega))
  have HR2 := Lib.hid (fun W => intRead b W (by omega))
  have HL1 : Hid ((gr (natOf (mag a))).length ≤ 1000000) := Lib.hid (by have := gr_len10 (mag_pow a ha); omega)
  have HL2 : Hid ((gr (natOf (mag b))).length ≤ 1000000) := Lib.hid (by have := gr_len10 (mag_pow b hb); omega)
  have HV := Lib.hid (fun r h => cmp_of (a := neg a) (b := neg b) (x := natOf (mag a)) (y := natOf (mag b)) (r := r) neg_pos neg_pos h)
  rw [show sgn (neg a) (natOf (mag a)) = valI a from rfl, show sgn (neg b) (natOf (mag b)) = valI b from rfl] at HV
  generalize cmpI (valI a) (valI b) = z at *
  generalize natOf (mag a) = x at *
  generalize natOf (mag b) = y at *
  generalize neg a = ba at *
  generalize neg b = bb at *
  clear ha hb
  go_enter Tryz.func20, Tryz.ntmps20
  go_wp2_with fail
  refine (HR1.out _).mono ?_
  rintro e w1 ⟨A, c, rfl, hrd1, hx1, _, _⟩
  go_wp2_with fail
  refine (HR2.out _).mono ?_
  rintro e w2 ⟨A', c', rfl, hrd2, hx2, _, _⟩
  have HB1 := Lib.hid ((Blk.new w2 124 #[.bool ba, .slice A (gr x).length c]).alloc (.cells #[.bool bb, .slice A' (gr y).length c'] 124))
  have HB2 := Lib.hid (blk_at (w2.alloc (.cells #[.bool ba, .slice A (gr x).length c] 124)) 124 #[.bool bb, .slice A' (gr y).length c'] (w2.heap.size + 1) (by simp))
  have HX : Hid (Ext w ((w2.alloc (.cells #[.bool ba, .slice A (gr x).length c] 124)).alloc (.cells #[.bool bb, .slice A' (gr y).length c'] 124))) := Lib.hid (((hx1.trans hx2).alloc _).alloc _)
  have HD1 := Lib.hid (((hrd1.ext hx2).ext (Ext.new _ (.cells #[.bool ba, .slice A (gr x).length c] 124))).ext (Ext.new _ (.cells #[.bool bb, .slice A' (gr y).length c'] 124)))
  have HD2 := Lib.hid ((hrd2.ext (Ext.new _ (.cells #[.bool ba, .slice A (gr x).length c] 124))).ext (Ext.new _ (.cells #[.bool bb, .slice A' (gr y).length c'] 124)))
  clear hrd1 hrd2 hx1 hx2
  go_wp2_with fail
  generalize ((w2.alloc (.cells #[.bool ba, .slice A (gr x).length c] 124)).alloc (.cells #[.bool bb, .slice A' (gr y).length c'] 124)) = W at *
  generalize w2.heap.size = g at *
  refine (intCompareB x y A A' c c' _ HD1.out HD2.out HL1.out HL2.out).mono ?_
  rintro e w4 ⟨hx, r, rfl, hcase, hr1, hr2⟩
  have x0 := (HB1.out.ext hx).cell 0
  have y0 := (HB2.out.ext hx).cell 0
  simp only [List.getElem?_toArray, List.getElem?_cons_zero] at x0 y0
  replace HX := Lib.hid (HX.out.trans hx)
  have HZ := Lib.hid (HV.out r hcase)
  clear hx hcase
  cases ba <;> cases bb
  all_goals
    go_wp2_with fail
    go_ret
    exact ⟨by rw [HZ.out]; simp, HX.out⟩
end Go.Proofs.YthgpheopnhajaaaGreatDoor

/- The walk over the program's Div. -/
namespace Go.Proofs.YthgpheopnhajaaaGreatDoor
open Go.RowKit
attribute [local go_sem] size_bs toList_bs
/-- how Div stands in memory behind the division -/
structure DvAt (w : World) (g : Nat) (ba bb : Bool) (A A' A1 A2 : Option Addr) (x y q r c c' : Nat) (W : World) : Prop where
  ext : Ext w W
  b1 : Blk W g 124 #[.bool ba, .slice A (gr x).length c]
  b2 : Blk W (g + 1) 124 #[.bool bb, .slice A' (gr y).length c']
  ry : RdU W A' (gr y)
  rq : RdU W A1 (gr q)
  rr : RdU W A2 (gr r)
theorem DvAt.on {w : World} {g : Nat} {ba bb : Bool} {A A' A1 A2 : Option Addr} {x y q r c c' : Nat} {W W' : World} (h : DvAt w g ba bb A A' A1 A2 x y q r c c' W) (hx : Ext W W') : DvAt w g ba bb A A' A1 A2 x y q r c c' W' :=
  ⟨h.ext.trans hx, h.b1.ext hx, h.b2.ext hx, h.ry.ext hx, h.rq.ext hx, h.rr.ext hx⟩
theorem DvAt.cells {w : World} {g : Nat} {ba bb : Bool} {A A' A1 A2 : Option Addr} {x y q r c c' : Nat} {W : World} (h : DvAt w g ba bb A A' A1 A2 x y q r c c' W) : W.cell? ⟨g, 0, none⟩ = some (.bool ba) ∧ W.cell? ⟨g + 1, 0, none⟩ = some (.bool bb) ∧ W.cell? ⟨g + 1, 1, none⟩ = some (.slice A' (gr y).length c') := by
  have x0 := h.b1.cell 0
  have y0 := h.b2.cell 0
  have y1 := h.b2.cell 1
  simp only [List.getElem?_toArray, List.getElem?_cons_zero, List.getElem?_cons_succ] at x0 y0 y1
  exact ⟨x0, y0, y1⟩
theorem lit1 {W : World} {g : Nat} (h : W.heap.size = g) : RdU (W.alloc (.cells #[.int .u64 1] 183)) (some ⟨g, 0, none⟩) [1] := by
  subst h; exact Reads.lit rfl
theorem gr_le {m n L : Nat} (h : n ≤ m + 1) (hm : m < 10 ^ L) (hL : L ≤ 100000) : (gr n).length ≤ 1000000 := by
  have h1 : n < 10 ^ (L + 1) := by rw [Nat.pow_succ]; omega
  have := gr_len10 h1
  omega
set_option maxRecDepth 100000 in
set_option maxHeartbeats 4000000 in
theorem intDiv_some (a b : Bs) (w : World) (ha : a.length ≤ 100000) (hb : b.length ≤ 100000) (h0 : 0 < natOf (mag b)) (hE : Env w) :
    Calls Tryz.prog 144 #[.string (bs a), .string (bs b)] w fun e w' => e = .returned (.tuple #[.string (bs (ofI (divF (valI a) (valI b)))), .string (bs (ofI (modF (valI a) (valI b)))), .int .i64 0]) ∧ Ext w w' := by
  have HR1 := Lib.hid (fun W => intRead a W (by omega))
  have HR2 := Lib.hid (fun W => intRead b W (by omega))
  obtain ⟨L, hLa, hLb, hL⟩ : ∃ L : Nat, a.length ≤ L ∧ b.length ≤ L ∧ L ≤ 100000 := ⟨max a.length b.length, by omega, by omega, by omega⟩
  have HL1 : Hid ((gr (natOf (mag a))).length ≤ 900000) := Lib.hid (by have := gr_len10 (mag_pow a hLa); omega)
  have HL2 : Hid ((gr (natOf (mag b))).length ≤ 900000) := Lib.hid (by have := gr_len10 (mag_pow b hLb); omega)
  have HLQ : Hid (∀ n, n ≤ natOf (mag a) + 1 → (gr n).length ≤ 1000000) := Lib.hid (fun n h => gr_le h (mag_pow a hLa) hL)
  have HLR : Hid (∀ n, n ≤ natOf (mag b) + 1 → (gr n).length ≤ 1000000) := Lib.hid (fun n h => gr_le h (mag_pow b hLb) hL)
  have HE := Lib.hid hE
  have HS : Hid ((neg a = neg b ∨ natOf (mag a) % natOf (mag b) = 0) → txt (neg a != neg b) (natOf (mag a) / natOf (mag b)) = ofI (divF (valI a) (valI b)) ∧ txt (neg b) (natOf (mag a) % natOf (mag b)) = ofI (modF (valI a) (valI b))) := Lib.hid (fun h => by
    have := div_same h0 h
    rw [txt_ofI, txt_ofI, ← this.1, ← this.2]; exact ⟨rfl, rfl⟩)
  have HO : Hid (neg a ≠ neg b → natOf (mag a) % natOf (mag b) ≠ 0 → txt true (natOf (mag a) / natOf (mag b) + 1) = ofI (divF (valI a) (valI b)) ∧ txt (neg b) (natOf (mag b) - natOf (mag a) % natOf (mag b)) = ofI (modF (valI a) (valI b))) := Lib.hid (fun h h2 => by
    have := div_other h0 h h2
    rw [txt_ofI, txt_ofI, ← this.1, ← this.2]; exact ⟨rfl, rfl⟩)
  generalize ofI (divF (valI a) (valI b)) = zq at *
  generalize ofI (modF (valI a) (valI b)) = zr at *
  generalize natOf (mag a) = x at *
  generalize natOf (mag b) = y at *
  generalize neg a = ba at *
  generalize neg b = bb at *
  have hyl : 0 < (gr y).length := by
    rcases Nat.eq_zero_or_pos (gr y).length with e | e
    · have e3 : y = 0 := gr_inj (by rw [List.length_eq_zero_iff.1 e, gr_zero])
      omega
    · exact e
  clear ha hb hLa hLb hE
  go_enter Tryz.func144, Tryz.ntmps144
  go_wp2_with fail
  refine (HR1.out _).mono ?_
  rintro e w1 ⟨A, c, rfl, hrd1, hx1, hca, hcm⟩
  have HC := Lib.hid (And.intro hca hcm)
  clear hca hcm
  go_wp2_with fail
  refine (HR2.out _).mono ?_
  rintro e w2 ⟨A', c', rfl, hrd2, hx2, _, _⟩
  have HB1 := Lib.hid ((Blk.new w2 124 #[.bool ba, .slice A (gr x).length c]).alloc (.cells #[.bool bb, .slice A' (gr y).length c'] 124))
  have HB2 := Lib.hid (blk_at (w2.alloc (.cells #[.bool ba, .slice A (gr x).length c] 124)) 124 #[.bool bb, .slice A' (gr y).length c'] (w2.heap.size + 1) (by simp))
  have HX : Hid (Ext w ((w2.alloc (.cells #[.bool ba, .slice A (gr x).length c] 124)).alloc (.cells #[.bool bb, .slice A' (gr y).length c'] 124))) := Lib.hid (((hx1.trans hx2).alloc _).alloc _)
  have HD1 := Lib.hid (((hrd1.ext hx2).ext (Ext.new _ (.cells #[.bool ba, .slice A (gr x).length c] 124))).ext (Ext.new _ (.cells #[.bool bb, .slice A' (gr y).length c'] 124)))
  have HD2 := Lib.hid ((hrd2.ext (Ext.new _ (.cells #[.bool ba, .slice A (gr x).length c] 124))).ext (Ext.new _ (.cells #[.bool bb, .slice A' (gr y).length c'] 124)))
  clear hrd1 hrd2 hx1 hx2
  go_wp2_with fail
  generalize ((w2.alloc (.cells #[.bool ba, .slice A (gr x).length c] 124)).alloc (.cells #[.bool bb, .slice A' (gr y).length c'] 124)) = W at *
  generalize w2.heap.size = g at *
  refine (intDivide x y h0 A A' c c' _ HD1.out HD2.out HL1.out HL2.out HC.out.1 HC.out.2).mono ?_
  rintro e w4 ⟨A1, c1, A2, c2, rfl, hrq, hrr, hx, hq, hr⟩
  have H : Hid (DvAt w g ba bb A A' A1 A2 x y (x / y) (x % y) c c' w4) := Lib.hid ⟨HX.out.trans hx, HB1.out.ext hx, HB2.out.ext hx, HD2.out.ext hx, hrq, hrr⟩
  have HCQ := Lib.hid hq
  have HCR := Lib.hid hr
  have hrl : x % y < y := Nat.mod_lt _ h0
  have hql : x / y ≤ x := Nat.div_le_self _ _
  have HLq := Lib.hid (HLQ.out (x / y) (by omega))
  have HLr := Lib.hid (HLR.out (x % y) (by omega))
  have HLq1 := Lib.hid (HLQ.out (x / y + 1) (by omega))
  have HLr1 := Lib.hid (HLR.out (y - x % y) (by omega))
  have HMI := Lib.hid (fun W hW hW' => intMinus y (x % y) (by omega) A' A2 c' c2 W hW hW' (by have := HL2.out; omega) HLr.out)
  have HPL : Hid (∀ W B, RdU W A1 (gr (x / y)) → RdU W B [1] → Calls Tryz.prog 133 #[.slice A1 (gr (x / y)).length c1, .slice B 1 1] W (MagEnds (x / y + 1) W)) := Lib.hid (fun W B h1 h2 => by
    have e1 : gr 1 = [1] := gr_small (by decide) (by decide)
    have := intPlus (x / y) 1 A1 B c1 1 W h1 (by rw [e1]; exact h2) HLq.out (by rw [e1]; simp)
    rw [e1] at this
    exact this)
  clear hrq hrr hx hq hr HB1 HB2 HX HD1 HD2 HR1 HR2 HL1 HL2 HLQ HLR hrl hql
  cases ba <;> cases bb
  · have HVQ : Hid (txt false (x / y) = zq) := Lib.hid (HS.out (.inl rfl)).1
    have HVR : Hid (txt false (x % y) = zr) := Lib.hid (HS.out (.inl rfl)).2
    clear HLq1 HLr1 HMI HPL HS HO
    generalize x / y = qq at *
    generalize x % y = rr at *
    have HT2 := Lib.hid (fun s W h1 h2 => intText s rr A2 c2 W h1 HLr.out HCR.out.1 HCR.out.2 h2)
    obtain ⟨x0, y0, y1⟩ := H.out.cells
    go_wp2_with fail
    replace H := Lib.hid (H.out.on (Ext.refl _).drew)
    go_region_held3 (fun w' => w'.cell? ⟨g, 0, none⟩ = some (.bool false) ∧ w'.cell? ⟨g + 1, 0, none⟩ = some (.bool false))
      (go_keep)
      (first
        | (go_at_call 80; ((with_reducible refine (intText _ qq A1 c1 _ H.out.rq HLq.out HCQ.out.1 HCQ.out.2 (HE.out.ext H.out.ext)).mono ?_); rintro e w5 ⟨rfl, hx⟩); (replace H := Lib.hid (H.out.on hx)); (obtain ⟨u0, v0, _⟩ := H.out.cells); clear hx)
        | (go_at_call 80; ((with_reducible refine (HT2.out _ _ H.out.rr (HE.out.ext H.out.ext)).mono ?_); rintro e w6 ⟨rfl, hx⟩); (replace H := Lib.hid (H.out.on hx)); (obtain ⟨s0, t0, _⟩ := H.out.cells); clear hx))
    all_goals
      rw [HVQ.out, HVR.out]
      go_wp2_with fail
      go_ret3
      exact ⟨rfl, H.out.ext⟩
  · by_cases hz : x % y = 0
    · have HVQ : Hid (txt true (x / y) = zq) := Lib.hid (HS.out (.inr hz)).1
      have HVR : Hid (txt true (x % y) = zr) := Lib.hid (HS.out (.inr hz)).2
      have hl0 : (gr (x % y)).length = 0 := by rw [hz, gr_zero]; rfl
      clear HLq1 HLr1 HMI HPL HS HO hz
      generalize x / y = qq at *
      generalize x % y = rr at *
      have HT2 := Lib.hid (fun s W h1 h2 => intText s rr A2 c2 W h1 HLr.out HCR.out.1 HCR.out.2 h2)
      rw [hl0] at HT2
      obtain ⟨x0, y0, y1⟩ := H.out.cells
      go_wp2_with fail
      replace H := Lib.hid (H.out.on (Ext.refl _).drew)
      go_region_held3 (fun w' => w'.cell? ⟨g, 0, none⟩ = some (.bool false) ∧ w'.cell? ⟨g + 1, 0, none⟩ = some (.bool true))
        (go_keep)
        (first
          | (go_at_call 80; ((with_reducible refine (intText _ qq A1 c1 _ H.out.rq HLq.out HCQ.out.1 HCQ.out.2 (HE.out.ext H.out.ext)).mono ?_); rintro e w5 ⟨rfl, hx⟩); (replace H := Lib.hid (H.out.on hx)); (obtain ⟨u0, v0, _⟩ := H.out.cells); clear hx)
          | (go_at_call 80; ((with_reducible refine (HT2.out _ _ H.out.rr (HE.out.ext H.out.ext)).mono ?_); rintro e w6 ⟨rfl, hx⟩); (replace H := Lib.hid (H.out.on hx)); (obtain ⟨s0, t0, _⟩ := H.out.cells); clear hx))
      all_goals
        rw [HVQ.out, HVR.out]
        go_wp2_with fail
        go_ret3
        exact ⟨rfl, H.out.ext⟩
    · have HVQ : Hid (txt true (x / y + 1) = zq) := Lib.hid (HO.out (by decide) hz).1
      have HVR : Hid (txt true (y - x % y) = zr) := Lib.hid (HO.out (by decide) hz).2
      have hl0 : 0 < (gr (x % y)).length := by
        rcases Nat.eq_zero_or_pos (gr (x % y)).length with e | e
        · exact absurd (gr_inj (by rw [List.length_eq_zero_iff.1 e, gr_zero]) : x % y = 0) hz
        · exact e
      clear HS HO hz HLq HLr HCQ HCR
      generalize x / y = q0 at *
      generalize x % y = r0 at *
      obtain ⟨x0, y0, y1⟩ := H.out.cells
      have hgs := H.out.b2.lt
      go_wp2_with fail
      have H0 := H
      replace H := Lib.hid (H.out.on (Ext.refl _).drew)
      obtain ⟨x2, y2, y3⟩ := H.out.cells
      go_region_held3 (fun w' => w'.cell? ⟨g + 1, 1, none⟩ = some (.slice A' (gr y).length c'))
        (go_keep)
        (first
          | (go_at_call 133; ((with_reducible refine (HPL.out _ _ ((H0.out.on (Ext.new _ _)).on (Ext.refl _).drew).rq ((lit1 (by first | rfl | simp)).ext (Ext.refl _).drew)).mono ?_); rintro e w5 ⟨A3, c3, rfl, hrd3, hx, hc3, hm3⟩); (replace H := Lib.hid (((H0.out.on (Ext.new _ _)).on (Ext.refl _).drew).on hx)); (have HCQ := Lib.hid (And.intro hc3 hm3)); (have HRQ := Lib.hid hrd3); (obtain ⟨_, _, v1⟩ := H.out.cells); (try (replace HRR := Lib.hid (HRR.out.ext hx))); clear hx hrd3 hc3 hm3)
          | (go_at_call 133; ((with_reducible refine (HPL.out _ _ (H.out.on (Ext.new _ _)).rq (lit1 (by first | rfl | simp))).mono ?_); rintro e w5 ⟨A3, c3, rfl, hrd3, hx, hc3, hm3⟩); (replace H := Lib.hid ((H.out.on (Ext.new _ _)).on hx)); (have HCQ := Lib.hid (And.intro hc3 hm3)); (have HRQ := Lib.hid hrd3); (obtain ⟨_, _, v1⟩ := H.out.cells); (try (replace HRR := Lib.hid (HRR.out.ext hx))); clear hx hrd3 hc3 hm3)
          | (go_at_call 133; ((with_reducible refine (HPL.out _ _ H.out.rq HLIT.out).mono ?_); rintro e w5 ⟨A3, c3, rfl, hrd3, hx, hc3, hm3⟩); (replace H := Lib.hid (H.out.on hx)); (have HCQ := Lib.hid (And.intro hc3 hm3)); (have HRQ := Lib.hid hrd3); (obtain ⟨_, _, v1⟩ := H.out.cells); (try (replace HRR := Lib.hid (HRR.out.ext hx))); clear hx hrd3 hc3 hm3)
          | (go_at_call 134; ((with_reducible refine (HMI.out _ H.out.ry H.out.rr).mono ?_); rintro e w6 ⟨A4, c4, rfl, hrd4, hx, hc4, hm4⟩); (replace H := Lib.hid (H.out.on hx)); (have HCR := Lib.hid (And.intro hc4 hm4)); (have HRR := Lib.hid hrd4); (obtain ⟨_, _, v1⟩ := H.out.cells); (try (replace HRQ := Lib.hid (HRQ.out.ext hx))); clear hx hrd4 hc4 hm4)
          | (go_at_call 134; ((with_reducible refine (HMI.out _ ((H0.out.on (Ext.new _ _)).on (Ext.refl _).drew).ry ((H0.out.on (Ext.new _ _)).on (Ext.refl _).drew).rr).mono ?_); rintro e w6 ⟨A4, c4, rfl, hrd4, hx, hc4, hm4⟩); (have HLIT : Hid (RdU w6 _ [1]) := Lib.hid (((lit1 rfl).ext (Ext.refl _).drew).ext hx)); (replace H := Lib.hid (((H0.out.on (Ext.new _ _)).on (Ext.refl _).drew).on hx)); (have HCR := Lib.hid (And.intro hc4 hm4)); (have HRR := Lib.hid hrd4); (obtain ⟨_, _, v1⟩ := H.out.cells); clear hx hrd4 hc4 hm4))
      all_goals
        replace H : Hid (DvAt w g false true A A' A3 A4 x y (q0 + 1) (y - r0) c c' _) := Lib.hid ⟨H.out.ext, H.out.b1, H.out.b2, H.out.ry, HRQ.out, HRR.out⟩
        have HLq := HLq1
        have HLr := HLr1
        clear HLq1 HLr1 HMI HPL HRQ HRR
        generalize q0 + 1 = qq at *
        generalize y - r0 = rr at *
        have HT2 := Lib.hid (fun s W h1 h2 => intText s rr A4 c4 W h1 HLr.out HCR.out.1 HCR.out.2 h2)
        obtain ⟨x0, y0, y1⟩ := H.out.cells
        go_wp2_with fail
        replace H := Lib.hid (H.out.on (Ext.refl _).drew)
        go_region_held3 (fun w' => w'.cell? ⟨g, 0, none⟩ = some (.bool false) ∧ w'.cell? ⟨g + 1, 0, none⟩ = some (.bool true))
          (go_keep)
          (first
            | (go_at_call 80; ((with_reducible refine (intText _ qq A3 c3 _ H.out.rq HLq.out HCQ.out.1 HCQ.out.2 (HE.out.ext H.out.ext)).mono ?_); rintro e w5 ⟨rfl, hx⟩); (replace H := Lib.hid (H.out.on hx)); (obtain ⟨u0, v0, _⟩ := H.out.cells); clear hx)
            | (go_at_call 80; ((with_reducible refine (HT2.out _ _ H.out.rr (HE.out.ext H.out.ext)).mono ?_); rintro e w6 ⟨rfl, hx⟩); (replace H := Lib.hid (H.out.on hx)); (obtain ⟨s0, t0, _⟩ := H.out.cells); clear hx))
        all_goals
          rw [HVQ.out, HVR.out]
          go_wp2_with fail
          go_ret3
          exact ⟨rfl, H.out.ext⟩
  · by_cases hz : x % y = 0
    · have HVQ : Hid (txt true (x / y) = zq) := Lib.hid (HS.out (.inr hz)).1
      have HVR : Hid (txt false (x % y) = zr) := Lib.hid (HS.out (.inr hz)).2
      have hl0 : (gr (x % y)).length = 0 := by rw [hz, gr_zero]; rfl
      clear HLq1 HLr1 HMI HPL HS HO hz
      generalize x / y = qq at *
      generalize x % y = rr at *
      have HT2 := Lib.hid (fun s W h1 h2 => intText s rr A2 c2 W h1 HLr.out HCR.out.1 HCR.out.2 h2)
      rw [hl0] at HT2
      obtain ⟨x0, y0, y1⟩ := H.out.cells
      go_wp2_with fail
      replace H := Lib.hid (H.out.on (Ext.refl _).drew)
      go_region_held3 (fun w' => w'.cell? ⟨g, 0, none⟩ = some (.bool true) ∧ w'.cell? ⟨g + 1, 0, none⟩ = some (.bool false))
        (go_keep)
        (first
          | (go_at_call 80; ((with_reducible refine (intText _ qq A1 c1 _ H.out.rq HLq.out HCQ.out.1 HCQ.out.2 (HE.out.ext H.out.ext)).mono ?_); rintro e w5 ⟨rfl, hx⟩); (replace H := Lib.hid (H.out.on hx)); (obtain ⟨u0, v0, _⟩ := H.out.cells); clear hx)
          | (go_at_call 80; ((with_reducible refine (HT2.out _ _ H.out.rr (HE.out.ext H.out.ext)).mono ?_); rintro e w6 ⟨rfl, hx⟩); (replace H := Lib.hid (H.out.on hx)); (obtain ⟨s0, t0, _⟩ := H.out.cells); clear hx))
      all_goals
        rw [HVQ.out, HVR.out]
        go_wp2_with fail
        go_ret3
        exact ⟨rfl, H.out.ext⟩
    · have HVQ : Hid (txt true (x / y + 1) = zq) := Lib.hid (HO.out (by decide) hz).1
      have HVR : Hid (txt false (y - x % y) = zr) := Lib.hid (HO.out (by decide) hz).2
      have hl0 : 0 < (gr (x % y)).length := by
        rcases Nat.eq_zero_or_pos (gr (x % y)).length with e | e
        · exact absurd (gr_inj (by rw [List.length_eq_zero_iff.1 e, gr_zero]) : x % y = 0) hz
        · exact e
      clear HS HO hz HLq HLr HCQ HCR
      generalize x / y = q0 at *
      generalize x % y = r0 at *
      obtain ⟨x0, y0, y1⟩ := H.out.cells
      have hgs := H.out.b2.lt
      go_wp2_with fail
      have H0 := H
      replace H := Lib.hid (H.out.on (Ext.refl _).drew)
      obtain ⟨x2, y2, y3⟩ := H.out.cells
      go_region_held3 (fun w' => w'.cell? ⟨g + 1, 1, none⟩ = some (.slice A' (gr y).length c'))
        (go_keep)
        (first
          | (go_at_call 133; ((with_reducible refine (HPL.out _ _ ((H0.out.on (Ext.new _ _)).on (Ext.refl _).drew).rq ((lit1 (by first | rfl | simp)).ext (Ext.refl _).drew)).mono ?_); rintro e w5 ⟨A3, c3, rfl, hrd3, hx, hc3, hm3⟩); (replace H := Lib.hid (((H0.out.on (Ext.new _ _)).on (Ext.refl _).drew).on hx)); (have HCQ := Lib.hid (And.intro hc3 hm3)); (have HRQ := Lib.hid hrd3); (obtain ⟨_, _, v1⟩ := H.out.cells); (try (replace HRR := Lib.hid (HRR.out.ext hx))); clear hx hrd3 hc3 hm3)
          | (go_at_call 133; ((with_reducible refine (HPL.out _ _ (H.out.on (Ext.new _ _)).rq (lit1 (by first | rfl | simp))).mono ?_); rintro e w5 ⟨A3, c3, rfl, hrd3, hx, hc3, hm3⟩); (replace H := Lib.hid ((H.out.on (Ext.new _ _)).on hx)); (have HCQ := Lib.hid (And.intro hc3 hm3)); (have HRQ := Lib.hid hrd3); (obtain ⟨_, _, v1⟩ := H.out.cells); (try (replace HRR := Lib.hid (HRR.out.ext hx))); clear hx hrd3 hc3 hm3)
          | (go_at_call 133; ((with_reducible refine (HPL.out _ _ H.out.rq HLIT.out).mono ?_); rintro e w5 ⟨A3, c3, rfl, hrd3, hx, hc3, hm3⟩); (replace H := Lib.hid (H.out.on hx)); (have HCQ := Lib.hid (And.intro hc3 hm3)); (have HRQ := Lib.hid hrd3); (obtain ⟨_, _, v1⟩ := H.out.cells); (try (replace HRR := Lib.hid (HRR.out.ext hx))); clear hx hrd3 hc3 hm3)
          | (go_at_call 134; ((with_reducible refine (HMI.out _ H.out.ry H.out.rr).mono ?_); rintro e w6 ⟨A4, c4, rfl, hrd4, hx, hc4, hm4⟩); (replace H := Lib.hid (H.out.on hx)); (have HCR := Lib.hid (And.intro hc4 hm4)); (have HRR := Lib.hid hrd4); (obtain ⟨_, _, v1⟩ := H.out.cells); (try (replace HRQ := Lib.hid (HRQ.out.ext hx))); clear hx hrd4 hc4 hm4)
          | (go_at_call 134; ((with_reducible refine (HMI.out _ ((H0.out.on (Ext.new _ _)).on (Ext.refl _).drew).ry ((H0.out.on (Ext.new _ _)).on (Ext.refl _).drew).rr).mono ?_); rintro e w6 ⟨A4, c4, rfl, hrd4, hx, hc4, hm4⟩); (have HLIT : Hid (RdU w6 _ [1]) := Lib.hid (((lit1 rfl).ext (Ext.refl _).drew).ext hx)); (replace H := Lib.hid (((H0.out.on (Ext.new _ _)).on (Ext.refl _).drew).on hx)); (have HCR := Lib.hid (And.intro hc4 hm4)); (have HRR := Lib.hid hrd4); (obtain ⟨_, _, v1⟩ := H.out.cells); clear hx hrd4 hc4 hm4))
      all_goals
        replace H : Hid (DvAt w g true false A A' A3 A4 x y (q0 + 1) (y - r0) c c' _) := Lib.hid ⟨H.out.ext, H.out.b1, H.out.b2, H.out.ry, HRQ.out, HRR.out⟩
        have HLq := HLq1
        have HLr := HLr1
        clear HLq1 HLr1 HMI HPL HRQ HRR
        generalize q0 + 1 = qq at *
        generalize y - r0 = rr at *
        have HT2 := Lib.hid (fun s W h1 h2 => intText s rr A4 c4 W h1 HLr.out HCR.out.1 HCR.out.2 h2)
        obtain ⟨x0, y0, y1⟩ := H.out.cells
        go_wp2_with fail
        replace H := Lib.hid (H.out.on (Ext.refl _).drew)
        go_region_held3 (fun w' => w'.cell? ⟨g, 0, none⟩ = some (.bool true) ∧ w'.cell? ⟨g + 1, 0, none⟩ = some (.bool false))
          (go_keep)
          (first
            | (go_at_call 80; ((with_reducible refine (intText _ qq A3 c3 _ H.out.rq HLq.out HCQ.out.1 HCQ.out.2 (HE.out.ext H.out.ext)).mono ?_); rintro e w5 ⟨rfl, hx⟩); (replace H := Lib.hid (H.out.on hx)); (obtain ⟨u0, v0, _⟩ := H.out.cells); clear hx)
            | (go_at_call 80; ((with_reducible refine (HT2.out _ _ H.out.rr (HE.out.ext H.out.ext)).mono ?_); rintro e w6 ⟨rfl, hx⟩); (replace H := Lib.hid (H.out.on hx)); (obtain ⟨s0, t0, _⟩ := H.out.cells); clear hx))
        all_goals
          rw [HVQ.out, HVR.out]
          go_wp2_with fail
          go_ret3
          exact ⟨rfl, H.out.ext⟩
  · have HVQ : Hid (txt false (x / y) = zq) := Lib.hid (HS.out (.inl rfl)).1
    have HVR : Hid (txt true (x % y) = zr) := Lib.hid (HS.out (.inl rfl)).2
    clear HLq1 HLr1 HMI HPL HS HO
    generalize x / y = qq at *
    generalize x % y = rr at *
    have HT2 := Lib.hid (fun s W h1 h2 => intText s rr A2 c2 W h1 HLr.out HCR.out.1 HCR.out.2 h2)
    obtain ⟨x0, y0, y1⟩ := H.out.cells
    go_wp2_with fail
    replace H := Lib.hid (H.out.on (Ext.refl _).drew)
    go_region_held3 (fun w' => w'.cell? ⟨g, 0, none⟩ = some (.bool true) ∧ w'.cell? ⟨g + 1, 0, none⟩ = some (.bool true))
      (go_keep)
      (first
        | (go_at_call 80; ((with_reducible refine (intText _ qq A1 c1 _ H.out.rq HLq.out HCQ.out.1 HCQ.out.2 (HE.out.ext H.out.ext)).mono ?_); rintro e w5 ⟨rfl, hx⟩); (replace H := Lib.hid (H.out.on hx)); (obtain ⟨u0, v0, _⟩ := H.out.cells); clear hx)
        | (go_at_call 80; ((with_reducible refine (HT2.out _ _ H.out.rr (HE.out.ext H.out.ext)).mono ?_); rintro e w6 ⟨rfl, hx⟩); (replace H := Lib.hid (H.out.on hx)); (obtain ⟨s0, t0, _⟩ := H.out.cells); clear hx))
    all_goals
      rw [HVQ.out, HVR.out]
      go_wp2_with fail
      go_ret3
      exact ⟨rfl, H.out.ext⟩
end Go.Proofs.YthgpheopnhajaaaGreatDoor

/- Plain: fractions in lowest terms. No program in sight. -/
namespace Go.Proofs.YthgpheopnhajaaaGreatDoor
open Go.RowKit
/-- a fraction: numerator and denominator as strings -/
structure Fr where
  num : Bs
  den : Bs
/-- n / d in lowest terms, the denominator positive -/
def redN (n d : Int) : Int := (if d < 0 then -n else n) / (Int.gcd n d : Nat)
def redD (n d : Int) : Int := (d.natAbs / Int.gcd n d : Nat)
def frq (n d : Int) : Fr := ⟨ofI (redN n d), if redD n d = 1 then [] else ofI (redD n d)⟩
theorem gcd_pos {n d : Int} (hd : d ≠ 0) : 0 < Int.gcd n d := Int.gcd_pos_of_ne_zero_right _ hd
theorem redN_exact {n d : Int} (_hd : d ≠ 0) : redN n d * (Int.gcd n d : Nat) = if d < 0 then -n else n := by
  unfold redN
  apply Int.ediv_mul_cancel
  split
  · exact Int.dvd_neg.2 (Int.gcd_dvd_left n d)
  · exact Int.gcd_dvd_left n d
theorem redD_exact {n d : Int} (_hd : d ≠ 0) : redD n d * (Int.gcd n d : Nat) = d.natAbs := by
  unfold redD
  rw [← Int.natCast_mul]
  congr 1
  apply Nat.div_mul_cancel
  exact Nat.gcd_dvd_right n.natAbs d.natAbs
/-- the value of a fraction: numerator and denominator; a denominator 0 stands for 1 -/
def frN (f : Fr) : Int := valI f.num
def frD (f : Fr) : Int := if valI f.den = 0 then 1 else valI f.den
theorem frD_ne (f : Fr) : frD f ≠ 0 := by unfold frD; split; decide; assumption
end Go.Proofs.YthgpheopnhajaaaGreatDoor

/- Plain: fractions as rational numbers, and how large they are. No program in sight. -/
namespace Go.Proofs.YthgpheopnhajaaaGreatDoor
open Go.RowKit
/-- the canonical fraction of a rational number -/
def ofQ (q : Rat) : Fr := ⟨ofI q.num, if q.den = 1 then [] else ofI q.den⟩
/-- the value of a fraction -/
def frQ (f : Fr) : Rat := Rat.divInt (frN f) (frD f)
theorem redN_num {n d : Int} (hd : d ≠ 0) : redN n d = (Rat.divInt n d).num := by
  unfold redN
  rw [Rat.num_divInt, Int.gcd_comm d n]
  congr 1
  rcases Int.lt_or_gt_of_ne hd with h | h
  · rw [if_pos h, Int.sign_eq_neg_one_of_neg h]; omega
  · rw [if_neg (by omega), Int.sign_eq_one_of_pos h]; omega
theorem redD_den {n d : Int} (hd : d ≠ 0) : redD n d = (Rat.divInt n d).den := by
  unfold redD
  rw [Rat.den_divInt, if_neg hd, Int.gcd_comm d n]
theorem frq_ofQ {n d : Int} (hd : d ≠ 0) : frq n d = ofQ (Rat.divInt n d) := by
  unfold frq ofQ
  rw [redN_num hd, redD_den hd]
  congr 1
  by_cases h : (Rat.divInt n d).den = 1
  · rw [if_pos (by omega), if_pos h]
  · rw [if_neg (by omega), if_neg h]
theorem frN_ofQ (q : Rat) : frN (ofQ q) = q.num := valI_ofI _
theorem frD_ofQ (q : Rat) : frD (ofQ q) = q.den := by
  have hp := q.den_pos
  unfold frD ofQ
  by_cases h : q.den = 1
  · simp only [if_pos h]; rw [h]; decide
  · simp only [if_neg h]; rw [valI_ofI, if_neg (by omega)]
theorem frQ_ofQ (q : Rat) : frQ (ofQ q) = q := by
  unfold frQ
  rw [frN_ofQ, frD_ofQ]
  exact Rat.num_divInt_den q
theorem ofQ_int (z : Int) : ofQ z = ⟨ofI z, []⟩ := by
  unfold ofQ; simp
theorem ofQ_zero : ofQ 0 = ⟨[], []⟩ := by
  have : ofQ ((0 : Int) : Rat) = ⟨[], []⟩ := by rw [ofQ_int]; rw [show ofI 0 = [] by unfold ofI; simp [dig10_zero]]
  exact this
/-- numerator and denominator have at most L digits -/
def QB (L : Nat) (q : Rat) : Prop := q.num.natAbs < 10 ^ L ∧ q.den < 10 ^ L
theorem QB.mono {L M : Nat} {q : Rat} (h : QB L q) (hm : L ≤ M) : QB M q := by
  have : 10 ^ L ≤ 10 ^ M := Nat.pow_le_pow_right (by decide) hm
  exact ⟨by have := h.1; omega, by have := h.2; omega⟩
theorem qb_divInt {L : Nat} {n d : Int} (hL : 0 < L) (hn : n.natAbs < 10 ^ L) (hd : d.natAbs < 10 ^ L) : QB L (Rat.divInt n d) := by
  have h1 : 1 < 10 ^ L := Nat.one_lt_pow (by omega) (by decide)
  constructor
  · rw [Rat.num_divInt]
    refine Nat.lt_of_le_of_lt ?_ hn
    refine Nat.le_trans (Int.natAbs_ediv_le_natAbs _ _) ?_
    rw [Int.natAbs_mul]
    have : d.sign.natAbs ≤ 1 := by
      rcases Int.lt_trichotomy d 0 with h | h | h
      · rw [Int.sign_eq_neg_one_of_neg h]; decide
      · rw [h]; decide
      · rw [Int.sign_eq_one_of_pos h]; decide
    exact Nat.le_trans (Nat.mul_le_mul_right _ this) (Nat.le_of_eq (Nat.one_mul _))
  · rw [Rat.den_divInt]
    split
    · exact h1
    · exact Nat.lt_of_le_of_lt (Nat.div_le_self _ _) hd
theorem QB.neg {L : Nat} {q : Rat} (h : QB L q) : QB L (-q) := ⟨by rw [Rat.neg_num, Int.natAbs_neg]; exact h.1, h.2⟩
theorem mul_lt10 {a b L M : Nat} (ha : a < 10 ^ L) (hb : b < 10 ^ M) : a * b < 10 ^ (L + M) := by
  rw [Nat.pow_add]
  rcases Nat.eq_zero_or_pos b with h | h
  · subst h; rw [Nat.mul_zero]; exact Nat.mul_pos (Nat.pow_pos (by decide)) (Nat.pow_pos (by decide))
  · exact Nat.lt_of_lt_of_le (Nat.mul_lt_mul_of_pos_right ha h) (Nat.mul_le_mul_left _ (by omega))
theorem QB.pos {L : Nat} {q : Rat} (h : QB L q) : 0 < L := by
  rcases Nat.eq_zero_or_pos L with h0 | h0
  · subst h0; have := h.2; have := q.den_pos; omega
  · exact h0
theorem add_lt10 {a b L : Nat} (ha : a < 10 ^ L) (hb : b < 10 ^ L) : a + b < 10 ^ (L + 1) := by rw [Nat.pow_succ]; omega
theorem QB.mul {L M : Nat} {p q : Rat} (h : QB L p) (k : QB M q) : QB (L + M) (p * q) := by
  rw [Rat.mul_def', ← Rat.divInt_ofNat]
  refine qb_divInt (by have := h.pos; omega) ?_ ?_
  · rw [Int.natAbs_mul]; exact mul_lt10 h.1 k.1
  · rw [Int.natAbs_natCast]; exact mul_lt10 h.2 k.2
theorem QB.add {L M : Nat} {p q : Rat} (h : QB L p) (k : QB M q) : QB (L + M + 1) (p + q) := by
  rw [Rat.add_def', ← Rat.divInt_ofNat]
  refine qb_divInt (by omega) ?_ ?_
  · refine Nat.lt_of_le_of_lt (Int.natAbs_add_le _ _) ?_
    rw [Int.natAbs_mul, Int.natAbs_mul, Int.natAbs_natCast, Int.natAbs_natCast]
    refine add_lt10 (mul_lt10 h.1 k.2) ?_
    rw [Nat.add_comm L M]; exact mul_lt10 k.1 h.2
  · rw [Int.natAbs_natCast]
    have := mul_lt10 h.2 k.2
    rw [Nat.pow_succ]; omega
theorem QB.sub {L M : Nat} {p q : Rat} (h : QB L p) (k : QB M q) : QB (L + M + 1) (p - q) := by
  rw [Rat.sub_eq_add_neg]; exact h.add k.neg
theorem qb_int {L : Nat} {z : Int} (hL : 0 < L) (h : z.natAbs < 10 ^ L) : QB L (z : Rat) := ⟨by simpa using h, by simp; exact Nat.one_lt_pow (by omega) (by decide)⟩
/-- how long a canonical integer is -/
theorem ofI_lt10 {z : Int} {L : Nat} (h : z.natAbs < 10 ^ L) : (ofI z).length ≤ L + 1 := by
  have := dig10_len h
  unfold ofI; split
  · rw [List.length_cons]; omega
  · omega
theorem QB.num_len {L : Nat} {q : Rat} (h : QB L q) : (ofQ q).num.length ≤ L + 1 := ofI_lt10 h.1
theorem QB.den_len {L : Nat} {q : Rat} (h : QB L q) : (ofQ q).den.length ≤ L + 1 := by
  unfold ofQ; simp only
  split
  · simp
  · exact ofI_lt10 (by rw [Int.natAbs_natCast]; exact h.2)
theorem valI_lt10 {l : Bs} {L : Nat} (h : l.length ≤ L) : (valI l).natAbs < 10 ^ L := by
  have h1 := natOf_lt (mag_all l)
  have h2 : 10 ^ (mag l).length ≤ 10 ^ L := Nat.pow_le_pow_right (by decide) (Nat.le_trans (mag_le l) h)
  unfold valI; split <;> omega
/-- a fraction with short strings -/
theorem frQ_qb {f : Fr} {L : Nat} (h1 : f.num.length ≤ L) (h2 : f.den.length ≤ L) (h0 : 0 < L) : QB L (frQ f) := by
  refine qb_divInt h0 (valI_lt10 h1) ?_
  unfold frD; split
  · exact Nat.one_lt_pow (by omega) (by decide)
  · exact valI_lt10 h2
theorem divInt_one (z : Int) : Rat.divInt z 1 = (z : Rat) := by
  rw [Rat.divInt_eq_div]; simp only [Rat.intCast_one]; grind
theorem num_neg (q : Rat) : q.num < 0 ↔ q < 0 := by
  have := Rat.num_nonneg (q := q)
  grind
/-- the order of rational numbers -/
def cmpQ (p q : Rat) : Int := if p < q then -1 else if p = q then 0 else 1
theorem cmpQ_num (p q : Rat) : cmpI (p - q).num 0 = cmpQ p q := by
  unfold cmpI cmpQ
  have h1 := num_neg (p - q)
  have h2 : (p - q).num = 0 ↔ p - q = 0 := Rat.num_eq_zero
  have h3 : p - q < 0 ↔ p < q := by grind
  have h4 : p - q = 0 ↔ p = q := by grind
  by_cases a : p < q
  · rw [if_pos (h1.2 (h3.2 a)), if_pos a]
  · rw [if_neg (fun h => a (h3.1 (h1.1 h))), if_neg a]
    by_cases b : p = q
    · rw [if_pos (h2.2 (h4.2 b)), if_pos b]
    · rw [if_neg (fun h => b (h4.1 (h2.1 h))), if_neg b]
theorem cmpQ_neg {p q : Rat} : cmpQ p q < 0 ↔ p < q := by unfold cmpQ; split <;> (try split) <;> simp_all
theorem cmpQ_pos {p q : Rat} : 0 < cmpQ p q ↔ q < p := by
  unfold cmpQ; split
  · simp; grind
  · split
    · simp; grind
    · simp; grind
theorem mul_len {x y : Bs} {L M : Nat} (hx : x.length ≤ L) (hy : y.length ≤ M) : (ofI (valI x * valI y)).length ≤ L + M + 1 := ofI_lt10 (by rw [Int.natAbs_mul]; exact mul_lt10 (valI_lt10 hx) (valI_lt10 hy))
theorem add_len {x y : Bs} {L : Nat} (hx : x.length ≤ L) (hy : y.length ≤ L) : (ofI (valI x + valI y)).length ≤ L + 2 := ofI_lt10 (Nat.lt_of_le_of_lt (Int.natAbs_add_le _ _) (add_lt10 (valI_lt10 hx) (valI_lt10 hy)))
theorem sub_len {x y : Bs} {L : Nat} (hx : x.length ≤ L) (hy : y.length ≤ L) : (ofI (valI x - valI y)).length ≤ L + 2 := ofI_lt10 (Nat.lt_of_le_of_lt (Int.natAbs_sub_le _ _) (add_lt10 (valI_lt10 hx) (valI_lt10 hy)))
end Go.Proofs.YthgpheopnhajaaaGreatDoor

/- Plain: an integer divided in proportion to weights: rounded down, and what is missing goes to the greatest rests. No program in sight. -/
namespace Go.Proofs.YthgpheopnhajaaaGreatDoor
open Go.RowKit
/-- how the indexes are ordered: the greater rest first, then the smaller index -/
def cfR (r : List Int) (i k : Fin r.length) : Int := if cmpI r[k] r[i] ≠ 0 then cmpI r[k] r[i] else cmpI (i.val : Int) (k.val : Int)
def ltR (r : List Int) (i k : Fin r.length) : Bool := decide (cfR r i k < 0)
theorem cmpI_neg {x y : Int} : cmpI x y < 0 ↔ x < y := by unfold cmpI; split <;> (try split) <;> omega
theorem cmpI_zero {x y : Int} : cmpI x y = 0 ↔ x = y := by unfold cmpI; split <;> (try split) <;> omega
theorem cmpI_pos {x y : Int} : 0 < cmpI x y ↔ y < x := by unfold cmpI; split <;> (try split) <;> omega
theorem ltR_iff {r : List Int} {i k : Fin r.length} : ltR r i k = true ↔ r[k] < r[i] ∨ (r[k] = r[i] ∧ i.val < k.val) := by
  unfold ltR cfR
  rw [decide_eq_true_iff]
  by_cases h : r[k] = r[i]
  · rw [if_neg (by rw [Ne, cmpI_zero]; omega), cmpI_neg]; omega
  · rw [if_pos (by rw [Ne, cmpI_zero]; omega), cmpI_neg]; omega
def ordR (r : List Int) : List (Fin r.length) := (List.finRange r.length).mergeSort (fun x y => !ltR r y x)
theorem ordR_perm (r : List Int) : (ordR r).Perm (List.finRange r.length) := List.mergeSort_perm _ _
theorem ordR_len (r : List Int) : (ordR r).length = r.length := by rw [ordR, List.length_mergeSort, List.length_finRange]
theorem ordR_nodup (r : List Int) : (ordR r).Nodup := (ordR_perm r).nodup_iff.2 (List.nodup_finRange _)
/-- one more at each of the indexes -/
def bumpAll (p : List Int) (is : List Nat) : List Int := is.foldl (fun l i => l.modify i (· + 1)) p
theorem bumpAll_len (p : List Int) (is : List Nat) : (bumpAll p is).length = p.length := by
  unfold bumpAll
  induction is generalizing p with
  | nil => rfl
  | cons i r ih => rw [List.foldl_cons, ih, List.length_modify]
theorem bumpAll_get (p : List Int) (is : List Nat) (hn : is.Nodup) (k : Nat) (hk : k < p.length) : (bumpAll p is)[k]? = some (p[k] + if k ∈ is then 1 else 0) := by
  unfold bumpAll
  induction is generalizing p with
  | nil => simp [hk]
  | cons i r ih =>
    rw [List.nodup_cons] at hn
    rw [List.foldl_cons, ih _ hn.2 (by rw [List.length_modify]; exact hk), List.getElem_modify]
    congr 1
    by_cases e : i = k
    · subst e
      rw [if_pos rfl, if_neg hn.1, if_pos (by simp)]; omega
    · rw [if_neg e]
      by_cases hr : k ∈ r
      · rw [if_pos hr, if_pos (by simp [hr])]
      · rw [if_neg hr, if_neg (by simp [hr]; omega)]
def prtL (T : Int) (ws : List Int) : List Int := ws.map (fun x => T * x / ws.sum)
def rstL (T : Int) (ws : List Int) : List Int := ws.map (fun x => T * x % ws.sum)
/-- how many are missing -/
def missN (T : Int) (ws : List Int) : Int := T - (prtL T ws).sum
def topL (T : Int) (ws : List Int) : List Nat := ((ordR (rstL T ws)).take (missN T ws).toNat).map (·.val)
def splitP (T : Int) (ws : List Int) : List Int := bumpAll (prtL T ws) (topL T ws)
def splitV (T : Int) (ws : List Int) : List Int := if T < 0 then (splitP (-T) ws).map (-·) else splitP T ws
theorem prtL_len (T : Int) (ws : List Int) : (prtL T ws).length = ws.length := List.length_map ..
theorem rstL_len (T : Int) (ws : List Int) : (rstL T ws).length = ws.length := List.length_map ..
theorem splitP_len (T : Int) (ws : List Int) : (splitP T ws).length = ws.length := by rw [splitP, bumpAll_len, prtL_len]
theorem splitV_len (T : Int) (ws : List Int) : (splitV T ws).length = ws.length := by
  unfold splitV; split
  · rw [List.length_map, splitP_len]
  · exact splitP_len _ _
theorem sum_divmod (T S : Int) (l : List Int) : S * (l.map (fun x => T * x / S)).sum + (l.map (fun x => T * x % S)).sum = T * l.sum := by
  induction l with
  | nil => simp
  | cons a r ih =>
    simp only [List.map_cons, List.sum_cons]
    have := Int.mul_ediv_add_emod (T * a) S
    rw [Int.mul_add, Int.mul_add]; omega
theorem miss_eq {T : Int} {ws : List Int} : ws.sum * missN T ws = (rstL T ws).sum := by
  have := sum_divmod T ws.sum ws
  have e : (prtL T ws).sum = (ws.map (fun x => T * x / ws.sum)).sum := rfl
  have e2 : (rstL T ws).sum = (ws.map (fun x => T * x % ws.sum)).sum := rfl
  unfold missN
  rw [Int.mul_sub, e, e2, Int.mul_comm ws.sum T]; omega
theorem sum_bounds {S : Int} (l : List Int) (h : ∀ x ∈ l, 0 ≤ x ∧ x < S) : 0 ≤ l.sum ∧ l.sum ≤ l.length * (S - 1) := by
  induction l with
  | nil => simp
  | cons a r ih =>
    have h1 := h a (by simp)
    have h2 := ih (fun x hx => h x (by simp [hx]))
    simp only [List.sum_cons, List.length_cons]
    rw [Int.natCast_add, Int.add_mul]; omega
theorem rstL_bounds {T : Int} {ws : List Int} (hS : 0 < ws.sum) : ∀ x ∈ rstL T ws, 0 ≤ x ∧ x < ws.sum := by
  intro x hx
  obtain ⟨a, _, rfl⟩ := List.mem_map.1 hx
  exact ⟨Int.emod_nonneg _ (by omega), Int.emod_lt_of_pos _ hS⟩
theorem miss_bounds {T : Int} {ws : List Int} (hS : 0 < ws.sum) : 0 ≤ missN T ws ∧ missN T ws ≤ ws.length := by
  have h1 := sum_bounds _ (rstL_bounds (T := T) hS)
  rw [← miss_eq, rstL_len] at h1
  constructor
  · have := Int.le_of_mul_le_mul_left (a := ws.sum) (b := 0) (c := missN T ws) (by rw [Int.mul_zero]; exact h1.1) hS
    exact this
  · have h2 : ws.sum * missN T ws ≤ ws.sum * ws.length := by
      refine Int.le_trans h1.2 ?_
      rw [Int.mul_sub, Int.mul_one, Int.mul_comm]; omega
    exact Int.le_of_mul_le_mul_left h2 hS
theorem topL_len {T : Int} {ws : List Int} (hS : 0 < ws.sum) : ((topL T ws).length : Int) = missN T ws := by
  have := miss_bounds (T := T) hS
  rw [topL, List.length_map, List.length_take, ordR_len, rstL_len]; omega
theorem topL_lt {T : Int} {ws : List Int} : ∀ i ∈ topL T ws, i < ws.length := by
  intro i hi
  obtain ⟨k, _, rfl⟩ := List.mem_map.1 hi
  exact Nat.lt_of_lt_of_eq k.isLt (rstL_len T ws)
theorem topL_nodup {T : Int} {ws : List Int} : (topL T ws).Nodup := by
  unfold topL
  refine List.pairwise_map.2 (List.Pairwise.imp ?_ ((ordR_nodup _).sublist (List.take_sublist _ _)))
  intro a b hab he; exact hab (Fin.ext he)
end Go.Proofs.YthgpheopnhajaaaGreatDoor
