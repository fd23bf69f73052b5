/- AverageReads (P22.1): for all lots, every instrument, every id, every quantity and every cost the law returns true, that is: Price, Take, After and Gap return the results of the reference implementation (within the sizes that the law checks itself; beyond them it answers by its example); every argument reads afterwards as it did. Condition: the library's tables and sentinel errors hold what their initialisers lay (the card ties them). -/
import Derived.Test.YtikehdbkiplleaaGreatDoorZ7
import Derived.Test.YtikehdbkiplleaaGreatDoorCards
import Derived.Test.YtikehdbkiplleaaGreatDoorTie
import Derived.Deep.DeepHandedRow
import Derived.ProofKit
/- The walk over the law AverageReads. -/
namespace Go.Proofs.YtikehdbkiplleaaGreatDoor
open Go.RowKit
attribute [local go_sem] size_bs toList_bs
set_option maxRecDepth 100000 in
set_option maxHeartbeats 4000000 in
theorem lawReads (ls : List LotV) (A : Option Addr) (c : Nat) (ins id qty cost : Bs) (w : World) (hA : RdL w A ls) (hc : ls.length ≤ c) (hn : ls.length ≤ 4611686018427387904) (hE : Env w) :
    Calls Tryz.prog 3 #[.slice A ls.length c, .string (bs ins), .string (bs id), .string (bs qty), .string (bs cost)] w fun e w' => e = .returned (.bool true) ∧ Ext w w' := by
  have HE := Lib.hid hE
  have HFN := Lib.hid (refGreat ls A c w hA hn)
  cases hg : greatAll ls
  rotate_left
  · rw [hg] at HFN
    clear hg hE hA
    go_enter Tryz.func3, Tryz.ntmps3
    go_wp2_with fail
    refine HFN.out.mono ?_
    rintro e w1 ⟨rfl, hx1⟩
    have HX := Lib.hid hx1
    clear hx1
    go_wp2_with fail
    refine (lawAwake _ (HE.out.ext HX.out)).mono ?_
    rintro e v3 ⟨rfl, hx1⟩
    replace HX := Lib.hid (HX.out.trans hx1)
    clear hx1
    go_wp2_with fail
    go_ret
    exact ⟨rfl, HX.out⟩
  rw [hg] at HFN
  have hL : LotsAt w A ls := ⟨hA, great_small hg, by have := (greatAll_no hg).1; omega⟩
  have HLQ := Lib.hid (fun W => refLong qty W)
  have HLC := Lib.hid (fun W => refLong cost W)
  cases h1 : decide (40 < (ins.length : Int))
  rotate_left
  · clear hE hA hL hg
    go_enter Tryz.func3, Tryz.ntmps3
    go_wp2_with fail
    refine HFN.out.mono ?_
    rintro e w1 ⟨rfl, hx1⟩
    have HX := Lib.hid hx1
    clear hx1
    go_wp2_with fail
    refine (lawAwake _ (HE.out.ext HX.out)).mono ?_
    rintro e v7 ⟨rfl, hx1⟩
    replace HX := Lib.hid (HX.out.trans hx1)
    clear hx1
    go_wp2_with fail
    go_ret
    exact ⟨rfl, HX.out⟩
  cases h2 : decide (40 < (id.length : Int))
  rotate_left
  · clear hE hA hL hg
    go_enter Tryz.func3, Tryz.ntmps3
    go_wp2_with fail
    refine HFN.out.mono ?_
    rintro e w1 ⟨rfl, hx1⟩
    have HX := Lib.hid hx1
    clear hx1
    go_wp2_with fail
    refine (lawAwake _ (HE.out.ext HX.out)).mono ?_
    rintro e v11 ⟨rfl, hx1⟩
    replace HX := Lib.hid (HX.out.trans hx1)
    clear hx1
    go_wp2_with fail
    go_ret
    exact ⟨rfl, HX.out⟩
  cases h3 : decide (13 < (qty.length : Int))
  rotate_left
  · rw [h3] at HLQ
    clear hE hA hL hg h3
    go_enter Tryz.func3, Tryz.ntmps3
    go_wp2_with fail
    refine HFN.out.mono ?_
    rintro e w1 ⟨rfl, hx1⟩
    have HX := Lib.hid hx1
    clear hx1
    go_wp2_with fail
    refine (HLQ.out _).mono ?_
    rintro e wy ⟨h1, h2⟩
    subst h1
    subst h2
    go_wp2_with fail
    refine (lawAwake _ (HE.out.ext HX.out)).mono ?_
    rintro e v16 ⟨rfl, hx1⟩
    replace HX := Lib.hid (HX.out.trans hx1)
    clear hx1
    go_wp2_with fail
    go_ret
    exact ⟨rfl, HX.out⟩
  cases h4 : decide (13 < (cost.length : Int))
  rotate_left
  · rw [h3] at HLQ
    rw [h4] at HLC
    clear hE hA hL hg h3 h4
    go_enter Tryz.func3, Tryz.ntmps3
    go_wp2_with fail
    refine HFN.out.mono ?_
    rintro e w1 ⟨rfl, hx1⟩
    have HX := Lib.hid hx1
    clear hx1
    go_wp2_with fail
    refine (HLQ.out _).mono ?_
    rintro e wy ⟨h1, h2⟩
    subst h1
    subst h2
    go_wp2_with fail
    refine (HLC.out _).mono ?_
    rintro e wy ⟨h1, h2⟩
    subst h1
    subst h2
    go_wp2_with fail
    refine (lawAwake _ (HE.out.ext HX.out)).mono ?_
    rintro e v22 ⟨rfl, hx1⟩
    replace HX := Lib.hid (HX.out.trans hx1)
    clear hx1
    go_wp2_with fail
    go_ret
    exact ⟨rfl, HX.out⟩
  rw [h3] at HLQ
  rw [h4] at HLC
  have hq13 : qty.length ≤ 13 := by simp only [decide_eq_false_iff_not] at h3; omega
  have hc13 : cost.length ≤ 13 := by simp only [decide_eq_false_iff_not] at h4; omega
  have HP := Lib.hid (fun W hx => avgPrice ls A c ins W (hE.ext hx) (hL.ext hx))
  have HP2 := Lib.hid (fun W hx => refPrice ls A c ins W hc (hL.ext hx))
  have HT := Lib.hid (fun W hx => avgTake ls A c ins qty W (hE.ext hx) (hL.ext hx) (by omega))
  have HT2 := Lib.hid (fun W hx => refTake ls A c ins qty W hc (hL.ext hx) (fun x hx => ⟨(hL.sm x hx).2.2.1, (hL.sm x hx).2.2.2.1⟩) (by omega))
  have HF := Lib.hid (fun W hx => avgAfter ls A c ins qty cost W (hE.ext hx) (hL.ext hx) (by omega) (by omega))
  have HF2 := Lib.hid (fun W hx => refAfter ls A c ins qty cost W hc (hL.ext hx) (by omega) (by omega))
  have HG := Lib.hid (fun W hx => avgGap ls A c id W (hE.ext hx) (hL.ext hx))
  have HG2 := Lib.hid (fun W hx => refGap ls A c id W hc (hL.ext hx))
  clear hE hA hL hg h3 h4
  generalize (priceV ls ins).1 = p at *
  generalize (priceV ls ins).2 = pe at *
  generalize (takeV ls ins qty).1 = ta at *
  generalize (takeV ls ins qty).2.1 = tb at *
  generalize (takeV ls ins qty).2.2 = te at *
  generalize (afterV ls ins qty cost).1 = a at *
  generalize (afterV ls ins qty cost).2 = ae at *
  generalize (gapV ls id).1 = g at *
  generalize (gapV ls id).2 = ge at *
  go_enter Tryz.func3, Tryz.ntmps3
  go_wp2_with fail
  refine HFN.out.mono ?_
  rintro e w1 ⟨rfl, hx1⟩
  have HX := Lib.hid hx1
  clear hx1
  go_wp2_with fail
  refine (HLQ.out _).mono ?_
  rintro e wy ⟨h1, h2⟩
  subst h1
  subst h2
  go_wp2_with fail
  refine (HLC.out _).mono ?_
  rintro e wy ⟨h1, h2⟩
  subst h1
  subst h2
  go_wp2_with fail
  refine (HP.out _ HX.out).mono ?_
  rintro e w2 ⟨rfl, hx1⟩
  replace HX := Lib.hid (HX.out.trans hx1)
  clear hx1
  have B1 := Lib.hid (Blk.new w2 28 #[.string (bs p.num), .string (bs p.den)])
  replace HX := Lib.hid (HX.out.alloc (.cells #[.string (bs p.num), .string (bs p.den)] 28))
  go_wp2_with fail
  refine (HP2.out _ HX.out).mono ?_
  rintro e w3 ⟨rfl, hx1⟩
  replace B1 := Lib.hid (B1.out.ext hx1)
  replace HX := Lib.hid (HX.out.trans hx1)
  clear hx1
  have B2 := Lib.hid (Blk.new w3 28 #[.string (bs p.num), .string (bs p.den)])
  replace HX := Lib.hid (HX.out.alloc (.cells #[.string (bs p.num), .string (bs p.den)] 28))
  replace B1 := Lib.hid (B1.out.alloc (.cells #[.string (bs p.num), .string (bs p.den)] 28))
  go_wp2_with fail
  refine (HT.out _ HX.out).mono ?_
  rintro e v29 ⟨rfl, hx1⟩
  replace B1 := Lib.hid (B1.out.ext hx1)
  replace B2 := Lib.hid (B2.out.ext hx1)
  replace HX := Lib.hid (HX.out.trans hx1)
  clear hx1
  go_wp2_with fail
  refine (HT2.out _ HX.out).mono ?_
  rintro e v30 ⟨rfl, hx1⟩
  replace B1 := Lib.hid (B1.out.ext hx1)
  replace B2 := Lib.hid (B2.out.ext hx1)
  replace HX := Lib.hid (HX.out.trans hx1)
  clear hx1
  go_wp2_with fail
  refine (HF.out _ HX.out).mono ?_
  rintro e w4 ⟨rfl, hx1⟩
  replace B1 := Lib.hid (B1.out.ext hx1)
  replace B2 := Lib.hid (B2.out.ext hx1)
  replace HX := Lib.hid (HX.out.trans hx1)
  clear hx1
  have B3 := Lib.hid (Blk.new w4 28 #[.string (bs a.num), .string (bs a.den)])
  replace HX := Lib.hid (HX.out.alloc (.cells #[.string (bs a.num), .string (bs a.den)] 28))
  replace B1 := Lib.hid (B1.out.alloc (.cells #[.string (bs a.num), .string (bs a.den)] 28))
  replace B2 := Lib.hid (B2.out.alloc (.cells #[.string (bs a.num), .string (bs a.den)] 28))
  go_wp2_with fail
  refine (HF2.out _ HX.out).mono ?_
  rintro e w5 ⟨rfl, hx1⟩
  replace B1 := Lib.hid (B1.out.ext hx1)
  replace B2 := Lib.hid (B2.out.ext hx1)
  replace B3 := Lib.hid (B3.out.ext hx1)
  replace HX := Lib.hid (HX.out.trans hx1)
  clear hx1
  have B4 := Lib.hid (Blk.new w5 28 #[.string (bs a.num), .string (bs a.den)])
  replace HX := Lib.hid (HX.out.alloc (.cells #[.string (bs a.num), .string (bs a.den)] 28))
  replace B1 := Lib.hid (B1.out.alloc (.cells #[.string (bs a.num), .string (bs a.den)] 28))
  replace B2 := Lib.hid (B2.out.alloc (.cells #[.string (bs a.num), .string (bs a.den)] 28))
  replace B3 := Lib.hid (B3.out.alloc (.cells #[.string (bs a.num), .string (bs a.den)] 28))
  go_wp2_with fail
  refine (HG.out _ HX.out).mono ?_
  rintro e w6 ⟨rfl, hx1⟩
  replace B1 := Lib.hid (B1.out.ext hx1)
  replace B2 := Lib.hid (B2.out.ext hx1)
  replace B3 := Lib.hid (B3.out.ext hx1)
  replace B4 := Lib.hid (B4.out.ext hx1)
  replace HX := Lib.hid (HX.out.trans hx1)
  clear hx1
  have B5 := Lib.hid (Blk.new w6 28 #[.string (bs g.num), .string (bs g.den)])
  replace HX := Lib.hid (HX.out.alloc (.cells #[.string (bs g.num), .string (bs g.den)] 28))
  replace B1 := Lib.hid (B1.out.alloc (.cells #[.string (bs g.num), .string (bs g.den)] 28))
  replace B2 := Lib.hid (B2.out.alloc (.cells #[.string (bs g.num), .string (bs g.den)] 28))
  replace B3 := Lib.hid (B3.out.alloc (.cells #[.string (bs g.num), .string (bs g.den)] 28))
  replace B4 := Lib.hid (B4.out.alloc (.cells #[.string (bs g.num), .string (bs g.den)] 28))
  go_wp2_with fail
  refine (HG2.out _ HX.out).mono ?_
  rintro e w7 ⟨rfl, hx1⟩
  replace B1 := Lib.hid (B1.out.ext hx1)
  replace B2 := Lib.hid (B2.out.ext hx1)
  replace B3 := Lib.hid (B3.out.ext hx1)
  replace B4 := Lib.hid (B4.out.ext hx1)
  replace B5 := Lib.hid (B5.out.ext hx1)
  replace HX := Lib.hid (HX.out.trans hx1)
  clear hx1
  have B6 := Lib.hid (Blk.new w7 28 #[.string (bs g.num), .string (bs g.den)])
  replace HX := Lib.hid (HX.out.alloc (.cells #[.string (bs g.num), .string (bs g.den)] 28))
  replace B1 := Lib.hid (B1.out.alloc (.cells #[.string (bs g.num), .string (bs g.den)] 28))
  replace B2 := Lib.hid (B2.out.alloc (.cells #[.string (bs g.num), .string (bs g.den)] 28))
  replace B3 := Lib.hid (B3.out.alloc (.cells #[.string (bs g.num), .string (bs g.den)] 28))
  replace B4 := Lib.hid (B4.out.alloc (.cells #[.string (bs g.num), .string (bs g.den)] 28))
  replace B5 := Lib.hid (B5.out.alloc (.cells #[.string (bs g.num), .string (bs g.den)] 28))
  go_upto_region 11 with fail
  generalize w7.alloc (.cells #[.string (bs g.num), .string (bs g.den)] 28) = W at *
  obtain ⟨x1, y1, _, _⟩ := frBlk B1.out (Ext.refl _)
  obtain ⟨x2, y2, _, _⟩ := frBlk B2.out (Ext.refl _)
  obtain ⟨x3, y3, _, _⟩ := frBlk B3.out (Ext.refl _)
  obtain ⟨x4, y4, _, _⟩ := frBlk B4.out (Ext.refl _)
  obtain ⟨x5, y5, _, _⟩ := frBlk B5.out (Ext.refl _)
  obtain ⟨x6, y6, _, _⟩ := frBlk B6.out (Ext.refl _)
  clear B1 B2 B3 B4 B5 B6
  go_wp2_with fail
  refine (lawAwake _ (HE.out.ext HX.out)).mono ?_
  rintro e v36 ⟨rfl, hx1⟩
  replace HX := Lib.hid (HX.out.trans hx1)
  clear hx1
  go_wp2_with fail
  go_ret
  exact ⟨rfl, HX.out⟩
end Go.Proofs.YtikehdbkiplleaaGreatDoor
namespace Go.Proofs.YtikehdbkiplleaaGreatDoor.averageReads
open Go.ChangeShapes Go.WideShapes Go.ChangeAt Go.RowKit Go.Deep Go.Joins

set_option maxRecDepth 100000 in
theorem contract (H : Type) (enc : TypeId × Value → H) (W : World) (base : Nat) (args : Array Value) (ds gs : List (DataW H)) (before : List MemPlace)
    (hval : ∀ (j : Nat) t v, Tryz.f3.params[j]? = some t → args[j]? = some v → Value.okWide Tryz.prog W .any base t v)
    (hW : DataW.Whole enc Tryz.prog Tryz.f3.params.toList Rows.averageReadsSpec.vars false W args.toList ds gs before) (hwt : (DataW.weightsEach Tryz.prog (Tryz.f3.params.toList ++ (OpenSpec.ofChange Rows.averageReadsSpec).bare.plain.varTypes Tryz.prog) (ds ++ gs)).all (· ≤ reachBytes) = true)
    (hL : laidMetH Tryz.prog Rows.averageReadsRow.laid W) (hsh : W.ShapedOpen Tryz.prog) :
    Calls Tryz.prog 3 args W fun e W' => ∃ v, e = .returned v ∧ Rows.averageReadsSpec.post enc Tryz.prog Tryz.f3 false true false false W args v W' := by
  have hE : Env W := env_of (show laidMet Tryz.prog _ W from hL) hsh
  have hW' := hW
  obtain ⟨p, q, hA0, hV, rfl, hfz, hnd⟩ := hW
  have hA : DataW.TrodAll enc Tryz.prog W 0 (fun _ => true) true Tryz.f3.params.toList args.toList ds p := hA0
  rw [Tryz.params3] at hA hval hwt
  obtain ⟨v0, vs0, d0, ds0, p0, q0, hargs, rfl, rfl, h0, r0⟩ := trodAll_cons hA
  obtain ⟨v1, vs1, d1, ds1, p1, q1, rfl, rfl, rfl, h1, r1⟩ := trodAll_cons r0
  obtain ⟨v2, vs2, d2, ds2, p2, q2, rfl, rfl, rfl, h2, r2⟩ := trodAll_cons r1
  obtain ⟨v3, vs3, d3, ds3, p3, q3, rfl, rfl, rfl, h3, r3⟩ := trodAll_cons r2
  obtain ⟨v4, vs4, d4, ds4, p4, q4, rfl, rfl, rfl, h4, r4⟩ := trodAll_cons r3
  obtain ⟨rfl, rfl, rfl⟩ := trodAll_nil r4
  obtain rfl : args = #[v0, v1, v2, v3, v4] := by cases args; simp_all
  obtain ⟨rfl, rfl⟩ := trodVars_none hV
  simp only [List.append_nil, List.cons_append, List.nil_append, DataW.weightsEach, List.all_append, Bool.and_eq_true] at hwt
  obtain ⟨s0, A0, c0, rfl, hR0, hc0, hn0⟩ := open_lots (hval 0 22 v0 rfl rfl) h0 hwt.1
  obtain ⟨x1, rfl, rfl, rfl, hx1⟩ := ChangeMaps.open_string Tryz.underlying9 (hval 1 9 v1 rfl rfl) h1
  obtain ⟨t1, rfl⟩ : ∃ t, x1 = bs t := ⟨L x1, (bs_L x1).symm⟩
  obtain ⟨x2, rfl, rfl, rfl, hx2⟩ := ChangeMaps.open_string Tryz.underlying9 (hval 2 9 v2 rfl rfl) h2
  obtain ⟨t2, rfl⟩ : ∃ t, x2 = bs t := ⟨L x2, (bs_L x2).symm⟩
  obtain ⟨x3, rfl, rfl, rfl, hx3⟩ := ChangeMaps.open_string Tryz.underlying23 (hval 3 23 v3 rfl rfl) h3
  obtain ⟨t3, rfl⟩ : ∃ t, x3 = bs t := ⟨L x3, (bs_L x3).symm⟩
  obtain ⟨x4, rfl, rfl, rfl, hx4⟩ := ChangeMaps.open_string Tryz.underlying23 (hval 4 23 v4 rfl rfl) h4
  obtain ⟨t4, rfl⟩ : ∃ t, x4 = bs t := ⟨L x4, (bs_L x4).symm⟩
  refine (lawReads s0 A0 c0 t1 t2 t3 t4 W hR0 hc0 hn0 hE).mono fun e W' ⟨he, hx⟩ => ?_
  subst he
  exact ⟨_, rfl, post_law laidOut (by kernel_rfl) (by kernel_rfl) Tryz.underlying4 rfl hW' rfl rfl rfl hx⟩

def flat1 : DataW Unit → List Value | .lit (.int k n) => [.int k n] | _ => []
def flat2 : DataW Unit → List Value | .agg ps => ps.flatMap flat1 | x => flat1 x
def flat3 : DataW Unit → List Value | .agg ps => ps.flatMap flat2 | x => flat1 x
def layIn (w : World) (g : Nat) (d : DataW Unit) : World := { w with heap := w.heap.modify g fun
  | .cells _ t frozen => .cells (flat3 d).toArray t frozen
  | o => o }
/-- A WORLD FOR THE WITNESS: the settled one, the library's tables holding what their initialisers lay. -/
noncomputable def low : Nat := (World.holding Tryz.prog default ⟨#[], #[], []⟩).heap.size
def layErr (w : World) (g b : Nat) : World := { w with heap := w.heap.modify g fun
  | .cells _ t frozen => .cells #[.iface 222 (.pointer (some ⟨b, 0, none⟩))] t frozen
  | o => o }
noncomputable def laidWorld (os : Os) : World :=
  layErr (layErr (layIn (layIn (layIn (layIn (layIn (World.holding Tryz.prog os ⟨#[.cells #[.string ⟨#[118, 97, 108, 117, 101, 32, 111, 117, 116, 32, 111, 102, 32, 114, 97, 110, 103, 101]⟩] 224, .cells #[.string ⟨#[105, 110, 118, 97, 108, 105, 100, 32, 115, 121, 110, 116, 97, 120]⟩] 224], #[], []⟩) 6 Rows.laid_math_bits_deBruijn32tab) 7 Rows.laid_math_bits_deBruijn64tab) 2 Rows.laid_internal_strconv_uint64pow10) 5 Rows.laid_unicode_utf8_acceptRanges) 4 Rows.laid_unicode_utf8_first) 1 low) 0 (low + 1)
theorem laid_met (os : Os) : laidMet Tryz.prog Rows.averageReadsRow.laid ((laidWorld os).forCall (fun _ _ => 0) ⟨#[], #[.slice none 0 0, .string ⟨#[]⟩, .string ⟨#[]⟩, .string ⟨#[]⟩, .string ⟨#[]⟩], []⟩).memory :=
  laidMet_of_run' 8 (by kernel_rfl) (by kernel_rfl)
theorem reads (os : Os) {H : Type} (enc : TypeId × Value → H) : ∃ places, DataW.whole enc Tryz.prog ((laidWorld os).forCall (fun _ _ => 0) ⟨#[], #[.slice none 0 0, .string ⟨#[]⟩, .string ⟨#[]⟩, .string ⟨#[]⟩, .string ⟨#[]⟩], []⟩).memory Tryz.f3.params.toList Rows.averageReadsSpec.vars false (#[.slice none 0 0, .string ⟨#[]⟩, .string ⟨#[]⟩, .string ⟨#[]⟩, .string ⟨#[]⟩] : Array Value).toList 8 = some ([.nil, .lit (.string []), .lit (.string []), .lit (.string []), .lit (.string [])], [], places) :=
  ⟨[], by kernel_rfl⟩

set_option maxRecDepth 100000 in
theorem lifted (os : Os) (started : os.Started) (H : Type) (enc : TypeId × Value → H) (F : Stop.Interp) :
    ReturnsInHanded {} Tryz.checked os 3 .any ((OpenSpec.ofChange Rows.averageReadsSpec).preRow enc Tryz.prog Tryz.f3 Rows.averageReadsRow.domain false Rows.averageReadsRow.laid) (((OpenSpec.ofChange Rows.averageReadsSpec).at F).post enc Tryz.prog Tryz.f3 false true false false) := by
  obtain ⟨places, hx⟩ := reads os enc
  refine returnsInHanded_of_row (C := Tryz.checked) (s := OpenSpec.ofChange Rows.averageReadsSpec) own started (by kernel_rfl) Tryz.func3
    (witness_row_at (enc := enc) (C := Tryz.checked) false (laidWorld os) #[.slice none 0 0, .string ⟨#[]⟩, .string ⟨#[]⟩, .string ⟨#[]⟩, .string ⟨#[]⟩] rfl (by kernel_rfl) (by kernel_rfl) (by kernel_rfl)
      (OpenSpec.preRow_of_cond 8 hx (by kernel_rfl) (fun k hk => by cases hk) (by kernel_rfl) (laid_met os))) ?_
  intro W base args ds gs before hval hW _ _ hwt hL hsh _
  exact contract H enc W base args ds gs before hval hW hwt hL hsh

theorem said : Rows.AverageReadsSaid :=
  OpenClaim.holds_of_cond 3 Tryz.f3 rfl rfl rfl rfl rfl rfl rfl ⟨rfl, rfl, rfl, rfl, rfl⟩ rfl rfl rfl rfl rfl (by kernel_rfl) Tryz.func3 (by kernel_rfl)
    (of_decide_eq_true (by kernel_rfl)) (by unfold Func.isWrapper; first | (rw [if_pos (by decide +kernel)]; kernel_rfl) | (rw [if_neg (by decide +kernel)]; exact ⟨rfl, rfl⟩))
    (fun os started H enc _ F => by rw [OpenClaim.pre_eq_preRow]; exact lifted os started H enc F)

theorem plain (f : FuncId) (fn : Func) (hf : Tryz.pinned.checked.prog.funcNamed "tranche/tranchelaw22.AverageReads" = some f) (hfn : Tryz.pinned.checked.prog.funcs[f]? = some fn) :
    true = Tryz.pinned.checked.prog.looks [] ∧ ∀ (j : Nat) t, fn.params[j]? = some t → Tryz.pinned.checked.prog.wantsStandIn t = false := by
  obtain rfl : f = 3 := Option.some.inj ((show Tryz.prog.funcNamed "tranche/tranchelaw22.AverageReads" = some 3 by kernel_rfl).symm.trans hf) |>.symm
  obtain rfl : fn = Tryz.f3 := (Option.some.inj (Tryz.func3.symm.trans hfn)).symm
  refine ⟨by kernel_rfl, fun j t ht => ?_⟩
  rw [Tryz.params3] at ht
  have hm := Array.mem_of_getElem? ht
  simp only [List.mem_toArray, List.mem_cons, List.not_mem_nil, or_false] at hm
  rcases hm with rfl | rfl | rfl | rfl | rfl
  · exact (show Tryz.prog.wantsStandIn 22 = false by kernel_rfl)
  · exact (show Tryz.prog.wantsStandIn 9 = false by kernel_rfl)
  · exact (show Tryz.prog.wantsStandIn 9 = false by kernel_rfl)
  · exact (show Tryz.prog.wantsStandIn 23 = false by kernel_rfl)
  · exact (show Tryz.prog.wantsStandIn 23 = false by kernel_rfl)

/-- THE CARD -/
theorem card : Rows.AverageReadsCardSaid :=
  Claim7.holds_tied_plain_at .later [] _ _ _ _ said (fun _ h => by cases h) (by kernel_rfl) (fun _ h => by cases h) averageReads_row_tie rfl ⟨rfl, rfl⟩ (by kernel_rfl) rfl plain (by kernel_rfl)
end Go.Proofs.YtikehdbkiplleaaGreatDoor.averageReads
