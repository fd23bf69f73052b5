/- The seat's texts, part 17. -/
import Derived.Test.YthgpheopnhajaaaGreatDoorV16
import Derived.Deep.MidRow
import Derived.Test.YthgpheopnhajaaaGreatDoorRows
import Derived.ProofKit
import Derived.OpenShut
import Derived.Deep.Slices
import Derived.Deep.Fields
import Derived.Lib.SmallJoins
import Derived.ChangeSame
import Derived.WideKeyArgs
import Derived.Stop.LaidErr
import Derived.Lib.LaidTab
import Derived.Shelf.Vars

/- The law's example, and awake. -/
namespace Go.Proofs.YthgpheopnhajaaaGreatDoor
open Go.RowKit Go.Shelf
attribute [local go_sem] size_bs toList_bs
theorem fact_there {w : World} {g : Nat} {cs : Array Value} (h : Blk w g 30 cs) : w.there g 0 cs.size := fun j hj => by
  rw [Nat.zero_add, h.cell j, h.frozen j, Array.getElem?_eq_getElem hj]
  exact ⟨rfl, rfl⟩
abbrev xz : Array Value := #[.string ⟨#[]⟩, .int .i64 0, .bool false, .int .i64 0, .int .i64 0, .string ⟨#[]⟩, .string ⟨#[]⟩, .string ⟨#[]⟩, .string ⟨#[]⟩, .string ⟨#[]⟩, .string ⟨#[]⟩, .string ⟨#[]⟩, .string ⟨#[]⟩, .string ⟨#[]⟩, .string ⟨#[]⟩, .string ⟨#[]⟩, .string ⟨#[]⟩, .string ⟨#[]⟩, .slice none 0 0, .slice none 0 0, .int .i64 0]
def ExEnds (w : World) (e : Ending) (w' : World) : Prop := ∃ A AO, e = .returned (.tuple #[.slice A 2 2, xv exKey 19723 exIns AO 1 1]) ∧ RdL w' A exLs ∧ RdO w' AO [exO] ∧ Ext w w'
theorem fact_over {w : World} {g : Nat} {xs ys : List Value} (h : Blk w g 30 xs.toArray) (hl : xs.length = ys.length) : Blk (w.setCells g 0 ys) g 30 ys.toArray := by
  have := Blk.sets ys 0 w xs h (by omega)
  unfold lsplice at this
  rw [List.take_zero, List.nil_append, List.drop_of_length_le (by omega), List.append_nil] at this
  exact this
set_option maxRecDepth 100000 in
theorem results_tx {fn : Func} {a b : Tmp} (h : fn.results = #[.tmp a, .cell b 30]) (tmps : Array Value) (w : World) (g : Nat) (z : Value) (cs : List Value) (hl : cs.length = 21) (hz : tmps.getD a undef = z) (ha : tmps.getD b undef = .pointer (some ⟨g, 0, none⟩)) (hb : Blk w g 30 cs.toArray) :
    (results fn tmps).run Tryz.prog w = .ok (.tuple #[z, .agg cs.toArray]) w := by
  have hs1 : (Tryz.prog.info? 30).map (·.size) = some cs.length := by rw [hl]; kernel_rfl
  have hrg : w.rangeAt g 0 cs := fact_range hb
  have hld := run_loadVar_mid w g 0 30 cs _ hrg Tryz.underlying30 rfl hs1
  unfold results
  rw [h]
  simp only [List.mapM_toArray, List.mapM_cons, List.mapM_nil, ha, hz]
  simp [asAddr, hld]
set_option maxRecDepth 100000 in
set_option maxHeartbeats 4000000 in
theorem lawExample (w : World) : Calls Tryz.prog 51 #[] w (ExEnds w) := by
  have HB := Lib.hid (((Blk.new w 30 xz).alloc (.cells #[.string ⟨#[97, 47, 49]⟩, .string ⟨#[97, 98, 99]⟩, .int .i64 19700, .int .i64 19700, .string ⟨#[49, 48]⟩, .string ⟨#[49, 48, 48]⟩, .string ⟨#[]⟩, .string ⟨#[98, 47, 49]⟩, .string ⟨#[97, 98, 99]⟩, .int .i64 19710, .int .i64 19710, .string ⟨#[53]⟩, .string ⟨#[50, 48]⟩, .string ⟨#[]⟩] 71)).alloc (.cells #[.string ⟨#[100, 101, 102]⟩, .string ⟨#[49]⟩, .string ⟨#[50]⟩, .string ⟨#[50]⟩, .string ⟨#[]⟩, .string ⟨#[49, 54]⟩, .string ⟨#[]⟩] 50))
  have HL := Lib.hid ((Blk.newAt (w.alloc (.cells xz 30)) 71 #[.string ⟨#[97, 47, 49]⟩, .string ⟨#[97, 98, 99]⟩, .int .i64 19700, .int .i64 19700, .string ⟨#[49, 48]⟩, .string ⟨#[49, 48, 48]⟩, .string ⟨#[]⟩, .string ⟨#[98, 47, 49]⟩, .string ⟨#[97, 98, 99]⟩, .int .i64 19710, .int .i64 19710, .string ⟨#[53]⟩, .string ⟨#[50, 48]⟩, .string ⟨#[]⟩] (w.heap.size + 1) (by simp)).alloc (.cells #[.string ⟨#[100, 101, 102]⟩, .string ⟨#[49]⟩, .string ⟨#[50]⟩, .string ⟨#[50]⟩, .string ⟨#[]⟩, .string ⟨#[49, 54]⟩, .string ⟨#[]⟩] 50))
  have HO := Lib.hid (Blk.newAt ((w.alloc (.cells xz 30)).alloc (.cells #[.string ⟨#[97, 47, 49]⟩, .string ⟨#[97, 98, 99]⟩, .int .i64 19700, .int .i64 19700, .string ⟨#[49, 48]⟩, .string ⟨#[49, 48, 48]⟩, .string ⟨#[]⟩, .string ⟨#[98, 47, 49]⟩, .string ⟨#[97, 98, 99]⟩, .int .i64 19710, .int .i64 19710, .string ⟨#[53]⟩, .string ⟨#[50, 48]⟩, .string ⟨#[]⟩] 71)) 50 #[.string ⟨#[100, 101, 102]⟩, .string ⟨#[49]⟩, .string ⟨#[50]⟩, .string ⟨#[50]⟩, .string ⟨#[]⟩, .string ⟨#[49, 54]⟩, .string ⟨#[]⟩] (w.heap.size + 1 + 1) (by simp))
  have HX : Hid (Ext w _) := Lib.hid (((Ext.new w (.cells xz 30)).alloc (.cells #[.string ⟨#[97, 47, 49]⟩, .string ⟨#[97, 98, 99]⟩, .int .i64 19700, .int .i64 19700, .string ⟨#[49, 48]⟩, .string ⟨#[49, 48, 48]⟩, .string ⟨#[]⟩, .string ⟨#[98, 47, 49]⟩, .string ⟨#[97, 98, 99]⟩, .int .i64 19710, .int .i64 19710, .string ⟨#[53]⟩, .string ⟨#[50, 48]⟩, .string ⟨#[]⟩] 71)).alloc (.cells #[.string ⟨#[100, 101, 102]⟩, .string ⟨#[49]⟩, .string ⟨#[50]⟩, .string ⟨#[50]⟩, .string ⟨#[]⟩, .string ⟨#[49, 54]⟩, .string ⟨#[]⟩] 50))
  have hs2 : (Tryz.prog.info? 30).map (·.size) = some (xc exKey 19723 exIns (some ⟨w.heap.size + 1 + 1, 0, none⟩) 1 1).size := by kernel_rfl
  have hth : World.there _ w.heap.size 0 (xc exKey 19723 exIns (some ⟨w.heap.size + 1 + 1, 0, none⟩) 1 1).size := (fact_there HB.out : World.there _ w.heap.size 0 (xz : Array Value).size)
  have hoc : (xc exKey 19723 exIns (some ⟨w.heap.size + 1 + 1, 0, none⟩) 1 1).all (·.oneCell') = true := by simp [Value.oneCell']
  have HF := Lib.hid (fact_over (w := _) (xs := xz.toList) (ys := (xc exKey 19723 exIns (some ⟨w.heap.size + 1 + 1, 0, none⟩) 1 1).toList) (show Blk _ _ _ xz.toList.toArray from HB.out) rfl)
  have HXF := Lib.hid (ext_sets (xc exKey 19723 exIns (some ⟨w.heap.size + 1 + 1, 0, none⟩) 1 1).toList 0 _ () HX.out (Nat.le_refl w.heap.size))
  have HLF := Lib.hid (HL.out.sets_far (g' := w.heap.size) (by omega) (xc exKey 19723 exIns (some ⟨w.heap.size + 1 + 1, 0, none⟩) 1 1).toList 0)
  have HOF := Lib.hid (HO.out.sets_far (g' := w.heap.size) (by omega) (xc exKey 19723 exIns (some ⟨w.heap.size + 1 + 1, 0, none⟩) 1 1).toList 0)
  go_enter Tryz.func51, Tryz.ntmps51
  go_wp2_with (first | (refine wpList_store_mid rfl 30 _ _ rfl w.heap.size 0 (xc exKey 19723 exIns (some ⟨w.heap.size + 1 + 1, 0, none⟩) 1 1) rfl rfl hth hs2 hoc ?_) | fail)
  refine bodyPost_ret (results_tx rfl _ _ w.heap.size (.slice (some ⟨w.heap.size + 1, 0, none⟩) 2 2) (xc exKey 19723 exIns (some ⟨w.heap.size + 1 + 1, 0, none⟩) 1 1).toList rfl rfl rfl HF.out) rfl ?_
  refine ⟨_, _, rfl, ?_, ?_, HXF.out⟩
  · exact ⟨rfl, fun _ => ⟨_, _, rfl, HLF.out.lt, fun j u hu => by rw [Nat.zero_add, HLF.out.cell, List.getElem?_toArray]; exact hu⟩⟩
  · exact ⟨rfl, fun _ => ⟨_, _, rfl, HOF.out.lt, fun j u hu => by rw [Nat.zero_add, HOF.out.cell, List.getElem?_toArray]; exact hu⟩⟩
end Go.Proofs.YthgpheopnhajaaaGreatDoor

/- The law's awake. -/
namespace Go.Proofs.YthgpheopnhajaaaGreatDoor
open Go.RowKit Go.Shelf
attribute [local go_sem] size_bs toList_bs
theorem ex_termsA : termsA exO [49, 53] = ([55], [51, 56], ⟨[49], [50]⟩, 0) := by
  unfold termsA
  rw [if_neg (by rw [ex_e]; decide +kernel), if_neg (by decide +kernel)]
  exact ex_terms
theorem ex_recV : recV [49, 50, 48] [51, 56] [49, 49, 50] = ([51, 48], [49, 49, 50], 0) := by
  rw [recV_ok (by decide +kernel) (by decide +kernel)]
  rw [show recG (valI [49, 50, 48]) (valI [51, 56]) (valI [49, 49, 50]) = 30 by decide +kernel, ofI_of (l := [51, 48]) (z := 30) (by decide +kernel) (by decide +kernel), ofI_of (l := [49, 49, 50]) (z := valI [49, 50, 48] + 30 - valI [51, 56]) (by decide +kernel) (by decide +kernel)]
set_option maxRecDepth 100000 in
set_option maxHeartbeats 8000000 in
theorem awakeOK : AwakeOK := by
  intro w hE
  have HE := Lib.hid hE
  clear hE
  go_enter Tryz.func13, Tryz.ntmps13
  go_wp2_with fail
  refine (lawExample _).mono ?_
  rintro e w1 ⟨A, AO, rfl, hA, hO, hx1⟩
  have HZ := Lib.hid (Blk.new w1 30 xz)
  have HX := Lib.hid (hx1.trans (ext_sets (xc exKey 19723 exIns AO 1 1).toList 0 _ () (Ext.new w1 (.cells xz 30)) (Nat.le_refl w1.heap.size)))
  have HX1 := Lib.hid (ext_sets (xc exKey 19723 exIns AO 1 1).toList 0 _ () (Ext.new w1 (.cells xz 30)) (Nat.le_refl w1.heap.size))
  have HA := Lib.hid (hA.ext HX1.out)
  have HO := Lib.hid (hO.ext HX1.out)
  have HF : Hid (Blk _ w1.heap.size 30 (xc exKey 19723 exIns AO 1 1)) := Lib.hid (fact_over (w := _) (xs := xz.toList) (ys := (xc exKey 19723 exIns AO 1 1).toList) (show Blk _ _ _ xz.toList.toArray from HZ.out) rfl)
  have hs2 : (Tryz.prog.info? 30).map (·.size) = some (xc exKey 19723 exIns AO 1 1).size := by kernel_rfl
  have hs1 : (Tryz.prog.info? 30).map (·.size) = some (xc exKey 19723 exIns AO 1 1).toList.length := by kernel_rfl
  have hth : World.there _ w1.heap.size 0 (xc exKey 19723 exIns AO 1 1).size := (fact_there HZ.out : World.there _ w1.heap.size 0 (xz : Array Value).size)
  have hoc : (xc exKey 19723 exIns AO 1 1).all (·.oneCell') = true := by simp [Value.oneCell']
  clear hA hO hx1 HX1 HZ
  go_wp2_with (first | (refine wpList_store_mid rfl 30 _ _ rfl w1.heap.size 0 (xc exKey 19723 exIns AO 1 1) rfl rfl hth hs2 hoc ?_; refine halt_in ?_) | fail)
  refine halt_out ?_
  clear hth hoc hs2
  generalize ((w1.alloc (.cells xz 30)).setCells w1.heap.size 0 (xc exKey 19723 exIns AO 1 1).toList) = w2 at *
  generalize w1.heap.size = G2 at *
  have hrg := fact_range HF.out
  go_wp2_with (first | refine wpList_load_mid rfl 30 _ rfl G2 0 rfl _ _ hrg Tryz.underlying30 rfl hs1 ?_ | fail)
  refine (apEx A 2 AO 1 w2 HA.out (Nat.le_refl _) HO.out (HE.out.ext HX.out)).mono ?_
  rintro e w3 ⟨AL, cl, gG, oG, cg, AS, n, cs, AE, rfl, hr, hg1, hg2, hx1⟩
  have hgl := cell_in hg1
  have HG : Hid (∀ W, Ext w3 W → W.cell? ⟨gG, oG + 6, none⟩ = some (.string (bs [50, 53])) ∧ W.cell? ⟨gG, oG + 10 + 7, none⟩ = some (.string (bs [49]))) := Lib.hid (fun W hx => ⟨(hx.cell (p := ⟨gG, oG + 6, none⟩) hgl).trans hg1, (hx.cell (p := ⟨gG, oG + 10 + 7, none⟩) hgl).trans hg2⟩)
  have HL := Lib.hid hr
  replace HX := Lib.hid (HX.out.trans hx1)
  replace HF := Lib.hid (HF.out.ext hx1)
  replace HO := Lib.hid (HO.out.ext hx1)
  clear hx1 hr hg1 hg2 hgl hrg HA
  have HR := Lib.hid (Blk.new w3 37 #[.slice AL 2 cl, .slice (some ⟨gG, oG, none⟩) 2 cg, .slice AS n cs, .slice AE 1 1])
  have hx1 := Ext.new w3 (.cells #[.slice AL 2 cl, .slice (some ⟨gG, oG, none⟩) 2 cg, .slice AS n cs, .slice AE 1 1] 37)
  replace HX := Lib.hid (HX.out.trans hx1)
  replace HF := Lib.hid (HF.out.ext hx1)
  replace HO := Lib.hid (HO.out.ext hx1)
  have HY := Lib.hid hx1
  clear hx1
  have x19 := (xBlk HF.out (Ext.refl _)).2.2.2.2.2.2.2.2.2.2.2.2.2.2.2.2.2.2.2.1
  obtain ⟨bo, oo, rfl, hbo, o0, o1, o2, o3, o4, o5, o6⟩ := HO.out.at_ (k := 0) (by decide)
  simp only [List.getElem_cons_zero, Nat.zero_mul, Nat.add_zero] at o0 o1 o2 o3 o4 o5 o6
  have TM := Lib.hid (mgTerms (L := 100) (by decide) (by decide) exO [49, 53] ⟨by decide, by decide, by decide, by decide, by decide, by decide, by decide⟩ (by decide))
  rw [ex_termsA] at TM
  have RV := Lib.hid (mgRecognized [49, 50, 48] [51, 56] [49, 49, 50] (by decide) (by decide) (by decide))
  rw [ex_recV] at RV
  dsimp only at TM RV
  go_wp2_with fail
  generalize w3.alloc (.cells #[.slice AL 2 cl, .slice (some ⟨gG, oG, none⟩) 2 cg, .slice AS n cs, .slice AE 1 1] 37) = W3 at *
  generalize w3.heap.size = G3 at *
  refine (TM.out _ (HE.out.ext HX.out)).mono ?_
  rintro e w4 ⟨rfl, hx1⟩
  replace HX := Lib.hid (HX.out.trans hx1)
  replace HY := Lib.hid (HY.out.trans hx1)
  replace HR := Lib.hid (HR.out.ext hx1)
  clear hx1 x19 o0 o1 o2 o3 o4 o5 o6 hbo TM
  have HP := Lib.hid (Blk.new w4 26 #[.string (bs [49]), .string (bs [50])])
  replace HX := Lib.hid (HX.out.alloc (.cells #[.string (bs [49]), .string (bs [50])] 26))
  replace HY := Lib.hid (HY.out.alloc (.cells #[.string (bs [49]), .string (bs [50])] 26))
  replace HR := Lib.hid (HR.out.alloc (.cells #[.string (bs [49]), .string (bs [50])] 26))
  go_wp2_with fail
  generalize w4.alloc (.cells #[.string (bs [49]), .string (bs [50])] 26) = W4 at *
  generalize w4.heap.size = G4 at *
  refine (RV.out _ (HE.out.ext HX.out)).mono ?_
  rintro e w5 ⟨rfl, hx1⟩
  replace HX := Lib.hid (HX.out.trans hx1)
  replace HY := Lib.hid (HY.out.trans hx1)
  replace HR := Lib.hid (HR.out.ext hx1)
  replace HP := Lib.hid (HP.out.ext hx1)
  clear hx1 RV
  obtain ⟨p0, p1, _, _⟩ := frBlk HP.out (Ext.refl _)
  obtain ⟨r0, r1, r2, r3⟩ := rcB HR.out (Ext.refl _)
  obtain ⟨g0, g1⟩ := HG.out _ HY.out
  have hLL := HL.out.ext HY.out
  obtain ⟨b, o, rfl, hb, a0, a1, a2, a3, a4, a5, a6⟩ := hLL.at_ (k := 0) (by decide)
  obtain ⟨b2, o2, e2, _, c0, c1, c2, c3, c4, c5, c6⟩ := hLL.at_ (k := 1) (by decide)
  injection e2 with e2
  injection e2 with e3 e4 _
  subst e3
  subst e4
  simp only [List.getElem_cons_zero, List.getElem_cons_succ, Nat.zero_mul, Nat.add_zero, Nat.one_mul] at a0 a1 a2 a3 a4 a5 a6 c0 c1 c2 c3 c4 c5 c6
  clear hLL HL HG HP HR HY hb
  go_wp2_with fail
  go_ret
  exact ⟨rfl, HX.out⟩
end Go.Proofs.YthgpheopnhajaaaGreatDoor

/- The laws of mergers, whole: Recognizes. -/
namespace Go.Proofs.YthgpheopnhajaaaGreatDoor
open Go.RowKit
theorem lawRecognizes (a b c d : Bs) (w : World) (hE : Env w) :
    Calls Tryz.prog 4 #[.string (bs a), .string (bs b), .string (bs c), .string (bs d)] w fun e w' => e = .returned (.bool true) ∧ Ext w w' := walkRecognizes awakeOK a b c d w hE
end Go.Proofs.YthgpheopnhajaaaGreatDoor

/- From a row's reading to what the walks take: statements as arguments, the library's variables, and the row's last step. -/
namespace Go.Proofs.YthgpheopnhajaaaGreatDoor
open Go.ChangeShapes Go.WideShapes Go.ChangeAt Go.RowKit Go.Deep Go.Joins
theorem list_of {α : Type} [Inhabited α] (n : Nat) (Q : Nat → α → Prop) (h : ∀ i, i < n → ∃ a, Q i a) : ∃ xs : List α, xs.length = n ∧ ∀ (i : Nat) (hi : i < xs.length), Q i (xs[i]'hi) := by
  induction n with
  | zero => exact ⟨[], rfl, fun i hi => absurd hi (by simp)⟩
  | succ n ih =>
    obtain ⟨xs, hl, hx⟩ := ih (fun i hi => h i (by omega))
    obtain ⟨a, ha⟩ := h n (by omega)
    refine ⟨xs ++ [a], by simp [hl], fun i hi => ?_⟩
    rcases Nat.lt_or_ge i xs.length with h1 | h1
    · rw [List.getElem_append_left h1]; exact hx i h1
    · have : i = n := by simp at hi; omega
      subst this
      rw [List.getElem_append_right h1]
      simpa [hl] using ha
section
variable {H : Type} {enc : TypeId × Value → H} {P : Program} {w : World} {base : Nat} {spare : Nat → Bool} {held : Bool}
/-- a slice that came in, element by element, whatever its elements are -/
theorem open_list {α : Type} [Inhabited α] (f : α → List Value) (k : Nat) (hk : 0 < k) (hf : ∀ a, (f a).length = k) {t e : TypeId} {fuel : Nat} {cs : List Value} {x : DataW H × List MemPlace} (ht : P.underlying t = some (.slice e)) (hC : P.cellsOf e = k)
    (ho : ∀ n cs' y, DataW.trod enc P w base spare held n e cs' = some y → ∃ a, cs' = f a) (h : DataW.trod enc P w base spare held fuel t cs = some x) :
    ∃ (A : Option Addr) (c : Nat) (xs : List α), cs = [.slice A xs.length c] ∧ Reads w k A xs.length (xs.flatMap f) ∧ xs.length ≤ c ∧ (xs = [] ∨ ∃ el sp, x.1 = .slice el sp ∧ el.length = xs.length) := by
  rcases open_slice ht h with ⟨rfl, _⟩ | ⟨a, len, cap, m, n, D, Pl, rfl, _, hlc, _, hm, hx, hi⟩
  · exact ⟨none, 0, [], rfl, Reads.nil, Nat.le_refl _, .inl rfl⟩
  · have hml : len ≤ m := by rw [hm]; split <;> omega
    obtain ⟨xs, hl, hq⟩ := list_of len (fun i b => ∀ j, j < k → w.cell? (a.add (i * k + j)) = (f b)[j]?) (fun i hlt => by
      obtain ⟨cs', hc, ht'⟩ := hi i (by omega)
      obtain ⟨b, rfl⟩ := ho _ _ _ ht'
      obtain ⟨_, hcl, hat⟩ := World.cells?_some hc
      rw [hC] at hat
      exact ⟨b, fun j hj => by rw [← hat j hj, Go.Deep.add_add]⟩)
    subst hl
    refine ⟨some a, cap, xs, rfl, ⟨flat_len f k hf xs, fun hn => ?_⟩, hlc, .inr ⟨_, _, by rw [hx], by simp⟩⟩
    have h00 := hq 0 hn 0 hk
    rw [Nat.zero_mul, Nat.zero_add] at h00
    have h0 : w.cell? a = (f (xs[0]'hn))[0]? := h00
    have hl0 : 0 < (f (xs[0]'hn)).length := by rw [hf]; exact hk
    rw [List.getElem?_eq_getElem hl0] at h0
    obtain ⟨b, o, sp⟩ := a
    have hsp : sp = none ∧ b < w.heap.size := by
      unfold World.cell? at h0
      cases hb : w.heap[b]? with
      | none => simp [hb] at h0
      | some ob =>
        have hlt := (Array.getElem?_eq_some_iff.1 hb).1
        cases sp with
        | none => exact ⟨rfl, hlt⟩
        | some q =>
          exfalso
          simp only [hb] at h0
          cases ob <;> simp at h0
    obtain ⟨rfl, hlt⟩ := hsp
    refine ⟨b, o, rfl, hlt, fun j u hu => ?_⟩
    have hj : j < xs.length * k := by
      have := (List.getElem?_eq_some_iff.1 hu).1; rw [flat_len f k hf xs] at this; exact this
    have hjk : j / k < xs.length := (Nat.div_lt_iff_lt_mul hk).2 hj
    have he : j = (j / k) * k + j % k := by have := Nat.div_add_mod j k; rw [Nat.mul_comm] at this; omega
    have h1 := flat_at f k hf xs (j / k) (j % k) hjk (Nat.mod_lt _ hk)
    rw [← he, hu] at h1
    have h2 := hq (j / k) hjk (j % k) (Nat.mod_lt _ hk)
    rw [← he, ← h1] at h2
    rw [← h2]
    unfold Addr.add
    rcases Nat.eq_zero_or_pos j with h0 | h0
    · subst h0; rfl
    · rw [if_neg (by omega)]
end
end Go.Proofs.YthgpheopnhajaaaGreatDoor

/- Lots as arguments of a row, and the library's variables. -/
namespace Go.Proofs.YthgpheopnhajaaaGreatDoor
open Go.ChangeShapes Go.WideShapes Go.ChangeAt Go.RowKit Go.Deep Go.Joins
section
variable {P : Program} {w : World} {base : Nat} {spare : Nat → Bool} {held : Bool} {H : Type} {enc : TypeId × Value → H}
theorem open_lot {t t0 t1 t2 t3 t4 t5 t6 : TypeId} {n : Nat} {cs : List Value} {y : DataW H × List MemPlace} {f0 f1 f2 f3 f4 f5 f6 : Field} (hs : P.underlying t = some (.struct #[f0, f1, f2, f3, f4, f5, f6])) (hone : oneCellFields P #[f0, f1, f2, f3, f4, f5, f6] = true) (hC : P.cellsOf t = 7)
    (h0 : f0.type = t0) (h1 : f1.type = t1) (h2 : f2.type = t2) (h3 : f3.type = t3) (h4 : f4.type = t4) (h5 : f5.type = t5) (h6 : f6.type = t6)
    (u0 : P.underlying t0 = some .string) (u1 : P.underlying t1 = some .string) (u2 : P.underlying t2 = some (.int .i64)) (u3 : P.underlying t3 = some (.int .i64)) (u4 : P.underlying t4 = some .string) (u5 : P.underlying t5 = some .string) (u6 : P.underlying t6 = some .string) (h : DataW.trod enc P w base spare held n t cs = some y) :
    ∃ a : LotV, cs = lotCells a := by
  obtain ⟨xs, n, _, _, hlen, hl, hg⟩ := DataW.trod_struct hs h
  rw [hC] at hlen
  obtain ⟨o0, k0⟩ := hone_of hone 0 f0 rfl
  obtain ⟨o1, k1⟩ := hone_of hone 1 f1 rfl
  obtain ⟨o2, k2⟩ := hone_of hone 2 f2 rfl
  obtain ⟨o3, k3⟩ := hone_of hone 3 f3 rfl
  obtain ⟨o4, k4⟩ := hone_of hone 4 f4 rfl
  obtain ⟨o5, k5⟩ := hone_of hone 5 f5 rfl
  obtain ⟨o6, k6⟩ := hone_of hone 6 f6 rfl
  match cs, hlen, xs, hl with
  | [c0, c1, c2, c3, c4, c5, c6], _, [y0, y1, y2, y3, y4, y5, y6], _ =>
    have g0 := hg 0 f0 rfl
    rw [o0, k0, h0] at g0
    have g1 := hg 1 f1 rfl
    rw [o1, k1, h1] at g1
    have g2 := hg 2 f2 rfl
    rw [o2, k2, h2] at g2
    have g3 := hg 3 f3 rfl
    rw [o3, k3, h3] at g3
    have g4 := hg 4 f4 rfl
    rw [o4, k4, h4] at g4
    have g5 := hg 5 f5 rfl
    rw [o5, k5, h5] at g5
    have g6 := hg 6 f6 rfl
    rw [o6, k6, h6] at g6
    obtain ⟨s0, e0, _⟩ := DataW.trod_string u0 (x := y0) (by simpa using g0)
    obtain ⟨s1, e1, _⟩ := DataW.trod_string u1 (x := y1) (by simpa using g1)
    obtain ⟨s2, e2, _⟩ := DataW.trod_int u2 (x := y2) (by simpa using g2)
    obtain ⟨s3, e3, _⟩ := DataW.trod_int u3 (x := y3) (by simpa using g3)
    obtain ⟨s4, e4, _⟩ := DataW.trod_string u4 (x := y4) (by simpa using g4)
    obtain ⟨s5, e5, _⟩ := DataW.trod_string u5 (x := y5) (by simpa using g5)
    obtain ⟨s6, e6, _⟩ := DataW.trod_string u6 (x := y6) (by simpa using g6)
    simp at e0 e1 e2 e3 e4 e5 e6
    subst e0; subst e1; subst e2; subst e3; subst e4; subst e5; subst e6
    exact ⟨⟨L s0, L s1, s2, s3, L s4, L s5, L s6⟩, by simp [lotCells, bs_L]⟩
end
set_option maxRecDepth 100000 in
theorem list_small {H : Type} {P : Program} {t e : TypeId} {α : Type} {xs : List α} {d : DataW H} (ht : P.underlying t = some (.slice e)) (hb : 0 < P.bytesOf e) (hw : (d.weights P t).all (· ≤ reachBytes) = true) (hx : xs = [] ∨ ∃ el sp, d = .slice el sp ∧ el.length = xs.length) : xs.length ≤ 4611686018427387904 := by
  rcases hx with rfl | ⟨el, sp, rfl, hl⟩
  · simp
  · simp only [DataW.weights, ht, List.all_cons, Bool.and_eq_true, decide_eq_true_eq] at hw
    have h1 : el.length * 1 ≤ (el.length + sp.length) * P.bytesOf e := Nat.mul_le_mul (by omega) hb
    have h2 : reachBytes ≤ 4611686018427387904 := by decide
    omega
set_option maxRecDepth 100000 in
theorem open_lots {H : Type} {enc : TypeId × Value → H} {W : World} {r : Reach} {b0 base : Nat} {spare : Nat → Bool} {held : Bool} {v : Value} {d : DataW H} {p : List MemPlace} (hv : Value.okWide Tryz.prog W r b0 22 v) (h : DataW.Trod enc Tryz.prog W base spare held 22 v d p)
    (hw : (d.weights Tryz.prog 22).all (· ≤ reachBytes) = true) :
    ∃ (ls : List LotV) (A : Option Addr) (c : Nat), v = .slice A ls.length c ∧ RdL W A ls ∧ ls.length ≤ c ∧ ls.length ≤ 4611686018427387904 := by
  obtain ⟨a, n, c, rfl⟩ := okWide_slice Tryz.underlying22 hv
  obtain ⟨fuel, hf⟩ := h
  obtain ⟨A, c', ls, e, hr, hlc, hx⟩ := open_list (α := LotV) lotCells 7 (by decide) lotCells_len Tryz.underlying22 (by kernel_rfl) (fun n cs y hy => open_lot Tryz.underlying71 (by kernel_rfl) (by kernel_rfl) rfl rfl rfl rfl rfl rfl rfl Tryz.underlying9 Tryz.underlying9 Tryz.underlying23 Tryz.underlying23 Tryz.underlying24 Tryz.underlying24 Tryz.underlying24 hy) hf
  simp only [Value.cells, List.cons.injEq, and_true] at e
  rw [e]
  exact ⟨ls, A, c', rfl, hr, hlc, list_small Tryz.underlying22 (by rw [show Tryz.prog.bytesOf 71 = 96 by kernel_rfl]; decide) hw hx⟩
set_option maxRecDepth 100000 in
theorem open_lot1 {H : Type} {enc : TypeId × Value → H} {W : World} {r : Reach} {b0 base : Nat} {spare : Nat → Bool} {held : Bool} {v : Value} {d : DataW H} {p : List MemPlace} (hv : Value.okWide Tryz.prog W r b0 71 v) (h : DataW.Trod enc Tryz.prog W base spare held 71 v d p) :
    ∃ x : LotV, v = .agg #[.string (bs x.id), .string (bs x.ins), .int .i64 x.acq, .int .i64 x.opn, .string (bs x.q), .string (bs x.c), .string (bs x.u)] := by
  obtain ⟨cs, rfl, _⟩ := okWide_struct Tryz.underlying71 hv
  obtain ⟨fuel, hf⟩ := h
  obtain ⟨x, e⟩ := open_lot Tryz.underlying71 (by kernel_rfl) (by kernel_rfl) rfl rfl rfl rfl rfl rfl rfl Tryz.underlying9 Tryz.underlying9 Tryz.underlying23 Tryz.underlying23 Tryz.underlying24 Tryz.underlying24 Tryz.underlying24 hf
  refine ⟨x, ?_⟩
  simp only [Value.cells] at e
  rw [← Array.toList_inj.1 (e.trans (by simp [lotCells] : lotCells x = #[Value.string (bs x.id), .string (bs x.ins), .int .i64 x.acq, .int .i64 x.opn, .string (bs x.q), .string (bs x.c), .string (bs x.u)].toList))]
theorem own : ownKnob Tryz.prog.godebug = none := by kernel_rfl
theorem laidOut : laidOutB Tryz.prog = true := by kernel_rfl
theorem star : "*" ++ "errors.errorString" = "*errors.errorString" := by decide
theorem errRow (u : TypeId) (h : Tryz.prog.typeName? 3 u = some "*errors.errorString") : u = 319 :=
  typeName_ptr_named (nm := "errors.errorString") (by rw [star]; kernel_rfl) (by kernel_rfl) (by decide) u (by rw [star]; exact h)
theorem block_of_cell {w : World} {p : Addr} {u : Value} (h : w.cell? p = some u) : p.block < w.heap.size := by
  unfold World.cell? at h
  cases hb : w.heap[p.block]? with
  | none => simp [hb] at h
  | some o => exact (Array.getElem?_eq_some_iff.1 hb).1
set_option maxRecDepth 100000 in
/-- WHAT THE ROW's LIST AND THE WORLD's SHAPE GIVE -/
theorem env_of {W : World} {x y u : String × DataW Unit} {rest : List (String × DataW Unit)} (h : laidMet Tryz.prog (x :: y :: ("internal/strconv.uint64pow10", Rows.laid_internal_strconv_uint64pow10) :: u :: ("strconv.ErrRange", Rows.laid_strconv_ErrRange) :: ("strconv.ErrSyntax", Rows.laid_strconv_ErrSyntax) :: rest) W) (hsh : W.ShapedOpen Tryz.prog) : Env W := by
  have h1 : Lib.TabIs Tryz.prog W "internal/strconv.uint64pow10" .u64 Lib.pow10Tab :=
    Lib.tabIs_of_head (g := 0) (by kernel_rfl) (by kernel_rfl) Tryz.underlying295 Tryz.underlying183 (by kernel_rfl) (by kernel_rfl) h.tail.tail
  have h2 : ∃ m, W.cell? ⟨3, 0, none⟩ = some (.int .i64 m) :=
    cell_of_shapedOpen_int (zero := #[.int .i64 0]) hsh (by decide +kernel) (by kernel_rfl) (by kernel_rfl) (by kernel_rfl) (by kernel_rfl) Tryz.underlying3
  have h3 := h1.cell (g := 0) (by kernel_rfl) 0 (by decide)
  have gR : Tryz.prog.globalNamed "strconv.ErrRange" = some 2 := by kernel_rfl
  have gS : Tryz.prog.globalNamed "strconv.ErrSyntax" = some 1 := by kernel_rfl
  obtain ⟨a1, s1, v1, _, _, _⟩ := laid_sentinel h.tail.tail.tail.tail gR (by kernel_rfl) Tryz.underlying185 errRow Tryz.underlying319 Tryz.underlying321 rfl rfl Tryz.underlying9 (by kernel_rfl) (by kernel_rfl)
  obtain ⟨a2, s2, v2, _, _, _⟩ := laid_sentinel h.tail.tail.tail.tail.tail gS (by kernel_rfl) Tryz.underlying185 errRow Tryz.underlying319 Tryz.underlying321 rfl rfl Tryz.underlying9 (by kernel_rfl) (by kernel_rfl)
  refine ⟨h1, h2, ⟨block_of_cell h3, ?_⟩, ⟨_, World.var?_cell gS v2 0, .inr ⟨_, _, rfl⟩⟩, ⟨_, World.var?_cell gR v1 0, .inr ⟨_, _, rfl⟩⟩⟩
  obtain ⟨m, hm⟩ := h2
  exact block_of_cell hm
end Go.Proofs.YthgpheopnhajaaaGreatDoor
