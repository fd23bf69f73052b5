/- The seat's texts, part 4 of 5. -/
import Derived.Test.YteeampgbmpolfaaGreatDoorZ3
import Derived.Lib.SplitLaws
import Derived.Laws.EntriesVeiled
import Derived.RangeFuncStops
import Derived.BigQuiet
import Derived.KernelRfl
import Derived.Deep.RegionHeld3
import Derived.Test.YteeampgbmpolfaaGreatDoorRows
import Derived.ProofKit
import Derived.OpenShut
import Derived.Deep.Slices
import Derived.Deep.Fields
import Derived.Lib.SmallJoins
import Derived.ChangeSame
import Derived.WideKeyArgs
import Derived.Stop.LaidErr
import Derived.Lib.LaidTab
import Derived.Shelf.Vars

/- The walk over the program's reader of a movement's line. -/
namespace Go.Proofs.YteeampgbmpolfaaGreatDoor
open Go.RowKit
attribute [local go_sem] size_bs toList_bs extract_bs get_bs append_bs lit_append append_lit

set_option maxRecDepth 100000 in
set_option maxHeartbeats 4000000 in
theorem stMove (s : St) (b c d e f : Bs) (base g bb : Nat) (vA vB : Value) (w : World) (hS : StAtV w base g 81 (moreB true) s vA vB) (hW : Blk w bb 9 (scells [wMovement, b, c, d, e, f]).toArray) (hbw : base ≤ w.heap.size) (hlc : c.length ≤ 100000) (hle : e.length ≤ 100000) (hlf : f.length ≤ 100000) (hn : s.ms.length ≤ 1000000) :
    Calls Tryz.prog 91 #[.pointer (some ⟨g, 0, none⟩), .slice (some ⟨bb, 0, none⟩) 6 6] w (ReadEnds base g 81 moreB s false [wMovement, b, c, d, e, f] w) := by
  obtain ⟨iM, hiM, hzM0, hzM1, hzM2⟩ := info_parts movInfo
  have HIM := Lib.hid hiM
  clear hiM
  have hc2 := hW.cell 2
  simp only [scells, List.map_cons, List.map_nil, List.getElem?_toArray, List.getElem?_cons_zero, List.getElem?_cons_succ] at hc2
  have HS := Lib.hid hS
  have HW := Lib.hid hW
  obtain ⟨aA, cA, rfl⟩ := own_len hS.2.2.1
  obtain ⟨aB, cB, rfl⟩ := own_len hS.2.2.2
  clear hS hW
  have HST : Hid (stepW s false [wMovement, b, c, d, e, f] = if (b ≠ [] ∧ d ≠ [] ∧ parseDE c = 0 ∧ parseIE e = 0 ∧ parseIE f = 0) then some { s with ms := s.ms ++ [⟨b, parseDV c, d, parseIV e, parseIV f⟩] } else none) := Lib.hid (by simp [stepW])
  go_enter Tryz.func91, Tryz.ntmps91
  go_wp2_with fail
  refine (stReadDay c _ (by omega)).mono ?_
  rintro e2 w2 ⟨rfl, hx2⟩
  have hW2 := HW.out.ext hx2
  have hr4 := hW2.cell 4
  simp only [scells, List.map_cons, List.map_nil, List.getElem?_toArray, List.getElem?_cons_zero, List.getElem?_cons_succ] at hr4
  have HW2 := Lib.hid hW2
  clear hW2
  generalize hdv : parseDV c = dv at *
  generalize hde : (parseDE c == 0) = de at *
  go_wp2_with fail
  refine (stReadNumber e _ (by omega)).mono ?_
  rintro e3 w3 ⟨rfl, hx3⟩
  have hW3 := HW2.out.ext hx3
  have hr5 := hW3.cell 5
  simp only [scells, List.map_cons, List.map_nil, List.getElem?_toArray, List.getElem?_cons_zero, List.getElem?_cons_succ] at hr5
  have HW3 := Lib.hid hW3
  clear hW3
  generalize hqv : parseIV e = qv at *
  generalize hqe : (parseIE e == 0) = qe at *
  go_wp2_with fail
  refine (stReadNumber f _ (by omega)).mono ?_
  rintro e4 w1 ⟨rfl, hx4⟩
  generalize hav : parseIV f = av at *
  generalize hae : (parseIE f == 0) = ae at *
  have hx := (hx2.trans hx3).trans hx4
  have hS1 := HS.out.ext hx
  have hd1 := hS1.1.cell 1
  have hd2 := hS1.1.cell 2
  have hf2 := hS1.1.frozen 2
  have hW1 := HW.out.ext hx
  have he1 := hW1.cell 1
  have he3 := hW1.cell 3
  simp only [moreB, scells, List.map_cons, List.map_nil, List.getElem?_toArray, List.getElem?_cons_zero, List.getElem?_cons_succ] at hd1 hd2 he1 he3
  have hgw1 := hS1.1.lt
  have HS1 := Lib.hid hS1
  have HW1 := Lib.hid hW1
  have HE1 := Lib.hid hdv
  have HE2 := Lib.hid hde
  have HE3 := Lib.hid hqv
  have HE4 := Lib.hid hqe
  have HE5 := Lib.hid hav
  have HE6 := Lib.hid hae
  clear hdv hde hqv hqe hav hae hS1 hW1 hx2 hx3 hx4 hc2 hr4 hr5
  go_wp2_with fail
  go_region_law ((refine step_append_lies _ (by rfl) (.tmp 37) (.tmp 48) 24 (by rfl) base 50 iM _ 5 72 Tryz.underlying24 HIM.out hzM0 hzM1 hzM2 rfl (by decide) (.slice aB s.ms.length cB) s.ms.length (mcells s.ms) (by simp [Act.eval]) (HS1.out.2.2.2.drew.alloc _) ⟨w1.heap.size, 0, none⟩ 1 1 [.string (bs b), .int .i64 dv, .string (bs d), .string (bs qv), .string (bs av)] (by simp [Act.eval]) rfl (World.news_of_block (heap_alloc_new w1.drew _)) (by simp [Value.oneCell']) (by omega) (by simp only [maxLen]; omega) (by omega) (by have := hx.size; simp; omega) _ rfl ?_); intro g' cap' w' hown hgrow hat hlt'; (have hb' := StAtV.growB ((HS1.out.ext (Ext.refl w1).drew).ext (Ext.new _ _)) (by decide) hgrow); (have hg1 := hb'.cell 2); (have hg2 := hb'.frozen 2); (have hm1 := (World.grownBy.cell_far hgrow ⟨bb, 1, none⟩ (by have := HW1.out.lt; simp; omega) (fun he => own_ne HS1.out.2.2.2 HW1.out (by decide) he.symm)).trans (((HW1.out.drew).alloc _).cell 1)); (have hm3 := (World.grownBy.cell_far hgrow ⟨bb, 3, none⟩ (by have := HW1.out.lt; simp; omega) (fun he => own_ne HS1.out.2.2.2 HW1.out (by decide) he.symm)).trans (((HW1.out.drew).alloc _).cell 3)); (simp only [scells, List.map_cons, List.map_nil, List.getElem?_toArray, List.getElem?_cons_zero, List.getElem?_cons_succ] at hg1 hm1 hm3); clear hb')
  all_goals
    have hbbg : ¬ bb = g := fun he => by subst he; have h1 := HW1.out; have h2 := HS1.out.1; unfold Blk at h1 h2; rw [h1] at h2; injection h2 with h2; injection h2 with _ h2; exact absurd h2 (by decide)
    have HFIN : ∀ ok : Bool, ok = (de && qe && ae && !b.isEmpty && !d.isEmpty) → ReadEnds base g 81 moreB s false [wMovement, b, c, d, e, f] w (.returned (.bool ok)) (w'.setCell ⟨g, 2, none⟩ (.slice (some ⟨g', 0, none⟩) (s.ms.length + 1) cap')) := fun ok hok => by
      refine ReadEnds.yes HST.out ?_ ?_ ?_
      · rw [hok, ← HE2.out, ← HE4.out, ← HE6.out, Bool.eq_iff_iff]; simp [and_assoc]; constructor <;> (intro h; simp_all)
      · exact (BelG.of (Below.grown (Below.alloc (Below.mono hx hbw).drew (by have := hx.size; simp; omega) _) hgrow (by have := hx.size; simp; omega) (own_ge HS1.out.2.2.2))).setCell _ _
      · exact StAtV.addM (x := ⟨b, dv, d, qv, av⟩) ((HS1.out.ext (Ext.refl w1).drew).ext (Ext.new _ _)) (by decide) (by decide) hgrow hown
    have HF := Lib.hid HFIN
    clear HFIN hown hgrow hat HE2 HE4 HE6
    rcases de with _ | _
    · go_wp2_with fail
      go_ret
      exact HF.out _ rfl
    · rcases qe with _ | _
      · go_wp2_with fail
        go_ret
        exact HF.out _ rfl
      · rcases ae with _ | _
        · go_wp2_with fail
          go_ret
          exact HF.out _ rfl
        · rcases h2b : b.isEmpty with _ | _
          · have HF2 := Lib.hid (by have := HF.out _ rfl; rw [h2b] at this; exact this)
            go_wp2_with fail
            go_ret
            exact HF2.out
          · have HF2 := Lib.hid (by have := HF.out _ rfl; rw [h2b] at this; exact this)
            go_wp2_with fail
            go_ret
            exact HF2.out
end Go.Proofs.YteeampgbmpolfaaGreatDoor

/- The library's splitting and cutting, in our words. -/
namespace Go.Proofs.YteeampgbmpolfaaGreatDoor
open Go.RowKit Go.Shelf

theorem first_of (c : UInt8) : ∀ (l : Bs), (∀ x ∈ l, x ≠ c) ∧ Lib.indexByte l c = -1 ∨ ∃ p r, l = p ++ c :: r ∧ (∀ x ∈ p, x ≠ c) ∧ Lib.indexByte l c = (p.length : Nat)
  | [] => .inl ⟨by simp, rfl⟩
  | x :: l => by
    by_cases h : x = c
    · refine .inr ⟨[], l, by simp [h], by simp, by simp [Lib.indexByte, h]⟩
    · rcases first_of c l with ⟨h1, h2⟩ | ⟨p, r, rfl, h1, h2⟩
      · refine .inl ⟨?_, by simp [Lib.indexByte, h, h2]⟩
        intro y hy; simp at hy; rcases hy with rfl | hy
        · exact h
        · exact h1 y hy
      · refine .inr ⟨x :: p, r, rfl, ?_, ?_⟩
        · intro y hy; simp at hy; rcases hy with rfl | hy
          · exact h
          · exact h1 y hy
        · have : ¬ ((p.length : Nat) : Int) = -1 := by omega
          simp [Lib.indexByte, h, h2, this]
theorem index1 (l : Bs) (c : UInt8) : Lib.index l [c] = Lib.indexByte l c := Lib.index_one l c
theorem indexB_one (l : Bs) (c : UInt8) : Lib.indexB (bs l) (bs [c]) = Lib.indexByte l c := by
  show Lib.index (bs l).data.toList (bs [c]).data.toList = _
  rw [data_bs, data_bs, index1]
theorem split_all (c : UInt8) : ∀ (n : Nat) (l : Bs), l.length ≤ n → Lib.splitB (bs [c]) 0 (Lib.countB (bs l) (bs [c])) (bs l) = (splitOn c l).map bs ∧ Lib.countB (bs l) (bs [c]) + 1 = (splitOn c l).length
  | n, l, hn => by
    rcases first_of c l with ⟨h1, h2⟩ | ⟨p, r, rfl, h1, h2⟩
    · rw [← indexB_one] at h2
      rw [Lib.countB_miss _ _ h2, Lib.splitB_miss _ _ _ _ h2, splitOn_none c l h1]
      exact ⟨rfl, rfl⟩
    · rw [← indexB_one] at h2
      have he : (bs (p ++ c :: r)).extract (p.length + (bs [c]).size) (bs (p ++ c :: r)).size = bs r := by
        rw [extract_bs, size_bs, size_bs]; congr 1
        simp only [List.length_cons, List.length_nil, List.length_append]
        rw [show p ++ c :: r = (p ++ [c]) ++ r by simp, List.drop_left' (by simp), List.take_of_length_le (by omega)]
      match n, hn with
      | 0, hn => simp at hn
      | n + 1, hn =>
        have ih := split_all c n r (by simp at hn; omega)
        rw [Lib.countB_hit _ _ _ (by simp [size_bs]) h2, he, Nat.add_comm 1, Lib.splitB_hit _ _ _ _ _ h2, he, ih.1, splitOn_cut c p r h1]
        refine ⟨?_, by simp [ih.2]⟩
        simp only [List.map_cons, List.cons.injEq, and_true]
        rw [extract_bs]; congr 1; simp
theorem cut_none (c : UInt8) (l : Bs) (h : ∀ x ∈ l, x ≠ c) : Lib.cut l [c] = (l, [], false) := by
  rcases first_of c l with ⟨h1, h2⟩ | ⟨p, r, rfl, h1, h2⟩
  · unfold Lib.cut; rw [index1, h2]; rfl
  · exact absurd rfl (h c (by simp))
theorem cut_some (c : UInt8) (p r : Bs) (h : ∀ x ∈ p, x ≠ c) : Lib.cut (p ++ c :: r) [c] = (p, r, true) := by
  rcases first_of c (p ++ c :: r) with ⟨h1, h2⟩ | ⟨p', r', he, h1, h2⟩
  · exact absurd rfl (h1 c (by simp))
  · have : p = p' ∧ r = r' := by
      have e1 := congrArg (splitOn c) he
      rw [splitOn_cut c p r h, splitOn_cut c p' r' h1] at e1
      injection e1 with e1 e2
      subst e1
      simpa using he
    obtain ⟨rfl, rfl⟩ := this
    unfold Lib.cut; rw [index1, h2]; simp
theorem split_any (l : Bs) (w : World) (hl : l.length ≤ 1000000) (hE : Env w) :
    Calls Tryz.prog 92 #[.string (bs l), .string { data := #[32] }] w fun e w' => e = .returned (.slice (some ⟨w.heap.size, 0, none⟩) (splitOn 32 l).length (splitOn 32 l).length) ∧ w' = w.alloc (.cells (scells (splitOn 32 l)).toArray 9) := by
  obtain ⟨m, hm⟩ := hE.len
  obtain ⟨h1, h2⟩ := split_all 32 l.length l (Nat.le_refl _)
  refine (Tryz.strings_Split (bs l) (bs [32]) m w (by rw [size_bs]; omega) hm (by simp [size_bs])).mono ?_
  rw [h1, h2]
  rintro e w' ⟨rfl, rfl⟩
  refine ⟨rfl, ?_⟩
  simp [scells, Function.comp_def]
theorem cut_any (l : Bs) (w : World) (hl : l.length ≤ 1000000) (hE : Env w) :
    Calls Tryz.prog 88 #[.string (bs l), .string { data := #[10] }] w fun e w' => e = .returned (.tuple #[.string (bs (Lib.cut l [10]).1), .string (bs (Lib.cut l [10]).2.1), .bool (Lib.cut l [10]).2.2]) ∧ ∃ n, w' = w.drewN n := by
  obtain ⟨m, hm⟩ := hE.len
  refine (Tryz.strings_Cut (bs l) (bs [10]) m w (by rw [size_bs]; omega) hm).mono ?_
  rintro e w' ⟨rfl, hw⟩
  exact ⟨rfl, hw⟩
end Go.Proofs.YteeampgbmpolfaaGreatDoor

/- The walk over the program's reader of a line. -/
namespace Go.Proofs.YteeampgbmpolfaaGreatDoor
open Go.RowKit
attribute [local go_sem] size_bs toList_bs extract_bs get_bs append_bs lit_append append_lit

set_option maxRecDepth 100000 in
set_option maxHeartbeats 4000000 in
theorem stRead (s : St) (line : Bs) (ws : List Bs) (hws : splitOn 32 line = ws) (first : Bool) (base g : Nat) (w : World) (hS : StAt w base g 81 (moreB (!first)) s) (hbw : base ≤ w.heap.size) (hE : Env w) (hl : line.length ≤ 100000) (hn1 : s.hs.length ≤ 1000000) (hn2 : s.ms.length ≤ 1000000) :
    Calls Tryz.prog 49 #[.pointer (some ⟨g, 0, none⟩), .string (bs line)] w (ReadEnds base g 81 moreB s first ws w) := by
  obtain ⟨vA, vB, hS⟩ := hS
  obtain ⟨W1, W2, W3, r1, r2, r3, hmap, hx, hsz⟩ := cmdMap w
  have hwl := splitOn_len 32 line
  have hwm := splitOn_mem 32 line
  have hwn := splitOn_ne 32 line
  rw [hws] at hwl hwm hwn
  have HWM := Lib.hid hwm
  obtain ⟨x, xs, rfl⟩ : ∃ x xs, ws = x :: xs := by cases ws with | nil => exact absurd rfl hwn | cons x xs => exact ⟨x, xs, rfl⟩
  simp only [kSt, kHo, kMo, vSt, vHo, vMo] at r1 r2 r3
  have HE := Lib.hid hE
  have HS := Lib.hid (hS.ext hx)
  have HMAP := Lib.hid hmap
  have HX := Lib.hid hx
  clear hwm hS hE hmap hwn
  have hmm := @run_makeMap Tryz.prog
  go_enter Tryz.func49, Tryz.ntmps49
  go_wp2_with fail
  refine (split_any line _ (by omega) (HE.out.ext HX.out)).mono ?_
  rw [hws]
  rintro e w4 ⟨rfl, rfl⟩
  clear hmm r1 r2 r3 hws
  have HW4 := Lib.hid (Blk.new W3 9 (scells (x :: xs)).toArray)
  have HM4 : Hid ((W3.alloc (.cells (scells (x :: xs)).toArray 9)).heap[w.heap.size]? = some (.map cmds 3)) := Lib.hid ((Below.heap_alloc W3 _ _ (by omega)).trans HMAP.out)
  have HS4 := Lib.hid (HS.out.ext (Ext.new W3 (.cells (scells (x :: xs)).toArray 9)))
  have HX4 := Lib.hid (HX.out.trans (Ext.new W3 (.cells (scells (x :: xs)).toArray 9)))
  have hsz4 : W3.heap.size < (W3.alloc (.cells (scells (x :: xs)).toArray 9)).heap.size := by simp
  generalize W3.alloc (.cells (scells (x :: xs)).toArray 9) = W4 at *
  generalize hbb : W3.heap.size = bb at *
  clear hbb HS HX HMAP hx hsz
  have hc0 := HW4.out.cell 0
  simp only [scells, List.map_cons, List.getElem?_toArray, List.getElem?_cons_zero] at hc0
  have hd3 := HS4.out.1.cell 3
  simp only [moreB, List.getElem?_toArray, List.getElem?_cons_zero, List.getElem?_cons_succ] at hd3
  have hbase : base ≤ W4.heap.size := Nat.le_trans hbw HX4.out.size
  have hgw := HS4.out.1.lt
  by_cases h1 : x = wStatement
  · subst h1
    have hlk := run_look (P := Tryz.prog) _ _ _ _ _ _ (bs wStatement) _ _ Tryz.underlying128 Tryz.underlying9 HM4.out (by rw [cmdFind, if_pos rfl])
    simp only [vSt] at hlk
    have hab : (wStatement == [115, 116, 97, 116, 101, 109, 101, 110, 116]) = true := rfl
    by_cases h2 : xs.length = 1
    · obtain ⟨b, rfl⟩ : ∃ b, xs = [b] := by match xs, h2 with | [b], _ => exact ⟨b, rfl⟩
      have hbl : b.length ≤ line.length := HWM.out b (by simp)
      clear h2
      cases first
      · simp only [Bool.not_false] at hd3
        go_wp2_with fail
        refine (stBegin s b false base g bb vA vB _ (HS4.out.ext (Ext.new _ _)) (HW4.out.ext (Ext.new _ _)) (by simp; omega) (by omega)).mono ?_
        rintro e w5 ⟨ok, rfl, hb5, hy, hn⟩
        go_wp2_with fail
        go_ret
        exact ⟨ok, rfl, (BelG.of (Below.mono (HX4.out.trans (Ext.new _ _)) hbw)).trans hb5, hy, hn⟩
      · simp only [Bool.not_true] at hd3
        go_wp2_with fail
        refine (stBegin s b true base g bb vA vB _ (HS4.out.ext (Ext.new _ _)) (HW4.out.ext (Ext.new _ _)) (by simp; omega) (by omega)).mono ?_
        rintro e w5 ⟨ok, rfl, hb5, hy, hn⟩
        go_wp2_with fail
        go_ret
        exact ⟨ok, rfl, (BelG.of (Below.mono (HX4.out.trans (Ext.new _ _)) hbw)).trans hb5, hy, hn⟩
    · have h2b : ((xs.length : Int) + 1 != 2) = true := by rw [bne_iff_ne]; omega
      have HST : Hid (stepW s first (wStatement :: xs) = none) := Lib.hid (by
        unfold stepW
        split
        · rename_i heq; injection heq with _ h; subst h; exact absurd rfl h2
        · rename_i heq; injection heq with h _; rw [← h]; simp [show ¬ wStatement = wHolding by decide]
        · rename_i heq; injection heq with h _; rw [← h]; simp [show ¬ wStatement = wMovement by decide]
        · rfl)
      clear h2
      go_wp2_with fail
      go_ret
      exact ReadEnds.no HST.out (Below.mono (HX4.out.trans (Ext.new _ _)) hbw)
  by_cases h2 : x = wHolding
  · subst h2
    have hlk := run_look (P := Tryz.prog) _ _ _ _ _ _ (bs wHolding) _ _ Tryz.underlying128 Tryz.underlying9 HM4.out (by rw [cmdFind, if_neg h1, if_pos rfl])
    simp only [vHo] at hlk
    have hab : (wHolding == [115, 116, 97, 116, 101, 109, 101, 110, 116]) = false := rfl
    clear h1
    by_cases h2 : xs.length = 2
    · obtain ⟨b, c, rfl⟩ := len2 h2
      have hbl : c.length ≤ line.length := HWM.out c (by simp)
      clear h2
      cases first
      · simp only [Bool.not_false] at hd3
        go_wp2_with fail
        refine (stHold s b c base g bb vA vB _ (HS4.out.ext (Ext.new _ _)) (HW4.out.ext (Ext.new _ _)) (by simp; omega) (by omega) (by omega)).mono ?_
        rintro e w5 ⟨ok, rfl, hb5, hy, hn⟩
        go_wp2_with fail
        go_ret
        exact ⟨ok, rfl, (BelG.of (Below.mono (HX4.out.trans (Ext.new _ _)) hbw)).trans hb5, hy, hn⟩
      · simp only [Bool.not_true] at hd3
        have HST : Hid (stepW s true [wHolding, b, c] = none) := Lib.hid (by simp [stepW])
        go_wp2_with fail
        go_ret
        exact ReadEnds.no HST.out (Below.mono (HX4.out.trans (Ext.new _ _)) hbw)
    · have h2b : ((xs.length : Int) + 1 != 3) = true := by rw [bne_iff_ne]; omega
      have HST : Hid (stepW s first (wHolding :: xs) = none) := Lib.hid (by
        unfold stepW
        split
        · rename_i heq; injection heq with h _; rw [← h]; simp [show ¬ wHolding = wStatement by decide]
        · rename_i heq; injection heq with _ h; subst h; exact absurd rfl h2
        · rename_i heq; injection heq with h _; rw [← h]; simp [show ¬ wHolding = wMovement by decide]
        · rfl)
      clear h2
      go_wp2_with fail
      go_ret
      exact ReadEnds.no HST.out (Below.mono (HX4.out.trans (Ext.new _ _)) hbw)
  by_cases h3 : x = wMovement
  · subst h3
    have hlk := run_look (P := Tryz.prog) _ _ _ _ _ _ (bs wMovement) _ _ Tryz.underlying128 Tryz.underlying9 HM4.out (by rw [cmdFind, if_neg h1, if_neg h2, if_pos rfl])
    simp only [vMo] at hlk
    have hab : (wMovement == [115, 116, 97, 116, 101, 109, 101, 110, 116]) = false := rfl
    clear h1 h2
    by_cases h2 : xs.length = 5
    · obtain ⟨b, c, d, e, f, rfl⟩ : ∃ b c d e f, xs = [b, c, d, e, f] := by match xs, h2 with | [b, c, d, e, f], _ => exact ⟨b, c, d, e, f, rfl⟩
      have hlc : c.length ≤ line.length := HWM.out c (by simp)
      have hle : e.length ≤ line.length := HWM.out e (by simp)
      have hlf : f.length ≤ line.length := HWM.out f (by simp)
      clear h2
      cases first
      · simp only [Bool.not_false] at hd3
        go_wp2_with fail
        refine (stMove s b c d e f base g bb vA vB _ (HS4.out.ext (Ext.new _ _)) (HW4.out.ext (Ext.new _ _)) (by simp; omega) (by omega) (by omega) (by omega) (by omega)).mono ?_
        rintro e w5 ⟨ok, rfl, hb5, hy, hn⟩
        go_wp2_with fail
        go_ret
        exact ⟨ok, rfl, (BelG.of (Below.mono (HX4.out.trans (Ext.new _ _)) hbw)).trans hb5, hy, hn⟩
      · simp only [Bool.not_true] at hd3
        have HST : Hid (stepW s true [wMovement, b, c, d, e, f] = none) := Lib.hid (by simp [stepW])
        go_wp2_with fail
        go_ret
        exact ReadEnds.no HST.out (Below.mono (HX4.out.trans (Ext.new _ _)) hbw)
    · have h2b : ((xs.length : Int) + 1 != 6) = true := by rw [bne_iff_ne]; omega
      have HST : Hid (stepW s first (wMovement :: xs) = none) := Lib.hid (by
        unfold stepW
        split
        · rename_i heq; injection heq with h _; rw [← h]; simp [show ¬ wMovement = wStatement by decide]
        · rename_i heq; injection heq with h _; rw [← h]; simp [show ¬ wMovement = wHolding by decide]
        · rename_i heq; injection heq with _ h; subst h; exact absurd rfl h2
        · rfl)
      clear h2
      go_wp2_with fail
      go_ret
      exact ReadEnds.no HST.out (Below.mono (HX4.out.trans (Ext.new _ _)) hbw)
  · have hlk := run_look_no (P := Tryz.prog) _ _ _ _ _ _ (bs x) _ Tryz.underlying128 Tryz.underlying9 HM4.out (by rw [cmdFind, if_neg h1, if_neg h2, if_neg h3]) (zCommand _)
    have HST : Hid (stepW s first (x :: xs) = none) := Lib.hid (by
        unfold stepW
        split
        · rename_i heq; injection heq with h _; rw [← h]; simp [h1]
        · rename_i heq; injection heq with h _; rw [← h]; simp [h2]
        · rename_i heq; injection heq with h _; rw [← h]; simp [h3]
        · rfl)
    clear h1 h2 h3
    go_wp2_with fail
    go_ret
    exact ReadEnds.no HST.out (Below.mono (HX4.out.trans (Ext.new _ _)) hbw)
end Go.Proofs.YteeampgbmpolfaaGreatDoor

/- The walks over the program's lines of a text. -/
namespace Go.Proofs.YteeampgbmpolfaaGreatDoor
open Go.RowKit Go.Shelf
attribute [local go_sem] size_bs toList_bs extract_bs get_bs append_bs lit_append append_lit

theorem stLines (t : Bs) (w : World) :
    Calls Tryz.prog 48 #[.string (bs t)] w fun e w' => e = .returned (.func (.func 87) #[] #[.pointer (some ⟨w.heap.size, 0, none⟩)]) ∧ w' = w.alloc (.cells #[.string (bs t)] 9) := by
  go_enter Tryz.func48, Tryz.ntmps48
  go_wp2_with fail
  go_ret
  exact ⟨rfl, rfl⟩

/-- how a round of the loop over the lines ends -/
def LineEnds (B : Nat) (J : Bs → World → Prop) (Jx : World → Prop) (rest : Bs) (e : Ending) (W' : World) : Prop :=
  (e = .returned (.bool true) ∧ (W'.cell? ⟨B, 0, none⟩).isSome = true ∧ W'.frozen? ⟨B, 0, none⟩ = false ∧ (Lib.cut rest [10]).2.1.length < rest.length ∧ J (Lib.cut rest [10]).2.1 (W'.setCell ⟨B, 0, none⟩ (.string (bs (Lib.cut rest [10]).2.1)))) ∨ (e = .returned (.bool false) ∧ Jx W')
set_option maxRecDepth 100000 in
set_option maxHeartbeats 1000000 in
theorem stLines1 (n : Nat) (l B : Nat) (J : Bs → World → Prop) (Jx : World → Prop)
    (hJ : ∀ rest W, J rest W → W.cell? ⟨B, 0, none⟩ = some (.string (bs rest)) ∧ Env W ∧ rest.length ≤ 1000000)
    (hY : ∀ rest W k, rest ≠ [] → J rest W → YieldAt Fence.wide (n - 1) Tryz.prog l #[.string (bs (Lib.cut rest [10]).1), .bool (Lib.cut rest [10]).2.2] (W.drewN k) (LineEnds B J Jx rest))
    (t : Bs) (W : World) (h0 : J t W) :
    CallsIn Fence.wide n Tryz.prog 87 #[.func (.yield l) #[] #[], .pointer (some ⟨B, 0, none⟩)] W fun e W' => (∃ v, e = .returned v) ∧ (J [] W' ∨ Jx W') := by
  have hfn : ∀ k, Fence.wide.fn k := fun _ => trivial
  have hdp : Fence.wide.depth.isSome = false := rfl
  refine callsIn_of_wp Tryz.func87 rfl trivial ?_ rfl
  simp only [Tryz.ntmps87, List.size_toArray, List.length_cons, List.length_nil, Nat.reduceAdd, Nat.reduceSub, Array.replicate_succ, Array.replicate_zero, List.push_toArray, List.append_toArray, List.nil_append, List.cons_append]
  gi_wp2
  gi_loopw [3] (fun _ wr => ∃ rest : Bs, J rest wr) (fun _ wr => match wr.cell? ⟨B, 0, none⟩ with | some (.string b) => b.size | _ => 0)
  case atStart => exact ⟨t, h0⟩
  case round =>
    obtain ⟨rest, hj⟩ := hrel
    obtain ⟨hc, hE, hl⟩ := hJ rest wr hj
    by_cases he : rest = []
    · subst he
      have HJ := Lib.hid hj
      clear hj
      gi_wp2
      go_end0
      exact ⟨⟨_, rfl⟩, .inl HJ.out⟩
    · have heb : rest.isEmpty = false := by simpa using he
      have HY := Lib.hid (fun k => hY rest wr k he hj)
      clear he hj
      gi_wp2_with (gi_at_call 88; refine (callsIn_wide.2 (cut_any rest _ hl hE)).mono ?_; rintro e w1 ⟨rfl, k, rfl⟩; (obtain ⟨fn, tmps, assign, body, hy, hR⟩ := HY.out k); (unfold LineEnds at hR); (have HR := Lib.hid hR); clear hR HY; (generalize hc1 : (Lib.cut rest [10]).1 = c1 at *); (generalize hc2 : (Lib.cut rest [10]).2.1 = c2 at *); (generalize hc3 : (Lib.cut rest [10]).2.2 = c3 at *))
      refine HR.out.mono ?_
      rintro e W3 (⟨rfl, hi3, hf3, hl3, hJ3⟩ | ⟨rfl, hJx⟩)
      · have HJ3 := Lib.hid hJ3
        obtain ⟨v3, hv3⟩ := Option.isSome_iff_exists.1 hi3
        clear hJ3 hi3
        gi_wp2
        go_roundw
        case rel => exact ⟨c2, HJ3.out⟩
        case measure =>
          rw [hc, (hJ _ _ HJ3.out).1]
          simpa [size_bs] using hl3
      · gi_wp2
        refine bodyPost_ret (results_none rfl _ _ _) rfl ?_
        exact ⟨⟨_, rfl⟩, .inr hJx⟩
end Go.Proofs.YteeampgbmpolfaaGreatDoor

/- The walks over the reference's Great and Same. -/
namespace Go.Proofs.YteeampgbmpolfaaGreatDoor
open Go.RowKit
attribute [local go_sem] size_bs toList_bs extract_bs get_bs append_bs lit_append append_lit

def bigH (h : Hd) : Prop := 60 < h.ins.length ∨ 60 < h.qty.length
def bigM (m : Mv) : Prop := 60 < m.ref.length ∨ 60 < m.ins.length ∨ 60 < m.qty.length ∨ 60 < m.amt.length
def bigN (n m : Nat) : Prop := (8 < n ∧ n ≤ 64) ∨ 67 < n ∨ (8 < m ∧ m ≤ 1000) ∨ 1003 < m
def greatS (s : St) : Prop := (∃ h ∈ s.hs, bigH h) ∨ (∃ m ∈ s.ms, bigM m) ∨ bigN s.hs.length s.ms.length
def GreatEnds (s : St) (w : World) (e : Ending) (w' : World) : Prop := Ext w w' ∧ ((greatS s ∧ e = .returned (.bool true)) ∨ (¬ greatS s ∧ e = .returned (.bool false)))
theorem not_greatS {s : St} (h1 : ∀ h ∈ s.hs, ¬ bigH h) (h2 : ∀ m ∈ s.ms, ¬ bigM m) (h3 : ¬ bigN s.hs.length s.ms.length) : ¬ greatS s := by
  rintro (⟨h, hh, hb⟩ | ⟨m, hm, hb⟩ | h)
  · exact h1 h hh hb
  · exact h2 m hm hb
  · exact h3 h

set_option maxRecDepth 100000 in
set_option maxHeartbeats 4000000 in
theorem refGreat (s : St) (A B : Option Addr) (c d : Nat) (w : World) (hA : RdH w A s.hs) (hB : RdM w B s.ms) (hn : s.hs.length ≤ 4611686018427387904) (hm : s.ms.length ≤ 4611686018427387904) :
    Calls Tryz.prog 9 #[.agg #[.int .i64 s.day, .slice A s.hs.length c, .slice B s.ms.length d]] w (GreatEnds s w) := by
  obtain ⟨day, hs, ms⟩ := s
  have HA := Lib.hid hA
  have HB := Lib.hid hB
  clear hA hB
  go_enter Tryz.func9, Tryz.ntmps9
  go_wp2_with fail
  go_loop [3] (fun i => ∃ k : Nat, k ≤ hs.length ∧ i = .int .i64 k ∧ (∀ (j : Nat) (hj : j < hs.length), j < k → ¬ bigH (hs[j]'hj))) (fun i => hs.length - (intOf i).toNat)
  case atStart => exact ⟨0, by omega, rfl, fun j _ hj => absurd hj (by omega)⟩
  case round =>
    obtain ⟨k, hk, rfl, hz⟩ := hrel
    have HZ := Lib.hid hz
    clear hz
    by_cases hlt : k < hs.length
    · obtain ⟨b, o, rfl, hb, hc1, hc2⟩ := HA.out.at_ hlt
      have hmem := Lib.hid (List.getElem_mem hlt)
      generalize hgh : (hs[k]'hlt) = h at *
      have HGH := Lib.hid hgh
      clear hgh
      by_cases h1 : 60 < (h.ins.length : Int)
      · have HY : Hid (greatS ⟨day, hs, ms⟩) := Lib.hid (.inl ⟨h, hmem.out, .inl (by omega)⟩)
        go_wp2_with fail
        go_ret
        exact ⟨Ext.new _ _, .inl ⟨HY.out, rfl⟩⟩
      · by_cases h2 : 60 < (h.qty.length : Int)
        · have HY : Hid (greatS ⟨day, hs, ms⟩) := Lib.hid (.inl ⟨h, hmem.out, .inr (by omega)⟩)
          go_wp2_with fail
          refine (refGreatI h.qty _).mono ?_
          rintro e w1 ⟨rfl, rfl⟩
          go_wp2_with fail
          go_ret
          exact ⟨Ext.new _ _, .inl ⟨HY.out, rfl⟩⟩
        · have HNB : Hid (¬ bigH h) := Lib.hid (by unfold bigH; omega)
          go_wp2_with fail
          refine (refGreatI h.qty _).mono ?_
          rintro e w1 ⟨rfl, rfl⟩
          go_wp2_with fail
          go_round
          case rel =>
            refine ⟨k + 1, by omega, by go_num, fun j hj hjk => ?_⟩
            rcases Nat.lt_or_ge j k with h' | h'
            · exact HZ.out j hj h'
            · obtain rfl : j = k := by omega
              rw [HGH.out]; exact HNB.out
          case measure => simp [intOf]; omega
    · have HALL : Hid (∀ h ∈ hs, ¬ bigH h) := Lib.hid (fun p hp => by
        obtain ⟨j, hj, rfl⟩ := List.mem_iff_getElem.1 hp
        exact HZ.out j hj (by omega))
      clear HZ
      go_wp2_with fail
      go_loopw [4, 5] (fun i _ wr => ∃ k : Nat, k ≤ ms.length ∧ i = .int .i64 k ∧ (∀ (j : Nat) (hj : j < ms.length), j < k → ¬ bigM (ms[j]'hj)) ∧ Ext (w.alloc (.cells #[.int .i64 day, .slice A hs.length c, .slice B ms.length d] 26)) wr) (fun i _ _ => ms.length - (intOf i).toNat)
      case atStart => exact ⟨0, by omega, rfl, fun j _ hj => absurd hj (by omega), Ext.refl _⟩
      case round =>
        obtain ⟨k2, hk2, rfl, hz, hx⟩ := hrel
        have HZ := Lib.hid hz
        clear hz
        have hbx := (Blk.new w 26 #[.int .i64 day, .slice A hs.length c, .slice B ms.length d]).ext hx
        have hs1 := hbx.cell 1
        have hs2 := hbx.cell 2
        simp only [List.getElem?_toArray, List.getElem?_cons_zero, List.getElem?_cons_succ] at hs1 hs2
        have hsw := hbx.lt
        clear hbx
        have HX := Lib.hid (Ext.of_alloc hx)
        by_cases hlt2 : k2 < ms.length
        · obtain ⟨b, o, rfl, hb, hc1, hc2, hc3, hc4, hc5⟩ := ((HB.out.ext (Ext.new w _)).ext hx).at_ hlt2
          have hmem := Lib.hid (List.getElem_mem hlt2)
          generalize hgh : (ms[k2]'hlt2) = m at *
          have HGH := Lib.hid hgh
          clear hgh
          by_cases h1 : 60 < (m.ref.length : Int)
          · have HY : Hid (greatS ⟨day, hs, ms⟩) := Lib.hid (.inr (.inl ⟨m, hmem.out, .inl (by omega)⟩))
            go_wp2_with fail
            go_ret
            exact ⟨HX.out.alloc _, .inl ⟨HY.out, rfl⟩⟩
          by_cases h2 : 60 < (m.ins.length : Int)
          · have HY : Hid (greatS ⟨day, hs, ms⟩) := Lib.hid (.inr (.inl ⟨m, hmem.out, .inr (.inl (by omega))⟩))
            go_wp2_with fail
            go_ret
            exact ⟨HX.out.alloc _, .inl ⟨HY.out, rfl⟩⟩
          by_cases h3 : 60 < (m.qty.length : Int)
          · have HY : Hid (greatS ⟨day, hs, ms⟩) := Lib.hid (.inr (.inl ⟨m, hmem.out, .inr (.inr (.inl (by omega)))⟩))
            go_wp2_with fail
            refine (refGreatI m.qty _).mono ?_
            rintro e w1 ⟨rfl, rfl⟩
            go_wp2_with fail
            go_ret
            exact ⟨HX.out.alloc _, .inl ⟨HY.out, rfl⟩⟩
          by_cases h4 : 60 < (m.amt.length : Int)
          · have HY : Hid (greatS ⟨day, hs, ms⟩) := Lib.hid (.inr (.inl ⟨m, hmem.out, .inr (.inr (.inr (by omega)))⟩))
            go_wp2_with fail
            refine (refGreatI m.qty _).mono ?_
            rintro e w1 ⟨rfl, rfl⟩
            go_wp2_with fail
            refine (refGreatI m.amt _).mono ?_
            rintro e w1 ⟨rfl, rfl⟩
            go_wp2_with fail
            go_ret
            exact ⟨HX.out.alloc _, .inl ⟨HY.out, rfl⟩⟩
          · have HNB : Hid (¬ bigM m) := Lib.hid (by unfold bigM; omega)
            go_wp2_with fail
            refine (refGreatI m.qty _).mono ?_
            rintro e w1 ⟨rfl, rfl⟩
            go_wp2_with fail
            refine (refGreatI m.amt _).mono ?_
            rintro e w1 ⟨rfl, rfl⟩
            go_wp2_with fail
            go_roundw
            case rel =>
              refine ⟨k2 + 1, by omega, by go_num, fun j hj hjk => ?_, hx.alloc _⟩
              rcases Nat.lt_or_ge j k2 with h' | h'
              · exact HZ.out j hj h'
              · obtain rfl : j = k2 := by omega
                rw [HGH.out]; exact HNB.out
            case measure => simp [intOf]; omega
        · have HALM : Hid (∀ m ∈ ms, ¬ bigM m) := Lib.hid (fun p hp => by
            obtain ⟨j, hj, rfl⟩ := List.mem_iff_getElem.1 hp
            exact HZ.out j hj (by omega))
          clear HZ
          have HN := Lib.hid (fun h => not_greatS (s := ⟨day, hs, ms⟩) HALL.out HALM.out h)
          have HY : Hid (bigN hs.length ms.length → greatS ⟨day, hs, ms⟩) := Lib.hid (fun h => .inr (.inr h))
          clear HALL HALM
          go_wp2_with fail
          go_quiet (fail)
          by_cases a1 : 8 < (hs.length : Int)
          · by_cases a2 : (hs.length : Int) ≤ 64
            · have HY2 := Lib.hid (HY.out (by unfold bigN; omega))
              go_wp2_with fail
              go_ret
              exact ⟨HX.out.drewN _, .inl ⟨HY2.out, rfl⟩⟩
            · by_cases a3 : 67 < (hs.length : Int)
              · have HY2 := Lib.hid (HY.out (by unfold bigN; omega))
                go_wp2_with fail
                go_ret
                exact ⟨HX.out.drewN _, .inl ⟨HY2.out, rfl⟩⟩
              · by_cases b1 : 8 < (ms.length : Int)
                · by_cases b2 : (ms.length : Int) ≤ 1000
                  · have HY2 := Lib.hid (HY.out (by unfold bigN; omega))
                    go_wp2_with fail
                    go_ret
                    exact ⟨HX.out.drewN _, .inl ⟨HY2.out, rfl⟩⟩
                  · by_cases b3 : 1003 < (ms.length : Int)
                    · have HY2 := Lib.hid (HY.out (by unfold bigN; omega))
                      go_wp2_with fail
                      go_ret
                      exact ⟨HX.out.drewN _, .inl ⟨HY2.out, rfl⟩⟩
                    · have b4 : ¬ 1003 < (ms.length : Int) := (by omega); have a4 : ¬ 67 < (hs.length : Int) := (by omega); have HN2 := Lib.hid (HN.out (by unfold bigN; omega))
                      go_wp2_with fail
                      go_ret
                      exact ⟨HX.out.drewN _, .inr ⟨HN2.out, rfl⟩⟩
                · have b4 : ¬ 1003 < (ms.length : Int) := (by omega); have a4 : ¬ 67 < (hs.length : Int) := (by omega); have HN2 := Lib.hid (HN.out (by unfold bigN; omega))
                  go_wp2_with fail
                  go_ret
                  exact ⟨HX.out.drewN _, .inr ⟨HN2.out, rfl⟩⟩
          · by_cases b1 : 8 < (ms.length : Int)
            · by_cases b2 : (ms.length : Int) ≤ 1000
              · have HY2 := Lib.hid (HY.out (by unfold bigN; omega))
                go_wp2_with fail
                go_ret
                exact ⟨HX.out.drewN _, .inl ⟨HY2.out, rfl⟩⟩
              · by_cases b3 : 1003 < (ms.length : Int)
                · have HY2 := Lib.hid (HY.out (by unfold bigN; omega))
                  go_wp2_with fail
                  go_ret
                  exact ⟨HX.out.drewN _, .inl ⟨HY2.out, rfl⟩⟩
                · have b4 : ¬ 1003 < (ms.length : Int) := (by omega); have a4 : ¬ 67 < (hs.length : Int) := (by omega); have HN2 := Lib.hid (HN.out (by unfold bigN; omega))
                  go_wp2_with fail
                  go_ret
                  exact ⟨HX.out.drewN _, .inr ⟨HN2.out, rfl⟩⟩
            · have b4 : ¬ 1003 < (ms.length : Int) := (by omega); have a4 : ¬ 67 < (hs.length : Int) := (by omega); have HN2 := Lib.hid (HN.out (by unfold bigN; omega))
              go_wp2_with fail
              go_ret
              exact ⟨HX.out.drewN _, .inr ⟨HN2.out, rfl⟩⟩

set_option maxRecDepth 100000 in
set_option maxHeartbeats 4000000 in
theorem refSame (s : St) (A B : Option Addr) (c d : Nat) (A' B' : Option Addr) (c' d' : Nat) (w : World) (hA : RdH w A s.hs) (hB : RdM w B s.ms) (hA' : RdH w A' s.hs) (hB' : RdM w B' s.ms) (hn : s.hs.length ≤ 4611686018427387904) (hm : s.ms.length ≤ 4611686018427387904) :
    Calls Tryz.prog 15 #[.agg #[.int .i64 s.day, .slice A s.hs.length c, .slice B s.ms.length d], .agg #[.int .i64 s.day, .slice A' s.hs.length c', .slice B' s.ms.length d']] w fun e w' => e = .returned (.bool true) ∧ Ext w w' := by
  obtain ⟨day, hs, ms⟩ := s
  have HA := Lib.hid hA
  have HB := Lib.hid hB
  have HA' := Lib.hid hA'
  have HB' := Lib.hid hB'
  clear hA hB hA' hB'
  go_enter Tryz.func15, Tryz.ntmps15
  go_wp2_with fail
  have HW0 := Lib.hid (((Blk.new w 26 #[.int .i64 day, .slice A hs.length c, .slice B ms.length d]).ext (Ext.new _ (.cells #[.int .i64 day, .slice A' hs.length c', .slice B' ms.length d'] 26))))
  have HW1 := Lib.hid (Blk.new (w.alloc (.cells #[.int .i64 day, .slice A hs.length c, .slice B ms.length d] 26)) 26 #[.int .i64 day, .slice A' hs.length c', .slice B' ms.length d'])
  have hx0 : Ext w ((w.alloc (.cells #[.int .i64 day, .slice A hs.length c, .slice B ms.length d] 26)).alloc (.cells #[.int .i64 day, .slice A' hs.length c', .slice B' ms.length d'] 26)) := (Ext.new _ _).alloc _
  go_loopw [5] (fun i wr => ∃ k : Nat, k ≤ hs.length ∧ i = .int .i64 k ∧ Ext ((w.alloc (.cells #[.int .i64 day, .slice A hs.length c, .slice B ms.length d] 26)).alloc (.cells #[.int .i64 day, .slice A' hs.length c', .slice B' ms.length d'] 26)) wr) (fun i _ => hs.length - (intOf i).toNat)
  case atStart => exact ⟨0, by omega, rfl, Ext.refl _⟩
  case round =>
    obtain ⟨k, hk, rfl, hx⟩ := hrel
    have hq1 := (HW0.out.ext hx).cell 1
    have hq2 := (HW0.out.ext hx).cell 2
    have hr1 := (HW1.out.ext hx).cell 1
    have hr2 := (HW1.out.ext hx).cell 2
    simp only [World.size_alloc, List.getElem?_toArray, List.getElem?_cons_zero, List.getElem?_cons_succ] at hq1 hq2 hr1 hr2
    have HX := Lib.hid (hx0.trans hx)
    by_cases hlt : k < hs.length
    · obtain ⟨b, o, rfl, hb, hc1, hc2⟩ := (HA.out.ext HX.out).at_ hlt
      obtain ⟨b', o', rfl, hb', hc1', hc2'⟩ := (HA'.out.ext HX.out).at_ hlt
      go_wp2_with fail
      go_quiet (fail)
      go_wp2_with fail
      go_roundw
      case rel => exact ⟨k + 1, by omega, by go_num, hx.drewN _⟩
      case measure => simp [intOf]; omega
    · clear HA HA'
      go_wp2_with fail
      go_loopw [6] (fun i wr' => ∃ k : Nat, k ≤ ms.length ∧ i = .int .i64 k ∧ Ext wr wr') (fun i _ => ms.length - (intOf i).toNat)
      case atStart => exact ⟨0, by omega, rfl, Ext.refl _⟩
      case round =>
        rename_i wr2
        obtain ⟨k2, hk2, rfl, hx2⟩ := hrel
        have hq1 := (HW0.out.ext (hx.trans hx2)).cell 1
        have hq2 := (HW0.out.ext (hx.trans hx2)).cell 2
        have hr1 := (HW1.out.ext (hx.trans hx2)).cell 1
        have hr2 := (HW1.out.ext (hx.trans hx2)).cell 2
        simp only [World.size_alloc, List.getElem?_toArray, List.getElem?_cons_zero, List.getElem?_cons_succ] at hq1 hq2 hr1 hr2
        have HX2 := Lib.hid (hx0.trans (hx.trans hx2))
        by_cases hlt2 : k2 < ms.length
        · obtain ⟨b, o, rfl, hb, hc1, hc2, hc3, hc4, hc5⟩ := (HB.out.ext HX2.out).at_ hlt2
          obtain ⟨b', o', rfl, hb', hd1, hd2, hd3, hd4, hd5⟩ := (HB'.out.ext HX2.out).at_ hlt2
          go_wp2_with fail
          go_quiet (fail)
          go_wp2_with fail
          go_roundw
          case rel => exact ⟨k2 + 1, by omega, by go_num, hx2.drewN _⟩
          case measure => simp [intOf]; omega
        · go_wp2_with fail
          go_ret
          exact ⟨rfl, HX2.out⟩
end Go.Proofs.YteeampgbmpolfaaGreatDoor

/- A statement and two numbers as results, through cells; and the marks of a range over a function. -/
namespace Go.Proofs.YteeampgbmpolfaaGreatDoor
open Go.RowKit Go.Shelf

theorem results_st3 {fn : Func} {a b c : Tmp} (h : fn.results = #[.cell a 26, .cell b 3, .cell c 29]) (tmps : Array Value) (w : World) (g g1 g2 : Nat) (x y z : Value) (u v : Int) (ha : tmps.getD a undef = .pointer (some ⟨g, 0, none⟩)) (hb : Blk w g 26 #[x, y, z])
    (ha1 : tmps.getD b undef = .pointer (some ⟨g1, 0, none⟩)) (hb1 : Blk w g1 3 #[.int .i64 u]) (ha2 : tmps.getD c undef = .pointer (some ⟨g2, 0, none⟩)) (hb2 : Blk w g2 29 #[.int .i64 v]) :
    (results fn tmps).run Tryz.prog w = .ok (.tuple #[.agg #[x, y, z], .int .i64 u, .int .i64 v]) w := by
  have h0 := hb.cell 0
  have h1 := hb.cell 1
  have h2 := hb.cell 2
  have h3 := hb1.cell 0
  have h4 := hb2.cell 0
  simp only [List.getElem?_toArray, List.getElem?_cons_zero, List.getElem?_cons_succ] at h0 h1 h2 h3 h4
  unfold results
  rw [h]
  simp only [List.mapM_toArray, List.mapM_cons, List.mapM_nil, ha, ha1, ha2]
  go_simp
theorem Blk.put {W : World} {g l : Nat} {t : TypeId} {cs : Array Value} (h : Blk W g t cs) (o : Obj) (hne : g ≠ l) : Blk (W.putObj l o) g t cs := (World.putObj_heap_other hne).trans h
theorem own_put {w : World} {base : Nat} {e : TypeId} {size n : Nat} {v : Value} {xs : List Value} {l : Nat} (h : w.ownsRow base e size v n xs) (hl : l < base) (o : Obj) : (w.putObj l o).ownsRow base e size v n xs :=
  h.kept (row := some l) ⟨rfl, rfl, rfl, by simp, fun i _ hne => World.putObj_heap_other (fun h => hne (by rw [h]))⟩ (.inr (fun he => by have := (h.lt l he).1; omega))
theorem StAt.put {w : World} {base g l : Nat} {t : TypeId} {more : List Value} {s : St} (h : StAt w base g t more s) (hl : l < base) (hne : g ≠ l) (o : Obj) : StAt (w.putObj l o) base g t more s := by
  obtain ⟨vA, vB, h⟩ := h
  exact ⟨vA, vB, h.1.put o hne, trivial, own_put h.2.2.1 hl o, own_put h.2.2.2 hl o⟩
theorem StAt.set_low {w : World} {base g g' i : Nat} {t : TypeId} {more : List Value} {s : St} (h : StAt w base g t more s) (hl : g' < base) (hne : g ≠ g') (u : Value) : StAt (w.setCell ⟨g', i, none⟩ u) base g t more s := by
  obtain ⟨vA, vB, h⟩ := h
  exact ⟨vA, vB, h.1.far hne u, trivial, own_set h.2.2.1 (fun he => by have := (h.2.2.1.lt g' he).1; omega) u, own_set h.2.2.2 (fun he => by have := (h.2.2.2.lt g' he).1; omega) u⟩
theorem Ext.put {a b : World} (h : Ext a b) {r : Nat} (hr : a.heap.size ≤ r) (o : Obj) : Ext a (b.putObj r o) := h.putObj hr o

/-- how Parse's loop stands in memory -/
structure PAt (t : Bs) (w : World) (lp : Loop) (rest : Bs) (k : Nat) (s : St) (W : World) : Prop where
  same : resL t = goLines s k (splitOn 10 rest)
  hs : s.hs.length ≤ k
  ms : s.ms.length ≤ k
  sized : Sized 100000 s
  len : k + rest.length ≤ t.length
  st : StAt W (w.heap.size + 1 + 1 + 1 + 1 + 1 + 1 + 1 + 1) (w.heap.size + 1 + 1 + 1) 81 (moreB (!(k == 0))) s
  ext : Ext w W
  big : w.heap.size + 1 + 1 + 1 + 1 + 1 + 1 + 1 + 1 ≤ W.heap.size
  r0 : Blk W w.heap.size 26 #[.int .i64 0, .slice none 0 0, .slice none 0 0]
  r1 : Blk W (w.heap.size + 1) 3 #[.int .i64 0]
  r2 : Blk W (w.heap.size + 1 + 1) 29 #[.int .i64 0]
  n : Blk W (w.heap.size + 1 + 1 + 1 + 1) 3 #[.int .i64 k]
  box : Blk W (w.heap.size + 1 + 1 + 1 + 1 + 1) 9 #[.string (bs rest)]
  D : W.heap[w.heap.size + 1 + 1 + 1 + 1 + 1 + 1]? = some (.deferred (some []))
  L : W.heap[w.heap.size + 1 + 1 + 1 + 1 + 1 + 1 + 1]? = some (.loop lp)
/-- how it stands when a line was wrong -/
structure PBad (t : Bs) (w : World) (lp : Loop) (W : World) : Prop where
  ne : (resL t).2 ≠ 0
  ext : Ext w W
  r0 : Blk W w.heap.size 26 #[.int .i64 0, .slice none 0 0, .slice none 0 0]
  r1 : Blk W (w.heap.size + 1) 3 #[.int .i64 (resL t).2]
  r2 : Blk W (w.heap.size + 1 + 1) 29 #[.int .i64 3]
  D : W.heap[w.heap.size + 1 + 1 + 1 + 1 + 1 + 1]? = some (.deferred (some []))
  L : W.heap[w.heap.size + 1 + 1 + 1 + 1 + 1 + 1 + 1]? = some (.loop lp)
theorem splitOn_first (rest : Bs) : (∀ x ∈ rest, x ≠ 10) ∧ Lib.cut rest [10] = (rest, [], false) ∧ splitOn 10 rest = [rest] ∨ ∃ p r, rest = p ++ 10 :: r ∧ Lib.cut rest [10] = (p, r, true) ∧ splitOn 10 rest = p :: splitOn 10 r := by
  rcases first_of 10 rest with ⟨h1, h2⟩ | ⟨p, r, rfl, h1, h2⟩
  · exact .inl ⟨h1, cut_none 10 rest h1, splitOn_none 10 rest h1⟩
  · exact .inr ⟨p, r, rfl, cut_some 10 p r h1, splitOn_cut 10 p r h1⟩
theorem goLines_cons {s : St} {k : Nat} {p : Bs} {ls : List Bs} (h : ls ≠ []) : goLines s k (p :: ls) = match stepLine s (k == 0) p with | some s' => goLines s' (k + 1) ls | none => (s, (k : Int) + 1) := by
  cases ls with
  | nil => exact absurd rfl h
  | cons y r => rfl
end Go.Proofs.YteeampgbmpolfaaGreatDoor

/- The walk over the program's Parse of a statement. -/
namespace Go.Proofs.YteeampgbmpolfaaGreatDoor
open Go.RowKit Go.Shelf
attribute [local go_sem] size_bs toList_bs extract_bs get_bs append_bs lit_append append_lit Oper.semAt_some

theorem Blk.newAt (w : World) (t : TypeId) (cs : Array Value) (g : Nat) (hg : w.heap.size = g) : Blk (w.alloc (.cells cs t)) g t cs := by subst hg; exact Blk.new w t cs
theorem newAt (w : World) (o : Obj) (g : Nat) (hg : w.heap.size = g) : (w.alloc o).heap[g]? = some o := by subst hg; exact heap_alloc_new w o
theorem dfar {W : World} {d g i : Nat} {o : Obj} {u : Value} (h : W.heap[d]? = some o) (hne : d ≠ g) : (W.setCell ⟨g, i, none⟩ u).heap[d]? = some o := (Below.heap_setCell W ⟨g, i, none⟩ u d hne).trans h
theorem Blk.belG {base g g' : Nat} {w w' : World} {t : TypeId} {cs : Array Value} (h : Blk w g' t cs) (hb : BelG base g w w') (h1 : g' < base) (h2 : g' ≠ g) : Blk w' g' t cs := (hb.block g' h1 h2).trans h
theorem Ext.belG {base g : Nat} {a w w' : World} (h : Ext a w) (hb : BelG base g w w') (h1 : a.heap.size ≤ base) (h2 : a.heap.size ≤ g) : Ext a w' :=
  ⟨hb.os.trans h.os, hb.tape.trans h.tape, hb.output.trans h.output, Nat.le_trans h.size hb.size, fun i hi => (hb.block i (by omega) (by omega)).trans (h.block i hi)⟩
theorem zip2 (p q : Tmp) (x y : Value) (T : Array Value) : ((#[p, q] : Array Tmp).zip #[x, y]).foldl (fun tmps (t, a) => tmps.setIfInBounds t a) T = (T.setIfInBounds p x).setIfInBounds q y := by simp [Array.zip]
theorem PAt.put {t : Bs} {w : World} {lp lp' : Loop} {rest : Bs} {k : Nat} {s : St} {W : World} (h : PAt t w lp rest k s W) : PAt t w lp' rest k s (W.putObj (w.heap.size + 1 + 1 + 1 + 1 + 1 + 1 + 1) (.loop lp')) :=
  ⟨h.same, h.hs, h.ms, h.sized, h.len, h.st.put (by omega) (by omega) _, h.ext.putObj (by omega) _, by have := h.big; simpa using this, h.r0.put _ (by omega), h.r1.put _ (by omega), h.r2.put _ (by omega), h.n.put _ (by omega), h.box.put _ (by omega), (World.putObj_heap_other (by omega)).trans h.D, World.putObj_heap_same (by have := h.big; omega)⟩
theorem PAt.drewN {t : Bs} {w : World} {lp : Loop} {rest : Bs} {k : Nat} {s : St} {W : World} (h : PAt t w lp rest k s W) (n : Nat) : PAt t w lp rest k s (W.drewN n) :=
  ⟨h.same, h.hs, h.ms, h.sized, h.len, h.st.ext ((Ext.refl W).drewN n), h.ext.drewN n, h.big, h.r0.drewN n, h.r1.drewN n, h.r2.drewN n, h.n.drewN n, h.box.drewN n, h.D, h.L⟩
theorem SmallS.of {s : St} {k : Nat} (h1 : s.hs.length ≤ k) (h2 : s.ms.length ≤ k) (h3 : Sized 100000 s) (hk : k ≤ 100000) : SmallS s := by
  refine ⟨by omega, by omega, fun x hx => ?_, fun x hx => ?_⟩
  · have := h3.1 x hx; unfold SmallH; omega
  · have := h3.2 x hx; unfold SmallM; omega

theorem PAt.mid {t : Bs} {w : World} {lb : Loop} {rest : Bs} {k : Nat} {s : St} {Wb w5 : World} (h : PAt t w lb rest k s Wb)
    (hB : BelG (w.heap.size + 1 + 1 + 1 + 1 + 1 + 1 + 1 + 1) (w.heap.size + 1 + 1 + 1) (Wb.setCell ⟨w.heap.size + 1 + 1 + 1 + 1, 0, none⟩ (.int .i64 ((k : Int) + 1))) w5) :
    Ext w w5 ∧ Blk w5 w.heap.size 26 #[.int .i64 0, .slice none 0 0, .slice none 0 0] ∧ Blk w5 (w.heap.size + 1) 3 #[.int .i64 0] ∧ Blk w5 (w.heap.size + 1 + 1) 29 #[.int .i64 0] ∧ Blk w5 (w.heap.size + 1 + 1 + 1 + 1) 3 #[.int .i64 ((k : Int) + 1)] ∧ Blk w5 (w.heap.size + 1 + 1 + 1 + 1 + 1) 9 #[.string (bs rest)] ∧
    w5.heap[w.heap.size + 1 + 1 + 1 + 1 + 1 + 1]? = some (.deferred (some [])) ∧ w5.heap[w.heap.size + 1 + 1 + 1 + 1 + 1 + 1 + 1]? = some (.loop lb) := by
  refine ⟨Ext.belG (h.ext.setCell (by dsimp only; omega) _) hB (by omega) (by omega), (h.r0.far (by dsimp only; omega) _).belG hB (by omega) (by omega), (h.r1.far (by dsimp only; omega) _).belG hB (by omega) (by omega), (h.r2.far (by dsimp only; omega) _).belG hB (by omega) (by omega), (h.n.set_ 0 _).belG hB (by omega) (by omega), (h.box.far (by dsimp only; omega) _).belG hB (by omega) (by omega), ?_, ?_⟩
  · exact (hB.block _ (by omega) (by omega)).trans (dfar h.D (by omega))
  · exact (hB.block _ (by omega) (by omega)).trans (dfar h.L (by omega))
theorem PAt.next {t : Bs} {w : World} {lb lp : Loop} {rest p r : Bs} {k : Nat} {s s' : St} {Wb w5 : World} (h : PAt t w lb rest k s Wb) (hr : p.length + 1 + r.length = rest.length) (hsame : resL t = goLines s' (k + 1) (splitOn 10 r)) (hz : Sized 100000 s' ∧ s'.hs.length ≤ s.hs.length + 1 ∧ s'.ms.length ≤ s.ms.length + 1)
    (hS : StAt w5 (w.heap.size + 1 + 1 + 1 + 1 + 1 + 1 + 1 + 1) (w.heap.size + 1 + 1 + 1) 81 (moreB true) s')
    (hB : BelG (w.heap.size + 1 + 1 + 1 + 1 + 1 + 1 + 1 + 1) (w.heap.size + 1 + 1 + 1) (Wb.setCell ⟨w.heap.size + 1 + 1 + 1 + 1, 0, none⟩ (.int .i64 ((k : Int) + 1))) w5) :
    Blk (w5.putObj (w.heap.size + 1 + 1 + 1 + 1 + 1 + 1 + 1) (.loop lp)) (w.heap.size + 1 + 1 + 1 + 1 + 1) 9 #[.string (bs rest)] ∧
    PAt t w lp r (k + 1) s' ((w5.putObj (w.heap.size + 1 + 1 + 1 + 1 + 1 + 1 + 1) (.loop lp)).setCell ⟨w.heap.size + 1 + 1 + 1 + 1 + 1, 0, none⟩ (.string (bs r))) := by
  obtain ⟨hx, h0, h1, h2, hn, hbx, hD, hL⟩ := h.mid hB
  have hhs := h.hs
  have hms := h.ms
  have hlen := h.len
  have hbig := h.big
  have hb5 := hB.size
  simp only [World.size_setCell] at hb5
  have hbx' := hbx.put (l := w.heap.size + 1 + 1 + 1 + 1 + 1 + 1 + 1) (.loop lp) (by omega)
  refine ⟨hbx', ⟨hsame, by omega, by omega, hz.1, by omega, ?_, (hx.putObj (by omega) _).setCell (by dsimp only; omega) _, ?_, ?_, ?_, ?_, ?_, hbx'.set_ 0 _, ?_, ?_⟩⟩
  · rw [show (!(k + 1 == 0)) = true by simp]
    exact (hS.put (by omega) (by omega) _).set_low (by omega) (by omega) _
  · simp only [World.size_setCell, World.putObj_size]; omega
  · exact (h0.put _ (by omega)).far (by dsimp only; omega) _
  · exact (h1.put _ (by omega)).far (by dsimp only; omega) _
  · exact (h2.put _ (by omega)).far (by dsimp only; omega) _
  · rw [show (((k + 1 : Nat) : Int)) = (k : Int) + 1 by omega]
    exact (hn.put _ (by omega)).far (by dsimp only; omega) _
  · exact dfar ((World.putObj_heap_other (by omega)).trans hD) (by omega)
  · exact dfar (World.putObj_heap_same (Array.getElem?_eq_some_iff.1 hL).1) (by omega)
theorem gen_world {p : World → Prop} {W : World} (h : ∀ Y, Y = W → p Y) : p W := h W rfl
theorem drew_heap {W : World} {d : Nat} {o : Obj} (h : W.heap[d]? = some o) : W.drew.heap[d]? = some o := h
theorem PBad.of {t : Bs} {w X : World} {lb lp' : Loop} {n : Int} (hne : n ≠ 0) (hn : (resL t).2 = n) (hx : Ext w X) (h0 : Blk X w.heap.size 26 #[.int .i64 0, .slice none 0 0, .slice none 0 0]) (h1 : Blk X (w.heap.size + 1) 3 #[.int .i64 0]) (h2 : Blk X (w.heap.size + 1 + 1) 29 #[.int .i64 0])
    (hD : X.heap[w.heap.size + 1 + 1 + 1 + 1 + 1 + 1]? = some (.deferred (some []))) (hL : X.heap[w.heap.size + 1 + 1 + 1 + 1 + 1 + 1 + 1]? = some (.loop lb)) {Y : World}
    (hY : Y = (((((X.setCell ⟨w.heap.size, 0, none⟩ (.int .i64 0)).setCell ⟨w.heap.size, 1, none⟩ (.slice none 0 0)).setCell ⟨w.heap.size, 2, none⟩ (.slice none 0 0)).setCell ⟨w.heap.size + 1, 0, none⟩ (.int .i64 n)).setCell ⟨w.heap.size + 1 + 1, 0, none⟩ (.int .i64 3)).drew) :
    Y.heap[w.heap.size + 1 + 1 + 1 + 1 + 1 + 1 + 1]? = some (.loop lb) ∧ PBad t w lp' (Y.putObj (w.heap.size + 1 + 1 + 1 + 1 + 1 + 1 + 1) (.loop lp')) := by
  subst hn
  have hLY : Y.heap[w.heap.size + 1 + 1 + 1 + 1 + 1 + 1 + 1]? = some (.loop lb) := by
    rw [hY]; exact drew_heap (dfar (dfar (dfar (dfar (dfar hL (by omega)) (by omega)) (by omega)) (by omega)) (by omega))
  refine ⟨hLY, hne, ?_, ?_, ?_, ?_, ?_, World.putObj_heap_same (Array.getElem?_eq_some_iff.1 hLY).1⟩
  all_goals subst hY
  · exact ((((((hx.setCell (by simp) _).setCell (by simp) _).setCell (by simp) _).setCell (by simp) _).setCell (by simp; omega) _).drew).putObj (by omega) _
  · exact (((((((h0.set_ 0 _).set_ 1 _).set_ 2 _).far (p := ⟨w.heap.size + 1, 0, none⟩) (by simp) _).far (p := ⟨w.heap.size + 1 + 1, 0, none⟩) (by simp; omega) _)).drew).put _ (by omega)
  · exact ((((((h1.far (by simp) _).far (by simp) _).far (by simp) _).set_ 0 _).far (p := ⟨w.heap.size + 1 + 1, 0, none⟩) (by simp) _).drew).put _ (by omega)
  · exact ((((((h2.far (by simp; omega) _).far (by simp; omega) _).far (by simp; omega) _).far (by simp) _).set_ 0 _).drew).put _ (by omega)
  · exact (World.putObj_heap_other (by omega)).trans (drew_heap (dfar (dfar (dfar (dfar (dfar hD (by omega)) (by omega)) (by omega)) (by omega)) (by omega)))

set_option maxRecDepth 100000 in
set_option maxHeartbeats 4000000 in
theorem stParse (t : Bs) (w : World) (ht : t.length ≤ 1000000000) (hE : Env w) :
    Calls Tryz.prog 13 #[.string (bs t)] w (ParseEnds (parseSt t) (parseSN t) (parseSE t) w) := by
  have hfn : ∀ k, Fence.wide.fn k := fun _ => trivial
  have hdp : Fence.wide.depth.isSome = false := rfl
  refine (callsIn_wide (n := 5)).1 ?_
  by_cases hbig : 65536 < t.length
  · have H1 : Hid (parseSt t = zeroS ∧ parseSN t = 0 ∧ parseSE t = 4) := Lib.hid (by unfold parseSt parseSN parseSE; simp [hbig])
    rw [H1.out.1, H1.out.2.1, H1.out.2.2]
    refine callsIn_of_wp_marks Tryz.func13 rfl trivial ?_ rfl
    simp only [Tryz.ntmps13, List.size_toArray, List.length_cons, List.length_nil, Nat.reduceAdd, Nat.reduceSub, Array.replicate_succ, Array.replicate_zero, List.push_toArray, List.append_toArray, List.nil_append, List.cons_append]
    gi_wp2
    refine ⟨_, results_st3 rfl _ _ _ _ _ _ _ _ _ _ rfl (((Blk.newAt _ _ _ _ rfl).alloc _).alloc _) rfl ((Blk.newAt _ _ _ _ (by simp)).alloc _) rfl (Blk.newAt _ _ _ _ (by simp)), ?_⟩
    exact ParseEnds.zero (((Ext.new w _).alloc _).alloc _)
  · have H1 : Hid ((resL t).2 ≠ 0 → parseSt t = zeroS ∧ parseSN t = (resL t).2 ∧ parseSE t = 3) := Lib.hid (by unfold parseSt parseSN parseSE; intro h; simp [hbig, h])
    have H2 : Hid ((resL t).2 = 0 → checkS (resL t).1 ≠ 0 → parseSt t = zeroS ∧ parseSN t = 0 ∧ parseSE t = checkS (resL t).1) := Lib.hid (by unfold parseSt parseSN parseSE; intro h h'; simp [hbig, h, h'])
    have H3 : Hid ((resL t).2 = 0 → checkS (resL t).1 = 0 → parseSt t = (resL t).1 ∧ parseSN t = 0 ∧ parseSE t = 0) := Lib.hid (by unfold parseSt parseSN parseSE; intro h h'; simp [hbig, h, h'])
    generalize hR : parseSt t = R at *
    generalize hN : parseSN t = N at *
    generalize hE' : parseSE t = E at *
    clear hR hN hE'
    refine callsIn_of_wp_marks Tryz.func13 rfl trivial ?_ rfl
    simp only [Tryz.ntmps13, List.size_toArray, List.length_cons, List.length_nil, Nat.reduceAdd, Nat.reduceSub, Array.replicate_succ, Array.replicate_zero, List.push_toArray, List.append_toArray, List.nil_append, List.cons_append]
    gi_wp2_with (gi_at_call 48; refine (callsIn_wide.2 (stLines t _)).mono ?_; rintro e w1 ⟨rfl, rfl⟩)
    refine range_outer' rfl (by omega) (w.heap.size + 1 + 1 + 1 + 1 + 1 + 1) (by simp) rfl trivial (fun _ _ => by rfl) ?_
    intro fn lp W1 hlp hW1 _
    refine (stLines1 _ (w.heap.size + 1 + 1 + 1 + 1 + 1 + 1 + 1) (w.heap.size + 1 + 1 + 1 + 1 + 1) (fun rest W => ∃ k s, PAt t w lp rest k s W) (PBad t w { lp with state := .done, pending := some .ret }) ?hJ ?hY t _ ?h0).mono ?_
    case hJ =>
      rintro rest W ⟨k, s, h⟩
      have := h.len
      exact ⟨h.box.cell 0, hE.ext h.ext, by omega⟩
    case h0 =>
      refine ⟨0, zeroS, rfl, by simp [zeroS], by simp [zeroS], by simp [Sized, zeroS], by omega, ?_, ?_, ?_, ?_, ?_, ?_, ?_, ?_, ?_, ?_⟩
      all_goals subst hW1
      · refine ⟨_, _, ((((Blk.newAt _ _ _ _ (by simp)).alloc _).alloc _).alloc _).alloc _, trivial, ⟨rfl, .inl ⟨rfl, rfl⟩⟩, ⟨rfl, .inl ⟨rfl, rfl⟩⟩⟩
      · exact (((((((Ext.new w _).alloc _).alloc _).alloc _).alloc _).alloc _).alloc _).alloc _
      · simp
      · exact (((((((Blk.newAt _ _ _ _ rfl).alloc _).alloc _).alloc _).alloc _).alloc _).alloc _).alloc _
      · exact ((((((Blk.newAt _ _ _ _ (by simp)).alloc _).alloc _).alloc _).alloc _).alloc _).alloc _
      · exact (((((Blk.newAt _ _ _ _ (by simp)).alloc _).alloc _).alloc _).alloc _).alloc _
      · exact (((Blk.newAt _ _ _ _ (by simp)).alloc _).alloc _).alloc _
      · exact ((Blk.newAt _ _ _ _ (by simp)).alloc _).alloc _
      · exact (Below.heap_alloc _ _ _ (by simp)).trans (newAt _ _ _ (by simp))
      · exact newAt _ _ _ (by simp)
    case hY =>
      rintro rest W kk hne ⟨k, s, h⟩
      have e1 := congrArg Loop.assign hlp
      have e2 := congrArg Loop.body hlp
      have e3 := congrArg Loop.tmps hlp
      have e4 := congrArg Loop.params hlp
      have e5 : { lp with state := .ready, pending := none } = lp := by rw [hlp]; rfl
      obtain ⟨lb, hlb⟩ : ∃ lb, { lp with state := .busy } = lb := ⟨_, rfl⟩
      simp only [recOf] at e1 e2 e3 e4
      refine yield_round' (rec := lp) h.L (by rw [hlp]; rfl) (by rw [hlp]; rfl) trivial e1 e2 e4 e3 (zip2 _ _ _ _ _) hlb ?_
      clear e1 e2 e3 e4 hlp hW1 W1
      have hb := (h.drewN kk).put (lp' := lb)
      have HL0 := Lib.hid (h.drewN kk).L
      clear h
      generalize W.drewN kk = W2 at *
      have HLB := Lib.hid hlb
      have HE5 := Lib.hid e5
      clear hlb e5
      rcases splitOn_first rest with ⟨_, hcut, hsp⟩ | ⟨p, r, hrest, hcut, hsp⟩
      · rw [hcut]
        have HLS : Hid (resL t = (s, (k : Int) + 1)) := Lib.hid (by rw [hb.same, hsp, goLines_one, if_neg (fun hh => hne hh.2)])
        gi_wp2
        refine ⟨HL0.out, ?_⟩
        generalize W2.putObj (w.heap.size + 1 + 1 + 1 + 1 + 1 + 1 + 1) (.loop lb) = Wb at *
        have hk1 := hb.len
        have hn0 := hb.n.cell 0
        have hn1 := hb.n.frozen 0
        have hq0 := hb.r0.cell 0
        have hq1 := hb.r0.cell 1
        have hq2 := hb.r0.cell 2
        have hp0 := hb.r0.frozen 0
        have hp1 := hb.r0.frozen 1
        have hp2 := hb.r0.frozen 2
        have hu0 := hb.r1.cell 0
        have hu1 := hb.r1.frozen 0
        have hv0 := hb.r2.cell 0
        have hv1 := hb.r2.frozen 0
        simp only [List.getElem?_toArray, List.getElem?_cons_zero, List.getElem?_cons_succ] at hn0 hq0 hq1 hq2 hu0 hv0
        have HB := Lib.hid hb
        clear hb
        have hmix : Tryz.prog.follows .mixedOrders = true := by kernel_rfl
        gi_wp2
        have HBAD : ∀ Y, Y = (((((((Wb.setCell ⟨w.heap.size + 1 + 1 + 1 + 1, 0, none⟩ (.int .i64 ((k : Int) + 1))).setCell ⟨w.heap.size, 0, none⟩ (.int .i64 0)).setCell ⟨w.heap.size, 1, none⟩ (.slice none 0 0)).setCell ⟨w.heap.size, 2, none⟩ (.slice none 0 0)).setCell ⟨w.heap.size + 1, 0, none⟩ (.int .i64 ((k : Int) + 1))).setCell ⟨w.heap.size + 1 + 1, 0, none⟩ (.int .i64 3)).drew) → Y.heap[w.heap.size + 1 + 1 + 1 + 1 + 1 + 1 + 1]? = some (.loop lb) ∧ PBad t w { lp with state := .done, pending := some .ret } (Y.putObj (w.heap.size + 1 + 1 + 1 + 1 + 1 + 1 + 1) (.loop { lp with state := .done, pending := some .ret })) := fun Y hY =>
          PBad.of (by omega) (by rw [HLS.out]) (HB.out.ext.setCell (by dsimp only; omega) _) (HB.out.r0.far (by dsimp only; omega) _) (HB.out.r1.far (by dsimp only; omega) _) (HB.out.r2.far (by dsimp only; omega) _) (dfar HB.out.D (by omega)) (dfar HB.out.L (by omega)) hY
        have HBD := Lib.hid HBAD
        clear HBAD
        gi_region_with_o (fail)
        all_goals
          refine gen_world (p := fun Y => Exit.then _ _ _ _ Y) ?_
          intro Y hY
          have HY := Lib.hid (HBD.out Y hY)
          clear hY HBD
          gi_wp2
          refine ⟨by rw [HLB.out]; exact HY.out.1, .inr ⟨rfl, HY.out.2⟩⟩
      · rw [hcut]
        have hrl : p.length + 1 + r.length = rest.length := by rw [hrest]; simp; omega
        have HSP : Hid (resL t = match stepLine s (k == 0) p with | some s' => goLines s' (k + 1) (splitOn 10 r) | none => (s, (k : Int) + 1)) := Lib.hid (by rw [hb.same, hsp, goLines_cons (splitOn_ne 10 r)] <;> cases stepLine s (k == 0) p <;> rfl)
        gi_wp2
        refine ⟨HL0.out, ?_⟩
        generalize W2.putObj (w.heap.size + 1 + 1 + 1 + 1 + 1 + 1 + 1) (.loop lb) = Wb at *
        have hk1 := hb.len
        have hn0 := hb.n.cell 0
        have hn1 := hb.n.frozen 0
        simp only [List.getElem?_toArray, List.getElem?_cons_zero] at hn0
        have hsl := hb.hs
        have hsm := hb.ms
        have HB := Lib.hid hb
        have HC := Lib.hid hcut
        clear hb hcut hsp hrest hne
        have hmix : Tryz.prog.follows .mixedOrders = true := by kernel_rfl
        have HST6 : Hid (StAt (Wb.setCell ⟨w.heap.size + 1 + 1 + 1 + 1, 0, none⟩ (.int .i64 ((k : Int) + 1))) (w.heap.size + 1 + 1 + 1 + 1 + 1 + 1 + 1 + 1) (w.heap.size + 1 + 1 + 1) 81 (moreB (!(k == 0))) s) := Lib.hid (HB.out.st.set_low (by omega) (by omega) _)
        have HE6 : Hid (Env (Wb.setCell ⟨w.heap.size + 1 + 1 + 1 + 1, 0, none⟩ (.int .i64 ((k : Int) + 1)))) := Lib.hid (hE.ext (HB.out.ext.setCell (by dsimp only; omega) _))
        cases hst : stepLine s (k == 0) p with
        | some s' =>
          rw [hst] at HSP
          have HSZ := Lib.hid (stepW_sized HB.out.sized (fun q hq => Nat.le_trans (splitOn_mem 32 p q hq) (by omega)) hst)
          have HSTP := Lib.hid hst
          clear hst
          gi_wp2_with (gi_at_call 49; refine (CallsIn.inRound _ (callsIn_wide.2 (stRead s p _ rfl (k == 0) (w.heap.size + 1 + 1 + 1 + 1 + 1 + 1 + 1 + 1) (w.heap.size + 1 + 1 + 1) _ HST6.out (by have := HB.out.big; simpa using this) HE6.out (by omega) (by omega) (by omega)))).mono ?_; rintro e w5 ⟨ok, rfl, hb5, hy, hn⟩; (obtain ⟨rfl, hS5⟩ := hy _ HSTP.out); (have HS5 := Lib.hid hS5); (have HB5 := Lib.hid hb5); clear hy hn hS5 hb5)
          obtain ⟨hbx, hP⟩ := HB.out.next (lp := lp) hrl HSP.out HSZ.out HS5.out HB5.out
          refine ⟨by rw [HLB.out]; exact (HB.out.mid HB5.out).2.2.2.2.2.2.2, ?_⟩
          rw [HE5.out]
          refine .inl ⟨rfl, ?_, hbx.frozen 0, ?_, ⟨k + 1, s', ?_⟩⟩
          · rw [hbx.cell 0]; rfl
          · rw [HC.out]; show r.length < rest.length; omega
          · rw [HC.out]; exact hP
        | none =>
          rw [hst] at HSP
          have HSTP := Lib.hid hst
          clear hst
          gi_wp2_with (gi_at_call 49; refine (CallsIn.inRound _ (callsIn_wide.2 (stRead s p _ rfl (k == 0) (w.heap.size + 1 + 1 + 1 + 1 + 1 + 1 + 1 + 1) (w.heap.size + 1 + 1 + 1) _ HST6.out (by have := HB.out.big; simpa using this) HE6.out (by omega) (by omega) (by omega)))).mono ?_; rintro e w5 ⟨ok, rfl, hb5, hy, hn⟩; (obtain rfl := hn HSTP.out); (obtain ⟨hx5, hB0, hB1, hB2, hBn, _, hBD, hBL⟩ := HB.out.mid hb5); (have hm0 := hBn.cell 0); (have hq0 := hB0.cell 0); (have hq1 := hB0.cell 1); (have hq2 := hB0.cell 2); (have hp0 := hB0.frozen 0); (have hp1 := hB0.frozen 1); (have hp2 := hB0.frozen 2); (have hu0 := hB1.cell 0); (have hu1 := hB1.frozen 0); (have hv0 := hB2.cell 0); (have hv1 := hB2.frozen 0); (simp only [List.getElem?_toArray, List.getElem?_cons_zero, List.getElem?_cons_succ] at hm0 hq0 hq1 hq2 hu0 hv0); (have HBAD := Lib.hid (fun Y hY => PBad.of (lp' := { lp with state := .done, pending := some .ret }) (n := (k : Int) + 1) (by omega) (by rw [HSP.out]) hx5 hB0 hB1 hB2 hBD hBL (Y := Y) hY)); clear hy hn hb5 hx5 hB0 hB1 hB2 hBn hBD hBL)
          gi_region_with_o (fail)
          all_goals
            refine gen_world (p := fun Y => Exit.then _ _ _ _ Y) ?_
            intro Y hY
            have HY := Lib.hid (HBAD.out Y hY)
            clear hY HBAD
            gi_wp2
            refine ⟨by rw [HLB.out]; exact HY.out.1, .inr ⟨rfl, HY.out.2⟩⟩
    rintro e W ⟨hv, (⟨k, s, h⟩ | h)⟩
    · refine ⟨hv, .inl ⟨h.L, ?_⟩⟩
      have HSM := Lib.hid (SmallS.of h.hs h.ms h.sized (by have := h.len; simp at this; omega))
      have HK := Lib.hid h.same
      have H0 := h.r0.put (.loop { lp with state := .exhausted }) (l := w.heap.size + 1 + 1 + 1 + 1 + 1 + 1 + 1) (by omega)
      have HR1 := h.r1.put (.loop { lp with state := .exhausted }) (l := w.heap.size + 1 + 1 + 1 + 1 + 1 + 1 + 1) (by omega)
      have HR2 := h.r2.put (.loop { lp with state := .exhausted }) (l := w.heap.size + 1 + 1 + 1 + 1 + 1 + 1 + 1) (by omega)
      have Hn := h.n.put (.loop { lp with state := .exhausted }) (l := w.heap.size + 1 + 1 + 1 + 1 + 1 + 1 + 1) (by omega)
      have HST := h.st.put (l := w.heap.size + 1 + 1 + 1 + 1 + 1 + 1 + 1) (by omega) (by omega) (.loop { lp with state := .exhausted })
      have HX := h.ext.putObj (r := w.heap.size + 1 + 1 + 1 + 1 + 1 + 1 + 1) (by omega) (.loop { lp with state := .exhausted })
      have HD : (W.putObj (w.heap.size + 1 + 1 + 1 + 1 + 1 + 1 + 1) (.loop { lp with state := .exhausted })).heap[w.heap.size + 1 + 1 + 1 + 1 + 1 + 1]? = some (.deferred (some [])) := (World.putObj_heap_other (by omega)).trans h.D
      have hkl := h.len
      generalize W.putObj (w.heap.size + 1 + 1 + 1 + 1 + 1 + 1 + 1) (.loop { lp with state := .exhausted }) = W3 at *
      clear h hv hW1 hlp W1
      have hn0 := Hn.cell 0
      have hq0 := H0.cell 0
      have hq1 := H0.cell 1
      have hq2 := H0.cell 2
      have hp0 := H0.frozen 0
      have hp1 := H0.frozen 1
      have hp2 := H0.frozen 2
      have hu0 := HR1.cell 0
      have hu1 := HR1.frozen 0
      have hv0 := HR2.cell 0
      have hv1 := HR2.frozen 0
      simp only [List.getElem?_toArray, List.getElem?_cons_zero, List.getElem?_cons_succ] at hn0 hq0 hq1 hq2 hu0 hv0
      have HB0 := Lib.hid H0
      have HB1 := Lib.hid HR1
      have HB2 := Lib.hid HR2
      have HDD := Lib.hid HD
      have HXX := Lib.hid HX
      clear H0 HR1 HR2 HD HX Hn
      obtain ⟨vA, vB, HST⟩ := HST
      obtain ⟨aA, cA, rfl⟩ := own_len HST.2.2.1
      obtain ⟨aB, cB, rfl⟩ := own_len HST.2.2.2
      have hs0 := HST.1.cell 0
      have hs1 := HST.1.cell 1
      have hs2 := HST.1.cell 2
      simp only [List.getElem?_toArray, List.getElem?_cons_zero, List.getElem?_cons_succ] at hs0 hs1 hs2
      have HSV := Lib.hid HST
      clear HST
      by_cases hk0 : k = 0
      · subst hk0
        have HF := Lib.hid (H1.out (by rw [HK.out, splitOn_none 10 [] (by simp), goLines_one, if_neg (by omega)]; show ((0 : Nat) : Int) + 1 ≠ 0; decide))
        have HL : Hid ((resL t).2 = 1) := Lib.hid (by rw [HK.out, splitOn_none 10 [] (by simp), goLines_one, if_neg (by omega)]; rfl)
        gi_wp2
        refine ⟨by simp, .inl ⟨_, _, rfl, run_takeDeferred (dfar (dfar (dfar (dfar (dfar HDD.out (by omega)) (by omega)) (by omega)) (by omega)) (by omega)), ?_⟩⟩
        refine ⟨_, results_st3 rfl _ _ _ _ _ _ _ _ _ _ rfl (((((((HB0.out.set_ 0 _).set_ 1 _).set_ 2 _).far (p := ⟨w.heap.size + 1, 0, none⟩) (by simp) _).far (p := ⟨w.heap.size + 1 + 1, 0, none⟩) (by simp; omega) _)).put _ (by omega)) rfl ((((((HB1.out.far (by simp) _).far (by simp) _).far (by simp) _).set_ 0 _).far (p := ⟨w.heap.size + 1 + 1, 0, none⟩) (by simp) _).put _ (by omega)) rfl ((((((HB2.out.far (by simp; omega) _).far (by simp; omega) _).far (by simp; omega) _).far (by simp) _).set_ 0 _).put _ (by omega)), ?_⟩
        rw [HF.out.1, HF.out.2.1, HF.out.2.2, HL.out]
        exact ParseEnds.zero ((((((HXX.out.setCell (by simp) _).setCell (by simp) _).setCell (by simp) _).setCell (by simp) _).setCell (by simp; omega) _).putObj (by omega) _)
      · have hkb : ((k : Int) == 0) = false := by rw [beq_eq_false_iff_ne]; omega
        have HL : Hid (resL t = (s, 0)) := Lib.hid (by rw [HK.out, splitOn_none 10 [] (by simp), goLines_one, if_pos ⟨by omega, rfl⟩])
        clear hk0
        by_cases hok : checkS s = 0
        · have HF := Lib.hid (H3.out (by rw [HL.out]) (by rw [HL.out]; exact hok))
          rw [HL.out] at HF
          gi_wp2_with (gi_at_call 20; refine (callsIn_wide.2 (stCheck s aA aB cA cB _ (Reads.own HSV.out.2.2.1) (Reads.own HSV.out.2.2.2) HSM.out)).mono ?_; rintro e w5 ⟨rfl, hx5⟩; rw [hok]; clear hok; (have H05 := HB0.out.ext hx5); (have hq50 := H05.cell 0); (have hq51 := H05.cell 1); (have hq52 := H05.cell 2); (have hp50 := H05.frozen 0); (have hp51 := H05.frozen 1); (have hp52 := H05.frozen 2); (have HR15 := HB1.out.ext hx5); (have hu50 := HR15.cell 0); (have hu51 := HR15.frozen 0); (have HR25 := HB2.out.ext hx5); (have hv50 := HR25.cell 0); (have hv51 := HR25.frozen 0); (have HS5 := HSV.out.ext hx5); (have hs50 := HS5.1.cell 0); (have hs51 := HS5.1.cell 1); (have hs52 := HS5.1.cell 2); (simp only [List.getElem?_toArray, List.getElem?_cons_zero, List.getElem?_cons_succ] at hq50 hq51 hq52 hu50 hv50 hs50 hs51 hs52); (have HB05 := Lib.hid H05); (have HB15 := Lib.hid HR15); (have HB25 := Lib.hid HR25); (have HSV5 := Lib.hid HS5); (have HX5 := Lib.hid (HXX.out.trans hx5)); (have HD5 := Lib.hid ((hx5.block _ (Array.getElem?_eq_some_iff.1 HDD.out).1).trans HDD.out)); clear H05 HR15 HR25 HS5 hx5)
          refine ⟨by simp, .inl ⟨_, _, rfl, run_takeDeferred (dfar (dfar (dfar (dfar (dfar HD5.out (by omega)) (by omega)) (by omega)) (by omega)) (by omega)), ?_⟩⟩
          refine ⟨_, results_st3 rfl _ _ _ _ _ _ _ _ _ _ rfl (((((((HB05.out.set_ 0 _).set_ 1 _).set_ 2 _).far (p := ⟨w.heap.size + 1, 0, none⟩) (by simp) _).far (p := ⟨w.heap.size + 1 + 1, 0, none⟩) (by simp; omega) _)).put _ (by omega)) rfl ((((((HB15.out.far (by simp) _).far (by simp) _).far (by simp) _).set_ 0 _).far (p := ⟨w.heap.size + 1 + 1, 0, none⟩) (by simp) _).put _ (by omega)) rfl ((((((HB25.out.far (by simp; omega) _).far (by simp; omega) _).far (by simp; omega) _).far (by simp) _).set_ 0 _).put _ (by omega)), ?_⟩
          rw [HF.out.1, HF.out.2.1, HF.out.2.2]
          have hX := ((((((HX5.out.setCell (p := ⟨w.heap.size, 0, none⟩) (by simp) (.int .i64 s.day)).setCell (p := ⟨w.heap.size, 1, none⟩) (by simp) (.slice aA s.hs.length cA)).setCell (p := ⟨w.heap.size, 2, none⟩) (by simp) (.slice aB s.ms.length cB)).setCell (p := ⟨w.heap.size + 1, 0, none⟩) (by simp) (.int .i64 0)).setCell (p := ⟨w.heap.size + 1 + 1, 0, none⟩) (by simp; omega) (.int .i64 0)).putObj (r := w.heap.size + 1 + 1 + 1 + 1 + 1 + 1) (by omega) (.deferred none))
          have hnA : ∀ g, g < w.heap.size + 1 + 1 + 1 + 1 + 1 + 1 + 1 + 1 → (Value.slice aA s.hs.length cA).ownBlock ≠ some g := fun g hg h => by have := own_ge HSV5.out.2.2.1 _ h; omega
          have hnB : ∀ g, g < w.heap.size + 1 + 1 + 1 + 1 + 1 + 1 + 1 + 1 → (Value.slice aB s.ms.length cB).ownBlock ≠ some g := fun g hg h => by have := own_ge HSV5.out.2.2.2 _ h; omega
          exact ⟨aA, cA, aB, cB, rfl, Reads.own (own_put (own_set (own_set (own_set (own_set (own_set HSV5.out.2.2.1 (hnA _ (by omega)) _) (hnA _ (by omega)) _) (hnA _ (by omega)) _) (hnA _ (by omega)) _) (hnA _ (by omega)) _) (by omega) _), Reads.own (own_put (own_set (own_set (own_set (own_set (own_set HSV5.out.2.2.2 (hnB _ (by omega)) _) (hnB _ (by omega)) _) (hnB _ (by omega)) _) (hnB _ (by omega)) _) (hnB _ (by omega)) _) (by omega) _), hX⟩
        · have HF := Lib.hid (H2.out (by rw [HL.out]) (by rw [HL.out]; exact hok))
          rw [HL.out] at HF
          have hokb : (checkS s != 0) = true := by rw [bne_iff_ne]; exact hok
          gi_wp2_with (gi_at_call 20; refine (callsIn_wide.2 (stCheck s aA aB cA cB _ (Reads.own HSV.out.2.2.1) (Reads.own HSV.out.2.2.2) HSM.out)).mono ?_; rintro e w5 ⟨rfl, hx5⟩; (have H05 := HB0.out.ext hx5); (have hq50 := H05.cell 0); (have hq51 := H05.cell 1); (have hq52 := H05.cell 2); (have hp50 := H05.frozen 0); (have hp51 := H05.frozen 1); (have hp52 := H05.frozen 2); (have HR15 := HB1.out.ext hx5); (have hu50 := HR15.cell 0); (have hu51 := HR15.frozen 0); (have HR25 := HB2.out.ext hx5); (have hv50 := HR25.cell 0); (have hv51 := HR25.frozen 0); (have HS5 := HSV.out.ext hx5); (have hs50 := HS5.1.cell 0); (have hs51 := HS5.1.cell 1); (have hs52 := HS5.1.cell 2); (simp only [List.getElem?_toArray, List.getElem?_cons_zero, List.getElem?_cons_succ] at hq50 hq51 hq52 hu50 hv50 hs50 hs51 hs52); (have HB05 := Lib.hid H05); (have HB15 := Lib.hid HR15); (have HB25 := Lib.hid HR25); (have HSV5 := Lib.hid HS5); (have HX5 := Lib.hid (HXX.out.trans hx5)); (have HD5 := Lib.hid ((hx5.block _ (Array.getElem?_eq_some_iff.1 HDD.out).1).trans HDD.out)); clear H05 HR15 HR25 HS5 hx5)
          refine ⟨by simp, .inl ⟨_, _, rfl, run_takeDeferred (dfar (dfar (dfar (dfar (dfar HD5.out (by omega)) (by omega)) (by omega)) (by omega)) (by omega)), ?_⟩⟩
          refine ⟨_, results_st3 rfl _ _ _ _ _ _ _ _ _ _ rfl (((((((HB05.out.set_ 0 _).set_ 1 _).set_ 2 _).far (p := ⟨w.heap.size + 1, 0, none⟩) (by simp) _).far (p := ⟨w.heap.size + 1 + 1, 0, none⟩) (by simp; omega) _)).put _ (by omega)) rfl ((((((HB15.out.far (by simp) _).far (by simp) _).far (by simp) _).set_ 0 _).far (p := ⟨w.heap.size + 1 + 1, 0, none⟩) (by simp) _).put _ (by omega)) rfl ((((((HB25.out.far (by simp; omega) _).far (by simp; omega) _).far (by simp; omega) _).far (by simp) _).set_ 0 _).put _ (by omega)), ?_⟩
          rw [HF.out.1, HF.out.2.1, HF.out.2.2]
          exact ParseEnds.zero ((((((HX5.out.setCell (by simp) _).setCell (by simp) _).setCell (by simp) _).setCell (by simp) _).setCell (by simp; omega) _).putObj (by omega) _)
    · refine ⟨hv, .inr ⟨h.L, ?_⟩⟩
      have HF := Lib.hid (H1.out h.ne)
      have H0 := h.r0.put (.loop { lp with state := .exhausted, pending := some .ret }) (l := w.heap.size + 1 + 1 + 1 + 1 + 1 + 1 + 1) (by omega)
      have HR1 := h.r1.put (.loop { lp with state := .exhausted, pending := some .ret }) (l := w.heap.size + 1 + 1 + 1 + 1 + 1 + 1 + 1) (by omega)
      have HR2 := h.r2.put (.loop { lp with state := .exhausted, pending := some .ret }) (l := w.heap.size + 1 + 1 + 1 + 1 + 1 + 1 + 1) (by omega)
      have HX := h.ext.putObj (r := w.heap.size + 1 + 1 + 1 + 1 + 1 + 1 + 1) (by omega) (.loop { lp with state := .exhausted, pending := some .ret })
      have HD : (W.putObj (w.heap.size + 1 + 1 + 1 + 1 + 1 + 1 + 1) (.loop { lp with state := .exhausted, pending := some .ret })).heap[w.heap.size + 1 + 1 + 1 + 1 + 1 + 1]? = some (.deferred (some [])) := (World.putObj_heap_other (by omega)).trans h.D
      generalize W.putObj (w.heap.size + 1 + 1 + 1 + 1 + 1 + 1 + 1) (.loop { lp with state := .exhausted, pending := some .ret }) = W3 at *
      clear h hv hW1 hlp W1
      gi_wp2
      refine ⟨by simp, .inl ⟨_, _, rfl, run_takeDeferred HD, ?_⟩⟩
      refine ⟨_, results_st3 rfl _ _ _ _ _ _ _ _ _ _ rfl (H0.put _ (by omega)) rfl (HR1.put _ (by omega)) rfl (HR2.put _ (by omega)), ?_⟩
      rw [HF.out.1, HF.out.2.1, HF.out.2.2]
      exact ParseEnds.zero (HX.putObj (by omega) _)
end Go.Proofs.YteeampgbmpolfaaGreatDoor

/- The chapter's example, in plain words. -/
namespace Go.Proofs.YteeampgbmpolfaaGreatDoor
open Go.RowKit

def exS : St := ⟨19753, [⟨[97, 98, 99], [57, 48]⟩], [⟨[98, 49], 19732, [97, 98, 99], [49, 48, 48], [45, 49, 48, 48, 53]⟩, ⟨[115, 49], 19742, [97, 98, 99], [45, 49, 48], [49, 50, 48]⟩]⟩
def exT : Bs := "statement 2024-01-31\nholding abc 90\nmovement b1 2024-01-10 abc 100 -1005\nmovement s1 2024-01-20 abc -10 120\n".toUTF8.data.toList
theorem exPrint : printSV exS = exT := by kernel_rfl
theorem exPrintE : printSE exS = 0 := by kernel_rfl
theorem exRes : resL exT = (exS, 0) := by kernel_rfl
theorem exCheck : checkS exS = 0 := by kernel_rfl
theorem exLen : exT.length = 108 := by kernel_rfl
end Go.Proofs.YteeampgbmpolfaaGreatDoor

/- The walks over the law's Example and awake. -/
namespace Go.Proofs.YteeampgbmpolfaaGreatDoor
open Go.RowKit
attribute [local go_sem] size_bs toList_bs extract_bs get_bs append_bs lit_append append_lit

def StEnds (s : St) (w : World) (e : Ending) (w' : World) : Prop :=
  ∃ A c B d, e = .returned (.agg #[.int .i64 s.day, .slice A s.hs.length c, .slice B s.ms.length d]) ∧ RdH w' A s.hs ∧ RdM w' B s.ms ∧ Ext w w'
theorem results_one {fn : Func} {a : Tmp} (h : fn.results = #[.cell a 26]) (tmps : Array Value) (w : World) (g : Nat) (x y z : Value) (ha : tmps.getD a undef = .pointer (some ⟨g, 0, none⟩)) (hb : Blk w g 26 #[x, y, z]) :
    (results fn tmps).run Tryz.prog w = .ok (.agg #[x, y, z]) w := by
  have h0 := hb.cell 0
  have h1 := hb.cell 1
  have h2 := hb.cell 2
  simp only [List.getElem?_toArray, List.getElem?_cons_zero, List.getElem?_cons_succ] at h0 h1 h2
  unfold results
  rw [h]
  simp only [List.mapM_toArray, List.mapM_cons, List.mapM_nil, ha]
  go_simp

theorem Reads.litAt {w : World} {t : TypeId} {size n g : Nat} {xs : List Value} (hl : xs.length = n * size) (hg : w.heap.size = g) : Reads (w.alloc (.cells xs.toArray t)) size (some ⟨g, 0, none⟩) n xs := by
  subst hg; exact Reads.lit hl
set_option maxRecDepth 100000 in
theorem lawExample (w : World) : Calls Tryz.prog 39 #[] w (StEnds exS w) := by
  go_enter Tryz.func39, Tryz.ntmps39
  go_wp2_with fail
  refine bodyPost_ret (results_one rfl _ _ _ _ _ _ rfl (((Blk.newAt _ _ _ _ rfl).alloc _).alloc _)) rfl ?_
  exact ⟨some ⟨w.heap.size + 1, 0, none⟩, 1, some ⟨w.heap.size + 1 + 1, 0, none⟩, 2, rfl, (Reads.litAt (xs := hcells exS.hs) (n := 1) rfl (by simp)).ext (Ext.new _ _), Reads.litAt (xs := mcells exS.ms) (n := 2) rfl (by simp), ((Ext.new _ _).alloc _).alloc _⟩

theorem exSmall : SmallS exS := by
  refine ⟨by decide, by decide, ?_, ?_⟩
  · intro h hh; simp [exS] at hh; subst hh; simp [SmallH]
  · intro m hm; simp [exS] at hm; rcases hm with rfl | rfl <;> simp [SmallM]
theorem exBig : ¬ 65536 < exT.length := by rw [exLen]; decide
theorem exParse : parseSt exT = exS ∧ parseSN exT = 0 ∧ parseSE exT = 0 := by
  unfold parseSt parseSN parseSE
  rw [if_neg exBig, if_neg exBig, if_neg exBig, exRes]
  simp [exCheck]

set_option maxRecDepth 100000 in
set_option maxHeartbeats 4000000 in
theorem lawAwake (w : World) (hE : Env w) : Calls Tryz.prog 10 #[] w fun e w' => e = .returned (.bool true) ∧ Ext w w' := by
  go_enter Tryz.func10, Tryz.ntmps10
  go_wp2_with fail
  refine (lawExample _).mono ?_
  rintro e w1 ⟨A, c, B, d, rfl, hA, hB, hx1⟩
  go_wp2_with fail
  refine (stPrint exS A B c d _ hA hB exSmall (hE.ext hx1)).mono ?_
  rw [exPrint, exPrintE]
  rintro e w2 ⟨rfl, hx2⟩
  have hx12 := hx1.trans hx2
  clear hA hB hx1 hx2
  have hel : exT.length ≤ 1000000000 := by rw [exLen]; decide
  go_wp2_with fail
  refine (stParse exT _ hel (hE.ext hx12)).mono ?_
  rw [exParse.1, exParse.2.1, exParse.2.2]
  rintro e w3 ⟨A3, c3, B3, d3, rfl, hA3, hB3, hx3⟩
  have HX := Lib.hid (hx12.trans hx3)
  have HA3 := Lib.hid hA3
  have HB3 := Lib.hid hB3
  clear hA3 hB3 hx3 hx12
  go_wp2_with fail
  have HBX := Lib.hid (Blk.new w3 26 #[.int .i64 exS.day, .slice A3 exS.hs.length c3, .slice B3 exS.ms.length d3])
  go_region_held3 (fun w' => w'.cell? ⟨w3.heap.size, 0, none⟩ = some (.int .i64 exS.day) ∧ w'.cell? ⟨w3.heap.size, 1, none⟩ = some (.slice A3 exS.hs.length c3) ∧ w'.cell? ⟨w3.heap.size, 2, none⟩ = some (.slice B3 exS.ms.length d3))
    (go_keep)
    (first
      | (go_at_call 39; refine (lawExample _).mono ?_; rintro e w4 ⟨A4, c4, B4, d4, rfl, hA4, hB4, hx4⟩; have hbx := HBX.out.ext (Ext.trans (Ext.drew (Ext.refl _)) hx4); have hq0 := hbx.cell 0; have hq1 := hbx.cell 1; have hq2 := hbx.cell 2; simp only [List.getElem?_toArray, List.getElem?_cons_zero, List.getElem?_cons_succ] at hq0 hq1 hq2; have HX4 := Lib.hid ((HX.out.trans ((Ext.new _ _).drew)).trans hx4); have HBX4 := Lib.hid hbx; have HA4 := Lib.hid hA4; have HB4 := Lib.hid hB4; have HA34 := Lib.hid ((HA3.out.ext ((Ext.new _ _).drew)).ext hx4); have HB34 := Lib.hid ((HB3.out.ext ((Ext.new _ _).drew)).ext hx4); clear hbx hx4 hA4 hB4)
      | (go_at_call 15; refine (refSame exS A3 B3 c3 d3 A4 B4 c4 d4 _ HA34.out HB34.out HA4.out HB4.out (by decide) (by decide)).mono ?_; rintro e w5 ⟨rfl, hx5⟩; have hbx5 := HBX4.out.ext hx5; have hr0 := hbx5.cell 0; have hr1 := hbx5.cell 1; have hr2 := hbx5.cell 2; simp only [List.getElem?_toArray, List.getElem?_cons_zero, List.getElem?_cons_succ] at hr0 hr1 hr2; have HX5 := Lib.hid (HX4.out.trans hx5); clear hbx5 hx5))
  go_wp2_with fail
  go_ret
  exact ⟨rfl, HX5.out⟩
end Go.Proofs.YteeampgbmpolfaaGreatDoor

/- The walk over the law StatementTexts. -/
namespace Go.Proofs.YteeampgbmpolfaaGreatDoor
open Go.RowKit
attribute [local go_sem] size_bs toList_bs extract_bs get_bs append_bs lit_append append_lit

theorem small_of_great {s : St} (h : ¬ greatS s) : SmallS s := by
  have hn : ¬ bigN s.hs.length s.ms.length := fun h' => h (.inr (.inr h'))
  refine ⟨by unfold bigN at hn; omega, by unfold bigN at hn; omega, fun x hx => ?_, fun x hx => ?_⟩
  · have hb : ¬ bigH x := fun h' => h (.inl ⟨x, hx, h'⟩)
    unfold bigH at hb; unfold SmallH; omega
  · have hb : ¬ bigM x := fun h' => h (.inr (.inl ⟨x, hx, h'⟩))
    unfold bigM at hb; unfold SmallM; omega
theorem stepW_len1 {s s' : St} {first : Bool} {ws : List Bs} (h : stepW s first ws = some s') : s'.hs.length ≤ s.hs.length + 1 ∧ s'.ms.length ≤ s.ms.length + 1 := by
  unfold stepW at h
  split at h
  all_goals first
    | (split at h
       · injection h with h; subst h; simp
       · cases h)
    | cases h
theorem goLines_len : ∀ (ls : List Bs) (s : St) (k : Nat), (goLines s k ls).1.hs.length ≤ s.hs.length + ls.length ∧ (goLines s k ls).1.ms.length ≤ s.ms.length + ls.length
  | [], s, k => by simp [goLines]
  | [x], s, k => by rw [goLines_one]; split <;> simp
  | x :: y :: r, s, k => by
    cases h : stepLine s (k == 0) x with
    | some s' =>
      rw [goLines_ok h]
      have h1 := stepW_len1 h
      have h2 := goLines_len (y :: r) s' (k + 1)
      simp only [List.length_cons] at h2 ⊢
      omega
    | none => rw [goLines_bad h]; simp
theorem parseSt_len {t : Bs} (ht : t.length ≤ 1000000000) : (parseSt t).hs.length ≤ 4611686018427387904 ∧ (parseSt t).ms.length ≤ 4611686018427387904 := by
  have h := goLines_len (splitOn 10 t) zeroS 0
  have h2 := splitOn_len 10 t
  unfold parseSt
  split
  · simp [zeroS]
  · split
    · simp [zeroS]
    · split
      · simp [zeroS]
      · simp only [zeroS, List.length_nil] at h
        unfold resL; simp only [zeroS]; omega
theorem bs_beq (l : Bs) : (l == l) = true := by simp

set_option maxRecDepth 100000 in
set_option maxHeartbeats 4000000 in
theorem lawTexts (s : St) (A B : Option Addr) (c d : Nat) (t : Bs) (w : World) (hA : RdH w A s.hs) (hB : RdM w B s.ms) (hn : s.hs.length ≤ 4611686018427387904) (hm : s.ms.length ≤ 4611686018427387904) (hE : Env w) :
    Calls Tryz.prog 3 #[.agg #[.int .i64 s.day, .slice A s.hs.length c, .slice B s.ms.length d], .string (bs t)] w fun e w' => e = .returned (.bool true) ∧ Ext w w' := by
  have HE := Lib.hid hE
  have HA := Lib.hid hA
  have HB := Lib.hid hB
  clear hE hA hB
  have HBX := Lib.hid (Blk.new w 26 #[.int .i64 s.day, .slice A s.hs.length c, .slice B s.ms.length d])
  go_enter Tryz.func3, Tryz.ntmps3
  go_wp2_with fail
  refine (refGreat s A B c d _ (HA.out.ext (Ext.new _ _)) (HB.out.ext (Ext.new _ _)) hn hm).mono ?_
  rintro e w1 ⟨hx1, (⟨hg, rfl⟩ | ⟨hg, rfl⟩)⟩
  · have HX1 := Lib.hid (Ext.of_alloc hx1)
    clear hx1 hg
    go_wp2_with fail
    refine (lawAwake _ (HE.out.ext HX1.out)).mono ?_
    rintro e w2 ⟨rfl, hx2⟩
    go_wp2_with fail
    go_ret
    exact ⟨rfl, HX1.out.trans hx2⟩
  · have HX1 := Lib.hid (Ext.of_alloc hx1)
    have HS := Lib.hid (small_of_great hg)
    have hbx1 := HBX.out.ext hx1
    have hq0 := hbx1.cell 0
    have hq1 := hbx1.cell 1
    have hq2 := hbx1.cell 2
    simp only [List.getElem?_toArray, List.getElem?_cons_zero, List.getElem?_cons_succ] at hq0 hq1 hq2
    have HBX1 := Lib.hid hbx1
    clear hx1 hg hbx1
    have hgo : ∀ (a1 : Bool), True := fun _ => trivial
    clear hgo
    by_cases h1 : 1000 < (t.length : Int) ∧ (t.length : Int) ≤ 65536
    · obtain ⟨h1a, h1b⟩ := h1
      go_wp2_with fail
      refine (lawAwake _ (HE.out.ext HX1.out)).mono ?_
      rintro e w2 ⟨rfl, hx2⟩
      go_wp2_with fail
      go_ret
      exact ⟨rfl, HX1.out.trans hx2⟩
    by_cases h2 : 65546 < (t.length : Int)
    · have h1a : 1000 < (t.length : Int) := by omega
      have h1b : ¬ (t.length : Int) ≤ 65536 := by omega
      clear h1
      go_wp2_with fail
      refine (lawAwake _ (HE.out.ext HX1.out)).mono ?_
      rintro e w2 ⟨rfl, hx2⟩
      go_wp2_with fail
      go_ret
      exact ⟨rfl, HX1.out.trans hx2⟩
    · have htl : t.length ≤ 1000000000 := by omega
      rcases (show (¬ 1000 < (t.length : Int)) ∨ (1000 < (t.length : Int) ∧ ¬ (t.length : Int) ≤ 65536) by omega) with h3 | ⟨h3, h4⟩
      all_goals
        clear h1
        go_wp2_with fail
        refine (stPrint s A B c d _ (HA.out.ext HX1.out) (HB.out.ext HX1.out) HS.out (HE.out.ext HX1.out)).mono ?_
        rintro e w2 ⟨rfl, hx2⟩
        have HX2 := Lib.hid (HX1.out.trans hx2)
        have hbx2 := HBX1.out.ext hx2
        have hr0 := hbx2.cell 0
        have hr1 := hbx2.cell 1
        have hr2 := hbx2.cell 2
        simp only [List.getElem?_toArray, List.getElem?_cons_zero, List.getElem?_cons_succ] at hr0 hr1 hr2
        clear hbx2 hx2
        generalize hpv : printSV s = pv at *
        generalize hpe : printSE s = pe at *
        go_wp2_with fail
        refine (refPrintS s A B c d _ (HA.out.ext HX2.out) (HB.out.ext HX2.out) HS.out).mono ?_
        rw [hpv, hpe]
        clear hpv hpe
        rintro e w3 ⟨rfl, hx3⟩
        have HX3 := Lib.hid (HX2.out.trans hx3)
        clear hx3
        go_wp2_with fail
        refine (stParse t _ htl (HE.out.ext HX3.out)).mono ?_
        generalize hps : parseSt t = ps at *
        generalize hpn : parseSN t = pn at *
        generalize hpr : parseSE t = pr at *
        rintro e w4 ⟨A4, c4, B4, d4, rfl, hA4, hB4, hx4⟩
        have HX4 := Lib.hid (HX3.out.trans hx4)
        have HA4 := Lib.hid hA4
        have HB4 := Lib.hid hB4
        clear hA4 hB4 hx4
        have HBY := Lib.hid (Blk.new w4 26 #[.int .i64 ps.day, .slice A4 ps.hs.length c4, .slice B4 ps.ms.length d4])
        go_wp2_with fail
        refine (refParseS t _ htl).mono ?_
        rw [hps, hpn, hpr]
        rintro e w5 ⟨A5, c5, B5, d5, rfl, hA5, hB5, hx5⟩
        have HX5 := Lib.hid ((HX4.out.trans (Ext.new _ _)).trans hx5)
        have hby5 := HBY.out.ext hx5
        have hy0 := hby5.cell 0
        have hy1 := hby5.cell 1
        have hy2 := hby5.cell 2
        have hyl := hby5.lt
        simp only [List.getElem?_toArray, List.getElem?_cons_zero, List.getElem?_cons_succ] at hy0 hy1 hy2
        have HA5 := Lib.hid (hA5.ext (Ext.new _ (.cells #[.int .i64 ps.day, .slice A5 ps.hs.length c5, .slice B5 ps.ms.length d5] 26)))
        have HB5 := Lib.hid (hB5.ext (Ext.new _ (.cells #[.int .i64 ps.day, .slice A5 ps.hs.length c5, .slice B5 ps.ms.length d5] 26)))
        have HA45 := Lib.hid (((HA4.out.ext (Ext.new _ _)).ext hx5).ext (Ext.new _ (.cells #[.int .i64 ps.day, .slice A5 ps.hs.length c5, .slice B5 ps.ms.length d5] 26)))
        have HB45 := Lib.hid (((HB4.out.ext (Ext.new _ _)).ext hx5).ext (Ext.new _ (.cells #[.int .i64 ps.day, .slice A5 ps.hs.length c5, .slice B5 ps.ms.length d5] 26)))
        have HLN : Hid (ps.hs.length ≤ 4611686018427387904 ∧ ps.ms.length ≤ 4611686018427387904) := Lib.hid (by have := parseSt_len htl; rw [hps] at this; exact this)
        clear hA5 hB5 hx5 hby5 hps hpn hpr
        go_wp2_with fail
        refine (refSame ps A4 B4 c4 d4 A5 B5 c5 d5 _ HA45.out HB45.out HA5.out HB5.out HLN.out.1 HLN.out.2).mono ?_
        rintro e w6 ⟨rfl, hx6⟩
        have HX6 := Lib.hid ((HX5.out.trans (Ext.new _ _)).trans hx6)
        clear hx6
        go_wp2_with fail
        refine (lawAwake _ (HE.out.ext HX6.out)).mono ?_
        rintro e w7 ⟨rfl, hx7⟩
        go_wp2_with fail
        go_ret
        exact ⟨rfl, HX6.out.trans hx7⟩
end Go.Proofs.YteeampgbmpolfaaGreatDoor

/- From a row's reading to what the walks take: statements as arguments, the library's variables, and the row's last step. -/
namespace Go.Proofs.YteeampgbmpolfaaGreatDoor
open Go.ChangeShapes Go.WideShapes Go.ChangeAt Go.RowKit Go.Deep Go.Joins

theorem list_of {α : Type} [Inhabited α] (n : Nat) (Q : Nat → α → Prop) (h : ∀ i, i < n → ∃ a, Q i a) : ∃ xs : List α, xs.length = n ∧ ∀ (i : Nat) (hi : i < xs.length), Q i (xs[i]'hi) := by
  induction n with
  | zero => exact ⟨[], rfl, fun i hi => absurd hi (by simp)⟩
  | succ n ih =>
    obtain ⟨xs, hl, hx⟩ := ih (fun i hi => h i (by omega))
    obtain ⟨a, ha⟩ := h n (by omega)
    refine ⟨xs ++ [a], by simp [hl], fun i hi => ?_⟩
    rcases Nat.lt_or_ge i xs.length with h1 | h1
    · rw [List.getElem_append_left h1]; exact hx i h1
    · have : i = n := by simp at hi; omega
      subst this
      rw [List.getElem_append_right h1]
      simpa [hl] using ha
section
variable {H : Type} {enc : TypeId × Value → H} {P : Program} {w : World} {base : Nat} {spare : Nat → Bool} {held : Bool}
/-- a slice that came in, element by element, whatever its elements are -/
theorem open_list {α : Type} [Inhabited α] (f : α → List Value) (k : Nat) (hk : 0 < k) (hf : ∀ a, (f a).length = k) {t e : TypeId} {fuel : Nat} {cs : List Value} {x : DataW H × List MemPlace} (ht : P.underlying t = some (.slice e)) (hC : P.cellsOf e = k)
    (ho : ∀ n cs' y, DataW.trod enc P w base spare held n e cs' = some y → ∃ a, cs' = f a) (h : DataW.trod enc P w base spare held fuel t cs = some x) :
    ∃ (A : Option Addr) (c : Nat) (xs : List α), cs = [.slice A xs.length c] ∧ Reads w k A xs.length (xs.flatMap f) ∧ xs.length ≤ c ∧ (xs = [] ∨ ∃ el sp, x.1 = .slice el sp ∧ el.length = xs.length) := by
  rcases open_slice ht h with ⟨rfl, _⟩ | ⟨a, len, cap, m, n, D, Pl, rfl, _, hlc, _, hm, hx, hi⟩
  · exact ⟨none, 0, [], rfl, Reads.nil, Nat.le_refl _, .inl rfl⟩
  · have hml : len ≤ m := by rw [hm]; split <;> omega
    obtain ⟨xs, hl, hq⟩ := list_of len (fun i b => ∀ j, j < k → w.cell? (a.add (i * k + j)) = (f b)[j]?) (fun i hlt => by
      obtain ⟨cs', hc, ht'⟩ := hi i (by omega)
      obtain ⟨b, rfl⟩ := ho _ _ _ ht'
      obtain ⟨_, hcl, hat⟩ := World.cells?_some hc
      rw [hC] at hat
      exact ⟨b, fun j hj => by rw [← hat j hj, Go.Deep.add_add]⟩)
    subst hl
    refine ⟨some a, cap, xs, rfl, ⟨flat_len f k hf xs, fun hn => ?_⟩, hlc, .inr ⟨_, _, by rw [hx], by simp⟩⟩
    have h00 := hq 0 hn 0 hk
    rw [Nat.zero_mul, Nat.zero_add] at h00
    have h0 : w.cell? a = (f (xs[0]'hn))[0]? := h00
    have hl0 : 0 < (f (xs[0]'hn)).length := by rw [hf]; exact hk
    rw [List.getElem?_eq_getElem hl0] at h0
    obtain ⟨b, o, sp⟩ := a
    have hsp : sp = none ∧ b < w.heap.size := by
      unfold World.cell? at h0
      cases hb : w.heap[b]? with
      | none => simp [hb] at h0
      | some ob =>
        have hlt := (Array.getElem?_eq_some_iff.1 hb).1
        cases sp with
        | none => exact ⟨rfl, hlt⟩
        | some q =>
          exfalso
          simp only [hb] at h0
          cases ob <;> simp at h0
    obtain ⟨rfl, hlt⟩ := hsp
    refine ⟨b, o, rfl, hlt, fun j u hu => ?_⟩
    have hj : j < xs.length * k := by
      have := (List.getElem?_eq_some_iff.1 hu).1; rw [flat_len f k hf xs] at this; exact this
    have hjk : j / k < xs.length := (Nat.div_lt_iff_lt_mul hk).2 hj
    have he : j = (j / k) * k + j % k := by have := Nat.div_add_mod j k; rw [Nat.mul_comm] at this; omega
    have h1 := flat_at f k hf xs (j / k) (j % k) hjk (Nat.mod_lt _ hk)
    rw [← he, hu] at h1
    have h2 := hq (j / k) hjk (j % k) (Nat.mod_lt _ hk)
    rw [← he, ← h1] at h2
    rw [← h2]
    unfold Addr.add
    rcases Nat.eq_zero_or_pos j with h0 | h0
    · subst h0; rfl
    · rw [if_neg (by omega)]
theorem open_hd {t ti tq : TypeId} {n : Nat} {cs : List Value} {y : DataW H × List MemPlace} {f0 f1 : Field} (hs : P.underlying t = some (.struct #[f0, f1])) (hone : oneCellFields P #[f0, f1] = true) (hC : P.cellsOf t = 2) (h0 : f0.type = ti) (h1 : f1.type = tq)
    (hi : P.underlying ti = some .string) (hq : P.underlying tq = some .string) (h : DataW.trod enc P w base spare held n t cs = some y) : ∃ a : Hd, cs = [.string (bs a.ins), .string (bs a.qty)] := by
  obtain ⟨xs, n, _, _, hlen, hl, hg⟩ := DataW.trod_struct hs h
  rw [hC] at hlen
  obtain ⟨o0, k0⟩ := hone_of hone 0 f0 rfl
  obtain ⟨o1, k1⟩ := hone_of hone 1 f1 rfl
  match cs, hlen, xs, hl with
  | [c0, c1], _, [y0, y1], _ =>
    have g0 := hg 0 f0 rfl
    have g1 := hg 1 f1 rfl
    rw [o0, k0, h0] at g0
    rw [o1, k1, h1] at g1
    obtain ⟨s0, e0, _⟩ := DataW.trod_string hi (x := y0) (by simpa using g0)
    obtain ⟨s1, e1, _⟩ := DataW.trod_string hq (x := y1) (by simpa using g1)
    simp at e0 e1
    subst e0; subst e1
    exact ⟨⟨L s0, L s1⟩, by simp only [bs_L]⟩
theorem open_mv {t tr td ti tq ta : TypeId} {n : Nat} {cs : List Value} {y : DataW H × List MemPlace} {f0 f1 f2 f3 f4 : Field} (hs : P.underlying t = some (.struct #[f0, f1, f2, f3, f4])) (hone : oneCellFields P #[f0, f1, f2, f3, f4] = true) (hC : P.cellsOf t = 5)
    (h0 : f0.type = tr) (h1 : f1.type = td) (h2 : f2.type = ti) (h3 : f3.type = tq) (h4 : f4.type = ta)
    (hr : P.underlying tr = some .string) (hd : P.underlying td = some (.int .i64)) (hi : P.underlying ti = some .string) (hq : P.underlying tq = some .string) (ha : P.underlying ta = some .string) (h : DataW.trod enc P w base spare held n t cs = some y) :
    ∃ a : Mv, cs = [.string (bs a.ref), .int .i64 a.day, .string (bs a.ins), .string (bs a.qty), .string (bs a.amt)] := by
  obtain ⟨xs, n, _, _, hlen, hl, hg⟩ := DataW.trod_struct hs h
  rw [hC] at hlen
  obtain ⟨o0, k0⟩ := hone_of hone 0 f0 rfl
  obtain ⟨o1, k1⟩ := hone_of hone 1 f1 rfl
  obtain ⟨o2, k2⟩ := hone_of hone 2 f2 rfl
  obtain ⟨o3, k3⟩ := hone_of hone 3 f3 rfl
  obtain ⟨o4, k4⟩ := hone_of hone 4 f4 rfl
  match cs, hlen, xs, hl with
  | [c0, c1, c2, c3, c4], _, [y0, y1, y2, y3, y4], _ =>
    have g0 := hg 0 f0 rfl
    have g1 := hg 1 f1 rfl
    have g2 := hg 2 f2 rfl
    have g3 := hg 3 f3 rfl
    have g4 := hg 4 f4 rfl
    rw [o0, k0, h0] at g0
    rw [o1, k1, h1] at g1
    rw [o2, k2, h2] at g2
    rw [o3, k3, h3] at g3
    rw [o4, k4, h4] at g4
    obtain ⟨s0, e0, _⟩ := DataW.trod_string hr (x := y0) (by simpa using g0)
    obtain ⟨s1, e1, _⟩ := DataW.trod_int hd (x := y1) (by simpa using g1)
    obtain ⟨s2, e2, _⟩ := DataW.trod_string hi (x := y2) (by simpa using g2)
    obtain ⟨s3, e3, _⟩ := DataW.trod_string hq (x := y3) (by simpa using g3)
    obtain ⟨s4, e4, _⟩ := DataW.trod_string ha (x := y4) (by simpa using g4)
    simp at e0 e1 e2 e3 e4
    subst e0; subst e1; subst e2; subst e3; subst e4
    exact ⟨⟨L s0, s1, L s2, L s3, L s4⟩, by simp only [bs_L]⟩
end
/-- below the heap's old size nothing has turned: all arguments read as they did -/
theorem trodAll_stays {H : Type} {enc : TypeId × Value → H} {P : Program} (hl : laidOutB P = true) {W W' : World} (hb : Below W.heap.size W W') {sp : Nat → Bool} :
    ∀ {ts : List TypeId} {vs : List Value} {ds : List (DataW H)} {ps : List MemPlace}, (ts.all fun t => P.readableRec t && decide (t < P.types.size)) = true → DataW.TrodAll enc P W 0 (fun _ => true) true ts vs ds ps → (∀ p ∈ ps, p.block < W.heap.size) → (∀ p ∈ ps, sp p.block = true) →
      DataW.TrodAll enc P W' 0 sp true ts vs ds ps
  | [], vs, ds, ps, _, h, _, _ => by
    obtain ⟨rfl, rfl, rfl⟩ := trodAll_nil h
    exact trodAll_mk0
  | t :: ts, vs, ds, ps, hr, h, h1, h2 => by
    obtain ⟨v0, vs0, d0, ds0, p0, q0, rfl, rfl, rfl, h0, r0⟩ := trodAll_cons h
    simp only [List.all_cons, Bool.and_eq_true, decide_eq_true_eq] at hr
    refine trodAll_cons_mk (WideElems.Trod_stays hl hr.1.1 hr.1.2 h0 (fun x hx => hb.same (h1 x (by simp [hx]))) (fun x hx => h2 x (by simp [hx]))) ?_
    exact trodAll_stays hl hb (by simpa using hr.2) r0 (fun p hp => h1 p (by simp [hp])) (fun p hp => h2 p (by simp [hp]))
/-- THE ROW's LAST STEP OF A LAW: it has returned true, and what lay in memory lies as it did -/
theorem post_law {H : Type} {enc : TypeId × Value → H} {P : Program} {f : Func} {s : ChangeSpec} {apart fresh handsOn again : Bool} {W W' : World} {args : Array Value} {tb : TypeId} {ds gs : List (DataW H)} {before : List MemPlace}
    (hl : laidOutB P = true) (hts : (f.params.toList.all fun t => P.readableRec t && decide (t < P.types.size)) = true) (hrt : f.resultTypes = #[tb]) (hbt : P.underlying tb = some .bool) (hvs : s.vars = [])
    (hW : DataW.Whole enc P f.params.toList s.vars apart W args.toList ds gs before) (hsr : (s.fn H (ds ++ gs)).results = [.lit (.bool true)]) (hsa : (s.fn H (ds ++ gs)).args = ds) (hsv : (s.fn H (ds ++ gs)).vars = []) (hb : Below W.heap.size W W') :
    s.post enc P f apart fresh handsOn again W args (.bool true) W' := by
  have hlt : ∀ p ∈ before, p.block < W.heap.size := fun p hp => hW.lt p hp
  have hold : ∀ p ∈ before, (fun b => decide (b < W.heap.size)) p.block = true := fun p hp => by simpa using hlt p hp
  have hW0 := hW
  obtain ⟨pa, pv, hA, hV, hpp, hz, hn⟩ := hW0
  rw [hvs] at hV
  obtain ⟨rfl, rfl⟩ := trodVars_none hV
  rw [List.append_nil] at hpp
  subst hpp
  have hres : ∀ (b : Nat) (sp : Nat → Bool) (hd : Bool), DataW.TrodAll enc P W' b sp hd f.resultTypes.toList ((Value.bool true).resultList f.resultTypes.size) (s.fn H (ds ++ [])).results [] := by
    intro b sp hd; rw [hrt, hsr]; exact trodAll_cons_mk (shut_bool hbt _) trodAll_mk0
  have hargs : ∀ sp : Nat → Bool, (∀ p ∈ before, sp p.block = true) → DataW.TrodAll enc P W' 0 sp true f.params.toList args.toList (s.fn H (ds ++ [])).args before := by
    intro sp hsp; rw [hsa]; exact trodAll_stays hl hb hts hA hlt hsp
  have hvars : ∀ sp : Nat → Bool, DataW.TrodVars enc P W' sp s.vars (s.fn H (ds ++ [])).vars [] := by
    intro sp; rw [hvs, hsv]; exact rfl
  have hok : ∀ (j : Nat) (t : TypeId) (r : Value), f.resultTypes[j]? = some t → ((Value.bool true).resultList f.resultTypes.size)[j]? = some r → Value.okWide P W' .any 0 t r :=
    ok_one hrt rfl (okWide_bool_mk hbt _)
  refine ⟨ds, [], before, [], before, [], hW, hres _ _ _, hargs _ hold, hvars _, World.keptBut_mono (fun p hp => ⟨hp, Or.inr (by simpa using hp)⟩) (hb.frame (· ∈ before)), fun _ => ⟨hok, _, _, ([] ++ before) ++ [], ⟨[] ++ before, [], trodAll_append (hargs _ (fun _ _ => rfl)) (hres _ _ _), hvars _, rfl, ?_, ?_⟩, ?_⟩⟩
  · intro b off hp
    have hin : MemPlace.cell b off ∈ before := by simpa using hp
    rw [hb.frozen (hlt _ hin)]
    exact hz b off hin
  · intro ha
    simpa using hn ha
  · intro p hp _
    simpa using hp
end Go.Proofs.YteeampgbmpolfaaGreatDoor

/- A statement as an argument of a row, and the library's variables. -/
namespace Go.Proofs.YteeampgbmpolfaaGreatDoor
open Go.ChangeShapes Go.WideShapes Go.ChangeAt Go.RowKit Go.Deep Go.Joins

instance : Inhabited Hd := ⟨⟨[], []⟩⟩
instance : Inhabited Mv := ⟨⟨[], 0, [], [], []⟩⟩
set_option maxRecDepth 100000 in
theorem list_small {H : Type} {P : Program} {t e : TypeId} {α : Type} {xs : List α} {d : DataW H} (ht : P.underlying t = some (.slice e)) (hb : 0 < P.bytesOf e) (hw : (d.weights P t).all (· ≤ reachBytes) = true) (hx : xs = [] ∨ ∃ el sp, d = .slice el sp ∧ el.length = xs.length) : xs.length ≤ 4611686018427387904 := by
  rcases hx with rfl | ⟨el, sp, rfl, hl⟩
  · simp
  · simp only [DataW.weights, ht, List.all_cons, Bool.and_eq_true, decide_eq_true_eq] at hw
    have h1 : el.length * 1 ≤ (el.length + sp.length) * P.bytesOf e := Nat.mul_le_mul (by omega) hb
    have h2 : reachBytes ≤ 4611686018427387904 := by decide
    omega
set_option maxRecDepth 100000 in
theorem open_st {H : Type} {enc : TypeId × Value → H} {W : World} {r : Reach} {b0 base : Nat} {spare : Nat → Bool} {held : Bool} {v : Value} {d : DataW H} {p : List MemPlace} (hv : Value.okWide Tryz.prog W r b0 26 v) (h : DataW.Trod enc Tryz.prog W base spare held 26 v d p)
    (hw : (d.weights Tryz.prog 26).all (· ≤ reachBytes) = true) :
    ∃ (s : St) (A B : Option Addr) (c e : Nat), v = .agg #[.int .i64 s.day, .slice A s.hs.length c, .slice B s.ms.length e] ∧ RdH W A s.hs ∧ RdM W B s.ms ∧ s.hs.length ≤ 4611686018427387904 ∧ s.ms.length ≤ 4611686018427387904 := by
  obtain ⟨v0, v1, v2, y0, y1, y2, n, rfl, rfl, rfl, g0, g1, g2⟩ := open_agg3 Tryz.underlying26 (by kernel_rfl) (by kernel_rfl) hv h
  obtain ⟨z, e0, _, _⟩ := DataW.trod_int Tryz.underlying22 g0
  obtain ⟨A, c, hs, e1, hA, _, hx1⟩ := open_list (α := Hd) (fun h => [.string (bs h.ins), .string (bs h.qty)]) 2 (by decide) (fun _ => rfl) Tryz.underlying23 (by kernel_rfl) (fun n cs y hy => open_hd Tryz.underlying45 (by kernel_rfl) (by kernel_rfl) rfl rfl Tryz.underlying9 Tryz.underlying43 hy) g1
  obtain ⟨B, c2, ms, e2, hB, _, hx2⟩ := open_list (α := Mv) (fun m => [.string (bs m.ref), .int .i64 m.day, .string (bs m.ins), .string (bs m.qty), .string (bs m.amt)]) 5 (by decide) (fun _ => rfl) Tryz.underlying24 (by kernel_rfl) (fun n cs y hy => open_mv Tryz.underlying50 (by kernel_rfl) (by kernel_rfl) rfl rfl rfl rfl rfl Tryz.underlying9 Tryz.underlying22 Tryz.underlying9 Tryz.underlying43 Tryz.underlying43 hy) g2
  simp only [List.cons.injEq, and_true] at e0 e1 e2
  subst e0; subst e1; subst e2
  simp only [DataW.weights, Tryz.underlying26, DataW.weightsEach, List.map_cons, List.map_nil, List.append_nil, List.all_append, Bool.and_eq_true] at hw
  exact ⟨⟨z, hs, ms⟩, A, B, c, c2, rfl, hA, hB, list_small Tryz.underlying23 (by rw [show Tryz.prog.bytesOf 45 = 32 by kernel_rfl]; decide) hw.2.1 hx1, list_small Tryz.underlying24 (by rw [show Tryz.prog.bytesOf 50 = 72 by kernel_rfl]; decide) hw.2.2 hx2⟩
theorem own : ownKnob Tryz.prog.godebug = none := by kernel_rfl
theorem laidOut : laidOutB Tryz.prog = true := by kernel_rfl
theorem block_of_cell {w : World} {p : Addr} {u : Value} (h : w.cell? p = some u) : p.block < w.heap.size := by
  unfold World.cell? at h
  cases hb : w.heap[p.block]? with
  | none => simp [hb] at h
  | some o => exact (Array.getElem?_eq_some_iff.1 hb).1
set_option maxRecDepth 100000 in
/-- WHAT THE ROW's LIST AND THE WORLD's SHAPE GIVE -/
theorem env_of {W : World} {x y : String × DataW Unit} {rest : List (String × DataW Unit)} (h : laidMet Tryz.prog (x :: y :: ("internal/strconv.uint64pow10", Rows.laid_internal_strconv_uint64pow10) :: rest) W) (hsh : W.ShapedOpen Tryz.prog) : Env W := by
  have h1 : Lib.TabIs Tryz.prog W "internal/strconv.uint64pow10" .u64 Lib.pow10Tab :=
    Lib.tabIs_of_head (rest := rest) (g := 5) (by kernel_rfl) (by kernel_rfl) Tryz.underlying238 Tryz.underlying143 (by kernel_rfl) (by kernel_rfl) h.tail.tail
  have h2 : ∃ m, W.cell? ⟨0, 0, none⟩ = some (.int .i64 m) :=
    cell_of_shapedOpen_int (zero := #[.int .i64 0]) hsh (by decide +kernel) (by kernel_rfl) (by kernel_rfl) (by kernel_rfl) (by kernel_rfl) Tryz.underlying3
  have h3 := h1.cell (g := 5) (by kernel_rfl) 0 (by decide)
  refine ⟨h1, h2, block_of_cell h3, ?_⟩
  obtain ⟨m, hm⟩ := h2
  exact block_of_cell hm
end Go.Proofs.YteeampgbmpolfaaGreatDoor
