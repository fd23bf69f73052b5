/- The walk over the program's Parse of a statement. -/
import Derived.Test.YteeampgbmpolfaaGreatDoorLines
import Derived.Test.YteeampgbmpolfaaGreatDoorResS3
import Derived.Test.YteeampgbmpolfaaGreatDoorCheckS
namespace Go.Proofs.YteeampgbmpolfaaGreatDoor
open Go.RowKit Go.Shelf
attribute [local go_sem] size_bs toList_bs extract_bs get_bs append_bs lit_append append_lit Oper.semAt_some

theorem Blk.newAt (w : World) (t : TypeId) (cs : Array Value) (g : Nat) (hg : w.heap.size = g) : Blk (w.alloc (.cells cs t)) g t cs := by subst hg; exact Blk.new w t cs
theorem newAt (w : World) (o : Obj) (g : Nat) (hg : w.heap.size = g) : (w.alloc o).heap[g]? = some o := by subst hg; exact heap_alloc_new w o
theorem dfar {W : World} {d g i : Nat} {o : Obj} {u : Value} (h : W.heap[d]? = some o) (hne : d ≠ g) : (W.setCell ⟨g, i, none⟩ u).heap[d]? = some o := (Below.heap_setCell W ⟨g, i, none⟩ u d hne).trans h
theorem Blk.belG {base g g' : Nat} {w w' : World} {t : TypeId} {cs : Array Value} (h : Blk w g' t cs) (hb : BelG base g w w') (h1 : g' < base) (h2 : g' ≠ g) : Blk w' g' t cs := (hb.block g' h1 h2).trans h
theorem Ext.belG {base g : Nat} {a w w' : World} (h : Ext a w) (hb : BelG base g w w') (h1 : a.heap.size ≤ base) (h2 : a.heap.size ≤ g) : Ext a w' :=
  ⟨hb.os.trans h.os, hb.tape.trans h.tape, hb.output.trans h.output, Nat.le_trans h.size hb.size, fun i hi => (hb.block i (by omega) (by omega)).trans (h.block i hi)⟩
theorem zip2 (p q : Tmp) (x y : Value) (T : Array Value) : ((#[p, q] : Array Tmp).zip #[x, y]).foldl (fun tmps (t, a) => tmps.setIfInBounds t a) T = (T.setIfInBounds p x).setIfInBounds q y := by simp [Array.zip]
theorem PAt.put {t : Bs} {w : World} {lp lp' : Loop} {rest : Bs} {k : Nat} {s : St} {W : World} (h : PAt t w lp rest k s W) : PAt t w lp' rest k s (W.putObj (w.heap.size + 1 + 1 + 1 + 1 + 1 + 1 + 1) (.loop lp')) :=
  ⟨h.same, h.hs, h.ms, h.sized, h.len, h.st.put (by omega) (by omega) _, h.ext.putObj (by omega) _, by have := h.big; simpa using this, h.r0.put _ (by omega), h.r1.put _ (by omega), h.r2.put _ (by omega), h.n.put _ (by omega), h.box.put _ (by omega), (World.putObj_heap_other (by omega)).trans h.D, World.putObj_heap_same (by have := h.big; omega)⟩
theorem PAt.drewN {t : Bs} {w : World} {lp : Loop} {rest : Bs} {k : Nat} {s : St} {W : World} (h : PAt t w lp rest k s W) (n : Nat) : PAt t w lp rest k s (W.drewN n) :=
  ⟨h.same, h.hs, h.ms, h.sized, h.len, h.st.ext ((Ext.refl W).drewN n), h.ext.drewN n, h.big, h.r0.drewN n, h.r1.drewN n, h.r2.drewN n, h.n.drewN n, h.box.drewN n, h.D, h.L⟩
theorem SmallS.of {s : St} {k : Nat} (h1 : s.hs.length ≤ k) (h2 : s.ms.length ≤ k) (h3 : Sized 100000 s) (hk : k ≤ 100000) : SmallS s := by
  refine ⟨by omega, by omega, fun x hx => ?_, fun x hx => ?_⟩
  · have := h3.1 x hx; unfold SmallH; omega
  · have := h3.2 x hx; unfold SmallM; omega

theorem PAt.mid {t : Bs} {w : World} {lb : Loop} {rest : Bs} {k : Nat} {s : St} {Wb w5 : World} (h : PAt t w lb rest k s Wb)
    (hB : BelG (w.heap.size + 1 + 1 + 1 + 1 + 1 + 1 + 1 + 1) (w.heap.size + 1 + 1 + 1) (Wb.setCell ⟨w.heap.size + 1 + 1 + 1 + 1, 0, none⟩ (.int .i64 ((k : Int) + 1))) w5) :
    Ext w w5 ∧ Blk w5 w.heap.size 26 #[.int .i64 0, .slice none 0 0, .slice none 0 0] ∧ Blk w5 (w.heap.size + 1) 3 #[.int .i64 0] ∧ Blk w5 (w.heap.size + 1 + 1) 29 #[.int .i64 0] ∧ Blk w5 (w.heap.size + 1 + 1 + 1 + 1) 3 #[.int .i64 ((k : Int) + 1)] ∧ Blk w5 (w.heap.size + 1 + 1 + 1 + 1 + 1) 9 #[.string (bs rest)] ∧
    w5.heap[w.heap.size + 1 + 1 + 1 + 1 + 1 + 1]? = some (.deferred (some [])) ∧ w5.heap[w.heap.size + 1 + 1 + 1 + 1 + 1 + 1 + 1]? = some (.loop lb) := by
  refine ⟨Ext.belG (h.ext.setCell (by dsimp only; omega) _) hB (by omega) (by omega), (h.r0.far (by dsimp only; omega) _).belG hB (by omega) (by omega), (h.r1.far (by dsimp only; omega) _).belG hB (by omega) (by omega), (h.r2.far (by dsimp only; omega) _).belG hB (by omega) (by omega), (h.n.set_ 0 _).belG hB (by omega) (by omega), (h.box.far (by dsimp only; omega) _).belG hB (by omega) (by omega), ?_, ?_⟩
  · exact (hB.block _ (by omega) (by omega)).trans (dfar h.D (by omega))
  · exact (hB.block _ (by omega) (by omega)).trans (dfar h.L (by omega))
theorem PAt.next {t : Bs} {w : World} {lb lp : Loop} {rest p r : Bs} {k : Nat} {s s' : St} {Wb w5 : World} (h : PAt t w lb rest k s Wb) (hr : p.length + 1 + r.length = rest.length) (hsame : resL t = goLines s' (k + 1) (splitOn 10 r)) (hz : Sized 100000 s' ∧ s'.hs.length ≤ s.hs.length + 1 ∧ s'.ms.length ≤ s.ms.length + 1)
    (hS : StAt w5 (w.heap.size + 1 + 1 + 1 + 1 + 1 + 1 + 1 + 1) (w.heap.size + 1 + 1 + 1) 81 (moreB true) s')
    (hB : BelG (w.heap.size + 1 + 1 + 1 + 1 + 1 + 1 + 1 + 1) (w.heap.size + 1 + 1 + 1) (Wb.setCell ⟨w.heap.size + 1 + 1 + 1 + 1, 0, none⟩ (.int .i64 ((k : Int) + 1))) w5) :
    Blk (w5.putObj (w.heap.size + 1 + 1 + 1 + 1 + 1 + 1 + 1) (.loop lp)) (w.heap.size + 1 + 1 + 1 + 1 + 1) 9 #[.string (bs rest)] ∧
    PAt t w lp r (k + 1) s' ((w5.putObj (w.heap.size + 1 + 1 + 1 + 1 + 1 + 1 + 1) (.loop lp)).setCell ⟨w.heap.size + 1 + 1 + 1 + 1 + 1, 0, none⟩ (.string (bs r))) := by
  obtain ⟨hx, h0, h1, h2, hn, hbx, hD, hL⟩ := h.mid hB
  have hhs := h.hs
  have hms := h.ms
  have hlen := h.len
  have hbig := h.big
  have hb5 := hB.size
  simp only [World.size_setCell] at hb5
  have hbx' := hbx.put (l := w.heap.size + 1 + 1 + 1 + 1 + 1 + 1 + 1) (.loop lp) (by omega)
  refine ⟨hbx', ⟨hsame, by omega, by omega, hz.1, by omega, ?_, (hx.putObj (by omega) _).setCell (by dsimp only; omega) _, ?_, ?_, ?_, ?_, ?_, hbx'.set_ 0 _, ?_, ?_⟩⟩
  · rw [show (!(k + 1 == 0)) = true by simp]
    exact (hS.put (by omega) (by omega) _).set_low (by omega) (by omega) _
  · simp only [World.size_setCell, World.putObj_size]; omega
  · exact (h0.put _ (by omega)).far (by dsimp only; omega) _
  · exact (h1.put _ (by omega)).far (by dsimp only; omega) _
  · exact (h2.put _ (by omega)).far (by dsimp only; omega) _
  · rw [show (((k + 1 : Nat) : Int)) = (k : Int) + 1 by omega]
    exact (hn.put _ (by omega)).far (by dsimp only; omega) _
  · exact dfar ((World.putObj_heap_other (by omega)).trans hD) (by omega)
  · exact dfar (World.putObj_heap_same (Array.getElem?_eq_some_iff.1 hL).1) (by omega)
theorem gen_world {p : World → Prop} {W : World} (h : ∀ Y, Y = W → p Y) : p W := h W rfl
theorem drew_heap {W : World} {d : Nat} {o : Obj} (h : W.heap[d]? = some o) : W.drew.heap[d]? = some o := h
theorem PBad.of {t : Bs} {w X : World} {lb lp' : Loop} {n : Int} (hne : n ≠ 0) (hn : (resL t).2 = n) (hx : Ext w X) (h0 : Blk X w.heap.size 26 #[.int .i64 0, .slice none 0 0, .slice none 0 0]) (h1 : Blk X (w.heap.size + 1) 3 #[.int .i64 0]) (h2 : Blk X (w.heap.size + 1 + 1) 29 #[.int .i64 0])
    (hD : X.heap[w.heap.size + 1 + 1 + 1 + 1 + 1 + 1]? = some (.deferred (some []))) (hL : X.heap[w.heap.size + 1 + 1 + 1 + 1 + 1 + 1 + 1]? = some (.loop lb)) {Y : World}
    (hY : Y = (((((X.setCell ⟨w.heap.size, 0, none⟩ (.int .i64 0)).setCell ⟨w.heap.size, 1, none⟩ (.slice none 0 0)).setCell ⟨w.heap.size, 2, none⟩ (.slice none 0 0)).setCell ⟨w.heap.size + 1, 0, none⟩ (.int .i64 n)).setCell ⟨w.heap.size + 1 + 1, 0, none⟩ (.int .i64 3)).drew) :
    Y.heap[w.heap.size + 1 + 1 + 1 + 1 + 1 + 1 + 1]? = some (.loop lb) ∧ PBad t w lp' (Y.putObj (w.heap.size + 1 + 1 + 1 + 1 + 1 + 1 + 1) (.loop lp')) := by
  subst hn
  have hLY : Y.heap[w.heap.size + 1 + 1 + 1 + 1 + 1 + 1 + 1]? = some (.loop lb) := by
    rw [hY]; exact drew_heap (dfar (dfar (dfar (dfar (dfar hL (by omega)) (by omega)) (by omega)) (by omega)) (by omega))
  refine ⟨hLY, hne, ?_, ?_, ?_, ?_, ?_, World.putObj_heap_same (Array.getElem?_eq_some_iff.1 hLY).1⟩
  all_goals subst hY
  · exact ((((((hx.setCell (by simp) _).setCell (by simp) _).setCell (by simp) _).setCell (by simp) _).setCell (by simp; omega) _).drew).putObj (by omega) _
  · exact (((((((h0.set_ 0 _).set_ 1 _).set_ 2 _).far (p := ⟨w.heap.size + 1, 0, none⟩) (by simp) _).far (p := ⟨w.heap.size + 1 + 1, 0, none⟩) (by simp; omega) _)).drew).put _ (by omega)
  · exact ((((((h1.far (by simp) _).far (by simp) _).far (by simp) _).set_ 0 _).far (p := ⟨w.heap.size + 1 + 1, 0, none⟩) (by simp) _).drew).put _ (by omega)
  · exact ((((((h2.far (by simp; omega) _).far (by simp; omega) _).far (by simp; omega) _).far (by simp) _).set_ 0 _).drew).put _ (by omega)
  · exact (World.putObj_heap_other (by omega)).trans (drew_heap (dfar (dfar (dfar (dfar (dfar hD (by omega)) (by omega)) (by omega)) (by omega)) (by omega)))

set_option maxRecDepth 100000 in
set_option maxHeartbeats 4000000 in
theorem stParse (t : Bs) (w : World) (ht : t.length ≤ 1000000000) (hE : Env w) :
    Calls Tryz.prog 13 #[.string (bs t)] w (ParseEnds (parseSt t) (parseSN t) (parseSE t) w) := by
  have hfn : ∀ k, Fence.wide.fn k := fun _ => trivial
  have hdp : Fence.wide.depth.isSome = false := rfl
  refine (callsIn_wide (n := 5)).1 ?_
  by_cases hbig : 65536 < t.length
  · have H1 : Hid (parseSt t = zeroS ∧ parseSN t = 0 ∧ parseSE t = 4) := Lib.hid (by unfold parseSt parseSN parseSE; simp [hbig])
    rw [H1.out.1, H1.out.2.1, H1.out.2.2]
    refine callsIn_of_wp_marks Tryz.func13 rfl trivial ?_ rfl
    simp only [Tryz.ntmps13, List.size_toArray, List.length_cons, List.length_nil, Nat.reduceAdd, Nat.reduceSub, Array.replicate_succ, Array.replicate_zero, List.push_toArray, List.append_toArray, List.nil_append, List.cons_append]
    gi_wp2
    refine ⟨_, results_st3 rfl _ _ _ _ _ _ _ _ _ _ rfl (((Blk.newAt _ _ _ _ rfl).alloc _).alloc _) rfl ((Blk.newAt _ _ _ _ (by simp)).alloc _) rfl (Blk.newAt _ _ _ _ (by simp)), ?_⟩
    exact ParseEnds.zero (((Ext.new w _).alloc _).alloc _)
  · have H1 : Hid ((resL t).2 ≠ 0 → parseSt t = zeroS ∧ parseSN t = (resL t).2 ∧ parseSE t = 3) := Lib.hid (by unfold parseSt parseSN parseSE; intro h; simp [hbig, h])
    have H2 : Hid ((resL t).2 = 0 → checkS (resL t).1 ≠ 0 → parseSt t = zeroS ∧ parseSN t = 0 ∧ parseSE t = checkS (resL t).1) := Lib.hid (by unfold parseSt parseSN parseSE; intro h h'; simp [hbig, h, h'])
    have H3 : Hid ((resL t).2 = 0 → checkS (resL t).1 = 0 → parseSt t = (resL t).1 ∧ parseSN t = 0 ∧ parseSE t = 0) := Lib.hid (by unfold parseSt parseSN parseSE; intro h h'; simp [hbig, h, h'])
    generalize hR : parseSt t = R at *
    generalize hN : parseSN t = N at *
    generalize hE' : parseSE t = E at *
    clear hR hN hE'
    refine callsIn_of_wp_marks Tryz.func13 rfl trivial ?_ rfl
    simp only [Tryz.ntmps13, List.size_toArray, List.length_cons, List.length_nil, Nat.reduceAdd, Nat.reduceSub, Array.replicate_succ, Array.replicate_zero, List.push_toArray, List.append_toArray, List.nil_append, List.cons_append]
    gi_wp2_with (gi_at_call 48; refine (callsIn_wide.2 (stLines t _)).mono ?_; rintro e w1 ⟨rfl, rfl⟩)
    refine range_outer' rfl (by omega) (w.heap.size + 1 + 1 + 1 + 1 + 1 + 1) (by simp) rfl trivial (fun _ _ => by rfl) ?_
    intro fn lp W1 hlp hW1 _
    refine (stLines1 _ (w.heap.size + 1 + 1 + 1 + 1 + 1 + 1 + 1) (w.heap.size + 1 + 1 + 1 + 1 + 1) (fun rest W => ∃ k s, PAt t w lp rest k s W) (PBad t w { lp with state := .done, pending := some .ret }) ?hJ ?hY t _ ?h0).mono ?_
    case hJ =>
      rintro rest W ⟨k, s, h⟩
      have := h.len
      exact ⟨h.box.cell 0, hE.ext h.ext, by omega⟩
    case h0 =>
      refine ⟨0, zeroS, rfl, by simp [zeroS], by simp [zeroS], by simp [Sized, zeroS], by omega, ?_, ?_, ?_, ?_, ?_, ?_, ?_, ?_, ?_, ?_⟩
      all_goals subst hW1
      · refine ⟨_, _, ((((Blk.newAt _ _ _ _ (by simp)).alloc _).alloc _).alloc _).alloc _, trivial, ⟨rfl, .inl ⟨rfl, rfl⟩⟩, ⟨rfl, .inl ⟨rfl, rfl⟩⟩⟩
      · exact (((((((Ext.new w _).alloc _).alloc _).alloc _).alloc _).alloc _).alloc _).alloc _
      · simp
      · exact (((((((Blk.newAt _ _ _ _ rfl).alloc _).alloc _).alloc _).alloc _).alloc _).alloc _).alloc _
      · exact ((((((Blk.newAt _ _ _ _ (by simp)).alloc _).alloc _).alloc _).alloc _).alloc _).alloc _
      · exact (((((Blk.newAt _ _ _ _ (by simp)).alloc _).alloc _).alloc _).alloc _).alloc _
      · exact (((Blk.newAt _ _ _ _ (by simp)).alloc _).alloc _).alloc _
      · exact ((Blk.newAt _ _ _ _ (by simp)).alloc _).alloc _
      · exact (Below.heap_alloc _ _ _ (by simp)).trans (newAt _ _ _ (by simp))
      · exact newAt _ _ _ (by simp)
    case hY =>
      rintro rest W kk hne ⟨k, s, h⟩
      have e1 := congrArg Loop.assign hlp
      have e2 := congrArg Loop.body hlp
      have e3 := congrArg Loop.tmps hlp
      have e4 := congrArg Loop.params hlp
      have e5 : { lp with state := .ready, pending := none } = lp := by rw [hlp]; rfl
      obtain ⟨lb, hlb⟩ : ∃ lb, { lp with state := .busy } = lb := ⟨_, rfl⟩
      simp only [recOf] at e1 e2 e3 e4
      refine yield_round' (rec := lp) h.L (by rw [hlp]; rfl) (by rw [hlp]; rfl) trivial e1 e2 e4 e3 (zip2 _ _ _ _ _) hlb ?_
      clear e1 e2 e3 e4 hlp hW1 W1
      have hb := (h.drewN kk).put (lp' := lb)
      have HL0 := Lib.hid (h.drewN kk).L
      clear h
      generalize W.drewN kk = W2 at *
      have HLB := Lib.hid hlb
      have HE5 := Lib.hid e5
      clear hlb e5
      rcases splitOn_first rest with ⟨_, hcut, hsp⟩ | ⟨p, r, hrest, hcut, hsp⟩
      · rw [hcut]
        have HLS : Hid (resL t = (s, (k : Int) + 1)) := Lib.hid (by rw [hb.same, hsp, goLines_one, if_neg (fun hh => hne hh.2)])
        gi_wp2
        refine ⟨HL0.out, ?_⟩
        generalize W2.putObj (w.heap.size + 1 + 1 + 1 + 1 + 1 + 1 + 1) (.loop lb) = Wb at *
        have hk1 := hb.len
        have hn0 := hb.n.cell 0
        have hn1 := hb.n.frozen 0
        have hq0 := hb.r0.cell 0
        have hq1 := hb.r0.cell 1
        have hq2 := hb.r0.cell 2
        have hp0 := hb.r0.frozen 0
        have hp1 := hb.r0.frozen 1
        have hp2 := hb.r0.frozen 2
        have hu0 := hb.r1.cell 0
        have hu1 := hb.r1.frozen 0
        have hv0 := hb.r2.cell 0
        have hv1 := hb.r2.frozen 0
        simp only [List.getElem?_toArray, List.getElem?_cons_zero, List.getElem?_cons_succ] at hn0 hq0 hq1 hq2 hu0 hv0
        have HB := Lib.hid hb
        clear hb
        have hmix : Tryz.prog.follows .mixedOrders = true := by kernel_rfl
        gi_wp2
        have HBAD : ∀ Y, Y = (((((((Wb.setCell ⟨w.heap.size + 1 + 1 + 1 + 1, 0, none⟩ (.int .i64 ((k : Int) + 1))).setCell ⟨w.heap.size, 0, none⟩ (.int .i64 0)).setCell ⟨w.heap.size, 1, none⟩ (.slice none 0 0)).setCell ⟨w.heap.size, 2, none⟩ (.slice none 0 0)).setCell ⟨w.heap.size + 1, 0, none⟩ (.int .i64 ((k : Int) + 1))).setCell ⟨w.heap.size + 1 + 1, 0, none⟩ (.int .i64 3)).drew) → Y.heap[w.heap.size + 1 + 1 + 1 + 1 + 1 + 1 + 1]? = some (.loop lb) ∧ PBad t w { lp with state := .done, pending := some .ret } (Y.putObj (w.heap.size + 1 + 1 + 1 + 1 + 1 + 1 + 1) (.loop { lp with state := .done, pending := some .ret })) := fun Y hY =>
          PBad.of (by omega) (by rw [HLS.out]) (HB.out.ext.setCell (by dsimp only; omega) _) (HB.out.r0.far (by dsimp only; omega) _) (HB.out.r1.far (by dsimp only; omega) _) (HB.out.r2.far (by dsimp only; omega) _) (dfar HB.out.D (by omega)) (dfar HB.out.L (by omega)) hY
        have HBD := Lib.hid HBAD
        clear HBAD
        gi_region_with_o (fail)
        all_goals
          refine gen_world (p := fun Y => Exit.then _ _ _ _ Y) ?_
          intro Y hY
          have HY := Lib.hid (HBD.out Y hY)
          clear hY HBD
          gi_wp2
          refine ⟨by rw [HLB.out]; exact HY.out.1, .inr ⟨rfl, HY.out.2⟩⟩
      · rw [hcut]
        have hrl : p.length + 1 + r.length = rest.length := by rw [hrest]; simp; omega
        have HSP : Hid (resL t = match stepLine s (k == 0) p with | some s' => goLines s' (k + 1) (splitOn 10 r) | none => (s, (k : Int) + 1)) := Lib.hid (by rw [hb.same, hsp, goLines_cons (splitOn_ne 10 r)]; cases stepLine s (k == 0) p <;> rfl)
        gi_wp2
        refine ⟨HL0.out, ?_⟩
        generalize W2.putObj (w.heap.size + 1 + 1 + 1 + 1 + 1 + 1 + 1) (.loop lb) = Wb at *
        have hk1 := hb.len
        have hn0 := hb.n.cell 0
        have hn1 := hb.n.frozen 0
        simp only [List.getElem?_toArray, List.getElem?_cons_zero, List.getElem?_cons_succ] at hn0
        have hsl := hb.hs
        have hsm := hb.ms
        have HB := Lib.hid hb
        have HC := Lib.hid hcut
        clear hb hcut hsp hrest hne
        have hmix : Tryz.prog.follows .mixedOrders = true := by kernel_rfl
        have HST6 : Hid (StAt (Wb.setCell ⟨w.heap.size + 1 + 1 + 1 + 1, 0, none⟩ (.int .i64 ((k : Int) + 1))) (w.heap.size + 1 + 1 + 1 + 1 + 1 + 1 + 1 + 1) (w.heap.size + 1 + 1 + 1) 81 (moreB (!(k == 0))) s) := Lib.hid (HB.out.st.set_low (by omega) (by omega) _)
        have HE6 : Hid (Env (Wb.setCell ⟨w.heap.size + 1 + 1 + 1 + 1, 0, none⟩ (.int .i64 ((k : Int) + 1)))) := Lib.hid (hE.ext (HB.out.ext.setCell (by dsimp only; omega) _))
        cases hst : stepLine s (k == 0) p with
        | some s' =>
          rw [hst] at HSP
          have HSZ := Lib.hid (stepW_sized HB.out.sized (fun q hq => Nat.le_trans (splitOn_mem 32 p q hq) (by omega)) hst)
          have HSTP := Lib.hid hst
          clear hst
          gi_wp2_with (gi_at_call 49; refine (CallsIn.inRound _ (callsIn_wide.2 (stRead s p _ rfl (k == 0) (w.heap.size + 1 + 1 + 1 + 1 + 1 + 1 + 1 + 1) (w.heap.size + 1 + 1 + 1) _ HST6.out (by have := HB.out.big; simpa using this) HE6.out (by omega) (by omega) (by omega)))).mono ?_; rintro e w5 ⟨ok, rfl, hb5, hy, hn⟩; (obtain ⟨rfl, hS5⟩ := hy _ HSTP.out); (have HS5 := Lib.hid hS5); (have HB5 := Lib.hid hb5); clear hy hn hS5 hb5)
          obtain ⟨hbx, hP⟩ := HB.out.next (lp := lp) hrl HSP.out HSZ.out HS5.out HB5.out
          refine ⟨by rw [HLB.out]; exact (HB.out.mid HB5.out).2.2.2.2.2.2.2, ?_⟩
          rw [HE5.out]
          refine .inl ⟨rfl, ?_, hbx.frozen 0, ?_, ⟨k + 1, s', ?_⟩⟩
          · rw [hbx.cell 0]; rfl
          · rw [HC.out]; show r.length < rest.length; omega
          · rw [HC.out]; exact hP
        | none =>
          rw [hst] at HSP
          have HSTP := Lib.hid hst
          clear hst
          gi_wp2_with (gi_at_call 49; refine (CallsIn.inRound _ (callsIn_wide.2 (stRead s p _ rfl (k == 0) (w.heap.size + 1 + 1 + 1 + 1 + 1 + 1 + 1 + 1) (w.heap.size + 1 + 1 + 1) _ HST6.out (by have := HB.out.big; simpa using this) HE6.out (by omega) (by omega) (by omega)))).mono ?_; rintro e w5 ⟨ok, rfl, hb5, hy, hn⟩; (obtain rfl := hn HSTP.out); (obtain ⟨hx5, hB0, hB1, hB2, hBn, _, hBD, hBL⟩ := HB.out.mid hb5); (have hm0 := hBn.cell 0); (have hq0 := hB0.cell 0); (have hq1 := hB0.cell 1); (have hq2 := hB0.cell 2); (have hp0 := hB0.frozen 0); (have hp1 := hB0.frozen 1); (have hp2 := hB0.frozen 2); (have hu0 := hB1.cell 0); (have hu1 := hB1.frozen 0); (have hv0 := hB2.cell 0); (have hv1 := hB2.frozen 0); (simp only [List.getElem?_toArray, List.getElem?_cons_zero, List.getElem?_cons_succ] at hm0 hq0 hq1 hq2 hu0 hv0); (have HBAD := Lib.hid (fun Y hY => PBad.of (lp' := { lp with state := .done, pending := some .ret }) (n := (k : Int) + 1) (by omega) (by rw [HSP.out]) hx5 hB0 hB1 hB2 hBD hBL (Y := Y) hY)); clear hy hn hb5 hx5 hB0 hB1 hB2 hBn hBD hBL)
          gi_region_with_o (fail)
          all_goals
            refine gen_world (p := fun Y => Exit.then _ _ _ _ Y) ?_
            intro Y hY
            have HY := Lib.hid (HBAD.out Y hY)
            clear hY HBAD
            gi_wp2
            refine ⟨by rw [HLB.out]; exact HY.out.1, .inr ⟨rfl, HY.out.2⟩⟩
    rintro e W ⟨hv, (⟨k, s, h⟩ | h)⟩
    · refine ⟨hv, .inl ⟨h.L, ?_⟩⟩
      have HSM := Lib.hid (SmallS.of h.hs h.ms h.sized (by have := h.len; simp at this; omega))
      have HK := Lib.hid h.same
      have H0 := h.r0.put (.loop { lp with state := .exhausted }) (l := w.heap.size + 1 + 1 + 1 + 1 + 1 + 1 + 1) (by omega)
      have HR1 := h.r1.put (.loop { lp with state := .exhausted }) (l := w.heap.size + 1 + 1 + 1 + 1 + 1 + 1 + 1) (by omega)
      have HR2 := h.r2.put (.loop { lp with state := .exhausted }) (l := w.heap.size + 1 + 1 + 1 + 1 + 1 + 1 + 1) (by omega)
      have Hn := h.n.put (.loop { lp with state := .exhausted }) (l := w.heap.size + 1 + 1 + 1 + 1 + 1 + 1 + 1) (by omega)
      have HST := h.st.put (l := w.heap.size + 1 + 1 + 1 + 1 + 1 + 1 + 1) (by omega) (by omega) (.loop { lp with state := .exhausted })
      have HX := h.ext.putObj (r := w.heap.size + 1 + 1 + 1 + 1 + 1 + 1 + 1) (by omega) (.loop { lp with state := .exhausted })
      have HD : (W.putObj (w.heap.size + 1 + 1 + 1 + 1 + 1 + 1 + 1) (.loop { lp with state := .exhausted })).heap[w.heap.size + 1 + 1 + 1 + 1 + 1 + 1]? = some (.deferred (some [])) := (World.putObj_heap_other (by omega)).trans h.D
      have hkl := h.len
      generalize W.putObj (w.heap.size + 1 + 1 + 1 + 1 + 1 + 1 + 1) (.loop { lp with state := .exhausted }) = W3 at *
      clear h hv hW1 hlp W1
      have hn0 := Hn.cell 0
      have hq0 := H0.cell 0
      have hq1 := H0.cell 1
      have hq2 := H0.cell 2
      have hp0 := H0.frozen 0
      have hp1 := H0.frozen 1
      have hp2 := H0.frozen 2
      have hu0 := HR1.cell 0
      have hu1 := HR1.frozen 0
      have hv0 := HR2.cell 0
      have hv1 := HR2.frozen 0
      simp only [List.getElem?_toArray, List.getElem?_cons_zero, List.getElem?_cons_succ] at hn0 hq0 hq1 hq2 hu0 hv0
      have HB0 := Lib.hid H0
      have HB1 := Lib.hid HR1
      have HB2 := Lib.hid HR2
      have HDD := Lib.hid HD
      have HXX := Lib.hid HX
      clear H0 HR1 HR2 HD HX Hn
      obtain ⟨vA, vB, HST⟩ := HST
      obtain ⟨aA, cA, rfl⟩ := own_len HST.2.2.1
      obtain ⟨aB, cB, rfl⟩ := own_len HST.2.2.2
      have hs0 := HST.1.cell 0
      have hs1 := HST.1.cell 1
      have hs2 := HST.1.cell 2
      simp only [List.getElem?_toArray, List.getElem?_cons_zero, List.getElem?_cons_succ] at hs0 hs1 hs2
      have HSV := Lib.hid HST
      clear HST
      by_cases hk0 : k = 0
      · subst hk0
        have HF := Lib.hid (H1.out (by rw [HK.out, splitOn_none 10 [] (by simp), goLines_one, if_neg (by omega)]; show ((0 : Nat) : Int) + 1 ≠ 0; decide))
        have HL : Hid ((resL t).2 = 1) := Lib.hid (by rw [HK.out, splitOn_none 10 [] (by simp), goLines_one, if_neg (by omega)]; rfl)
        gi_wp2
        refine ⟨by simp, .inl ⟨_, _, rfl, run_takeDeferred (dfar (dfar (dfar (dfar (dfar HDD.out (by omega)) (by omega)) (by omega)) (by omega)) (by omega)), ?_⟩⟩
        refine ⟨_, results_st3 rfl _ _ _ _ _ _ _ _ _ _ rfl (((((((HB0.out.set_ 0 _).set_ 1 _).set_ 2 _).far (p := ⟨w.heap.size + 1, 0, none⟩) (by simp) _).far (p := ⟨w.heap.size + 1 + 1, 0, none⟩) (by simp; omega) _)).put _ (by omega)) rfl ((((((HB1.out.far (by simp) _).far (by simp) _).far (by simp) _).set_ 0 _).far (p := ⟨w.heap.size + 1 + 1, 0, none⟩) (by simp) _).put _ (by omega)) rfl ((((((HB2.out.far (by simp; omega) _).far (by simp; omega) _).far (by simp; omega) _).far (by simp) _).set_ 0 _).put _ (by omega)), ?_⟩
        rw [HF.out.1, HF.out.2.1, HF.out.2.2, HL.out]
        exact ParseEnds.zero ((((((HXX.out.setCell (by simp) _).setCell (by simp) _).setCell (by simp) _).setCell (by simp) _).setCell (by simp; omega) _).putObj (by omega) _)
      · have hkb : ((k : Int) == 0) = false := by rw [beq_eq_false_iff_ne]; omega
        have HL : Hid (resL t = (s, 0)) := Lib.hid (by rw [HK.out, splitOn_none 10 [] (by simp), goLines_one, if_pos ⟨by omega, rfl⟩])
        clear hk0
        by_cases hok : checkS s = 0
        · have HF := Lib.hid (H3.out (by rw [HL.out]) (by rw [HL.out]; exact hok))
          rw [HL.out] at HF
          gi_wp2_with (gi_at_call 20; refine (callsIn_wide.2 (stCheck s aA aB cA cB _ (Reads.own HSV.out.2.2.1) (Reads.own HSV.out.2.2.2) HSM.out)).mono ?_; rintro e w5 ⟨rfl, hx5⟩; rw [hok]; clear hok; (have H05 := HB0.out.ext hx5); (have hq50 := H05.cell 0); (have hq51 := H05.cell 1); (have hq52 := H05.cell 2); (have hp50 := H05.frozen 0); (have hp51 := H05.frozen 1); (have hp52 := H05.frozen 2); (have HR15 := HB1.out.ext hx5); (have hu50 := HR15.cell 0); (have hu51 := HR15.frozen 0); (have HR25 := HB2.out.ext hx5); (have hv50 := HR25.cell 0); (have hv51 := HR25.frozen 0); (have HS5 := HSV.out.ext hx5); (have hs50 := HS5.1.cell 0); (have hs51 := HS5.1.cell 1); (have hs52 := HS5.1.cell 2); (simp only [List.getElem?_toArray, List.getElem?_cons_zero, List.getElem?_cons_succ] at hq50 hq51 hq52 hu50 hv50 hs50 hs51 hs52); (have HB05 := Lib.hid H05); (have HB15 := Lib.hid HR15); (have HB25 := Lib.hid HR25); (have HSV5 := Lib.hid HS5); (have HX5 := Lib.hid (HXX.out.trans hx5)); (have HD5 := Lib.hid ((hx5.block _ (Array.getElem?_eq_some_iff.1 HDD.out).1).trans HDD.out)); clear H05 HR15 HR25 HS5 hx5)
          refine ⟨by simp, .inl ⟨_, _, rfl, run_takeDeferred (dfar (dfar (dfar (dfar (dfar HD5.out (by omega)) (by omega)) (by omega)) (by omega)) (by omega)), ?_⟩⟩
          refine ⟨_, results_st3 rfl _ _ _ _ _ _ _ _ _ _ rfl (((((((HB05.out.set_ 0 _).set_ 1 _).set_ 2 _).far (p := ⟨w.heap.size + 1, 0, none⟩) (by simp) _).far (p := ⟨w.heap.size + 1 + 1, 0, none⟩) (by simp; omega) _)).put _ (by omega)) rfl ((((((HB15.out.far (by simp) _).far (by simp) _).far (by simp) _).set_ 0 _).far (p := ⟨w.heap.size + 1 + 1, 0, none⟩) (by simp) _).put _ (by omega)) rfl ((((((HB25.out.far (by simp; omega) _).far (by simp; omega) _).far (by simp; omega) _).far (by simp) _).set_ 0 _).put _ (by omega)), ?_⟩
          rw [HF.out.1, HF.out.2.1, HF.out.2.2]
          have hX := ((((((HX5.out.setCell (p := ⟨w.heap.size, 0, none⟩) (by simp) (.int .i64 s.day)).setCell (p := ⟨w.heap.size, 1, none⟩) (by simp) (.slice aA s.hs.length cA)).setCell (p := ⟨w.heap.size, 2, none⟩) (by simp) (.slice aB s.ms.length cB)).setCell (p := ⟨w.heap.size + 1, 0, none⟩) (by simp) (.int .i64 0)).setCell (p := ⟨w.heap.size + 1 + 1, 0, none⟩) (by simp; omega) (.int .i64 0)).putObj (r := w.heap.size + 1 + 1 + 1 + 1 + 1 + 1) (by omega) (.deferred none))
          have hnA : ∀ g, g < w.heap.size + 1 + 1 + 1 + 1 + 1 + 1 + 1 + 1 → (Value.slice aA s.hs.length cA).ownBlock ≠ some g := fun g hg h => by have := own_ge HSV5.out.2.2.1 _ h; omega
          have hnB : ∀ g, g < w.heap.size + 1 + 1 + 1 + 1 + 1 + 1 + 1 + 1 → (Value.slice aB s.ms.length cB).ownBlock ≠ some g := fun g hg h => by have := own_ge HSV5.out.2.2.2 _ h; omega
          exact ⟨aA, cA, aB, cB, rfl, Reads.own (own_put (own_set (own_set (own_set (own_set (own_set HSV5.out.2.2.1 (hnA _ (by omega)) _) (hnA _ (by omega)) _) (hnA _ (by omega)) _) (hnA _ (by omega)) _) (hnA _ (by omega)) _) (by omega) _), Reads.own (own_put (own_set (own_set (own_set (own_set (own_set HSV5.out.2.2.2 (hnB _ (by omega)) _) (hnB _ (by omega)) _) (hnB _ (by omega)) _) (hnB _ (by omega)) _) (hnB _ (by omega)) _) (by omega) _), hX⟩
        · have HF := Lib.hid (H2.out (by rw [HL.out]) (by rw [HL.out]; exact hok))
          rw [HL.out] at HF
          have hokb : (checkS s != 0) = true := by rw [bne_iff_ne]; exact hok
          gi_wp2_with (gi_at_call 20; refine (callsIn_wide.2 (stCheck s aA aB cA cB _ (Reads.own HSV.out.2.2.1) (Reads.own HSV.out.2.2.2) HSM.out)).mono ?_; rintro e w5 ⟨rfl, hx5⟩; (have H05 := HB0.out.ext hx5); (have hq50 := H05.cell 0); (have hq51 := H05.cell 1); (have hq52 := H05.cell 2); (have hp50 := H05.frozen 0); (have hp51 := H05.frozen 1); (have hp52 := H05.frozen 2); (have HR15 := HB1.out.ext hx5); (have hu50 := HR15.cell 0); (have hu51 := HR15.frozen 0); (have HR25 := HB2.out.ext hx5); (have hv50 := HR25.cell 0); (have hv51 := HR25.frozen 0); (have HS5 := HSV.out.ext hx5); (have hs50 := HS5.1.cell 0); (have hs51 := HS5.1.cell 1); (have hs52 := HS5.1.cell 2); (simp only [List.getElem?_toArray, List.getElem?_cons_zero, List.getElem?_cons_succ] at hq50 hq51 hq52 hu50 hv50 hs50 hs51 hs52); (have HB05 := Lib.hid H05); (have HB15 := Lib.hid HR15); (have HB25 := Lib.hid HR25); (have HSV5 := Lib.hid HS5); (have HX5 := Lib.hid (HXX.out.trans hx5)); (have HD5 := Lib.hid ((hx5.block _ (Array.getElem?_eq_some_iff.1 HDD.out).1).trans HDD.out)); clear H05 HR15 HR25 HS5 hx5)
          refine ⟨by simp, .inl ⟨_, _, rfl, run_takeDeferred (dfar (dfar (dfar (dfar (dfar HD5.out (by omega)) (by omega)) (by omega)) (by omega)) (by omega)), ?_⟩⟩
          refine ⟨_, results_st3 rfl _ _ _ _ _ _ _ _ _ _ rfl (((((((HB05.out.set_ 0 _).set_ 1 _).set_ 2 _).far (p := ⟨w.heap.size + 1, 0, none⟩) (by simp) _).far (p := ⟨w.heap.size + 1 + 1, 0, none⟩) (by simp; omega) _)).put _ (by omega)) rfl ((((((HB15.out.far (by simp) _).far (by simp) _).far (by simp) _).set_ 0 _).far (p := ⟨w.heap.size + 1 + 1, 0, none⟩) (by simp) _).put _ (by omega)) rfl ((((((HB25.out.far (by simp; omega) _).far (by simp; omega) _).far (by simp; omega) _).far (by simp) _).set_ 0 _).put _ (by omega)), ?_⟩
          rw [HF.out.1, HF.out.2.1, HF.out.2.2]
          exact ParseEnds.zero ((((((HX5.out.setCell (by simp) _).setCell (by simp) _).setCell (by simp) _).setCell (by simp) _).setCell (by simp; omega) _).putObj (by omega) _)
    · refine ⟨hv, .inr ⟨h.L, ?_⟩⟩
      have HF := Lib.hid (H1.out h.ne)
      have H0 := h.r0.put (.loop { lp with state := .exhausted, pending := some .ret }) (l := w.heap.size + 1 + 1 + 1 + 1 + 1 + 1 + 1) (by omega)
      have HR1 := h.r1.put (.loop { lp with state := .exhausted, pending := some .ret }) (l := w.heap.size + 1 + 1 + 1 + 1 + 1 + 1 + 1) (by omega)
      have HR2 := h.r2.put (.loop { lp with state := .exhausted, pending := some .ret }) (l := w.heap.size + 1 + 1 + 1 + 1 + 1 + 1 + 1) (by omega)
      have HX := h.ext.putObj (r := w.heap.size + 1 + 1 + 1 + 1 + 1 + 1 + 1) (by omega) (.loop { lp with state := .exhausted, pending := some .ret })
      have HD : (W.putObj (w.heap.size + 1 + 1 + 1 + 1 + 1 + 1 + 1) (.loop { lp with state := .exhausted, pending := some .ret })).heap[w.heap.size + 1 + 1 + 1 + 1 + 1 + 1]? = some (.deferred (some [])) := (World.putObj_heap_other (by omega)).trans h.D
      generalize W.putObj (w.heap.size + 1 + 1 + 1 + 1 + 1 + 1 + 1) (.loop { lp with state := .exhausted, pending := some .ret }) = W3 at *
      clear h hv hW1 hlp W1
      gi_wp2
      refine ⟨by simp, .inl ⟨_, _, rfl, run_takeDeferred HD, ?_⟩⟩
      refine ⟨_, results_st3 rfl _ _ _ _ _ _ _ _ _ _ rfl (H0.put _ (by omega)) rfl (HR1.put _ (by omega)) rfl (HR2.put _ (by omega)), ?_⟩
      rw [HF.out.1, HF.out.2.1, HF.out.2.2]
      exact ParseEnds.zero (HX.putObj (by omega) _)
end Go.Proofs.YteeampgbmpolfaaGreatDoor
