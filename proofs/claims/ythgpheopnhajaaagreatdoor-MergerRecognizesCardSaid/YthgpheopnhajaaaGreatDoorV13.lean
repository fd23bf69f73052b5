/- The seat's texts, part 13. -/
import Derived.Test.YthgpheopnhajaaaGreatDoorV12
import Derived.Deep.RegionHeld3

/- The steps of the region that describes the kinds: insertions, slices, calls. -/
namespace Go.Proofs.YthgpheopnhajaaaGreatDoor
open Go.RowKit
open Go.Maps (Keyed)
attribute [local go_sem] size_bs toList_bs
theorem key10 : WideAt.IsKeyLit (.int .i64 10) := by trivial
theorem ne_map {w : World} {g b n : Nat} {t : TypeId} {cs : Array Value} {D : DataW Value} (h : Blk w g t cs) (hm : MapAt w b n D) : g ≠ b := by
  rintro rfl
  obtain ⟨es, clock, hb, _⟩ := hm
  have h' : w.heap[g]? = some (.cells cs t (0, 0)) := h
  rw [hb] at h'
  cases h'
theorem blk_only {w w' : World} {g b n : Nat} {t : TypeId} {cs : Array Value} {D : DataW Value} (h : Blk w g t cs) (hm : MapAt w b n D) (hg : Only b w w') : Blk w' g t cs :=
  (hg.block _ h.lt (by simpa using ne_map h hm)).trans h
section
variable {c : RC} {sk : Nat → SK} {i10 : Nat} {ops : Array Oper} {f : Nat} {listed : Array Bool} {bm : Option Nat} {a : Act} {w : World} {i : Nat} {o : Oper} {Q : Exit → Act → World → Prop}
theorem fst_keep (h : RInv c sk i10 ops (f + 1) listed bm a w) (hn : (listed.setIfInBounds i true).getD 0 false = false) : bm = none := h.fst (by
  cases hl : listed.getD 0 false
  · rfl
  · rw [listed_up hl] at hn; cases hn)
theorem eval_const (a : Act) (v : Value) : a.eval (.const v) = v := rfl
theorem st_insN (h : RInv c sk i10 ops (f + 1) listed bm a w) (hi : i ∈ Region.ready .any ops listed) (ho : ops[i]? = some o) (hg : o.guard = none) (m : Nat) (k : Int) (x : Operand) (hop : o.op = .insert 142 (.tmp m) (.const (.int .i64 k)) x) (hne : i ≠ i10) (hd : o.dst = none)
    (hf : Filled ops listed m) (hk : sk m = .nm) (hk13 : 0 ≤ k ∧ k < 13) :
    wpOp Tryz.prog ops Q i (RAt c sk i10 ops f (listed.setIfInBounds i true)) a w := by
  refine wpOp_of ho hg ?_
  unfold Oper.wp
  have hm := h.fits m hf
  rw [hk] at hm
  obtain ⟨b, e, h1, h2, n, D, h3, h4, h5⟩ := hm
  obtain ⟨w', hrun, hM, hG⟩ := h3.update (t := 142) (e := 204) keyInt Tryz.underlying142 (by unfold maxLen; omega) (keyMk k (by omega)) (val := a.eval x) rfl
  simp [execOp, hop, eval_tmp, eval_const, e, hrun, Result.andThen]
  have hG' : Only b w w' := hG
  refine h.step hi ho _ w' bm (fun d e => by rw [hd] at e; cases e) (h.ext.only hG' h1) (fun g t cs hb => blk_only hb h3 hG') ?_ (fun _ e => e) ?_ (fst_keep h) (fun e => absurd e.symm hne)
  · rintro b' ⟨g1, g2, n', D', g3, g4, g5⟩
    by_cases eb : b' = b
    · subst eb
      exact ⟨g1, g2, n + 1, _, hM, by omega, keyOK_put h5 k hk13 _⟩
    · exact ⟨g1, g2, n', D', g3.only hG' eb, by omega, g5⟩
  · intro b' eb
    obtain ⟨g1, n', D', g3, g4, g5⟩ := h.main b' eb
    refine ⟨g1, n', D', g3.only hG' (fun ee => h2 (by rw [eb, ee])), by omega, fun hl => g5 ?_⟩
    rcases listed_set hl with e | e
    · exact absurd e.symm hne
    · exact e
theorem st_insM (h : RInv c sk i10 ops (f + 1) listed bm a w) (hi : i ∈ Region.ready .any ops listed) (ho : ops[i]? = some o) (hg : o.guard = none) (m : Nat) (k : Int) (x : Operand) (hop : o.op = .insert 146 (.tmp m) (.const (.int .i64 k)) x) (hne : i ≠ i10) (hd : o.dst = none)
    (hf : Filled ops listed m) (hk : sk m = .mm) (hk10 : 0 ≤ k ∧ k < 100) (hkn : k ≠ 10) :
    wpOp Tryz.prog ops Q i (RAt c sk i10 ops f (listed.setIfInBounds i true)) a w := by
  refine wpOp_of ho hg ?_
  unfold Oper.wp
  have hm := h.fits m hf
  rw [hk] at hm
  obtain ⟨b, e, eb⟩ := hm
  obtain ⟨h1, n, D, h3, h4, h5⟩ := h.main b eb
  obtain ⟨w', hrun, hM, hG⟩ := h3.update (t := 146) (e := 144) keyInt Tryz.underlying146 (by unfold maxLen; omega) (keyMk k hk10) (val := a.eval x) rfl
  simp [execOp, hop, eval_tmp, eval_const, e, hrun, Result.andThen]
  have hG' : Only b w w' := hG
  have hkl : (Lit.int .i64 10) ≠ Lit.int .i64 k := by simpa using fun e : (10 : Int) = k => hkn e.symm
  refine h.step hi ho _ w' bm (fun d e => by rw [hd] at e; cases e) (h.ext.only hG' h1) (fun g t cs hb => blk_only hb h3 hG') ?_ (fun _ e => e) ?_ (fst_keep h) (fun e => absurd e.symm hne)
  · rintro b' ⟨g1, g2, n', D', g3, g4, g5⟩
    exact ⟨g1, g2, n', D', g3.only hG' (fun ee => g2 (by rw [eb, ee])), by omega, g5⟩
  · intro b' eb'
    rw [eb] at eb'
    cases eb'
    refine ⟨h1, n + 1, _, hM, by omega, fun hl => ?_⟩
    obtain ⟨t1, t2⟩ := h5 (by
      rcases listed_set hl with e | e
      · exact absurd e.symm hne
      · exact e)
    exact ⟨(Maps.has_put_other hkl _).trans t1, fun z => (Maps.atKey_put_other hkl _ z).trans (t2 z)⟩
theorem st_ins10 (h : RInv c sk i10 ops (f + 1) listed bm a w) (hi : i10 ∈ Region.ready .any ops listed) (ho : ops[i10]? = some o) (hg : o.guard = none) (m x : Nat) (hop : o.op = .insert 146 (.tmp m) (.const (.int .i64 10)) (.tmp x)) (hd : o.dst = none)
    (hf : Filled ops listed m) (hk : sk m = .mm) (hfx : Filled ops listed x) (hkx : sk x = .ex) :
    wpOp Tryz.prog ops Q i10 (RAt c sk i10 ops f (listed.setIfInBounds i10 true)) a w := by
  refine wpOp_of ho hg ?_
  unfold Oper.wp
  have hm := h.fits m hf
  rw [hk] at hm
  obtain ⟨b, e, eb⟩ := hm
  have hx := h.fits x hfx
  rw [hkx] at hx
  have hx : a.tmps.getD x undef = exK := hx
  obtain ⟨h1, n, D, h3, h4, h5⟩ := h.main b eb
  obtain ⟨w', hrun, hM, hG⟩ := h3.update (t := 146) (e := 144) keyInt Tryz.underlying146 (by unfold maxLen; omega) (keyMk 10 (by decide)) (val := exK) rfl
  simp [execOp, hop, eval_tmp, eval_const, e, hx, hrun, Result.andThen]
  have hG' : Only b w w' := hG
  refine h.step hi ho _ w' bm (fun d e => by rw [hd] at e; cases e) (h.ext.only hG' h1) (fun g t cs hb => blk_only hb h3 hG') ?_ (fun _ e => e) ?_ (fst_keep h) (fun _ => by rw [eb]; rfl)
  · rintro b' ⟨g1, g2, n', D', g3, g4, g5⟩
    exact ⟨g1, g2, n', D', g3.only hG' (fun ee => g2 (by rw [eb, ee])), by omega, g5⟩
  · intro b' eb'
    rw [eb] at eb'
    cases eb'
    exact ⟨h1, n + 1, _, hM, by omega, fun _ => ⟨Maps.has_put_same h3.isMap key10 _, fun z => Maps.atKey_put_same h3.isMap key10 _ z⟩⟩
theorem st_sl1 (h : RInv c sk i10 ops (f + 1) listed bm a w) (hi : i ∈ Region.ready .any ops listed) (ho : ops[i]? = some o) (hg : o.guard = none) (m0 : Nat) (d : Nat) (hop : o.op = .buildSlice 206 1 #[(0, .const (.int .i64 (m0 : Nat)))]) (hne : i ≠ i10) (hd : DstOK o d) (hk : sk d = .sl) (hm : m0 < 13) :
    wpOp Tryz.prog ops Q i (RAt c sk i10 ops f (listed.setIfInBounds i true)) a w := by
  refine wpOp_of ho hg ?_
  have key : RAt c sk i10 ops f (listed.setIfInBounds i true) (a.put o.dst (.slice (some ⟨w.heap.size, 0, none⟩) 1 1)) (w.alloc (.cells #[.int .i64 (m0 : Nat)] 3)) :=
    h.grow hi ho hne _ _ (Ext.new _ _) (dst_of hd (by rw [hk]; exact ⟨[m0], by simpa using hm, by simp, _, rfl, Blk.new _ _ _⟩))
  rw [hd.1] at key
  unfold Oper.wp
  simp only [execOp, hop]
  go_simp
  exact key
theorem st_sl2 (h : RInv c sk i10 ops (f + 1) listed bm a w) (hi : i ∈ Region.ready .any ops listed) (ho : ops[i]? = some o) (hg : o.guard = none) (m0 m1 : Nat) (d : Nat) (hop : o.op = .buildSlice 206 2 #[(0, .const (.int .i64 (m0 : Nat))), (1, .const (.int .i64 (m1 : Nat)))]) (hne : i ≠ i10) (hd : DstOK o d) (hk : sk d = .sl) (hm : m0 < 13 ∧ m1 < 13) :
    wpOp Tryz.prog ops Q i (RAt c sk i10 ops f (listed.setIfInBounds i true)) a w := by
  refine wpOp_of ho hg ?_
  have key : RAt c sk i10 ops f (listed.setIfInBounds i true) (a.put o.dst (.slice (some ⟨w.heap.size, 0, none⟩) 2 2)) (w.alloc (.cells #[.int .i64 (m0 : Nat), .int .i64 (m1 : Nat)] 3)) :=
    h.grow hi ho hne _ _ (Ext.new _ _) (dst_of hd (by rw [hk]; exact ⟨[m0, m1], by simpa using hm, by simp, _, rfl, Blk.new _ _ _⟩))
  rw [hd.1] at key
  unfold Oper.wp
  simp only [execOp, hop]
  go_simp
  exact key
theorem st_sl3 (h : RInv c sk i10 ops (f + 1) listed bm a w) (hi : i ∈ Region.ready .any ops listed) (ho : ops[i]? = some o) (hg : o.guard = none) (m0 m1 m2 : Nat) (d : Nat) (hop : o.op = .buildSlice 206 3 #[(0, .const (.int .i64 (m0 : Nat))), (1, .const (.int .i64 (m1 : Nat))), (2, .const (.int .i64 (m2 : Nat)))]) (hne : i ≠ i10) (hd : DstOK o d) (hk : sk d = .sl) (hm : m0 < 13 ∧ m1 < 13 ∧ m2 < 13) :
    wpOp Tryz.prog ops Q i (RAt c sk i10 ops f (listed.setIfInBounds i true)) a w := by
  refine wpOp_of ho hg ?_
  have key : RAt c sk i10 ops f (listed.setIfInBounds i true) (a.put o.dst (.slice (some ⟨w.heap.size, 0, none⟩) 3 3)) (w.alloc (.cells #[.int .i64 (m0 : Nat), .int .i64 (m1 : Nat), .int .i64 (m2 : Nat)] 3)) :=
    h.grow hi ho hne _ _ (Ext.new _ _) (dst_of hd (by rw [hk]; exact ⟨[m0, m1, m2], by simpa using hm, by simp, _, rfl, Blk.new _ _ _⟩))
  rw [hd.1] at key
  unfold Oper.wp
  simp only [execOp, hop]
  go_simp
  exact key
theorem st_slx (h : RInv c sk i10 ops (f + 1) listed bm a w) (hi : i ∈ Region.ready .any ops listed) (ho : ops[i]? = some o) (hg : o.guard = none) (d : Nat) (hop : o.op = .buildSlice 206 2 #[(0, .const (.int .i64 0)), (1, .const (.int .i64 11))]) (hne : i ≠ i10) (hd : DstOK o d) (hk : sk d = .sx) :
    wpOp Tryz.prog ops Q i (RAt c sk i10 ops f (listed.setIfInBounds i true)) a w := by
  refine wpOp_of ho hg ?_
  have key : RAt c sk i10 ops f (listed.setIfInBounds i true) (a.put o.dst (.slice (some ⟨w.heap.size, 0, none⟩) 2 2)) (w.alloc (.cells #[.int .i64 0, .int .i64 11] 3)) :=
    h.grow hi ho hne _ _ (Ext.new _ _) (dst_of hd (by rw [hk]; exact ⟨_, rfl, Blk.new _ _ _⟩))
  rw [hd.1] at key
  unfold Oper.wp
  simp only [execOp, hop]
  go_simp
  exact key
theorem SlAt.rdi {w : World} {v : Value} {ms : List Nat} (h : SlAt w v ms) : ∃ g, v = .slice (some ⟨g, 0, none⟩) ms.length ms.length ∧ RdI w (some ⟨g, 0, none⟩) ms := by
  obtain ⟨g, e, hb⟩ := h
  exact ⟨g, e, by simp [icells], fun _ => ⟨g, 0, rfl, hb.lt, fun j u hu => by rw [Nat.zero_add, hb.cell j, List.getElem?_toArray]; exact hu⟩⟩
theorem exec_call {fn : Nat} {cb : Array Value} (ek : ∀ args w, (callFunc fn args).run Tryz.prog w = .ok (.enter fn args) w) {s : Operand} {args : Array Operand} {tt : Array TypeId} (hop : o.op = .call { callee := .value s, args := args, argTypes := tt }) (hs : a.eval s = .func (.func fn) #[] cb) :
    (execOp a.eval o).run Tryz.prog w = .ok (.enter fn (args.map a.eval ++ cb)) w := by
  simp only [execOp, hop]
  simp [resolve, invoke, hs, Deferred.ofValue, ek]
theorem kd_fit {c : RC} {f : Nat} {bm : Option Nat} {w w' : World} {e : Ending} (h : KindEnds w e w') : ∃ v, e = .returned v ∧ Fit c f bm w' .kd v ∧ Ext w w' := by
  obtain ⟨word, cl, bits, num, code, h1, h2, rfl, hx⟩ := h
  exact ⟨_, rfl, ⟨word, cl, bits, num, code, h1, h2, rfl⟩, hx⟩
set_option maxRecDepth 100000 in
theorem st_am (h : RInv c sk i10 ops (f + 1) listed bm a w) (hi : i ∈ Region.ready .any ops listed) (ho : ops[i]? = some o) (hg : o.guard = none) (s d : Nat) (x : ByteArray) (tt : Array TypeId) (hop : o.op = .call { callee := .value (.tmp s), args := #[.const (.string x)], argTypes := tt }) (hne : i ≠ i10) (hd : DstOK o d) (hk : sk d = .kd)
    (hf : Filled ops listed s) (hks : sk s = .am) :
    wpOp Tryz.prog ops Q i (RAt c sk i10 ops f (listed.setIfInBounds i true)) a w := by
  refine wpOp_of ho hg ?_
  have hs := h.fits s hf
  rw [hks] at hs
  have hs : a.eval (.tmp s) = c.amV := hs
  have HC := kinds2 x.data.toList c.G3 c.G1 c.lvP w h.b3 h.b1
  rw [← bs_data] at HC
  unfold Oper.wp
  rw [exec_call (fun _ _ => rfl) hop hs]
  have ea : (#[Operand.const (.string x)] : Array Operand).map a.eval ++ #[Value.pointer (some ⟨c.G3, 0, none⟩), Value.pointer (some ⟨c.G1, 0, none⟩)] = #[.string x, .pointer (some ⟨c.G3, 0, none⟩), .pointer (some ⟨c.G1, 0, none⟩)] := by
    simp [eval_const]
  rw [ea]
  refine HC.mono ?_
  intro e w' hE
  obtain ⟨v, rfl, hv, hx⟩ := kd_fit (c := c) (f := f) (bm := bm) hE
  exact h.grow hi ho hne v w' hx (dst_of hd (by rw [hk]; exact hv))
set_option maxRecDepth 100000 in
theorem st_mk (h : RInv c sk i10 ops (f + 1) listed bm a w) (hi : i ∈ Region.ready .any ops listed) (ho : ops[i]? = some o) (hg : o.guard = none) (s m l d : Nat) (x : ByteArray) (cl : Int) (tt : Array TypeId) (hop : o.op = .call { callee := .value (.tmp s), args := #[.const (.string x), .const (.int .i64 cl), .tmp m, .tmp l], argTypes := tt }) (hne : i ≠ i10) (hd : DstOK o d) (hk : sk d = .kd)
    (hf : Filled ops listed s) (hks : sk s = .mk) (hfm : Filled ops listed m) (hkm : sk m = .nm) (hfl : Filled ops listed l) (hkl : sk l = .sl) :
    wpOp Tryz.prog ops Q i (RAt c sk i10 ops f (listed.setIfInBounds i true)) a w := by
  refine wpOp_of ho hg ?_
  have hs := h.fits s hf
  rw [hks] at hs
  have hs : a.eval (.tmp s) = makerV := hs
  have hm := h.fits m hfm
  rw [hkm] at hm
  obtain ⟨b, em, h1, h2, n, D, h3, h4, h5⟩ := hm
  have hl := h.fits l hfl
  rw [hkl] at hl
  obtain ⟨ms, hms, hml, hsl⟩ := hl
  obtain ⟨g, el, hr⟩ := hsl.rdi
  have HC := kindsMap x.data.toList cl b n D ms _ ms.length w h3 h5 hr hms hml
  rw [← bs_data] at HC
  unfold Oper.wp
  rw [exec_call (fun _ _ => rfl) hop hs]
  have ea : (#[Operand.const (.string x), .const (.int .i64 cl), .tmp m, .tmp l] : Array Operand).map a.eval ++ #[] = #[.string x, .int .i64 cl, .map (some b), .slice (some ⟨g, 0, none⟩) ms.length ms.length] := by
    simp [eval_tmp, eval_const, em, el]
  rw [ea]
  refine HC.mono ?_
  rintro e w' ⟨bits, hbl, rfl, hx⟩
  exact h.grow hi ho hne _ w' hx (dst_of hd (by rw [hk]; exact ⟨_, _, _, _, _, hbl, rfl, rfl⟩))
set_option maxRecDepth 100000 in
theorem st_mkn (h : RInv c sk i10 ops (f + 1) listed bm a w) (hi : i ∈ Region.ready .any ops listed) (ho : ops[i]? = some o) (hg : o.guard = none) (s l d : Nat) (x : ByteArray) (cl : Int) (tt : Array TypeId) (hop : o.op = .call { callee := .value (.tmp s), args := #[.const (.string x), .const (.int .i64 cl), .const (.map none), .tmp l], argTypes := tt }) (hne : i ≠ i10) (hd : DstOK o d) (hk : sk d = .kd)
    (hf : Filled ops listed s) (hks : sk s = .mk) (hfl : Filled ops listed l) (hkl : sk l = .sl) :
    wpOp Tryz.prog ops Q i (RAt c sk i10 ops f (listed.setIfInBounds i true)) a w := by
  refine wpOp_of ho hg ?_
  have hs := h.fits s hf
  rw [hks] at hs
  have hs : a.eval (.tmp s) = makerV := hs
  have hl := h.fits l hfl
  rw [hkl] at hl
  obtain ⟨ms, hms, hml, hsl⟩ := hl
  obtain ⟨g, el, hr⟩ := hsl.rdi
  have HC := kindsNil x.data.toList cl ms _ ms.length w hr hms hml
  rw [← bs_data] at HC
  unfold Oper.wp
  rw [exec_call (fun _ _ => rfl) hop hs]
  have ea : (#[Operand.const (.string x), .const (.int .i64 cl), .const (.map none), .tmp l] : Array Operand).map a.eval ++ #[] = #[.string x, .int .i64 cl, .map none, .slice (some ⟨g, 0, none⟩) ms.length ms.length] := by
    simp [eval_tmp, eval_const, el]
  rw [ea]
  refine HC.mono ?_
  rintro e w' ⟨rfl, hx⟩
  exact h.grow hi ho hne _ w' hx (dst_of hd (by rw [hk]; exact ⟨_, _, _, _, _, by rw [setAll_len]; rfl, rfl, rfl⟩))
set_option maxRecDepth 100000 in
theorem st_ex (h : RInv c sk i10 ops (f + 1) listed bm a w) (hi : i ∈ Region.ready .any ops listed) (ho : ops[i]? = some o) (hg : o.guard = none) (s l d : Nat) (tt : Array TypeId) (hop : o.op = .call { callee := .value (.tmp s), args := #[.const (.string (bs [101, 120, 99, 104, 97, 110, 103, 101])), .const (.int .i64 1), .const (.map none), .tmp l], argTypes := tt }) (hne : i ≠ i10) (hd : DstOK o d) (hk : sk d = .ex)
    (hf : Filled ops listed s) (hks : sk s = .mk) (hfl : Filled ops listed l) (hkl : sk l = .sx) :
    wpOp Tryz.prog ops Q i (RAt c sk i10 ops f (listed.setIfInBounds i true)) a w := by
  refine wpOp_of ho hg ?_
  have hs := h.fits s hf
  rw [hks] at hs
  have hs : a.eval (.tmp s) = makerV := hs
  have hl := h.fits l hfl
  rw [hkl] at hl
  have hsl : SlAt w (a.tmps.getD l undef) [0, 11] := hl
  obtain ⟨g, el, hr⟩ := hsl.rdi
  have HC := kindsNil [101, 120, 99, 104, 97, 110, 103, 101] 1 [0, 11] _ 2 w hr (by decide) (by decide)
  unfold Oper.wp
  rw [exec_call (fun _ _ => rfl) hop hs]
  have ea : (#[Operand.const (.string (bs [101, 120, 99, 104, 97, 110, 103, 101])), .const (.int .i64 1), .const (.map none), .tmp l] : Array Operand).map a.eval ++ #[] = #[.string (bs [101, 120, 99, 104, 97, 110, 103, 101]), .int .i64 1, .map none, .slice (some ⟨g, 0, none⟩) 2 2] := by
    simp [eval_tmp, eval_const, el]
  rw [ea]
  refine HC.mono ?_
  rintro e w' ⟨rfl, hx⟩
  exact h.grow hi ho hne _ w' hx (dst_of hd (by rw [hk]; rfl))
set_option maxRecDepth 100000 in
theorem st_wc (h : RInv c sk i10 ops (f + 1) listed bm a w) (hi : i ∈ Region.ready .any ops listed) (ho : ops[i]? = some o) (hg : o.guard = none) (s x d : Nat) (tt : Array TypeId) (hop : o.op = .call { callee := .value (.tmp s), args := #[.tmp x], argTypes := tt }) (hne : i ≠ i10) (hd : DstOK o d) (hk : sk d = .kd)
    (hf : Filled ops listed s) (hks : sk s = .wc) (hfx : Filled ops listed x) (hkx : sk x = .kd) :
    wpOp Tryz.prog ops Q i (RAt c sk i10 ops f (listed.setIfInBounds i true)) a w := by
  refine wpOp_of ho hg ?_
  have hs := h.fits s hf
  rw [hks] at hs
  have hs : a.eval (.tmp s) = wcV := hs
  have hx := h.fits x hfx
  rw [hkx] at hx
  obtain ⟨word, cl, bits, num, code, h1, h2, ex⟩ := hx
  have HC := kinds3 word cl bits num code w h1 h2
  unfold Oper.wp
  rw [exec_call (fun _ _ => rfl) hop hs]
  have ea : (#[Operand.tmp x] : Array Operand).map a.eval ++ #[] = #[kv word cl bits num code] := by
    simp [eval_tmp, ex]
  rw [ea]
  refine HC.mono ?_
  intro e w' hE
  obtain ⟨v, rfl, hv, hx⟩ := kd_fit (c := c) (f := f) (bm := bm) hE
  exact h.grow hi ho hne v w' hx (dst_of hd (by rw [hk]; exact hv))
set_option maxRecDepth 100000 in
theorem st_bt (h : RInv c sk i10 ops (f + 1) listed bm a w) (hi : i ∈ Region.ready .any ops listed) (ho : ops[i]? = some o) (hg : o.guard = none) (d : Nat) (p q : Bool) (tt : Array TypeId) (hop : o.op = .call { callee := .value (.func 150), args := #[.const (.bool p), .const (.bool q)], argTypes := tt }) (hne : i ≠ i10) (hd : DstOK o d) (hk : sk d = .lv) :
    wpOp Tryz.prog ops Q i (RAt c sk i10 ops f (listed.setIfInBounds i true)) a w := by
  refine wpOp_of ho hg ?_
  unfold Oper.wp
  rw [exec_call (cb := #[]) (fun _ _ => rfl) hop rfl]
  have ea : (#[Operand.const (.bool p), .const (.bool q)] : Array Operand).map a.eval ++ #[] = #[.bool p, .bool q] := by
    simp [eval_const]
  rw [ea]
  refine (fkBetween p q w).mono ?_
  rintro e w' ⟨rfl, _, _, hx⟩
  exact h.grow hi ho hne _ w' hx (dst_of hd (by rw [hk]; trivial))
end
end Go.Proofs.YthgpheopnhajaaaGreatDoor

/- Each operation of the region that describes the kinds is a step. Printed by kindsgen2.py. -/
namespace Go.Proofs.YthgpheopnhajaaaGreatDoor
open Go.RowKit
def opsAt (k : Nat) : Code → Option (Array Oper)
  | .region i ops _ => if i = k then some ops else none
  | .seq a b => match opsAt k a with | some x => some x | none => opsAt k b
  | .block _ a => opsAt k a
  | .loop a => opsAt k a
  | .scope a => opsAt k a
  | .cond _ a b => match opsAt k a with | some x => some x | none => opsAt k b
  | _ => none
noncomputable def kops : Array Oper := ((Tryz.f89.body.bind (opsAt 6)).getD #[])
def kslots : List (Nat × SK) := [(0, .mm), (2, .lv), (4, .am), (5, .wc), (6, .nm), (15, .mm), (16, .am), (17, .kd), (18, .am), (19, .kd), (20, .mk), (21, .nm), (22, .sl), (23, .kd), (24, .mk), (25, .nm), (26, .sl), (27, .kd), (28, .mk), (29, .nm), (30, .lv), (31, .nm), (32, .sl), (33, .kd), (34, .am), (35, .kd), (36, .wc), (37, .mk), (38, .nm), (39, .lv), (40, .lv), (41, .nm), (42, .sl), (43, .kd), (44, .kd), (45, .mk), (46, .nm), (47, .lv), (48, .lv), (49, .nm), (50, .sl), (51, .kd), (52, .mk), (53, .nm), (54, .lv), (55, .lv), (56, .lv), (57, .nm), (58, .sl), (59, .kd), (60, .mk), (61, .sx), (62, .ex), (63, .mk), (64, .sl), (65, .kd), (66, .mk), (67, .nm), (68, .lv), (69, .lv), (70, .lv), (71, .nm), (72, .sl), (73, .kd), (74, .mk), (75, .nm), (76, .lv), (77, .nm), (78, .sl), (79, .kd), (80, .mk), (81, .nm), (82, .lv), (83, .nm), (84, .sl), (85, .kd), (86, .mk), (87, .nm), (88, .lv), (89, .nm), (90, .sl), (91, .kd), (92, .wc), (93, .mk), (94, .nm), (95, .lv), (96, .nm), (97, .sl), (98, .kd), (99, .kd), (100, .am), (101, .kd), (102, .am), (103, .kd), (104, .mm)]
def ksk (s : Nat) : SK := (kslots.lookup s).getD .no
section
variable {c : RC} {f : Nat} {listed : Array Bool} {bm : Option Nat} {a : Act} {w : World} {Q : Exit → Act → World → Prop}
set_option maxRecDepth 100000 in
theorem kst0 (h : RInv c ksk 65 kops (f + 1) listed bm a w) (hi : 0 ∈ Region.ready .any kops listed) (h190 : f ≤ 190) : wpOp Tryz.prog kops Q 0 (RAt c ksk 65 kops f (listed.setIfInBounds 0 true)) a w :=
  st_makeM h hi rfl rfl h190 _ 15 rfl (by decide) ⟨rfl, by decide, by decide, by decide⟩ rfl
set_option maxRecDepth 100000 in
theorem kst1 (h : RInv c ksk 65 kops (f + 1) listed bm a w) (hi : 1 ∈ Region.ready .any kops listed) (_h190 : f ≤ 190) : wpOp Tryz.prog kops Q 1 (RAt c ksk 65 kops f (listed.setIfInBounds 1 true)) a w :=
  st_move h hi rfl rfl 4 16 (.inl rfl) (by decide) ⟨rfl, by decide, by decide, by decide⟩ (.inl (.inr (.inl rfl))) rfl
set_option maxRecDepth 100000 in
theorem kst2 (h : RInv c ksk 65 kops (f + 1) listed bm a w) (hi : 2 ∈ Region.ready .any kops listed) (_h190 : f ≤ 190) : wpOp Tryz.prog kops Q 2 (RAt c ksk 65 kops f (listed.setIfInBounds 2 true)) a w :=
  st_am h hi rfl rfl 16 17 _ _ rfl (by decide) ⟨rfl, by decide, by decide, by decide⟩ rfl (filled_pred hi rfl 1 rfl rfl rfl) rfl
set_option maxRecDepth 100000 in
theorem kst3 (h : RInv c ksk 65 kops (f + 1) listed bm a w) (hi : 3 ∈ Region.ready .any kops listed) (_h190 : f ≤ 190) : wpOp Tryz.prog kops Q 3 (RAt c ksk 65 kops f (listed.setIfInBounds 3 true)) a w :=
  st_insM h hi rfl rfl 15 1 _ rfl (by decide) rfl (filled_pred hi rfl 0 rfl rfl rfl) rfl (by decide) (by decide)
set_option maxRecDepth 100000 in
theorem kst4 (h : RInv c ksk 65 kops (f + 1) listed bm a w) (hi : 4 ∈ Region.ready .any kops listed) (_h190 : f ≤ 190) : wpOp Tryz.prog kops Q 4 (RAt c ksk 65 kops f (listed.setIfInBounds 4 true)) a w :=
  st_move h hi rfl rfl 4 18 (.inl rfl) (by decide) ⟨rfl, by decide, by decide, by decide⟩ (.inl (.inr (.inl rfl))) rfl
set_option maxRecDepth 100000 in
theorem kst5 (h : RInv c ksk 65 kops (f + 1) listed bm a w) (hi : 5 ∈ Region.ready .any kops listed) (_h190 : f ≤ 190) : wpOp Tryz.prog kops Q 5 (RAt c ksk 65 kops f (listed.setIfInBounds 5 true)) a w :=
  st_am h hi rfl rfl 18 19 _ _ rfl (by decide) ⟨rfl, by decide, by decide, by decide⟩ rfl (filled_pred hi rfl 4 rfl rfl rfl) rfl
set_option maxRecDepth 100000 in
theorem kst6 (h : RInv c ksk 65 kops (f + 1) listed bm a w) (hi : 6 ∈ Region.ready .any kops listed) (_h190 : f ≤ 190) : wpOp Tryz.prog kops Q 6 (RAt c ksk 65 kops f (listed.setIfInBounds 6 true)) a w :=
  st_insM h hi rfl rfl 15 2 _ rfl (by decide) rfl (filled_pred hi rfl 0 rfl rfl rfl) rfl (by decide) (by decide)
set_option maxRecDepth 100000 in
theorem kst7 (h : RInv c ksk 65 kops (f + 1) listed bm a w) (hi : 7 ∈ Region.ready .any kops listed) (_h190 : f ≤ 190) : wpOp Tryz.prog kops Q 7 (RAt c ksk 65 kops f (listed.setIfInBounds 7 true)) a w :=
  st_load3 h hi rfl rfl 20 rfl (by decide) ⟨rfl, by decide, by decide, by decide⟩ rfl
set_option maxRecDepth 100000 in
theorem kst8 (h : RInv c ksk 65 kops (f + 1) listed bm a w) (hi : 8 ∈ Region.ready .any kops listed) (_h190 : f ≤ 190) : wpOp Tryz.prog kops Q 8 (RAt c ksk 65 kops f (listed.setIfInBounds 8 true)) a w :=
  st_move h hi rfl rfl 6 21 (.inl rfl) (by decide) ⟨rfl, by decide, by decide, by decide⟩ (.inl (.inr (.inr (.inr rfl)))) rfl
set_option maxRecDepth 100000 in
theorem kst9 (h : RInv c ksk 65 kops (f + 1) listed bm a w) (hi : 9 ∈ Region.ready .any kops listed) (_h190 : f ≤ 190) : wpOp Tryz.prog kops Q 9 (RAt c ksk 65 kops f (listed.setIfInBounds 9 true)) a w :=
  st_sl1 h hi rfl rfl 0 22 rfl (by decide) ⟨rfl, by decide, by decide, by decide⟩ rfl (by decide)
set_option maxRecDepth 100000 in
theorem kst10 (h : RInv c ksk 65 kops (f + 1) listed bm a w) (hi : 10 ∈ Region.ready .any kops listed) (_h190 : f ≤ 190) : wpOp Tryz.prog kops Q 10 (RAt c ksk 65 kops f (listed.setIfInBounds 10 true)) a w :=
  st_mk h hi rfl rfl 20 21 22 23 _ _ _ rfl (by decide) ⟨rfl, by decide, by decide, by decide⟩ rfl (filled_pred hi rfl 7 rfl rfl rfl) rfl (filled_pred hi rfl 8 rfl rfl rfl) rfl (filled_pred hi rfl 9 rfl rfl rfl) rfl
set_option maxRecDepth 100000 in
theorem kst11 (h : RInv c ksk 65 kops (f + 1) listed bm a w) (hi : 11 ∈ Region.ready .any kops listed) (_h190 : f ≤ 190) : wpOp Tryz.prog kops Q 11 (RAt c ksk 65 kops f (listed.setIfInBounds 11 true)) a w :=
  st_insM h hi rfl rfl 15 3 _ rfl (by decide) rfl (filled_pred hi rfl 0 rfl rfl rfl) rfl (by decide) (by decide)
set_option maxRecDepth 100000 in
theorem kst12 (h : RInv c ksk 65 kops (f + 1) listed bm a w) (hi : 12 ∈ Region.ready .any kops listed) (_h190 : f ≤ 190) : wpOp Tryz.prog kops Q 12 (RAt c ksk 65 kops f (listed.setIfInBounds 12 true)) a w :=
  st_load3 h hi rfl rfl 24 rfl (by decide) ⟨rfl, by decide, by decide, by decide⟩ rfl
set_option maxRecDepth 100000 in
theorem kst13 (h : RInv c ksk 65 kops (f + 1) listed bm a w) (hi : 13 ∈ Region.ready .any kops listed) (_h190 : f ≤ 190) : wpOp Tryz.prog kops Q 13 (RAt c ksk 65 kops f (listed.setIfInBounds 13 true)) a w :=
  st_move h hi rfl rfl 6 25 (.inl rfl) (by decide) ⟨rfl, by decide, by decide, by decide⟩ (.inl (.inr (.inr (.inr rfl)))) rfl
set_option maxRecDepth 100000 in
theorem kst14 (h : RInv c ksk 65 kops (f + 1) listed bm a w) (hi : 14 ∈ Region.ready .any kops listed) (_h190 : f ≤ 190) : wpOp Tryz.prog kops Q 14 (RAt c ksk 65 kops f (listed.setIfInBounds 14 true)) a w :=
  st_sl2 h hi rfl rfl 0 10 26 rfl (by decide) ⟨rfl, by decide, by decide, by decide⟩ rfl (by decide)
set_option maxRecDepth 100000 in
theorem kst15 (h : RInv c ksk 65 kops (f + 1) listed bm a w) (hi : 15 ∈ Region.ready .any kops listed) (_h190 : f ≤ 190) : wpOp Tryz.prog kops Q 15 (RAt c ksk 65 kops f (listed.setIfInBounds 15 true)) a w :=
  st_mk h hi rfl rfl 24 25 26 27 _ _ _ rfl (by decide) ⟨rfl, by decide, by decide, by decide⟩ rfl (filled_pred hi rfl 12 rfl rfl rfl) rfl (filled_pred hi rfl 13 rfl rfl rfl) rfl (filled_pred hi rfl 14 rfl rfl rfl) rfl
set_option maxRecDepth 100000 in
theorem kst16 (h : RInv c ksk 65 kops (f + 1) listed bm a w) (hi : 16 ∈ Region.ready .any kops listed) (_h190 : f ≤ 190) : wpOp Tryz.prog kops Q 16 (RAt c ksk 65 kops f (listed.setIfInBounds 16 true)) a w :=
  st_insM h hi rfl rfl 15 4 _ rfl (by decide) rfl (filled_pred hi rfl 0 rfl rfl rfl) rfl (by decide) (by decide)
set_option maxRecDepth 100000 in
theorem kst17 (h : RInv c ksk 65 kops (f + 1) listed bm a w) (hi : 17 ∈ Region.ready .any kops listed) (_h190 : f ≤ 190) : wpOp Tryz.prog kops Q 17 (RAt c ksk 65 kops f (listed.setIfInBounds 17 true)) a w :=
  st_load3 h hi rfl rfl 28 rfl (by decide) ⟨rfl, by decide, by decide, by decide⟩ rfl
set_option maxRecDepth 100000 in
theorem kst18 (h : RInv c ksk 65 kops (f + 1) listed bm a w) (hi : 18 ∈ Region.ready .any kops listed) (h190 : f ≤ 190) : wpOp Tryz.prog kops Q 18 (RAt c ksk 65 kops f (listed.setIfInBounds 18 true)) a w :=
  st_makeN h hi rfl rfl h190 _ 29 rfl (by decide) ⟨rfl, by decide, by decide, by decide⟩ rfl
set_option maxRecDepth 100000 in
theorem kst19 (h : RInv c ksk 65 kops (f + 1) listed bm a w) (hi : 19 ∈ Region.ready .any kops listed) (_h190 : f ≤ 190) : wpOp Tryz.prog kops Q 19 (RAt c ksk 65 kops f (listed.setIfInBounds 19 true)) a w :=
  st_load1 h hi rfl rfl 30 rfl (by decide) ⟨rfl, by decide, by decide, by decide⟩ rfl
set_option maxRecDepth 100000 in
theorem kst20 (h : RInv c ksk 65 kops (f + 1) listed bm a w) (hi : 20 ∈ Region.ready .any kops listed) (_h190 : f ≤ 190) : wpOp Tryz.prog kops Q 20 (RAt c ksk 65 kops f (listed.setIfInBounds 20 true)) a w :=
  st_insN h hi rfl rfl 29 7 _ rfl (by decide) rfl (filled_pred hi rfl 18 rfl rfl rfl) rfl (by decide)
set_option maxRecDepth 100000 in
theorem kst21 (h : RInv c ksk 65 kops (f + 1) listed bm a w) (hi : 21 ∈ Region.ready .any kops listed) (_h190 : f ≤ 190) : wpOp Tryz.prog kops Q 21 (RAt c ksk 65 kops f (listed.setIfInBounds 21 true)) a w :=
  st_move h hi rfl rfl 29 31 (.inl rfl) (by decide) ⟨rfl, by decide, by decide, by decide⟩ (filled_pred hi rfl 18 rfl rfl rfl) rfl
set_option maxRecDepth 100000 in
theorem kst22 (h : RInv c ksk 65 kops (f + 1) listed bm a w) (hi : 22 ∈ Region.ready .any kops listed) (_h190 : f ≤ 190) : wpOp Tryz.prog kops Q 22 (RAt c ksk 65 kops f (listed.setIfInBounds 22 true)) a w :=
  st_sl1 h hi rfl rfl 0 32 rfl (by decide) ⟨rfl, by decide, by decide, by decide⟩ rfl (by decide)
set_option maxRecDepth 100000 in
theorem kst23 (h : RInv c ksk 65 kops (f + 1) listed bm a w) (hi : 23 ∈ Region.ready .any kops listed) (_h190 : f ≤ 190) : wpOp Tryz.prog kops Q 23 (RAt c ksk 65 kops f (listed.setIfInBounds 23 true)) a w :=
  st_mk h hi rfl rfl 28 31 32 33 _ _ _ rfl (by decide) ⟨rfl, by decide, by decide, by decide⟩ rfl (filled_pred hi rfl 17 rfl rfl rfl) rfl (filled_pred hi rfl 21 rfl rfl rfl) rfl (filled_pred hi rfl 22 rfl rfl rfl) rfl
set_option maxRecDepth 100000 in
theorem kst24 (h : RInv c ksk 65 kops (f + 1) listed bm a w) (hi : 24 ∈ Region.ready .any kops listed) (_h190 : f ≤ 190) : wpOp Tryz.prog kops Q 24 (RAt c ksk 65 kops f (listed.setIfInBounds 24 true)) a w :=
  st_insM h hi rfl rfl 15 5 _ rfl (by decide) rfl (filled_pred hi rfl 0 rfl rfl rfl) rfl (by decide) (by decide)
set_option maxRecDepth 100000 in
theorem kst25 (h : RInv c ksk 65 kops (f + 1) listed bm a w) (hi : 25 ∈ Region.ready .any kops listed) (_h190 : f ≤ 190) : wpOp Tryz.prog kops Q 25 (RAt c ksk 65 kops f (listed.setIfInBounds 25 true)) a w :=
  st_move h hi rfl rfl 4 34 (.inl rfl) (by decide) ⟨rfl, by decide, by decide, by decide⟩ (.inl (.inr (.inl rfl))) rfl
set_option maxRecDepth 100000 in
theorem kst26 (h : RInv c ksk 65 kops (f + 1) listed bm a w) (hi : 26 ∈ Region.ready .any kops listed) (_h190 : f ≤ 190) : wpOp Tryz.prog kops Q 26 (RAt c ksk 65 kops f (listed.setIfInBounds 26 true)) a w :=
  st_am h hi rfl rfl 34 35 _ _ rfl (by decide) ⟨rfl, by decide, by decide, by decide⟩ rfl (filled_pred hi rfl 25 rfl rfl rfl) rfl
set_option maxRecDepth 100000 in
theorem kst27 (h : RInv c ksk 65 kops (f + 1) listed bm a w) (hi : 27 ∈ Region.ready .any kops listed) (_h190 : f ≤ 190) : wpOp Tryz.prog kops Q 27 (RAt c ksk 65 kops f (listed.setIfInBounds 27 true)) a w :=
  st_insM h hi rfl rfl 15 6 _ rfl (by decide) rfl (filled_pred hi rfl 0 rfl rfl rfl) rfl (by decide) (by decide)
set_option maxRecDepth 100000 in
theorem kst28 (h : RInv c ksk 65 kops (f + 1) listed bm a w) (hi : 28 ∈ Region.ready .any kops listed) (_h190 : f ≤ 190) : wpOp Tryz.prog kops Q 28 (RAt c ksk 65 kops f (listed.setIfInBounds 28 true)) a w :=
  st_move h hi rfl rfl 5 36 (.inl rfl) (by decide) ⟨rfl, by decide, by decide, by decide⟩ (.inl (.inr (.inr (.inl rfl)))) rfl
set_option maxRecDepth 100000 in
theorem kst29 (h : RInv c ksk 65 kops (f + 1) listed bm a w) (hi : 29 ∈ Region.ready .any kops listed) (_h190 : f ≤ 190) : wpOp Tryz.prog kops Q 29 (RAt c ksk 65 kops f (listed.setIfInBounds 29 true)) a w :=
  st_load3 h hi rfl rfl 37 rfl (by decide) ⟨rfl, by decide, by decide, by decide⟩ rfl
set_option maxRecDepth 100000 in
theorem kst30 (h : RInv c ksk 65 kops (f + 1) listed bm a w) (hi : 30 ∈ Region.ready .any kops listed) (h190 : f ≤ 190) : wpOp Tryz.prog kops Q 30 (RAt c ksk 65 kops f (listed.setIfInBounds 30 true)) a w :=
  st_makeN h hi rfl rfl h190 _ 38 rfl (by decide) ⟨rfl, by decide, by decide, by decide⟩ rfl
set_option maxRecDepth 100000 in
theorem kst31 (h : RInv c ksk 65 kops (f + 1) listed bm a w) (hi : 31 ∈ Region.ready .any kops listed) (_h190 : f ≤ 190) : wpOp Tryz.prog kops Q 31 (RAt c ksk 65 kops f (listed.setIfInBounds 31 true)) a w :=
  st_load1 h hi rfl rfl 39 rfl (by decide) ⟨rfl, by decide, by decide, by decide⟩ rfl
set_option maxRecDepth 100000 in
theorem kst32 (h : RInv c ksk 65 kops (f + 1) listed bm a w) (hi : 32 ∈ Region.ready .any kops listed) (_h190 : f ≤ 190) : wpOp Tryz.prog kops Q 32 (RAt c ksk 65 kops f (listed.setIfInBounds 32 true)) a w :=
  st_insN h hi rfl rfl 38 4 _ rfl (by decide) rfl (filled_pred hi rfl 30 rfl rfl rfl) rfl (by decide)
set_option maxRecDepth 100000 in
theorem kst33 (h : RInv c ksk 65 kops (f + 1) listed bm a w) (hi : 33 ∈ Region.ready .any kops listed) (_h190 : f ≤ 190) : wpOp Tryz.prog kops Q 33 (RAt c ksk 65 kops f (listed.setIfInBounds 33 true)) a w :=
  st_load1 h hi rfl rfl 40 rfl (by decide) ⟨rfl, by decide, by decide, by decide⟩ rfl
set_option maxRecDepth 100000 in
theorem kst34 (h : RInv c ksk 65 kops (f + 1) listed bm a w) (hi : 34 ∈ Region.ready .any kops listed) (_h190 : f ≤ 190) : wpOp Tryz.prog kops Q 34 (RAt c ksk 65 kops f (listed.setIfInBounds 34 true)) a w :=
  st_insN h hi rfl rfl 38 5 _ rfl (by decide) rfl (filled_pred hi rfl 30 rfl rfl rfl) rfl (by decide)
set_option maxRecDepth 100000 in
theorem kst35 (h : RInv c ksk 65 kops (f + 1) listed bm a w) (hi : 35 ∈ Region.ready .any kops listed) (_h190 : f ≤ 190) : wpOp Tryz.prog kops Q 35 (RAt c ksk 65 kops f (listed.setIfInBounds 35 true)) a w :=
  st_move h hi rfl rfl 38 41 (.inl rfl) (by decide) ⟨rfl, by decide, by decide, by decide⟩ (filled_pred hi rfl 30 rfl rfl rfl) rfl
set_option maxRecDepth 100000 in
theorem kst36 (h : RInv c ksk 65 kops (f + 1) listed bm a w) (hi : 36 ∈ Region.ready .any kops listed) (_h190 : f ≤ 190) : wpOp Tryz.prog kops Q 36 (RAt c ksk 65 kops f (listed.setIfInBounds 36 true)) a w :=
  st_sl2 h hi rfl rfl 1 2 42 rfl (by decide) ⟨rfl, by decide, by decide, by decide⟩ rfl (by decide)
set_option maxRecDepth 100000 in
theorem kst37 (h : RInv c ksk 65 kops (f + 1) listed bm a w) (hi : 37 ∈ Region.ready .any kops listed) (_h190 : f ≤ 190) : wpOp Tryz.prog kops Q 37 (RAt c ksk 65 kops f (listed.setIfInBounds 37 true)) a w :=
  st_mk h hi rfl rfl 37 41 42 43 _ _ _ rfl (by decide) ⟨rfl, by decide, by decide, by decide⟩ rfl (filled_pred hi rfl 29 rfl rfl rfl) rfl (filled_pred hi rfl 35 rfl rfl rfl) rfl (filled_pred hi rfl 36 rfl rfl rfl) rfl
set_option maxRecDepth 100000 in
theorem kst38 (h : RInv c ksk 65 kops (f + 1) listed bm a w) (hi : 38 ∈ Region.ready .any kops listed) (_h190 : f ≤ 190) : wpOp Tryz.prog kops Q 38 (RAt c ksk 65 kops f (listed.setIfInBounds 38 true)) a w :=
  st_wc h hi rfl rfl 36 43 44 _ rfl (by decide) ⟨rfl, by decide, by decide, by decide⟩ rfl (filled_pred hi rfl 28 rfl rfl rfl) rfl (filled_pred hi rfl 37 rfl rfl rfl) rfl
set_option maxRecDepth 100000 in
theorem kst39 (h : RInv c ksk 65 kops (f + 1) listed bm a w) (hi : 39 ∈ Region.ready .any kops listed) (_h190 : f ≤ 190) : wpOp Tryz.prog kops Q 39 (RAt c ksk 65 kops f (listed.setIfInBounds 39 true)) a w :=
  st_insM h hi rfl rfl 15 7 _ rfl (by decide) rfl (filled_pred hi rfl 0 rfl rfl rfl) rfl (by decide) (by decide)
set_option maxRecDepth 100000 in
theorem kst40 (h : RInv c ksk 65 kops (f + 1) listed bm a w) (hi : 40 ∈ Region.ready .any kops listed) (_h190 : f ≤ 190) : wpOp Tryz.prog kops Q 40 (RAt c ksk 65 kops f (listed.setIfInBounds 40 true)) a w :=
  st_load3 h hi rfl rfl 45 rfl (by decide) ⟨rfl, by decide, by decide, by decide⟩ rfl
set_option maxRecDepth 100000 in
theorem kst41 (h : RInv c ksk 65 kops (f + 1) listed bm a w) (hi : 41 ∈ Region.ready .any kops listed) (h190 : f ≤ 190) : wpOp Tryz.prog kops Q 41 (RAt c ksk 65 kops f (listed.setIfInBounds 41 true)) a w :=
  st_makeN h hi rfl rfl h190 _ 46 rfl (by decide) ⟨rfl, by decide, by decide, by decide⟩ rfl
set_option maxRecDepth 100000 in
theorem kst42 (h : RInv c ksk 65 kops (f + 1) listed bm a w) (hi : 42 ∈ Region.ready .any kops listed) (_h190 : f ≤ 190) : wpOp Tryz.prog kops Q 42 (RAt c ksk 65 kops f (listed.setIfInBounds 42 true)) a w :=
  st_move h hi rfl rfl 2 47 (.inl rfl) (by decide) ⟨rfl, by decide, by decide, by decide⟩ (.inl (.inl rfl)) rfl
set_option maxRecDepth 100000 in
theorem kst43 (h : RInv c ksk 65 kops (f + 1) listed bm a w) (hi : 43 ∈ Region.ready .any kops listed) (_h190 : f ≤ 190) : wpOp Tryz.prog kops Q 43 (RAt c ksk 65 kops f (listed.setIfInBounds 43 true)) a w :=
  st_insN h hi rfl rfl 46 7 _ rfl (by decide) rfl (filled_pred hi rfl 41 rfl rfl rfl) rfl (by decide)
set_option maxRecDepth 100000 in
theorem kst44 (h : RInv c ksk 65 kops (f + 1) listed bm a w) (hi : 44 ∈ Region.ready .any kops listed) (_h190 : f ≤ 190) : wpOp Tryz.prog kops Q 44 (RAt c ksk 65 kops f (listed.setIfInBounds 44 true)) a w :=
  st_load1 h hi rfl rfl 48 rfl (by decide) ⟨rfl, by decide, by decide, by decide⟩ rfl
set_option maxRecDepth 100000 in
theorem kst45 (h : RInv c ksk 65 kops (f + 1) listed bm a w) (hi : 45 ∈ Region.ready .any kops listed) (_h190 : f ≤ 190) : wpOp Tryz.prog kops Q 45 (RAt c ksk 65 kops f (listed.setIfInBounds 45 true)) a w :=
  st_insN h hi rfl rfl 46 8 _ rfl (by decide) rfl (filled_pred hi rfl 41 rfl rfl rfl) rfl (by decide)
set_option maxRecDepth 100000 in
theorem kst46 (h : RInv c ksk 65 kops (f + 1) listed bm a w) (hi : 46 ∈ Region.ready .any kops listed) (_h190 : f ≤ 190) : wpOp Tryz.prog kops Q 46 (RAt c ksk 65 kops f (listed.setIfInBounds 46 true)) a w :=
  st_move h hi rfl rfl 46 49 (.inl rfl) (by decide) ⟨rfl, by decide, by decide, by decide⟩ (filled_pred hi rfl 41 rfl rfl rfl) rfl
set_option maxRecDepth 100000 in
theorem kst47 (h : RInv c ksk 65 kops (f + 1) listed bm a w) (hi : 47 ∈ Region.ready .any kops listed) (_h190 : f ≤ 190) : wpOp Tryz.prog kops Q 47 (RAt c ksk 65 kops f (listed.setIfInBounds 47 true)) a w :=
  st_sl1 h hi rfl rfl 0 50 rfl (by decide) ⟨rfl, by decide, by decide, by decide⟩ rfl (by decide)
set_option maxRecDepth 100000 in
theorem kst48 (h : RInv c ksk 65 kops (f + 1) listed bm a w) (hi : 48 ∈ Region.ready .any kops listed) (_h190 : f ≤ 190) : wpOp Tryz.prog kops Q 48 (RAt c ksk 65 kops f (listed.setIfInBounds 48 true)) a w :=
  st_mk h hi rfl rfl 45 49 50 51 _ _ _ rfl (by decide) ⟨rfl, by decide, by decide, by decide⟩ rfl (filled_pred hi rfl 40 rfl rfl rfl) rfl (filled_pred hi rfl 46 rfl rfl rfl) rfl (filled_pred hi rfl 47 rfl rfl rfl) rfl
set_option maxRecDepth 100000 in
theorem kst49 (h : RInv c ksk 65 kops (f + 1) listed bm a w) (hi : 49 ∈ Region.ready .any kops listed) (_h190 : f ≤ 190) : wpOp Tryz.prog kops Q 49 (RAt c ksk 65 kops f (listed.setIfInBounds 49 true)) a w :=
  st_insM h hi rfl rfl 15 8 _ rfl (by decide) rfl (filled_pred hi rfl 0 rfl rfl rfl) rfl (by decide) (by decide)
set_option maxRecDepth 100000 in
theorem kst50 (h : RInv c ksk 65 kops (f + 1) listed bm a w) (hi : 50 ∈ Region.ready .any kops listed) (_h190 : f ≤ 190) : wpOp Tryz.prog kops Q 50 (RAt c ksk 65 kops f (listed.setIfInBounds 50 true)) a w :=
  st_load3 h hi rfl rfl 52 rfl (by decide) ⟨rfl, by decide, by decide, by decide⟩ rfl
set_option maxRecDepth 100000 in
theorem kst51 (h : RInv c ksk 65 kops (f + 1) listed bm a w) (hi : 51 ∈ Region.ready .any kops listed) (h190 : f ≤ 190) : wpOp Tryz.prog kops Q 51 (RAt c ksk 65 kops f (listed.setIfInBounds 51 true)) a w :=
  st_makeN h hi rfl rfl h190 _ 53 rfl (by decide) ⟨rfl, by decide, by decide, by decide⟩ rfl
set_option maxRecDepth 100000 in
theorem kst52 (h : RInv c ksk 65 kops (f + 1) listed bm a w) (hi : 52 ∈ Region.ready .any kops listed) (_h190 : f ≤ 190) : wpOp Tryz.prog kops Q 52 (RAt c ksk 65 kops f (listed.setIfInBounds 52 true)) a w :=
  st_move h hi rfl rfl 2 54 (.inl rfl) (by decide) ⟨rfl, by decide, by decide, by decide⟩ (.inl (.inl rfl)) rfl
set_option maxRecDepth 100000 in
theorem kst53 (h : RInv c ksk 65 kops (f + 1) listed bm a w) (hi : 53 ∈ Region.ready .any kops listed) (_h190 : f ≤ 190) : wpOp Tryz.prog kops Q 53 (RAt c ksk 65 kops f (listed.setIfInBounds 53 true)) a w :=
  st_insN h hi rfl rfl 53 7 _ rfl (by decide) rfl (filled_pred hi rfl 51 rfl rfl rfl) rfl (by decide)
set_option maxRecDepth 100000 in
theorem kst54 (h : RInv c ksk 65 kops (f + 1) listed bm a w) (hi : 54 ∈ Region.ready .any kops listed) (_h190 : f ≤ 190) : wpOp Tryz.prog kops Q 54 (RAt c ksk 65 kops f (listed.setIfInBounds 54 true)) a w :=
  st_load1 h hi rfl rfl 55 rfl (by decide) ⟨rfl, by decide, by decide, by decide⟩ rfl
set_option maxRecDepth 100000 in
theorem kst55 (h : RInv c ksk 65 kops (f + 1) listed bm a w) (hi : 55 ∈ Region.ready .any kops listed) (_h190 : f ≤ 190) : wpOp Tryz.prog kops Q 55 (RAt c ksk 65 kops f (listed.setIfInBounds 55 true)) a w :=
  st_insN h hi rfl rfl 53 8 _ rfl (by decide) rfl (filled_pred hi rfl 51 rfl rfl rfl) rfl (by decide)
set_option maxRecDepth 100000 in
theorem kst56 (h : RInv c ksk 65 kops (f + 1) listed bm a w) (hi : 56 ∈ Region.ready .any kops listed) (_h190 : f ≤ 190) : wpOp Tryz.prog kops Q 56 (RAt c ksk 65 kops f (listed.setIfInBounds 56 true)) a w :=
  st_bt h hi rfl rfl 56 _ _ _ rfl (by decide) ⟨rfl, by decide, by decide, by decide⟩ rfl
set_option maxRecDepth 100000 in
theorem kst57 (h : RInv c ksk 65 kops (f + 1) listed bm a w) (hi : 57 ∈ Region.ready .any kops listed) (_h190 : f ≤ 190) : wpOp Tryz.prog kops Q 57 (RAt c ksk 65 kops f (listed.setIfInBounds 57 true)) a w :=
  st_insN h hi rfl rfl 53 9 _ rfl (by decide) rfl (filled_pred hi rfl 51 rfl rfl rfl) rfl (by decide)
set_option maxRecDepth 100000 in
theorem kst58 (h : RInv c ksk 65 kops (f + 1) listed bm a w) (hi : 58 ∈ Region.ready .any kops listed) (_h190 : f ≤ 190) : wpOp Tryz.prog kops Q 58 (RAt c ksk 65 kops f (listed.setIfInBounds 58 true)) a w :=
  st_move h hi rfl rfl 53 57 (.inl rfl) (by decide) ⟨rfl, by decide, by decide, by decide⟩ (filled_pred hi rfl 51 rfl rfl rfl) rfl
set_option maxRecDepth 100000 in
theorem kst59 (h : RInv c ksk 65 kops (f + 1) listed bm a w) (hi : 59 ∈ Region.ready .any kops listed) (_h190 : f ≤ 190) : wpOp Tryz.prog kops Q 59 (RAt c ksk 65 kops f (listed.setIfInBounds 59 true)) a w :=
  st_sl2 h hi rfl rfl 0 1 58 rfl (by decide) ⟨rfl, by decide, by decide, by decide⟩ rfl (by decide)
set_option maxRecDepth 100000 in
theorem kst60 (h : RInv c ksk 65 kops (f + 1) listed bm a w) (hi : 60 ∈ Region.ready .any kops listed) (_h190 : f ≤ 190) : wpOp Tryz.prog kops Q 60 (RAt c ksk 65 kops f (listed.setIfInBounds 60 true)) a w :=
  st_mk h hi rfl rfl 52 57 58 59 _ _ _ rfl (by decide) ⟨rfl, by decide, by decide, by decide⟩ rfl (filled_pred hi rfl 50 rfl rfl rfl) rfl (filled_pred hi rfl 58 rfl rfl rfl) rfl (filled_pred hi rfl 59 rfl rfl rfl) rfl
set_option maxRecDepth 100000 in
theorem kst61 (h : RInv c ksk 65 kops (f + 1) listed bm a w) (hi : 61 ∈ Region.ready .any kops listed) (_h190 : f ≤ 190) : wpOp Tryz.prog kops Q 61 (RAt c ksk 65 kops f (listed.setIfInBounds 61 true)) a w :=
  st_insM h hi rfl rfl 15 9 _ rfl (by decide) rfl (filled_pred hi rfl 0 rfl rfl rfl) rfl (by decide) (by decide)
set_option maxRecDepth 100000 in
theorem kst62 (h : RInv c ksk 65 kops (f + 1) listed bm a w) (hi : 62 ∈ Region.ready .any kops listed) (_h190 : f ≤ 190) : wpOp Tryz.prog kops Q 62 (RAt c ksk 65 kops f (listed.setIfInBounds 62 true)) a w :=
  st_load3 h hi rfl rfl 60 rfl (by decide) ⟨rfl, by decide, by decide, by decide⟩ rfl
set_option maxRecDepth 100000 in
theorem kst63 (h : RInv c ksk 65 kops (f + 1) listed bm a w) (hi : 63 ∈ Region.ready .any kops listed) (_h190 : f ≤ 190) : wpOp Tryz.prog kops Q 63 (RAt c ksk 65 kops f (listed.setIfInBounds 63 true)) a w :=
  st_slx h hi rfl rfl 61 rfl (by decide) ⟨rfl, by decide, by decide, by decide⟩ rfl
set_option maxRecDepth 100000 in
theorem kst64 (h : RInv c ksk 65 kops (f + 1) listed bm a w) (hi : 64 ∈ Region.ready .any kops listed) (_h190 : f ≤ 190) : wpOp Tryz.prog kops Q 64 (RAt c ksk 65 kops f (listed.setIfInBounds 64 true)) a w :=
  st_ex h hi rfl rfl 60 61 62 _ rfl (by decide) ⟨rfl, by decide, by decide, by decide⟩ rfl (filled_pred hi rfl 62 rfl rfl rfl) rfl (filled_pred hi rfl 63 rfl rfl rfl) rfl
set_option maxRecDepth 100000 in
theorem kst65 (h : RInv c ksk 65 kops (f + 1) listed bm a w) (hi : 65 ∈ Region.ready .any kops listed) (_h190 : f ≤ 190) : wpOp Tryz.prog kops Q 65 (RAt c ksk 65 kops f (listed.setIfInBounds 65 true)) a w :=
  st_ins10 h hi rfl rfl 15 62 rfl rfl (filled_pred hi rfl 0 rfl rfl rfl) rfl (filled_pred hi rfl 64 rfl rfl rfl) rfl
set_option maxRecDepth 100000 in
theorem kst66 (h : RInv c ksk 65 kops (f + 1) listed bm a w) (hi : 66 ∈ Region.ready .any kops listed) (_h190 : f ≤ 190) : wpOp Tryz.prog kops Q 66 (RAt c ksk 65 kops f (listed.setIfInBounds 66 true)) a w :=
  st_load3 h hi rfl rfl 63 rfl (by decide) ⟨rfl, by decide, by decide, by decide⟩ rfl
set_option maxRecDepth 100000 in
theorem kst67 (h : RInv c ksk 65 kops (f + 1) listed bm a w) (hi : 67 ∈ Region.ready .any kops listed) (_h190 : f ≤ 190) : wpOp Tryz.prog kops Q 67 (RAt c ksk 65 kops f (listed.setIfInBounds 67 true)) a w :=
  st_sl3 h hi rfl rfl 0 3 12 64 rfl (by decide) ⟨rfl, by decide, by decide, by decide⟩ rfl (by decide)
set_option maxRecDepth 100000 in
theorem kst68 (h : RInv c ksk 65 kops (f + 1) listed bm a w) (hi : 68 ∈ Region.ready .any kops listed) (_h190 : f ≤ 190) : wpOp Tryz.prog kops Q 68 (RAt c ksk 65 kops f (listed.setIfInBounds 68 true)) a w :=
  st_mkn h hi rfl rfl 63 64 65 _ _ _ rfl (by decide) ⟨rfl, by decide, by decide, by decide⟩ rfl (filled_pred hi rfl 66 rfl rfl rfl) rfl (filled_pred hi rfl 67 rfl rfl rfl) rfl
set_option maxRecDepth 100000 in
theorem kst69 (h : RInv c ksk 65 kops (f + 1) listed bm a w) (hi : 69 ∈ Region.ready .any kops listed) (_h190 : f ≤ 190) : wpOp Tryz.prog kops Q 69 (RAt c ksk 65 kops f (listed.setIfInBounds 69 true)) a w :=
  st_insM h hi rfl rfl 15 11 _ rfl (by decide) rfl (filled_pred hi rfl 0 rfl rfl rfl) rfl (by decide) (by decide)
set_option maxRecDepth 100000 in
theorem kst70 (h : RInv c ksk 65 kops (f + 1) listed bm a w) (hi : 70 ∈ Region.ready .any kops listed) (_h190 : f ≤ 190) : wpOp Tryz.prog kops Q 70 (RAt c ksk 65 kops f (listed.setIfInBounds 70 true)) a w :=
  st_load3 h hi rfl rfl 66 rfl (by decide) ⟨rfl, by decide, by decide, by decide⟩ rfl
set_option maxRecDepth 100000 in
theorem kst71 (h : RInv c ksk 65 kops (f + 1) listed bm a w) (hi : 71 ∈ Region.ready .any kops listed) (h190 : f ≤ 190) : wpOp Tryz.prog kops Q 71 (RAt c ksk 65 kops f (listed.setIfInBounds 71 true)) a w :=
  st_makeN h hi rfl rfl h190 _ 67 rfl (by decide) ⟨rfl, by decide, by decide, by decide⟩ rfl
set_option maxRecDepth 100000 in
theorem kst72 (h : RInv c ksk 65 kops (f + 1) listed bm a w) (hi : 72 ∈ Region.ready .any kops listed) (_h190 : f ≤ 190) : wpOp Tryz.prog kops Q 72 (RAt c ksk 65 kops f (listed.setIfInBounds 72 true)) a w :=
  st_load1 h hi rfl rfl 68 rfl (by decide) ⟨rfl, by decide, by decide, by decide⟩ rfl
set_option maxRecDepth 100000 in
theorem kst73 (h : RInv c ksk 65 kops (f + 1) listed bm a w) (hi : 73 ∈ Region.ready .any kops listed) (_h190 : f ≤ 190) : wpOp Tryz.prog kops Q 73 (RAt c ksk 65 kops f (listed.setIfInBounds 73 true)) a w :=
  st_insN h hi rfl rfl 67 4 _ rfl (by decide) rfl (filled_pred hi rfl 71 rfl rfl rfl) rfl (by decide)
set_option maxRecDepth 100000 in
theorem kst74 (h : RInv c ksk 65 kops (f + 1) listed bm a w) (hi : 74 ∈ Region.ready .any kops listed) (_h190 : f ≤ 190) : wpOp Tryz.prog kops Q 74 (RAt c ksk 65 kops f (listed.setIfInBounds 74 true)) a w :=
  st_move h hi rfl rfl 2 69 (.inl rfl) (by decide) ⟨rfl, by decide, by decide, by decide⟩ (.inl (.inl rfl)) rfl
set_option maxRecDepth 100000 in
theorem kst75 (h : RInv c ksk 65 kops (f + 1) listed bm a w) (hi : 75 ∈ Region.ready .any kops listed) (_h190 : f ≤ 190) : wpOp Tryz.prog kops Q 75 (RAt c ksk 65 kops f (listed.setIfInBounds 75 true)) a w :=
  st_insN h hi rfl rfl 67 7 _ rfl (by decide) rfl (filled_pred hi rfl 71 rfl rfl rfl) rfl (by decide)
set_option maxRecDepth 100000 in
theorem kst76 (h : RInv c ksk 65 kops (f + 1) listed bm a w) (hi : 76 ∈ Region.ready .any kops listed) (_h190 : f ≤ 190) : wpOp Tryz.prog kops Q 76 (RAt c ksk 65 kops f (listed.setIfInBounds 76 true)) a w :=
  st_load1 h hi rfl rfl 70 rfl (by decide) ⟨rfl, by decide, by decide, by decide⟩ rfl
set_option maxRecDepth 100000 in
theorem kst77 (h : RInv c ksk 65 kops (f + 1) listed bm a w) (hi : 77 ∈ Region.ready .any kops listed) (_h190 : f ≤ 190) : wpOp Tryz.prog kops Q 77 (RAt c ksk 65 kops f (listed.setIfInBounds 77 true)) a w :=
  st_insN h hi rfl rfl 67 8 _ rfl (by decide) rfl (filled_pred hi rfl 71 rfl rfl rfl) rfl (by decide)
set_option maxRecDepth 100000 in
theorem kst78 (h : RInv c ksk 65 kops (f + 1) listed bm a w) (hi : 78 ∈ Region.ready .any kops listed) (_h190 : f ≤ 190) : wpOp Tryz.prog kops Q 78 (RAt c ksk 65 kops f (listed.setIfInBounds 78 true)) a w :=
  st_move h hi rfl rfl 67 71 (.inl rfl) (by decide) ⟨rfl, by decide, by decide, by decide⟩ (filled_pred hi rfl 71 rfl rfl rfl) rfl
set_option maxRecDepth 100000 in
theorem kst79 (h : RInv c ksk 65 kops (f + 1) listed bm a w) (hi : 79 ∈ Region.ready .any kops listed) (_h190 : f ≤ 190) : wpOp Tryz.prog kops Q 79 (RAt c ksk 65 kops f (listed.setIfInBounds 79 true)) a w :=
  st_sl2 h hi rfl rfl 0 1 72 rfl (by decide) ⟨rfl, by decide, by decide, by decide⟩ rfl (by decide)
set_option maxRecDepth 100000 in
theorem kst80 (h : RInv c ksk 65 kops (f + 1) listed bm a w) (hi : 80 ∈ Region.ready .any kops listed) (_h190 : f ≤ 190) : wpOp Tryz.prog kops Q 80 (RAt c ksk 65 kops f (listed.setIfInBounds 80 true)) a w :=
  st_mk h hi rfl rfl 66 71 72 73 _ _ _ rfl (by decide) ⟨rfl, by decide, by decide, by decide⟩ rfl (filled_pred hi rfl 70 rfl rfl rfl) rfl (filled_pred hi rfl 78 rfl rfl rfl) rfl (filled_pred hi rfl 79 rfl rfl rfl) rfl
set_option maxRecDepth 100000 in
theorem kst81 (h : RInv c ksk 65 kops (f + 1) listed bm a w) (hi : 81 ∈ Region.ready .any kops listed) (_h190 : f ≤ 190) : wpOp Tryz.prog kops Q 81 (RAt c ksk 65 kops f (listed.setIfInBounds 81 true)) a w :=
  st_insM h hi rfl rfl 15 12 _ rfl (by decide) rfl (filled_pred hi rfl 0 rfl rfl rfl) rfl (by decide) (by decide)
set_option maxRecDepth 100000 in
theorem kst82 (h : RInv c ksk 65 kops (f + 1) listed bm a w) (hi : 82 ∈ Region.ready .any kops listed) (_h190 : f ≤ 190) : wpOp Tryz.prog kops Q 82 (RAt c ksk 65 kops f (listed.setIfInBounds 82 true)) a w :=
  st_load3 h hi rfl rfl 74 rfl (by decide) ⟨rfl, by decide, by decide, by decide⟩ rfl
set_option maxRecDepth 100000 in
theorem kst83 (h : RInv c ksk 65 kops (f + 1) listed bm a w) (hi : 83 ∈ Region.ready .any kops listed) (h190 : f ≤ 190) : wpOp Tryz.prog kops Q 83 (RAt c ksk 65 kops f (listed.setIfInBounds 83 true)) a w :=
  st_makeN h hi rfl rfl h190 _ 75 rfl (by decide) ⟨rfl, by decide, by decide, by decide⟩ rfl
set_option maxRecDepth 100000 in
theorem kst84 (h : RInv c ksk 65 kops (f + 1) listed bm a w) (hi : 84 ∈ Region.ready .any kops listed) (_h190 : f ≤ 190) : wpOp Tryz.prog kops Q 84 (RAt c ksk 65 kops f (listed.setIfInBounds 84 true)) a w :=
  st_load1 h hi rfl rfl 76 rfl (by decide) ⟨rfl, by decide, by decide, by decide⟩ rfl
set_option maxRecDepth 100000 in
theorem kst85 (h : RInv c ksk 65 kops (f + 1) listed bm a w) (hi : 85 ∈ Region.ready .any kops listed) (_h190 : f ≤ 190) : wpOp Tryz.prog kops Q 85 (RAt c ksk 65 kops f (listed.setIfInBounds 85 true)) a w :=
  st_insN h hi rfl rfl 75 7 _ rfl (by decide) rfl (filled_pred hi rfl 83 rfl rfl rfl) rfl (by decide)
set_option maxRecDepth 100000 in
theorem kst86 (h : RInv c ksk 65 kops (f + 1) listed bm a w) (hi : 86 ∈ Region.ready .any kops listed) (_h190 : f ≤ 190) : wpOp Tryz.prog kops Q 86 (RAt c ksk 65 kops f (listed.setIfInBounds 86 true)) a w :=
  st_move h hi rfl rfl 75 77 (.inl rfl) (by decide) ⟨rfl, by decide, by decide, by decide⟩ (filled_pred hi rfl 83 rfl rfl rfl) rfl
set_option maxRecDepth 100000 in
theorem kst87 (h : RInv c ksk 65 kops (f + 1) listed bm a w) (hi : 87 ∈ Region.ready .any kops listed) (_h190 : f ≤ 190) : wpOp Tryz.prog kops Q 87 (RAt c ksk 65 kops f (listed.setIfInBounds 87 true)) a w :=
  st_sl1 h hi rfl rfl 0 78 rfl (by decide) ⟨rfl, by decide, by decide, by decide⟩ rfl (by decide)
set_option maxRecDepth 100000 in
theorem kst88 (h : RInv c ksk 65 kops (f + 1) listed bm a w) (hi : 88 ∈ Region.ready .any kops listed) (_h190 : f ≤ 190) : wpOp Tryz.prog kops Q 88 (RAt c ksk 65 kops f (listed.setIfInBounds 88 true)) a w :=
  st_mk h hi rfl rfl 74 77 78 79 _ _ _ rfl (by decide) ⟨rfl, by decide, by decide, by decide⟩ rfl (filled_pred hi rfl 82 rfl rfl rfl) rfl (filled_pred hi rfl 86 rfl rfl rfl) rfl (filled_pred hi rfl 87 rfl rfl rfl) rfl
set_option maxRecDepth 100000 in
theorem kst89 (h : RInv c ksk 65 kops (f + 1) listed bm a w) (hi : 89 ∈ Region.ready .any kops listed) (_h190 : f ≤ 190) : wpOp Tryz.prog kops Q 89 (RAt c ksk 65 kops f (listed.setIfInBounds 89 true)) a w :=
  st_insM h hi rfl rfl 15 13 _ rfl (by decide) rfl (filled_pred hi rfl 0 rfl rfl rfl) rfl (by decide) (by decide)
set_option maxRecDepth 100000 in
theorem kst90 (h : RInv c ksk 65 kops (f + 1) listed bm a w) (hi : 90 ∈ Region.ready .any kops listed) (_h190 : f ≤ 190) : wpOp Tryz.prog kops Q 90 (RAt c ksk 65 kops f (listed.setIfInBounds 90 true)) a w :=
  st_load3 h hi rfl rfl 80 rfl (by decide) ⟨rfl, by decide, by decide, by decide⟩ rfl
set_option maxRecDepth 100000 in
theorem kst91 (h : RInv c ksk 65 kops (f + 1) listed bm a w) (hi : 91 ∈ Region.ready .any kops listed) (h190 : f ≤ 190) : wpOp Tryz.prog kops Q 91 (RAt c ksk 65 kops f (listed.setIfInBounds 91 true)) a w :=
  st_makeN h hi rfl rfl h190 _ 81 rfl (by decide) ⟨rfl, by decide, by decide, by decide⟩ rfl
set_option maxRecDepth 100000 in
theorem kst92 (h : RInv c ksk 65 kops (f + 1) listed bm a w) (hi : 92 ∈ Region.ready .any kops listed) (_h190 : f ≤ 190) : wpOp Tryz.prog kops Q 92 (RAt c ksk 65 kops f (listed.setIfInBounds 92 true)) a w :=
  st_move h hi rfl rfl 2 82 (.inl rfl) (by decide) ⟨rfl, by decide, by decide, by decide⟩ (.inl (.inl rfl)) rfl
set_option maxRecDepth 100000 in
theorem kst93 (h : RInv c ksk 65 kops (f + 1) listed bm a w) (hi : 93 ∈ Region.ready .any kops listed) (_h190 : f ≤ 190) : wpOp Tryz.prog kops Q 93 (RAt c ksk 65 kops f (listed.setIfInBounds 93 true)) a w :=
  st_insN h hi rfl rfl 81 7 _ rfl (by decide) rfl (filled_pred hi rfl 91 rfl rfl rfl) rfl (by decide)
set_option maxRecDepth 100000 in
theorem kst94 (h : RInv c ksk 65 kops (f + 1) listed bm a w) (hi : 94 ∈ Region.ready .any kops listed) (_h190 : f ≤ 190) : wpOp Tryz.prog kops Q 94 (RAt c ksk 65 kops f (listed.setIfInBounds 94 true)) a w :=
  st_move h hi rfl rfl 81 83 (.inl rfl) (by decide) ⟨rfl, by decide, by decide, by decide⟩ (filled_pred hi rfl 91 rfl rfl rfl) rfl
set_option maxRecDepth 100000 in
theorem kst95 (h : RInv c ksk 65 kops (f + 1) listed bm a w) (hi : 95 ∈ Region.ready .any kops listed) (_h190 : f ≤ 190) : wpOp Tryz.prog kops Q 95 (RAt c ksk 65 kops f (listed.setIfInBounds 95 true)) a w :=
  st_sl1 h hi rfl rfl 0 84 rfl (by decide) ⟨rfl, by decide, by decide, by decide⟩ rfl (by decide)
set_option maxRecDepth 100000 in
theorem kst96 (h : RInv c ksk 65 kops (f + 1) listed bm a w) (hi : 96 ∈ Region.ready .any kops listed) (_h190 : f ≤ 190) : wpOp Tryz.prog kops Q 96 (RAt c ksk 65 kops f (listed.setIfInBounds 96 true)) a w :=
  st_mk h hi rfl rfl 80 83 84 85 _ _ _ rfl (by decide) ⟨rfl, by decide, by decide, by decide⟩ rfl (filled_pred hi rfl 90 rfl rfl rfl) rfl (filled_pred hi rfl 94 rfl rfl rfl) rfl (filled_pred hi rfl 95 rfl rfl rfl) rfl
set_option maxRecDepth 100000 in
theorem kst97 (h : RInv c ksk 65 kops (f + 1) listed bm a w) (hi : 97 ∈ Region.ready .any kops listed) (_h190 : f ≤ 190) : wpOp Tryz.prog kops Q 97 (RAt c ksk 65 kops f (listed.setIfInBounds 97 true)) a w :=
  st_insM h hi rfl rfl 15 14 _ rfl (by decide) rfl (filled_pred hi rfl 0 rfl rfl rfl) rfl (by decide) (by decide)
set_option maxRecDepth 100000 in
theorem kst98 (h : RInv c ksk 65 kops (f + 1) listed bm a w) (hi : 98 ∈ Region.ready .any kops listed) (_h190 : f ≤ 190) : wpOp Tryz.prog kops Q 98 (RAt c ksk 65 kops f (listed.setIfInBounds 98 true)) a w :=
  st_load3 h hi rfl rfl 86 rfl (by decide) ⟨rfl, by decide, by decide, by decide⟩ rfl
set_option maxRecDepth 100000 in
theorem kst99 (h : RInv c ksk 65 kops (f + 1) listed bm a w) (hi : 99 ∈ Region.ready .any kops listed) (h190 : f ≤ 190) : wpOp Tryz.prog kops Q 99 (RAt c ksk 65 kops f (listed.setIfInBounds 99 true)) a w :=
  st_makeN h hi rfl rfl h190 _ 87 rfl (by decide) ⟨rfl, by decide, by decide, by decide⟩ rfl
set_option maxRecDepth 100000 in
theorem kst100 (h : RInv c ksk 65 kops (f + 1) listed bm a w) (hi : 100 ∈ Region.ready .any kops listed) (_h190 : f ≤ 190) : wpOp Tryz.prog kops Q 100 (RAt c ksk 65 kops f (listed.setIfInBounds 100 true)) a w :=
  st_move h hi rfl rfl 2 88 (.inl rfl) (by decide) ⟨rfl, by decide, by decide, by decide⟩ (.inl (.inl rfl)) rfl
set_option maxRecDepth 100000 in
theorem kst101 (h : RInv c ksk 65 kops (f + 1) listed bm a w) (hi : 101 ∈ Region.ready .any kops listed) (_h190 : f ≤ 190) : wpOp Tryz.prog kops Q 101 (RAt c ksk 65 kops f (listed.setIfInBounds 101 true)) a w :=
  st_insN h hi rfl rfl 87 7 _ rfl (by decide) rfl (filled_pred hi rfl 99 rfl rfl rfl) rfl (by decide)
set_option maxRecDepth 100000 in
theorem kst102 (h : RInv c ksk 65 kops (f + 1) listed bm a w) (hi : 102 ∈ Region.ready .any kops listed) (_h190 : f ≤ 190) : wpOp Tryz.prog kops Q 102 (RAt c ksk 65 kops f (listed.setIfInBounds 102 true)) a w :=
  st_move h hi rfl rfl 87 89 (.inl rfl) (by decide) ⟨rfl, by decide, by decide, by decide⟩ (filled_pred hi rfl 99 rfl rfl rfl) rfl
set_option maxRecDepth 100000 in
theorem kst103 (h : RInv c ksk 65 kops (f + 1) listed bm a w) (hi : 103 ∈ Region.ready .any kops listed) (_h190 : f ≤ 190) : wpOp Tryz.prog kops Q 103 (RAt c ksk 65 kops f (listed.setIfInBounds 103 true)) a w :=
  st_sl1 h hi rfl rfl 0 90 rfl (by decide) ⟨rfl, by decide, by decide, by decide⟩ rfl (by decide)
set_option maxRecDepth 100000 in
theorem kst104 (h : RInv c ksk 65 kops (f + 1) listed bm a w) (hi : 104 ∈ Region.ready .any kops listed) (_h190 : f ≤ 190) : wpOp Tryz.prog kops Q 104 (RAt c ksk 65 kops f (listed.setIfInBounds 104 true)) a w :=
  st_mk h hi rfl rfl 86 89 90 91 _ _ _ rfl (by decide) ⟨rfl, by decide, by decide, by decide⟩ rfl (filled_pred hi rfl 98 rfl rfl rfl) rfl (filled_pred hi rfl 102 rfl rfl rfl) rfl (filled_pred hi rfl 103 rfl rfl rfl) rfl
set_option maxRecDepth 100000 in
theorem kst105 (h : RInv c ksk 65 kops (f + 1) listed bm a w) (hi : 105 ∈ Region.ready .any kops listed) (_h190 : f ≤ 190) : wpOp Tryz.prog kops Q 105 (RAt c ksk 65 kops f (listed.setIfInBounds 105 true)) a w :=
  st_insM h hi rfl rfl 15 15 _ rfl (by decide) rfl (filled_pred hi rfl 0 rfl rfl rfl) rfl (by decide) (by decide)
set_option maxRecDepth 100000 in
theorem kst106 (h : RInv c ksk 65 kops (f + 1) listed bm a w) (hi : 106 ∈ Region.ready .any kops listed) (_h190 : f ≤ 190) : wpOp Tryz.prog kops Q 106 (RAt c ksk 65 kops f (listed.setIfInBounds 106 true)) a w :=
  st_move h hi rfl rfl 5 92 (.inl rfl) (by decide) ⟨rfl, by decide, by decide, by decide⟩ (.inl (.inr (.inr (.inl rfl)))) rfl
set_option maxRecDepth 100000 in
theorem kst107 (h : RInv c ksk 65 kops (f + 1) listed bm a w) (hi : 107 ∈ Region.ready .any kops listed) (_h190 : f ≤ 190) : wpOp Tryz.prog kops Q 107 (RAt c ksk 65 kops f (listed.setIfInBounds 107 true)) a w :=
  st_load3 h hi rfl rfl 93 rfl (by decide) ⟨rfl, by decide, by decide, by decide⟩ rfl
set_option maxRecDepth 100000 in
theorem kst108 (h : RInv c ksk 65 kops (f + 1) listed bm a w) (hi : 108 ∈ Region.ready .any kops listed) (h190 : f ≤ 190) : wpOp Tryz.prog kops Q 108 (RAt c ksk 65 kops f (listed.setIfInBounds 108 true)) a w :=
  st_makeN h hi rfl rfl h190 _ 94 rfl (by decide) ⟨rfl, by decide, by decide, by decide⟩ rfl
set_option maxRecDepth 100000 in
theorem kst109 (h : RInv c ksk 65 kops (f + 1) listed bm a w) (hi : 109 ∈ Region.ready .any kops listed) (_h190 : f ≤ 190) : wpOp Tryz.prog kops Q 109 (RAt c ksk 65 kops f (listed.setIfInBounds 109 true)) a w :=
  st_load1 h hi rfl rfl 95 rfl (by decide) ⟨rfl, by decide, by decide, by decide⟩ rfl
set_option maxRecDepth 100000 in
theorem kst110 (h : RInv c ksk 65 kops (f + 1) listed bm a w) (hi : 110 ∈ Region.ready .any kops listed) (_h190 : f ≤ 190) : wpOp Tryz.prog kops Q 110 (RAt c ksk 65 kops f (listed.setIfInBounds 110 true)) a w :=
  st_insN h hi rfl rfl 94 8 _ rfl (by decide) rfl (filled_pred hi rfl 108 rfl rfl rfl) rfl (by decide)
set_option maxRecDepth 100000 in
theorem kst111 (h : RInv c ksk 65 kops (f + 1) listed bm a w) (hi : 111 ∈ Region.ready .any kops listed) (_h190 : f ≤ 190) : wpOp Tryz.prog kops Q 111 (RAt c ksk 65 kops f (listed.setIfInBounds 111 true)) a w :=
  st_move h hi rfl rfl 94 96 (.inl rfl) (by decide) ⟨rfl, by decide, by decide, by decide⟩ (filled_pred hi rfl 108 rfl rfl rfl) rfl
set_option maxRecDepth 100000 in
theorem kst112 (h : RInv c ksk 65 kops (f + 1) listed bm a w) (hi : 112 ∈ Region.ready .any kops listed) (_h190 : f ≤ 190) : wpOp Tryz.prog kops Q 112 (RAt c ksk 65 kops f (listed.setIfInBounds 112 true)) a w :=
  st_sl2 h hi rfl rfl 1 2 97 rfl (by decide) ⟨rfl, by decide, by decide, by decide⟩ rfl (by decide)
set_option maxRecDepth 100000 in
theorem kst113 (h : RInv c ksk 65 kops (f + 1) listed bm a w) (hi : 113 ∈ Region.ready .any kops listed) (_h190 : f ≤ 190) : wpOp Tryz.prog kops Q 113 (RAt c ksk 65 kops f (listed.setIfInBounds 113 true)) a w :=
  st_mk h hi rfl rfl 93 96 97 98 _ _ _ rfl (by decide) ⟨rfl, by decide, by decide, by decide⟩ rfl (filled_pred hi rfl 107 rfl rfl rfl) rfl (filled_pred hi rfl 111 rfl rfl rfl) rfl (filled_pred hi rfl 112 rfl rfl rfl) rfl
set_option maxRecDepth 100000 in
theorem kst114 (h : RInv c ksk 65 kops (f + 1) listed bm a w) (hi : 114 ∈ Region.ready .any kops listed) (_h190 : f ≤ 190) : wpOp Tryz.prog kops Q 114 (RAt c ksk 65 kops f (listed.setIfInBounds 114 true)) a w :=
  st_wc h hi rfl rfl 92 98 99 _ rfl (by decide) ⟨rfl, by decide, by decide, by decide⟩ rfl (filled_pred hi rfl 106 rfl rfl rfl) rfl (filled_pred hi rfl 113 rfl rfl rfl) rfl
set_option maxRecDepth 100000 in
theorem kst115 (h : RInv c ksk 65 kops (f + 1) listed bm a w) (hi : 115 ∈ Region.ready .any kops listed) (_h190 : f ≤ 190) : wpOp Tryz.prog kops Q 115 (RAt c ksk 65 kops f (listed.setIfInBounds 115 true)) a w :=
  st_insM h hi rfl rfl 15 16 _ rfl (by decide) rfl (filled_pred hi rfl 0 rfl rfl rfl) rfl (by decide) (by decide)
set_option maxRecDepth 100000 in
theorem kst116 (h : RInv c ksk 65 kops (f + 1) listed bm a w) (hi : 116 ∈ Region.ready .any kops listed) (_h190 : f ≤ 190) : wpOp Tryz.prog kops Q 116 (RAt c ksk 65 kops f (listed.setIfInBounds 116 true)) a w :=
  st_move h hi rfl rfl 4 100 (.inl rfl) (by decide) ⟨rfl, by decide, by decide, by decide⟩ (.inl (.inr (.inl rfl))) rfl
set_option maxRecDepth 100000 in
theorem kst117 (h : RInv c ksk 65 kops (f + 1) listed bm a w) (hi : 117 ∈ Region.ready .any kops listed) (_h190 : f ≤ 190) : wpOp Tryz.prog kops Q 117 (RAt c ksk 65 kops f (listed.setIfInBounds 117 true)) a w :=
  st_am h hi rfl rfl 100 101 _ _ rfl (by decide) ⟨rfl, by decide, by decide, by decide⟩ rfl (filled_pred hi rfl 116 rfl rfl rfl) rfl
set_option maxRecDepth 100000 in
theorem kst118 (h : RInv c ksk 65 kops (f + 1) listed bm a w) (hi : 118 ∈ Region.ready .any kops listed) (_h190 : f ≤ 190) : wpOp Tryz.prog kops Q 118 (RAt c ksk 65 kops f (listed.setIfInBounds 118 true)) a w :=
  st_insM h hi rfl rfl 15 17 _ rfl (by decide) rfl (filled_pred hi rfl 0 rfl rfl rfl) rfl (by decide) (by decide)
set_option maxRecDepth 100000 in
theorem kst119 (h : RInv c ksk 65 kops (f + 1) listed bm a w) (hi : 119 ∈ Region.ready .any kops listed) (_h190 : f ≤ 190) : wpOp Tryz.prog kops Q 119 (RAt c ksk 65 kops f (listed.setIfInBounds 119 true)) a w :=
  st_move h hi rfl rfl 4 102 (.inl rfl) (by decide) ⟨rfl, by decide, by decide, by decide⟩ (.inl (.inr (.inl rfl))) rfl
set_option maxRecDepth 100000 in
theorem kst120 (h : RInv c ksk 65 kops (f + 1) listed bm a w) (hi : 120 ∈ Region.ready .any kops listed) (_h190 : f ≤ 190) : wpOp Tryz.prog kops Q 120 (RAt c ksk 65 kops f (listed.setIfInBounds 120 true)) a w :=
  st_am h hi rfl rfl 102 103 _ _ rfl (by decide) ⟨rfl, by decide, by decide, by decide⟩ rfl (filled_pred hi rfl 119 rfl rfl rfl) rfl
set_option maxRecDepth 100000 in
theorem kst121 (h : RInv c ksk 65 kops (f + 1) listed bm a w) (hi : 121 ∈ Region.ready .any kops listed) (_h190 : f ≤ 190) : wpOp Tryz.prog kops Q 121 (RAt c ksk 65 kops f (listed.setIfInBounds 121 true)) a w :=
  st_insM h hi rfl rfl 15 18 _ rfl (by decide) rfl (filled_pred hi rfl 0 rfl rfl rfl) rfl (by decide) (by decide)
set_option maxRecDepth 100000 in
theorem kst122 (h : RInv c ksk 65 kops (f + 1) listed bm a w) (hi : 122 ∈ Region.ready .any kops listed) (_h190 : f ≤ 190) : wpOp Tryz.prog kops Q 122 (RAt c ksk 65 kops f (listed.setIfInBounds 122 true)) a w :=
  st_move h hi rfl rfl 15 104 (.inl rfl) (by decide) ⟨rfl, by decide, by decide, by decide⟩ (filled_pred hi rfl 0 rfl rfl rfl) rfl
set_option maxRecDepth 100000 in
theorem kst123 (h : RInv c ksk 65 kops (f + 1) listed bm a w) (hi : 123 ∈ Region.ready .any kops listed) (_h190 : f ≤ 190) : wpOp Tryz.prog kops Q 123 (RAt c ksk 65 kops f (listed.setIfInBounds 123 true)) a w :=
  st_move h hi rfl rfl 104 0 (.inr rfl) (by decide) ⟨rfl, by decide, by decide, by decide⟩ (filled_pred hi rfl 122 rfl rfl rfl) rfl
set_option maxRecDepth 100000 in
theorem kstAll : ∀ i, i < 124 → RInv c ksk 65 kops (f + 1) listed bm a w → i ∈ Region.ready .any kops listed → f ≤ 190 → wpOp Tryz.prog kops Q i (RAt c ksk 65 kops f (listed.setIfInBounds i true)) a w
  | 0, _, h, hi, h190 => kst0 h hi h190
  | 1, _, h, hi, h190 => kst1 h hi h190
  | 2, _, h, hi, h190 => kst2 h hi h190
  | 3, _, h, hi, h190 => kst3 h hi h190
  | 4, _, h, hi, h190 => kst4 h hi h190
  | 5, _, h, hi, h190 => kst5 h hi h190
  | 6, _, h, hi, h190 => kst6 h hi h190
  | 7, _, h, hi, h190 => kst7 h hi h190
  | 8, _, h, hi, h190 => kst8 h hi h190
  | 9, _, h, hi, h190 => kst9 h hi h190
  | 10, _, h, hi, h190 => kst10 h hi h190
  | 11, _, h, hi, h190 => kst11 h hi h190
  | 12, _, h, hi, h190 => kst12 h hi h190
  | 13, _, h, hi, h190 => kst13 h hi h190
  | 14, _, h, hi, h190 => kst14 h hi h190
  | 15, _, h, hi, h190 => kst15 h hi h190
  | 16, _, h, hi, h190 => kst16 h hi h190
  | 17, _, h, hi, h190 => kst17 h hi h190
  | 18, _, h, hi, h190 => kst18 h hi h190
  | 19, _, h, hi, h190 => kst19 h hi h190
  | 20, _, h, hi, h190 => kst20 h hi h190
  | 21, _, h, hi, h190 => kst21 h hi h190
  | 22, _, h, hi, h190 => kst22 h hi h190
  | 23, _, h, hi, h190 => kst23 h hi h190
  | 24, _, h, hi, h190 => kst24 h hi h190
  | 25, _, h, hi, h190 => kst25 h hi h190
  | 26, _, h, hi, h190 => kst26 h hi h190
  | 27, _, h, hi, h190 => kst27 h hi h190
  | 28, _, h, hi, h190 => kst28 h hi h190
  | 29, _, h, hi, h190 => kst29 h hi h190
  | 30, _, h, hi, h190 => kst30 h hi h190
  | 31, _, h, hi, h190 => kst31 h hi h190
  | 32, _, h, hi, h190 => kst32 h hi h190
  | 33, _, h, hi, h190 => kst33 h hi h190
  | 34, _, h, hi, h190 => kst34 h hi h190
  | 35, _, h, hi, h190 => kst35 h hi h190
  | 36, _, h, hi, h190 => kst36 h hi h190
  | 37, _, h, hi, h190 => kst37 h hi h190
  | 38, _, h, hi, h190 => kst38 h hi h190
  | 39, _, h, hi, h190 => kst39 h hi h190
  | 40, _, h, hi, h190 => kst40 h hi h190
  | 41, _, h, hi, h190 => kst41 h hi h190
  | 42, _, h, hi, h190 => kst42 h hi h190
  | 43, _, h, hi, h190 => kst43 h hi h190
  | 44, _, h, hi, h190 => kst44 h hi h190
  | 45, _, h, hi, h190 => kst45 h hi h190
  | 46, _, h, hi, h190 => kst46 h hi h190
  | 47, _, h, hi, h190 => kst47 h hi h190
  | 48, _, h, hi, h190 => kst48 h hi h190
  | 49, _, h, hi, h190 => kst49 h hi h190
  | 50, _, h, hi, h190 => kst50 h hi h190
  | 51, _, h, hi, h190 => kst51 h hi h190
  | 52, _, h, hi, h190 => kst52 h hi h190
  | 53, _, h, hi, h190 => kst53 h hi h190
  | 54, _, h, hi, h190 => kst54 h hi h190
  | 55, _, h, hi, h190 => kst55 h hi h190
  | 56, _, h, hi, h190 => kst56 h hi h190
  | 57, _, h, hi, h190 => kst57 h hi h190
  | 58, _, h, hi, h190 => kst58 h hi h190
  | 59, _, h, hi, h190 => kst59 h hi h190
  | 60, _, h, hi, h190 => kst60 h hi h190
  | 61, _, h, hi, h190 => kst61 h hi h190
  | 62, _, h, hi, h190 => kst62 h hi h190
  | 63, _, h, hi, h190 => kst63 h hi h190
  | 64, _, h, hi, h190 => kst64 h hi h190
  | 65, _, h, hi, h190 => kst65 h hi h190
  | 66, _, h, hi, h190 => kst66 h hi h190
  | 67, _, h, hi, h190 => kst67 h hi h190
  | 68, _, h, hi, h190 => kst68 h hi h190
  | 69, _, h, hi, h190 => kst69 h hi h190
  | 70, _, h, hi, h190 => kst70 h hi h190
  | 71, _, h, hi, h190 => kst71 h hi h190
  | 72, _, h, hi, h190 => kst72 h hi h190
  | 73, _, h, hi, h190 => kst73 h hi h190
  | 74, _, h, hi, h190 => kst74 h hi h190
  | 75, _, h, hi, h190 => kst75 h hi h190
  | 76, _, h, hi, h190 => kst76 h hi h190
  | 77, _, h, hi, h190 => kst77 h hi h190
  | 78, _, h, hi, h190 => kst78 h hi h190
  | 79, _, h, hi, h190 => kst79 h hi h190
  | 80, _, h, hi, h190 => kst80 h hi h190
  | 81, _, h, hi, h190 => kst81 h hi h190
  | 82, _, h, hi, h190 => kst82 h hi h190
  | 83, _, h, hi, h190 => kst83 h hi h190
  | 84, _, h, hi, h190 => kst84 h hi h190
  | 85, _, h, hi, h190 => kst85 h hi h190
  | 86, _, h, hi, h190 => kst86 h hi h190
  | 87, _, h, hi, h190 => kst87 h hi h190
  | 88, _, h, hi, h190 => kst88 h hi h190
  | 89, _, h, hi, h190 => kst89 h hi h190
  | 90, _, h, hi, h190 => kst90 h hi h190
  | 91, _, h, hi, h190 => kst91 h hi h190
  | 92, _, h, hi, h190 => kst92 h hi h190
  | 93, _, h, hi, h190 => kst93 h hi h190
  | 94, _, h, hi, h190 => kst94 h hi h190
  | 95, _, h, hi, h190 => kst95 h hi h190
  | 96, _, h, hi, h190 => kst96 h hi h190
  | 97, _, h, hi, h190 => kst97 h hi h190
  | 98, _, h, hi, h190 => kst98 h hi h190
  | 99, _, h, hi, h190 => kst99 h hi h190
  | 100, _, h, hi, h190 => kst100 h hi h190
  | 101, _, h, hi, h190 => kst101 h hi h190
  | 102, _, h, hi, h190 => kst102 h hi h190
  | 103, _, h, hi, h190 => kst103 h hi h190
  | 104, _, h, hi, h190 => kst104 h hi h190
  | 105, _, h, hi, h190 => kst105 h hi h190
  | 106, _, h, hi, h190 => kst106 h hi h190
  | 107, _, h, hi, h190 => kst107 h hi h190
  | 108, _, h, hi, h190 => kst108 h hi h190
  | 109, _, h, hi, h190 => kst109 h hi h190
  | 110, _, h, hi, h190 => kst110 h hi h190
  | 111, _, h, hi, h190 => kst111 h hi h190
  | 112, _, h, hi, h190 => kst112 h hi h190
  | 113, _, h, hi, h190 => kst113 h hi h190
  | 114, _, h, hi, h190 => kst114 h hi h190
  | 115, _, h, hi, h190 => kst115 h hi h190
  | 116, _, h, hi, h190 => kst116 h hi h190
  | 117, _, h, hi, h190 => kst117 h hi h190
  | 118, _, h, hi, h190 => kst118 h hi h190
  | 119, _, h, hi, h190 => kst119 h hi h190
  | 120, _, h, hi, h190 => kst120 h hi h190
  | 121, _, h, hi, h190 => kst121 h hi h190
  | 122, _, h, hi, h190 => kst122 h hi h190
  | 123, _, h, hi, h190 => kst123 h hi h190
  | n + 124, hn, _, _, _ => absurd hn (by omega)
end
end Go.Proofs.YthgpheopnhajaaaGreatDoor

/- The walk over the descriptions of the kinds of facts. -/
namespace Go.Proofs.YthgpheopnhajaaaGreatDoor
open Go.RowKit
open Go.Maps (Keyed)
attribute [local go_sem] size_bs toList_bs
def KindsEnds (w : World) (e : Ending) (w' : World) : Prop := ∃ b n D, e = .returned (.map (some b)) ∧ MapAt w' b n D ∧ Maps.has D (.int .i64 10) = true ∧ (∀ z, D.atKey (.int .i64 10) z = .held exK) ∧ Ext w w'
def HaltAt (p : Prop) : Prop := p
theorem halt_in {p : Prop} (h : HaltAt p) : p := h
theorem halt_out {p : Prop} (h : p) : HaltAt p := h
theorem M_ex {W : World} {b n : Nat} {D : DataW Value} {k : Lit} {v : DataW Value} (h : MapAt W b n (D.put k v)) : ∃ d, MapAt W b n (D.put k d) := ⟨_, h⟩
set_option maxRecDepth 100000 in
set_option maxHeartbeats 8000000 in
theorem kindsAll (w : World) : Calls Tryz.prog 89 #[] w (KindsEnds w) := by
  have hmm := @run_makeMap Tryz.prog
  go_enter Tryz.func89, Tryz.ntmps89
  go_wp2_with fail
  refine (fkBetween true false _).mono ?_
  rintro e w1 ⟨rfl, _, _, hx1⟩
  have HX := Lib.hid hx1
  clear hx1
  go_wp2_with fail
  refine (fkBetween false false _).mono ?_
  rintro e w2 ⟨rfl, _, _, hx1⟩
  replace HX := Lib.hid (HX.out.trans hx1)
  clear hx1
  have B1 := Lib.hid ((Blk.new w2 LT2 #[limV w.heap.size (w.heap.size + 1)]).alloc (.cells #[makerV] FT))
  have B3 := Lib.hid (Blk.newAt (w2.alloc (.cells #[limV w.heap.size (w.heap.size + 1)] LT2)) FT #[makerV] (w2.heap.size + 1) (by simp))
  replace HX := Lib.hid ((HX.out.alloc (.cells #[limV w.heap.size (w.heap.size + 1)] LT2)).alloc (.cells #[makerV] FT))
  go_upto_region 5 with fail
  generalize hW5 : (w2.alloc (.cells #[limV w.heap.size (w.heap.size + 1)] LT2)).alloc (.cells #[makerV] FT) = W5 at *
  clear hW5
  generalize limV w.heap.size (w.heap.size + 1) = lvP at *
  generalize limV w1.heap.size (w1.heap.size + 1) = lvL at *
  generalize w2.heap.size = G at *
  have M : MapAt (W5.alloc (.map #[] 0)) W5.heap.size 0 (.map []) := World.ownsMap_made _ _ _ _
  have hxw : Ext W5 (W5.alloc (.map #[] 0)) := Ext.new _ _
  have K := keyOK_nil
  have q1 := (B1.out.ext hxw).cell 0
  simp only [List.getElem?_toArray, List.getElem?_cons_zero] at q1
  go_wp2_with (first | (refine wpList_insert_own _ rfl _ _ _ 142 rfl 3 204 keyInt Tryz.underlying142 RK W5.heap.size (0) _ rfl M (by unfold maxLen; omega) (.int .i64 4) _ _ rfl rfl (keyMk 4 (by decide)) _ [] rfl ?_; intro u1 M1 hg; refine halt_in ?_) | fail)
  refine halt_out ?_
  obtain ⟨d1, M2⟩ := M_ex M1
  replace K := keyOK_put K 4 (by decide) d1
  replace hxw := hxw.only hg (Nat.le_refl _)
  clear hg M M1
  have M := M2
  clear M2
  go_wp2_with (first | (refine wpList_insert_own _ rfl _ _ _ 142 rfl 3 204 keyInt Tryz.underlying142 RK W5.heap.size (0 + 1) _ rfl M (by unfold maxLen; omega) (.int .i64 5) _ _ rfl rfl (keyMk 5 (by decide)) _ [] rfl ?_; intro u2 M1 hg; refine halt_in ?_) | fail)
  refine halt_out ?_
  obtain ⟨d2, M2⟩ := M_ex M1
  replace K := keyOK_put K 5 (by decide) d2
  replace hxw := hxw.only hg (Nat.le_refl _)
  clear hg M M1
  have M := M2
  clear M2
  go_wp2_with (first | (refine wpList_insert_own _ rfl _ _ _ 142 rfl 3 204 keyInt Tryz.underlying142 RK W5.heap.size (0 + 1 + 1) _ rfl M (by unfold maxLen; omega) (.int .i64 6) _ _ rfl rfl (keyMk 6 (by decide)) _ [] rfl ?_; intro u3 M1 hg; refine halt_in ?_) | fail)
  refine halt_out ?_
  obtain ⟨d3, M2⟩ := M_ex M1
  replace K := keyOK_put K 6 (by decide) d3
  replace hxw := hxw.only hg (Nat.le_refl _)
  clear hg M M1
  have M := M2
  clear M2
  clear q1
  have HM := Lib.hid M
  have HK := Lib.hid K
  have hle : Hid (w.heap.size ≤ W5.heap.size) := Lib.hid HX.out.size
  replace HX := Lib.hid (HX.out.trans hxw)
  replace B1 := Lib.hid (B1.out.ext hxw)
  replace B3 := Lib.hid (B3.out.ext hxw)
  clear M K hxw hmm
  go_wp2_with fail
  generalize W5.heap.size = Bt at *
  refine wp_region_any (by kernel_rfl) ?_
  show wpAny Tryz.prog .any kops _ kops.size (Array.replicate kops.size false) _ _
  have hsz : kops.size = 124 := by kernel_rfl
  have hacc : ((List.range kops.size).all fun i => match kops[i]? with | some o => o.after.toList.all (fun e => decide (e.on < i)) | none => true) = true := by kernel_rfl
  refine wpAny_inv (Inv := fun f listed a w' => f ≤ 190 ∧ RAt ⟨w, G, G + 1, lvP⟩ ksk 65 kops f listed a w') ?_ ?_ ?_ _ _ _ _ ⟨by rw [hsz]; omega, none, ?_⟩
  · rintro f listed a w' ⟨hf, bm, h⟩ hr
    have hall := ready_all hacc hr h.size
    have f0 := h.fits 0 (.inr ⟨123, _, rfl, hall 123 (by omega), rfl⟩)
    obtain ⟨b, e0, eb⟩ := f0
    obtain ⟨h1, n, D, h3, h4, h5⟩ := h.main b eb
    obtain ⟨t1, t2⟩ := h5 (hall 65 (by omega))
    have hx := h.ext
    have hd := h.dfr
    clear hall h hr hacc HX HM HK B1 B3 hle
    unfold Exit.then
    dsimp only
    go_wp2_with fail
    have e0 : a.tmps.getD 0 undef = .map (some b) := e0
    refine bodyPost_ret (v := .map (some b)) ?_ hd ⟨b, n, D, rfl, h3, t1, t2, hx⟩
    have hres : Tryz.f89.results = #[.tmp 0] := rfl
    unfold results
    rw [hres]
    simp only [List.mapM_toArray, List.mapM_cons, List.mapM_nil, e0]
    go_simp
  · rintro listed a w' ⟨_, bm, h⟩
    exact ready_nil (by have := h.cnt; omega) h.size
  · rintro f listed a w' i ⟨hf, bm, h⟩ hi
    exact wpOp_mono (fun _ _ h => ⟨by omega, h⟩) (kstAll i (by have := ready_lt hi; omega) h hi (by omega))
  · refine ⟨by rw [Array.size_replicate], ?_, HX.out.drew, rfl, rfl, rfl, rfl, B1.out.drew, B3.out.drew, ?_, (fun b e => by cases e), fun _ => rfl, ?_⟩
    · rw [Array.toList_replicate, List.count_replicate_self]; exact Nat.le_refl _
    · rintro d (hd | ⟨i, o, ho, hl, hd⟩)
      · rcases hd with rfl | rfl | rfl | rfl
        · trivial
        · rfl
        · rfl
        · exact ⟨Bt, rfl, hle.out, by simp, _, _, HM.out.ext (Ext.refl _).drew, by rw [hsz]; omega, HK.out⟩
      · rw [Array.getD_eq_getD_getElem?, Array.getElem?_replicate] at hl
        split at hl <;> cases hl
    · intro hl
      rw [Array.getD_eq_getD_getElem?, Array.getElem?_replicate] at hl
      split at hl <;> cases hl
end Go.Proofs.YthgpheopnhajaaaGreatDoor

/- Exchanges as facts: names, empty fields, values. -/
namespace Go.Proofs.YthgpheopnhajaaaGreatDoor
open Go.RowKit
attribute [local go_sem] size_bs toList_bs
/-- an exchange as a fact -/
abbrev xc (key : Bs) (day : Int) (ins : Bs) (A : Option Addr) (n c : Nat) : Array Value :=
  #[.string (bs key), .int .i64 0, .bool false, .int .i64 day, .int .i64 10, .string (bs ins), .string ⟨#[]⟩, .string ⟨#[]⟩, .string ⟨#[]⟩, .string ⟨#[]⟩, .string ⟨#[]⟩, .string ⟨#[]⟩, .string ⟨#[]⟩, .string ⟨#[]⟩, .string ⟨#[]⟩, .string ⟨#[]⟩, .string ⟨#[]⟩, .string ⟨#[]⟩, .slice none 0 0, .slice A n c, .int .i64 0]
abbrev xv (key : Bs) (day : Int) (ins : Bs) (A : Option Addr) (n c : Nat) : Value := .agg (xc key day ins A n c)
theorem xBlk {w w' : World} {g : Nat} {key ins : Bs} {day : Int} {A : Option Addr} {n c : Nat} (h : Blk w g 30 (xc key day ins A n c)) (hx : Ext w w') :
    w'.cell? ⟨g, 0, none⟩ = some (.string (bs key)) ∧ w'.cell? ⟨g, 1, none⟩ = some (.int .i64 0) ∧ w'.cell? ⟨g, 2, none⟩ = some (.bool false) ∧ w'.cell? ⟨g, 3, none⟩ = some (.int .i64 day) ∧ w'.cell? ⟨g, 4, none⟩ = some (.int .i64 10) ∧ w'.cell? ⟨g, 5, none⟩ = some (.string (bs ins)) ∧
    w'.cell? ⟨g, 6, none⟩ = some (.string ⟨#[]⟩) ∧ w'.cell? ⟨g, 7, none⟩ = some (.string ⟨#[]⟩) ∧ w'.cell? ⟨g, 8, none⟩ = some (.string ⟨#[]⟩) ∧ w'.cell? ⟨g, 9, none⟩ = some (.string ⟨#[]⟩) ∧ w'.cell? ⟨g, 10, none⟩ = some (.string ⟨#[]⟩) ∧ w'.cell? ⟨g, 11, none⟩ = some (.string ⟨#[]⟩) ∧
    w'.cell? ⟨g, 12, none⟩ = some (.string ⟨#[]⟩) ∧ w'.cell? ⟨g, 13, none⟩ = some (.string ⟨#[]⟩) ∧ w'.cell? ⟨g, 14, none⟩ = some (.string ⟨#[]⟩) ∧ w'.cell? ⟨g, 15, none⟩ = some (.string ⟨#[]⟩) ∧ w'.cell? ⟨g, 16, none⟩ = some (.string ⟨#[]⟩) ∧ w'.cell? ⟨g, 17, none⟩ = some (.string ⟨#[]⟩) ∧
    w'.cell? ⟨g, 18, none⟩ = some (.slice none 0 0) ∧ w'.cell? ⟨g, 19, none⟩ = some (.slice A n c) ∧ w'.cell? ⟨g, 20, none⟩ = some (.int .i64 0) := by
  have k := h.ext hx
  exact ⟨k.cell 0, k.cell 1, k.cell 2, k.cell 3, k.cell 4, k.cell 5, k.cell 6, k.cell 7, k.cell 8, k.cell 9, k.cell 10, k.cell 11, k.cell 12, k.cell 13, k.cell 14, k.cell 15, k.cell 16, k.cell 17, k.cell 18, k.cell 19, k.cell 20⟩
set_option maxRecDepth 100000 in
theorem fkName (s : Bs) (w : World) (hs : s.length ≤ 9000) (h : isName s = true) : Calls Tryz.prog 154 #[.string (bs s)] w fun e w' => e = .returned (.int .i64 0) ∧ Ext w w' := by
  have HN := Lib.hid (insName s w (by omega))
  rw [h] at HN
  go_enter Tryz.func154, Tryz.ntmps154
  go_wp2_with fail
  refine HN.out.mono ?_
  rintro e v0 ⟨rfl, hx1⟩
  have HX := Lib.hid hx1
  clear hx1
  go_wp2_with fail
  go_ret
  exact ⟨rfl, HX.out⟩
set_option maxRecDepth 100000 in
theorem fkWhole (w : World) : Calls Tryz.prog 221 #[.string ⟨#[]⟩] w fun e w' => e = .returned (.agg #[.string ⟨#[]⟩, .string ⟨#[]⟩]) ∧ Ext w w' := by
  have HB := Lib.hid (Blk.new w 26 #[.string ⟨#[]⟩, .string ⟨#[]⟩])
  have HX : Hid (Ext w (w.alloc (.cells #[.string ⟨#[]⟩, .string ⟨#[]⟩] 26))) := Lib.hid (Ext.new _ _)
  go_enter Tryz.func221, Tryz.ntmps221
  obtain ⟨c0, c1, d0, d1⟩ := frBlk HB.out (Ext.refl _)
  go_wp2_with fail
  refine bodyPost_ret (results_fr rfl _ _ w.heap.size (.string ⟨#[]⟩) (.string ⟨#[]⟩) rfl HB.out) rfl ?_
  exact ⟨rfl, HX.out⟩
section
variable (key : Bs) (day : Int) (ins : Bs) (A : Option Addr) (n c : Nat) (w : World)
set_option maxRecDepth 100000 in
set_option maxHeartbeats 4000000 in
theorem fkEmpty1 : Calls Tryz.prog 91 #[xv key day ins A n c, .int .i64 1] w fun e w' => e = .returned (.bool true) ∧ Ext w w' := by
  have HB := Lib.hid (Blk.new w 30 (xc key day ins A n c))
  have HX : Hid (Ext w (w.alloc (.cells (xc key day ins A n c) 30))) := Lib.hid (Ext.new _ _)
  go_enter Tryz.func91, Tryz.ntmps91
  obtain ⟨x0, x1, x2, x3, x4, x5, x6, x7, x8, x9, x10, x11, x12, x13, x14, x15, x16, x17, x18, x19, x20⟩ := xBlk HB.out (Ext.refl _)
  go_wp2_with fail
  go_ret
  exact ⟨rfl, HX.out⟩
set_option maxRecDepth 100000 in
set_option maxHeartbeats 4000000 in
theorem fkEmpty2 : Calls Tryz.prog 91 #[xv key day ins A n c, .int .i64 2] w fun e w' => e = .returned (.bool true) ∧ Ext w w' := by
  have HB := Lib.hid (Blk.new w 30 (xc key day ins A n c))
  have HX : Hid (Ext w (w.alloc (.cells (xc key day ins A n c) 30))) := Lib.hid (Ext.new _ _)
  go_enter Tryz.func91, Tryz.ntmps91
  obtain ⟨x0, x1, x2, x3, x4, x5, x6, x7, x8, x9, x10, x11, x12, x13, x14, x15, x16, x17, x18, x19, x20⟩ := xBlk HB.out (Ext.refl _)
  go_wp2_with fail
  go_ret
  exact ⟨rfl, HX.out⟩
set_option maxRecDepth 100000 in
set_option maxHeartbeats 4000000 in
theorem fkEmpty3 : Calls Tryz.prog 91 #[xv key day ins A n c, .int .i64 3] w fun e w' => e = .returned (.bool true) ∧ Ext w w' := by
  have HB := Lib.hid (Blk.new w 30 (xc key day ins A n c))
  have HX : Hid (Ext w (w.alloc (.cells (xc key day ins A n c) 30))) := Lib.hid (Ext.new _ _)
  go_enter Tryz.func91, Tryz.ntmps91
  obtain ⟨x0, x1, x2, x3, x4, x5, x6, x7, x8, x9, x10, x11, x12, x13, x14, x15, x16, x17, x18, x19, x20⟩ := xBlk HB.out (Ext.refl _)
  go_wp2_with fail
  go_ret
  exact ⟨rfl, HX.out⟩
set_option maxRecDepth 100000 in
set_option maxHeartbeats 4000000 in
theorem fkEmpty10 : Calls Tryz.prog 91 #[xv key day ins A n c, .int .i64 10] w fun e w' => e = .returned (.bool true) ∧ Ext w w' := by
  have HB := Lib.hid (Blk.new w 30 (xc key day ins A n c))
  have HX : Hid (Ext w (w.alloc (.cells (xc key day ins A n c) 30))) := Lib.hid (Ext.new _ _)
  go_enter Tryz.func91, Tryz.ntmps91
  obtain ⟨x0, x1, x2, x3, x4, x5, x6, x7, x8, x9, x10, x11, x12, x13, x14, x15, x16, x17, x18, x19, x20⟩ := xBlk HB.out (Ext.refl _)
  go_wp2_with fail
  go_ret
  exact ⟨rfl, HX.out⟩
set_option maxRecDepth 100000 in
set_option maxHeartbeats 4000000 in
theorem fkEmpty12 : Calls Tryz.prog 91 #[xv key day ins A n c, .int .i64 12] w fun e w' => e = .returned (.bool true) ∧ Ext w w' := by
  have HB := Lib.hid (Blk.new w 30 (xc key day ins A n c))
  have HX : Hid (Ext w (w.alloc (.cells (xc key day ins A n c) 30))) := Lib.hid (Ext.new _ _)
  go_enter Tryz.func91, Tryz.ntmps91
  obtain ⟨x0, x1, x2, x3, x4, x5, x6, x7, x8, x9, x10, x11, x12, x13, x14, x15, x16, x17, x18, x19, x20⟩ := xBlk HB.out (Ext.refl _)
  go_wp2_with fail
  go_ret
  exact ⟨rfl, HX.out⟩
end
end Go.Proofs.YthgpheopnhajaaaGreatDoor
