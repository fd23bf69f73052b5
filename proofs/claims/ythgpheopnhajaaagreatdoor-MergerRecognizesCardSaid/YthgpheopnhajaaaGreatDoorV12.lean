/- The seat's texts, part 12. -/
import Derived.Test.YthgpheopnhajaaaGreatDoorV11
import Derived.BigQuiet
import Derived.Deep.RegionLaw
import Derived.Deep.AppendLies
import Derived.Shelf.Spec.SlicesInsertGrow
import Derived.IntWalk
import Derived.OwnWalkIn

/- A region that draws its order: what fits each slot, whatever the order. -/
namespace Go.Proofs.YthgpheopnhajaaaGreatDoor
open Go.RowKit Go.Shelf
section
variable {P : Program} {ops : Array Oper} {Q : Exit → Act → World → Prop}
def upd (val : Nat → Value) (d : Nat) (v : Value) : Nat → Value := fun s => if s = d then v else val s
/-- what the slots hold fits; M: what is told besides -/
structure FtInv (ops : Array Oper) (base : Array Value) (who : Nat → Option Nat) (Fit : Nat → Value → World → Prop) (M : Array Bool → (Nat → Value) → World → Prop) (f : Nat) (listed : Array Bool) (val : Nat → Value) (a : Act) (w : World) : Prop where
  size : listed.size = ops.size
  cnt : listed.toList.count false ≤ f
  act : a = actOf base who val listed
  fit : ∀ s i, s < base.size → who s = some i → listed.getD i false = true → Fit s (val s) w
  m : M listed val w
def FtAt (ops : Array Oper) (base : Array Value) (who : Nat → Option Nat) (Fit : Nat → Value → World → Prop) (M : Array Bool → (Nat → Value) → World → Prop) (f : Nat) (listed : Array Bool) (a : Act) (w : World) : Prop := ∃ val, FtInv ops base who Fit M f listed val a w
variable {base : Array Value} {who : Nat → Option Nat} {Fit : Nat → Value → World → Prop} {M : Array Bool → (Nat → Value) → World → Prop} {f i d : Nat} {w : World} {listed : Array Bool} {val : Nat → Value} {a : Act} {o : Oper}
theorem actOf_congr {val' : Nat → Value} (h : ∀ s i, s < base.size → who s = some i → listed.getD i false = true → val s = val' s) : actOf base who val listed = actOf base who val' listed := by
  have key : (actOf base who val listed).tmps = (actOf base who val' listed).tmps := by
    unfold actOf
    dsimp only
    apply Array.ext
    · simp
    · intro s h1 h2
      have hs : s < base.size := by simpa using h2
      rw [Array.getElem_ofFn, Array.getElem_ofFn]
      dsimp only
      cases hq : who s with
      | none => rfl
      | some j =>
        dsimp only
        by_cases e : listed.getD j false = true
        · rw [if_pos e, if_pos e, h s j hs hq e]
        · rw [if_neg e, if_neg e]
  show ({ tmps := (actOf base who val listed).tmps, defers := [] } : Act) = _
  rw [key]
  rfl
theorem FtInv.at_ (h : FtInv ops base who Fit M f listed val a w) {s i : Nat} (hs : s < base.size) (hw : who s = some i) (hl : listed.getD i false = true) : a.tmps.getD s undef = val s ∧ Fit s (val s) w := by
  refine ⟨?_, h.fit s i hs hw hl⟩
  rw [h.act]
  exact actOf_val hs hw hl
theorem FtInv.old (h : FtInv ops base who Fit M f listed val a w) {s : Nat} (hs : s < base.size) (hw : who s = none) : a.tmps.getD s undef = base.getD s undef := by
  rw [h.act]
  exact actOf_base hs hw
theorem FtInv.step (h : FtInv ops base who Fit M (f + 1) listed val a w) (hi : i ∈ Region.ready .any ops listed) (hdst : o.dst = some d) (hd : d < base.size) (hw : who d = some i) (hinj : ∀ s, who s = some i → s = d) (v : Value) (w' : World)
    (hv : Fit d v w') (hkeep : ∀ s u, Fit s u w → Fit s u w') (hm : M (listed.setIfInBounds i true) (upd val d v) w') : FtAt ops base who Fit M f (listed.setIfInBounds i true) (a.put o.dst v) w' := by
  have hlt := ready_lt hi
  have hs := h.size
  have hc := count_set (ready_not hi)
  have hcn := h.cnt
  have hnot : listed.getD i false = false := by
    have := ready_not hi
    rw [Array.getD_eq_getD_getElem?] at this ⊢
    rw [Array.getElem?_eq_getElem (by omega)] at this ⊢
    exact this
  refine ⟨upd val d v, by rw [Array.size_setIfInBounds]; exact hs, by omega, ?_, ?_, hm⟩
  · rw [hdst, h.act]
    have e1 : actOf base who val listed = actOf base who (upd val d v) listed := actOf_congr (fun s j hs hq hl => by
      unfold upd
      rw [if_neg]
      rintro rfl
      rw [hw] at hq
      cases hq
      rw [hnot] at hl; cases hl)
    rw [e1]
    have e2 : v = upd val d v d := by unfold upd; rw [if_pos rfl]
    have := actOf_put (base := base) (val := upd val d v) hw hinj (listed := listed) (by omega)
    rw [← e2] at this
    exact this
  · intro s j hsb hq hl
    unfold upd
    by_cases e : s = d
    · subst e; rw [if_pos rfl]; exact hv
    · rw [if_neg e]
      rcases listed_set hl with e1 | e1
      · subst e1; exact absurd (hinj s hq) e
      · exact hkeep _ _ (h.fit s j hsb hq e1)
theorem FtInv.stepN (h : FtInv ops base who Fit M (f + 1) listed val a w) (hi : i ∈ Region.ready .any ops listed) (hdst : o.dst = none) (hw : ∀ s, s < base.size → who s ≠ some i) (w' : World) (v : Value)
    (hkeep : ∀ s u, Fit s u w → Fit s u w') (hm : M (listed.setIfInBounds i true) val w') : FtAt ops base who Fit M f (listed.setIfInBounds i true) (a.put o.dst v) w' := by
  have hlt := ready_lt hi
  have hs := h.size
  have hc := count_set (ready_not hi)
  have hcn := h.cnt
  refine ⟨val, by rw [Array.size_setIfInBounds]; exact hs, by omega, ?_, ?_, hm⟩
  · rw [hdst, h.act]
    exact actOf_skip hw (by omega)
  · intro s j hsb hq hl
    rcases listed_set hl with e1 | e1
    · subst e1; exact absurd hq (hw s hsb)
    · exact hkeep _ _ (h.fit s j hsb hq e1)
theorem FtInv.start (hm : M (Array.replicate ops.size false) (fun _ => undef) w) : FtAt ops base who Fit M ops.size (Array.replicate ops.size false) { tmps := base, defers := [] } w := by
  have hf : ∀ i, (Array.replicate ops.size false).getD i false = false := fun i => by
    rw [Array.getD_eq_getD_getElem?, Array.getElem?_replicate]
    split <;> rfl
  refine ⟨_, by simp, by rw [Array.toList_replicate, List.count_replicate_self]; exact Nat.le_refl _, actOf_none.symm, ?_, hm⟩
  intro s i _ _ hl
  rw [hf i] at hl; cases hl
theorem FtInv.fin (h : FtInv ops base who Fit M f listed val a w) (hr : Region.ready .any ops listed = [])
    (hacc : ((List.range ops.size).all fun i => match ops[i]? with | some o => o.after.toList.all (fun e => decide (e.on < i)) | none => true) = true) :
    listed = Array.replicate ops.size true := all_true h.size (ready_all hacc hr h.size)
end
end Go.Proofs.YthgpheopnhajaaaGreatDoor

/- merger.shares: the old lots with what becomes of them. -/
namespace Go.Proofs.YthgpheopnhajaaaGreatDoor
open Go.RowKit Go.Shelf
attribute [local go_sem] size_bs toList_bs
set_option maxRecDepth 100000 in
theorem mgWt1 (x : LotV) (W : World) : Calls Tryz.prog 108 #[lv x] W fun e w' => e = .returned (.string (bs x.q)) ∧ Ext W w' := by
  have HX : Hid (Ext W (W.alloc (.cells (lc x) 71))) := Lib.hid (Ext.new _ _)
  go_enter Tryz.func108, Tryz.ntmps108
  go_wp2_with fail
  go_ret
  exact ⟨rfl, HX.out⟩
set_option maxRecDepth 100000 in
theorem mgWt2 (x : LotV) (W : World) : Calls Tryz.prog 110 #[lv x] W fun e w' => e = .returned (.string (bs x.c)) ∧ Ext W w' := by
  have HX : Hid (Ext W (W.alloc (.cells (lc x) 71))) := Lib.hid (Ext.new _ _)
  go_enter Tryz.func110, Tryz.ntmps110
  go_wp2_with fail
  go_ret
  exact ⟨rfl, HX.out⟩
def shWho (s : Nat) : Option Nat := if 13 ≤ s ∧ s ≤ 20 then some (s - 13) else if s = 10 then some 8 else if s = 11 then some 9 else none
theorem shWho_inj {s i : Nat} (h : shWho s = some i) : (i ≤ 7 ∧ s = i + 13) ∨ (i = 8 ∧ s = 10) ∨ (i = 9 ∧ s = 11) := by
  unfold shWho at h
  split at h
  · injection h with h; omega
  · split at h
    · injection h with h; omega
    · split at h
      · injection h with h; omega
      · cases h
structure ShFit (Wd : World) (A : Option Addr) (c : Nat) (t1 t2 : Bs) (ls : List LotV) (s : Nat) (v : Value) (w : World) : Prop where
  a13 : s = 13 → v = .string (bs t1)
  a17 : s = 17 → v = .string (bs t2)
  sl : s = 14 ∨ s = 18 → v = .slice A ls.length c
  fn : s = 15 ∨ s = 19 → v = .func (.func 108) #[] #[]
  a16 : s = 16 → ∃ P, v = .slice (some ⟨P, 0, none⟩) ls.length ls.length ∧ RowS w P ls.length (DivT (·.q) t1 ls)
  a20 : s = 20 → ∃ P, v = .slice (some ⟨P, 0, none⟩) ls.length ls.length ∧ RowS w P ls.length (DivT (·.q) t2 ls)
  bx : s = 10 ∨ s = 11 → ∃ g u, v = .pointer (some ⟨g, 0, none⟩) ∧ Wd.heap.size ≤ g ∧ Blk w g 106 #[u]
structure ShM (Wd : World) (listed : Array Bool) (val : Nat → Value) (w : World) : Prop where
  ext : Ext Wd w
  ne : listed.getD 8 false = true → listed.getD 9 false = true → val 10 ≠ val 11
  p10 : listed.getD 10 false = true → listed.getD 3 false = true ∧ listed.getD 8 false = true ∧ listed.getD 9 false = true
  p11 : listed.getD 11 false = true → listed.getD 7 false = true ∧ listed.getD 8 false = true ∧ listed.getD 9 false = true ∧ listed.getD 10 false = true
  s10 : listed.getD 10 false = true → ∃ g, val 10 = .pointer (some ⟨g, 0, none⟩) ∧ Blk w g 106 #[val 16]
  s11 : listed.getD 11 false = true → ∃ g, val 11 = .pointer (some ⟨g, 0, none⟩) ∧ Blk w g 106 #[val 20]
section
variable {Wd : World} {A : Option Addr} {c : Nat} {t1 t2 : Bs} {ls : List LotV} {w w' : World}
theorem ShFit.ext (hx : Ext w w') (s : Nat) (u : Value) (h : ShFit Wd A c t1 t2 ls s u w) : ShFit Wd A c t1 t2 ls s u w' :=
  ⟨h.a13, h.a17, h.sl, h.fn, fun e => by obtain ⟨P, h1, h2⟩ := h.a16 e; exact ⟨P, h1, h2.ext hx⟩, fun e => by obtain ⟨P, h1, h2⟩ := h.a20 e; exact ⟨P, h1, h2.ext hx⟩,
    fun e => by obtain ⟨g, u, h1, h2, h3⟩ := h.bx e; exact ⟨g, u, h1, h2, h3.ext hx⟩⟩
theorem rowS_ne {P g cap : Nat} {l : List Bs} {cs : Array Value} (h : RowS w P cap l) (hb : Blk w g 106 cs) : P ≠ g := by
  obtain ⟨cur, h⟩ := h
  exact blk_ne h.blk hb (by decide)
theorem ShFit.store {g : Nat} {cs : Array Value} (hb : Blk w g 106 cs) (v : Value) (s : Nat) (u : Value) (h : ShFit Wd A c t1 t2 ls s u w) : ShFit Wd A c t1 t2 ls s u (w.setCell ⟨g, 0, none⟩ v) :=
  ⟨h.a13, h.a17, h.sl, h.fn, fun e => by obtain ⟨P, h1, h2⟩ := h.a16 e; exact ⟨P, h1, h2.far (rowS_ne h2 hb) _ _⟩, fun e => by obtain ⟨P, h1, h2⟩ := h.a20 e; exact ⟨P, h1, h2.far (rowS_ne h2 hb) _ _⟩,
    fun e => by
      obtain ⟨g2, u2, h1, h2, h3⟩ := h.bx e
      by_cases e2 : g2 = g
      · subst e2; exact ⟨g2, v, h1, h2, h3.set_ 0 v⟩
      · exact ⟨g2, u2, h1, h2, h3.far (p := ⟨g, 0, none⟩) e2 _⟩⟩
variable {listed : Array Bool} {val : Nat → Value}
/-- a step that only grows the world and writes slot d by operation i -/
theorem ShM.grow (h : ShM Wd listed val w) (hx : Ext w w') {i d : Nat} (v : Value) (hi : listed.getD i true = false) (hw : shWho d = some i) (h8 : i ≠ 8) (h9 : i ≠ 9) : ShM Wd (listed.setIfInBounds i true) (upd val d v) w' := by
  have hn : listed.getD i false = false := by
    rw [Array.getD_eq_getD_getElem?] at hi ⊢
    cases e : listed[i]? with
    | none => rfl
    | some x => rw [e] at hi; exact hi
  have hin := shWho_inj hw
  have back : ∀ j, j ≠ i → (listed.setIfInBounds i true).getD j false = true → listed.getD j false = true := fun j hj hl => by
    rcases listed_set hl with e | e
    · exact absurd e hj
    · exact e
  have h10 : upd val d v 10 = val 10 := by unfold upd; rw [if_neg (by omega)]
  have h11 : upd val d v 11 = val 11 := by unfold upd; rw [if_neg (by omega)]
  refine ⟨h.ext.trans hx, fun a b => ?_, fun a => ?_, fun a => ?_, fun a => ?_, fun a => ?_⟩
  · rw [h10, h11]; exact h.ne (back 8 (by omega) a) (back 9 (by omega) b)
  · have := h.p10 (back 10 (by omega) a); exact ⟨up_listed this.1, up_listed this.2.1, up_listed this.2.2⟩
  · have := h.p11 (back 11 (by omega) a); exact ⟨up_listed this.1, up_listed this.2.1, up_listed this.2.2.1, up_listed this.2.2.2⟩
  · have a' := back 10 (by omega) a
    have hne : i ≠ 3 := by rintro rfl; rw [(h.p10 a').1] at hn; cases hn
    obtain ⟨g, e1, e2⟩ := h.s10 a'
    have h16 : upd val d v 16 = val 16 := by unfold upd; rw [if_neg (by omega)]
    exact ⟨g, by rw [h10]; exact e1, by rw [h16]; exact e2.ext hx⟩
  · have a' := back 11 (by omega) a
    have hne : i ≠ 7 := by rintro rfl; rw [(h.p11 a').1] at hn; cases hn
    obtain ⟨g, e1, e2⟩ := h.s11 a'
    have h20 : upd val d v 20 = val 20 := by unfold upd; rw [if_neg (by omega)]
    exact ⟨g, by rw [h11]; exact e1, by rw [h20]; exact e2.ext hx⟩
/-- an alloc: operation 8 or 9 -/
theorem ShM.newb (h : ShM Wd listed val w) {i d j e : Nat} {o : Obj} (hi : listed.getD i true = false) (hid : (i = 8 ∧ d = 10 ∧ j = 9 ∧ e = 11) ∨ (i = 9 ∧ d = 11 ∧ j = 8 ∧ e = 10))
    (hold : listed.getD j false = true → ∃ g, val e = .pointer (some ⟨g, 0, none⟩) ∧ g < w.heap.size) : ShM Wd (listed.setIfInBounds i true) (upd val d (.pointer (some ⟨w.heap.size, 0, none⟩))) (w.alloc o) := by
  have hn : listed.getD i false = false := by
    rw [Array.getD_eq_getD_getElem?] at hi ⊢
    cases e : listed[i]? with
    | none => rfl
    | some x => rw [e] at hi; exact hi
  have back : ∀ j, j ≠ i → (listed.setIfInBounds i true).getD j false = true → listed.getD j false = true := fun j hj hl => by
    rcases listed_set hl with e | e
    · exact absurd e hj
    · exact e
  have no10 : listed.getD 10 false = true → False := fun a => by
    have := h.p10 a
    rcases hid with ⟨rfl, _⟩ | ⟨rfl, _⟩
    · rw [this.2.1] at hn; cases hn
    · rw [this.2.2] at hn; cases hn
  have no11 : listed.getD 11 false = true → False := fun a => no10 (h.p11 a).2.2.2
  refine ⟨h.ext.alloc _, fun a b => ?_, fun a => (no10 (back 10 (by omega) a)).elim, fun a => (no11 (back 11 (by omega) a)).elim, fun a => (no10 (back 10 (by omega) a)).elim, fun a => (no11 (back 11 (by omega) a)).elim⟩
  rcases hid with ⟨rfl, rfl, rfl, rfl⟩ | ⟨rfl, rfl, rfl, rfl⟩
  · obtain ⟨g, e1, e2⟩ := hold (back 9 (by omega) b)
    unfold upd
    rw [if_pos rfl, if_neg (by decide), e1]
    intro hc
    injection hc with hc; injection hc with hc; injection hc with hc _ _; omega
  · obtain ⟨g, e1, e2⟩ := hold (back 8 (by omega) a)
    unfold upd
    rw [if_neg (by decide), if_pos rfl, e1]
    intro hc
    injection hc with hc; injection hc with hc; injection hc with hc _ _; omega
end
def ShEnds (t1 t2 t3 : Bs) (ls : List LotV) (A : Option Addr) (c : Nat) (w : World) (e : Ending) (w' : World) : Prop :=
  ∃ B0 B1 B2 B3 P1 P2 P3, e = .returned (.func (.func 111) #[] #[.pointer (some ⟨B0, 0, none⟩), .pointer (some ⟨B1, 0, none⟩), .pointer (some ⟨B2, 0, none⟩), .pointer (some ⟨B3, 0, none⟩)]) ∧
    Blk w' B0 22 #[.slice A ls.length c] ∧ Blk w' B1 106 #[.slice (some ⟨P1, 0, none⟩) ls.length ls.length] ∧ Blk w' B2 106 #[.slice (some ⟨P2, 0, none⟩) ls.length ls.length] ∧ Blk w' B3 106 #[.slice (some ⟨P3, 0, none⟩) ls.length ls.length] ∧
    RowS w' P1 ls.length (DivT (·.q) t1 ls) ∧ RowS w' P2 ls.length (DivT (·.q) t2 ls) ∧ RowS w' P3 ls.length (DivT (·.c) t3 ls) ∧ Ext w w' ∧ w.heap.size ≤ B0
/-- a total that can be divided -/
def TotOK (t : Bs) : Prop := t ≠ [] ∧ t.length ≤ 3000 ∧ checkI t = 0
set_option maxRecDepth 100000 in
set_option maxHeartbeats 8000000 in
theorem mgShares (t1 t2 t3 : Bs) (ls : List LotV) (A : Option Addr) (c : Nat) (w : World) (hE : Env w) (hA : RdL w A ls) (k1 : TotOK t1) (k2 : TotOK t2) (k3 : TotOK t3) (hq : WtOK (ls.map (·.q))) (hc : WtOK (ls.map (·.c))) (hn : ls.length ≤ 100000) :
    Calls Tryz.prog 55 #[.slice A ls.length c, .string (bs t1), .string (bs t2), .string (bs t3)] w (ShEnds t1 t2 t3 ls A c w) := by
  have D1 := Lib.hid (fun W hx => mgDivide 108 (·.q) (fun _ _ => by rfl) t1 ls A c W (hE.ext hx) (hA.ext hx) (fun x _ W _ => mgWt1 x W) k1.1 k1.2.1 k1.2.2 hq hn)
  have D2 := Lib.hid (fun W hx => mgDivide 108 (·.q) (fun _ _ => by rfl) t2 ls A c W (hE.ext hx) (hA.ext hx) (fun x _ W _ => mgWt1 x W) k2.1 k2.2.1 k2.2.2 hq hn)
  have D3 := Lib.hid (fun W hx => mgDivide 110 (·.c) (fun _ _ => by rfl) t3 ls A c W (hE.ext hx) (hA.ext hx) (fun x _ W _ => mgWt2 x W) k3.1 k3.2.1 k3.2.2 hc hn)
  have HB := Lib.hid ((Blk.new w 22 #[.slice A ls.length c]).drew)
  have HX : Hid (Ext w (w.alloc (.cells #[.slice A ls.length c] 22)).drew) := Lib.hid (Ext.new _ _).drew
  clear hE hA k1 k2 k3 hq hc
  go_enter Tryz.func55, Tryz.ntmps55
  go_upto_region 2 with fail
  refine wp_region_any (by kernel_rfl) ?_
  change wpAny _ _ _ _ _ _ _ (World.drew (w.alloc (.cells #[.slice A ls.length c] 22)))
  generalize World.drew (w.alloc (.cells #[.slice A ls.length c] 22)) = Wd at *
  generalize hX4 : w.heap.size = X4 at *
  have lX : ∀ W, Ext Wd W → (Instr.loadAt 22 (.pointer (some ⟨X4, 0, none⟩))).run Tryz.prog W = .ok (.slice A ls.length c) W := fun W hx => by
    have q0 := (HB.out.ext hx).cell 0
    simp only [List.getElem?_toArray, List.getElem?_cons_zero] at q0
    go_simp
  have st : ∀ W g u A' n' c', Blk W g 106 #[u] → (Instr.storeAt 106 (.pointer (some ⟨g, 0, none⟩)) (.slice A' n' c')).run Tryz.prog W = .ok () (W.setCell ⟨g, 0, none⟩ (.slice A' n' c')) := fun W g u A' n' c' hb => by
    have q0 := hb.cell 0
    have q1 := hb.frozen 0
    simp only [List.getElem?_toArray, List.getElem?_cons_zero] at q0
    go_simp
  refine wpAny_inv (Inv := FtAt _ _ shWho (ShFit Wd A c t1 t2 ls) (ShM Wd)) ?hend ?hz ?hstep _ _ _ _ (FtInv.start ?hm)
  case hm =>
    have hf : ∀ i, (Array.replicate 12 false).getD i false = true → False := fun i h => by
      rw [Array.getD_eq_getD_getElem?, Array.getElem?_replicate] at h
      split at h <;> cases h
    exact ⟨Ext.refl _, fun a => (hf _ a).elim, fun a => (hf _ a).elim, fun a => (hf _ a).elim, fun a => (hf _ a).elim, fun a => (hf _ a).elim⟩
  case hz => exact fun listed a w' ⟨val, h⟩ => ready_nil (by have := h.cnt; omega) h.size
  case hend =>
    rintro f listed a w' ⟨val, h⟩ hr
    have hl := h.fin hr (by kernel_rfl)
    have hl2 : listed = Array.replicate 12 true := hl
    have t : ∀ i, i < 12 → listed.getD i false = true := fun i hi => by rw [hl2, Array.getD_eq_getD_getElem?, Array.getElem?_replicate, if_pos hi]; rfl
    obtain ⟨P1, e16, r1⟩ := (h.at_ (s := 16) (by show 16 < 25; decide) rfl (t 3 (by decide))).2.a16 rfl
    obtain ⟨P2, e20, r2⟩ := (h.at_ (s := 20) (by show 20 < 25; decide) rfl (t 7 (by decide))).2.a20 rfl
    obtain ⟨g1, e10, b1⟩ := h.m.s10 (t 10 (by decide))
    obtain ⟨g2, e11, b2⟩ := h.m.s11 (t 11 (by decide))
    have hxx := h.m.ext
    have ha := h.act
    rw [hl2] at ha
    have ha2 : a = ({ tmps := #[.slice A ls.length c, .string (bs t1), .string (bs t2), .string (bs t3), .pointer (some ⟨X4, 0, none⟩), undef, undef, undef, .nilFunc, .func (.func 108) #[] #[], val 10, val 11, undef, val 13, val 14, val 15, val 16, val 17, val 18, val 19, val 20, undef, undef, undef, undef], defers := [] } : Act) := ha.trans (by kernel_rfl)
    rw [e16] at b1
    rw [e20] at b2
    rw [e10, e11] at ha2
    clear ha h hr hl hl2 t
    generalize val 13 = u13 at *
    generalize val 14 = u14 at *
    generalize val 15 = u15 at *
    generalize val 16 = u16 at *
    generalize val 17 = u17 at *
    generalize val 18 = u18 at *
    generalize val 19 = u19 at *
    generalize val 20 = u20 at *
    subst ha2
    clear e16 e20 e10 e11
    replace HX := Lib.hid (HX.out.trans hxx)
    replace HB := Lib.hid (HB.out.ext hxx)
    have R1 := Lib.hid r1
    have R2 := Lib.hid r2
    have B1 := Lib.hid b1
    have B2 := Lib.hid b2
    have q0 := HB.out.cell 0
    simp only [List.getElem?_toArray, List.getElem?_cons_zero] at q0
    clear r1 r2 b1 b2 hxx st lX
    go_wp2_with fail
    refine (D3.out _ HX.out).mono ?_
    rintro e w3 ⟨P3, rfl, r3, _, _, hx3⟩
    replace HX := Lib.hid (HX.out.trans hx3)
    replace HB := Lib.hid (HB.out.ext hx3)
    replace R1 := Lib.hid (R1.out.ext hx3)
    replace R2 := Lib.hid (R2.out.ext hx3)
    replace B1 := Lib.hid (B1.out.ext hx3)
    replace B2 := Lib.hid (B2.out.ext hx3)
    have R3 := Lib.hid r3
    clear r3 hx3
    go_wp2_with fail
    go_ret
    exact ⟨X4, g1, g2, w3.heap.size, P1, P2, P3, rfl, HB.out.alloc _, B1.out.alloc _, B2.out.alloc _, Blk.new _ _ _, R1.out.ext (Ext.new _ _), R2.out.ext (Ext.new _ _), R3.out.ext (Ext.new _ _), HX.out.alloc _, by omega⟩
  case hstep =>
    rintro f listed a w' i ⟨val, h⟩ hi
    have hnl := ready_not hi
    have hlt : i < 12 := ready_lt hi
    have hb1 : a.tmps.getD 1 undef = .string (bs t1) := h.old (by show 1 < 25; decide) rfl
    have hb2 : a.tmps.getD 2 undef = .string (bs t2) := h.old (by show 2 < 25; decide) rfl
    have hb4 : a.tmps.getD 4 undef = .pointer (some ⟨X4, 0, none⟩) := h.old (by show 4 < 25; decide) rfl
    have hb9 : a.tmps.getD 9 undef = .func (.func 108) #[] #[] := h.old (by show 9 < 25; decide) rfl
    have hext := h.m.ext
    obtain rfl | rfl | rfl | rfl | rfl | rfl | rfl | rfl | rfl | rfl | rfl | rfl : i = 0 ∨ i = 1 ∨ i = 2 ∨ i = 3 ∨ i = 4 ∨ i = 5 ∨ i = 6 ∨ i = 7 ∨ i = 8 ∨ i = 9 ∨ i = 10 ∨ i = 11 := by omega
    · refine stepP_read rfl rfl _ ?_ (h.step hi rfl (by show 13 < 25; decide) rfl (fun s hs => by have := shWho_inj hs; omega) _ w' ⟨fun _ => rfl, fun hs => absurd hs (by decide), fun hs => absurd hs (by decide), fun hs => absurd hs (by decide), fun hs => absurd hs (by decide), fun hs => absurd hs (by decide), fun hs => absurd hs (by decide)⟩ (fun s u hu => hu) (h.m.grow (Ext.refl _) _ hnl rfl (by decide) (by decide)))
      simp [execOp, eval_tmpM, hb1]
    · refine stepP_read rfl rfl _ ?_ (h.step hi rfl (by show 14 < 25; decide) rfl (fun s hs => by have := shWho_inj hs; omega) _ w' ⟨fun hs => absurd hs (by decide), fun hs => absurd hs (by decide), fun _ => rfl, fun hs => absurd hs (by decide), fun hs => absurd hs (by decide), fun hs => absurd hs (by decide), fun hs => absurd hs (by decide)⟩ (fun s u hu => hu) (h.m.grow (Ext.refl _) _ hnl rfl (by decide) (by decide)))
      simp [execOp, eval_tmpM, hb4, lX _ hext]
    · refine stepP_read rfl rfl _ ?_ (h.step hi rfl (by show 15 < 25; decide) rfl (fun s hs => by have := shWho_inj hs; omega) _ w' ⟨fun hs => absurd hs (by decide), fun hs => absurd hs (by decide), fun hs => absurd hs (by decide), fun _ => rfl, fun hs => absurd hs (by decide), fun hs => absurd hs (by decide), fun hs => absurd hs (by decide)⟩ (fun s u hu => hu) (h.m.grow (Ext.refl _) _ hnl rfl (by decide) (by decide)))
      simp [execOp, eval_tmpM, hb9]
    · have l0 := ready_pred hi (p := 0) rfl rfl
      have l1 := ready_pred hi (p := 1) rfl rfl
      have l2 := ready_pred hi (p := 2) rfl rfl
      have e0 := (h.at_ (s := 13) (by show 13 < 25; decide) rfl l0).1.trans ((h.at_ (s := 13) (by show 13 < 25; decide) rfl l0).2.a13 rfl)
      have e1 := (h.at_ (s := 14) (by show 14 < 25; decide) rfl l1).1.trans ((h.at_ (s := 14) (by show 14 < 25; decide) rfl l1).2.sl (by decide))
      have e2 := (h.at_ (s := 15) (by show 15 < 25; decide) rfl l2).1.trans ((h.at_ (s := 15) (by show 15 < 25; decide) rfl l2).2.fn (by decide))
      refine stepP_call rfl rfl (fn := 109) (args := #[.string (bs t1), .slice A ls.length c, .func (.func 108) #[] #[]]) ?_ (D1.out w' (HX.out.trans hext)) ?_
      · simp [execOp, eval_tmpM, resolve, invoke, e0, e1, e2, Deferred.ofValue]
        rfl
      · rintro e w2 ⟨P, rfl, hr, _, _, hx2⟩
        exact ⟨_, rfl, h.step hi rfl (by show 16 < 25; decide) rfl (fun s hs => by have := shWho_inj hs; omega) _ w2 ⟨fun hs => absurd hs (by decide), fun hs => absurd hs (by decide), fun hs => absurd hs (by decide), fun hs => absurd hs (by decide), fun _ => ⟨P, rfl, hr⟩, fun hs => absurd hs (by decide), fun hs => absurd hs (by decide)⟩ (fun s u hu => hu.ext hx2 s u) (h.m.grow hx2 _ hnl rfl (by decide) (by decide))⟩
    · refine stepP_read rfl rfl _ ?_ (h.step hi rfl (by show 17 < 25; decide) rfl (fun s hs => by have := shWho_inj hs; omega) _ w' ⟨fun hs => absurd hs (by decide), fun _ => rfl, fun hs => absurd hs (by decide), fun hs => absurd hs (by decide), fun hs => absurd hs (by decide), fun hs => absurd hs (by decide), fun hs => absurd hs (by decide)⟩ (fun s u hu => hu) (h.m.grow (Ext.refl _) _ hnl rfl (by decide) (by decide)))
      simp [execOp, eval_tmpM, hb2]
    · refine stepP_read rfl rfl _ ?_ (h.step hi rfl (by show 18 < 25; decide) rfl (fun s hs => by have := shWho_inj hs; omega) _ w' ⟨fun hs => absurd hs (by decide), fun hs => absurd hs (by decide), fun _ => rfl, fun hs => absurd hs (by decide), fun hs => absurd hs (by decide), fun hs => absurd hs (by decide), fun hs => absurd hs (by decide)⟩ (fun s u hu => hu) (h.m.grow (Ext.refl _) _ hnl rfl (by decide) (by decide)))
      simp [execOp, eval_tmpM, hb4, lX _ hext]
    · refine stepP_read rfl rfl _ ?_ (h.step hi rfl (by show 19 < 25; decide) rfl (fun s hs => by have := shWho_inj hs; omega) _ w' ⟨fun hs => absurd hs (by decide), fun hs => absurd hs (by decide), fun hs => absurd hs (by decide), fun _ => rfl, fun hs => absurd hs (by decide), fun hs => absurd hs (by decide), fun hs => absurd hs (by decide)⟩ (fun s u hu => hu) (h.m.grow (Ext.refl _) _ hnl rfl (by decide) (by decide)))
      simp [execOp, eval_tmpM, hb9]
    · have l0 := ready_pred hi (p := 4) rfl rfl
      have l1 := ready_pred hi (p := 5) rfl rfl
      have l2 := ready_pred hi (p := 6) rfl rfl
      have e0 := (h.at_ (s := 17) (by show 17 < 25; decide) rfl l0).1.trans ((h.at_ (s := 17) (by show 17 < 25; decide) rfl l0).2.a17 rfl)
      have e1 := (h.at_ (s := 18) (by show 18 < 25; decide) rfl l1).1.trans ((h.at_ (s := 18) (by show 18 < 25; decide) rfl l1).2.sl (by decide))
      have e2 := (h.at_ (s := 19) (by show 19 < 25; decide) rfl l2).1.trans ((h.at_ (s := 19) (by show 19 < 25; decide) rfl l2).2.fn (by decide))
      refine stepP_call rfl rfl (fn := 109) (args := #[.string (bs t2), .slice A ls.length c, .func (.func 108) #[] #[]]) ?_ (D2.out w' (HX.out.trans hext)) ?_
      · simp [execOp, eval_tmpM, resolve, invoke, e0, e1, e2, Deferred.ofValue]
        rfl
      · rintro e w2 ⟨P, rfl, hr, _, _, hx2⟩
        exact ⟨_, rfl, h.step hi rfl (by show 20 < 25; decide) rfl (fun s hs => by have := shWho_inj hs; omega) _ w2 ⟨fun hs => absurd hs (by decide), fun hs => absurd hs (by decide), fun hs => absurd hs (by decide), fun hs => absurd hs (by decide), fun hs => absurd hs (by decide), fun _ => ⟨P, rfl, hr⟩, fun hs => absurd hs (by decide)⟩ (fun s u hu => hu.ext hx2 s u) (h.m.grow hx2 _ hnl rfl (by decide) (by decide))⟩
    · refine stepP_read rfl rfl _ ?_ (h.step hi rfl (by show 10 < 25; decide) rfl (fun s hs => by have := shWho_inj hs; omega) (.pointer (some ⟨w'.heap.size, 0, none⟩)) (w'.alloc (.cells #[.slice none 0 0] 106)) ⟨fun hs => absurd hs (by decide), fun hs => absurd hs (by decide), fun hs => absurd hs (by decide), fun hs => absurd hs (by decide), fun hs => absurd hs (by decide), fun hs => absurd hs (by decide), fun _ => ⟨_, _, rfl, hext.size, Blk.new _ _ _⟩⟩ (fun s u hu => hu.ext (Ext.new _ _) s u) (h.m.newb (j := 9) (e := 11) hnl (by decide) (fun hj => by obtain ⟨g, u, h1, h2, h3⟩ := (h.at_ (s := 11) (by show 11 < 25; decide) rfl hj).2.bx (by decide); exact ⟨g, h1, h3.lt⟩)))
      simp only [execOp]
      go_simp
    · refine stepP_read rfl rfl _ ?_ (h.step hi rfl (by show 11 < 25; decide) rfl (fun s hs => by have := shWho_inj hs; omega) (.pointer (some ⟨w'.heap.size, 0, none⟩)) (w'.alloc (.cells #[.slice none 0 0] 106)) ⟨fun hs => absurd hs (by decide), fun hs => absurd hs (by decide), fun hs => absurd hs (by decide), fun hs => absurd hs (by decide), fun hs => absurd hs (by decide), fun hs => absurd hs (by decide), fun _ => ⟨_, _, rfl, hext.size, Blk.new _ _ _⟩⟩ (fun s u hu => hu.ext (Ext.new _ _) s u) (h.m.newb (j := 8) (e := 10) hnl (by decide) (fun hj => by obtain ⟨g, u, h1, h2, h3⟩ := (h.at_ (s := 10) (by show 10 < 25; decide) rfl hj).2.bx (by decide); exact ⟨g, h1, h3.lt⟩)))
      simp only [execOp]
      go_simp
    · have lp := ready_pred hi (p := 8) rfl rfl
      have lv := ready_pred hi (p := 3) rfl rfl
      obtain ⟨g, u, ep, hg, hb⟩ := (h.at_ (s := 10) (by show 10 < 25; decide) rfl lp).2.bx (by decide)
      obtain ⟨P, ev, hr⟩ := (h.at_ (s := 16) (by show 16 < 25; decide) rfl lv).2.a16 rfl
      have e1 := (h.at_ (s := 10) (by show 10 < 25; decide) rfl lp).1.trans ep
      have e2 := (h.at_ (s := 16) (by show 16 < 25; decide) rfl lv).1.trans ev
      refine stepP_skip rfl rfl (w' := w'.setCell ⟨g, 0, none⟩ (.slice (some ⟨P, 0, none⟩) ls.length ls.length)) ?_ (h.stepN hi rfl (fun s hs hq => by have := shWho_inj hq; omega) _ _ (fun s u hu => hu.store hb _ s u) ?_)
      · simp [execOp, eval_tmpM, e1, e2, st _ _ _ _ _ _ hb]
      · have hnf : listed.getD 10 false = false := by
          have := hnl
          rw [Array.getD_eq_getD_getElem?] at this ⊢
          have hsz := h.size
          have hs2 : listed.size = 12 := hsz
          rw [Array.getElem?_eq_getElem (by omega)] at this ⊢
          exact this
        have back : ∀ j, j ≠ 10 → (listed.setIfInBounds 10 true).getD j false = true → listed.getD j false = true := fun j hj hl => by
          rcases listed_set hl with e | e
          · exact absurd e hj
          · exact e
        refine ⟨hext.setCell (p := ⟨g, 0, none⟩) hg _, fun x y => h.m.ne (back 8 (by decide) x) (back 9 (by decide) y), ?_, ?_, ?_, ?_⟩
        · exact fun _ => ⟨up_listed lv, up_listed lp, up_listed (ready_pred hi (p := 9) rfl rfl)⟩
        · intro x
          have := (h.m.p11 (back 11 (by decide) x)).2.2.2
          rw [hnf] at this; cases this
        · exact fun _ => ⟨g, ep, by rw [ev]; exact hb.set_ 0 _⟩
        · intro x
          have := (h.m.p11 (back 11 (by decide) x)).2.2.2
          rw [hnf] at this; cases this
    · have lp := ready_pred hi (p := 9) rfl rfl
      have lv := ready_pred hi (p := 7) rfl rfl
      obtain ⟨g, u, ep, hg, hb⟩ := (h.at_ (s := 11) (by show 11 < 25; decide) rfl lp).2.bx (by decide)
      obtain ⟨P, ev, hr⟩ := (h.at_ (s := 20) (by show 20 < 25; decide) rfl lv).2.a20 rfl
      have e1 := (h.at_ (s := 11) (by show 11 < 25; decide) rfl lp).1.trans ep
      have e2 := (h.at_ (s := 20) (by show 20 < 25; decide) rfl lv).1.trans ev
      refine stepP_skip rfl rfl (w' := w'.setCell ⟨g, 0, none⟩ (.slice (some ⟨P, 0, none⟩) ls.length ls.length)) ?_ (h.stepN hi rfl (fun s hs hq => by have := shWho_inj hq; omega) _ _ (fun s u hu => hu.store hb _ s u) ?_)
      · simp [execOp, eval_tmpM, e1, e2, st _ _ _ _ _ _ hb]
      · have hnf : listed.getD 11 false = false := by
          have := hnl
          rw [Array.getD_eq_getD_getElem?] at this ⊢
          have hsz := h.size
          have hs2 : listed.size = 12 := hsz
          rw [Array.getElem?_eq_getElem (by omega)] at this ⊢
          exact this
        have back : ∀ j, j ≠ 11 → (listed.setIfInBounds 11 true).getD j false = true → listed.getD j false = true := fun j hj hl => by
          rcases listed_set hl with e | e
          · exact absurd e hj
          · exact e
        refine ⟨hext.setCell (p := ⟨g, 0, none⟩) hg _, fun x y => h.m.ne (back 8 (by decide) x) (back 9 (by decide) y), ?_, ?_, ?_, ?_⟩
        · exact fun x => by have := h.m.p10 (back 10 (by decide) x); exact ⟨up_listed this.1, up_listed this.2.1, up_listed this.2.2⟩
        · exact fun _ => ⟨up_listed lv, up_listed (ready_pred hi (p := 8) rfl rfl), up_listed lp, up_listed (ready_pred hi (p := 10) rfl rfl)⟩
        · intro x
          have x' := back 10 (by decide) x
          obtain ⟨g2, e2', b2⟩ := h.m.s10 x'
          have hne := h.m.ne (h.m.p10 x').2.1 lp
          refine ⟨g2, e2', b2.far (p := ⟨g, 0, none⟩) ?_ _⟩
          rintro rfl
          exact hne (e2'.trans ep.symm)
        · exact fun _ => ⟨g, ep, by rw [ev]; exact hb.set_ 0 _⟩
end Go.Proofs.YthgpheopnhajaaaGreatDoor

/- The library's slices.Insert at slices of lots: one lot into a list that lies in a block of its own. -/
namespace Go.Proofs.YthgpheopnhajaaaGreatDoor
open Go.RowKit Go.Lib
attribute [local go_sem] size_bs toList_bs
def InsEndsL (g n : Nat) (xs : List Value) (w : World) (e : Ending) (w' : World) : Prop :=
  ∃ g' cap cur, e = .returned (.slice (some ⟨g', 0, none⟩) (n + 1) cap) ∧ (g' = g ∨ w.heap.size ≤ g') ∧ Row w' g' 71 7 (n + 1) cap xs cur ∧ Only g w w'
set_option maxRecDepth 100000 in
set_option maxHeartbeats 4000000 in
theorem insertShiftL (g cap n i vb : Nat) (xs cur vs : List Value) (w : World) (hr : Row w g 71 7 n cap xs cur) (h1 : ∀ u ∈ xs, u.oneCell' = true) (hvb : Blk w vb 71 vs.toArray) (hne : vb ≠ g) (hv : vs.length = 7) (h1v : ∀ u ∈ vs, u.oneCell' = true) (hi : i < n) (hroom : n + 1 ≤ cap) (hcap : cap ≤ 9223372036854775807) :
    Calls Tryz.prog 113 #[.slice (some ⟨g, 0, none⟩) n cap, .int .i64 i, .slice (some ⟨vb, 0, none⟩) 1 1] w (InsEndsL g n (xs.take (i * 7) ++ vs ++ xs.drop (i * 7)) w) := by
  have hsz : (Tryz.prog.info? 71).map (·.size) = some 7 := by
    obtain ⟨i0, hI, _, hz1, _⟩ := info_parts lotInfo
    rw [hI]; simp [hz1]
  have hov : ∀ lb cb, (callFunc 177 #[.slice (some ⟨vb, 0, none⟩) 1 1, .slice (some ⟨g, (i + 1) * 7, none⟩) lb cb]).run Tryz.prog w = .ok (.value (.bool false)) w := fun lb cb => by
    rw [run_callFunc_extern Tryz.func177 (by kernel_rfl) (by kernel_rfl) (by kernel_rfl) (e := Extern.SlicesOverlaps.overlaps #[22, 22] #[4]) (by kernel_rfl),
      Lib.run_overlaps_apart w 22 4 71 Tryz.underlying22 7 Tryz.sizeOf71 ⟨vb, 0, none⟩ ⟨g, (i + 1) * 7, none⟩ 1 1 lb cb hne 71 71 vs.toArray.size cur.toArray.size hvb.shape hr.blk.shape (by simp only [List.size_toArray, hr.full]; omega) (hvb.frozen 0) (hvb.frozen _)]
    rfl
  have hdl : (xs.drop (i * 7)).length = (n - i) * 7 := by rw [List.length_drop, hr.len, ← Nat.sub_mul]
  have hcp1 : ∀ ty dc sc, (Builtin.copy_ #[22, 22] ty #[.slice (some ⟨g, (i + 1) * 7, none⟩) (n - i) dc, .slice (some ⟨g, i * 7, none⟩) (n + 1 - i) sc]).run Tryz.prog w.drew = .ok (goInt (n - i : Nat)) (w.drew.setCells g ((i + 1) * 7) (xs.drop (i * 7))) := fun ty dc sc =>
    run_copy_k w.drew _ _ ty 71 7 g ((i + 1) * 7) (n - i) dc ⟨g, i * 7, none⟩ (n + 1 - i) sc (xs.drop (i * 7)) Tryz.underlying22 hsz (n - i) (by simp only [Nat.min_def]; split <;> omega) hdl
      (fun j v hj => by rw [Addr.add_lit]; exact hr.drew.cell (by rwa [List.getElem?_drop] at hj))
      (fun j hj => hr.drew.isSome_ (by omega)) (fun j _ => hr.drew.frozen _) (fun v hv => h1 v (List.mem_of_mem_drop hv))
  have hfull := hr.full
  have hrl := hr.len
  have hW1 : Row (w.drew.setCells g ((i + 1) * 7) (xs.drop (i * 7))) g 71 7 0 cap [] (lsplice cur ((i + 1) * 7) (xs.drop (i * 7))) :=
    hr.drew.put _ _ (by rw [hdl]; omega) (by omega) (by simp) (by simp)
  have hvb1 : Blk (w.drew.setCells g ((i + 1) * 7) (xs.drop (i * 7))) vb 71 vs.toArray := hvb.drew.sets_far hne _ _
  have hcp2 : ∀ ty dc, (Builtin.copy_ #[22, 22] ty #[.slice (some ⟨g, i * 7, none⟩) (n + 1 - i) dc, .slice (some ⟨vb, 0, none⟩) 1 1]).run Tryz.prog (w.drew.setCells g ((i + 1) * 7) (xs.drop (i * 7))) = .ok (goInt (1 : Nat)) ((w.drew.setCells g ((i + 1) * 7) (xs.drop (i * 7))).setCells g (i * 7) vs) := fun ty dc =>
    run_copy_k _ _ _ ty 71 7 g (i * 7) (n + 1 - i) dc ⟨vb, 0, none⟩ 1 1 vs Tryz.underlying22 hsz 1 (by simp only [Nat.min_def]; split <;> omega) (by omega)
      (fun j v hj => by rw [Addr.add_lit, hvb1.cell, List.getElem?_toArray, Nat.zero_add]; exact hj)
      (fun j hj => hW1.isSome_ (by rw [hv] at hj; omega)) (fun j _ => hW1.frozen _) h1v
  have HW2 := Lib.hid (hW1.put vs (i * 7) (by rw [hv]; omega) (n' := n + 1) (xs' := xs.take (i * 7) ++ vs ++ xs.drop (i * 7)) hroom (by rw [List.length_append, List.length_append, hdl, List.length_take, hrl, hv]; omega) (splice_ins cur xs vs 7 i n hr.take hr.len (by omega) hv (by rw [hfull]; exact Nat.mul_le_mul_right _ hroom)))
  have HON : Hid (Only g w ((w.drew.setCells g ((i + 1) * 7) (xs.drop (i * 7))).setCells g (i * 7) vs)) := Lib.hid (Only.sets _ _ _ _ (Only.sets _ _ _ _ (Only.of_ext (Ext.refl w).drew)))
  clear hW1 hvb1 hr h1 hvb h1v hdl hfull hrl hsz
  have hw1 : IntKind.i64.wrap ((i : Int) + 1) = (i : Int) + 1 := IntWalk.i64_in _ (by omega)
  have hb1 : (0 : Int) ≤ (i : Int) + 1 := by omega
  have hin : i ≤ n := by omega
  have htn : ((i : Int) + 1).toNat = i + 1 := by omega
  have hb2 : ¬ (cap = i + 1) := by omega
  have hb3 : (i : Int) ≤ (n : Int) + 1 := by omega
  have hb5 : (i : Int) + 1 ≤ (n : Int) + 1 := by omega
  have hb4 : ¬ (cap = i) := by omega
  have hz2 : ((i : Int) == (n : Int)) = false := by rw [beq_eq_false_iff_ne]; omega
  have hz3 : ¬ ((cap : Int) < (n : Int) + 1) := by omega
  go_enter Tryz.func113, Tryz.ntmps113
  go_wp2_with (simp only [hov])
  go_region_law ((refine step_copy_runI (by rfl) (.tmp 73) (.tmp 76) 22 22 (by rfl) (.slice (some ⟨g, (i + 1) * 7, none⟩) (n - i) (cap - (i + 1))) (.slice (some ⟨g, i * 7, none⟩) (n + 1 - i) (cap - i)) (by simp [Act.eval, Act.put]) (by simp [Act.eval, Act.put]) (hcp1 _ _ _) ?_))
  go_wp2_with (with_reducible refine wpList_copy_runI _ (by rfl) (.tmp 80) (.tmp 81) 22 22 (by rfl) (.slice (some ⟨g, i * 7, none⟩) (n + 1 - i) (cap - i)) (.slice (some ⟨vb, 0, none⟩) 1 1) (by rfl) (by rfl) (hcp2 _ _) ?_)
  go_ret
  exact ⟨g, cap, _, rfl, .inl rfl, HW2.out, HON.out⟩

set_option maxRecDepth 100000 in
set_option maxHeartbeats 4000000 in
theorem insertGrowL (g n i vb : Nat) (xs cur vs : List Value) (w : World) (hr : Row w g 71 7 n n xs cur) (h1 : ∀ u ∈ xs, u.oneCell' = true) (hvb : Blk w vb 71 vs.toArray) (hv : vs.length = 7) (h1v : ∀ u ∈ vs, u.oneCell' = true) (hi : i < n) (hn : n ≤ 1000000) :
    Calls Tryz.prog 113 #[.slice (some ⟨g, 0, none⟩) n n, .int .i64 i, .slice (some ⟨vb, 0, none⟩) 1 1] w (InsEndsL g n (xs.take (i * 7) ++ vs ++ xs.drop (i * 7)) w) := by
  obtain ⟨i0, hI, hz0, hz1, hz2⟩ := info_parts lotInfo
  have hsz : (Tryz.prog.info? 71).map (·.size) = some 7 := by rw [hI]; simp [hz1]
  have hkk : (n : Int) + 1 - (i : Int) = ((n + 1 - i : Nat) : Int) := by omega
  have hik : i + (n + 1 - i) = n + 1 := by omega
  have hold : (Builtin.firstCells i0.size i (.slice (some ⟨g, 0, none⟩) i n)).run Tryz.prog w.drew = .ok (xs.take (i * 7)).toArray w.drew := by
    rw [hz1]
    exact run_firstCells_some w.drew 7 i ⟨g, 0, none⟩ i n (xs.take (i * 7)) (by rw [List.length_take, hr.len]; omega) (fun j v hj => by
      rw [Addr.add_lit, Nat.zero_add]
      rw [List.getElem?_take] at hj
      split at hj
      · exact hr.drew.cell hj
      · cases hj)
  have hrz : ∀ ty, (Builtin.append_ #[22, 3] ty #[.slice (some ⟨g, 0, none⟩) i n, .int .i64 ((n : Int) + 1 - (i : Int))]).run Tryz.prog w =
      .ok (.slice (some ⟨w.heap.size, 0, none⟩) (n + 1) (grownCap w (n + 1) n 71)) (w.drew.alloc (.cells ((xs.take (i * 7)).toArray ++ Builtin.zeroCells (Value.agg #[.string ⟨#[]⟩, .string ⟨#[]⟩, .int .i64 0, .int .i64 0, .string ⟨#[]⟩, .string ⟨#[]⟩, .string ⟨#[]⟩]).cells (n + 1 - i) ++ Builtin.zeroCells (Value.agg #[.string ⟨#[]⟩, .string ⟨#[]⟩, .int .i64 0, .int .i64 0, .string ⟨#[]⟩, .string ⟨#[]⟩, .string ⟨#[]⟩]).cells (grownCap w (n + 1) n 71 - (n + 1))) 71)) := fun ty => by
    have h := Lib.run_append_grow_zeros w 22 3 ty 71 i0 _ .i64 .i64 Tryz.underlying22 Tryz.underlying3 hI hz0 (some ⟨g, 0, none⟩) i n (xs.take (i * 7)) hold (n + 1 - i) (by omega) (by omega) (by omega) (by omega) (by rw [hz2]; omega) (by rw [hz2, hik]; exact growslice_fits (by omega) (by omega))
    rw [hik] at h
    rw [hkk]
    exact h
  obtain ⟨G, hG⟩ : ∃ G, G = grownCap w (n + 1) n 71 := ⟨_, rfl⟩
  have hGn : n + 1 ≤ G := by rw [hG]; exact grownCap_ge w _ _ _
  have hG63 : G ≤ maxLen := by rw [hG]; exact grownCap_le_maxLen w (n + 1) n _ (by unfold maxLen; omega)
  obtain ⟨ROW, hROW⟩ : ∃ ROW : Array Value, ROW = (xs.take (i * 7)).toArray ++ Builtin.zeroCells (Value.agg #[.string ⟨#[]⟩, .string ⟨#[]⟩, .int .i64 0, .int .i64 0, .string ⟨#[]⟩, .string ⟨#[]⟩, .string ⟨#[]⟩]).cells (n + 1 - i) ++ Builtin.zeroCells (Value.agg #[.string ⟨#[]⟩, .string ⟨#[]⟩, .int .i64 0, .int .i64 0, .string ⟨#[]⟩, .string ⟨#[]⟩, .string ⟨#[]⟩]).cells (G - (n + 1)) := ⟨_, rfl⟩
  rw [← hG, ← hROW] at hrz
  have hRl : ROW.toList.length = G * 7 := by
    rw [hROW]
    simp [Builtin.zeroCells, Value.cells, hr.len]
    omega
  have hRt : ROW.toList.take (i * 7) = xs.take (i * 7) := by
    rw [hROW]
    simp only [Array.toList_append, List.append_assoc]
    rw [List.take_left' (by rw [List.length_take, hr.len]; omega)]
  have hgw := hr.blk.lt
  have hvw := hvb.lt
  have hA : Row ((w.alloc (.cells ROW 71)).drew) w.heap.size 71 7 0 G [] ROW.toList :=
    ⟨by rw [Array.toArray_toList]; exact (Blk.new w _ _).drew, rfl, Nat.zero_le _, hG63, hRl, by simp⟩
  have hdl : (xs.drop (i * 7)).length = (n - i) * 7 := by rw [List.length_drop, hr.len, ← Nat.sub_mul]
  have hvb1 : Blk ((w.alloc (.cells ROW 71)).drew) vb 71 vs.toArray := (hvb.alloc _).drew
  have hr1 : Row ((w.alloc (.cells ROW 71)).drew) g 71 7 n n xs cur := (hr.ext (Ext.new _ _)).drew
  have hcpA : ∀ ty dc, (Builtin.copy_ #[22, 22] ty #[.slice (some ⟨w.heap.size, i * 7, none⟩) (n + 1 - i) dc, .slice (some ⟨vb, 0, none⟩) 1 1]).run Tryz.prog ((w.alloc (.cells ROW 71)).drew) = .ok (goInt (1 : Nat)) (((w.alloc (.cells ROW 71)).drew).setCells w.heap.size (i * 7) vs) := fun ty dc =>
    run_copy_k _ _ _ ty 71 7 w.heap.size (i * 7) (n + 1 - i) dc ⟨vb, 0, none⟩ 1 1 vs Tryz.underlying22 hsz 1 (by simp only [Nat.min_def]; split <;> omega) (by omega)
      (fun j v hj => by rw [Addr.add_lit, hvb1.cell, List.getElem?_toArray, Nat.zero_add]; exact hj)
      (fun j hj => hA.isSome_ (by rw [hv] at hj; omega)) (fun j _ => hA.frozen _) h1v
  have hB := hA.put vs (i * 7) (by rw [hv]; omega) (n' := 0) (xs' := []) (Nat.zero_le _) rfl (by simp)
  have hr2 : Row (((w.alloc (.cells ROW 71)).drew).setCells w.heap.size (i * 7) vs) g 71 7 n n xs cur := { hr1 with blk := hr1.blk.sets_far (by omega) _ _ }
  have hcpB : ∀ ty dc sc, (Builtin.copy_ #[22, 22] ty #[.slice (some ⟨w.heap.size, (i + 1) * 7, none⟩) (n - i) dc, .slice (some ⟨g, i * 7, none⟩) (n - i) sc]).run Tryz.prog ((((w.alloc (.cells ROW 71)).drew).setCells w.heap.size (i * 7) vs).drew) = .ok (goInt (n - i : Nat)) ((((w.alloc (.cells ROW 71)).drew).setCells w.heap.size (i * 7) vs).drew.setCells w.heap.size ((i + 1) * 7) (xs.drop (i * 7))) := fun ty dc sc =>
    run_copy_k _ _ _ ty 71 7 w.heap.size ((i + 1) * 7) (n - i) dc ⟨g, i * 7, none⟩ (n - i) sc (xs.drop (i * 7)) Tryz.underlying22 hsz (n - i) (Nat.min_self _) hdl
      (fun j v hj => by rw [Addr.add_lit]; exact hr2.drew.cell (by rwa [List.getElem?_drop] at hj))
      (fun j hj => hB.drew.isSome_ (by omega)) (fun j _ => hB.drew.frozen _) (fun v hv => h1 v (List.mem_of_mem_drop hv))
  have HW2 := Lib.hid (hB.drew.put (xs.drop (i * 7)) ((i + 1) * 7) (by rw [hdl]; omega) (n' := n + 1) (xs' := xs.take (i * 7) ++ vs ++ xs.drop (i * 7)) hGn (by rw [List.length_append, List.length_append, hdl, List.length_take, hr.len, hv]; omega) (splice_new ROW.toList xs vs 7 i n hRt hr.len (by omega) hv (by rw [hRl]; exact Nat.mul_le_mul_right _ hGn)))
  have HON : Hid (Only g w ((((w.alloc (.cells ROW 71)).drew).setCells w.heap.size (i * 7) vs).drew.setCells w.heap.size ((i + 1) * 7) (xs.drop (i * 7)))) := Lib.hid (Only.of_ext (ext_sets _ _ _ () (ext_sets _ _ _ () ((Ext.new w _).drew) (Nat.le_refl _)).drew (Nat.le_refl _)))
  clear hA hB hr2 hr1 hvb1 hr h1 hvb h1v hdl hsz hold hkk hRl hRt hROW hG hI hz0 hz1 hz2 hik
  have hw1 : IntKind.i64.wrap ((i : Int) + 1) = (i : Int) + 1 := IntWalk.i64_in _ (by omega)
  have hb1 : (0 : Int) ≤ (i : Int) + 1 := by omega
  have hin : i ≤ n := by omega
  have htn : ((i : Int) + 1).toNat = i + 1 := by omega
  have hb2 : ¬ (G = i + 1) := by omega
  have hb6 : ¬ (G = i) := by omega
  have hb3 : (i : Int) ≤ (n : Int) + 1 := by omega
  have hb5 : (i : Int) + 1 ≤ (n : Int) + 1 := by omega
  have hb4 : ¬ (n = i) := by omega
  have hz9 : ((i : Int) == (n : Int)) = false := by rw [beq_eq_false_iff_ne]; omega
  have hz3 : (n : Int) < (n : Int) + 1 := by omega
  unfold maxLen at hG63
  go_enter Tryz.func113, Tryz.ntmps113
  go_wp2_with (at_builtin; refine Lib.wpList_append_run _ rfl (.tmp 34) (.tmp 39) _ _ rfl _ _ rfl rfl _ _ (hrz _) ?_)
  go_region_law ((refine step_copy_runI (by rfl) (.tmp 50) (.tmp 53) 22 22 (by rfl) (.slice (some ⟨w.heap.size, (i + 1) * 7, none⟩) (n - i) (G - (i + 1))) (.slice (some ⟨g, i * 7, none⟩) (n - i) (n - i)) (by simp [Act.eval, Act.put]) (by simp [Act.eval, Act.put]) (hcpB _ _ _) ?_))
  go_wp2_with fail
  go_ret
  exact ⟨w.heap.size, G, _, rfl, .inr (Nat.le_refl _), HW2.out, HON.out⟩

/-- a list with a further lot at a place -/
def insAt (ls : List LotV) (k : Nat) (x : LotV) : List LotV := ls.take k ++ [x] ++ ls.drop k
theorem insAt_len {ls : List LotV} {k : Nat} {x : LotV} (hk : k ≤ ls.length) : (insAt ls k x).length = ls.length + 1 := by
  unfold insAt
  simp only [List.length_append, List.length_take, List.length_drop, List.length_cons, List.length_nil]
  omega
theorem lots_app (a b : List LotV) : lots (a ++ b) = lots a ++ lots b := by simp [lots]
theorem lots_insAt {ls : List LotV} {k : Nat} {x : LotV} (hk : k ≤ ls.length) : lots (insAt ls k x) = (lots ls).take (k * 7) ++ lotCells x ++ (lots ls).drop (k * 7) := by
  have e : lots ls = lots (ls.take k) ++ lots (ls.drop k) := by rw [← lots_app, List.take_append_drop]
  have l : (lots (ls.take k)).length = k * 7 := by rw [lots_len, List.length_take, Nat.min_eq_left hk]
  have h1 : (lots ls).take (k * 7) = lots (ls.take k) := by rw [e, List.take_left' l]
  have h2 : (lots ls).drop (k * 7) = lots (ls.drop k) := by rw [e, List.drop_left' l]
  rw [h1, h2]
  unfold insAt
  rw [lots_app, lots_app]
  simp [lots]
theorem one_lot (x : LotV) : ∀ u ∈ lotCells x, u.oneCell' = true := by
  intro u hu
  unfold lotCells at hu
  simp only [List.mem_cons, List.not_mem_nil, or_false] at hu
  rcases hu with rfl | rfl | rfl | rfl | rfl | rfl | rfl <;> rfl
/-- lots that lie in memory which this call laid, or nowhere if there are none -/
def OwnL (w : World) (base : Nat) (v : Value) (ls : List LotV) : Prop := w.ownsRow base 71 7 v ls.length (lots ls)
/-- the copy of a list, an empty one as well -/
def CloneO (ls : List LotV) (w : World) (e : Ending) (w' : World) : Prop :=
  ∃ A c, e = .returned (.slice A ls.length c) ∧ Ext w w' ∧ OwnL w' w.heap.size (.slice A ls.length c) ls ∧ (0 < ls.length → ∃ g, A = some ⟨g, 0, none⟩ ∧ w.heap.size ≤ g ∧ RowL w' g c ls)
set_option maxRecDepth 100000 in
set_option maxHeartbeats 1000000 in
theorem cloneO (ls : List LotV) (A : Option Addr) (c : Nat) (w : World) (hA : RdL w A ls) (hn : ls.length ≤ 1000000) :
    Calls Tryz.prog 52 #[.slice A ls.length c] w (CloneO ls w) := by
  rcases Nat.eq_zero_or_pos ls.length with h0 | h0
  rotate_left
  · refine (cloneL ls A c w hA hn).mono ?_
    rintro e w' ⟨A', c', rfl, hx, h⟩
    obtain ⟨g, rfl, hg, cur, hrow⟩ := h h0
    exact ⟨_, _, rfl, hx, hrow.own hg, fun _ => ⟨g, rfl, hg, cur, hrow⟩⟩
  have h1 : ls = [] := List.length_eq_zero_iff.1 h0
  subst h1
  clear hA h0 hn
  obtain ⟨i0, hI, hz0, hz1, hz2⟩ := info_parts lotInfo
  have HI := Lib.hid hI
  clear hI
  simp only [List.length_nil]
  cases A with
  | none =>
    have hnil : ∀ W : World, (binOp .eql 22 (.slice none 0 c) (.slice none 0 0)).run Tryz.prog W = .ok (.bool true) W := fun W => Lib.run_eql_slice_nil W _ _ _ _ _ _ _ Tryz.underlying22
    go_enter Tryz.func52, Tryz.ntmps52
    go_wp2_with fail
    go_ret
    exact ⟨none, 0, rfl, Ext.refl _, ⟨rfl, .inl ⟨rfl, rfl⟩⟩, fun h => absurd h (by simp)⟩
  | some a =>
    have hnil : ∀ W : World, (binOp .eql 22 (.slice (some a) 0 c) (.slice none 0 0)).run Tryz.prog W = .ok (.bool false) W := fun W => Lib.run_eql_slice_nil W _ _ _ _ _ _ _ Tryz.underlying22
    go_enter Tryz.func52, Tryz.ntmps52
    have hr : ∀ ty, (Builtin.append_ #[22, 22] ty #[.slice (some ⟨w.heap.size, 0, none⟩) 0 0, .slice (some a) 0 c]).run Tryz.prog (w.alloc (.cells #[] 71)) = .ok (.slice (some ⟨w.heap.size, 0, none⟩) 0 0) (w.alloc (.cells #[] 71)) := fun ty =>
      run_append_room_cells _ _ ty 71 i0 Tryz.underlying22 HI.out w.heap.size 0 0 0 a 0 c [] (by simp) (by simp) (by simp) (Nat.le_refl _) (by simp) (by simp)
    go_wp2_with (at_builtin; refine Lib.wpList_append_run _ rfl (.tmp 5) (.tmp 6) _ _ rfl _ _ rfl rfl _ _ (hr _) ?_)
    go_ret
    exact ⟨some ⟨w.heap.size, 0, none⟩, 0, rfl, Ext.new _ _, ⟨rfl, .inr ⟨w.heap.size, 0, #[], rfl, Nat.le_refl _, heap_alloc_new w _, Nat.le_refl _, by decide, rfl, rfl⟩⟩, fun h => absurd h (by simp)⟩
/-- how Insert ends, seen from the world 'base' cells high in which the list was laid -/
def InsertedL (ls : List LotV) (k : Nat) (x : LotV) (w0 : World) (e : Ending) (w' : World) : Prop :=
  ∃ A cap, e = .returned (.slice A (insAt ls k x).length cap) ∧ RdL w' A (insAt ls k x) ∧ (insAt ls k x).length ≤ cap ∧ Ext w0 w'
set_option maxRecDepth 100000 in
set_option maxHeartbeats 4000000 in
theorem insertEnd (ls : List LotV) (x : LotV) (A : Option Addr) (c vb : Nat) (w0 w : World) (ho : OwnL w w0.heap.size (.slice A ls.length c) ls) (hx : Ext w0 w) (hvb : Blk w vb 71 (lc x)) (hn : ls.length ≤ 1000000) :
    Calls Tryz.prog 113 #[.slice A ls.length c, .int .i64 ls.length, .slice (some ⟨vb, 0, none⟩) 1 1] w (InsertedL ls ls.length x w0) := by
  obtain ⟨i0, hI, hz0, hz1, hz2⟩ := info_parts lotInfo
  have HI := Lib.hid hI
  have HO := Lib.hid ho
  have HX := Lib.hid hx
  have HC : Hid (∀ j u, (lotCells x)[j]? = some u → w.cell? ((⟨vb, 0, none⟩ : Addr).add j) = some u) := Lib.hid (fun j u hu => by rw [Addr.add_lit, Nat.zero_add, hvb.cell]; show (lotCells x).toArray[j]? = some u; rw [List.getElem?_toArray]; exact hu)
  have hsz := hx.size
  have h1 : lots ls ++ lotCells x = lots (insAt ls ls.length x) := by
    rw [lots_insAt (Nat.le_refl _), List.take_of_length_le (by rw [lots_len]; omega), List.drop_of_length_le (by rw [lots_len]; omega), List.append_nil]
  have H1 := Lib.hid h1
  have hlen : (insAt ls ls.length x).length = ls.length + 1 := insAt_len (Nat.le_refl _)
  have HLN := Lib.hid hlen
  have hc0 : ls.length ≤ c := by
    rcases ho.2 with ⟨h, _⟩ | ⟨g', cap', cs', h, _, _, hle, _⟩
    · injection h with h1 h2 h3; omega
    · injection h with h1 h2 h3; omega
  clear hI ho hx hvb h1 hlen
  have hz : ((ls.length : Int) == (ls.length : Int)) = true := by rw [beq_iff_eq]
  have hb0 : (ls.length : Int) ≤ (c : Int) := by omega
  generalize hll : ls.length = n at *
  go_enter Tryz.func113, Tryz.ntmps113
  go_wp2_with (at_builtin; refine wpList_append_lies _ rfl (.tmp 23) (.tmp 24) 22 rfl w0.heap.size 71 i0 _ 7 96 Tryz.underlying22 HI.out hz0 hz1 hz2 rfl (by decide) _ n (lots ls) rfl (hll ▸ HO.out) ⟨vb, 0, none⟩ 1 1 (lotCells x) rfl rfl HC.out (one_lot x) (by decide) (by simp only [maxLen]; omega) (by omega) hsz _ rfl ?_; intro g cap w' hown hgrow hat hlt)
  all_goals
    go_ret
    have hx2 : Ext w0 w' := by
      change w.grownBy w' (Value.slice A n c).ownBlock at hgrow
      rcases HO.out.2 with ⟨h, _⟩ | ⟨g', _, _, h, hg', _⟩
      · rw [h] at hgrow
        exact HX.out.trans ⟨hgrow.os, hgrow.tape, hgrow.output, hgrow.size, fun i hi => hgrow.block i hi (by simp [Value.ownBlock])⟩
      · rw [h] at hgrow
        exact Ext.only HX.out hgrow hg'
    obtain ⟨hg, cur, hrow⟩ := Row.of_own hown
    have hq : Row w' g 71 7 (insAt ls n x).length cap (lots (insAt ls n x)) cur := by rw [HLN.out, ← H1.out]; exact hrow
    exact ⟨some ⟨g, 0, none⟩, cap, by rw [HLN.out]; rfl, hq.reads, hq.le, hx2⟩
set_option maxRecDepth 100000 in
theorem insertL (ls : List LotV) (k : Nat) (x : LotV) (A : Option Addr) (c vb : Nat) (w0 w : World) (hk : k ≤ ls.length) (ho : OwnL w w0.heap.size (.slice A ls.length c) ls) (hr : 0 < ls.length → ∃ g, A = some ⟨g, 0, none⟩ ∧ w0.heap.size ≤ g ∧ RowL w g c ls ∧ vb ≠ g) (hx : Ext w0 w) (hvb : Blk w vb 71 (lc x)) (hn : ls.length ≤ 1000000) :
    Calls Tryz.prog 113 #[.slice A ls.length c, .int .i64 k, .slice (some ⟨vb, 0, none⟩) 1 1] w (InsertedL ls k x w0) := by
  by_cases he : k = ls.length
  · subst he
    exact insertEnd ls x A c vb w0 w ho hx hvb hn
  have hlt : k < ls.length := by omega
  obtain ⟨g, rfl, hg, ⟨cur, hrow⟩, hne⟩ := hr (by omega)
  clear ho he
  have hl : (insAt ls k x).length = ls.length + 1 := insAt_len hk
  have hbig : c ≤ 9223372036854775807 := by have := hrow.big; unfold maxLen at this; omega
  by_cases hroom : ls.length + 1 ≤ c
  · refine (insertShiftL g c ls.length k vb (lots ls) cur (lotCells x) w hrow (oneL ls) hvb hne rfl (one_lot x) hlt hroom hbig).mono ?_
    rintro e w' ⟨g', cap', cur', rfl, hg', hrow', honly⟩
    have hq : Row w' g' 71 7 (insAt ls k x).length cap' (lots (insAt ls k x)) cur' := by rw [hl, lots_insAt hk]; exact hrow'
    exact ⟨some ⟨g', 0, none⟩, cap', by rw [hl], hq.reads, hq.le, Ext.only hx honly hg⟩
  · obtain rfl : c = ls.length := by have := hrow.le; omega
    refine (insertGrowL g ls.length k vb (lots ls) cur (lotCells x) w hrow (oneL ls) hvb rfl (one_lot x) hlt hn).mono ?_
    rintro e w' ⟨g', cap', cur', rfl, hg', hrow', honly⟩
    have hq : Row w' g' 71 7 (insAt ls k x).length cap' (lots (insAt ls k x)) cur' := by rw [hl, lots_insAt hk]; exact hrow'
    exact ⟨some ⟨g', 0, none⟩, cap', by rw [hl], hq.reads, hq.le, Ext.only hx honly hg⟩
end Go.Proofs.YthgpheopnhajaaaGreatDoor

/- The program's lots of an instrument, gathered: lot.Of by slices.Collect and slices.AppendSeq. -/
namespace Go.Proofs.YthgpheopnhajaaaGreatDoor
open Go.RowKit Go.Shelf
attribute [local go_sem] size_bs toList_bs Oper.semAt_some
def OfEnds (ls : List LotV) (ins : Bs) (w : World) (e : Ending) (w' : World) : Prop := ∃ A c, e = .returned (.slice A (ofL ls ins).length c) ∧ OwnL w' w.heap.size (.slice A (ofL ls ins).length c) (ofL ls ins) ∧ (ofL ls ins).length ≤ c ∧ Ext w w'
/-- how AppendSeq stands in memory behind the first k lots -/
structure CoAt (w : World) (B : Nat) (lp : Loop) (ls : List LotV) (A : Option Addr) (c : Nat) (ins : Bs) (k : Nat) (W : World) : Prop where
  ext : Ext w W
  o : ∃ v, Blk W w.heap.size 22 #[v] ∧ OwnL W w.heap.size v (ofL (ls.take k) ins)
  l : Blk W B 22 #[.slice A ls.length c]
  i : Blk W (B + 1) 9 #[.string (bs ins)]
  D : W.heap[w.heap.size + 1]? = some (.deferred (some []))
  L : W.heap[w.heap.size + 1 + 1]? = some (.loop lp)
theorem own_put {w : World} {base : Nat} {e : TypeId} {size n l : Nat} {v : Value} {xs : List Value} {lp lp' : Loop} (h : w.ownsRow base e size v n xs) (hl : w.heap[l]? = some (.loop lp)) : (w.putObj l (.loop lp')).ownsRow base e size v n xs := by
  refine ⟨h.1, ?_⟩
  rcases h.2 with h2 | ⟨g, cap, cur, h1, h2, h3, h4, h5⟩
  · exact .inl h2
  · refine .inr ⟨g, cap, cur, h1, h2, ?_, h4, h5⟩
    have hne : g ≠ l := by rintro rfl; rw [hl] at h3; cases h3
    rw [World.putObj_heap_other hne]
    exact h3
theorem own_lower {w : World} {base b : Nat} {e : TypeId} {size n : Nat} {v : Value} {xs : List Value} (h : w.ownsRow base e size v n xs) (hb : b ≤ base) : w.ownsRow b e size v n xs := by
  refine ⟨h.1, ?_⟩
  rcases h.2 with h2 | ⟨g, cap, cur, h1, h2, h3⟩
  · exact .inl h2
  · exact .inr ⟨g, cap, cur, h1, Nat.le_trans hb h2, h3⟩
theorem own_putD {w : World} {base : Nat} {e : TypeId} {size n l : Nat} {v : Value} {xs : List Value} {o : Obj} (h : w.ownsRow base e size v n xs) (hl : w.heap[l]? = some (.deferred (some []))) : (w.putObj l o).ownsRow base e size v n xs := by
  refine ⟨h.1, ?_⟩
  rcases h.2 with h2 | ⟨g, cap, cur, h1, h2, h3, h4, h5⟩
  · exact .inl h2
  · refine .inr ⟨g, cap, cur, h1, h2, ?_, h4, h5⟩
    have hne : g ≠ l := by rintro rfl; rw [hl] at h3; cases h3
    rw [World.putObj_heap_other hne]
    exact h3
theorem own_noL {w : World} {base : Nat} {e : TypeId} {size n l : Nat} {v : Value} {xs : List Value} {lp : Loop} (h : w.ownsRow base e size v n xs) (hl : w.heap[l]? = some (.loop lp)) : v.ownBlock ≠ some l := by
  rcases h.2 with ⟨rfl, _⟩ | ⟨g, cap, cur, rfl, _, h3, _⟩
  · simp [Value.ownBlock]
  · intro he
    have : g = l := by simpa [Value.ownBlock] using he
    subst this
    rw [hl] at h3; cases h3
theorem own_noD {w : World} {base : Nat} {e : TypeId} {size n l : Nat} {v : Value} {xs : List Value} (h : w.ownsRow base e size v n xs) (hl : w.heap[l]? = some (.deferred (some []))) : v.ownBlock ≠ some l := by
  rcases h.2 with ⟨rfl, _⟩ | ⟨g, cap, cur, rfl, _, h3, _⟩
  · simp [Value.ownBlock]
  · intro he
    have : g = l := by simpa [Value.ownBlock] using he
    subst this
    rw [hl] at h3; cases h3
section
variable {w : World} {B : Nat} {lp lp' : Loop} {ls : List LotV} {A : Option Addr} {c : Nat} {ins : Bs} {k : Nat} {W W' : World}
theorem CoAt.on (h : CoAt w B lp ls A c ins k W) (hx : Ext W W') : CoAt w B lp ls A c ins k W' := by
  obtain ⟨v, h1, h2⟩ := h.o
  exact ⟨h.ext.trans hx, ⟨v, h1.ext hx, own_ext2 h2 hx⟩, h.l.ext hx, h.i.ext hx, ext_heap h.D hx, ext_heap h.L hx⟩
theorem CoAt.put (h : CoAt w B lp ls A c ins k W) (hB : B + 1 < w.heap.size) : CoAt w B lp' ls A c ins k (W.putObj (w.heap.size + 1 + 1) (.loop lp')) := by
  obtain ⟨v, h1, h2⟩ := h.o
  exact ⟨h.ext.putObj (by omega) _, ⟨v, h1.put _ (by omega), own_put h2 h.L⟩, h.l.put _ (by omega), h.i.put _ (by omega), put_heap h.D (by omega), World.putObj_heap_same (Array.getElem?_eq_some_iff.1 h.L).1⟩
theorem CoAt.skip (h : CoAt w B lp ls A c ins k W) (hk : k < ls.length) (hne : (ls[k]'hk).ins ≠ ins) : CoAt w B lp ls A c ins (k + 1) W :=
  ⟨h.ext, by rw [ofL_take_skip hk hne]; exact h.o, h.l, h.i, h.D, h.L⟩
/-- a lot appended and stored -/
theorem CoAt.hit {x : LotV} {w' : World} {v v' : Value} (h : CoAt w B lp ls A c ins k W) (hB : B + 1 < w.heap.size) (hb : Blk W w.heap.size 22 #[v]) (ho : OwnL W w.heap.size v (ofL (ls.take k) ins)) (hgrow : W.grownBy w' v.ownBlock)
    (hown' : w'.ownsRow w.heap.size 71 7 v' ((ofL (ls.take k) ins).length + 1) (lots (ofL (ls.take k) ins) ++ lotCells x)) (hq : ofL (ls.take (k + 1)) ins = ofL (ls.take k) ins ++ [x]) :
    CoAt w B lp ls A c ins (k + 1) (w'.setCell ⟨w.heap.size, 0, none⟩ v') := by
  have keep : ∀ {g : Nat} {t : TypeId} {cs : Array Value}, Blk W g t cs → t ≠ 71 → Blk w' g t cs := fun {g t cs} hb hne =>
    (hgrow.block g hb.lt (fun e => own_ne ho hb hne.symm e.symm)).trans hb
  have hb' := keep hb (by decide)
  have hDl := (Array.getElem?_eq_some_iff.1 h.D).1
  have hLl := (Array.getElem?_eq_some_iff.1 h.L).1
  refine ⟨(Ext.grown h.ext hgrow (own_base ho)).setCell (p := ⟨w.heap.size, 0, none⟩) (Nat.le_refl _) _, ⟨v', hb'.set_ 0 _, ?_⟩, (keep h.l (by decide)).far (p := ⟨w.heap.size, 0, none⟩) (by dsimp only; omega) _, (keep h.i (by decide)).far (p := ⟨w.heap.size, 0, none⟩) (by dsimp only; omega) _, dfar ?_ (by omega), dfar ?_ (by omega)⟩
  · unfold OwnL
    rw [hq, List.length_append, lots_app]
    have e1 : lots [x] = lotCells x := by simp [lots]
    rw [e1]
    exact own_set hown' (own_ne hown' hb' (by decide)) _
  · exact (hgrow.block _ hDl (fun e => own_noD ho h.D e.symm)).trans h.D
  · exact (hgrow.block _ hLl (fun e => own_noL ho h.L e.symm)).trans h.L
end
set_option maxRecDepth 100000 in
set_option maxHeartbeats 4000000 in
theorem lotSeq (ls : List LotV) (A : Option Addr) (c : Nat) (ins : Bs) (w : World) (B : Nat) (hA : RdL w A ls) (hn : ls.length ≤ 100000) (bl : Blk w B 22 #[.slice A ls.length c]) (bi : Blk w (B + 1) 9 #[.string (bs ins)]) :
    Calls Tryz.prog 142 #[.slice none 0 0, .func (.func 141) #[] #[.pointer (some ⟨B, 0, none⟩), .pointer (some ⟨B + 1, 0, none⟩)]] w (OfEnds ls ins w) := by
  have hfn : ∀ k, Fence.wide.fn k := fun _ => trivial
  have hdp : Fence.wide.depth.isSome = false := rfl
  have HA := Lib.hid hA
  have BL := Lib.hid bl
  have BI := Lib.hid bi
  have hlt := bi.lt
  obtain ⟨i0, hI, hz0, hz1, hz2⟩ := info_parts lotInfo
  have HI := Lib.hid hI
  clear hA bl bi hI
  refine (callsIn_wide (n := 5)).1 ?_
  refine callsIn_of_wp_marks Tryz.func142 rfl trivial ?_ rfl
  simp only [Tryz.ntmps142, List.size_toArray, List.length_cons, List.length_nil, Nat.reduceAdd, Nat.reduceSub, Array.replicate_succ, Array.replicate_zero, List.push_toArray, List.append_toArray, List.nil_append, List.cons_append]
  gi_wp2_with fail
  refine range_outer' rfl (by omega) (w.heap.size + 1) (by simp) rfl trivial (fun _ _ => by rfl) ?_
  intro fn lp W1 hlp hW1 _
  have h0 : CoAt w B lp ls A c ins 0 W1 := by
    subst hW1
    refine ⟨((Ext.new w _).alloc _).alloc _, ⟨.slice none 0 0, ((Blk.newAt _ _ _ _ rfl).alloc _).alloc _, World.ownsRow_nil _ _ _ _⟩, ((BL.out.alloc _).alloc _).alloc _, ((BI.out.alloc _).alloc _).alloc _, ?_, ?_⟩
    · exact oldAt (newAt _ _ _ (by simp))
    · exact newAt _ _ _ (by simp)
  refine (lotOf1 4 (w.heap.size + 1 + 1) B w ls A c ins HA.out (by omega) (CoAt w B lp ls A c ins) (fun k W h => ⟨h.ext, h.l, h.i⟩) (fun k W W' h hx => h.on hx) ?hY (fun k hk W hne h => h.skip hk hne) W1 h0).mono ?_
  case hY =>
    intro k hk W he h
    have e1 := congrArg Loop.assign hlp
    have e2 := congrArg Loop.body hlp
    have e3 := congrArg Loop.tmps hlp
    have e4 := congrArg Loop.params hlp
    have e5 : { lp with state := .ready, pending := none } = lp := by rw [hlp]; rfl
    obtain ⟨lb, hlb⟩ : ∃ lb, { lp with state := .busy } = lb := ⟨_, rfl⟩
    simp only [recOf] at e1 e2 e3 e4
    refine yield_round' (rec := lp) h.L (by rw [hlp]; rfl) (by rw [hlp]; rfl) trivial e1 e2 e4 e3 (zip1 _ _ _) hlb ?_
    clear e1 e2 e3 e4 hlp hW1 h0
    have HXN : Hid (Ext W (W.alloc (.cells (lc (ls[k]'hk)) 71))) := Lib.hid (Ext.new _ _)
    have HL0 := Lib.hid (h.on HXN.out).L
    have HP := Lib.hid ((h.on HXN.out).put (lp' := lb) hlt)
    have HBX := Lib.hid ((Blk.new W 71 (lc (ls[k]'hk))).put (.loop lb) (l := w.heap.size + 1 + 1) (by have := (Array.getElem?_eq_some_iff.1 h.L).1; omega))
    have HLB := Lib.hid hlb
    have HE5 := Lib.hid e5
    have HQ := Lib.hid (ofL_take_hit hk he)
    clear h hlb e5 he
    generalize ls[k]'hk = x at *
    gi_wp2
    refine ⟨HL0.out, ?_⟩
    generalize hXX : W.heap.size = X at *
    have hXw : w.heap.size + 1 < X := by have := (Array.getElem?_eq_some_iff.1 HL0.out).1; simp only [World.size_alloc] at this; omega
    clear hXX
    generalize (W.alloc (.cells (lc x) 71)).putObj (w.heap.size + 1 + 1) (.loop lb) = Wb at *
    have HPB := Lib.hid (HP.out.on (Ext.new Wb (.cells (lc x) 71)))
    obtain ⟨v, ob, ow⟩ := HP.out.o
    have q0 := ob.cell 0
    simp only [List.getElem?_toArray, List.getElem?_cons_zero] at q0
    have OB := Lib.hid (ob.alloc (.cells (lc x) 71))
    have OW := Lib.hid (own_ext2 ow (Ext.new Wb (.cells (lc x) 71)))
    have hsz := HPB.out.ext.size
    have hln : (ofL (ls.take k) ins).length ≤ 100000 := Nat.le_trans ofL_len hn
    clear ob ow
    obtain ⟨x0, x1, x2, x3, x4, x5, x6⟩ := lotBlk HBX.out (Ext.refl Wb)
    gi_wp2_with (gi_at_builtin; refine wpListIn_append_own _ rfl (.tmp 8) (.tmp 10) 22 rfl w.heap.size 71 i0 _ 7 96 Tryz.underlying22 HI.out hz0 hz1 hz2 rfl (by decide) v _ _ rfl OW.out ⟨Wb.heap.size, 0, none⟩ 1 1 (lotCells x) rfl rfl (World.news_of_block (heap_alloc_new Wb _)) (one_lot x) (by simp only [maxLen]; omega) (by omega) hsz ?_; intro v2 w' hown' hgrow hnil; (obtain ⟨A2, c2, rfl⟩ := own_slice hown'); clear hnil; (have HT := Lib.hid (HPB.out.hit hlt OB.out OW.out hgrow hown' HQ.out)); (have hbG : Blk w' w.heap.size 22 #[v] := (hgrow.block w.heap.size OB.out.lt (fun e => own_ne OW.out OB.out (by decide) e.symm)).trans OB.out); (have d0 := boxCell hbG); (have d1 := hbG.frozen 0))
    refine ⟨by rw [HLB.out]; exact HT.out.L, rfl, ?_⟩
    rw [HE5.out]
    exact HT.out.put hlt
  rintro e W ⟨hv, h⟩
  refine ⟨hv, .inl ⟨h.L, ?_⟩⟩
  have hP := h.put (lp' := { lp with state := .exhausted }) hlt
  generalize W.putObj (w.heap.size + 1 + 1) (.loop { lp with state := .exhausted }) = W3 at *
  clear h hv hW1 hlp W1 h0
  obtain ⟨v, ob, ow⟩ := hP.o
  rw [List.take_length] at ow
  have q0 := ob.cell 0
  simp only [List.getElem?_toArray, List.getElem?_cons_zero] at q0
  obtain ⟨A2, c2, rfl⟩ := own_slice ow
  have HOW := Lib.hid ow
  have HP := Lib.hid hP
  clear hP ow ob
  gi_wp2
  refine ⟨by simp, .inl ⟨_, _, rfl, run_takeDeferred HP.out.D, ?_⟩⟩
  refine ⟨.slice A2 (ofL ls ins).length c2, by simp [results, Tryz.results142, go_sem], ?_⟩
  exact ⟨A2, c2, rfl, own_putD HOW.out HP.out.D, (own_cap HOW.out).1, HP.out.ext.putObj (by omega) _⟩
set_option maxRecDepth 100000 in
theorem lotCollect (ls : List LotV) (A : Option Addr) (c : Nat) (ins : Bs) (w : World) (B : Nat) (hA : RdL w A ls) (hn : ls.length ≤ 100000) (bl : Blk w B 22 #[.slice A ls.length c]) (bi : Blk w (B + 1) 9 #[.string (bs ins)]) :
    Calls Tryz.prog 82 #[.func (.func 141) #[] #[.pointer (some ⟨B, 0, none⟩), .pointer (some ⟨B + 1, 0, none⟩)]] w (OfEnds ls ins w) := by
  have HS := Lib.hid (lotSeq ls A c ins w B hA hn bl bi)
  clear hA bl bi
  go_enter Tryz.func82, Tryz.ntmps82
  go_wp2_with fail
  refine HS.out.mono ?_
  rintro e w1 ⟨A2, c2, rfl, h1, h2, h3⟩
  have HR := Lib.hid (And.intro h1 (And.intro h2 h3))
  clear h1 h2 h3
  go_wp2_with fail
  go_ret
  exact ⟨A2, c2, rfl, HR.out⟩
set_option maxRecDepth 100000 in
/-- lot.Of -/
theorem lotOfW (ls : List LotV) (A : Option Addr) (c : Nat) (ins : Bs) (w : World) (hA : RdL w A ls) (hn : ls.length ≤ 100000) :
    Calls Tryz.prog 26 #[.slice A ls.length c, .string (bs ins)] w (OfEnds ls ins w) := by
  have HA := Lib.hid hA
  clear hA
  go_enter Tryz.func26, Tryz.ntmps26
  go_wp2_with fail
  refine (lotOf A _ c ins _).mono ?_
  rintro e w1 ⟨rfl, hw1⟩
  have HX : Hid (Ext w w1) := Lib.hid (by rw [hw1]; exact (Ext.new _ _).alloc _)
  have B0 : Hid (Blk w1 w.heap.size 22 #[.slice A ls.length c]) := Lib.hid (by rw [hw1]; exact (Blk.new _ _ _).alloc _)
  have B1 : Hid (Blk w1 (w.heap.size + 1) 9 #[.string (bs ins)]) := Lib.hid (by rw [hw1]; exact Blk.newAt _ _ _ _ (by simp))
  clear hw1
  go_wp2_with fail
  refine (lotCollect ls A c ins w1 w.heap.size (HA.out.ext HX.out) hn B0.out B1.out).mono ?_
  rintro e w2 ⟨A2, c2, rfl, h1, h2, h3⟩
  have HR := Lib.hid (And.intro (own_lower h1 HX.out.size) (And.intro h2 (HX.out.trans h3)))
  clear h1 h2 h3
  go_wp2_with fail
  go_ret
  exact ⟨A2, c2, rfl, HR.out⟩
end Go.Proofs.YthgpheopnhajaaaGreatDoor

/- What holds at each step of the region that describes the kinds. -/
namespace Go.Proofs.YthgpheopnhajaaaGreatDoor
open Go.RowKit
open Go.Maps (Keyed)
inductive SK | lv | mk | am | wc | nm | mm | kd | ex | sl | sx | no
def exK : Value := kv [101, 120, 99, 104, 97, 110, 103, 101] 1 (setAll [0, 11] no13) (.map none) false
theorem MapAt.isMap {W : World} {b n : Nat} {D : DataW Value} (h : MapAt W b n D) : Maps.IsMap D := World.ownsMap.isMap h
structure RC where
  w0 : World
  G1 : Nat
  G3 : Nat
  lvP : Value
abbrev RC.amV (c : RC) : Value := .func (.func 152) #[] #[.pointer (some ⟨c.G3, 0, none⟩), .pointer (some ⟨c.G1, 0, none⟩)]
abbrev wcV : Value := .func (.func 153) #[] #[]
/-- a map of numbers -/
def NMc (c : RC) (f : Nat) (bm : Option Nat) (w : World) (b : Nat) : Prop := c.w0.heap.size ≤ b ∧ some b ≠ bm ∧ ∃ n D, MapAt w b n D ∧ n + f ≤ 200 ∧ KeyOK D
def SlAt (w : World) (v : Value) (ms : List Nat) : Prop := ∃ g, v = .slice (some ⟨g, 0, none⟩) ms.length ms.length ∧ Blk w g 3 (icells ms).toArray
def Fit (c : RC) (f : Nat) (bm : Option Nat) (w : World) : SK → Value → Prop
  | .lv, _ => True
  | .mk, v => v = makerV
  | .am, v => v = c.amV
  | .wc, v => v = wcV
  | .nm, v => ∃ b, v = .map (some b) ∧ NMc c f bm w b
  | .mm, v => ∃ b, v = .map (some b) ∧ bm = some b
  | .kd, v => ∃ word cl bits num code, bits.length = 13 ∧ num.oneCell' = true ∧ v = kv word cl bits num code
  | .ex, v => v = exK
  | .sl, v => ∃ ms, (∀ x ∈ ms, x < 13) ∧ ms.length ≤ 1000 ∧ SlAt w v ms
  | .sx, v => SlAt w v [0, 11]
  | .no, _ => True
def Main (c : RC) (i10 f : Nat) (listed : Array Bool) (b : Nat) (w : World) : Prop :=
  c.w0.heap.size ≤ b ∧ ∃ n D, MapAt w b n D ∧ n + f ≤ 200 ∧ (listed.getD i10 false = true → Maps.has D (.int .i64 10) = true ∧ ∀ z, D.atKey (.int .i64 10) z = .held exK)
def Filled (ops : Array Oper) (listed : Array Bool) (d : Nat) : Prop := (d = 2 ∨ d = 4 ∨ d = 5 ∨ d = 6) ∨ ∃ i o, ops[i]? = some o ∧ listed.getD i false = true ∧ o.dst = some d
structure RInv (c : RC) (sk : Nat → SK) (i10 : Nat) (ops : Array Oper) (f : Nat) (listed : Array Bool) (bm : Option Nat) (a : Act) (w : World) : Prop where
  size : listed.size = ops.size
  cnt : listed.toList.count false ≤ f
  ext : Ext c.w0 w
  tms : a.tmps.size = 105
  dfr : a.defers = []
  t1 : a.tmps.getD 1 undef = .pointer (some ⟨c.G1, 0, none⟩)
  t3 : a.tmps.getD 3 undef = .pointer (some ⟨c.G3, 0, none⟩)
  b1 : Blk w c.G1 LT2 #[c.lvP]
  b3 : Blk w c.G3 FT #[makerV]
  fits : ∀ d, Filled ops listed d → Fit c f bm w (sk d) (a.tmps.getD d undef)
  main : ∀ b, bm = some b → Main c i10 f listed b w
  fst : listed.getD 0 false = false → bm = none
  ten : listed.getD i10 false = true → bm.isSome = true
def RAt (c : RC) (sk : Nat → SK) (i10 : Nat) (ops : Array Oper) (f : Nat) (listed : Array Bool) (a : Act) (w : World) : Prop := ∃ bm, RInv c sk i10 ops f listed bm a w
theorem Fit.on {c : RC} {f : Nat} {bm bm' : Option Nat} {w w' : World} {k : SK} {v : Value} (h : Fit c (f + 1) bm w k v) (hblk : ∀ g t cs, Blk w g t cs → Blk w' g t cs)
    (hmap : ∀ b, NMc c (f + 1) bm w b → NMc c f bm' w' b) (hbm : ∀ b, bm = some b → bm' = some b) : Fit c f bm' w' k v := by
  cases k
  · trivial
  · exact h
  · exact h
  · exact h
  · obtain ⟨b, e, hb⟩ := h; exact ⟨b, e, hmap b hb⟩
  · obtain ⟨b, e, hb⟩ := h; exact ⟨b, e, hbm b hb⟩
  · exact h
  · exact h
  · obtain ⟨ms, h1, h2, g, e, hg⟩ := h; exact ⟨ms, h1, h2, g, e, hblk _ _ _ hg⟩
  · obtain ⟨g, e, hg⟩ := h; exact ⟨g, e, hblk _ _ _ hg⟩
  · trivial
theorem listed_up {listed : Array Bool} {i j : Nat} (h : listed.getD j false = true) : (listed.setIfInBounds i true).getD j false = true := by
  rw [Array.getD_eq_getD_getElem?] at h ⊢
  rw [Array.getElem?_setIfInBounds]
  split
  · rename_i e
    subst e
    split
    · rfl
    · rename_i hge
      rw [Array.getElem?_eq_none (by omega)] at h
      cases h
  · exact h
theorem getD_put {a : Act} {d : Nat} {v : Value} {x : Nat} (h : x ≠ d) : (a.put (some d) v).tmps.getD x undef = a.tmps.getD x undef := by
  unfold Act.put
  rw [Array.getD_eq_getD_getElem?, Array.getD_eq_getD_getElem?]
  rw [Array.getElem?_setIfInBounds_ne (by omega)]
theorem getD_new {a : Act} {d : Nat} {v : Value} (h : d < a.tmps.size) : (a.put (some d) v).tmps.getD d undef = v := by
  unfold Act.put
  rw [Array.getD_eq_getD_getElem?, Array.getElem?_setIfInBounds_self_of_lt h]
  rfl
section
variable {c : RC} {sk : Nat → SK} {i10 : Nat} {ops : Array Oper} {f : Nat} {listed : Array Bool} {bm : Option Nat} {a : Act} {w : World} {i : Nat} {o : Oper}
theorem RInv.step (h : RInv c sk i10 ops (f + 1) listed bm a w) (hi : i ∈ Region.ready .any ops listed) (ho : ops[i]? = some o) (v : Value) (w' : World) (bm' : Option Nat)
    (hdst : ∀ d, o.dst = some d → (d ≠ 1 ∧ d ≠ 3 ∧ d < 105) ∧ Fit c f bm' w' (sk d) v) (hext : Ext c.w0 w') (hblk : ∀ g t cs, Blk w g t cs → Blk w' g t cs)
    (hmap : ∀ b, NMc c (f + 1) bm w b → NMc c f bm' w' b) (hbm : ∀ b, bm = some b → bm' = some b) (hmain : ∀ b, bm' = some b → Main c i10 f (listed.setIfInBounds i true) b w')
    (hnone : (listed.setIfInBounds i true).getD 0 false = false → bm' = none) (hten : i10 = i → bm'.isSome = true) : RAt c sk i10 ops f (listed.setIfInBounds i true) (a.put o.dst v) w' := by
  have hc := count_set (ready_not hi)
  have hcn := h.cnt
  have hput : ∀ x, (∀ d, o.dst = some d → x ≠ d) → (a.put o.dst v).tmps.getD x undef = a.tmps.getD x undef := fun x hx => by
    cases hd : o.dst with
    | none => rfl
    | some d => exact getD_put (hx d hd)
  refine ⟨bm', by rw [Array.size_setIfInBounds]; exact h.size, by omega, hext, ?_, ?_, ?_, ?_, hblk _ _ _ h.b1, hblk _ _ _ h.b3, ?_, hmain, hnone, ?_⟩
  · unfold Act.put
    split
    · rw [← h.tms]; exact Array.size_setIfInBounds ..
    · exact h.tms
  · unfold Act.put
    split <;> exact h.dfr
  · rw [hput 1 (fun d hd => (hdst d hd).1.1.symm)]; exact h.t1
  · rw [hput 3 (fun d hd => (hdst d hd).1.2.1.symm)]; exact h.t3
  · intro d hf
    by_cases hd : o.dst = some d
    · rw [hd, getD_new (by rw [h.tms]; exact (hdst d hd).1.2.2)]
      exact (hdst d hd).2
    · rw [hput d (fun d' hd' e => hd (by rw [hd', e]))]
      refine (h.fits d ?_).on hblk hmap hbm
      rcases hf with hf | ⟨j, oj, hj, hl, hdj⟩
      · exact .inl hf
      · rcases listed_set hl with e | e
        · subst e
          rw [ho] at hj
          cases hj
          exact absurd hdj hd
        · exact .inr ⟨j, oj, hj, e, hdj⟩
  · intro hl
    rcases listed_set hl with e | e
    · exact hten e
    · obtain ⟨b, eb⟩ := Option.isSome_iff_exists.1 (h.ten e)
      rw [hbm b eb]
      rfl
theorem NMc.ext {w' : World} {b : Nat} (h : NMc c (f + 1) bm w b) (hx : Ext w w') : NMc c f bm w' b := by
  obtain ⟨h1, h2, n, D, h3, h4, h5⟩ := h
  exact ⟨h1, h2, n, D, h3.ext hx, by omega, h5⟩
theorem Main.ext {w' : World} {b : Nat} (h : Main c i10 (f + 1) listed b w) (hx : Ext w w') (hne : i ≠ i10) : Main c i10 f (listed.setIfInBounds i true) b w' := by
  obtain ⟨h1, n, D, h3, h4, h5⟩ := h
  refine ⟨h1, n, D, h3.ext hx, by omega, fun hl => h5 ?_⟩
  rcases listed_set hl with e | e
  · exact absurd e.symm hne
  · exact e
/-- the world has grown alone -/
theorem RInv.grow (h : RInv c sk i10 ops (f + 1) listed bm a w) (hi : i ∈ Region.ready .any ops listed) (ho : ops[i]? = some o) (hne : i ≠ i10) (v : Value) (w' : World) (hx : Ext w w')
    (hdst : ∀ d, o.dst = some d → (d ≠ 1 ∧ d ≠ 3 ∧ d < 105) ∧ Fit c f bm w' (sk d) v) : RAt c sk i10 ops f (listed.setIfInBounds i true) (a.put o.dst v) w' :=
  h.step hi ho v w' bm hdst (h.ext.trans hx) (fun _ _ _ hb => hb.ext hx) (fun _ hb => hb.ext hx) (fun _ e => e) (fun b e => (h.main b e).ext hx hne) (fun hn => h.fst (by
    cases hl : listed.getD 0 false
    · rfl
    · rw [listed_up hl] at hn; cases hn)) (fun e => absurd e.symm hne)
end
end Go.Proofs.YthgpheopnhajaaaGreatDoor

/- The steps of the region that describes the kinds. -/
namespace Go.Proofs.YthgpheopnhajaaaGreatDoor
open Go.RowKit
open Go.Maps (Keyed)
attribute [local go_sem] size_bs toList_bs
theorem wpOp_of {P : Program} {ops : Array Oper} {Q : Exit → Act → World → Prop} {i : Nat} {o : Oper} {K : Act → World → Prop} {a : Act} {w : World} (ho : ops[i]? = some o) (hg : o.guard = none) (h : o.wp P a w K Q) : wpOp P ops Q i K a w := by
  unfold wpOp
  rw [ho]
  dsimp only
  rw [if_pos (by simp [Region.wanted, hg])]
  exact .inl h
theorem filled_pred {ops : Array Oper} {listed : Array Bool} {i : Nat} (hi : i ∈ Region.ready .any ops listed) {o : Oper} (ho : ops[i]? = some o) (p : Nat) (hp : (o.after.toList.any fun e => e.on == p && Region.binds .any e) = true) {q : Oper} (hq : ops[p]? = some q) {d : Nat} (hd : q.dst = some d) : Filled ops listed d :=
  .inr ⟨p, q, hq, ready_pred hi ho hp, hd⟩
theorem bs_data (b : ByteArray) : b = bs b.data.toList := by
  cases b; unfold bs; simp
abbrev DstOK (o : Oper) (d : Nat) : Prop := o.dst = some d ∧ d ≠ 1 ∧ d ≠ 3 ∧ d < 105
section
variable {c : RC} {sk : Nat → SK} {i10 : Nat} {ops : Array Oper} {f : Nat} {listed : Array Bool} {bm : Option Nat} {a : Act} {w : World} {i : Nat} {o : Oper} {Q : Exit → Act → World → Prop}
theorem dst_of {d : Nat} {v : Value} {bm' : Option Nat} {w' : World} (hd : DstOK o d) (hv : Fit c f bm' w' (sk d) v) : ∀ d, o.dst = some d → (d ≠ 1 ∧ d ≠ 3 ∧ d < 105) ∧ Fit c f bm' w' (sk d) v := fun d' e => by
  rw [hd.1] at e
  cases e
  exact ⟨hd.2, hv⟩
theorem Fit.less {k : SK} {v : Value} (h : Fit c (f + 1) bm w k v) : Fit c f bm w k v := h.on (fun _ _ _ h => h) (fun _ h => h.ext (Ext.refl _)) (fun _ h => h)
theorem eval_tmp (a : Act) (m : Nat) : a.eval (.tmp m) = a.tmps.getD m undef := rfl
theorem st_move (h : RInv c sk i10 ops (f + 1) listed bm a w) (hi : i ∈ Region.ready .any ops listed) (ho : ops[i]? = some o) (hg : o.guard = none) (m d : Nat) (hop : o.op = .move (.tmp m) ∨ o.op = .assign (.tmp m)) (hne : i ≠ i10) (hd : DstOK o d) (hf : Filled ops listed m) (hk : sk d = sk m) :
    wpOp Tryz.prog ops Q i (RAt c sk i10 ops f (listed.setIfInBounds i true)) a w := by
  refine wpOp_of ho hg ?_
  have key : RAt c sk i10 ops f (listed.setIfInBounds i true) (a.put o.dst (a.eval (.tmp m))) w :=
    h.grow hi ho hne _ w (Ext.refl _) (dst_of hd (by rw [hk, eval_tmp]; exact (h.fits m hf).less))
  unfold Oper.wp
  rcases hop with hop | hop
  · simp only [execOp, hop]
    exact key
  · simp only [execOp, hop]
    exact key
theorem loadOne1 {w : World} {g : Nat} {v : Value} (h : Blk w g LT2 #[v]) : (Instr.loadAt 204 (.pointer (some ⟨g, 0, none⟩))).run Tryz.prog w = .ok v w := by
  have q := h.cell 0
  simp only [List.getElem?_toArray, List.getElem?_cons_zero] at q
  go_simp
theorem loadOne3 {w : World} {g : Nat} {v : Value} (h : Blk w g FT #[v]) : (Instr.loadAt 207 (.pointer (some ⟨g, 0, none⟩))).run Tryz.prog w = .ok v w := by
  have q := h.cell 0
  simp only [List.getElem?_toArray, List.getElem?_cons_zero] at q
  go_simp
theorem st_load1 (h : RInv c sk i10 ops (f + 1) listed bm a w) (hi : i ∈ Region.ready .any ops listed) (ho : ops[i]? = some o) (hg : o.guard = none) (d : Nat) (hop : o.op = .load 204 (.tmp 1)) (hne : i ≠ i10) (hd : DstOK o d) (hk : sk d = .lv) :
    wpOp Tryz.prog ops Q i (RAt c sk i10 ops f (listed.setIfInBounds i true)) a w := by
  refine wpOp_of ho hg ?_
  unfold Oper.wp
  have hr := loadOne1 h.b1
  simp [execOp, hop, eval_tmp, h.t1, hr, Result.andThen]
  exact h.grow hi ho hne _ w (Ext.refl _) (dst_of hd (by rw [hk]; trivial))
theorem st_load3 (h : RInv c sk i10 ops (f + 1) listed bm a w) (hi : i ∈ Region.ready .any ops listed) (ho : ops[i]? = some o) (hg : o.guard = none) (d : Nat) (hop : o.op = .load 207 (.tmp 3)) (hne : i ≠ i10) (hd : DstOK o d) (hk : sk d = .mk) :
    wpOp Tryz.prog ops Q i (RAt c sk i10 ops f (listed.setIfInBounds i true)) a w := by
  refine wpOp_of ho hg ?_
  unfold Oper.wp
  have hr := loadOne3 h.b3
  simp [execOp, hop, eval_tmp, h.t3, hr, Result.andThen]
  exact h.grow hi ho hne _ w (Ext.refl _) (dst_of hd (by rw [hk]; rfl))
theorem st_makeN (h : RInv c sk i10 ops (f + 1) listed bm a w) (hi : i ∈ Region.ready .any ops listed) (ho : ops[i]? = some o) (hg : o.guard = none) (hf200 : f ≤ 190) (t d : Nat) (hop : o.op = .makeMap t none) (hne : i ≠ i10) (hd : DstOK o d) (hk : sk d = .nm) :
    wpOp Tryz.prog ops Q i (RAt c sk i10 ops f (listed.setIfInBounds i true)) a w := by
  refine wpOp_of ho hg ?_
  unfold Oper.wp
  have hr := @run_makeMap Tryz.prog t w
  simp [execOp, hop, hr, Result.andThen]
  refine h.grow hi ho hne _ _ (Ext.new _ _) (dst_of hd ?_)
  rw [hk]
  refine ⟨_, rfl, h.ext.size, fun e => ?_, 0, .map [], World.ownsMap_made _ _ _ _, by omega, keyOK_nil⟩
  obtain ⟨_, n, D, hm, _⟩ := h.main _ e.symm
  exact absurd hm.lt (by omega)
theorem st_makeM (h : RInv c sk i10 ops (f + 1) listed bm a w) (hi : 0 ∈ Region.ready .any ops listed) (ho : ops[0]? = some o) (hg : o.guard = none) (hf200 : f ≤ 190) (t d : Nat) (hop : o.op = .makeMap t none) (hne : 0 ≠ i10) (hd : DstOK o d) (hk : sk d = .mm) :
    wpOp Tryz.prog ops Q 0 (RAt c sk i10 ops f (listed.setIfInBounds 0 true)) a w := by
  refine wpOp_of ho hg ?_
  unfold Oper.wp
  have hr := @run_makeMap Tryz.prog t w
  simp [execOp, hop, hr, Result.andThen]
  have hnone : bm = none := h.fst (by
    have := ready_not hi
    rw [Array.getD_eq_getD_getElem?] at this ⊢
    cases e : listed[0]? with
    | none => rfl
    | some x => rw [e] at this; exact this)
  refine h.step hi ho _ _ (some w.heap.size) (dst_of hd (by rw [hk]; exact ⟨_, rfl, rfl⟩)) (h.ext.trans (Ext.new _ _)) (fun _ _ _ hb => hb.alloc _) ?_ (fun b e => by rw [hnone] at e; cases e) ?_ ?_ ?_
  · intro b hb
    obtain ⟨h1, h2, n, D, h3, h4, h5⟩ := hb
    exact ⟨h1, fun e => by have := h3.lt; cases e; omega, n, D, h3.ext (Ext.new _ _), by omega, h5⟩
  · intro b e
    cases e
    refine ⟨h.ext.size, 0, .map [], World.ownsMap_made _ _ _ _, by omega, fun hl => ?_⟩
    rcases listed_set hl with e | e
    · exact absurd e.symm hne
    · have := h.ten e
      rw [hnone] at this; cases this
  · intro hn
    have : (listed.setIfInBounds 0 true).getD 0 false = true := by
      have hlt := ready_lt hi
      rw [← h.size] at hlt
      rw [Array.getD_eq_getD_getElem?, Array.getElem?_setIfInBounds_self_of_lt hlt]
      rfl
    rw [this] at hn; cases hn
  · intro e; exact absurd e.symm hne
end
end Go.Proofs.YthgpheopnhajaaaGreatDoor
