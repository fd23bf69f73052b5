/- The seat's texts, part 14. -/
import Derived.Test.YthgpheopnhajaaaGreatDoorV13
import Derived.Deep.MidRow
import Derived.Deep.RegionHeld3
import Derived.BigQuiet
import Derived.BigRegion

/- Exchanges as facts: the fields that are numbers. -/
namespace Go.Proofs.YthgpheopnhajaaaGreatDoor
open Go.RowKit Go.Shelf
attribute [local go_sem] size_bs toList_bs
def ixOK (K : Int) : Prop := ∀ w : World, (Instr.index 251 (.agg #[Value.string ⟨#[]⟩, Value.string ⟨#[]⟩, Value.string ⟨#[]⟩, Value.string ⟨#[]⟩, Value.string ⟨#[]⟩, Value.string ⟨#[]⟩, Value.string ⟨#[]⟩, Value.string ⟨#[]⟩, Value.string ⟨#[]⟩, Value.string ⟨#[]⟩, Value.string ⟨#[]⟩, Value.string ⟨#[]⟩, Value.string ⟨#[]⟩, Value.string ⟨#[]⟩, Value.string ⟨#[]⟩, Value.string ⟨#[]⟩, Value.string ⟨#[]⟩, Value.string ⟨#[]⟩, Value.string ⟨#[]⟩, Value.string ⟨#[]⟩, Value.string ⟨#[]⟩, Value.string ⟨#[]⟩, Value.string ⟨#[]⟩, Value.string ⟨#[]⟩, Value.string ⟨#[]⟩, Value.string ⟨#[]⟩]) (.int .i64 K)).run Tryz.prog w = .ok (.agg #[Value.string ⟨#[]⟩, Value.string ⟨#[]⟩]) w
set_option maxRecDepth 100000 in
theorem ix26 (w : World) : (Instr.build 251 #[(4, Value.agg #[Value.string ⟨#[]⟩, Value.string ⟨#[]⟩]), (5, Value.agg #[Value.string ⟨#[]⟩, Value.string ⟨#[]⟩]), (6, Value.agg #[Value.string ⟨#[]⟩, Value.string ⟨#[]⟩]), (7, Value.agg #[Value.string ⟨#[]⟩, Value.string ⟨#[]⟩]), (8, Value.agg #[Value.string ⟨#[]⟩, Value.string ⟨#[]⟩]), (9, Value.agg #[Value.string ⟨#[]⟩, Value.string ⟨#[]⟩])]).run Tryz.prog w = .ok (Value.agg #[Value.string ⟨#[]⟩, Value.string ⟨#[]⟩, Value.string ⟨#[]⟩, Value.string ⟨#[]⟩, Value.string ⟨#[]⟩, Value.string ⟨#[]⟩, Value.string ⟨#[]⟩, Value.string ⟨#[]⟩, Value.string ⟨#[]⟩, Value.string ⟨#[]⟩, Value.string ⟨#[]⟩, Value.string ⟨#[]⟩, Value.string ⟨#[]⟩, Value.string ⟨#[]⟩, Value.string ⟨#[]⟩, Value.string ⟨#[]⟩, Value.string ⟨#[]⟩, Value.string ⟨#[]⟩, Value.string ⟨#[]⟩, Value.string ⟨#[]⟩, Value.string ⟨#[]⟩, Value.string ⟨#[]⟩, Value.string ⟨#[]⟩, Value.string ⟨#[]⟩, Value.string ⟨#[]⟩, Value.string ⟨#[]⟩]) w := by
  rfl
set_option maxRecDepth 100000 in
theorem fkIx4 : ixOK 4 := fun w => by rfl
set_option maxRecDepth 100000 in
theorem fkIx5 : ixOK 5 := fun w => by rfl
set_option maxRecDepth 100000 in
theorem fkIx6 : ixOK 6 := fun w => by rfl
set_option maxRecDepth 100000 in
theorem fkIx7 : ixOK 7 := fun w => by rfl
set_option maxRecDepth 100000 in
theorem fkIx8 : ixOK 8 := fun w => by rfl
set_option maxRecDepth 100000 in
theorem fkIx9 : ixOK 9 := fun w => by rfl
theorem fact_range {w : World} {g : Nat} {cs : Array Value} (h : Blk w g 30 cs) : w.rangeAt g 0 cs.toList := fun j v hv => by rw [Nat.zero_add, h.cell j, ← Array.getElem?_toList]; exact hv
section
variable (key : Bs) (day : Int) (ins : Bs) (A : Option Addr) (n c : Nat)
set_option maxRecDepth 100000 in
set_option maxHeartbeats 8000000 in
theorem fkValue (K : Int) (hix : ixOK K) (w : World) : Calls Tryz.prog 158 #[xv key day ins A n c, .int .i64 K] w fun e w' => e = .returned (.agg #[.string ⟨#[]⟩, .string ⟨#[]⟩]) ∧ Ext w w' := by
  have HB := Lib.hid ((Blk.new w 30 (xc key day ins A n c)).alloc (.cells #[.string ⟨#[]⟩, .string ⟨#[]⟩] 26))
  have HP := Lib.hid (Blk.newAt (w.alloc (.cells (xc key day ins A n c) 30)) 26 #[.string ⟨#[]⟩, .string ⟨#[]⟩] (w.heap.size + 1) (by simp))
  have HX : Hid (Ext w ((w.alloc (.cells (xc key day ins A n c) 30)).alloc (.cells #[.string ⟨#[]⟩, .string ⟨#[]⟩] 26))) := Lib.hid ((Ext.new _ _).alloc _)
  have HIX := Lib.hid hix
  clear hix
  go_enter Tryz.func158, Tryz.ntmps158
  go_upto_region 1 with fail
  generalize (w.alloc (.cells (xc key day ins A n c) 30)).alloc (.cells #[.string ⟨#[]⟩, .string ⟨#[]⟩] 26) = W at *
  refine wp_region_any (by kernel_rfl) ?_
  replace HB := Lib.hid HB.out.drew
  replace HP := Lib.hid HP.out.drew
  replace HX := Lib.hid HX.out.drew
  change wpAny _ _ _ _ _ _ _ W.drew
  generalize W.drew = Wd at *
  generalize hX7 : w.heap.size = X7 at *
  have l9 : ∀ W, Ext Wd W → (Instr.loadAt 24 (.pointer (some ⟨X7, 9, none⟩))).run Tryz.prog W = .ok (Value.string ⟨#[]⟩) W := fun W hx => by
    obtain ⟨x0, x1, x2, x3, x4, x5, x6, x7, x8, x9, x10, x11, x12, x13, x14, x15, x16, x17, x18, x19, x20⟩ := xBlk HB.out hx
    go_simp
  have l10 : ∀ W, Ext Wd W → (Instr.loadAt 24 (.pointer (some ⟨X7, 10, none⟩))).run Tryz.prog W = .ok (Value.string ⟨#[]⟩) W := fun W hx => by
    obtain ⟨x0, x1, x2, x3, x4, x5, x6, x7, x8, x9, x10, x11, x12, x13, x14, x15, x16, x17, x18, x19, x20⟩ := xBlk HB.out hx
    go_simp
  have l11 : ∀ W, Ext Wd W → (Instr.loadAt 24 (.pointer (some ⟨X7, 11, none⟩))).run Tryz.prog W = .ok (Value.string ⟨#[]⟩) W := fun W hx => by
    obtain ⟨x0, x1, x2, x3, x4, x5, x6, x7, x8, x9, x10, x11, x12, x13, x14, x15, x16, x17, x18, x19, x20⟩ := xBlk HB.out hx
    go_simp
  have l12 : ∀ W, Ext Wd W → (Instr.loadAt 26 (.pointer (some ⟨X7, 12, none⟩))).run Tryz.prog W = .ok (Value.agg #[Value.string ⟨#[]⟩, Value.string ⟨#[]⟩]) W := fun W hx => by
    obtain ⟨x0, x1, x2, x3, x4, x5, x6, x7, x8, x9, x10, x11, x12, x13, x14, x15, x16, x17, x18, x19, x20⟩ := xBlk HB.out hx
    go_simp
  have l14 : ∀ W, Ext Wd W → (Instr.loadAt 26 (.pointer (some ⟨X7, 14, none⟩))).run Tryz.prog W = .ok (Value.agg #[Value.string ⟨#[]⟩, Value.string ⟨#[]⟩]) W := fun W hx => by
    obtain ⟨x0, x1, x2, x3, x4, x5, x6, x7, x8, x9, x10, x11, x12, x13, x14, x15, x16, x17, x18, x19, x20⟩ := xBlk HB.out hx
    go_simp
  have l16 : ∀ W, Ext Wd W → (Instr.loadAt 26 (.pointer (some ⟨X7, 16, none⟩))).run Tryz.prog W = .ok (Value.agg #[Value.string ⟨#[]⟩, Value.string ⟨#[]⟩]) W := fun W hx => by
    obtain ⟨x0, x1, x2, x3, x4, x5, x6, x7, x8, x9, x10, x11, x12, x13, x14, x15, x16, x17, x18, x19, x20⟩ := xBlk HB.out hx
    go_simp
  have f9 : ∀ W : World, (Instr.fieldAt 30 (.pointer (some ⟨X7, 0, none⟩)) 9).run Tryz.prog W = .ok (.pointer (some ⟨X7, 9, none⟩)) W := fun W => by go_simp
  have f10 : ∀ W : World, (Instr.fieldAt 30 (.pointer (some ⟨X7, 0, none⟩)) 10).run Tryz.prog W = .ok (.pointer (some ⟨X7, 10, none⟩)) W := fun W => by go_simp
  have f11 : ∀ W : World, (Instr.fieldAt 30 (.pointer (some ⟨X7, 0, none⟩)) 11).run Tryz.prog W = .ok (.pointer (some ⟨X7, 11, none⟩)) W := fun W => by go_simp
  have f12 : ∀ W : World, (Instr.fieldAt 30 (.pointer (some ⟨X7, 0, none⟩)) 12).run Tryz.prog W = .ok (.pointer (some ⟨X7, 12, none⟩)) W := fun W => by go_simp
  have f13 : ∀ W : World, (Instr.fieldAt 30 (.pointer (some ⟨X7, 0, none⟩)) 13).run Tryz.prog W = .ok (.pointer (some ⟨X7, 14, none⟩)) W := fun W => by go_simp
  have f14 : ∀ W : World, (Instr.fieldAt 30 (.pointer (some ⟨X7, 0, none⟩)) 14).run Tryz.prog W = .ok (.pointer (some ⟨X7, 16, none⟩)) W := fun W => by go_simp
  have st : ∀ W, Ext Wd W → (Instr.storeAt 26 (.pointer (some ⟨X7 + 1, 0, none⟩)) (Value.agg #[Value.string ⟨#[]⟩, Value.string ⟨#[]⟩])).run Tryz.prog W = .ok () ((W.setCell ⟨X7 + 1, 0, none⟩ (.string ⟨#[]⟩)).setCell ⟨X7 + 1, 1, none⟩ (.string ⟨#[]⟩)) := fun W hx => by
    obtain ⟨p0, p1, q0, q1⟩ := frBlk HP.out hx
    go_simp
  refine wpAny_inv (Inv := GrInv _ _ (fun s => (#[Value.pointer (some ⟨X7, 9, none⟩), Value.string ⟨#[]⟩, Value.agg #[Value.string ⟨#[]⟩, Value.string ⟨#[]⟩], Value.pointer (some ⟨X7, 10, none⟩), Value.string ⟨#[]⟩, Value.agg #[Value.string ⟨#[]⟩, Value.string ⟨#[]⟩], Value.pointer (some ⟨X7, 11, none⟩), Value.string ⟨#[]⟩, Value.agg #[Value.string ⟨#[]⟩, Value.string ⟨#[]⟩], Value.pointer (some ⟨X7, 12, none⟩), Value.agg #[Value.string ⟨#[]⟩, Value.string ⟨#[]⟩], Value.pointer (some ⟨X7, 14, none⟩), Value.agg #[Value.string ⟨#[]⟩, Value.string ⟨#[]⟩], Value.pointer (some ⟨X7, 16, none⟩), Value.agg #[Value.string ⟨#[]⟩, Value.string ⟨#[]⟩], Value.agg #[Value.string ⟨#[]⟩, Value.string ⟨#[]⟩, Value.string ⟨#[]⟩, Value.string ⟨#[]⟩, Value.string ⟨#[]⟩, Value.string ⟨#[]⟩, Value.string ⟨#[]⟩, Value.string ⟨#[]⟩, Value.string ⟨#[]⟩, Value.string ⟨#[]⟩, Value.string ⟨#[]⟩, Value.string ⟨#[]⟩, Value.string ⟨#[]⟩, Value.string ⟨#[]⟩, Value.string ⟨#[]⟩, Value.string ⟨#[]⟩, Value.string ⟨#[]⟩, Value.string ⟨#[]⟩, Value.string ⟨#[]⟩, Value.string ⟨#[]⟩, Value.string ⟨#[]⟩, Value.string ⟨#[]⟩, Value.string ⟨#[]⟩, Value.string ⟨#[]⟩, Value.string ⟨#[]⟩, Value.string ⟨#[]⟩], Value.int .i64 K, Value.agg #[Value.string ⟨#[]⟩, Value.string ⟨#[]⟩]] : Array Value).getD (s - 5) undef) 5 18 (fun W => Ext Wd W) (fun W => ∃ W0, Ext Wd W0 ∧ Ext ((W0.setCell ⟨X7 + 1, 0, none⟩ (.string ⟨#[]⟩)).setCell ⟨X7 + 1, 1, none⟩ (.string ⟨#[]⟩)) W)) ?hend ?hz ?hstep _ _ _ _ (GrInv.start _ (Ext.refl _))
  case hz => exact fun listed a w' h => ready_nil (by have := h.cnt; omega) h.size
  case hend =>
    intro f listed a w' h hr
    obtain ⟨ha, hj⟩ := h.fin (by decide) hr (by kernel_rfl)
    have ha2 : a = ({ tmps := #[xv key day ins A n c, Value.int .i64 K, Value.pointer (some ⟨X7, 0, none⟩), undef, Value.pointer (some ⟨X7 + 1, 0, none⟩), Value.pointer (some ⟨X7, 9, none⟩), Value.string ⟨#[]⟩, Value.agg #[Value.string ⟨#[]⟩, Value.string ⟨#[]⟩], Value.pointer (some ⟨X7, 10, none⟩), Value.string ⟨#[]⟩, Value.agg #[Value.string ⟨#[]⟩, Value.string ⟨#[]⟩], Value.pointer (some ⟨X7, 11, none⟩), Value.string ⟨#[]⟩, Value.agg #[Value.string ⟨#[]⟩, Value.string ⟨#[]⟩], Value.pointer (some ⟨X7, 12, none⟩), Value.agg #[Value.string ⟨#[]⟩, Value.string ⟨#[]⟩], Value.pointer (some ⟨X7, 14, none⟩), Value.agg #[Value.string ⟨#[]⟩, Value.string ⟨#[]⟩], Value.pointer (some ⟨X7, 16, none⟩), Value.agg #[Value.string ⟨#[]⟩, Value.string ⟨#[]⟩], Value.agg #[Value.string ⟨#[]⟩, Value.string ⟨#[]⟩, Value.string ⟨#[]⟩, Value.string ⟨#[]⟩, Value.string ⟨#[]⟩, Value.string ⟨#[]⟩, Value.string ⟨#[]⟩, Value.string ⟨#[]⟩, Value.string ⟨#[]⟩, Value.string ⟨#[]⟩, Value.string ⟨#[]⟩, Value.string ⟨#[]⟩, Value.string ⟨#[]⟩, Value.string ⟨#[]⟩, Value.string ⟨#[]⟩, Value.string ⟨#[]⟩, Value.string ⟨#[]⟩, Value.string ⟨#[]⟩, Value.string ⟨#[]⟩, Value.string ⟨#[]⟩, Value.string ⟨#[]⟩, Value.string ⟨#[]⟩, Value.string ⟨#[]⟩, Value.string ⟨#[]⟩, Value.string ⟨#[]⟩, Value.string ⟨#[]⟩], Value.int .i64 K, Value.agg #[Value.string ⟨#[]⟩, Value.string ⟨#[]⟩]], defers := [] } : Act) := ha.trans (by kernel_rfl)
    clear ha
    subst ha2
    obtain ⟨W0, hx, hx2⟩ := hj
    clear h hr
    go_wp2_with fail
    have HPD := HP.out.ext hx
    have HXD := HX.out.trans hx
    subst hX7
    refine bodyPost_ret (results_fr rfl _ _ (w.heap.size + 1) (.string ⟨#[]⟩) (.string ⟨#[]⟩) rfl (((HPD.set_ 0 (.string ⟨#[]⟩)).set_ 1 (.string ⟨#[]⟩)).ext hx2)) rfl ?_
    exact ⟨rfl, (HXD.setCell (p := ⟨w.heap.size + 1, 0, none⟩) (by show w.heap.size ≤ w.heap.size + 1; omega) _).setCell (p := ⟨w.heap.size + 1, 1, none⟩) (by show w.heap.size ≤ w.heap.size + 1; omega) _ |>.trans hx2⟩
  case hstep =>
    intro f listed a w' i h hi
    have hW : i < 18 → Ext Wd w' := fun hi15 => h.before hi hi15 (by decide) (by
      intro L hcl h18
      have a17 : L 17 := hcl 18 _ ⟨17, .data⟩ rfl h18 (by simp) rfl
      have a15 : L 15 := hcl 17 _ ⟨15, .data⟩ rfl a17 (by simp) rfl
      have a16 : L 16 := hcl 17 _ ⟨16, .data⟩ rfl a17 (by simp) rfl
      have a2 : L 2 := hcl 15 _ ⟨2, .data⟩ rfl a15 (by simp) rfl
      have a5 : L 5 := hcl 15 _ ⟨5, .data⟩ rfl a15 (by simp) rfl
      have a8 : L 8 := hcl 15 _ ⟨8, .data⟩ rfl a15 (by simp) rfl
      have a10 : L 10 := hcl 15 _ ⟨10, .data⟩ rfl a15 (by simp) rfl
      have a12 : L 12 := hcl 15 _ ⟨12, .data⟩ rfl a15 (by simp) rfl
      have a14 : L 14 := hcl 15 _ ⟨14, .data⟩ rfl a15 (by simp) rfl
      have a1 : L 1 := hcl 2 _ ⟨1, .data⟩ rfl a2 (by simp) rfl
      have a0 : L 0 := hcl 1 _ ⟨0, .data⟩ rfl a1 (by simp) rfl
      have a4 : L 4 := hcl 5 _ ⟨4, .data⟩ rfl a5 (by simp) rfl
      have a3 : L 3 := hcl 4 _ ⟨3, .data⟩ rfl a4 (by simp) rfl
      have a7 : L 7 := hcl 8 _ ⟨7, .data⟩ rfl a8 (by simp) rfl
      have a6 : L 6 := hcl 7 _ ⟨6, .data⟩ rfl a7 (by simp) rfl
      have a9 : L 9 := hcl 10 _ ⟨9, .data⟩ rfl a10 (by simp) rfl
      have a11 : L 11 := hcl 12 _ ⟨11, .data⟩ rfl a12 (by simp) rfl
      have a13 : L 13 := hcl 14 _ ⟨13, .data⟩ rfl a14 (by simp) rfl
      intro i hi
      obtain rfl | rfl | rfl | rfl | rfl | rfl | rfl | rfl | rfl | rfl | rfl | rfl | rfl | rfl | rfl | rfl | rfl | rfl : i = 0 ∨ i = 1 ∨ i = 2 ∨ i = 3 ∨ i = 4 ∨ i = 5 ∨ i = 6 ∨ i = 7 ∨ i = 8 ∨ i = 9 ∨ i = 10 ∨ i = 11 ∨ i = 12 ∨ i = 13 ∨ i = 14 ∨ i = 15 ∨ i = 16 ∨ i = 17 := by omega
      · exact a0
      · exact a1
      · exact a2
      · exact a3
      · exact a4
      · exact a5
      · exact a6
      · exact a7
      · exact a8
      · exact a9
      · exact a10
      · exact a11
      · exact a12
      · exact a13
      · exact a14
      · exact a15
      · exact a16
      · exact a17
      )
    have hlt : i < 19 := ready_lt hi
    have hbz : ∀ s, s < 5 → a.tmps.getD s undef = _ := fun s hs => h.base' (s := s) (by show s < 23; omega) (.inl hs)
    obtain rfl | rfl | rfl | rfl | rfl | rfl | rfl | rfl | rfl | rfl | rfl | rfl | rfl | rfl | rfl | rfl | rfl | rfl | rfl : i = 0 ∨ i = 1 ∨ i = 2 ∨ i = 3 ∨ i = 4 ∨ i = 5 ∨ i = 6 ∨ i = 7 ∨ i = 8 ∨ i = 9 ∨ i = 10 ∨ i = 11 ∨ i = 12 ∨ i = 13 ∨ i = 14 ∨ i = 15 ∨ i = 16 ∨ i = 17 ∨ i = 18 := by omega
    · have hx := hW (by omega)
      have e2 : a.tmps.getD 2 undef = Value.pointer (some ⟨X7, 0, none⟩) := hbz 2 (by omega)
      refine stepP_read rfl rfl _ ?_ (h.step hi rfl rfl _ (.inl ⟨by decide, id, id⟩))
      simp [execOp, eval_tmpM, e2, f9]
    · have hx := hW (by omega)
      have e5 : a.tmps.getD 5 undef = Value.pointer (some ⟨X7, 9, none⟩) := h.need hi rfl 0 (by show 0 < 19; decide) (by show 5 < 23; decide) rfl
      refine stepP_read rfl rfl _ ?_ (h.step hi rfl rfl _ (.inl ⟨by decide, id, id⟩))
      simp [execOp, eval_tmpM, e5, l9 _ hx]
    · have hx := hW (by omega)
      have e6 : a.tmps.getD 6 undef = Value.string ⟨#[]⟩ := h.need hi rfl 1 (by show 1 < 19; decide) (by show 6 < 23; decide) rfl
      refine stepP_call rfl rfl (fn := 221) (args := #[Value.string ⟨#[]⟩]) ?_ (fkWhole w') ?_
      · simp [execOp, eval_tmpM, resolve, invoke, e6, Deferred.ofValue]
        rfl
      · rintro e w2 ⟨rfl, hx2⟩
        exact ⟨_, rfl, h.step hi rfl rfl _ (.inl ⟨by decide, fun hh => hh.trans hx2, fun ⟨W0, h1, h2⟩ => ⟨W0, h1, h2.trans hx2⟩⟩)⟩
    · have hx := hW (by omega)
      have e2 : a.tmps.getD 2 undef = Value.pointer (some ⟨X7, 0, none⟩) := hbz 2 (by omega)
      refine stepP_read rfl rfl _ ?_ (h.step hi rfl rfl _ (.inl ⟨by decide, id, id⟩))
      simp [execOp, eval_tmpM, e2, f10]
    · have hx := hW (by omega)
      have e8 : a.tmps.getD 8 undef = Value.pointer (some ⟨X7, 10, none⟩) := h.need hi rfl 3 (by show 3 < 19; decide) (by show 8 < 23; decide) rfl
      refine stepP_read rfl rfl _ ?_ (h.step hi rfl rfl _ (.inl ⟨by decide, id, id⟩))
      simp [execOp, eval_tmpM, e8, l10 _ hx]
    · have hx := hW (by omega)
      have e9 : a.tmps.getD 9 undef = Value.string ⟨#[]⟩ := h.need hi rfl 4 (by show 4 < 19; decide) (by show 9 < 23; decide) rfl
      refine stepP_call rfl rfl (fn := 221) (args := #[Value.string ⟨#[]⟩]) ?_ (fkWhole w') ?_
      · simp [execOp, eval_tmpM, resolve, invoke, e9, Deferred.ofValue]
        rfl
      · rintro e w2 ⟨rfl, hx2⟩
        exact ⟨_, rfl, h.step hi rfl rfl _ (.inl ⟨by decide, fun hh => hh.trans hx2, fun ⟨W0, h1, h2⟩ => ⟨W0, h1, h2.trans hx2⟩⟩)⟩
    · have hx := hW (by omega)
      have e2 : a.tmps.getD 2 undef = Value.pointer (some ⟨X7, 0, none⟩) := hbz 2 (by omega)
      refine stepP_read rfl rfl _ ?_ (h.step hi rfl rfl _ (.inl ⟨by decide, id, id⟩))
      simp [execOp, eval_tmpM, e2, f11]
    · have hx := hW (by omega)
      have e11 : a.tmps.getD 11 undef = Value.pointer (some ⟨X7, 11, none⟩) := h.need hi rfl 6 (by show 6 < 19; decide) (by show 11 < 23; decide) rfl
      refine stepP_read rfl rfl _ ?_ (h.step hi rfl rfl _ (.inl ⟨by decide, id, id⟩))
      simp [execOp, eval_tmpM, e11, l11 _ hx]
    · have hx := hW (by omega)
      have e12 : a.tmps.getD 12 undef = Value.string ⟨#[]⟩ := h.need hi rfl 7 (by show 7 < 19; decide) (by show 12 < 23; decide) rfl
      refine stepP_call rfl rfl (fn := 221) (args := #[Value.string ⟨#[]⟩]) ?_ (fkWhole w') ?_
      · simp [execOp, eval_tmpM, resolve, invoke, e12, Deferred.ofValue]
        rfl
      · rintro e w2 ⟨rfl, hx2⟩
        exact ⟨_, rfl, h.step hi rfl rfl _ (.inl ⟨by decide, fun hh => hh.trans hx2, fun ⟨W0, h1, h2⟩ => ⟨W0, h1, h2.trans hx2⟩⟩)⟩
    · have hx := hW (by omega)
      have e2 : a.tmps.getD 2 undef = Value.pointer (some ⟨X7, 0, none⟩) := hbz 2 (by omega)
      refine stepP_read rfl rfl _ ?_ (h.step hi rfl rfl _ (.inl ⟨by decide, id, id⟩))
      simp [execOp, eval_tmpM, e2, f12]
    · have hx := hW (by omega)
      have e14 : a.tmps.getD 14 undef = Value.pointer (some ⟨X7, 12, none⟩) := h.need hi rfl 9 (by show 9 < 19; decide) (by show 14 < 23; decide) rfl
      refine stepP_read rfl rfl _ ?_ (h.step hi rfl rfl _ (.inl ⟨by decide, id, id⟩))
      simp [execOp, eval_tmpM, e14, l12 _ hx]
    · have hx := hW (by omega)
      have e2 : a.tmps.getD 2 undef = Value.pointer (some ⟨X7, 0, none⟩) := hbz 2 (by omega)
      refine stepP_read rfl rfl _ ?_ (h.step hi rfl rfl _ (.inl ⟨by decide, id, id⟩))
      simp [execOp, eval_tmpM, e2, f13]
    · have hx := hW (by omega)
      have e16 : a.tmps.getD 16 undef = Value.pointer (some ⟨X7, 14, none⟩) := h.need hi rfl 11 (by show 11 < 19; decide) (by show 16 < 23; decide) rfl
      refine stepP_read rfl rfl _ ?_ (h.step hi rfl rfl _ (.inl ⟨by decide, id, id⟩))
      simp [execOp, eval_tmpM, e16, l14 _ hx]
    · have hx := hW (by omega)
      have e2 : a.tmps.getD 2 undef = Value.pointer (some ⟨X7, 0, none⟩) := hbz 2 (by omega)
      refine stepP_read rfl rfl _ ?_ (h.step hi rfl rfl _ (.inl ⟨by decide, id, id⟩))
      simp [execOp, eval_tmpM, e2, f14]
    · have hx := hW (by omega)
      have e18 : a.tmps.getD 18 undef = Value.pointer (some ⟨X7, 16, none⟩) := h.need hi rfl 13 (by show 13 < 19; decide) (by show 18 < 23; decide) rfl
      refine stepP_read rfl rfl _ ?_ (h.step hi rfl rfl _ (.inl ⟨by decide, id, id⟩))
      simp [execOp, eval_tmpM, e18, l16 _ hx]
    · have hx := hW (by omega)
      have e7 : a.tmps.getD 7 undef = Value.agg #[Value.string ⟨#[]⟩, Value.string ⟨#[]⟩] := h.need hi rfl 2 (by show 2 < 19; decide) (by show 7 < 23; decide) rfl
      have e10 : a.tmps.getD 10 undef = Value.agg #[Value.string ⟨#[]⟩, Value.string ⟨#[]⟩] := h.need hi rfl 5 (by show 5 < 19; decide) (by show 10 < 23; decide) rfl
      have e13 : a.tmps.getD 13 undef = Value.agg #[Value.string ⟨#[]⟩, Value.string ⟨#[]⟩] := h.need hi rfl 8 (by show 8 < 19; decide) (by show 13 < 23; decide) rfl
      have e15 : a.tmps.getD 15 undef = Value.agg #[Value.string ⟨#[]⟩, Value.string ⟨#[]⟩] := h.need hi rfl 10 (by show 10 < 19; decide) (by show 15 < 23; decide) rfl
      have e17 : a.tmps.getD 17 undef = Value.agg #[Value.string ⟨#[]⟩, Value.string ⟨#[]⟩] := h.need hi rfl 12 (by show 12 < 19; decide) (by show 17 < 23; decide) rfl
      have e19 : a.tmps.getD 19 undef = Value.agg #[Value.string ⟨#[]⟩, Value.string ⟨#[]⟩] := h.need hi rfl 14 (by show 14 < 19; decide) (by show 19 < 23; decide) rfl
      refine stepP_read rfl rfl _ ?_ (h.step hi rfl rfl _ (.inl ⟨by decide, id, id⟩))
      simp [execOp, eval_tmpM, e7, e10, e13, e15, e17, e19, ix26]
    · have hx := hW (by omega)
      have e1 : a.tmps.getD 1 undef = Value.int .i64 K := hbz 1 (by omega)
      refine stepP_read rfl rfl _ ?_ (h.step hi rfl rfl _ (.inl ⟨by decide, id, id⟩))
      simp [execOp, eval_tmpM, e1]
    · have hx := hW (by omega)
      have e20 : a.tmps.getD 20 undef = Value.agg #[Value.string ⟨#[]⟩, Value.string ⟨#[]⟩, Value.string ⟨#[]⟩, Value.string ⟨#[]⟩, Value.string ⟨#[]⟩, Value.string ⟨#[]⟩, Value.string ⟨#[]⟩, Value.string ⟨#[]⟩, Value.string ⟨#[]⟩, Value.string ⟨#[]⟩, Value.string ⟨#[]⟩, Value.string ⟨#[]⟩, Value.string ⟨#[]⟩, Value.string ⟨#[]⟩, Value.string ⟨#[]⟩, Value.string ⟨#[]⟩, Value.string ⟨#[]⟩, Value.string ⟨#[]⟩, Value.string ⟨#[]⟩, Value.string ⟨#[]⟩, Value.string ⟨#[]⟩, Value.string ⟨#[]⟩, Value.string ⟨#[]⟩, Value.string ⟨#[]⟩, Value.string ⟨#[]⟩, Value.string ⟨#[]⟩] := h.need hi rfl 15 (by show 15 < 19; decide) (by show 20 < 23; decide) rfl
      have e21 : a.tmps.getD 21 undef = Value.int .i64 K := h.need hi rfl 16 (by show 16 < 19; decide) (by show 21 < 23; decide) rfl
      refine stepP_read rfl rfl _ ?_ (h.step hi rfl rfl _ (.inl ⟨by decide, id, id⟩))
      simp [execOp, eval_tmpM, e20, e21, HIX.out w']
    · have hx := h.at_last hi
      have e4 : a.tmps.getD 4 undef = Value.pointer (some ⟨X7 + 1, 0, none⟩) := hbz 4 (by omega)
      have e22 : a.tmps.getD 22 undef = Value.agg #[Value.string ⟨#[]⟩, Value.string ⟨#[]⟩] := h.need hi rfl 17 (by show 17 < 19; decide) (by show 22 < 23; decide) rfl
      refine stepP_skip rfl rfl ?_ (h.stepN hi rfl rfl (by show 23 ≤ 5 + 18; decide) _ _ (.inr ⟨rfl, _, hx, Ext.refl _⟩))
      simp [execOp, eval_tmpM, e4, e22, st _ hx]
set_option maxRecDepth 100000 in
set_option maxHeartbeats 4000000 in
theorem fkEmpty4 (w : World) : Calls Tryz.prog 91 #[xv key day ins A n c, .int .i64 4] w fun e w' => e = .returned (.bool true) ∧ Ext w w' := by
  have HB := Lib.hid (Blk.new w 30 (xc key day ins A n c))
  have HX : Hid (Ext w (w.alloc (.cells (xc key day ins A n c) 30))) := Lib.hid (Ext.new _ _)
  have HV := Lib.hid (fkValue key day ins A n c 4 fkIx4 (w.alloc (.cells (xc key day ins A n c) 30)))
  have hs1 : (Tryz.prog.info? 30).map (·.size) = some (xc key day ins A n c).toList.length := by kernel_rfl
  have hrg := fact_range HB.out
  go_enter Tryz.func91, Tryz.ntmps91
  go_wp2_with (first | refine wpList_load_mid rfl 30 _ rfl w.heap.size 0 rfl _ _ hrg Tryz.underlying30 rfl hs1 ?_ | fail)
  refine HV.out.mono ?_
  rintro e v1 ⟨rfl, hx1⟩
  replace HX := Lib.hid (HX.out.trans hx1)
  clear hx1
  go_wp2_with fail
  go_ret
  exact ⟨rfl, HX.out⟩
set_option maxRecDepth 100000 in
set_option maxHeartbeats 4000000 in
theorem fkEmpty5 (w : World) : Calls Tryz.prog 91 #[xv key day ins A n c, .int .i64 5] w fun e w' => e = .returned (.bool true) ∧ Ext w w' := by
  have HB := Lib.hid (Blk.new w 30 (xc key day ins A n c))
  have HX : Hid (Ext w (w.alloc (.cells (xc key day ins A n c) 30))) := Lib.hid (Ext.new _ _)
  have HV := Lib.hid (fkValue key day ins A n c 5 fkIx5 (w.alloc (.cells (xc key day ins A n c) 30)))
  have hs1 : (Tryz.prog.info? 30).map (·.size) = some (xc key day ins A n c).toList.length := by kernel_rfl
  have hrg := fact_range HB.out
  go_enter Tryz.func91, Tryz.ntmps91
  go_wp2_with (first | refine wpList_load_mid rfl 30 _ rfl w.heap.size 0 rfl _ _ hrg Tryz.underlying30 rfl hs1 ?_ | fail)
  refine HV.out.mono ?_
  rintro e v1 ⟨rfl, hx1⟩
  replace HX := Lib.hid (HX.out.trans hx1)
  clear hx1
  go_wp2_with fail
  go_ret
  exact ⟨rfl, HX.out⟩
set_option maxRecDepth 100000 in
set_option maxHeartbeats 4000000 in
theorem fkEmpty6 (w : World) : Calls Tryz.prog 91 #[xv key day ins A n c, .int .i64 6] w fun e w' => e = .returned (.bool true) ∧ Ext w w' := by
  have HB := Lib.hid (Blk.new w 30 (xc key day ins A n c))
  have HX : Hid (Ext w (w.alloc (.cells (xc key day ins A n c) 30))) := Lib.hid (Ext.new _ _)
  have HV := Lib.hid (fkValue key day ins A n c 6 fkIx6 (w.alloc (.cells (xc key day ins A n c) 30)))
  have hs1 : (Tryz.prog.info? 30).map (·.size) = some (xc key day ins A n c).toList.length := by kernel_rfl
  have hrg := fact_range HB.out
  go_enter Tryz.func91, Tryz.ntmps91
  go_wp2_with (first | refine wpList_load_mid rfl 30 _ rfl w.heap.size 0 rfl _ _ hrg Tryz.underlying30 rfl hs1 ?_ | fail)
  refine HV.out.mono ?_
  rintro e v1 ⟨rfl, hx1⟩
  replace HX := Lib.hid (HX.out.trans hx1)
  clear hx1
  go_wp2_with fail
  go_ret
  exact ⟨rfl, HX.out⟩
set_option maxRecDepth 100000 in
set_option maxHeartbeats 4000000 in
theorem fkEmpty7 (w : World) : Calls Tryz.prog 91 #[xv key day ins A n c, .int .i64 7] w fun e w' => e = .returned (.bool true) ∧ Ext w w' := by
  have HB := Lib.hid (Blk.new w 30 (xc key day ins A n c))
  have HX : Hid (Ext w (w.alloc (.cells (xc key day ins A n c) 30))) := Lib.hid (Ext.new _ _)
  have HV := Lib.hid (fkValue key day ins A n c 7 fkIx7 (w.alloc (.cells (xc key day ins A n c) 30)))
  have hs1 : (Tryz.prog.info? 30).map (·.size) = some (xc key day ins A n c).toList.length := by kernel_rfl
  have hrg := fact_range HB.out
  go_enter Tryz.func91, Tryz.ntmps91
  go_wp2_with (first | refine wpList_load_mid rfl 30 _ rfl w.heap.size 0 rfl _ _ hrg Tryz.underlying30 rfl hs1 ?_ | fail)
  refine HV.out.mono ?_
  rintro e v1 ⟨rfl, hx1⟩
  replace HX := Lib.hid (HX.out.trans hx1)
  clear hx1
  go_wp2_with fail
  go_ret
  exact ⟨rfl, HX.out⟩
set_option maxRecDepth 100000 in
set_option maxHeartbeats 4000000 in
theorem fkEmpty8 (w : World) : Calls Tryz.prog 91 #[xv key day ins A n c, .int .i64 8] w fun e w' => e = .returned (.bool true) ∧ Ext w w' := by
  have HB := Lib.hid (Blk.new w 30 (xc key day ins A n c))
  have HX : Hid (Ext w (w.alloc (.cells (xc key day ins A n c) 30))) := Lib.hid (Ext.new _ _)
  have HV := Lib.hid (fkValue key day ins A n c 8 fkIx8 (w.alloc (.cells (xc key day ins A n c) 30)))
  have hs1 : (Tryz.prog.info? 30).map (·.size) = some (xc key day ins A n c).toList.length := by kernel_rfl
  have hrg := fact_range HB.out
  go_enter Tryz.func91, Tryz.ntmps91
  go_wp2_with (first | refine wpList_load_mid rfl 30 _ rfl w.heap.size 0 rfl _ _ hrg Tryz.underlying30 rfl hs1 ?_ | fail)
  refine HV.out.mono ?_
  rintro e v1 ⟨rfl, hx1⟩
  replace HX := Lib.hid (HX.out.trans hx1)
  clear hx1
  go_wp2_with fail
  go_ret
  exact ⟨rfl, HX.out⟩
set_option maxRecDepth 100000 in
set_option maxHeartbeats 4000000 in
theorem fkEmpty9 (w : World) : Calls Tryz.prog 91 #[xv key day ins A n c, .int .i64 9] w fun e w' => e = .returned (.bool true) ∧ Ext w w' := by
  have HB := Lib.hid (Blk.new w 30 (xc key day ins A n c))
  have HX : Hid (Ext w (w.alloc (.cells (xc key day ins A n c) 30))) := Lib.hid (Ext.new _ _)
  have HV := Lib.hid (fkValue key day ins A n c 9 fkIx9 (w.alloc (.cells (xc key day ins A n c) 30)))
  have hs1 : (Tryz.prog.info? 30).map (·.size) = some (xc key day ins A n c).toList.length := by kernel_rfl
  have hrg := fact_range HB.out
  go_enter Tryz.func91, Tryz.ntmps91
  go_wp2_with (first | refine wpList_load_mid rfl 30 _ rfl w.heap.size 0 rfl _ _ hrg Tryz.underlying30 rfl hs1 ?_ | fail)
  refine HV.out.mono ?_
  rintro e v1 ⟨rfl, hx1⟩
  replace HX := Lib.hid (HX.out.trans hx1)
  clear hx1
  go_wp2_with fail
  go_ret
  exact ⟨rfl, HX.out⟩
end
end Go.Proofs.YthgpheopnhajaaaGreatDoor

/- Exchanges as facts: options that fit. -/
namespace Go.Proofs.YthgpheopnhajaaaGreatDoor
open Go.RowKit
attribute [local go_sem] size_bs toList_bs
theorem lim_num (f : Fr) (h : numE f = 0) : limE f false = 0 := by
  have hn := numF f
  have hl := limF f false
  rw [h] at hn
  have c : checkF f = 0 := by
    by_cases a : checkF f = 0
    · exact a
    · exact absurd (hn.c a) (by decide)
  have d1 : ¬ (40 < digN f.num ∨ 40 < digN f.den) := fun a => absurd (hn.d c a) (by decide)
  have s : ¬ cmpQ (frQ f) 0 < 0 := fun a => absurd (hn.s c (by omega) (by omega) a) (by decide)
  exact hl.k c (by omega) (by omega) (by simp; omega)
/-- a number that fits -/
def NumOK (n d : Bs) : Prop := numE ⟨n, d⟩ = 0 ∧ n.length ≤ 9000 ∧ d.length ≤ 9000
theorem limGood {n d : Bs} (h : NumOK n d) (g1 g2 : Nat) (w : World) (hE : Env w) (b1 : Blk w g1 4 #[.bool false]) (b2 : Blk w g2 4 #[.bool false]) :
    Calls Tryz.prog 216 #[fv ⟨n, d⟩, .pointer (some ⟨g1, 0, none⟩), .pointer (some ⟨g2, 0, none⟩)] w fun e w' => e = .returned (.int .i64 0) ∧ Ext w w' := by
  have := limOK ⟨n, d⟩ h.2.1 h.2.2 false g1 g2 w hE b1 b2
  rwa [lim_num _ h.1] at this
/-- an option that fits -/
structure OptOK (o : OptV) (ins : Bs) : Prop where
  e : optE o = 0
  ne : o.other ≠ ins
  sm : OptSm 9000 o
set_option maxRecDepth 100000 in
set_option maxHeartbeats 8000000 in
theorem fkOptions (key : Bs) (day : Int) (ins : Bs) (A : Option Addr) (os : List OptV) (c : Nat) (w : World) (hA : RdO w A os) (h0 : 0 < os.length) (h8 : os.length ≤ 8) (hg : ∀ o ∈ os, OptOK o ins) (hE : Env w) :
    Calls Tryz.prog 157 #[xv key day ins A os.length c] w fun e w' => e = .returned (.int .i64 0) ∧ Ext w w' := by
  have HE := Lib.hid hE
  have HA := Lib.hid hA
  have HOK := Lib.hid hg
  have HB := Lib.hid (Blk.new w 30 (xc key day ins A os.length c))
  have HX : Hid (Ext w (w.alloc (.cells (xc key day ins A os.length c) 30))) := Lib.hid (Ext.new _ _)
  have q0 : ((os.length : Int) == 0) = false := by rw [beq_eq_false_iff_ne]; omega
  have q8 : decide (8 < (os.length : Int)) = false := by rw [decide_eq_false_iff_not]; omega
  clear hA hg hE
  go_enter Tryz.func157, Tryz.ntmps157
  obtain ⟨x0, x1, x2, x3, x4, x5, x6, x7, x8, x9, x10, x11, x12, x13, x14, x15, x16, x17, x18, x19, x20⟩ := xBlk HB.out (Ext.refl _)
  clear x0 x1 x2 x3 x4 x6 x7 x8 x9 x10 x11 x12 x13 x14 x15 x16 x17 x18 x20
  go_wp2_with fail
  generalize w.alloc (.cells (xc key day ins A os.length c) 30) = W0 at *
  generalize hgx : w.heap.size = gx at *
  go_loopw [19, 4, 6, 7] (fun i _ _ _ wr => ∃ k : Nat, k ≤ os.length ∧ i = .int .i64 k ∧ Ext W0 wr) (fun i _ _ _ _ => os.length - (intOf i).toNat)
  case atStart => exact ⟨0, by omega, rfl, Ext.refl _⟩
  case round =>
    obtain ⟨k, hk, rfl, hx⟩ := hrel
    replace HX := Lib.hid (HX.out.trans hx)
    replace HB := Lib.hid (HB.out.ext hx)
    have HL := Lib.hid hx
    clear hx
    by_cases hlt : k < os.length
    · obtain ⟨b, o, rfl, hb, c0, c1, c2, c3, c4, c5, c6⟩ := (HA.out.ext HX.out).at_ hlt
      have ok := HOK.out _ (List.getElem_mem hlt)
      obtain ⟨hgo, n1, n2, n3, hbad⟩ := opt_ok ok.e
      obtain ⟨s0, s1, s2, s3, s4, s5, s6⟩ := ok.sm
      have hne := ok.ne
      have hki : (k : Int) < (os.length : Int) := by omega
      have hk0 : (0 : Int) ≤ (k : Int) := by omega
      clear ok HOK
      generalize os[k]'hlt = y at *
      obtain ⟨ot, ⟨rn, rd⟩, ⟨pn, pd⟩, ⟨vn, vd⟩⟩ := y
      dsimp only at c0 c1 c2 c3 c4 c5 c6 hgo n1 n2 n3 s0 s1 s2 s3 s4 s5 s6 hne
      have R1 : Hid (NumOK rn rd) := Lib.hid ⟨n1, s1, s2⟩
      have R2 : Hid (NumOK pn pd) := Lib.hid ⟨n2, s3, s4⟩
      have R3 : Hid (NumOK vn vd) := Lib.hid ⟨n3, s5, s6⟩
      have HNm := Lib.hid (fun W => insName ot W (by omega))
      have qi : (ot == ins) = false := beq_eq_false_iff_ne.2 hne
      clear n1 n2 n3 s0 s1 s2 s3 s4 s5 s6 hne
      have HG := Lib.hid (Blk.new wr 50 (oc ⟨ot, ⟨rn, rd⟩, ⟨pn, pd⟩, ⟨vn, vd⟩⟩))
      replace HX := Lib.hid (HX.out.alloc (.cells (oc ⟨ot, ⟨rn, rd⟩, ⟨pn, pd⟩, ⟨vn, vd⟩⟩) 50))
      replace HL := Lib.hid (HL.out.alloc (.cells (oc ⟨ot, ⟨rn, rd⟩, ⟨pn, pd⟩, ⟨vn, vd⟩⟩) 50))
      replace HB := Lib.hid (HB.out.alloc (.cells (oc ⟨ot, ⟨rn, rd⟩, ⟨pn, pd⟩, ⟨vn, vd⟩⟩) 50))
      obtain ⟨x0, x1, x2, x3, x4, x5, x6, x7, x8, x9, x10, x11, x12, x13, x14, x15, x16, x17, x18, x19, x20⟩ := xBlk HB.out (Ext.refl _)
      clear x0 x1 x2 x3 x4 x6 x7 x8 x9 x10 x11 x12 x13 x14 x15 x16 x17 x18 x19 x20
      by_cases h0 : ot = []
      · subst h0
        obtain ⟨r0, r1, r2, r3, r4, r5, r6⟩ := optBlk HG.out (Ext.refl _)
        obtain ⟨x0, x1, x2, x3, x4, x5, x6, x7, x8, x9, x10, x11, x12, x13, x14, x15, x16, x17, x18, x19, x20⟩ := xBlk HB.out (Ext.refl _)
        clear x0 x1 x2 x3 x4 x6 x7 x8 x9 x10 x11 x12 x13 x14 x15 x16 x17 x18 x19 x20
        have HS := Lib.hid (Blk.newAt (wr.alloc (.cells (oc ⟨[], ⟨rn, rd⟩, ⟨pn, pd⟩, ⟨vn, vd⟩⟩) 50)) 26 #[.string (bs rn), .string (bs rd), .string (bs pn), .string (bs pd), .string (bs vn), .string (bs vd)] (wr.heap.size + 1) (by simp))
        replace HX := Lib.hid (HX.out.alloc (.cells #[.string (bs rn), .string (bs rd), .string (bs pn), .string (bs pd), .string (bs vn), .string (bs vd)] 26))
        replace HL := Lib.hid (HL.out.alloc (.cells #[.string (bs rn), .string (bs rd), .string (bs pn), .string (bs pd), .string (bs vn), .string (bs vd)] 26))
        replace HB := Lib.hid (HB.out.alloc (.cells #[.string (bs rn), .string (bs rd), .string (bs pn), .string (bs pd), .string (bs vn), .string (bs vd)] 26))
        replace HG := Lib.hid (HG.out.alloc (.cells #[.string (bs rn), .string (bs rd), .string (bs pn), .string (bs pd), .string (bs vn), .string (bs vd)] 26))
        go_wp2_with fail
        clear r0 r1 r2 r3 r4 r5 r6 x5
        generalize (wr.alloc (.cells (oc ⟨[], ⟨rn, rd⟩, ⟨pn, pd⟩, ⟨vn, vd⟩⟩) 50)).alloc (.cells #[.string (bs rn), .string (bs rd), .string (bs pn), .string (bs pd), .string (bs vn), .string (bs vd)] 26) = W5 at *
        generalize wr.heap.size = G4 at *
        go_loopw [45, 6, 7] (fun i _ _ wr => ∃ j : Nat, j ≤ 3 ∧ i = .int .i64 j ∧ Ext w wr ∧ Ext W0 wr ∧ Blk wr gx 30 (xc key day ins (some ⟨b, o, none⟩) os.length c) ∧ Blk wr G4 50 (oc ⟨[], ⟨rn, rd⟩, ⟨pn, pd⟩, ⟨vn, vd⟩⟩) ∧ Blk wr (G4 + 1) 26 #[.string (bs rn), .string (bs rd), .string (bs pn), .string (bs pd), .string (bs vn), .string (bs vd)]) (fun i _ _ _ => 3 - (intOf i).toNat)
        case atStart => exact ⟨0, by omega, rfl, HX.out, HL.out, HB.out, HG.out, HS.out⟩
        case round =>
          clear HX HL HB HG HS
          obtain ⟨j, hj, rfl, hx, hl, hb, hg, hs⟩ := hrel
          have HX := Lib.hid hx
          have HL := Lib.hid hl
          have HB := Lib.hid hb
          have HG := Lib.hid hg
          have HS := Lib.hid hs
          clear hx hl hb hg hs
          obtain rfl | rfl | rfl | rfl : j = 0 ∨ j = 1 ∨ j = 2 ∨ j = 3 := by omega
          · skip
            have a0 := HS.out.cell 0
            have a1 := HS.out.cell 1
            simp only [List.getElem?_toArray, List.getElem?_cons_zero, List.getElem?_cons_succ] at a0 a1
            have HV := Lib.hid (Blk.new wr 26 #[.string (bs rn), .string (bs rd)])
            replace HX := Lib.hid (HX.out.alloc (.cells #[.string (bs rn), .string (bs rd)] 26))
            replace HL := Lib.hid (HL.out.alloc (.cells #[.string (bs rn), .string (bs rd)] 26))
            replace HB := Lib.hid (HB.out.alloc (.cells #[.string (bs rn), .string (bs rd)] 26))
            replace HG := Lib.hid (HG.out.alloc (.cells #[.string (bs rn), .string (bs rd)] 26))
            replace HS := Lib.hid (HS.out.alloc (.cells #[.string (bs rn), .string (bs rd)] 26))
            have LG := Lib.hid (fun g1 g2 W hE b1 b2 => limGood R1.out g1 g2 W hE b1 b2)
            clear R1 R2 R3
            go_upto_region 15 with fail
            generalize wr.alloc (.cells #[.string (bs rn), .string (bs rd)] 26) = W6 at *
            generalize wr.heap.size = G6 at *
            obtain ⟨b0, b1, _, _⟩ := frBlk HV.out (Ext.refl _)
            have HD : Hid (Ext W6 W6.drew) := Lib.hid (Ext.refl W6).drew
            go_region_held3 (fun w' => w'.cell? ⟨G6, 0, none⟩ = some (.string (bs rn)) ∧ w'.cell? ⟨G6, 1, none⟩ = some (.string (bs rd)))
              (go_keep)
              (first
                | (go_at_call 150; ((with_reducible refine (fkBetween false false _).mono ?_); rintro e w5 ⟨rfl, hb1, hb2, hx5⟩); (replace HD := Lib.hid (HD.out.trans hx5)); (have HB1 : Hid (Blk w5 W6.heap.size 4 #[.bool false]) := Lib.hid hb1); (have HB2 : Hid (Blk w5 (W6.heap.size + 1) 4 #[.bool false]) := Lib.hid hb2); (obtain ⟨b0, b1, _, _⟩ := frBlk HV.out HD.out); clear hx5 hb1 hb2)
                | (go_at_call 216; ((with_reducible refine (LG.out _ _ _ (HE.out.ext (HX.out.trans HD.out)) HB1.out HB2.out).mono ?_); rintro e w6 ⟨rfl, hx6⟩); (replace HD := Lib.hid (HD.out.trans hx6)); (obtain ⟨b0, b1, _, _⟩ := frBlk HV.out HD.out); clear hx6)
                | fail)
            all_goals
              go_wp2_with fail
              exact ⟨⟨1, by omega, by go_num, HX.out.trans HD.out, HL.out.trans HD.out, HB.out.ext HD.out, HG.out.ext HD.out, HS.out.ext HD.out⟩, by simp [intOf]⟩
          · skip
            have a0 := HS.out.cell 2
            have a1 := HS.out.cell 3
            simp only [List.getElem?_toArray, List.getElem?_cons_zero, List.getElem?_cons_succ] at a0 a1
            have HV := Lib.hid (Blk.new wr 26 #[.string (bs pn), .string (bs pd)])
            replace HX := Lib.hid (HX.out.alloc (.cells #[.string (bs pn), .string (bs pd)] 26))
            replace HL := Lib.hid (HL.out.alloc (.cells #[.string (bs pn), .string (bs pd)] 26))
            replace HB := Lib.hid (HB.out.alloc (.cells #[.string (bs pn), .string (bs pd)] 26))
            replace HG := Lib.hid (HG.out.alloc (.cells #[.string (bs pn), .string (bs pd)] 26))
            replace HS := Lib.hid (HS.out.alloc (.cells #[.string (bs pn), .string (bs pd)] 26))
            have LG := Lib.hid (fun g1 g2 W hE b1 b2 => limGood R2.out g1 g2 W hE b1 b2)
            clear R1 R2 R3
            go_upto_region 15 with fail
            generalize wr.alloc (.cells #[.string (bs pn), .string (bs pd)] 26) = W6 at *
            generalize wr.heap.size = G6 at *
            obtain ⟨b0, b1, _, _⟩ := frBlk HV.out (Ext.refl _)
            have HD : Hid (Ext W6 W6.drew) := Lib.hid (Ext.refl W6).drew
            go_region_held3 (fun w' => w'.cell? ⟨G6, 0, none⟩ = some (.string (bs pn)) ∧ w'.cell? ⟨G6, 1, none⟩ = some (.string (bs pd)))
              (go_keep)
              (first
                | (go_at_call 150; ((with_reducible refine (fkBetween false false _).mono ?_); rintro e w5 ⟨rfl, hb1, hb2, hx5⟩); (replace HD := Lib.hid (HD.out.trans hx5)); (have HB1 : Hid (Blk w5 W6.heap.size 4 #[.bool false]) := Lib.hid hb1); (have HB2 : Hid (Blk w5 (W6.heap.size + 1) 4 #[.bool false]) := Lib.hid hb2); (obtain ⟨b0, b1, _, _⟩ := frBlk HV.out HD.out); clear hx5 hb1 hb2)
                | (go_at_call 216; ((with_reducible refine (LG.out _ _ _ (HE.out.ext (HX.out.trans HD.out)) HB1.out HB2.out).mono ?_); rintro e w6 ⟨rfl, hx6⟩); (replace HD := Lib.hid (HD.out.trans hx6)); (obtain ⟨b0, b1, _, _⟩ := frBlk HV.out HD.out); clear hx6)
                | fail)
            all_goals
              go_wp2_with fail
              exact ⟨⟨2, by omega, by go_num, HX.out.trans HD.out, HL.out.trans HD.out, HB.out.ext HD.out, HG.out.ext HD.out, HS.out.ext HD.out⟩, by simp [intOf]⟩
          · skip
            have a0 := HS.out.cell 4
            have a1 := HS.out.cell 5
            simp only [List.getElem?_toArray, List.getElem?_cons_zero, List.getElem?_cons_succ] at a0 a1
            have HV := Lib.hid (Blk.new wr 26 #[.string (bs vn), .string (bs vd)])
            replace HX := Lib.hid (HX.out.alloc (.cells #[.string (bs vn), .string (bs vd)] 26))
            replace HL := Lib.hid (HL.out.alloc (.cells #[.string (bs vn), .string (bs vd)] 26))
            replace HB := Lib.hid (HB.out.alloc (.cells #[.string (bs vn), .string (bs vd)] 26))
            replace HG := Lib.hid (HG.out.alloc (.cells #[.string (bs vn), .string (bs vd)] 26))
            replace HS := Lib.hid (HS.out.alloc (.cells #[.string (bs vn), .string (bs vd)] 26))
            have LG := Lib.hid (fun g1 g2 W hE b1 b2 => limGood R3.out g1 g2 W hE b1 b2)
            clear R1 R2 R3
            go_upto_region 15 with fail
            generalize wr.alloc (.cells #[.string (bs vn), .string (bs vd)] 26) = W6 at *
            generalize wr.heap.size = G6 at *
            obtain ⟨b0, b1, _, _⟩ := frBlk HV.out (Ext.refl _)
            have HD : Hid (Ext W6 W6.drew) := Lib.hid (Ext.refl W6).drew
            go_region_held3 (fun w' => w'.cell? ⟨G6, 0, none⟩ = some (.string (bs vn)) ∧ w'.cell? ⟨G6, 1, none⟩ = some (.string (bs vd)))
              (go_keep)
              (first
                | (go_at_call 150; ((with_reducible refine (fkBetween false false _).mono ?_); rintro e w5 ⟨rfl, hb1, hb2, hx5⟩); (replace HD := Lib.hid (HD.out.trans hx5)); (have HB1 : Hid (Blk w5 W6.heap.size 4 #[.bool false]) := Lib.hid hb1); (have HB2 : Hid (Blk w5 (W6.heap.size + 1) 4 #[.bool false]) := Lib.hid hb2); (obtain ⟨b0, b1, _, _⟩ := frBlk HV.out HD.out); clear hx5 hb1 hb2)
                | (go_at_call 216; ((with_reducible refine (LG.out _ _ _ (HE.out.ext (HX.out.trans HD.out)) HB1.out HB2.out).mono ?_); rintro e w6 ⟨rfl, hx6⟩); (replace HD := Lib.hid (HD.out.trans hx6)); (obtain ⟨b0, b1, _, _⟩ := frBlk HV.out HD.out); clear hx6)
                | fail)
            all_goals
              go_wp2_with fail
              exact ⟨⟨3, by omega, by go_num, HX.out.trans HD.out, HL.out.trans HD.out, HB.out.ext HD.out, HG.out.ext HD.out, HS.out.ext HD.out⟩, by simp [intOf]⟩
          · skip
            obtain ⟨r0, r1, r2, r3, r4, r5, r6⟩ := optBlk HG.out (Ext.refl _)
            clear R1 R2 R3 hj
            by_cases b1 : rn = []
            rotate_left
            · exfalso; simp [optBad, b1] at hbad
            subst b1
            by_cases b2 : rd = []
            rotate_left
            · exfalso; simp [optBad, b2] at hbad
            subst b2
            by_cases b3 : vn = []
            rotate_left
            · exfalso; simp [optBad, b3] at hbad
            subst b3
            by_cases b4 : vd = []
            rotate_left
            · exfalso; simp [optBad, b4] at hbad
            subst b4
            go_wp2_with fail
            go_quiet (fail)
            go_wp2_with fail
            exact ⟨⟨k + 1, by omega, by go_num, HL.out.drewN _⟩, by simp [intOf]; omega⟩
      · obtain hnm := hgo.resolve_left h0
        rw [hnm] at HNm
        have qe : ot.isEmpty = false := by simpa using h0
        go_wp2_with fail
        refine (HNm.out _).mono ?_
        rintro e W4 ⟨rfl, hx1⟩
        replace HX := Lib.hid (HX.out.trans hx1)
        replace HL := Lib.hid (HL.out.trans hx1)
        replace HB := Lib.hid (HB.out.ext hx1)
        replace HG := Lib.hid (HG.out.ext hx1)
        clear hx1 c0 c1 c2 c3 c4 c5 c6 hb HNm hnm x5
        generalize hG4 : wr.heap.size = G4 at *
        clear hG4
        obtain ⟨r0, r1, r2, r3, r4, r5, r6⟩ := optBlk HG.out (Ext.refl _)
        obtain ⟨x0, x1, x2, x3, x4, x5, x6, x7, x8, x9, x10, x11, x12, x13, x14, x15, x16, x17, x18, x19, x20⟩ := xBlk HB.out (Ext.refl _)
        clear x0 x1 x2 x3 x4 x6 x7 x8 x9 x10 x11 x12 x13 x14 x15 x16 x17 x18 x19 x20
        have HS := Lib.hid (Blk.new W4 26 #[.string (bs rn), .string (bs rd), .string (bs pn), .string (bs pd), .string (bs vn), .string (bs vd)])
        replace HX := Lib.hid (HX.out.alloc (.cells #[.string (bs rn), .string (bs rd), .string (bs pn), .string (bs pd), .string (bs vn), .string (bs vd)] 26))
        replace HL := Lib.hid (HL.out.alloc (.cells #[.string (bs rn), .string (bs rd), .string (bs pn), .string (bs pd), .string (bs vn), .string (bs vd)] 26))
        replace HB := Lib.hid (HB.out.alloc (.cells #[.string (bs rn), .string (bs rd), .string (bs pn), .string (bs pd), .string (bs vn), .string (bs vd)] 26))
        replace HG := Lib.hid (HG.out.alloc (.cells #[.string (bs rn), .string (bs rd), .string (bs pn), .string (bs pd), .string (bs vn), .string (bs vd)] 26))
        go_wp2_with fail
        clear r0 r1 r2 r3 r4 r5 r6 x5
        generalize hG5 : W4.heap.size = G5 at *
        generalize W4.alloc (.cells #[.string (bs rn), .string (bs rd), .string (bs pn), .string (bs pd), .string (bs vn), .string (bs vd)] 26) = W5 at *
        clear hG5
        go_loopw [45, 6, 7] (fun i _ _ wr => ∃ j : Nat, j ≤ 3 ∧ i = .int .i64 j ∧ Ext w wr ∧ Ext W0 wr ∧ Blk wr gx 30 (xc key day ins (some ⟨b, o, none⟩) os.length c) ∧ Blk wr G4 50 (oc ⟨ot, ⟨rn, rd⟩, ⟨pn, pd⟩, ⟨vn, vd⟩⟩) ∧ Blk wr G5 26 #[.string (bs rn), .string (bs rd), .string (bs pn), .string (bs pd), .string (bs vn), .string (bs vd)]) (fun i _ _ _ => 3 - (intOf i).toNat)
        case atStart => exact ⟨0, by omega, rfl, HX.out, HL.out, HB.out, HG.out, HS.out⟩
        case round =>
          clear HX HL HB HG HS
          obtain ⟨j, hj, rfl, hx, hl, hb, hg, hs⟩ := hrel
          have HX := Lib.hid hx
          have HL := Lib.hid hl
          have HB := Lib.hid hb
          have HG := Lib.hid hg
          have HS := Lib.hid hs
          clear hx hl hb hg hs
          obtain rfl | rfl | rfl | rfl : j = 0 ∨ j = 1 ∨ j = 2 ∨ j = 3 := by omega
          · skip
            have a0 := HS.out.cell 0
            have a1 := HS.out.cell 1
            simp only [List.getElem?_toArray, List.getElem?_cons_zero, List.getElem?_cons_succ] at a0 a1
            have HV := Lib.hid (Blk.new wr 26 #[.string (bs rn), .string (bs rd)])
            replace HX := Lib.hid (HX.out.alloc (.cells #[.string (bs rn), .string (bs rd)] 26))
            replace HL := Lib.hid (HL.out.alloc (.cells #[.string (bs rn), .string (bs rd)] 26))
            replace HB := Lib.hid (HB.out.alloc (.cells #[.string (bs rn), .string (bs rd)] 26))
            replace HG := Lib.hid (HG.out.alloc (.cells #[.string (bs rn), .string (bs rd)] 26))
            replace HS := Lib.hid (HS.out.alloc (.cells #[.string (bs rn), .string (bs rd)] 26))
            have LG := Lib.hid (fun g1 g2 W hE b1 b2 => limGood R1.out g1 g2 W hE b1 b2)
            clear R1 R2 R3
            go_upto_region 15 with fail
            generalize wr.alloc (.cells #[.string (bs rn), .string (bs rd)] 26) = W6 at *
            generalize wr.heap.size = G6 at *
            obtain ⟨b0, b1, _, _⟩ := frBlk HV.out (Ext.refl _)
            have HD : Hid (Ext W6 W6.drew) := Lib.hid (Ext.refl W6).drew
            go_region_held3 (fun w' => w'.cell? ⟨G6, 0, none⟩ = some (.string (bs rn)) ∧ w'.cell? ⟨G6, 1, none⟩ = some (.string (bs rd)))
              (go_keep)
              (first
                | (go_at_call 150; ((with_reducible refine (fkBetween false false _).mono ?_); rintro e w5 ⟨rfl, hb1, hb2, hx5⟩); (replace HD := Lib.hid (HD.out.trans hx5)); (have HB1 : Hid (Blk w5 W6.heap.size 4 #[.bool false]) := Lib.hid hb1); (have HB2 : Hid (Blk w5 (W6.heap.size + 1) 4 #[.bool false]) := Lib.hid hb2); (obtain ⟨b0, b1, _, _⟩ := frBlk HV.out HD.out); clear hx5 hb1 hb2)
                | (go_at_call 216; ((with_reducible refine (LG.out _ _ _ (HE.out.ext (HX.out.trans HD.out)) HB1.out HB2.out).mono ?_); rintro e w6 ⟨rfl, hx6⟩); (replace HD := Lib.hid (HD.out.trans hx6)); (obtain ⟨b0, b1, _, _⟩ := frBlk HV.out HD.out); clear hx6)
                | fail)
            all_goals
              go_wp2_with fail
              exact ⟨⟨1, by omega, by go_num, HX.out.trans HD.out, HL.out.trans HD.out, HB.out.ext HD.out, HG.out.ext HD.out, HS.out.ext HD.out⟩, by simp [intOf]⟩
          · skip
            have a0 := HS.out.cell 2
            have a1 := HS.out.cell 3
            simp only [List.getElem?_toArray, List.getElem?_cons_zero, List.getElem?_cons_succ] at a0 a1
            have HV := Lib.hid (Blk.new wr 26 #[.string (bs pn), .string (bs pd)])
            replace HX := Lib.hid (HX.out.alloc (.cells #[.string (bs pn), .string (bs pd)] 26))
            replace HL := Lib.hid (HL.out.alloc (.cells #[.string (bs pn), .string (bs pd)] 26))
            replace HB := Lib.hid (HB.out.alloc (.cells #[.string (bs pn), .string (bs pd)] 26))
            replace HG := Lib.hid (HG.out.alloc (.cells #[.string (bs pn), .string (bs pd)] 26))
            replace HS := Lib.hid (HS.out.alloc (.cells #[.string (bs pn), .string (bs pd)] 26))
            have LG := Lib.hid (fun g1 g2 W hE b1 b2 => limGood R2.out g1 g2 W hE b1 b2)
            clear R1 R2 R3
            go_upto_region 15 with fail
            generalize wr.alloc (.cells #[.string (bs pn), .string (bs pd)] 26) = W6 at *
            generalize wr.heap.size = G6 at *
            obtain ⟨b0, b1, _, _⟩ := frBlk HV.out (Ext.refl _)
            have HD : Hid (Ext W6 W6.drew) := Lib.hid (Ext.refl W6).drew
            go_region_held3 (fun w' => w'.cell? ⟨G6, 0, none⟩ = some (.string (bs pn)) ∧ w'.cell? ⟨G6, 1, none⟩ = some (.string (bs pd)))
              (go_keep)
              (first
                | (go_at_call 150; ((with_reducible refine (fkBetween false false _).mono ?_); rintro e w5 ⟨rfl, hb1, hb2, hx5⟩); (replace HD := Lib.hid (HD.out.trans hx5)); (have HB1 : Hid (Blk w5 W6.heap.size 4 #[.bool false]) := Lib.hid hb1); (have HB2 : Hid (Blk w5 (W6.heap.size + 1) 4 #[.bool false]) := Lib.hid hb2); (obtain ⟨b0, b1, _, _⟩ := frBlk HV.out HD.out); clear hx5 hb1 hb2)
                | (go_at_call 216; ((with_reducible refine (LG.out _ _ _ (HE.out.ext (HX.out.trans HD.out)) HB1.out HB2.out).mono ?_); rintro e w6 ⟨rfl, hx6⟩); (replace HD := Lib.hid (HD.out.trans hx6)); (obtain ⟨b0, b1, _, _⟩ := frBlk HV.out HD.out); clear hx6)
                | fail)
            all_goals
              go_wp2_with fail
              exact ⟨⟨2, by omega, by go_num, HX.out.trans HD.out, HL.out.trans HD.out, HB.out.ext HD.out, HG.out.ext HD.out, HS.out.ext HD.out⟩, by simp [intOf]⟩
          · skip
            have a0 := HS.out.cell 4
            have a1 := HS.out.cell 5
            simp only [List.getElem?_toArray, List.getElem?_cons_zero, List.getElem?_cons_succ] at a0 a1
            have HV := Lib.hid (Blk.new wr 26 #[.string (bs vn), .string (bs vd)])
            replace HX := Lib.hid (HX.out.alloc (.cells #[.string (bs vn), .string (bs vd)] 26))
            replace HL := Lib.hid (HL.out.alloc (.cells #[.string (bs vn), .string (bs vd)] 26))
            replace HB := Lib.hid (HB.out.alloc (.cells #[.string (bs vn), .string (bs vd)] 26))
            replace HG := Lib.hid (HG.out.alloc (.cells #[.string (bs vn), .string (bs vd)] 26))
            replace HS := Lib.hid (HS.out.alloc (.cells #[.string (bs vn), .string (bs vd)] 26))
            have LG := Lib.hid (fun g1 g2 W hE b1 b2 => limGood R3.out g1 g2 W hE b1 b2)
            clear R1 R2 R3
            go_upto_region 15 with fail
            generalize wr.alloc (.cells #[.string (bs vn), .string (bs vd)] 26) = W6 at *
            generalize wr.heap.size = G6 at *
            obtain ⟨b0, b1, _, _⟩ := frBlk HV.out (Ext.refl _)
            have HD : Hid (Ext W6 W6.drew) := Lib.hid (Ext.refl W6).drew
            go_region_held3 (fun w' => w'.cell? ⟨G6, 0, none⟩ = some (.string (bs vn)) ∧ w'.cell? ⟨G6, 1, none⟩ = some (.string (bs vd)))
              (go_keep)
              (first
                | (go_at_call 150; ((with_reducible refine (fkBetween false false _).mono ?_); rintro e w5 ⟨rfl, hb1, hb2, hx5⟩); (replace HD := Lib.hid (HD.out.trans hx5)); (have HB1 : Hid (Blk w5 W6.heap.size 4 #[.bool false]) := Lib.hid hb1); (have HB2 : Hid (Blk w5 (W6.heap.size + 1) 4 #[.bool false]) := Lib.hid hb2); (obtain ⟨b0, b1, _, _⟩ := frBlk HV.out HD.out); clear hx5 hb1 hb2)
                | (go_at_call 216; ((with_reducible refine (LG.out _ _ _ (HE.out.ext (HX.out.trans HD.out)) HB1.out HB2.out).mono ?_); rintro e w6 ⟨rfl, hx6⟩); (replace HD := Lib.hid (HD.out.trans hx6)); (obtain ⟨b0, b1, _, _⟩ := frBlk HV.out HD.out); clear hx6)
                | fail)
            all_goals
              go_wp2_with fail
              exact ⟨⟨3, by omega, by go_num, HX.out.trans HD.out, HL.out.trans HD.out, HB.out.ext HD.out, HG.out.ext HD.out, HS.out.ext HD.out⟩, by simp [intOf]⟩
          · skip
            obtain ⟨r0, r1, r2, r3, r4, r5, r6⟩ := optBlk HG.out (Ext.refl _)
            clear R1 R2 R3 hj
            by_cases b1 : rn = []
            rotate_left
            · have q1 : rn.isEmpty = false := by simpa using b1
              have q := bs_ne' b1
              go_wp2_with fail
              go_quiet (fail)
              go_wp2_with fail
              exact ⟨⟨k + 1, by omega, by go_num, HL.out.drewN _⟩, by simp [intOf]; omega⟩
            subst b1
            by_cases b2 : rd = []
            rotate_left
            · have q1 : rd.isEmpty = false := by simpa using b2
              have q := bs_ne' b2
              go_wp2_with fail
              go_quiet (fail)
              go_wp2_with fail
              exact ⟨⟨k + 1, by omega, by go_num, HL.out.drewN _⟩, by simp [intOf]; omega⟩
            subst b2
            exfalso
            simp [optBad, h0] at hbad
    · have hki : ¬ (k : Int) < (os.length : Int) := by omega
      clear hk hlt
      go_wp2_with fail
      go_ret
      exact ⟨rfl, HX.out⟩
end Go.Proofs.YthgpheopnhajaaaGreatDoor

/- Exchanges as facts: the fields' checks. -/
namespace Go.Proofs.YthgpheopnhajaaaGreatDoor
open Go.RowKit
attribute [local go_sem] size_bs toList_bs
section
variable (key : Bs) (day : Int) (ins : Bs) (A : Option Addr) (n c : Nat) (K : Array Value) (w : World)
set_option maxRecDepth 100000 in
set_option maxHeartbeats 4000000 in
theorem fkField0 (hs : ins.length ≤ 9000) (hn : isName ins = true) : Calls Tryz.prog 90 #[xv key day ins A n c, .agg K, .int .i64 0] w fun e w' => e = .returned (.int .i64 0) ∧ Ext w w' := by
  have HB := Lib.hid (Blk.new w 30 (xc key day ins A n c))
  have HX0 : Hid (Ext w (w.alloc (.cells (xc key day ins A n c) 30))) := Lib.hid (Ext.new _ _)
  have HX : Hid (Ext w ((w.alloc (.cells (xc key day ins A n c) 30)).alloc (.cells K 144))) := Lib.hid ((Ext.new _ _).alloc _)
  replace HB := Lib.hid (HB.out.alloc (.cells K 144))
  have HN := Lib.hid (fun W => fkName ins W hs hn)
  go_enter Tryz.func90, Tryz.ntmps90
  obtain ⟨x0, x1, x2, x3, x4, x5, x6, x7, x8, x9, x10, x11, x12, x13, x14, x15, x16, x17, x18, x19, x20⟩ := xBlk HB.out (Ext.refl _)
  clear x0 x1 x2 x3 x4 x6 x7 x8 x9 x10 x11 x12 x13 x14 x15 x16 x17 x18 x19 x20
  go_wp2_with fail
  refine (HN.out _).mono ?_
  rintro e v2 ⟨rfl, hx1⟩
  replace HX := Lib.hid (HX.out.trans hx1)
  clear hx1
  go_wp2_with fail
  go_ret
  exact ⟨rfl, HX.out⟩
set_option maxRecDepth 100000 in
set_option maxHeartbeats 4000000 in
theorem fkField11 (h : ∀ W, Ext w W → Calls Tryz.prog 157 #[xv key day ins A n c] W fun e w' => e = .returned (.int .i64 0) ∧ Ext W w') :
    Calls Tryz.prog 90 #[xv key day ins A n c, .agg K, .int .i64 11] w fun e w' => e = .returned (.int .i64 0) ∧ Ext w w' := by
  have HB := Lib.hid (Blk.new w 30 (xc key day ins A n c))
  have HX0 : Hid (Ext w (w.alloc (.cells (xc key day ins A n c) 30))) := Lib.hid (Ext.new _ _)
  have HX : Hid (Ext w ((w.alloc (.cells (xc key day ins A n c) 30)).alloc (.cells K 144))) := Lib.hid ((Ext.new _ _).alloc _)
  replace HB := Lib.hid (HB.out.alloc (.cells K 144))
  have HN := Lib.hid (fun W hx => h W hx)
  clear h
  have hs1 : (Tryz.prog.info? 30).map (·.size) = some (xc key day ins A n c).toList.length := by kernel_rfl
  have hrg := fact_range HB.out
  go_enter Tryz.func90, Tryz.ntmps90
  go_wp2_with (first | refine wpList_load_mid rfl 30 _ rfl w.heap.size 0 rfl _ _ hrg Tryz.underlying30 rfl hs1 ?_ | fail)
  refine (HN.out _ HX.out).mono ?_
  rintro e v5 ⟨rfl, hx1⟩
  replace HX := Lib.hid (HX.out.trans hx1)
  clear hx1
  go_wp2_with fail
  go_ret
  exact ⟨rfl, HX.out⟩
end
end Go.Proofs.YthgpheopnhajaaaGreatDoor

/- fact.Check passes an exchange that fits: the description of its kind. -/
namespace Go.Proofs.YthgpheopnhajaaaGreatDoor
open Go.RowKit
open Go.Maps (Keyed)
attribute [local go_sem] size_bs toList_bs
def exCl : List Value := kcl [101, 120, 99, 104, 97, 110, 103, 101] 1 [true, false, false, false, false, false, false, false, false, false, false, true, false] (.map none) false
set_option maxRecDepth 100000 in
theorem exLook {w : World} {b n : Nat} {D : DataW Value} (h : MapAt w b n D) (hh : Maps.has D (.int .i64 10) = true) (hk : ∀ z, D.atKey (.int .i64 10) z = .held exK) :
    (Instr.lookup 146 (.map (some b)) (.int .i64 10) true).run Tryz.prog w = .ok (.tuple #[.agg exCl.toArray, .bool true]) w := by
  obtain ⟨v, ps, h1, h2⟩ := h.look_ok (t := 146) (e := 144) keyInt Tryz.underlying146 (Tryz.zeroValue144 w) (zd := .held _) (zp := []) rfl (keyMk 10 (by decide))
  rw [hh] at h1
  rw [hk] at h2
  unfold RK at h2
  injection h2 with h2
  injection h2 with h2 _
  injection h2 with h2
  subst h2
  exact h1
/-- the kind's description in a block of its own -/
def KAt (W : World) (p3 p4 : Value) (wx : World) : Prop := ∃ P, p3 = .pointer (some ⟨P, 0, none⟩) ∧ p4 = .bool true ∧ Blk wx P 144 exCl.toArray ∧ Ext W wx
set_option maxRecDepth 100000 in
set_option maxHeartbeats 8000000 in
theorem fkCheck (key : Bs) (day : Int) (ins : Bs) (A : Option Addr) (os : List OptV) (c : Nat) (w : World) (hA : RdO w A os) (h0 : 0 < os.length) (h8 : os.length ≤ 8) (hg : ∀ o ∈ os, OptOK o ins)
    (hk : isName key = true) (hkl : key.length ≤ 9000) (hi : isName ins = true) (hil : ins.length ≤ 9000) (hd1 : -25567 ≤ day) (hd2 : day ≤ 84005) (hE : Env w) :
    Calls Tryz.prog 34 #[xv key day ins A os.length c] w fun e w' => e = .returned (.int .i64 0) ∧ Ext w w' := by
  have HE := Lib.hid hE
  have HA := Lib.hid hA
  have HO := Lib.hid (fun W (hx : Ext w W) => fkOptions key day ins A os c W (hA.ext hx) h0 h8 hg (hE.ext hx))
  have HN := Lib.hid (insName key (w.alloc (.cells (xc key day ins A os.length c) 30)) (by omega))
  rw [hk] at HN
  have KI := Lib.hid (fun W => kindsAll W)
  have HI := Lib.hid (And.intro hi hil)
  have hoc := kcl_one [101, 120, 99, 104, 97, 110, 103, 101] 1 [true, false, false, false, false, false, false, false, false, false, false, true, false] (.map none) false rfl
  have hs2 : (Tryz.prog.info? 144).map (·.size) = some exCl.toArray.size := by kernel_rfl
  have g1 : decide (day < -25567) = false := by rw [decide_eq_false_iff_not]; omega
  have g2 : decide (84005 < day) = false := by rw [decide_eq_false_iff_not]; omega
  have HB := Lib.hid (Blk.new w 30 (xc key day ins A os.length c))
  have HX : Hid (Ext w (w.alloc (.cells (xc key day ins A os.length c) 30))) := Lib.hid (Ext.new _ _)
  clear hA h0 h8 hg hk hkl hi hil hd1 hd2 hE
  generalize hgn : os.length = n at *
  go_enter Tryz.func34, Tryz.ntmps34
  obtain ⟨x0, x1, x2, x3, x4, x5, x6, x7, x8, x9, x10, x11, x12, x13, x14, x15, x16, x17, x18, x19, x20⟩ := xBlk HB.out (Ext.refl _)
  go_wp2_with fail
  refine (HN.out).mono ?_
  rintro e W ⟨rfl, hx1⟩
  replace HB := Lib.hid (HB.out.ext hx1)
  replace HX := Lib.hid (HX.out.trans hx1)
  clear hx1
  clear x0 x1 x2 x3 x4 x5 x6 x7 x8 x9 x10 x11 x12 x13 x14 x15 x16 x17 x18 x19 x20
  obtain ⟨x0, x1, x2, x3, x4, x5, x6, x7, x8, x9, x10, x11, x12, x13, x14, x15, x16, x17, x18, x19, x20⟩ := xBlk HB.out (Ext.refl _)
  go_upto_region 11 with fail
  go_cut [3, 4] (fun p3 p4 wx => KAt W p3 p4 wx)
  case first =>
    clear HO HN HI HE HA x0 x1 x2 x3 x5 x6 x7 x8 x9 x10 x11 x12 x13 x14 x15 x16 x17 x18 x19 x20
    have y4 : W.drew.cell? ⟨w.heap.size, 4, none⟩ = some (.int .i64 10) := x4
    refine wp_region_held_drew (S := fun w' => w'.cell? ⟨w.heap.size, 4, none⟩ = some (.int .i64 10)) (by kernel_rfl) x4 (fun hHeld => ?_)
    refine wpAnyH_take (i := 1) (v := .pointer (some ⟨w.heap.size, 4, none⟩)) rfl (by kernel_rfl) (by kernel_rfl) (by kernel_rfl) (fun _ _ _ h => h) (Or.inl ⟨by rfl, ?_⟩) (by assumption) ?_
    · intro w hSw
      (try dsimp only at hSw)
      go_simp
    (try simp only [Act.put, List.setIfInBounds_toArray])
    refine wpAnyH_take (i := 2) (v := .int .i64 10) rfl (by kernel_rfl) (by kernel_rfl) (by kernel_rfl) (fun _ _ _ h => h) (Or.inl ⟨by rfl, ?_⟩) (by assumption) ?_
    · intro w hSw
      (try dsimp only at hSw)
      go_simp
    (try simp only [Act.put])
    refine wpAnyH_ready (rs := [0, 7]) (by kernel_rfl) (by simp) ?_
    refine AllReadyH.cons rfl (fun K hK => ?_) (AllReadyH.cons rfl (fun K hK => ?_) (AllReadyH.nil))
    · go_simp
      refine (KI.out _).mono ?_
      rintro e w1 ⟨b, n, D, rfl, hM, hh, hk, hx⟩
      have L1 := exLook hM hh hk
      have L2 := exLook (hM.ext (Ext.new w1 (.cells #[.string ⟨#[]⟩, .int .i64 0, .bool false, .bool false, .bool false, .bool false, .bool false, .bool false, .bool false, .bool false, .bool false, .bool false, .bool false, .bool false, .bool false, .map none, .bool false] 144))) hh hk
      have y5 := (xBlk HB.out ((Ext.refl W).drew.trans hx)).2.2.2.2.1
      have BN := Lib.hid (Blk.new w1 144 (kcl [] 0 no13 (.map none) false).toArray)
      have HZ : Hid (Ext W (w1.alloc (.cells (kcl [] 0 no13 (.map none) false).toArray 144))) := Lib.hid (((Ext.refl W).drew.trans hx).alloc _)
      have y6 := (xBlk HB.out HZ.out).2.2.2.2.1
      have hle : Hid (W.heap.size ≤ w1.heap.size) := Lib.hid hx.size
      clear hM hh hk hx
      refine hK.out _ _ y5 (fun hHeld => ?_)
      clear hK K
      (try simp only [Act.put, List.setIfInBounds_toArray, List.set_cons_zero, List.set_cons_succ])
      refine wpAnyH_ready (rs := [3, 7]) (by kernel_rfl) (by simp) ?_
      refine AllReadyH.cons rfl (fun K hK => ?_) (AllReadyH.cons rfl (fun K hK => ?_) (AllReadyH.nil))
      · go_simp
        refine hK.out _ _ y5 (fun hHeld => ?_)
        clear hK K
        (try simp only [Act.put, List.setIfInBounds_toArray, List.set_cons_zero, List.set_cons_succ])
        refine wpAnyH_take (i := 4) (v := .tuple #[.agg exCl.toArray, .bool true]) rfl (by kernel_rfl) (by kernel_rfl) (by kernel_rfl) (fun _ _ _ h => h) (Or.inl ⟨by rfl, ?_⟩) (by assumption) ?_
        · intro w hSw
          (try dsimp only at hSw)
          go_simp
        (try simp only [Act.put, List.setIfInBounds_toArray])
        refine wpAnyH_take (i := 5) (v := .agg exCl.toArray) rfl (by kernel_rfl) (by kernel_rfl) (by kernel_rfl) (fun _ _ _ h => h) (Or.inl ⟨by rfl, ?_⟩) (by assumption) ?_
        · intro w hSw
          (try dsimp only at hSw)
          go_simp
        (try simp only [Act.put])
        refine wpAnyH_take (i := 6) (v := .bool true) rfl (by kernel_rfl) (by kernel_rfl) (by kernel_rfl) (fun _ _ _ h => h) (Or.inl ⟨by rfl, ?_⟩) (by assumption) ?_
        · intro w hSw
          (try dsimp only at hSw)
          go_simp
        (try simp only [Act.put])
        refine wpAnyH_ready (rs := [7]) (by kernel_rfl) (by simp) ?_
        refine AllReadyH.cons rfl (fun K hK => ?_) (AllReadyH.nil)
        go_simp
        refine hK.out _ _ y6 (fun hHeld => ?_)
        clear hK K
        (try simp only [Act.put, List.setIfInBounds_toArray, List.set_cons_zero, List.set_cons_succ])
        refine wpAnyH_ready (rs := [8]) (by kernel_rfl) (by simp) ?_
        refine AllReadyH.cons rfl (fun K hK => ?_) (AllReadyH.nil)
        have hth := kind_there BN.out (n := exCl.toArray.size) rfl
        rw [if_pos (by rfl)]
        refine wp_store_mid 144 _ _ rfl w1.heap.size 0 exCl.toArray rfl rfl hth hs2 hoc ?_
        have O := Lib.hid (kind_over BN.out (ys := exCl) rfl)
        have HS := Lib.hid (ext_sets exCl 0 _ () HZ.out hle.out)
        refine hK.out _ _ ((xBlk HB.out HS.out).2.2.2.2.1) (fun hHeld => ?_)
        clear hK K
        (try simp only [Act.put, List.setIfInBounds_toArray])
        refine wpAnyH_take (i := 9) (v := .bool true) rfl (by kernel_rfl) (by kernel_rfl) (by kernel_rfl) (fun _ _ _ h => h) (Or.inl ⟨by rfl, ?_⟩) (by assumption) ?_
        · intro w hSw
          (try dsimp only at hSw)
          go_simp
        (try simp only [Act.put])
        refine wpAnyH_done (by kernel_rfl) ?_ _
        go_wp2_with fail
        go_meet
        exact ⟨_, rfl, rfl, O.out, HS.out⟩
      · go_simp
        refine hK.out _ _ y6 (fun hHeld => ?_)
        clear hK K
        (try simp only [Act.put, List.setIfInBounds_toArray, List.set_cons_zero, List.set_cons_succ])
        refine wpAnyH_ready (rs := [3]) (by kernel_rfl) (by simp) ?_
        refine AllReadyH.cons rfl (fun K hK => ?_) (AllReadyH.nil)
        go_simp
        refine hK.out _ _ y6 (fun hHeld => ?_)
        clear hK K
        (try simp only [Act.put, List.setIfInBounds_toArray, List.set_cons_zero, List.set_cons_succ])
        refine wpAnyH_take (i := 4) (v := .tuple #[.agg exCl.toArray, .bool true]) rfl (by kernel_rfl) (by kernel_rfl) (by kernel_rfl) (fun _ _ _ h => h) (Or.inl ⟨by rfl, ?_⟩) (by assumption) ?_
        · intro w hSw
          (try dsimp only at hSw)
          go_simp
        (try simp only [Act.put, List.setIfInBounds_toArray])
        refine wpAnyH_take (i := 5) (v := .agg exCl.toArray) rfl (by kernel_rfl) (by kernel_rfl) (by kernel_rfl) (fun _ _ _ h => h) (Or.inl ⟨by rfl, ?_⟩) (by assumption) ?_
        · intro w hSw
          (try dsimp only at hSw)
          go_simp
        (try simp only [Act.put])
        refine wpAnyH_take (i := 6) (v := .bool true) rfl (by kernel_rfl) (by kernel_rfl) (by kernel_rfl) (fun _ _ _ h => h) (Or.inl ⟨by rfl, ?_⟩) (by assumption) ?_
        · intro w hSw
          (try dsimp only at hSw)
          go_simp
        (try simp only [Act.put])
        refine wpAnyH_ready (rs := [8]) (by kernel_rfl) (by simp) ?_
        refine AllReadyH.cons rfl (fun K hK => ?_) (AllReadyH.nil)
        have hth := kind_there BN.out (n := exCl.toArray.size) rfl
        rw [if_pos (by rfl)]
        refine wp_store_mid 144 _ _ rfl w1.heap.size 0 exCl.toArray rfl rfl hth hs2 hoc ?_
        have O := Lib.hid (kind_over BN.out (ys := exCl) rfl)
        have HS := Lib.hid (ext_sets exCl 0 _ () HZ.out hle.out)
        refine hK.out _ _ ((xBlk HB.out HS.out).2.2.2.2.1) (fun hHeld => ?_)
        clear hK K
        (try simp only [Act.put])
        refine wpAnyH_take (i := 9) (v := .bool true) rfl (by kernel_rfl) (by kernel_rfl) (by kernel_rfl) (fun _ _ _ h => h) (Or.inl ⟨by rfl, ?_⟩) (by assumption) ?_
        · intro w hSw
          (try dsimp only at hSw)
          go_simp
        (try simp only [Act.put])
        refine wpAnyH_done (by kernel_rfl) ?_ _
        go_wp2_with fail
        go_meet
        exact ⟨_, rfl, rfl, O.out, HS.out⟩
    · go_simp
      have HZ0 : Hid (Ext W (W.drew.alloc (.cells (kcl [] 0 no13 (.map none) false).toArray 144))) := Lib.hid ((Ext.refl W).drew.alloc _)
      have y5 := (xBlk HB.out HZ0.out).2.2.2.2.1
      refine hK.out _ _ y5 (fun hHeld => ?_)
      clear hK K
      (try simp only [Act.put, List.setIfInBounds_toArray, List.set_cons_zero, List.set_cons_succ])
      refine wpAnyH_ready (rs := [0]) (by kernel_rfl) (by simp) ?_
      refine AllReadyH.cons rfl (fun K hK => ?_) (AllReadyH.nil)
      go_simp
      refine (KI.out _).mono ?_
      rintro e w1 ⟨b, n, D, rfl, hM, hh, hk, hx⟩
      have L1 := exLook hM hh hk
      have HZ : Hid (Ext W w1) := Lib.hid (HZ0.out.trans hx)
      have BN : Hid (Blk w1 W.heap.size 144 (kcl [] 0 no13 (.map none) false).toArray) := Lib.hid ((Blk.new W.drew _ _).ext hx)
      have y6 := (xBlk HB.out HZ.out).2.2.2.2.1
      clear hM hh hk hx
      refine hK.out _ _ y6 (fun hHeld => ?_)
      clear hK K
      (try simp only [Act.put, List.setIfInBounds_toArray, List.set_cons_zero, List.set_cons_succ])
      refine wpAnyH_ready (rs := [3]) (by kernel_rfl) (by simp) ?_
      refine AllReadyH.cons rfl (fun K hK => ?_) (AllReadyH.nil)
      go_simp
      refine hK.out _ _ y6 (fun hHeld => ?_)
      clear hK K
      (try simp only [Act.put, List.setIfInBounds_toArray, List.set_cons_zero, List.set_cons_succ])
      refine wpAnyH_take (i := 4) (v := .tuple #[.agg exCl.toArray, .bool true]) rfl (by kernel_rfl) (by kernel_rfl) (by kernel_rfl) (fun _ _ _ h => h) (Or.inl ⟨by rfl, ?_⟩) (by assumption) ?_
      · intro w hSw
        (try dsimp only at hSw)
        go_simp
      (try simp only [Act.put, List.setIfInBounds_toArray])
      refine wpAnyH_take (i := 5) (v := .agg exCl.toArray) rfl (by kernel_rfl) (by kernel_rfl) (by kernel_rfl) (fun _ _ _ h => h) (Or.inl ⟨by rfl, ?_⟩) (by assumption) ?_
      · intro w hSw
        (try dsimp only at hSw)
        go_simp
      (try simp only [Act.put])
      refine wpAnyH_take (i := 6) (v := .bool true) rfl (by kernel_rfl) (by kernel_rfl) (by kernel_rfl) (fun _ _ _ h => h) (Or.inl ⟨by rfl, ?_⟩) (by assumption) ?_
      · intro w hSw
        (try dsimp only at hSw)
        go_simp
      (try simp only [Act.put])
      refine wpAnyH_ready (rs := [8]) (by kernel_rfl) (by simp) ?_
      refine AllReadyH.cons rfl (fun K hK => ?_) (AllReadyH.nil)
      have hth := kind_there BN.out (n := exCl.toArray.size) rfl
      rw [if_pos (by rfl)]
      refine wp_store_mid 144 _ _ rfl W.heap.size 0 exCl.toArray rfl rfl hth hs2 hoc ?_
      have O := Lib.hid (kind_over BN.out (ys := exCl) rfl)
      have HS := Lib.hid (ext_sets exCl 0 _ () HZ.out (Nat.le_refl _))
      refine hK.out _ _ ((xBlk HB.out HS.out).2.2.2.2.1) (fun hHeld => ?_)
      clear hK K
      (try simp only [Act.put])
      refine wpAnyH_take (i := 9) (v := .bool true) rfl (by kernel_rfl) (by kernel_rfl) (by kernel_rfl) (fun _ _ _ h => h) (Or.inl ⟨by rfl, ?_⟩) (by assumption) ?_
      · intro w hSw
        (try dsimp only at hSw)
        go_simp
      (try simp only [Act.put])
      refine wpAnyH_done (by kernel_rfl) ?_ _
      go_wp2_with fail
      go_meet
      exact ⟨_, rfl, rfl, O.out, HS.out⟩
  case rest =>
    obtain ⟨P, rfl, rfl, hk, hx⟩ := hcut
    replace HX := Lib.hid (HX.out.trans hx)
    replace HB := Lib.hid (HB.out.ext hx)
    have HK := Lib.hid hk
    clear hk hx x0 x1 x2 x3 x4 x5 x6 x7 x8 x9 x10 x11 x12 x13 x14 x15 x16 x17 x18 x19 x20 KI HN g1 g2 hs2 hoc
    have hs1 : (Tryz.prog.info? 30).map (·.size) = some (xc key day ins A n c).toList.length := by kernel_rfl
    have hs3 : (Tryz.prog.info? 144).map (·.size) = some exCl.length := by kernel_rfl
    go_wp2_with fail
    go_loopw [41, 5, 6] (fun i _ _ wr => ∃ k : Nat, k ≤ 13 ∧ i = .int .i64 k ∧ Ext wc wr) (fun i _ _ _ => 13 - (intOf i).toNat)
    case atStart => exact ⟨0, by omega, rfl, Ext.refl _⟩
    case round =>
      obtain ⟨k, hk, rfl, hx⟩ := hrel
      replace HX := Lib.hid (HX.out.trans hx)
      replace HB := Lib.hid (HB.out.ext hx)
      replace HK := Lib.hid (HK.out.ext hx)
      have HL := Lib.hid hx
      clear hx
      obtain ⟨_, _, q2, q3, q4, q5, q6, q7, q8, q9, q10, q11, q12, q13, q14, _, _⟩ := kindBlk HK.out
      have hrg := fact_range HB.out
      have hrk := kind_range HK.out
      obtain rfl | rfl | rfl | rfl | rfl | rfl | rfl | rfl | rfl | rfl | rfl | rfl | rfl | rfl : k = 0 ∨ k = 1 ∨ k = 2 ∨ k = 3 ∨ k = 4 ∨ k = 5 ∨ k = 6 ∨ k = 7 ∨ k = 8 ∨ k = 9 ∨ k = 10 ∨ k = 11 ∨ k = 12 ∨ k = 13 := by omega
      · clear hk
        have HV := Lib.hid (fkField0 key day ins A n c exCl.toArray wr HI.out.2 HI.out.1)
        go_wp2_with (first | refine wpList_load_mid rfl 30 _ rfl w.heap.size 0 rfl _ _ hrg Tryz.underlying30 rfl hs1 ?_ | refine wpList_load_mid rfl 144 _ rfl P 0 rfl _ _ hrk Tryz.underlying144 rfl hs3 ?_ | fail)
        refine HV.out.mono ?_
        rintro e v1 ⟨rfl, hx1⟩
        replace HX := Lib.hid (HX.out.trans hx1)
        replace HL := Lib.hid (HL.out.trans hx1)
        clear hx1
        go_wp2_with fail
        exact ⟨⟨0 + 1, by omega, by go_num, HL.out⟩, by simp [intOf]⟩
      · clear hk
        have HV := Lib.hid (fkEmpty1 key day ins A n c wr)
        go_wp2_with (first | refine wpList_load_mid rfl 30 _ rfl w.heap.size 0 rfl _ _ hrg Tryz.underlying30 rfl hs1 ?_ | refine wpList_load_mid rfl 144 _ rfl P 0 rfl _ _ hrk Tryz.underlying144 rfl hs3 ?_ | fail)
        refine HV.out.mono ?_
        rintro e v1 ⟨rfl, hx1⟩
        replace HX := Lib.hid (HX.out.trans hx1)
        replace HL := Lib.hid (HL.out.trans hx1)
        clear hx1
        go_wp2_with fail
        exact ⟨⟨1 + 1, by omega, by go_num, HL.out⟩, by simp [intOf]⟩
      · clear hk
        have HV := Lib.hid (fkEmpty2 key day ins A n c wr)
        go_wp2_with (first | refine wpList_load_mid rfl 30 _ rfl w.heap.size 0 rfl _ _ hrg Tryz.underlying30 rfl hs1 ?_ | refine wpList_load_mid rfl 144 _ rfl P 0 rfl _ _ hrk Tryz.underlying144 rfl hs3 ?_ | fail)
        refine HV.out.mono ?_
        rintro e v1 ⟨rfl, hx1⟩
        replace HX := Lib.hid (HX.out.trans hx1)
        replace HL := Lib.hid (HL.out.trans hx1)
        clear hx1
        go_wp2_with fail
        exact ⟨⟨2 + 1, by omega, by go_num, HL.out⟩, by simp [intOf]⟩
      · clear hk
        have HV := Lib.hid (fkEmpty3 key day ins A n c wr)
        go_wp2_with (first | refine wpList_load_mid rfl 30 _ rfl w.heap.size 0 rfl _ _ hrg Tryz.underlying30 rfl hs1 ?_ | refine wpList_load_mid rfl 144 _ rfl P 0 rfl _ _ hrk Tryz.underlying144 rfl hs3 ?_ | fail)
        refine HV.out.mono ?_
        rintro e v1 ⟨rfl, hx1⟩
        replace HX := Lib.hid (HX.out.trans hx1)
        replace HL := Lib.hid (HL.out.trans hx1)
        clear hx1
        go_wp2_with fail
        exact ⟨⟨3 + 1, by omega, by go_num, HL.out⟩, by simp [intOf]⟩
      · clear hk
        have HV := Lib.hid (fkEmpty4 key day ins A n c wr)
        go_wp2_with (first | refine wpList_load_mid rfl 30 _ rfl w.heap.size 0 rfl _ _ hrg Tryz.underlying30 rfl hs1 ?_ | refine wpList_load_mid rfl 144 _ rfl P 0 rfl _ _ hrk Tryz.underlying144 rfl hs3 ?_ | fail)
        refine HV.out.mono ?_
        rintro e v1 ⟨rfl, hx1⟩
        replace HX := Lib.hid (HX.out.trans hx1)
        replace HL := Lib.hid (HL.out.trans hx1)
        clear hx1
        go_wp2_with fail
        exact ⟨⟨4 + 1, by omega, by go_num, HL.out⟩, by simp [intOf]⟩
      · clear hk
        have HV := Lib.hid (fkEmpty5 key day ins A n c wr)
        go_wp2_with (first | refine wpList_load_mid rfl 30 _ rfl w.heap.size 0 rfl _ _ hrg Tryz.underlying30 rfl hs1 ?_ | refine wpList_load_mid rfl 144 _ rfl P 0 rfl _ _ hrk Tryz.underlying144 rfl hs3 ?_ | fail)
        refine HV.out.mono ?_
        rintro e v1 ⟨rfl, hx1⟩
        replace HX := Lib.hid (HX.out.trans hx1)
        replace HL := Lib.hid (HL.out.trans hx1)
        clear hx1
        go_wp2_with fail
        exact ⟨⟨5 + 1, by omega, by go_num, HL.out⟩, by simp [intOf]⟩
      · clear hk
        have HV := Lib.hid (fkEmpty6 key day ins A n c wr)
        go_wp2_with (first | refine wpList_load_mid rfl 30 _ rfl w.heap.size 0 rfl _ _ hrg Tryz.underlying30 rfl hs1 ?_ | refine wpList_load_mid rfl 144 _ rfl P 0 rfl _ _ hrk Tryz.underlying144 rfl hs3 ?_ | fail)
        refine HV.out.mono ?_
        rintro e v1 ⟨rfl, hx1⟩
        replace HX := Lib.hid (HX.out.trans hx1)
        replace HL := Lib.hid (HL.out.trans hx1)
        clear hx1
        go_wp2_with fail
        exact ⟨⟨6 + 1, by omega, by go_num, HL.out⟩, by simp [intOf]⟩
      · clear hk
        have HV := Lib.hid (fkEmpty7 key day ins A n c wr)
        go_wp2_with (first | refine wpList_load_mid rfl 30 _ rfl w.heap.size 0 rfl _ _ hrg Tryz.underlying30 rfl hs1 ?_ | refine wpList_load_mid rfl 144 _ rfl P 0 rfl _ _ hrk Tryz.underlying144 rfl hs3 ?_ | fail)
        refine HV.out.mono ?_
        rintro e v1 ⟨rfl, hx1⟩
        replace HX := Lib.hid (HX.out.trans hx1)
        replace HL := Lib.hid (HL.out.trans hx1)
        clear hx1
        go_wp2_with fail
        exact ⟨⟨7 + 1, by omega, by go_num, HL.out⟩, by simp [intOf]⟩
      · clear hk
        have HV := Lib.hid (fkEmpty8 key day ins A n c wr)
        go_wp2_with (first | refine wpList_load_mid rfl 30 _ rfl w.heap.size 0 rfl _ _ hrg Tryz.underlying30 rfl hs1 ?_ | refine wpList_load_mid rfl 144 _ rfl P 0 rfl _ _ hrk Tryz.underlying144 rfl hs3 ?_ | fail)
        refine HV.out.mono ?_
        rintro e v1 ⟨rfl, hx1⟩
        replace HX := Lib.hid (HX.out.trans hx1)
        replace HL := Lib.hid (HL.out.trans hx1)
        clear hx1
        go_wp2_with fail
        exact ⟨⟨8 + 1, by omega, by go_num, HL.out⟩, by simp [intOf]⟩
      · clear hk
        have HV := Lib.hid (fkEmpty9 key day ins A n c wr)
        go_wp2_with (first | refine wpList_load_mid rfl 30 _ rfl w.heap.size 0 rfl _ _ hrg Tryz.underlying30 rfl hs1 ?_ | refine wpList_load_mid rfl 144 _ rfl P 0 rfl _ _ hrk Tryz.underlying144 rfl hs3 ?_ | fail)
        refine HV.out.mono ?_
        rintro e v1 ⟨rfl, hx1⟩
        replace HX := Lib.hid (HX.out.trans hx1)
        replace HL := Lib.hid (HL.out.trans hx1)
        clear hx1
        go_wp2_with fail
        exact ⟨⟨9 + 1, by omega, by go_num, HL.out⟩, by simp [intOf]⟩
      · clear hk
        have HV := Lib.hid (fkEmpty10 key day ins A n c wr)
        go_wp2_with (first | refine wpList_load_mid rfl 30 _ rfl w.heap.size 0 rfl _ _ hrg Tryz.underlying30 rfl hs1 ?_ | refine wpList_load_mid rfl 144 _ rfl P 0 rfl _ _ hrk Tryz.underlying144 rfl hs3 ?_ | fail)
        refine HV.out.mono ?_
        rintro e v1 ⟨rfl, hx1⟩
        replace HX := Lib.hid (HX.out.trans hx1)
        replace HL := Lib.hid (HL.out.trans hx1)
        clear hx1
        go_wp2_with fail
        exact ⟨⟨10 + 1, by omega, by go_num, HL.out⟩, by simp [intOf]⟩
      · clear hk
        have HV := Lib.hid (fkField11 key day ins A n c exCl.toArray wr (fun W hx => HO.out W (HX.out.trans hx)))
        go_wp2_with (first | refine wpList_load_mid rfl 30 _ rfl w.heap.size 0 rfl _ _ hrg Tryz.underlying30 rfl hs1 ?_ | refine wpList_load_mid rfl 144 _ rfl P 0 rfl _ _ hrk Tryz.underlying144 rfl hs3 ?_ | fail)
        refine HV.out.mono ?_
        rintro e v1 ⟨rfl, hx1⟩
        replace HX := Lib.hid (HX.out.trans hx1)
        replace HL := Lib.hid (HL.out.trans hx1)
        clear hx1
        go_wp2_with fail
        exact ⟨⟨11 + 1, by omega, by go_num, HL.out⟩, by simp [intOf]⟩
      · clear hk
        have HV := Lib.hid (fkEmpty12 key day ins A n c wr)
        go_wp2_with (first | refine wpList_load_mid rfl 30 _ rfl w.heap.size 0 rfl _ _ hrg Tryz.underlying30 rfl hs1 ?_ | refine wpList_load_mid rfl 144 _ rfl P 0 rfl _ _ hrk Tryz.underlying144 rfl hs3 ?_ | fail)
        refine HV.out.mono ?_
        rintro e v1 ⟨rfl, hx1⟩
        replace HX := Lib.hid (HX.out.trans hx1)
        replace HL := Lib.hid (HL.out.trans hx1)
        clear hx1
        go_wp2_with fail
        exact ⟨⟨12 + 1, by omega, by go_num, HL.out⟩, by simp [intOf]⟩
      · clear hk hrg hrk q2 q3 q4 q5 q6 q7 q8 q9 q10 q11 q12 q13 q14
        go_wp2_with fail
        go_ret
        exact ⟨rfl, HX.out⟩
end Go.Proofs.YthgpheopnhajaaaGreatDoor





/- The library's slices.Reverse at lots. -/
namespace Go.Proofs.YthgpheopnhajaaaGreatDoor
open Go.RowKit
attribute [local go_sem] size_bs toList_bs
theorem RowL.drew {w : World} {g cap : Nat} {ls : List LotV} (h : RowL w g cap ls) : RowL w.drew g cap ls := by
  obtain ⟨cur, h⟩ := h
  exact ⟨cur, h.drew⟩
end Go.Proofs.YthgpheopnhajaaaGreatDoor

/- The walk over the program's Cut of a lot. -/
namespace Go.Proofs.YthgpheopnhajaaaGreatDoor
open Go.RowKit Go.Shelf
attribute [local go_sem] size_bs toList_bs
def lot0 : LotV := ⟨[], [], 0, 0, [], [], []⟩
/-- the three blocks of Cut -/
structure CutAt (W0 W : World) (g : Nat) (x : LotV) : Prop where
  bx : Blk W g 71 (lc x)
  ba : Blk W (g + 1) 71 (lc lot0)
  bb : Blk W (g + 2) 71 (lc lot0)
  le : W0.heap.size ≤ g
  ext : Ext W0 W
theorem CutAt.on {W0 W W' : World} {g : Nat} {x : LotV} (h : CutAt W0 W g x) (hx : Ext W W') : CutAt W0 W' g x := ⟨h.bx.ext hx, h.ba.ext hx, h.bb.ext hx, h.le, h.ext.trans hx⟩
/-- the two halves beside them -/
structure HalvesAt (W0 W : World) (g P R : Nat) (x a b : LotV) : Prop where
  cut : CutAt W0 W g x
  ne : P ≠ R
  lp : g + 3 ≤ P
  lr : g + 3 ≤ R
  bp : Blk W P 71 (lc a)
  br : Blk W R 71 (lc b)
section
variable {W0 W W' : World} {g P R : Nat} {x a b : LotV}
theorem HalvesAt.on (h : HalvesAt W0 W g P R x a b) (hx : Ext W W') : HalvesAt W0 W' g P R x a b := ⟨h.cut.on hx, h.ne, h.lp, h.lr, h.bp.ext hx, h.br.ext hx⟩
theorem HalvesAt.store (h : HalvesAt W0 W g P R x a b) (n : Nat) (u v : Value) {a' b' : LotV} (ha : (lc a).setIfInBounds n u = lc a') (hb : (lc b).setIfInBounds n v = lc b') : HalvesAt W0 ((W.setCell ⟨P, n, none⟩ u).setCell ⟨R, n, none⟩ v) g P R x a' b' := by
  have h1 := h.lp
  have h2 := h.lr
  have h3 := h.ne
  have h4 := h.cut.le
  refine ⟨⟨(h.cut.bx.far (p := ⟨P, n, none⟩) (by show g ≠ P; omega) u).far (p := ⟨R, n, none⟩) (by show g ≠ R; omega) v, (h.cut.ba.far (p := ⟨P, n, none⟩) (by show g + 1 ≠ P; omega) u).far (p := ⟨R, n, none⟩) (by show g + 1 ≠ R; omega) v, (h.cut.bb.far (p := ⟨P, n, none⟩) (by show g + 2 ≠ P; omega) u).far (p := ⟨R, n, none⟩) (by show g + 2 ≠ R; omega) v, h.cut.le, (h.cut.ext.setCell (p := ⟨P, n, none⟩) (by show W0.heap.size ≤ P; omega) u).setCell (p := ⟨R, n, none⟩) (by show W0.heap.size ≤ R; omega) v⟩, h3, h1, h2, ?_, ?_⟩
  · have := (h.bp.set_ n u).far (p := ⟨R, n, none⟩) h3 v
    rwa [ha] at this
  · have := (h.br.far (p := ⟨P, n, none⟩) (Ne.symm h3) u).set_ n v
    rwa [hb] at this
end
end Go.Proofs.YthgpheopnhajaaaGreatDoor







/- Plain: the average after a purchase; lots with a further one. No program in sight. -/
namespace Go.Proofs.YthgpheopnhajaaaGreatDoor
open Go.RowKit
/-- behind which of the first n lots a further one is put -/
def putK (ls : List LotV) (ins : Bs) : Nat → Nat
  | 0 => 0
  | n + 1 => match ls[n]? with
    | some y => if (Op.bytesLess y.ins ins || y.ins == ins) = true then n + 1 else putK ls ins n
    | none => putK ls ins n
theorem putK_le (ls : List LotV) (ins : Bs) : ∀ n, putK ls ins n ≤ n
  | 0 => Nat.le_refl _
  | n + 1 => by
    have := putK_le ls ins n
    unfold putK
    split
    · split <;> omega
    · omega
theorem putK_hit {ls : List LotV} {ins : Bs} {k : Nat} (hk : k < ls.length) (h : (Op.bytesLess (ls[k]'hk).ins ins || (ls[k]'hk).ins == ins) = true) : putK ls ins (k + 1) = k + 1 := by
  conv => lhs; unfold putK
  rw [List.getElem?_eq_getElem hk]
  exact if_pos h
theorem putK_skip {ls : List LotV} {ins : Bs} {k : Nat} (hk : k < ls.length) (h : (Op.bytesLess (ls[k]'hk).ins ins || (ls[k]'hk).ins == ins) = false) : putK ls ins (k + 1) = putK ls ins k := by
  conv => lhs; unfold putK
  rw [List.getElem?_eq_getElem hk]
  exact if_neg (by rw [h]; decide)
end Go.Proofs.YthgpheopnhajaaaGreatDoor
