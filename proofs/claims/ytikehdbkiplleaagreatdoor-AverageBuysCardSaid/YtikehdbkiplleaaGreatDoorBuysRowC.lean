/- AverageBuys (P22.5): for all lots and every lot the law returns true, that is: the average after a purchase lies between the average before it and the price of the purchase, and it is the average of the lots with the new one (within the sizes that the law checks itself; beyond them it answers by its example); every argument reads afterwards as it did. Condition: the library's tables and sentinel errors hold what their initialisers lay (the card ties them). -/
import Derived.Test.YtikehdbkiplleaaGreatDoorZ5
import Derived.BigRegion
import Derived.Deep.RegionHeld3
import Derived.Deep.RegionLaw
import Derived.Deep.AppendLies
import Derived.Shelf.Spec.SlicesInsertGrow
import Derived.IntWalk
import Derived.Deep.CutRange
import Derived.Test.YtikehdbkiplleaaGreatDoorCards
import Derived.Test.YtikehdbkiplleaaGreatDoorTie
import Derived.Deep.DeepHandedRow
import Derived.ProofKit
/- Plain: what the law of the average cost of a quantity says. No program in sight. -/
namespace Go.Proofs.YtikehdbkiplleaaGreatDoor
open Go.RowKit

theorem take_none {ls : List LotV} {ins qty : Bs} (hv : checkAllL ls = 0) (hq : checkI qty = 0) (h : totQ ls ins = 0) : takeV ls ins qty = ([], [], 6) := by
  unfold takeV; rw [if_neg (by rw [avgE_ok hv (by simpa using hq)]; decide), if_pos h]
theorem take_low {ls : List LotV} {ins qty : Bs} (hv : checkAllL ls = 0) (hq : checkI qty = 0) (h : 0 < totQ ls ins) (h1 : valI qty ≤ 0) : takeV ls ins qty = ([], [], 2) := by
  unfold takeV; rw [if_neg (by rw [avgE_ok hv (by simpa using hq)]; decide), if_neg (by omega), if_pos h1]
theorem take_high {ls : List LotV} {ins qty : Bs} (hv : checkAllL ls = 0) (hq : checkI qty = 0) (h : 0 < totQ ls ins) (h1 : totQ ls ins < valI qty) : takeV ls ins qty = ([], [], 15) := by
  unfold takeV; rw [if_neg (by rw [avgE_ok hv (by simpa using hq)]; decide), if_neg (by omega), if_neg (by omega), if_pos h1]
theorem take_ok {ls : List LotV} {ins qty : Bs} (hv : checkAllL ls = 0) (hq : checkI qty = 0) (h : 0 < totQ ls ins) (h1 : ¬ valI qty ≤ 0) (h2 : ¬ totQ ls ins < valI qty) :
    takeV ls ins qty = (ofI (shareZ (totC ls ins) (valI qty) (totQ ls ins)), ofI (totC ls ins - shareZ (totC ls ins) (valI qty) (totQ ls ins)), 0) := by
  unfold takeV; rw [if_neg (by rw [avgE_ok hv (by simpa using hq)]; decide), if_neg (by omega), if_neg h1, if_neg h2]
theorem take_all {ls : List LotV} {ins : Bs} (hv : checkAllL ls = 0) (h : 0 < totQ ls ins) : takeV ls ins (ofI (totQ ls ins)) = (ofI (totC ls ins), [], 0) := by
  rw [take_ok hv (checkI_ofI _) h (by rw [valI_ofI]; omega) (by rw [valI_ofI]; omega), valI_ofI, shareZ_all _ _ (by omega), Int.sub_self, ofI_nil.2 rfl]
theorem priceV_ok {ls : List LotV} {ins : Bs} (hv : checkAllL ls = 0) (h : 0 < totQ ls ins) : priceV ls ins = (ofQ (Rat.divInt (totC ls ins) (totQ ls ins)), 0) := by
  unfold priceV; rw [if_neg (by rw [avgE_ok hv (by simp)]; decide), prV_ok h]
theorem priceV_no {ls : List LotV} {ins : Bs} (hv : checkAllL ls = 0) (h : totQ ls ins = 0) : priceV ls ins = (⟨[], []⟩, 6) := by
  unfold priceV prV; rw [if_neg (by rw [avgE_ok hv (by simp)]; decide), if_pos h]
theorem share_qbL {t p a : Bs} {L : Nat} (h0 : 0 < L) (lt : t.length ≤ L) (lp : p.length ≤ L) (la : a.length ≤ L) : QB (L + L + 1) ((roundQ (Rat.divInt (valI t * valI p) (valI a)) : Int) : Rat) :=
  qb_int (by omega) (roundQ_abs (qb_ratio h0 lt lp la))
theorem share_qb {w : World} {A : Option Addr} {ls : List LotV} (h : LotsAt w A ls) (ins qty : Bs) (hq : qty.length ≤ 2000) : QB 4001 ((shareZ (totC ls ins) (valI qty) (totQ ls ins) : Int) : Rat) := by
  have h1 := share_qbL (t := ofI (totC ls ins)) (p := qty) (a := ofI (totQ ls ins)) (L := 2000) (by omega) (totC_le h ins) hq (totQ_le h ins)
  rw [valI_ofI, valI_ofI] at h1
  exact h1.mono (by omega)
theorem share_len {w : World} {A : Option Addr} {ls : List LotV} (h : LotsAt w A ls) (ins qty : Bs) (hq : qty.length ≤ 2000) : (ofI (shareZ (totC ls ins) (valI qty) (totQ ls ins))).length ≤ 4002 := by
  have h1 := qb_ratio (t := ofI (totC ls ins)) (p := qty) (a := ofI (totQ ls ins)) (L := 2000) (by omega) (totC_le h ins) hq (totQ_le h ins)
  rw [valI_ofI, valI_ofI] at h1
  exact round_len h1
theorem avg_qb {w : World} {A : Option Addr} {ls : List LotV} (h : LotsAt w A ls) (ins : Bs) : QB 2000 (Rat.divInt (totC ls ins) (totQ ls ins)) := by
  rw [← valI_ofI (totC ls ins), ← valI_ofI (totQ ls ins)]
  exact qb_two (totC_le h ins) (totQ_le h ins) (by omega)
theorem half_frQ : frQ ⟨[49], [50]⟩ = 1 / 2 := by
  unfold frQ frN frD
  rw [show valI [49] = 1 by decide, show valI [50] = 2 by decide, if_neg (by decide), Rat.divInt_eq_div]
  simp
end Go.Proofs.YtikehdbkiplleaaGreatDoor
/- The library's slices.Reverse at lots. -/
namespace Go.Proofs.YtikehdbkiplleaaGreatDoor
open Go.RowKit
attribute [local go_sem] size_bs toList_bs

/-- the first k and the last k places exchanged -/
def revK (ls : List LotV) (k : Nat) : List LotV := List.ofFn (fun m : Fin ls.length => if m.val < k ∨ ls.length - k ≤ m.val then ls[ls.length - 1 - m.val]'(by have := m.isLt; omega) else ls[m.val])
theorem revK_len (ls : List LotV) (k : Nat) : (revK ls k).length = ls.length := by simp [revK]
theorem revK_at (ls : List LotV) (k m : Nat) (h : m < ls.length) (h' : m < (revK ls k).length) : (revK ls k)[m]'h' = if m < k ∨ ls.length - k ≤ m then ls[ls.length - 1 - m]'(by omega) else ls[m] := by
  simp [revK]
theorem revK_zero (ls : List LotV) : revK ls 0 = ls := by
  apply List.ext_getElem (revK_len _ _)
  intro m h1 h2
  rw [revK_at ls 0 m h2 h1, if_neg (by omega)]
theorem revK_full (ls : List LotV) (k : Nat) (h : ls.length ≤ 2 * k + 1) : revK ls k = ls.reverse := by
  apply List.ext_getElem (by rw [revK_len]; simp)
  intro m h1 h2
  rw [revK_len] at h1
  rw [revK_at ls k m h1, List.getElem_reverse]
  split
  · rfl
  · congr 1; omega
theorem revK_step (ls : List LotV) (k : Nat) (h : 2 * k + 1 < ls.length) :
    ((revK ls k).set k (ls[ls.length - 1 - k]'(by omega))).set (ls.length - 1 - k) (ls[k]'(by omega)) = revK ls (k + 1) := by
  apply List.ext_getElem (by simp [revK_len])
  intro m h1 h2
  rw [revK_len] at h2
  rw [revK_at ls (k + 1) m h2, List.getElem_set, List.getElem_set]
  split
  · rename_i e
    rw [if_pos (by omega)]
    congr 1; omega
  · split
    · rename_i e1 e2
      rw [if_pos (by omega)]
      congr 1; omega
    · rename_i e1 e2
      rw [revK_at ls k m h2]
      by_cases hc : m < k ∨ ls.length - k ≤ m
      · rw [if_pos hc, if_pos (by omega)]
      · rw [if_neg hc, if_neg (by omega)]
theorem lots_set (ls : List LotV) (k : Nat) (x : LotV) (h : k < ls.length) : lots (ls.set k x) = lsplice (lots ls) (k * 7) (lotCells x) := by
  induction ls generalizing k with
  | nil => simp at h
  | cons z r ih =>
    cases k with
    | zero =>
      simp only [lots, List.set_cons_zero, List.flatMap_cons, lsplice, Nat.zero_mul, List.take_zero, List.nil_append, Nat.zero_add]
      rw [lotCells_len, ← lotCells_len z, List.drop_left]
    | succ k =>
      have := ih k (by simpa using h)
      simp only [lots, List.set_cons_succ, List.flatMap_cons, lsplice] at this ⊢
      rw [this, show (k + 1) * 7 = (lotCells z).length + k * 7 by rw [lotCells_len]; omega, List.take_length_add_append, Nat.add_assoc, List.drop_length_add_append]
      simp only [List.append_assoc]
theorem lsplice_take {cur xs : List Value} {n o : Nat} (vs : List Value) (h : cur.take n = xs) (ho : o + vs.length ≤ n) (hn : n ≤ cur.length) : (lsplice cur o vs).take n = lsplice xs o vs := by
  subst h
  unfold lsplice
  have h1 : (cur.take n).take o = cur.take o := by rw [List.take_take, Nat.min_eq_left (by omega)]
  have h2 : (cur.take o).length = o := by rw [List.length_take]; omega
  rw [h1, List.take_append, List.take_of_length_le (by rw [List.length_append, h2]; omega), List.length_append, h2, List.drop_take, show n - (o + vs.length) = n - (o + vs.length) from rfl]
theorem RowL.drew {w : World} {g cap : Nat} {ls : List LotV} (h : RowL w g cap ls) : RowL w.drew g cap ls := by
  obtain ⟨cur, h⟩ := h
  exact ⟨cur, h.drew⟩
theorem RowL.setl {w : World} {g cap : Nat} {ls : List LotV} (h : RowL w g cap ls) {k : Nat} (hk : k < ls.length) (x : LotV) : RowL (w.setCells g (k * 7) (lotCells x)) g cap (ls.set k x) := by
  obtain ⟨cur, h⟩ := h
  have hle : k * 7 + (lotCells x).length ≤ ls.length * 7 := by rw [lotCells_len]; omega
  have hc : ls.length * 7 ≤ cap * 7 := Nat.mul_le_mul_right _ h.le
  refine ⟨_, h.put (lotCells x) (k * 7) (by omega) (n' := (ls.set k x).length) (xs' := lots (ls.set k x)) (by rw [List.length_set]; exact h.le) (lots_len _) ?_⟩
  rw [List.length_set, lots_set ls k x hk]
  exact lsplice_take _ h.take hle (by rw [h.full]; exact hc)
set_option maxRecDepth 100000 in
set_option maxHeartbeats 4000000 in
theorem reverseL (ls : List LotV) (g cap : Nat) (w : World) (hr : RowL w g cap ls) (hn : ls.length ≤ 1000000) :
    Calls Tryz.prog 40 #[.slice (some ⟨g, 0, none⟩) ls.length cap] w fun e w' => e = .returned (.tuple #[]) ∧ RowL w' g cap ls.reverse ∧ Only g w w' := by
  have HR0 := Lib.hid hr
  clear hr
  go_enter Tryz.func40, Tryz.ntmps40
  go_wp2_with fail
  go_loopw [2, 3] (fun i j wr => ∃ k : Nat, k ≤ ls.length ∧ i = .int .i64 k ∧ j = .int .i64 ((ls.length : Int) - 1 - k) ∧ RowL wr g cap (revK ls k) ∧ Only g w wr) (fun i _ _ => ls.length - (intOf i).toNat)
  case atStart => exact ⟨0, by omega, rfl, by go_num, by rw [revK_zero]; exact HR0.out, Only.refl _ _⟩
  case round =>
    clear HR0
    obtain ⟨k, hk, rfl, rfl, hr, ho⟩ := hrel
    have HR := Lib.hid hr
    have HO := Lib.hid ho
    clear hr ho
    by_cases hlt : 2 * k + 1 < ls.length
    · have hkl : k < (revK ls k).length := by rw [revK_len]; omega
      have hjl : ls.length - 1 - k < (revK ls k).length := by rw [revK_len]; omega
      obtain ⟨b, o, e1, _, c0, c1, c2, c3, c4, c5, c6⟩ := HR.out.reads.at_ hkl
      simp only [Option.some.injEq, Addr.mk.injEq, and_true] at e1
      obtain ⟨rfl, rfl⟩ := e1
      obtain ⟨b, o, e1, _, d0, d1, d2, d3, d4, d5, d6⟩ := HR.out.reads.at_ hjl
      simp only [Option.some.injEq, Addr.mk.injEq, and_true] at e1
      obtain ⟨rfl, rfl⟩ := e1
      simp only [Nat.zero_add] at c0 c1 c2 c3 c4 c5 c6 d0 d1 d2 d3 d4 d5 d6
      obtain ⟨j, hj⟩ : ∃ j, ls.length - 1 - k = j := ⟨_, rfl⟩
      have hji : (ls.length : Int) - 1 - (k : Int) = (j : Int) := by omega
      have hst := revK_step ls k hlt
      simp only [hj] at d0 d1 d2 d3 d4 d5 d6 hjl hst
      rw [hji]
      have hlt' : (k : Int) < (j : Int) := by omega
      have hjn : (j : Int) < (ls.length : Int) := by omega
      have hkn : (k : Int) < (ls.length : Int) := by omega
      have hk0 : (0 : Int) ≤ (k : Int) := by omega
      have hj0 : (0 : Int) ≤ (j : Int) := by omega
      have hfr := fun m => HR.out.frozen m
      have hS := Lib.hid hst
      generalize hxk : (revK ls k)[k] = x at *
      generalize hxj : (revK ls k)[j] = y at *
      obtain ⟨x0, x1, x2, x3, x4, x5, x6⟩ := x
      obtain ⟨y0, y1, y2, y3, y4, y5, y6⟩ := y
      simp only at c0 c1 c2 c3 c4 c5 c6 d0 d1 d2 d3 d4 d5 d6
      clear hst
      go_wp2_with fail
      go_region
      have HRN := (HR.out.setl hkl ⟨y0, y1, y2, y3, y4, y5, y6⟩).setl (k := j) (by rw [List.length_set]; exact hjl) ⟨x0, x1, x2, x3, x4, x5, x6⟩
      have HON := Only.sets (lotCells ⟨x0, x1, x2, x3, x4, x5, x6⟩) (j * 7) _ _ (Only.sets (lotCells ⟨y0, y1, y2, y3, y4, y5, y6⟩) (k * 7) _ _ HO.out)
      have hxy : (⟨y0, y1, y2, y3, y4, y5, y6⟩ : LotV) = ls[j]'(by omega) ∧ (⟨x0, x1, x2, x3, x4, x5, x6⟩ : LotV) = ls[k]'(by omega) := by
        rw [← hxk, ← hxj, revK_at ls k j (by omega), revK_at ls k k (by omega), if_neg (by omega), if_neg (by omega)]
        exact ⟨rfl, rfl⟩
      have hS2 := hS.out
      rw [← hxy.1, ← hxy.2] at hS2
      rw [hS2] at HRN
      have HRN' := Lib.hid HRN.drew
      have HON' := Lib.hid HON.drew
      clear HR HO HRN HON c0 c1 c2 c3 c4 c5 c6 d0 d1 d2 d3 d4 d5 d6 hfr
      go_wp2_with fail
      refine ⟨⟨k + 1, by omega, congrArg (Value.int .i64) (by omega), congrArg (Value.int .i64) (by omega), HRN'.out, HON'.out⟩, ?_⟩
      have e1 : (intOf (.int .i64 ((k : Int) + 1))).toNat = k + 1 := by show ((k : Int) + 1).toNat = _; omega
      have e2 : (intOf (.int .i64 (k : Int))).toNat = k := by show ((k : Int)).toNat = _; omega
      rw [e1, e2]
      omega
    · have hf : ls.length ≤ 2 * k + 1 := by omega
      have hcmp : ¬ ((k : Int) < (ls.length : Int) - 1 - (k : Int)) := by omega
      go_wp2_with fail
      go_end0
      exact ⟨rfl, by rw [← revK_full ls k hf]; exact HR.out, HO.out⟩
end Go.Proofs.YtikehdbkiplleaaGreatDoor
/- The walk over the program's Cut of a lot. -/
namespace Go.Proofs.YtikehdbkiplleaaGreatDoor
open Go.RowKit Go.Shelf
attribute [local go_sem] size_bs toList_bs

abbrev LT : TypeId := 50
def lot0 : LotV := ⟨[], [], 0, 0, [], [], []⟩
def cutA (x : LotV) (q : Bs) : LotV := { x with q := q, c := ofI (shareZ (valI x.c) (valI q) (valI x.q)), u := if x.u = [] then [] else q }
def cutB (x : LotV) (q : Bs) : LotV := { x with q := ofI (valI x.q - valI q), c := ofI (valI x.c - shareZ (valI x.c) (valI q) (valI x.q)), u := if x.u = [] then [] else ofI (valI x.q - valI q) }
def cutV (x : LotV) (q : Bs) : LotV × LotV × Int :=
  if checkL x ≠ 0 ∨ checkI q ≠ 0 then (lot0, lot0, 1) else if valI q ≤ 0 ∨ valI x.q ≤ valI q then (lot0, lot0, 2) else (cutA x q, cutB x q, 0)
theorem lsplice_all (vs cs : List Value) (h : cs.length = vs.length) : lsplice cs 0 vs = vs := by
  unfold lsplice
  rw [List.take_zero, List.nil_append, List.drop_of_length_le (by omega), List.append_nil]
theorem lc_list (x : LotV) : lc x = (lotCells x).toArray := rfl
/-- a lot stored over a block of its own -/
theorem lot_over {w : World} {g : Nat} {x : LotV} (h : Blk w g 50 (lc x)) (y : LotV) : Blk (w.setCells g 0 (lotCells y)) g 50 (lc y) := by
  have := Blk.sets (lotCells y) 0 w (lotCells x) h (by rw [lotCells_len, lotCells_len]; omega)
  rw [lsplice_all _ _ (by rw [lotCells_len, lotCells_len])] at this
  exact this
theorem results_lot2 {fn : Func} {a b c : Tmp} (h : fn.results = #[.cell a 50, .cell b 50, .tmp c]) (tmps : Array Value) (w : World) (g k : Nat) (x y : LotV) (z : Value) (ha : tmps.getD a undef = .pointer (some ⟨g, 0, none⟩)) (hb : tmps.getD b undef = .pointer (some ⟨k, 0, none⟩)) (hz : tmps.getD c undef = z) (hx : Blk w g 50 (lc x)) (hy : Blk w k 50 (lc y)) :
    (results fn tmps).run Tryz.prog w = .ok (.tuple #[lv x, lv y, z]) w := by
  obtain ⟨p0, p1, p2, p3, p4, p5, p6⟩ := lotBlk hx (Ext.refl _)
  obtain ⟨q0, q1, q2, q3, q4, q5, q6⟩ := lotBlk hy (Ext.refl _)
  unfold results
  rw [h]
  simp only [List.mapM_toArray, List.mapM_cons, List.mapM_nil, ha, hb, hz]
  go_simp
/-- the three blocks of Cut -/
structure CutAt (W0 W : World) (g : Nat) (x : LotV) : Prop where
  bx : Blk W g 50 (lc x)
  ba : Blk W (g + 1) 50 (lc lot0)
  bb : Blk W (g + 2) 50 (lc lot0)
  le : W0.heap.size ≤ g
  ext : Ext W0 W
theorem CutAt.on {W0 W W' : World} {g : Nat} {x : LotV} (h : CutAt W0 W g x) (hx : Ext W W') : CutAt W0 W' g x := ⟨h.bx.ext hx, h.ba.ext hx, h.bb.ext hx, h.le, h.ext.trans hx⟩
theorem cutAt_new (w : World) (x : LotV) : CutAt w (((w.alloc (.cells (lc x) 50)).alloc (.cells (lc lot0) 50)).alloc (.cells (lc lot0) 50)) w.heap.size x := by
  have e1 : (w.alloc (.cells (lc x) 50)).heap.size = w.heap.size + 1 := Array.size_push ..
  have e2 : ((w.alloc (.cells (lc x) 50)).alloc (.cells (lc lot0) 50)).heap.size = w.heap.size + 2 := (Array.size_push ..).trans (congrArg (· + 1) e1)
  refine ⟨((Blk.new _ _ _).ext (Ext.new _ _)).ext (Ext.new _ _), ?_, ?_, Nat.le_refl _, ((Ext.new _ _).trans (Ext.new _ _)).trans (Ext.new _ _)⟩
  · have := (Blk.new (w.alloc (.cells (lc x) 50)) 50 (lc lot0)).ext (Ext.new _ (.cells (lc lot0) 50))
    rwa [e1] at this
  · have := Blk.new ((w.alloc (.cells (lc x) 50)).alloc (.cells (lc lot0) 50)) 50 (lc lot0)
    rwa [e2] at this
def StartAt (w : World) (x : LotV) (p2 p4 p5 : Value) (wx : World) : Prop := ∃ g, p2 = .pointer (some ⟨g, 0, none⟩) ∧ p4 = .pointer (some ⟨g + 1, 0, none⟩) ∧ p5 = .pointer (some ⟨g + 2, 0, none⟩) ∧ CutAt w wx g x
def PairAt (W : World) (x : LotV) (p7 p8 : Value) (wx : World) : Prop := ∃ P R, p7 = .pointer (some ⟨P, 0, none⟩) ∧ p8 = .pointer (some ⟨R, 0, none⟩) ∧ P ≠ R ∧ W.heap.size ≤ P ∧ W.heap.size ≤ R ∧ Blk wx P 50 (lc x) ∧ Blk wx R 50 (lc x) ∧ Ext W wx
/-- the two halves beside them -/
structure HalvesAt (W0 W : World) (g P R : Nat) (x a b : LotV) : Prop where
  cut : CutAt W0 W g x
  ne : P ≠ R
  lp : g + 3 ≤ P
  lr : g + 3 ≤ R
  bp : Blk W P 50 (lc a)
  br : Blk W R 50 (lc b)
section
variable {W0 W W' : World} {g P R : Nat} {x a b : LotV}
theorem HalvesAt.on (h : HalvesAt W0 W g P R x a b) (hx : Ext W W') : HalvesAt W0 W' g P R x a b := ⟨h.cut.on hx, h.ne, h.lp, h.lr, h.bp.ext hx, h.br.ext hx⟩
theorem HalvesAt.store (h : HalvesAt W0 W g P R x a b) (n : Nat) (u v : Value) {a' b' : LotV} (ha : (lc a).setIfInBounds n u = lc a') (hb : (lc b).setIfInBounds n v = lc b') : HalvesAt W0 ((W.setCell ⟨P, n, none⟩ u).setCell ⟨R, n, none⟩ v) g P R x a' b' := by
  have h1 := h.lp
  have h2 := h.lr
  have h3 := h.ne
  have h4 := h.cut.le
  refine ⟨⟨(h.cut.bx.far (p := ⟨P, n, none⟩) (by show g ≠ P; omega) u).far (p := ⟨R, n, none⟩) (by show g ≠ R; omega) v, (h.cut.ba.far (p := ⟨P, n, none⟩) (by show g + 1 ≠ P; omega) u).far (p := ⟨R, n, none⟩) (by show g + 1 ≠ R; omega) v, (h.cut.bb.far (p := ⟨P, n, none⟩) (by show g + 2 ≠ P; omega) u).far (p := ⟨R, n, none⟩) (by show g + 2 ≠ R; omega) v, h.cut.le, (h.cut.ext.setCell (p := ⟨P, n, none⟩) (by show W0.heap.size ≤ P; omega) u).setCell (p := ⟨R, n, none⟩) (by show W0.heap.size ≤ R; omega) v⟩, h3, h1, h2, ?_, ?_⟩
  · have := (h.bp.set_ n u).far (p := ⟨R, n, none⟩) h3 v
    rwa [ha] at this
  · have := (h.br.far (p := ⟨P, n, none⟩) (Ne.symm h3) u).set_ n v
    rwa [hb] at this
theorem halves_drew (h : HalvesAt W0 W g P R x a b) : HalvesAt W0 W.drew g P R x a b := h.on (Ext.refl _).drew
end
set_option maxRecDepth 100000 in
set_option maxHeartbeats 4000000 in
theorem lotCut (x : LotV) (q : Bs) (hs : SmallL x) (hq : q.length ≤ 5000) : Pure 41 #[lv x, .string (bs q)] (.tuple #[lv (cutV x q).1, lv (cutV x q).2.1, .int .i64 (cutV x q).2.2]) := by
  intro w hE
  have s3 := hs.2.2.1
  have s4 := hs.2.2.2.1
  have HE := Lib.hid hE
  have HN := Lib.hid (cutAt_new w x)
  have HX : Hid (Ext w w) := Lib.hid (Ext.refl w)
  have KL := Lib.hid (lotCheck x hs)
  have KQ := Lib.hid (checkP q (by omega))
  have C0 := Lib.hid (cmp0P q (by omega))
  have C1 := Lib.hid (cmpP q x.q (by omega) (by omega))
  have S1 := Lib.hid (subP x.q q (by omega) (by omega))
  by_cases h1 : checkL x = 0
  rotate_left
  · have he : cutV x q = (lot0, lot0, 1) := by unfold cutV; rw [if_pos (.inl h1)]
    rw [he]
    have g1 : (checkL x != 0) = true := by rw [bne_iff_ne]; exact h1
    generalize checkL x = ck at *
    go_enter Tryz.func41, Tryz.ntmps41
    go_upto_region 0 with fail
    go_cut [2, 4, 5] (fun p2 p4 p5 wx => StartAt w x p2 p4 p5 wx)
    case first =>
      go_wp2_with fail
      go_meet
      exact ⟨_, rfl, rfl, rfl, HN.out⟩
    obtain ⟨g, rfl, rfl, rfl, hcu⟩ := hcut
    replace HN := Lib.hid hcu
    replace HX := Lib.hid hcu.ext
    clear hcu
    obtain ⟨p0, p1, p2, p3, p4, p5, p6⟩ := lotBlk HN.out.bx (Ext.refl _)
    go_wp2_with fail
    refine (KL.out _ (HE.out.ext HX.out)).mono ?_
    rintro e wv ⟨rfl, hx1⟩
    replace HN := Lib.hid (HN.out.on hx1)
    replace HX := Lib.hid (HX.out.trans hx1)
    clear hx1
    obtain ⟨p0, p1, p2, p3, p4, p5, p6⟩ := lotBlk HN.out.bx (Ext.refl _)
    obtain ⟨a0, a1, a2, a3, a4, a5, a6⟩ := lotBlk HN.out.ba (Ext.refl _)
    obtain ⟨b0, b1, b2, b3, b4, b5, b6⟩ := lotBlk HN.out.bb (Ext.refl _)
    have fa := fun k => HN.out.ba.frozen k
    have fb := fun k => HN.out.bb.frozen k
    go_wp2_with fail
    refine bodyPost_ret (results_lot2 rfl _ _ (g + 1) (g + 2) (lot0) (lot0) (.int .i64 1) rfl rfl rfl (Blk.sets_far (lot_over HN.out.ba (lot0)) (by omega) (lotCells (lot0)) 0) (lot_over (Blk.sets_far HN.out.bb (by omega) (lotCells (lot0)) 0) (lot0))) rfl ?_
    exact ⟨rfl, ext_sets (lotCells (lot0)) 0 _ () (ext_sets (lotCells (lot0)) 0 _ () HX.out (by have := HN.out.le; omega)) (by have := HN.out.le; omega)⟩
  rw [h1] at KL
  by_cases h2 : checkI q = 0
  rotate_left
  · have he : cutV x q = (lot0, lot0, 1) := by unfold cutV; rw [if_pos (.inr h2)]
    rw [he]
    have g1 : (checkI q != 0) = true := by rw [bne_iff_ne]; exact h2
    generalize checkI q = ck at *
    go_enter Tryz.func41, Tryz.ntmps41
    go_upto_region 0 with fail
    go_cut [2, 4, 5] (fun p2 p4 p5 wx => StartAt w x p2 p4 p5 wx)
    case first =>
      go_wp2_with fail
      go_meet
      exact ⟨_, rfl, rfl, rfl, HN.out⟩
    obtain ⟨g, rfl, rfl, rfl, hcu⟩ := hcut
    replace HN := Lib.hid hcu
    replace HX := Lib.hid hcu.ext
    clear hcu
    obtain ⟨p0, p1, p2, p3, p4, p5, p6⟩ := lotBlk HN.out.bx (Ext.refl _)
    go_wp2_with fail
    refine (KL.out _ (HE.out.ext HX.out)).mono ?_
    rintro e wv ⟨rfl, hx1⟩
    replace HN := Lib.hid (HN.out.on hx1)
    replace HX := Lib.hid (HX.out.trans hx1)
    clear hx1
    obtain ⟨p0, p1, p2, p3, p4, p5, p6⟩ := lotBlk HN.out.bx (Ext.refl _)
    go_wp2_with fail
    refine (KQ.out _ (HE.out.ext HX.out)).mono ?_
    rintro e wv ⟨rfl, hx1⟩
    replace HN := Lib.hid (HN.out.on hx1)
    replace HX := Lib.hid (HX.out.trans hx1)
    clear hx1
    obtain ⟨p0, p1, p2, p3, p4, p5, p6⟩ := lotBlk HN.out.bx (Ext.refl _)
    obtain ⟨a0, a1, a2, a3, a4, a5, a6⟩ := lotBlk HN.out.ba (Ext.refl _)
    obtain ⟨b0, b1, b2, b3, b4, b5, b6⟩ := lotBlk HN.out.bb (Ext.refl _)
    have fa := fun k => HN.out.ba.frozen k
    have fb := fun k => HN.out.bb.frozen k
    go_wp2_with fail
    refine bodyPost_ret (results_lot2 rfl _ _ (g + 1) (g + 2) (lot0) (lot0) (.int .i64 1) rfl rfl rfl (Blk.sets_far (lot_over HN.out.ba (lot0)) (by omega) (lotCells (lot0)) 0) (lot_over (Blk.sets_far HN.out.bb (by omega) (lotCells (lot0)) 0) (lot0))) rfl ?_
    exact ⟨rfl, ext_sets (lotCells (lot0)) 0 _ () (ext_sets (lotCells (lot0)) 0 _ () HX.out (by have := HN.out.le; omega)) (by have := HN.out.le; omega)⟩
  rw [h2] at KQ
  by_cases h3 : valI q ≤ 0
  · have he : cutV x q = (lot0, lot0, 2) := by unfold cutV; rw [if_neg (by omega), if_pos (.inl h3)]
    rw [he]
    have g2 : decide (cmpI (valI q) 0 ≤ 0) = true := by rw [decide_eq_true_iff]; have := cmpI_pos (x := valI q) (y := 0); omega
    clear he h1 h2 h3 s3 s4 hs hq
    generalize cmpI (valI q) 0 = k1 at *
    go_enter Tryz.func41, Tryz.ntmps41
    go_upto_region 0 with fail
    go_cut [2, 4, 5] (fun p2 p4 p5 wx => StartAt w x p2 p4 p5 wx)
    case first =>
      go_wp2_with fail
      go_meet
      exact ⟨_, rfl, rfl, rfl, HN.out⟩
    obtain ⟨g, rfl, rfl, rfl, hcu⟩ := hcut
    replace HN := Lib.hid hcu
    replace HX := Lib.hid hcu.ext
    clear hcu
    obtain ⟨p0, p1, p2, p3, p4, p5, p6⟩ := lotBlk HN.out.bx (Ext.refl _)
    go_wp2_with fail
    refine (KL.out _ (HE.out.ext HX.out)).mono ?_
    rintro e wv ⟨rfl, hx1⟩
    replace HN := Lib.hid (HN.out.on hx1)
    replace HX := Lib.hid (HX.out.trans hx1)
    clear hx1
    obtain ⟨p0, p1, p2, p3, p4, p5, p6⟩ := lotBlk HN.out.bx (Ext.refl _)
    go_wp2_with fail
    refine (KQ.out _ (HE.out.ext HX.out)).mono ?_
    rintro e wv ⟨rfl, hx1⟩
    replace HN := Lib.hid (HN.out.on hx1)
    replace HX := Lib.hid (HX.out.trans hx1)
    clear hx1
    obtain ⟨p0, p1, p2, p3, p4, p5, p6⟩ := lotBlk HN.out.bx (Ext.refl _)
    go_wp2_with fail
    refine (C0.out _ (HE.out.ext HX.out)).mono ?_
    rintro e wv ⟨rfl, hx1⟩
    replace HN := Lib.hid (HN.out.on hx1)
    replace HX := Lib.hid (HX.out.trans hx1)
    clear hx1
    obtain ⟨p0, p1, p2, p3, p4, p5, p6⟩ := lotBlk HN.out.bx (Ext.refl _)
    obtain ⟨a0, a1, a2, a3, a4, a5, a6⟩ := lotBlk HN.out.ba (Ext.refl _)
    obtain ⟨b0, b1, b2, b3, b4, b5, b6⟩ := lotBlk HN.out.bb (Ext.refl _)
    have fa := fun k => HN.out.ba.frozen k
    have fb := fun k => HN.out.bb.frozen k
    go_wp2_with fail
    refine bodyPost_ret (results_lot2 rfl _ _ (g + 1) (g + 2) (lot0) (lot0) (.int .i64 2) rfl rfl rfl (Blk.sets_far (lot_over HN.out.ba (lot0)) (by omega) (lotCells (lot0)) 0) (lot_over (Blk.sets_far HN.out.bb (by omega) (lotCells (lot0)) 0) (lot0))) rfl ?_
    exact ⟨rfl, ext_sets (lotCells (lot0)) 0 _ () (ext_sets (lotCells (lot0)) 0 _ () HX.out (by have := HN.out.le; omega)) (by have := HN.out.le; omega)⟩
  have g2 : decide (cmpI (valI q) 0 ≤ 0) = false := by rw [decide_eq_false_iff_not]; have := cmpI_pos (x := valI q) (y := 0); omega
  by_cases h4 : valI x.q ≤ valI q
  · have he : cutV x q = (lot0, lot0, 2) := by unfold cutV; rw [if_neg (by omega), if_pos (.inr h4)]
    rw [he]
    have g3 : decide (0 ≤ cmpI (valI q) (valI x.q)) = true := by rw [decide_eq_true_iff]; have := cmpI_neg (x := valI q) (y := valI x.q); omega
    clear he h1 h2 h3 h4 s3 s4 hs hq
    generalize cmpI (valI q) 0 = k1 at *
    generalize cmpI (valI q) (valI x.q) = k2 at *
    go_enter Tryz.func41, Tryz.ntmps41
    go_upto_region 0 with fail
    go_cut [2, 4, 5] (fun p2 p4 p5 wx => StartAt w x p2 p4 p5 wx)
    case first =>
      go_wp2_with fail
      go_meet
      exact ⟨_, rfl, rfl, rfl, HN.out⟩
    obtain ⟨g, rfl, rfl, rfl, hcu⟩ := hcut
    replace HN := Lib.hid hcu
    replace HX := Lib.hid hcu.ext
    clear hcu
    obtain ⟨p0, p1, p2, p3, p4, p5, p6⟩ := lotBlk HN.out.bx (Ext.refl _)
    go_wp2_with fail
    refine (KL.out _ (HE.out.ext HX.out)).mono ?_
    rintro e wv ⟨rfl, hx1⟩
    replace HN := Lib.hid (HN.out.on hx1)
    replace HX := Lib.hid (HX.out.trans hx1)
    clear hx1
    obtain ⟨p0, p1, p2, p3, p4, p5, p6⟩ := lotBlk HN.out.bx (Ext.refl _)
    go_wp2_with fail
    refine (KQ.out _ (HE.out.ext HX.out)).mono ?_
    rintro e wv ⟨rfl, hx1⟩
    replace HN := Lib.hid (HN.out.on hx1)
    replace HX := Lib.hid (HX.out.trans hx1)
    clear hx1
    obtain ⟨p0, p1, p2, p3, p4, p5, p6⟩ := lotBlk HN.out.bx (Ext.refl _)
    go_wp2_with fail
    refine (C0.out _ (HE.out.ext HX.out)).mono ?_
    rintro e wv ⟨rfl, hx1⟩
    replace HN := Lib.hid (HN.out.on hx1)
    replace HX := Lib.hid (HX.out.trans hx1)
    clear hx1
    obtain ⟨p0, p1, p2, p3, p4, p5, p6⟩ := lotBlk HN.out.bx (Ext.refl _)
    go_wp2_with fail
    refine (C1.out _ (HE.out.ext HX.out)).mono ?_
    rintro e wv ⟨rfl, hx1⟩
    replace HN := Lib.hid (HN.out.on hx1)
    replace HX := Lib.hid (HX.out.trans hx1)
    clear hx1
    obtain ⟨p0, p1, p2, p3, p4, p5, p6⟩ := lotBlk HN.out.bx (Ext.refl _)
    obtain ⟨a0, a1, a2, a3, a4, a5, a6⟩ := lotBlk HN.out.ba (Ext.refl _)
    obtain ⟨b0, b1, b2, b3, b4, b5, b6⟩ := lotBlk HN.out.bb (Ext.refl _)
    have fa := fun k => HN.out.ba.frozen k
    have fb := fun k => HN.out.bb.frozen k
    go_wp2_with fail
    refine bodyPost_ret (results_lot2 rfl _ _ (g + 1) (g + 2) (lot0) (lot0) (.int .i64 2) rfl rfl rfl (Blk.sets_far (lot_over HN.out.ba (lot0)) (by omega) (lotCells (lot0)) 0) (lot_over (Blk.sets_far HN.out.bb (by omega) (lotCells (lot0)) 0) (lot0))) rfl ?_
    exact ⟨rfl, ext_sets (lotCells (lot0)) 0 _ () (ext_sets (lotCells (lot0)) 0 _ () HX.out (by have := HN.out.le; omega)) (by have := HN.out.le; omega)⟩
  have g3 : decide (0 ≤ cmpI (valI q) (valI x.q)) = false := by rw [decide_eq_false_iff_not]; have := cmpI_neg (x := valI q) (y := valI x.q); omega
  have he : cutV x q = (cutA x q, cutB x q, 0) := by unfold cutV; rw [if_neg (by omega), if_neg (by omega)]
  rw [he]
  obtain ⟨o1, o2, o3, o4, o5⟩ := checkL_ok h1
  have SH := Lib.hid (allShare x.c q x.q (by omega) (by omega) (by omega) o2 h2 o1 o3 (by omega) (by omega))
  have hA : cutA x q = { x with q := q, c := ofI (shareZ (valI x.c) (valI q) (valI x.q)), u := if x.u = [] then [] else q } := rfl
  have hB : cutB x q = { x with q := ofI (valI x.q - valI q), c := ofI (valI x.c - shareZ (valI x.c) (valI q) (valI x.q)), u := if x.u = [] then [] else ofI (valI x.q - valI q) } := rfl
  rw [hA, hB]
  have HU1 : Hid (x.u = [] → [] = (if x.u = [] then [] else q) ∧ [] = (if x.u = [] then [] else ofI (valI x.q - valI q))) := Lib.hid (fun h => by rw [if_pos h, if_pos h]; exact ⟨rfl, rfl⟩)
  have HU2 : Hid (x.u ≠ [] → q = (if x.u = [] then [] else q) ∧ ofI (valI x.q - valI q) = (if x.u = [] then [] else ofI (valI x.q - valI q))) := Lib.hid (fun h => by rw [if_neg h, if_neg h]; exact ⟨rfl, rfl⟩)
  generalize (if x.u = [] then [] else q) = ua at *
  generalize (if x.u = [] then [] else ofI (valI x.q - valI q)) = ub at *
  clear hA hB he h1 h2 h3 h4 s3 s4 hs hq o1 o2 o3 o4 o5
  generalize ofI (valI x.c - shareZ (valI x.c) (valI q) (valI x.q)) = cb at *
  generalize ofI (shareZ (valI x.c) (valI q) (valI x.q)) = ca at *
  generalize ofI (valI x.q - valI q) = qb at *
  generalize cmpI (valI q) 0 = k1 at *
  generalize cmpI (valI q) (valI x.q) = k2 at *
  go_enter Tryz.func41, Tryz.ntmps41
  go_upto_region 0 with fail
  go_cut [2, 4, 5] (fun p2 p4 p5 wx => StartAt w x p2 p4 p5 wx)
  case first =>
    go_wp2_with fail
    go_meet
    exact ⟨_, rfl, rfl, rfl, HN.out⟩
  obtain ⟨g, rfl, rfl, rfl, hcu⟩ := hcut
  replace HN := Lib.hid hcu
  replace HX := Lib.hid hcu.ext
  clear hcu
  obtain ⟨p0, p1, p2, p3, p4, p5, p6⟩ := lotBlk HN.out.bx (Ext.refl _)
  go_wp2_with fail
  refine (KL.out _ (HE.out.ext HX.out)).mono ?_
  rintro e wv ⟨rfl, hx1⟩
  replace HN := Lib.hid (HN.out.on hx1)
  replace HX := Lib.hid (HX.out.trans hx1)
  clear hx1
  obtain ⟨p0, p1, p2, p3, p4, p5, p6⟩ := lotBlk HN.out.bx (Ext.refl _)
  go_wp2_with fail
  refine (KQ.out _ (HE.out.ext HX.out)).mono ?_
  rintro e wv ⟨rfl, hx1⟩
  replace HN := Lib.hid (HN.out.on hx1)
  replace HX := Lib.hid (HX.out.trans hx1)
  clear hx1
  obtain ⟨p0, p1, p2, p3, p4, p5, p6⟩ := lotBlk HN.out.bx (Ext.refl _)
  go_wp2_with fail
  refine (C0.out _ (HE.out.ext HX.out)).mono ?_
  rintro e wv ⟨rfl, hx1⟩
  replace HN := Lib.hid (HN.out.on hx1)
  replace HX := Lib.hid (HX.out.trans hx1)
  clear hx1
  obtain ⟨p0, p1, p2, p3, p4, p5, p6⟩ := lotBlk HN.out.bx (Ext.refl _)
  go_wp2_with fail
  refine (C1.out _ (HE.out.ext HX.out)).mono ?_
  rintro e wv ⟨rfl, hx1⟩
  replace HN := Lib.hid (HN.out.on hx1)
  replace HX := Lib.hid (HX.out.trans hx1)
  clear hx1
  obtain ⟨p0, p1, p2, p3, p4, p5, p6⟩ := lotBlk HN.out.bx (Ext.refl _)
  go_upto_region 5 with fail
  go_cut [7, 8] (fun p7 p8 wx => PairAt wv x p7 p8 wx)
  case first =>
    go_region_held3 (fun w' => w'.cell? ⟨g, 0, none⟩ = some (.string (bs x.id)) ∧ w'.cell? ⟨g, 1, none⟩ = some (.string (bs x.ins)) ∧ w'.cell? ⟨g, 2, none⟩ = some (.int .i64 x.acq) ∧ w'.cell? ⟨g, 3, none⟩ = some (.int .i64 x.opn) ∧ w'.cell? ⟨g, 4, none⟩ = some (.string (bs x.q)) ∧ w'.cell? ⟨g, 5, none⟩ = some (.string (bs x.c)) ∧ w'.cell? ⟨g, 6, none⟩ = some (.string (bs x.u)))
      (go_keep)
      (fail)
    all_goals
      go_wp2_with fail
      go_meet
      first
        | exact ⟨wv.heap.size, wv.heap.size + 1, rfl, rfl, by omega, by omega, by omega, ((Blk.new _ _ _).alloc _).drew, (blk_at _ _ _ _ (by simp)).drew, (((Ext.new _ _).alloc _).drew)⟩
        | exact ⟨wv.heap.size + 1, wv.heap.size, rfl, rfl, by omega, by omega, by omega, (blk_at _ _ _ _ (by simp)).drew, ((Blk.new _ _ _).alloc _).drew, (((Ext.new _ _).alloc _).drew)⟩
  case rest =>
    obtain ⟨P, R, rfl, rfl, hPR, hwP, hwR, hbp, hbr, hxw⟩ := hcut
    have hbl := HN.out.bb.lt
    have HV : Hid (HalvesAt w wc g P R x x x) := Lib.hid ⟨HN.out.on hxw, hPR, by omega, by omega, hbp, hbr⟩
    replace HX := Lib.hid (HX.out.trans hxw)
    clear hbp hbr hxw hwP hwR HN hbl p0 p1 p2 p3 p4 p5 p6
    have hPg : P ≠ g := by have := HV.out.lp; omega
    have hRg : R ≠ g := by have := HV.out.lr; omega
    have hgP : g ≠ P := Ne.symm hPg
    have hgR : g ≠ R := Ne.symm hRg
    have hRP : R ≠ P := Ne.symm hPR
    obtain ⟨xi, xn, xa, xo, xq, xc, xu⟩ := x
    simp only at *
    obtain ⟨p0, p1, p2, p3, p4, p5, p6⟩ := lotBlk HV.out.cut.bx (Ext.refl _)
    obtain ⟨a0, a1, a2, a3, a4, a5, a6⟩ := lotBlk HV.out.bp (Ext.refl _)
    obtain ⟨b0, b1, b2, b3, b4, b5, b6⟩ := lotBlk HV.out.br (Ext.refl _)
    have fa := fun k => HV.out.bp.frozen k
    have fb := fun k => HV.out.br.frozen k
    go_wp2_with fail
    refine (S1.out _ (HE.out.ext HX.out)).mono ?_
    rintro e w1 ⟨rfl, hx1⟩
    replace HV := Lib.hid (HV.out.on hx1)
    clear hx1 a0 a1 a2 a3 a4 a5 a6 b0 b1 b2 b3 b4 b5 b6 fa fb p0 p1 p2 p3 p4 p5 p6
    have HV2 : Hid (HalvesAt w ((w1.setCell ⟨P, 4, none⟩ (.string (bs q))).setCell ⟨R, 4, none⟩ (.string (bs qb))) g P R ⟨xi, xn, xa, xo, xq, xc, xu⟩ ⟨xi, xn, xa, xo, q, xc, xu⟩ ⟨xi, xn, xa, xo, qb, xc, xu⟩) := Lib.hid (HV.out.store 4 _ _ rfl rfl)
    obtain ⟨p0, p1, p2, p3, p4, p5, p6⟩ := lotBlk HV.out.cut.bx (Ext.refl _)
    obtain ⟨a0, a1, a2, a3, a4, a5, a6⟩ := lotBlk HV.out.bp (Ext.refl _)
    obtain ⟨b0, b1, b2, b3, b4, b5, b6⟩ := lotBlk HV.out.br (Ext.refl _)
    have fa := fun k => HV.out.bp.frozen k
    have fb := fun k => HV.out.br.frozen k
    go_wp2_with fail
    refine (SH.out _ (HE.out.ext HV2.out.cut.ext)).mono ?_
    rintro e w2 ⟨rfl, hx1⟩
    clear HV
    have HV := Lib.hid (HV2.out.on hx1)
    clear hx1 a0 a1 a2 a3 a4 a5 a6 b0 b1 b2 b3 b4 b5 b6 fa fb p0 p1 p2 p3 p4 p5 p6 HV2
    have HV2 : Hid (HalvesAt w ((w2.setCell ⟨P, 5, none⟩ (.string (bs ca))).setCell ⟨R, 5, none⟩ (.string (bs cb))) g P R ⟨xi, xn, xa, xo, xq, xc, xu⟩ ⟨xi, xn, xa, xo, q, ca, xu⟩ ⟨xi, xn, xa, xo, qb, cb, xu⟩) := Lib.hid (HV.out.store 5 _ _ rfl rfl)
    obtain ⟨p0, p1, p2, p3, p4, p5, p6⟩ := lotBlk HV.out.cut.bx (Ext.refl _)
    obtain ⟨a0, a1, a2, a3, a4, a5, a6⟩ := lotBlk HV.out.bp (Ext.refl _)
    obtain ⟨b0, b1, b2, b3, b4, b5, b6⟩ := lotBlk HV.out.br (Ext.refl _)
    have fa := fun k => HV.out.bp.frozen k
    have fb := fun k => HV.out.br.frozen k
    by_cases hu : xu = []
    · have g9 : (!xu.isEmpty) = false := by rw [hu]; rfl
      obtain ⟨e1, e2⟩ := HU1.out hu
      clear HU1 HU2
      subst e1 e2 hu
      go_wp2_with fail
      replace HV := HV2
      clear HV2 a0 a1 a2 a3 a4 a5 a6 b0 b1 b2 b3 b4 b5 b6 fa fb p0 p1 p2 p3 p4 p5 p6
      generalize (w2.setCell ⟨P, 5, none⟩ (.string (bs ca))).setCell ⟨R, 5, none⟩ (.string (bs cb)) = W4 at *
      obtain ⟨p0, p1, p2, p3, p4, p5, p6⟩ := lotBlk HV.out.cut.bx (Ext.refl _)
      obtain ⟨a0, a1, a2, a3, a4, a5, a6⟩ := lotBlk HV.out.bp (Ext.refl _)
      obtain ⟨b0, b1, b2, b3, b4, b5, b6⟩ := lotBlk HV.out.br (Ext.refl _)
      have fa := fun k => HV.out.bp.frozen k
      have fb := fun k => HV.out.br.frozen k
      obtain ⟨c0, c1, c2, c3, c4, c5, c6⟩ := lotBlk HV.out.cut.ba (Ext.refl _)
      obtain ⟨d0, d1, d2, d3, d4, d5, d6⟩ := lotBlk HV.out.cut.bb (Ext.refl _)
      have fc := fun k => HV.out.cut.ba.frozen k
      have fd := fun k => HV.out.cut.bb.frozen k
      have n1 : R ≠ g + 1 := by have := HV.out.lr; omega
      have n2 : P ≠ g + 1 := by have := HV.out.lp; omega
      have n3 : R ≠ g + 2 := by have := HV.out.lr; omega
      have n4 : P ≠ g + 2 := by have := HV.out.lp; omega
      have n5 := Ne.symm n1
      have n6 := Ne.symm n2
      have n7 := Ne.symm n3
      have n8 := Ne.symm n4
      go_region
      go_wp2_with fail
      refine bodyPost_ret (results_lot2 rfl _ _ (g + 1) (g + 2) ((⟨xi, xn, xa, xo, q, ca, []⟩ : LotV)) ((⟨xi, xn, xa, xo, qb, cb, []⟩ : LotV)) (.int .i64 0) rfl rfl rfl (Blk.sets_far (lot_over HV.out.cut.ba ((⟨xi, xn, xa, xo, q, ca, []⟩ : LotV))) (by omega) (lotCells ((⟨xi, xn, xa, xo, qb, cb, []⟩ : LotV))) 0).drew (lot_over (Blk.sets_far HV.out.cut.bb (by omega) (lotCells ((⟨xi, xn, xa, xo, q, ca, []⟩ : LotV))) 0) ((⟨xi, xn, xa, xo, qb, cb, []⟩ : LotV))).drew) rfl ?_
      exact ⟨rfl, (ext_sets (lotCells ((⟨xi, xn, xa, xo, qb, cb, []⟩ : LotV))) 0 _ () (ext_sets (lotCells ((⟨xi, xn, xa, xo, q, ca, []⟩ : LotV))) 0 _ () HV.out.cut.ext (by have := HV.out.cut.le; omega)) (by have := HV.out.cut.le; omega)).drew⟩
    · have g9 : (!xu.isEmpty) = true := by simpa using hu
      obtain ⟨e1, e2⟩ := HU2.out hu
      clear HU1 HU2
      subst e1 e2
      go_wp2_with fail
      replace HV := HV2
      clear HV2 a0 a1 a2 a3 a4 a5 a6 b0 b1 b2 b3 b4 b5 b6 fa fb p0 p1 p2 p3 p4 p5 p6
      generalize (w2.setCell ⟨P, 5, none⟩ (.string (bs ca))).setCell ⟨R, 5, none⟩ (.string (bs cb)) = W3 at *
      obtain ⟨p0, p1, p2, p3, p4, p5, p6⟩ := lotBlk HV.out.cut.bx (Ext.refl _)
      obtain ⟨a0, a1, a2, a3, a4, a5, a6⟩ := lotBlk HV.out.bp (Ext.refl _)
      obtain ⟨b0, b1, b2, b3, b4, b5, b6⟩ := lotBlk HV.out.br (Ext.refl _)
      have fa := fun k => HV.out.bp.frozen k
      have fb := fun k => HV.out.br.frozen k
      have HV2 : Hid (HalvesAt w ((W3.setCell ⟨P, 6, none⟩ (.string (bs q))).setCell ⟨R, 6, none⟩ (.string (bs qb))).drew g P R ⟨xi, xn, xa, xo, xq, xc, xu⟩ ⟨xi, xn, xa, xo, q, ca, q⟩ ⟨xi, xn, xa, xo, qb, cb, qb⟩) := Lib.hid (halves_drew (HV.out.store 6 _ _ rfl rfl))
      go_region
      go_wp2_with fail
      replace HV := HV2
      clear HV2 a0 a1 a2 a3 a4 a5 a6 b0 b1 b2 b3 b4 b5 b6 fa fb p0 p1 p2 p3 p4 p5 p6
      generalize ((W3.setCell ⟨P, 6, none⟩ (.string (bs q))).setCell ⟨R, 6, none⟩ (.string (bs qb))).drew = W4 at *
      obtain ⟨p0, p1, p2, p3, p4, p5, p6⟩ := lotBlk HV.out.cut.bx (Ext.refl _)
      obtain ⟨a0, a1, a2, a3, a4, a5, a6⟩ := lotBlk HV.out.bp (Ext.refl _)
      obtain ⟨b0, b1, b2, b3, b4, b5, b6⟩ := lotBlk HV.out.br (Ext.refl _)
      have fa := fun k => HV.out.bp.frozen k
      have fb := fun k => HV.out.br.frozen k
      obtain ⟨c0, c1, c2, c3, c4, c5, c6⟩ := lotBlk HV.out.cut.ba (Ext.refl _)
      obtain ⟨d0, d1, d2, d3, d4, d5, d6⟩ := lotBlk HV.out.cut.bb (Ext.refl _)
      have fc := fun k => HV.out.cut.ba.frozen k
      have fd := fun k => HV.out.cut.bb.frozen k
      have n1 : R ≠ g + 1 := by have := HV.out.lr; omega
      have n2 : P ≠ g + 1 := by have := HV.out.lp; omega
      have n3 : R ≠ g + 2 := by have := HV.out.lr; omega
      have n4 : P ≠ g + 2 := by have := HV.out.lp; omega
      have n5 := Ne.symm n1
      have n6 := Ne.symm n2
      have n7 := Ne.symm n3
      have n8 := Ne.symm n4
      go_region
      go_wp2_with fail
      refine bodyPost_ret (results_lot2 rfl _ _ (g + 1) (g + 2) ((⟨xi, xn, xa, xo, q, ca, q⟩ : LotV)) ((⟨xi, xn, xa, xo, qb, cb, qb⟩ : LotV)) (.int .i64 0) rfl rfl rfl (Blk.sets_far (lot_over HV.out.cut.ba ((⟨xi, xn, xa, xo, q, ca, q⟩ : LotV))) (by omega) (lotCells ((⟨xi, xn, xa, xo, qb, cb, qb⟩ : LotV))) 0).drew (lot_over (Blk.sets_far HV.out.cut.bb (by omega) (lotCells ((⟨xi, xn, xa, xo, q, ca, q⟩ : LotV))) 0) ((⟨xi, xn, xa, xo, qb, cb, qb⟩ : LotV))).drew) rfl ?_
      exact ⟨rfl, (ext_sets (lotCells ((⟨xi, xn, xa, xo, qb, cb, qb⟩ : LotV))) 0 _ () (ext_sets (lotCells ((⟨xi, xn, xa, xo, q, ca, q⟩ : LotV))) 0 _ () HV.out.cut.ext (by have := HV.out.cut.le; omega)) (by have := HV.out.cut.le; omega)).drew⟩
end Go.Proofs.YtikehdbkiplleaaGreatDoor
/- Plain: averages of lots in another order, and of lots of which one was cut. No program in sight. -/
namespace Go.Proofs.YtikehdbkiplleaaGreatDoor
open Go.RowKit

theorem goAll_make : ∀ (l : List LotV) (seen : List Bs), (∀ x ∈ l, checkL x = 0) → (l.map (·.id)).Nodup → (∀ a ∈ l.map (·.id), a ∉ seen) → goAll seen l = 0
  | [], _, _, _, _ => rfl
  | x :: r, seen, h1, h2, h3 => by
    have e1 := h1 x (by simp)
    have e2 := h3 x.id (by simp)
    rw [List.map_cons, List.nodup_cons] at h2
    unfold goAll
    rw [if_neg (by omega), if_neg e2]
    refine goAll_make r _ (fun y hy => h1 y (List.mem_cons_of_mem _ hy)) h2.2 (fun a ha => ?_)
    rw [List.mem_append, List.mem_singleton]
    rintro (h | h)
    · exact h3 a (by rw [List.map_cons]; exact List.mem_cons_of_mem _ ha) h
    · subst h; exact h2.1 ha
theorem checkAll_rev {ls : List LotV} (h : checkAllL ls = 0) : checkAllL ls.reverse = 0 := by
  obtain ⟨h1, h2⟩ := checkAllL_ok h
  have h3 := checkAll_ids h
  unfold checkAllL
  rw [List.length_reverse, if_neg (by omega)]
  refine goAll_make _ _ (fun x hx => h2 x (List.mem_reverse.1 hx)) ?_ (fun _ _ => List.not_mem_nil)
  rw [List.map_reverse]
  exact List.pairwise_reverse.2 (h3.imp fun h => Ne.symm h)
theorem ofL_rev (ls : List LotV) (ins : Bs) : ofL ls.reverse ins = (ofL ls ins).reverse := by unfold ofL; rw [List.filter_reverse]
theorem totQ_rev (ls : List LotV) (ins : Bs) : totQ ls.reverse ins = totQ ls ins := by
  unfold totQ; rw [ofL_rev, List.map_reverse, List.sum_reverse]
theorem totC_rev (ls : List LotV) (ins : Bs) : totC ls.reverse ins = totC ls ins := by
  unfold totC; rw [ofL_rev, List.map_reverse, List.sum_reverse]
theorem priceV_same {ls ms : List LotV} {ins : Bs} (h1 : checkAllL ls = 0) (h2 : checkAllL ms = 0) (hq : totQ ms ins = totQ ls ins) (hc : totC ms ins = totC ls ins) : priceV ms ins = priceV ls ins := by
  have e1 : avgE ls [] = 0 := avgE_ok h1 (by simp)
  have e2 : avgE ms [] = 0 := avgE_ok h2 (by simp)
  unfold priceV prV
  rw [e1, e2, hq, hc]
theorem priceV_rev {ls : List LotV} {ins : Bs} (h : checkAllL ls = 0) : priceV ls.reverse ins = priceV ls ins := priceV_same h (checkAll_rev h) (totQ_rev ls ins) (totC_rev ls ins)
/-- a lot in the place of which two stand -/
def cutAt (ls : List LotV) (k : Nat) (a b : LotV) : List LotV := ls.take k ++ ([a, b] ++ ls.drop (k + 1))
theorem ofL_app (a b : List LotV) (ins : Bs) : ofL (a ++ b) ins = ofL a ins ++ ofL b ins := by unfold ofL; rw [List.filter_append]
theorem totQ_app (a b : List LotV) (ins : Bs) : totQ (a ++ b) ins = totQ a ins + totQ b ins := by unfold totQ; rw [ofL_app, List.map_append, List.sum_append]
theorem totC_app (a b : List LotV) (ins : Bs) : totC (a ++ b) ins = totC a ins + totC b ins := by unfold totC; rw [ofL_app, List.map_append, List.sum_append]
theorem tot_one (x : LotV) (ins : Bs) : totQ [x] ins = (if x.ins = ins then valI x.q else 0) ∧ totC [x] ins = (if x.ins = ins then valI x.c else 0) := by
  unfold totQ totC ofL
  by_cases h : x.ins = ins
  · simp [h]
  · simp [h]
theorem cut_split {ls : List LotV} {k : Nat} (hk : k < ls.length) : ls = ls.take k ++ ([ls[k]'hk] ++ ls.drop (k + 1)) := by
  rw [List.singleton_append, List.getElem_cons_drop, List.take_append_drop]
theorem cut_tot {ls : List LotV} {k : Nat} (hk : k < ls.length) {a b : LotV} (ins : Bs) (ha : a.ins = (ls[k]'hk).ins) (hb : b.ins = (ls[k]'hk).ins) (hq : valI a.q + valI b.q = valI (ls[k]'hk).q) (hc : valI a.c + valI b.c = valI (ls[k]'hk).c) :
    totQ (cutAt ls k a b) ins = totQ ls ins ∧ totC (cutAt ls k a b) ins = totC ls ins := by
  obtain ⟨a1, a2⟩ := tot_one a ins
  obtain ⟨b1, b2⟩ := tot_one b ins
  obtain ⟨x1, x2⟩ := tot_one (ls[k]'hk) ins
  have e : [a, b] = [a] ++ [b] := rfl
  have h1 : totQ ls ins = totQ (ls.take k ++ ([ls[k]'hk] ++ ls.drop (k + 1))) ins := congrArg (totQ · ins) (cut_split hk)
  have h2 : totC ls ins = totC (ls.take k ++ ([ls[k]'hk] ++ ls.drop (k + 1))) ins := congrArg (totC · ins) (cut_split hk)
  rw [h1, h2]
  unfold cutAt
  rw [e]
  simp only [totQ_app, totC_app]
  rw [a1, a2, b1, b2, x1, x2, ha, hb]
  split <;> omega
/-- the halves under their names -/
def cut98 : Bs := [99, 117, 116, 47, 57, 57, 57, 56]
def cut99 : Bs := [99, 117, 116, 47, 57, 57, 57, 57]
def halfA (x : LotV) (q : Bs) : LotV := { cutA x q with id := cut98 }
def halfB (x : LotV) (q : Bs) : LotV := { cutB x q with id := cut99 }
theorem cutV_ok {x : LotV} {q : Bs} (h : (cutV x q).2.2 = 0) : cutV x q = (cutA x q, cutB x q, 0) := by
  unfold cutV at h ⊢
  split at h
  · simp at h
  · rename_i h1
    rw [if_neg h1]
    split at h
    · simp at h
    · rename_i h2
      rw [if_neg h2]
theorem half_tot {ls : List LotV} {k : Nat} (hk : k < ls.length) (q ins : Bs) : totQ (cutAt ls k (halfA (ls[k]'hk) q) (halfB (ls[k]'hk) q)) ins = totQ ls ins ∧ totC (cutAt ls k (halfA (ls[k]'hk) q) (halfB (ls[k]'hk) q)) ins = totC ls ins := by
  refine cut_tot hk ins rfl rfl ?_ ?_
  · show valI q + valI (ofI _) = _
    rw [valI_ofI]; omega
  · show valI (ofI _) + valI (ofI _) = _
    rw [valI_ofI, valI_ofI]; omega
theorem half_small {x : LotV} {q : Bs} (hg : greatL x = false) (hq : q.length ≤ 13) : SmallL (halfA x q) ∧ SmallL (halfB x q) := by
  obtain ⟨g1, g2, g3, g4, g5⟩ := greatL_no hg
  have b1 : QB 27 ((shareZ (valI x.c) (valI q) (valI x.q) : Int) : Rat) := share_qbL (L := 13) (by omega) g2 hq g1
  have l1 : (ofI (shareZ (valI x.c) (valI q) (valI x.q))).length ≤ 28 := by
    have := b1.1
    rw [Rat.num_intCast] at this
    exact ofI_len this
  have b2 : QB 41 (((valI x.c - shareZ (valI x.c) (valI q) (valI x.q) : Int)) : Rat) := by
    rw [Rat.intCast_sub]
    exact ((qb_val (L := 13) g2 (by omega)).sub b1).mono (by omega)
  have l2 : (ofI (valI x.c - shareZ (valI x.c) (valI q) (valI x.q))).length ≤ 42 := by
    have := b2.1
    rw [Rat.num_intCast] at this
    exact ofI_len this
  have b3 : QB 27 (((valI x.q - valI q : Int)) : Rat) := by
    rw [Rat.intCast_sub]
    exact ((qb_val (L := 13) g1 (by omega)).sub (qb_val (L := 13) hq (by omega))).mono (by omega)
  have l3 : (ofI (valI x.q - valI q)).length ≤ 28 := by
    have := b3.1
    rw [Rat.num_intCast] at this
    exact ofI_len this
  have c1 : cut98.length = 8 := rfl
  have c2 : cut99.length = 8 := rfl
  constructor
  · refine ⟨by show cut98.length ≤ _; omega, by show x.ins.length ≤ _; omega, by show q.length ≤ _; omega, by show (ofI _).length ≤ _; omega, ?_⟩
    show (if x.u = [] then [] else q).length ≤ _
    split
    · simp
    · omega
  · refine ⟨by show cut99.length ≤ _; omega, by show x.ins.length ≤ _; omega, by show (ofI _).length ≤ _; omega, by show (ofI _).length ≤ _; omega, ?_⟩
    show (if x.u = [] then [] else ofI (valI x.q - valI q)).length ≤ _
    split
    · simp
    · omega
theorem cutAt_len {ls : List LotV} {k : Nat} (hk : k < ls.length) (a b : LotV) : (cutAt ls k a b).length = ls.length + 1 := by
  unfold cutAt
  simp only [List.length_append, List.length_take, List.length_drop, List.length_cons, List.length_nil]
  omega
end Go.Proofs.YtikehdbkiplleaaGreatDoor
/- The library's slices.Insert at slices of lots: one lot into a list that lies in a block of its own. -/
namespace Go.Proofs.YtikehdbkiplleaaGreatDoor
open Go.RowKit Go.Lib
attribute [local go_sem] size_bs toList_bs

def InsEndsL (g n : Nat) (xs : List Value) (w : World) (e : Ending) (w' : World) : Prop :=
  ∃ g' cap cur, e = .returned (.slice (some ⟨g', 0, none⟩) (n + 1) cap) ∧ (g' = g ∨ w.heap.size ≤ g') ∧ Row w' g' 50 7 (n + 1) cap xs cur ∧ Only g w w'
set_option maxRecDepth 100000 in
set_option maxHeartbeats 4000000 in
theorem insertShiftL (g cap n i vb : Nat) (xs cur vs : List Value) (w : World) (hr : Row w g 50 7 n cap xs cur) (h1 : ∀ u ∈ xs, u.oneCell' = true) (hvb : Blk w vb 50 vs.toArray) (hne : vb ≠ g) (hv : vs.length = 7) (h1v : ∀ u ∈ vs, u.oneCell' = true) (hi : i < n) (hroom : n + 1 ≤ cap) (hcap : cap ≤ 9223372036854775807) :
    Calls Tryz.prog 84 #[.slice (some ⟨g, 0, none⟩) n cap, .int .i64 i, .slice (some ⟨vb, 0, none⟩) 1 1] w (InsEndsL g n (xs.take (i * 7) ++ vs ++ xs.drop (i * 7)) w) := by
  have hsz : (Tryz.prog.info? 50).map (·.size) = some 7 := by
    obtain ⟨i0, hI, _, hz1, _⟩ := info_parts lotInfo
    rw [hI]; simp [hz1]
  have hov : ∀ lb cb, (callFunc 135 #[.slice (some ⟨vb, 0, none⟩) 1 1, .slice (some ⟨g, (i + 1) * 7, none⟩) lb cb]).run Tryz.prog w = .ok (.value (.bool false)) w := fun lb cb => by
    rw [run_callFunc_extern Tryz.func135 (by kernel_rfl) (by kernel_rfl) (by kernel_rfl) (e := Extern.SlicesOverlaps.overlaps #[22, 22] #[4]) (by kernel_rfl),
      Lib.run_overlaps_apart w 22 4 50 Tryz.underlying22 7 Tryz.sizeOf50 ⟨vb, 0, none⟩ ⟨g, (i + 1) * 7, none⟩ 1 1 lb cb hne 50 50 vs.toArray.size cur.toArray.size hvb.shape hr.blk.shape (by simp only [List.size_toArray, hr.full]; omega) (hvb.frozen 0) (hvb.frozen _)]
    rfl
  have hdl : (xs.drop (i * 7)).length = (n - i) * 7 := by rw [List.length_drop, hr.len, ← Nat.sub_mul]
  have hcp1 : ∀ ty dc sc, (Builtin.copy_ #[22, 22] ty #[.slice (some ⟨g, (i + 1) * 7, none⟩) (n - i) dc, .slice (some ⟨g, i * 7, none⟩) (n + 1 - i) sc]).run Tryz.prog w.drew = .ok (goInt (n - i : Nat)) (w.drew.setCells g ((i + 1) * 7) (xs.drop (i * 7))) := fun ty dc sc =>
    run_copy_k w.drew _ _ ty 50 7 g ((i + 1) * 7) (n - i) dc ⟨g, i * 7, none⟩ (n + 1 - i) sc (xs.drop (i * 7)) Tryz.underlying22 hsz (n - i) (by simp only [Nat.min_def]; split <;> omega) hdl
      (fun j v hj => by rw [Addr.add_lit]; exact hr.drew.cell (by rwa [List.getElem?_drop] at hj))
      (fun j hj => hr.drew.isSome_ (by omega)) (fun j _ => hr.drew.frozen _) (fun v hv => h1 v (List.mem_of_mem_drop hv))
  have hfull := hr.full
  have hrl := hr.len
  have hW1 : Row (w.drew.setCells g ((i + 1) * 7) (xs.drop (i * 7))) g 50 7 0 cap [] (lsplice cur ((i + 1) * 7) (xs.drop (i * 7))) :=
    hr.drew.put _ _ (by rw [hdl]; omega) (by omega) (by simp) (by simp)
  have hvb1 : Blk (w.drew.setCells g ((i + 1) * 7) (xs.drop (i * 7))) vb 50 vs.toArray := hvb.drew.sets_far hne _ _
  have hcp2 : ∀ ty dc, (Builtin.copy_ #[22, 22] ty #[.slice (some ⟨g, i * 7, none⟩) (n + 1 - i) dc, .slice (some ⟨vb, 0, none⟩) 1 1]).run Tryz.prog (w.drew.setCells g ((i + 1) * 7) (xs.drop (i * 7))) = .ok (goInt (1 : Nat)) ((w.drew.setCells g ((i + 1) * 7) (xs.drop (i * 7))).setCells g (i * 7) vs) := fun ty dc =>
    run_copy_k _ _ _ ty 50 7 g (i * 7) (n + 1 - i) dc ⟨vb, 0, none⟩ 1 1 vs Tryz.underlying22 hsz 1 (by simp only [Nat.min_def]; split <;> omega) (by omega)
      (fun j v hj => by rw [Addr.add_lit, hvb1.cell, List.getElem?_toArray, Nat.zero_add]; exact hj)
      (fun j hj => hW1.isSome_ (by rw [hv] at hj; omega)) (fun j _ => hW1.frozen _) h1v
  have HW2 := Lib.hid (hW1.put vs (i * 7) (by rw [hv]; omega) (n' := n + 1) (xs' := xs.take (i * 7) ++ vs ++ xs.drop (i * 7)) hroom (by rw [List.length_append, List.length_append, hdl, List.length_take, hrl, hv]; omega) (splice_ins cur xs vs 7 i n hr.take hr.len (by omega) hv (by rw [hfull]; exact Nat.mul_le_mul_right _ hroom)))
  have HON : Hid (Only g w ((w.drew.setCells g ((i + 1) * 7) (xs.drop (i * 7))).setCells g (i * 7) vs)) := Lib.hid (Only.sets _ _ _ _ (Only.sets _ _ _ _ (Only.of_ext (Ext.refl w).drew)))
  clear hW1 hvb1 hr h1 hvb h1v hdl hfull hrl hsz
  have hw1 : IntKind.i64.wrap ((i : Int) + 1) = (i : Int) + 1 := IntWalk.i64_in _ (by omega)
  have hb1 : (0 : Int) ≤ (i : Int) + 1 := by omega
  have hin : i ≤ n := by omega
  have htn : ((i : Int) + 1).toNat = i + 1 := by omega
  have hb2 : ¬ (cap = i + 1) := by omega
  have hb3 : (i : Int) ≤ (n : Int) + 1 := by omega
  have hb5 : (i : Int) + 1 ≤ (n : Int) + 1 := by omega
  have hb4 : ¬ (cap = i) := by omega
  have hz2 : ((i : Int) == (n : Int)) = false := by rw [beq_eq_false_iff_ne]; omega
  have hz3 : ¬ ((cap : Int) < (n : Int) + 1) := by omega
  go_enter Tryz.func84, Tryz.ntmps84
  go_wp2_with (simp only [hov])
  go_region_law ((refine step_copy_runI (by rfl) (.tmp 73) (.tmp 76) 22 22 (by rfl) (.slice (some ⟨g, (i + 1) * 7, none⟩) (n - i) (cap - (i + 1))) (.slice (some ⟨g, i * 7, none⟩) (n + 1 - i) (cap - i)) (by simp [Act.eval, Act.put]) (by simp [Act.eval, Act.put]) (hcp1 _ _ _) ?_))
  go_wp2_with (with_reducible refine wpList_copy_runI _ (by rfl) (.tmp 80) (.tmp 81) 22 22 (by rfl) (.slice (some ⟨g, i * 7, none⟩) (n + 1 - i) (cap - i)) (.slice (some ⟨vb, 0, none⟩) 1 1) (by rfl) (by rfl) (hcp2 _ _) ?_)
  go_ret
  exact ⟨g, cap, _, rfl, .inl rfl, HW2.out, HON.out⟩

set_option maxRecDepth 100000 in
set_option maxHeartbeats 4000000 in
theorem insertGrowL (g n i vb : Nat) (xs cur vs : List Value) (w : World) (hr : Row w g 50 7 n n xs cur) (h1 : ∀ u ∈ xs, u.oneCell' = true) (hvb : Blk w vb 50 vs.toArray) (hv : vs.length = 7) (h1v : ∀ u ∈ vs, u.oneCell' = true) (hi : i < n) (hn : n ≤ 1000000) :
    Calls Tryz.prog 84 #[.slice (some ⟨g, 0, none⟩) n n, .int .i64 i, .slice (some ⟨vb, 0, none⟩) 1 1] w (InsEndsL g n (xs.take (i * 7) ++ vs ++ xs.drop (i * 7)) w) := by
  obtain ⟨i0, hI, hz0, hz1, hz2⟩ := info_parts lotInfo
  have hsz : (Tryz.prog.info? 50).map (·.size) = some 7 := by rw [hI]; simp [hz1]
  have hkk : (n : Int) + 1 - (i : Int) = ((n + 1 - i : Nat) : Int) := by omega
  have hik : i + (n + 1 - i) = n + 1 := by omega
  have hold : (Builtin.firstCells i0.size i (.slice (some ⟨g, 0, none⟩) i n)).run Tryz.prog w.drew = .ok (xs.take (i * 7)).toArray w.drew := by
    rw [hz1]
    exact run_firstCells_some w.drew 7 i ⟨g, 0, none⟩ i n (xs.take (i * 7)) (by rw [List.length_take, hr.len]; omega) (fun j v hj => by
      rw [Addr.add_lit, Nat.zero_add]
      rw [List.getElem?_take] at hj
      split at hj
      · exact hr.drew.cell hj
      · cases hj)
  have hrz : ∀ ty, (Builtin.append_ #[22, 3] ty #[.slice (some ⟨g, 0, none⟩) i n, .int .i64 ((n : Int) + 1 - (i : Int))]).run Tryz.prog w =
      .ok (.slice (some ⟨w.heap.size, 0, none⟩) (n + 1) (grownCap w (n + 1) n 50)) (w.drew.alloc (.cells ((xs.take (i * 7)).toArray ++ Builtin.zeroCells (Value.agg #[.string ⟨#[]⟩, .string ⟨#[]⟩, .int .i64 0, .int .i64 0, .string ⟨#[]⟩, .string ⟨#[]⟩, .string ⟨#[]⟩]).cells (n + 1 - i) ++ Builtin.zeroCells (Value.agg #[.string ⟨#[]⟩, .string ⟨#[]⟩, .int .i64 0, .int .i64 0, .string ⟨#[]⟩, .string ⟨#[]⟩, .string ⟨#[]⟩]).cells (grownCap w (n + 1) n 50 - (n + 1))) 50)) := fun ty => by
    have h := Lib.run_append_grow_zeros w 22 3 ty 50 i0 _ .i64 .i64 Tryz.underlying22 Tryz.underlying3 hI hz0 (some ⟨g, 0, none⟩) i n (xs.take (i * 7)) hold (n + 1 - i) (by omega) (by omega) (by omega) (by omega) (by rw [hz2]; omega) (by rw [hz2, hik]; exact growslice_fits (by omega) (by omega))
    rw [hik] at h
    rw [hkk]
    exact h
  obtain ⟨G, hG⟩ : ∃ G, G = grownCap w (n + 1) n 50 := ⟨_, rfl⟩
  have hGn : n + 1 ≤ G := by rw [hG]; exact grownCap_ge w _ _ _
  have hG63 : G ≤ maxLen := by rw [hG]; exact grownCap_le_maxLen w (n + 1) n _ (by unfold maxLen; omega)
  obtain ⟨ROW, hROW⟩ : ∃ ROW : Array Value, ROW = (xs.take (i * 7)).toArray ++ Builtin.zeroCells (Value.agg #[.string ⟨#[]⟩, .string ⟨#[]⟩, .int .i64 0, .int .i64 0, .string ⟨#[]⟩, .string ⟨#[]⟩, .string ⟨#[]⟩]).cells (n + 1 - i) ++ Builtin.zeroCells (Value.agg #[.string ⟨#[]⟩, .string ⟨#[]⟩, .int .i64 0, .int .i64 0, .string ⟨#[]⟩, .string ⟨#[]⟩, .string ⟨#[]⟩]).cells (G - (n + 1)) := ⟨_, rfl⟩
  rw [← hG, ← hROW] at hrz
  have hRl : ROW.toList.length = G * 7 := by
    rw [hROW]
    simp [Builtin.zeroCells, Value.cells, hr.len]
    omega
  have hRt : ROW.toList.take (i * 7) = xs.take (i * 7) := by
    rw [hROW]
    simp only [Array.toList_append, List.append_assoc]
    rw [List.take_left' (by rw [List.length_take, hr.len]; omega)]
  have hgw := hr.blk.lt
  have hvw := hvb.lt
  have hA : Row ((w.alloc (.cells ROW 50)).drew) w.heap.size 50 7 0 G [] ROW.toList :=
    ⟨by rw [Array.toArray_toList]; exact (Blk.new w _ _).drew, rfl, Nat.zero_le _, hG63, hRl, by simp⟩
  have hdl : (xs.drop (i * 7)).length = (n - i) * 7 := by rw [List.length_drop, hr.len, ← Nat.sub_mul]
  have hvb1 : Blk ((w.alloc (.cells ROW 50)).drew) vb 50 vs.toArray := (hvb.alloc _).drew
  have hr1 : Row ((w.alloc (.cells ROW 50)).drew) g 50 7 n n xs cur := (hr.ext (Ext.new _ _)).drew
  have hcpA : ∀ ty dc, (Builtin.copy_ #[22, 22] ty #[.slice (some ⟨w.heap.size, i * 7, none⟩) (n + 1 - i) dc, .slice (some ⟨vb, 0, none⟩) 1 1]).run Tryz.prog ((w.alloc (.cells ROW 50)).drew) = .ok (goInt (1 : Nat)) (((w.alloc (.cells ROW 50)).drew).setCells w.heap.size (i * 7) vs) := fun ty dc =>
    run_copy_k _ _ _ ty 50 7 w.heap.size (i * 7) (n + 1 - i) dc ⟨vb, 0, none⟩ 1 1 vs Tryz.underlying22 hsz 1 (by simp only [Nat.min_def]; split <;> omega) (by omega)
      (fun j v hj => by rw [Addr.add_lit, hvb1.cell, List.getElem?_toArray, Nat.zero_add]; exact hj)
      (fun j hj => hA.isSome_ (by rw [hv] at hj; omega)) (fun j _ => hA.frozen _) h1v
  have hB := hA.put vs (i * 7) (by rw [hv]; omega) (n' := 0) (xs' := []) (Nat.zero_le _) rfl (by simp)
  have hr2 : Row (((w.alloc (.cells ROW 50)).drew).setCells w.heap.size (i * 7) vs) g 50 7 n n xs cur := { hr1 with blk := hr1.blk.sets_far (by omega) _ _ }
  have hcpB : ∀ ty dc sc, (Builtin.copy_ #[22, 22] ty #[.slice (some ⟨w.heap.size, (i + 1) * 7, none⟩) (n - i) dc, .slice (some ⟨g, i * 7, none⟩) (n - i) sc]).run Tryz.prog ((((w.alloc (.cells ROW 50)).drew).setCells w.heap.size (i * 7) vs).drew) = .ok (goInt (n - i : Nat)) ((((w.alloc (.cells ROW 50)).drew).setCells w.heap.size (i * 7) vs).drew.setCells w.heap.size ((i + 1) * 7) (xs.drop (i * 7))) := fun ty dc sc =>
    run_copy_k _ _ _ ty 50 7 w.heap.size ((i + 1) * 7) (n - i) dc ⟨g, i * 7, none⟩ (n - i) sc (xs.drop (i * 7)) Tryz.underlying22 hsz (n - i) (Nat.min_self _) hdl
      (fun j v hj => by rw [Addr.add_lit]; exact hr2.drew.cell (by rwa [List.getElem?_drop] at hj))
      (fun j hj => hB.drew.isSome_ (by omega)) (fun j _ => hB.drew.frozen _) (fun v hv => h1 v (List.mem_of_mem_drop hv))
  have HW2 := Lib.hid (hB.drew.put (xs.drop (i * 7)) ((i + 1) * 7) (by rw [hdl]; omega) (n' := n + 1) (xs' := xs.take (i * 7) ++ vs ++ xs.drop (i * 7)) hGn (by rw [List.length_append, List.length_append, hdl, List.length_take, hr.len, hv]; omega) (splice_new ROW.toList xs vs 7 i n hRt hr.len (by omega) hv (by rw [hRl]; exact Nat.mul_le_mul_right _ hGn)))
  have HON : Hid (Only g w ((((w.alloc (.cells ROW 50)).drew).setCells w.heap.size (i * 7) vs).drew.setCells w.heap.size ((i + 1) * 7) (xs.drop (i * 7)))) := Lib.hid (Only.of_ext (ext_sets _ _ _ () (ext_sets _ _ _ () ((Ext.new w _).drew) (Nat.le_refl _)).drew (Nat.le_refl _)))
  clear hA hB hr2 hr1 hvb1 hr h1 hvb h1v hdl hsz hold hkk hRl hRt hROW hG hI hz0 hz1 hz2 hik
  have hw1 : IntKind.i64.wrap ((i : Int) + 1) = (i : Int) + 1 := IntWalk.i64_in _ (by omega)
  have hb1 : (0 : Int) ≤ (i : Int) + 1 := by omega
  have hin : i ≤ n := by omega
  have htn : ((i : Int) + 1).toNat = i + 1 := by omega
  have hb2 : ¬ (G = i + 1) := by omega
  have hb6 : ¬ (G = i) := by omega
  have hb3 : (i : Int) ≤ (n : Int) + 1 := by omega
  have hb5 : (i : Int) + 1 ≤ (n : Int) + 1 := by omega
  have hb4 : ¬ (n = i) := by omega
  have hz9 : ((i : Int) == (n : Int)) = false := by rw [beq_eq_false_iff_ne]; omega
  have hz3 : (n : Int) < (n : Int) + 1 := by omega
  unfold maxLen at hG63
  go_enter Tryz.func84, Tryz.ntmps84
  go_wp2_with (at_builtin; refine Lib.wpList_append_run _ rfl (.tmp 34) (.tmp 39) _ _ rfl _ _ rfl rfl _ _ (hrz _) ?_)
  go_region_law ((refine step_copy_runI (by rfl) (.tmp 50) (.tmp 53) 22 22 (by rfl) (.slice (some ⟨w.heap.size, (i + 1) * 7, none⟩) (n - i) (G - (i + 1))) (.slice (some ⟨g, i * 7, none⟩) (n - i) (n - i)) (by simp [Act.eval, Act.put]) (by simp [Act.eval, Act.put]) (hcpB _ _ _) ?_))
  go_wp2_with fail
  go_ret
  exact ⟨w.heap.size, G, _, rfl, .inr (Nat.le_refl _), HW2.out, HON.out⟩

/-- a list with a further lot at a place -/
def insAt (ls : List LotV) (k : Nat) (x : LotV) : List LotV := ls.take k ++ [x] ++ ls.drop k
theorem insAt_len {ls : List LotV} {k : Nat} {x : LotV} (hk : k ≤ ls.length) : (insAt ls k x).length = ls.length + 1 := by
  unfold insAt
  simp only [List.length_append, List.length_take, List.length_drop, List.length_cons, List.length_nil]
  omega
theorem lots_app (a b : List LotV) : lots (a ++ b) = lots a ++ lots b := by simp [lots]
theorem lots_insAt {ls : List LotV} {k : Nat} {x : LotV} (hk : k ≤ ls.length) : lots (insAt ls k x) = (lots ls).take (k * 7) ++ lotCells x ++ (lots ls).drop (k * 7) := by
  have e : lots ls = lots (ls.take k) ++ lots (ls.drop k) := by rw [← lots_app, List.take_append_drop]
  have l : (lots (ls.take k)).length = k * 7 := by rw [lots_len, List.length_take, Nat.min_eq_left hk]
  have h1 : (lots ls).take (k * 7) = lots (ls.take k) := by rw [e, List.take_left' l]
  have h2 : (lots ls).drop (k * 7) = lots (ls.drop k) := by rw [e, List.drop_left' l]
  rw [h1, h2]
  unfold insAt
  rw [lots_app, lots_app]
  simp [lots]
theorem one_lot (x : LotV) : ∀ u ∈ lotCells x, u.oneCell' = true := by
  intro u hu
  unfold lotCells at hu
  simp only [List.mem_cons, List.not_mem_nil, or_false] at hu
  rcases hu with rfl | rfl | rfl | rfl | rfl | rfl | rfl <;> rfl
/-- lots that lie in memory which this call laid, or nowhere if there are none -/
def OwnL (w : World) (base : Nat) (v : Value) (ls : List LotV) : Prop := w.ownsRow base 50 7 v ls.length (lots ls)
/-- the copy of a list, an empty one as well -/
def CloneO (ls : List LotV) (w : World) (e : Ending) (w' : World) : Prop :=
  ∃ A c, e = .returned (.slice A ls.length c) ∧ Ext w w' ∧ OwnL w' w.heap.size (.slice A ls.length c) ls ∧ (0 < ls.length → ∃ g, A = some ⟨g, 0, none⟩ ∧ w.heap.size ≤ g ∧ RowL w' g c ls)
set_option maxRecDepth 100000 in
set_option maxHeartbeats 1000000 in
theorem cloneO (ls : List LotV) (A : Option Addr) (c : Nat) (w : World) (hA : RdL w A ls) (hn : ls.length ≤ 1000000) :
    Calls Tryz.prog 39 #[.slice A ls.length c] w (CloneO ls w) := by
  rcases Nat.eq_zero_or_pos ls.length with h0 | h0
  rotate_left
  · refine (cloneL ls A c w hA hn).mono ?_
    rintro e w' ⟨A', c', rfl, hx, h⟩
    obtain ⟨g, rfl, hg, cur, hrow⟩ := h h0
    exact ⟨_, _, rfl, hx, hrow.own hg, fun _ => ⟨g, rfl, hg, cur, hrow⟩⟩
  have h1 : ls = [] := List.length_eq_zero_iff.1 h0
  subst h1
  clear hA h0 hn
  obtain ⟨i0, hI, hz0, hz1, hz2⟩ := info_parts lotInfo
  have HI := Lib.hid hI
  clear hI
  simp only [List.length_nil]
  cases A with
  | none =>
    have hnil : ∀ W : World, (binOp .eql 22 (.slice none 0 c) (.slice none 0 0)).run Tryz.prog W = .ok (.bool true) W := fun W => Lib.run_eql_slice_nil W _ _ _ _ _ _ _ Tryz.underlying22
    go_enter Tryz.func39, Tryz.ntmps39
    go_wp2_with fail
    go_ret
    exact ⟨none, 0, rfl, Ext.refl _, ⟨rfl, .inl ⟨rfl, rfl⟩⟩, fun h => absurd h (by simp)⟩
  | some a =>
    have hnil : ∀ W : World, (binOp .eql 22 (.slice (some a) 0 c) (.slice none 0 0)).run Tryz.prog W = .ok (.bool false) W := fun W => Lib.run_eql_slice_nil W _ _ _ _ _ _ _ Tryz.underlying22
    go_enter Tryz.func39, Tryz.ntmps39
    have hr : ∀ ty, (Builtin.append_ #[22, 22] ty #[.slice (some ⟨w.heap.size, 0, none⟩) 0 0, .slice (some a) 0 c]).run Tryz.prog (w.alloc (.cells #[] 50)) = .ok (.slice (some ⟨w.heap.size, 0, none⟩) 0 0) (w.alloc (.cells #[] 50)) := fun ty =>
      run_append_room_cells _ _ ty 50 i0 Tryz.underlying22 HI.out w.heap.size 0 0 0 a 0 c [] (by simp) (by simp) (by simp) (Nat.le_refl _) (by simp) (by simp)
    go_wp2_with (at_builtin; refine Lib.wpList_append_run _ rfl (.tmp 5) (.tmp 6) _ _ rfl _ _ rfl rfl _ _ (hr _) ?_)
    go_ret
    exact ⟨some ⟨w.heap.size, 0, none⟩, 0, rfl, Ext.new _ _, ⟨rfl, .inr ⟨w.heap.size, 0, #[], rfl, Nat.le_refl _, heap_alloc_new w _, Nat.le_refl _, by decide, rfl, rfl⟩⟩, fun h => absurd h (by simp)⟩
/-- how Insert ends, seen from the world 'base' cells high in which the list was laid -/
def InsertedL (ls : List LotV) (k : Nat) (x : LotV) (w0 : World) (e : Ending) (w' : World) : Prop :=
  ∃ A cap, e = .returned (.slice A (insAt ls k x).length cap) ∧ RdL w' A (insAt ls k x) ∧ (insAt ls k x).length ≤ cap ∧ Ext w0 w'
set_option maxRecDepth 100000 in
set_option maxHeartbeats 4000000 in
theorem insertEnd (ls : List LotV) (x : LotV) (A : Option Addr) (c vb : Nat) (w0 w : World) (ho : OwnL w w0.heap.size (.slice A ls.length c) ls) (hx : Ext w0 w) (hvb : Blk w vb 50 (lc x)) (hn : ls.length ≤ 1000000) :
    Calls Tryz.prog 84 #[.slice A ls.length c, .int .i64 ls.length, .slice (some ⟨vb, 0, none⟩) 1 1] w (InsertedL ls ls.length x w0) := by
  obtain ⟨i0, hI, hz0, hz1, hz2⟩ := info_parts lotInfo
  have HI := Lib.hid hI
  have HO := Lib.hid ho
  have HX := Lib.hid hx
  have HC : Hid (∀ j u, (lotCells x)[j]? = some u → w.cell? ((⟨vb, 0, none⟩ : Addr).add j) = some u) := Lib.hid (fun j u hu => by rw [Addr.add_lit, Nat.zero_add, hvb.cell]; show (lotCells x).toArray[j]? = some u; rw [List.getElem?_toArray]; exact hu)
  have hsz := hx.size
  have h1 : lots ls ++ lotCells x = lots (insAt ls ls.length x) := by
    rw [lots_insAt (Nat.le_refl _), List.take_of_length_le (by rw [lots_len]; omega), List.drop_of_length_le (by rw [lots_len]; omega), List.append_nil]
  have H1 := Lib.hid h1
  have hlen : (insAt ls ls.length x).length = ls.length + 1 := insAt_len (Nat.le_refl _)
  have HLN := Lib.hid hlen
  have hc0 : ls.length ≤ c := by
    rcases ho.2 with ⟨h, _⟩ | ⟨g', cap', cs', h, _, _, hle, _⟩
    · injection h with h1 h2 h3; omega
    · injection h with h1 h2 h3; omega
  clear hI ho hx hvb h1 hlen
  have hz : ((ls.length : Int) == (ls.length : Int)) = true := by rw [beq_iff_eq]
  have hb0 : (ls.length : Int) ≤ (c : Int) := by omega
  generalize hll : ls.length = n at *
  go_enter Tryz.func84, Tryz.ntmps84
  go_wp2_with (at_builtin; refine wpList_append_lies _ rfl (.tmp 23) (.tmp 24) 22 rfl w0.heap.size 50 i0 _ 7 96 Tryz.underlying22 HI.out hz0 hz1 hz2 rfl (by decide) _ n (lots ls) rfl (hll ▸ HO.out) ⟨vb, 0, none⟩ 1 1 (lotCells x) rfl rfl HC.out (one_lot x) (by decide) (by simp only [maxLen]; omega) (by omega) hsz _ rfl ?_; intro g cap w' hown hgrow hat hlt)
  all_goals
    go_ret
    have hx2 : Ext w0 w' := by
      change w.grownBy w' (Value.slice A n c).ownBlock at hgrow
      rcases HO.out.2 with ⟨h, _⟩ | ⟨g', _, _, h, hg', _⟩
      · rw [h] at hgrow
        exact HX.out.trans ⟨hgrow.os, hgrow.tape, hgrow.output, hgrow.size, fun i hi => hgrow.block i hi (by simp [Value.ownBlock])⟩
      · rw [h] at hgrow
        exact Ext.only HX.out hgrow hg'
    obtain ⟨hg, cur, hrow⟩ := Row.of_own hown
    have hq : Row w' g 50 7 (insAt ls n x).length cap (lots (insAt ls n x)) cur := by rw [HLN.out, ← H1.out]; exact hrow
    exact ⟨some ⟨g, 0, none⟩, cap, by rw [HLN.out]; rfl, hq.reads, hq.le, hx2⟩
set_option maxRecDepth 100000 in
theorem insertL (ls : List LotV) (k : Nat) (x : LotV) (A : Option Addr) (c vb : Nat) (w0 w : World) (hk : k ≤ ls.length) (ho : OwnL w w0.heap.size (.slice A ls.length c) ls) (hr : 0 < ls.length → ∃ g, A = some ⟨g, 0, none⟩ ∧ w0.heap.size ≤ g ∧ RowL w g c ls ∧ vb ≠ g) (hx : Ext w0 w) (hvb : Blk w vb 50 (lc x)) (hn : ls.length ≤ 1000000) :
    Calls Tryz.prog 84 #[.slice A ls.length c, .int .i64 k, .slice (some ⟨vb, 0, none⟩) 1 1] w (InsertedL ls k x w0) := by
  by_cases he : k = ls.length
  · subst he
    exact insertEnd ls x A c vb w0 w ho hx hvb hn
  have hlt : k < ls.length := by omega
  obtain ⟨g, rfl, hg, ⟨cur, hrow⟩, hne⟩ := hr (by omega)
  clear ho he
  have hl : (insAt ls k x).length = ls.length + 1 := insAt_len hk
  have hbig : c ≤ 9223372036854775807 := by have := hrow.big; unfold maxLen at this; omega
  by_cases hroom : ls.length + 1 ≤ c
  · refine (insertShiftL g c ls.length k vb (lots ls) cur (lotCells x) w hrow (oneL ls) hvb hne rfl (one_lot x) hlt hroom hbig).mono ?_
    rintro e w' ⟨g', cap', cur', rfl, hg', hrow', honly⟩
    have hq : Row w' g' 50 7 (insAt ls k x).length cap' (lots (insAt ls k x)) cur' := by rw [hl, lots_insAt hk]; exact hrow'
    exact ⟨some ⟨g', 0, none⟩, cap', by rw [hl], hq.reads, hq.le, Ext.only hx honly hg⟩
  · obtain rfl : c = ls.length := by have := hrow.le; omega
    refine (insertGrowL g ls.length k vb (lots ls) cur (lotCells x) w hrow (oneL ls) hvb rfl (one_lot x) hlt hn).mono ?_
    rintro e w' ⟨g', cap', cur', rfl, hg', hrow', honly⟩
    have hq : Row w' g' 50 7 (insAt ls k x).length cap' (lots (insAt ls k x)) cur' := by rw [hl, lots_insAt hk]; exact hrow'
    exact ⟨some ⟨g', 0, none⟩, cap', by rw [hl], hq.reads, hq.le, Ext.only hx honly hg⟩
end Go.Proofs.YtikehdbkiplleaaGreatDoor
/- Plain: the average after a purchase; lots with a further one. No program in sight. -/
namespace Go.Proofs.YtikehdbkiplleaaGreatDoor
open Go.RowKit

theorem divInt_le {a b c d : Int} (hb : 0 < b) (hd : 0 < d) (h : a * d ≤ c * b) : Rat.divInt a b ≤ Rat.divInt c d := by
  have k1 : (0 : Rat) < (b : Rat) := Rat.intCast_pos.2 hb
  have k2 : (0 : Rat) < (d : Rat) := Rat.intCast_pos.2 hd
  have k3 : (a : Rat) * (d : Rat) ≤ (c : Rat) * (b : Rat) := by
    have := Rat.intCast_le_intCast.2 h
    simpa using this
  have m1 : Rat.divInt a b * (b : Rat) = (a : Rat) := by
    rw [Rat.divInt_eq_div]
    exact Rat.div_mul_cancel (by grind)
  have m2 : Rat.divInt c d * (d : Rat) = (c : Rat) := by
    rw [Rat.divInt_eq_div]
    exact Rat.div_mul_cancel (by grind)
  generalize Rat.divInt a b = p at *
  generalize Rat.divInt c d = r at *
  generalize (a : Rat) = a at *
  generalize (b : Rat) = b at *
  generalize (c : Rat) = c at *
  generalize (d : Rat) = d at *
  subst m1 m2
  refine Rat.not_lt.1 (fun hlt => ?_)
  have h1 := Rat.mul_pos k1 k2
  have h2 := Rat.mul_lt_mul_of_pos_right hlt h1
  grind
theorem le_of_divInt {a b c d : Int} (hb : 0 < b) (hd : 0 < d) (h : Rat.divInt a b ≤ Rat.divInt c d) : a * d ≤ c * b := by
  have k1 : (0 : Rat) < (b : Rat) := Rat.intCast_pos.2 hb
  have k2 : (0 : Rat) < (d : Rat) := Rat.intCast_pos.2 hd
  have m1 : Rat.divInt a b * (b : Rat) = (a : Rat) := by
    rw [Rat.divInt_eq_div]
    exact Rat.div_mul_cancel (by grind)
  have m2 : Rat.divInt c d * (d : Rat) = (c : Rat) := by
    rw [Rat.divInt_eq_div]
    exact Rat.div_mul_cancel (by grind)
  have key : (a : Rat) * (d : Rat) ≤ (c : Rat) * (b : Rat) := by
    have h2 := Rat.mul_le_mul_of_nonneg_right h (Rat.le_of_lt (Rat.mul_pos k1 k2))
    rw [← m1, ← m2]
    generalize Rat.divInt a b = p at *
    generalize Rat.divInt c d = r at *
    generalize (b : Rat) = b at *
    generalize (d : Rat) = d at *
    grind
  refine Rat.intCast_le_intCast.1 ?_
  simpa using key
/-- the mediant -/
theorem mediant {a b c d : Int} (hb : 0 < b) (hd : 0 < d) (h : Rat.divInt a b ≤ Rat.divInt c d) : Rat.divInt a b ≤ Rat.divInt (a + c) (b + d) ∧ Rat.divInt (a + c) (b + d) ≤ Rat.divInt c d := by
  have := le_of_divInt hb hd h
  constructor
  · refine divInt_le hb (by omega) ?_
    rw [Int.mul_add, Int.add_mul]; omega
  · refine divInt_le (by omega) hd ?_
    rw [Int.mul_add, Int.add_mul]; omega
/-- behind which of the first n lots a further one is put -/
def putK (ls : List LotV) (ins : Bs) : Nat → Nat
  | 0 => 0
  | n + 1 => match ls[n]? with
    | some y => if (Op.bytesLess y.ins ins || y.ins == ins) = true then n + 1 else putK ls ins n
    | none => putK ls ins n
theorem putK_le (ls : List LotV) (ins : Bs) : ∀ n, putK ls ins n ≤ n
  | 0 => Nat.le_refl _
  | n + 1 => by
    have := putK_le ls ins n
    unfold putK
    split
    · split <;> omega
    · omega
theorem putK_hit {ls : List LotV} {ins : Bs} {k : Nat} (hk : k < ls.length) (h : (Op.bytesLess (ls[k]'hk).ins ins || (ls[k]'hk).ins == ins) = true) : putK ls ins (k + 1) = k + 1 := by
  conv => lhs; unfold putK
  rw [List.getElem?_eq_getElem hk]
  exact if_pos h
theorem putK_skip {ls : List LotV} {ins : Bs} {k : Nat} (hk : k < ls.length) (h : (Op.bytesLess (ls[k]'hk).ins ins || (ls[k]'hk).ins == ins) = false) : putK ls ins (k + 1) = putK ls ins k := by
  conv => lhs; unfold putK
  rw [List.getElem?_eq_getElem hk]
  exact if_neg (by rw [h]; decide)
/-- what Open answers -/
def openV (ls : List LotV) (x : LotV) : List LotV × Int :=
  if checkAllL ls ≠ 0 then ([], 1) else if checkL x ≠ 0 then ([], checkL x) else if (findL ls x.id).isSome = true then ([], 5) else if 1000 ≤ ls.length then ([], 4) else (insAt ls (putK ls x.ins ls.length) x, 0)
theorem tot_insAt {ls : List LotV} {k : Nat} (x : LotV) (ins : Bs) : totQ (insAt ls k x) ins = totQ ls ins + (if x.ins = ins then valI x.q else 0) ∧ totC (insAt ls k x) ins = totC ls ins + (if x.ins = ins then valI x.c else 0) := by
  obtain ⟨h1, h2⟩ := tot_one x ins
  have e1 : totQ ls ins = totQ (ls.take k ++ ls.drop k) ins := by rw [List.take_append_drop]
  have e2 : totC ls ins = totC (ls.take k ++ ls.drop k) ins := by rw [List.take_append_drop]
  rw [totQ_app] at e1
  rw [totC_app] at e2
  unfold insAt
  simp only [totQ_app, totC_app]
  rw [h1, h2]
  omega
theorem mem_insAt {ls : List LotV} {k : Nat} {x y : LotV} (h : y ∈ insAt ls k x) : y ∈ ls ∨ y = x := by
  unfold insAt at h
  rw [List.mem_append, List.mem_append, List.mem_singleton] at h
  rcases h with (h | h) | h
  · exact .inl (List.mem_of_mem_take h)
  · exact .inr h
  · exact .inl (List.mem_of_mem_drop h)
theorem insAt_perm (ls : List LotV) (k : Nat) (x : LotV) : (insAt ls k x).Perm (x :: ls) := by
  have h : insAt ls k x = ls.take k ++ x :: ls.drop k := by simp [insAt]
  rw [h]
  have := List.perm_middle (a := x) (l₁ := ls.take k) (l₂ := ls.drop k)
  rwa [List.take_append_drop] at this
theorem insAt_check {ls : List LotV} {k : Nat} {x : LotV} (hk : k ≤ ls.length) (hv : checkAllL ls = 0) (hx : checkL x = 0) (hf : (findL ls x.id).isSome = false) (hl : ls.length < 1000) : checkAllL (insAt ls k x) = 0 := by
  obtain ⟨h1, h2⟩ := checkAllL_ok hv
  have h3 := checkAll_ids hv
  unfold checkAllL
  rw [insAt_len hk, if_neg (by omega)]
  refine goAll_make _ _ (fun y hy => ?_) ?_ (fun _ _ => List.not_mem_nil)
  · rcases mem_insAt hy with h | rfl
    · exact h2 y h
    · exact hx
  · refine (((insAt_perm ls k x).map (·.id)).nodup_iff).2 ?_
    rw [List.map_cons, List.nodup_cons]
    refine ⟨fun hm => ?_, h3⟩
    rw [(findL_some_iff ls x.id).2 hm] at hf
    cases hf
section
variable {ls : List LotV} {x : LotV}
theorem buy_after (hv : checkAllL ls = 0) (hx : checkL x = 0) : afterV ls x.ins x.q x.c = (ofQ (Rat.divInt (totC ls x.ins + valI x.c) (totQ ls x.ins + valI x.q)), 0) := by
  obtain ⟨o1, o2, o3, o4, _⟩ := checkL_ok hx
  have hq := totQ_nonneg (ins := x.ins) hv
  unfold afterV
  rw [avgE_ok hv (by intro a ha; simp only [List.mem_cons, List.not_mem_nil, or_false] at ha; rcases ha with rfl | rfl <;> assumption), if_neg (by decide), if_neg (by omega), if_neg (by omega)]
  unfold newV
  rw [if_neg (by omega)]
theorem buy_own (hx : checkL x = 0) : newV (valI x.c) (valI x.q) = (ofQ (Rat.divInt (valI x.c) (valI x.q)), 0) := by
  obtain ⟨o1, o2, o3, o4, _⟩ := checkL_ok hx
  unfold newV
  rw [if_neg (by omega)]
theorem buy_none (hv : checkAllL ls = 0) (h : totQ ls x.ins = 0) : Rat.divInt (totC ls x.ins + valI x.c) (totQ ls x.ins + valI x.q) = Rat.divInt (valI x.c) (valI x.q) := by
  have h1 := (totQ_zero hv).1 h
  have h2 : totC ls x.ins = 0 := by
    have := List.length_eq_zero_iff.1 h1
    unfold totC; rw [this]; rfl
  rw [h, h2, Int.zero_add, Int.zero_add]
theorem buy_some (hx : checkL x = 0) (h : 0 < totQ ls x.ins) :
    (Rat.divInt (totC ls x.ins) (totQ ls x.ins) ≤ Rat.divInt (valI x.c) (valI x.q) → Rat.divInt (totC ls x.ins) (totQ ls x.ins) ≤ Rat.divInt (totC ls x.ins + valI x.c) (totQ ls x.ins + valI x.q) ∧ Rat.divInt (totC ls x.ins + valI x.c) (totQ ls x.ins + valI x.q) ≤ Rat.divInt (valI x.c) (valI x.q)) ∧
    (Rat.divInt (valI x.c) (valI x.q) ≤ Rat.divInt (totC ls x.ins) (totQ ls x.ins) → Rat.divInt (valI x.c) (valI x.q) ≤ Rat.divInt (totC ls x.ins + valI x.c) (totQ ls x.ins + valI x.q) ∧ Rat.divInt (totC ls x.ins + valI x.c) (totQ ls x.ins + valI x.q) ≤ Rat.divInt (totC ls x.ins) (totQ ls x.ins)) := by
  obtain ⟨_, _, o3, _, _⟩ := checkL_ok hx
  refine ⟨fun k => mediant h o3 k, fun k => ?_⟩
  have := mediant o3 h k
  rwa [Int.add_comm (valI x.c), Int.add_comm (valI x.q)] at this
theorem buy_now {k : Nat} (hk : k ≤ ls.length) (hv : checkAllL ls = 0) (hx : checkL x = 0) (hf : (findL ls x.id).isSome = false) (hl : ls.length < 1000) :
    priceV (insAt ls k x) x.ins = (ofQ (Rat.divInt (totC ls x.ins + valI x.c) (totQ ls x.ins + valI x.q)), 0) := by
  obtain ⟨h1, h2⟩ := tot_insAt (ls := ls) (k := k) x x.ins
  rw [if_pos rfl] at h1 h2
  obtain ⟨_, _, o3, _, _⟩ := checkL_ok hx
  have hq := totQ_nonneg (ins := x.ins) hv
  rw [priceV_ok (insAt_check hk hv hx hf hl) (by omega), h1, h2]
theorem sum_qbL {a b c d : Bs} {L : Nat} (h0 : 0 < L) (h1 : a.length ≤ L) (h2 : b.length ≤ L) (h3 : c.length ≤ L) (h4 : d.length ≤ L) : QB (L + 1) (Rat.divInt (valI a + valI c) (valI b + valI d)) :=
  qb_divInt (by omega) (Nat.lt_of_le_of_lt (Int.natAbs_add_le _ _) (add_lt10 (valI_lt10 h1) (valI_lt10 h3))) (Nat.lt_of_le_of_lt (Int.natAbs_add_le _ _) (add_lt10 (valI_lt10 h2) (valI_lt10 h4)))
theorem buy_qb {w : World} {A : Option Addr} (h : LotsAt w A ls) (ins : Bs) (hs : SmallL x) : QB 2001 (Rat.divInt (totC ls ins + valI x.c) (totQ ls ins + valI x.q)) := by
  obtain ⟨_, _, s3, s4, _⟩ := hs
  have := sum_qbL (a := ofI (totC ls ins)) (b := ofI (totQ ls ins)) (c := x.c) (d := x.q) (L := 2000) (by omega) (totC_le h ins) (totQ_le h ins) (by omega) (by omega)
  rwa [valI_ofI, valI_ofI] at this
theorem own_qb (hs : SmallL x) : QB 2000 (Rat.divInt (valI x.c) (valI x.q)) := by
  obtain ⟨_, _, s3, s4, _⟩ := hs
  exact qb_two (by omega) (by omega) (by omega)
end
end Go.Proofs.YtikehdbkiplleaaGreatDoor
/- The walk over the program's Open of a lot, for valid lots. -/
namespace Go.Proofs.YtikehdbkiplleaaGreatDoor
open Go.RowKit
attribute [local go_sem] size_bs toList_bs

set_option maxRecDepth 100000 in
set_option maxHeartbeats 4000000 in
theorem lotOpen_no (ls : List LotV) (x : LotV) (A : Option Addr) (c : Nat) (w : World) (hE : Env w) (hL : LotsAt w A ls) (hs : SmallL x) (hv : checkAllL ls = 0) (hx : checkL x = 0) (hf : (findL ls x.id).isSome = true) :
    Calls Tryz.prog 47 #[.slice A ls.length c, lv x] w fun e w' => e = .returned (.tuple #[.slice none 0 0, .int .i64 5]) ∧ Ext w w' := by
  have HE := Lib.hid hE
  have HL := Lib.hid hL
  have ca := fun W hx => lotCheckAll ls A c W (hE.ext hx) (hL.rd.ext hx) hL.sm hL.le
  rw [hv] at ca
  have ck := lotCheck x hs
  rw [hx] at ck
  have lf := fun W hx => lotFind ls A c x.id W (hL.rd.ext hx) (by have := hL.le; omega)
  rw [hf] at lf
  have CA := Lib.hid ca
  have CK := Lib.hid ck
  have LF := Lib.hid lf
  have HB := Lib.hid (Blk.new w 50 (lc x))
  have HX : Hid (Ext w (w.alloc (.cells (lc x) 50))) := Lib.hid (Ext.new _ _)
  clear ca ck lf hE hL hv hx hf hs
  generalize findI ls x.id = fi at *
  go_enter Tryz.func47, Tryz.ntmps47
  go_wp2_with fail
  refine (CA.out _ HX.out).mono ?_
  rintro e v1 ⟨rfl, hx1⟩
  replace HB := Lib.hid (HB.out.ext hx1)
  replace HX := Lib.hid (HX.out.trans hx1)
  clear hx1
  obtain ⟨p0, p1, p2, p3, p4, p5, p6⟩ := lotBlk HB.out (Ext.refl _)
  go_wp2_with fail
  refine (CK.out _ (HE.out.ext HX.out)).mono ?_
  rintro e v2 ⟨rfl, hx1⟩
  replace HB := Lib.hid (HB.out.ext hx1)
  replace HX := Lib.hid (HX.out.trans hx1)
  clear hx1
  obtain ⟨p0, p1, p2, p3, p4, p5, p6⟩ := lotBlk HB.out (Ext.refl _)
  go_wp2_with fail
  refine (LF.out _ HX.out).mono ?_
  rintro e v3 ⟨rfl, hx1⟩
  replace HX := Lib.hid (HX.out.trans hx1)
  clear hx1
  go_wp2_with fail
  go_ret2
  exact ⟨rfl, HX.out⟩
theorem own_on {w w' : World} {base : Nat} {v : Value} {ls : List LotV} (h : OwnL w base v ls) (hx : Ext w w') : OwnL w' base v ls := own_ext2 h hx
/-- how Open ends -/
def OpenEnds (ls : List LotV) (w : World) (e : Ending) (w' : World) : Prop :=
  ∃ A c, e = .returned (.tuple #[.slice A ls.length c, .int .i64 0]) ∧ RdL w' A ls ∧ ls.length ≤ c ∧ Ext w w'
set_option maxRecDepth 100000 in
set_option maxHeartbeats 4000000 in
theorem lotOpen_ok (ls : List LotV) (x : LotV) (A : Option Addr) (c : Nat) (w : World) (hE : Env w) (hL : LotsAt w A ls) (hs : SmallL x) (hv : checkAllL ls = 0) (hx : checkL x = 0) (hf : (findL ls x.id).isSome = false) (hl : ls.length < 1000) :
    Calls Tryz.prog 47 #[.slice A ls.length c, lv x] w (OpenEnds (insAt ls (putK ls x.ins ls.length) x) w) := by
  have HE := Lib.hid hE
  have HA := Lib.hid hL.rd
  have ca := fun W hx => lotCheckAll ls A c W (hE.ext hx) (hL.rd.ext hx) hL.sm hL.le
  rw [hv] at ca
  have ck := lotCheck x hs
  rw [hx] at ck
  have lf := fun W hx => lotFind ls A c x.id W (hL.rd.ext hx) (by have := hL.le; omega)
  rw [hf] at lf
  have CA := Lib.hid ca
  have CK := Lib.hid ck
  have LF := Lib.hid lf
  have HCL := Lib.hid (fun W hx => cloneO ls A c W (hL.rd.ext hx) (by have := hL.le; omega))
  have HB := Lib.hid (Blk.new w 50 (lc x))
  have HX : Hid (Ext w (w.alloc (.cells (lc x) 50))) := Lib.hid (Ext.new _ _)
  have g1 : decide (1000 ≤ (ls.length : Int)) = false := by rw [decide_eq_false_iff_not]; omega
  clear ca ck lf hE hL hv hx hf hs
  generalize findI ls x.id = fi at *
  go_enter Tryz.func47, Tryz.ntmps47
  go_wp2_with fail
  refine (CA.out _ HX.out).mono ?_
  rintro e v4 ⟨rfl, hx1⟩
  replace HB := Lib.hid (HB.out.ext hx1)
  replace HX := Lib.hid (HX.out.trans hx1)
  clear hx1
  generalize hg : w.heap.size = g at *
  clear hg
  obtain ⟨p0, p1, p2, p3, p4, p5, p6⟩ := lotBlk HB.out (Ext.refl _)
  go_wp2_with fail
  refine (CK.out _ (HE.out.ext HX.out)).mono ?_
  rintro e v5 ⟨rfl, hx1⟩
  replace HB := Lib.hid (HB.out.ext hx1)
  replace HX := Lib.hid (HX.out.trans hx1)
  clear hx1
  obtain ⟨p0, p1, p2, p3, p4, p5, p6⟩ := lotBlk HB.out (Ext.refl _)
  go_wp2_with fail
  refine (LF.out _ HX.out).mono ?_
  rintro e v6 ⟨rfl, hx1⟩
  replace HB := Lib.hid (HB.out.ext hx1)
  replace HX := Lib.hid (HX.out.trans hx1)
  clear hx1
  clear p0 p1 p2 p3 p4 p5 p6
  go_wp2_with fail
  go_loopw [33, 9, 10, 11] (fun i at_ _ _ wr => ∃ k : Nat, k ≤ ls.length ∧ i = .int .i64 k ∧ at_ = .int .i64 (putK ls x.ins k : Nat) ∧ Ext w wr ∧ Blk wr g 50 (lc x)) (fun i _ _ _ _ => ls.length - (intOf i).toNat)
  case atStart => exact ⟨0, by omega, rfl, rfl, HX.out, HB.out⟩
  case round =>
    clear HX HB
    obtain ⟨k, hk, rfl, rfl, hx, hb⟩ := hrel
    have HX := Lib.hid hx
    have HB := Lib.hid hb
    clear hx hb
    obtain ⟨p0, p1, p2, p3, p4, p5, p6⟩ := lotBlk HB.out (Ext.refl _)
    by_cases hlt : k < ls.length
    · obtain ⟨b, o, rfl, hbl, c0, c1, c2, c3, c4, c5, c6⟩ := (HA.out.ext HX.out).at_ hlt
      have hki : (k : Int) < (ls.length : Int) := by omega
      have hk0 : (0 : Int) ≤ (k : Int) := by omega
      have hgl := HB.out.lt
      have PH := Lib.hid (fun h => putK_hit (ins := x.ins) hlt h)
      have PS := Lib.hid (fun h => putK_skip (ins := x.ins) hlt h)
      generalize hpk : putK ls x.ins k = pk at *
      generalize ls[k]'hlt = y at *
      have HXN : Hid (Ext w (wr.alloc (.cells (lc y) 50))) := Lib.hid (HX.out.alloc _)
      have HBN : Hid (Blk (wr.alloc (.cells (lc y) 50)) g 50 (lc x)) := Lib.hid (HB.out.alloc _)
      obtain ⟨q0, q1, q2, q3, q4, q5, q6⟩ := lotBlk HBN.out (Ext.refl _)
      cases hle : (Op.bytesLess y.ins x.ins || y.ins == x.ins)
      · have HP := Lib.hid (PS.out hle)
        clear PH PS hpk
        go_wp2_with fail
        go_roundw
        case rel => exact ⟨k + 1, by omega, by go_num, by rw [HP.out], HXN.out, HBN.out⟩
        case measure => simp [intOf]; omega
      · have HP := Lib.hid (PH.out hle)
        clear PH PS hpk
        go_wp2_with fail
        go_roundw
        case rel => exact ⟨k + 1, by omega, by go_num, by rw [HP.out]; go_num, HXN.out, HBN.out⟩
        case measure => simp [intOf]; omega
    · have hkl : k = ls.length := by omega
      subst hkl
      have hpl := putK_le ls x.ins ls.length
      generalize putK ls x.ins ls.length = pk at *
      have HIN := Lib.hid (fun A' c' vb w0 w1 ho hr hx hb => insertL ls pk x A' c' vb w0 w1 hpl ho hr hx hb (by omega))
      have hgl := HB.out.lt
      have HD : Hid (Ext w wr.drew) := Lib.hid HX.out.drew
      have HD2 : Hid (Ext w (wr.alloc (.cells (lc x) 50)).drew) := Lib.hid (HX.out.alloc _).drew
      go_upto_region 18 with fail
      go_cut [4, 5] (fun p4 p5 wx => ∃ A' c', p4 = .slice A' (insAt ls pk x).length c' ∧ p5 = .int .i64 0 ∧ RdL wx A' (insAt ls pk x) ∧ (insAt ls pk x).length ≤ c' ∧ Ext w wx)
      case first =>
        go_region_held3 (fun w' => w'.cell? ⟨g, 0, none⟩ = some (.string (bs x.id)) ∧ w'.cell? ⟨g, 1, none⟩ = some (.string (bs x.ins)) ∧ w'.cell? ⟨g, 2, none⟩ = some (.int .i64 x.acq) ∧ w'.cell? ⟨g, 3, none⟩ = some (.int .i64 x.opn) ∧ w'.cell? ⟨g, 4, none⟩ = some (.string (bs x.q)) ∧ w'.cell? ⟨g, 5, none⟩ = some (.string (bs x.c)) ∧ w'.cell? ⟨g, 6, none⟩ = some (.string (bs x.u)))
          (go_keep)
          (first
            | (go_at_call 39; (with_reducible refine (HCL.out _ HD.out).mono ?_); (rintro e w5 ⟨A5, c5, rfl, hx5, ho5, hr5⟩); (have HBW := Lib.hid (HB.out.drew.ext hx5)); (have HO := Lib.hid (And.intro hx5 (And.intro ho5 hr5))); (obtain ⟨_, _, _, _, _, _, _⟩ := lotBlk HBW.out (Ext.refl _)); clear hx5 ho5 hr5)
            | (go_at_call 39; (with_reducible refine (HCL.out _ HD2.out).mono ?_); (rintro e w5 ⟨A5, c5, rfl, hx5, ho5, hr5⟩); (have HBW := Lib.hid ((HB.out.alloc (.cells (lc x) 50)).drew.ext hx5)); (have HO := Lib.hid (And.intro hx5 (And.intro ho5 hr5))); (obtain ⟨_, _, _, _, _, _, _⟩ := lotBlk HBW.out (Ext.refl _)); clear hx5 ho5 hr5)
            | (go_at_call 84; (with_reducible refine (HIN.out A5 c5 w5.heap.size wr.drew _ (own_on HO.out.2.1 (Ext.new _ _)) ?_ (HO.out.1.alloc _) (Blk.new _ _ _)).mono ?_); (focus (intro h0; obtain ⟨g5, e5, hg5, hrow5⟩ := HO.out.2.2 h0; exact ⟨g5, e5, hg5, hrow5.ext (Ext.new _ _), Nat.ne_of_gt hrow5.lt⟩)); (rintro e w6 ⟨A6, c6, rfl, hr6, hc6, hx6⟩); (have HX6 := Lib.hid (HD.out.trans hx6)); (have HBW := Lib.hid (HB.out.drew.ext hx6)); (have HR6 := Lib.hid (And.intro hr6 hc6)); (obtain ⟨_, _, _, _, _, _, _⟩ := lotBlk HBW.out (Ext.refl _)); clear hr6 hc6 hx6)
            | (go_at_call 84; (with_reducible refine (HIN.out A5 c5 wr.heap.size (wr.alloc (.cells (lc x) 50)).drew _ HO.out.2.1 ?_ HO.out.1 ((Blk.new _ _ _).drew.ext HO.out.1)).mono ?_); (focus (intro h0; obtain ⟨g5, e5, hg5, hrow5⟩ := HO.out.2.2 h0; exact ⟨g5, e5, hg5, hrow5, Nat.ne_of_lt (Nat.lt_of_lt_of_le (by simp) hg5)⟩)); (rintro e w6 ⟨A6, c6, rfl, hr6, hc6, hx6⟩); (have HX6 := Lib.hid (HD2.out.trans hx6)); (have HBW := Lib.hid ((HB.out.alloc (.cells (lc x) 50)).drew.ext hx6)); (have HR6 := Lib.hid (And.intro hr6 hc6)); (obtain ⟨_, _, _, _, _, _, _⟩ := lotBlk HBW.out (Ext.refl _)); clear hr6 hc6 hx6))
        all_goals
          go_wp2_with fail
          go_meet
          exact ⟨A6, c6, rfl, rfl, HR6.out.1, HR6.out.2, HX6.out⟩
      case rest =>
        obtain ⟨A9, c9, rfl, rfl, hr9, hc9, hx9⟩ := hcut
        have HR := Lib.hid (And.intro hr9 (And.intro hc9 hx9))
        clear hr9 hc9 hx9
        go_wp2_with fail
        go_ret2
        exact ⟨A9, c9, rfl, HR.out.1, HR.out.2.1, HR.out.2.2⟩
end Go.Proofs.YtikehdbkiplleaaGreatDoor
/- The walk over the law AverageBuys. -/
namespace Go.Proofs.YtikehdbkiplleaaGreatDoor
open Go.RowKit
attribute [local go_sem] size_bs toList_bs

abbrev fc (f : Fr) : Array Value := #[.string (bs f.num), .string (bs f.den)]
/-- the lot, the average behind, the price of the purchase, the average before -/
structure BuyAt (w : World) (g GA GO GP : Nat) (x : LotV) (af of_ bf : Fr) (W : World) : Prop where
  ext : Ext w W
  bx : Blk W g 50 (lc x)
  ba : Blk W GA 28 (fc af)
  bo : Blk W GO 28 (fc of_)
  bp : Blk W GP 28 (fc bf)
structure BuyLt (w W : World) (g GA GO GP : Nat) : Prop where
  xa : g < GA
  ao : GA < GO
  op : GO < GP
  w : w.heap.size ≤ g
  W : GP < W.heap.size
section
variable {w W W' : World} {g GA GO GP : Nat} {x : LotV} {af of_ bf : Fr}
theorem BuyAt.on (h : BuyAt w g GA GO GP x af of_ bf W) (hx : Ext W W') : BuyAt w g GA GO GP x af of_ bf W' := ⟨h.ext.trans hx, h.bx.ext hx, h.ba.ext hx, h.bo.ext hx, h.bp.ext hx⟩
/-- a fraction stored over the last -/
theorem BuyAt.over (h : BuyAt w g GA GO GP x af of_ bf W) (hl : BuyLt w W g GA GO GP) (r : Fr) : BuyAt w g GA GO GP x af of_ r ((W.setCell ⟨GP, 0, none⟩ (.string (bs r.num))).setCell ⟨GP, 1, none⟩ (.string (bs r.den))) := by
  have h1 := hl.xa
  have h2 := hl.ao
  have h3 := hl.op
  have h4 := hl.w
  refine ⟨(h.ext.setCell (p := ⟨GP, 0, none⟩) (by show w.heap.size ≤ GP; omega) _).setCell (p := ⟨GP, 1, none⟩) (by show w.heap.size ≤ GP; omega) _, (h.bx.far (p := ⟨GP, 0, none⟩) (by show g ≠ GP; omega) _).far (p := ⟨GP, 1, none⟩) (by show g ≠ GP; omega) _, (h.ba.far (p := ⟨GP, 0, none⟩) (by show GA ≠ GP; omega) _).far (p := ⟨GP, 1, none⟩) (by show GA ≠ GP; omega) _, (h.bo.far (p := ⟨GP, 0, none⟩) (by show GO ≠ GP; omega) _).far (p := ⟨GP, 1, none⟩) (by show GO ≠ GP; omega) _, (h.bp.set_ 0 _).set_ 1 _⟩
end
/-- the lot, the average behind, the lower and the higher of the two others -/
structure LowAt (w : World) (g GA LO HI : Nat) (x : LotV) (af lo hi : Fr) (W : World) : Prop where
  ext : Ext w W
  bx : Blk W g 50 (lc x)
  ba : Blk W GA 28 (fc af)
  bl : Blk W LO 28 (fc lo)
  bh : Blk W HI 28 (fc hi)
structure LowLt (w : World) (g GA LO HI : Nat) : Prop where
  xl : g < LO
  xh : g < HI
  al : GA < LO
  ah : GA < HI
  lh : LO ≠ HI
  w : w.heap.size ≤ g
section
variable {w W W' : World} {g GA LO HI : Nat} {x : LotV} {af lo hi : Fr}
theorem LowAt.on (h : LowAt w g GA LO HI x af lo hi W) (hx : Ext W W') : LowAt w g GA LO HI x af lo hi W' := ⟨h.ext.trans hx, h.bx.ext hx, h.ba.ext hx, h.bl.ext hx, h.bh.ext hx⟩
theorem LowAt.swap (h : LowAt w g GA LO HI x af lo hi W) (hl : LowLt w g GA LO HI) : LowAt w g GA LO HI x af hi lo ((((W.setCell ⟨LO, 0, none⟩ (.string (bs hi.num))).setCell ⟨LO, 1, none⟩ (.string (bs hi.den))).setCell ⟨HI, 0, none⟩ (.string (bs lo.num))).setCell ⟨HI, 1, none⟩ (.string (bs lo.den))) := by
  have h1 := hl.xl
  have h2 := hl.xh
  have h3 := hl.al
  have h4 := hl.ah
  have h5 := hl.lh
  have h6 := hl.w
  refine ⟨(((h.ext.setCell (p := ⟨LO, 0, none⟩) (by show w.heap.size ≤ LO; omega) _).setCell (p := ⟨LO, 1, none⟩) (by show w.heap.size ≤ LO; omega) _).setCell (p := ⟨HI, 0, none⟩) (by show w.heap.size ≤ HI; omega) _).setCell (p := ⟨HI, 1, none⟩) (by show w.heap.size ≤ HI; omega) _, ?_, ?_, ?_, ?_⟩
  · exact (((h.bx.far (p := ⟨LO, 0, none⟩) (by show g ≠ LO; omega) _).far (p := ⟨LO, 1, none⟩) (by show g ≠ LO; omega) _).far (p := ⟨HI, 0, none⟩) (by show g ≠ HI; omega) _).far (p := ⟨HI, 1, none⟩) (by show g ≠ HI; omega) _
  · exact (((h.ba.far (p := ⟨LO, 0, none⟩) (by show GA ≠ LO; omega) _).far (p := ⟨LO, 1, none⟩) (by show GA ≠ LO; omega) _).far (p := ⟨HI, 0, none⟩) (by show GA ≠ HI; omega) _).far (p := ⟨HI, 1, none⟩) (by show GA ≠ HI; omega) _
  · exact (((h.bl.set_ 0 _).set_ 1 _).far (p := ⟨HI, 0, none⟩) (by show LO ≠ HI; omega) _).far (p := ⟨HI, 1, none⟩) (by show LO ≠ HI; omega) _
  · exact ((((h.bh.far (p := ⟨LO, 0, none⟩) (by show HI ≠ LO; omega) _).far (p := ⟨LO, 1, none⟩) (by show HI ≠ LO; omega) _).set_ 0 _).set_ 1 _)
end
/-- the average behind lies between the two -/
def GoodBuy (lo hi af : Fr) : Prop := ∃ k2 k3, k2 ≤ 0 ∧ k3 ≤ 0 ∧ Pure 30 #[fv lo, fv af] (.int .i64 k2) ∧ Pure 30 #[fv af, fv hi] (.int .i64 k3)
/-- what the comparisons of the three fractions say -/
structure BuyCmp (bf of_ af : Fr) (k1 : Int) : Prop where
  c1 : Pure 30 #[fv bf, fv of_] (.int .i64 k1)
  stay : ¬ 0 < k1 → ∃ k2 k3, k2 ≤ 0 ∧ k3 ≤ 0 ∧ Pure 30 #[fv bf, fv af] (.int .i64 k2) ∧ Pure 30 #[fv af, fv of_] (.int .i64 k3)
  turn : 0 < k1 → ∃ k2 k3, k2 ≤ 0 ∧ k3 ≤ 0 ∧ Pure 30 #[fv of_, fv af] (.int .i64 k2) ∧ Pure 30 #[fv af, fv bf] (.int .i64 k3)
theorem buyCmp {b o a : Rat} (hb : QB 2001 b) (ho : QB 2001 o) (ha : QB 2001 a) (h1 : b ≤ o → b ≤ a ∧ a ≤ o) (h2 : o ≤ b → o ≤ a ∧ a ≤ b) : BuyCmp (ofQ b) (ofQ o) (ofQ a) (cmpQ b o) := by
  have lb1 := hb.num_len
  have lb2 := hb.den_len
  have lo1 := ho.num_len
  have lo2 := ho.den_len
  have la1 := ha.num_len
  have la2 := ha.den_len
  have key : ∀ (p q : Rat), (ofQ p).num.length ≤ 20000 → (ofQ p).den.length ≤ 20000 → (ofQ q).num.length ≤ 20000 → (ofQ q).den.length ≤ 20000 → Pure 30 #[fv (ofQ p), fv (ofQ q)] (.int .i64 (cmpQ p q)) := fun p q k1 k2 k3 k4 => by
    have := fracCmp (ofQ p) (ofQ q) k1 k2 k3 k4
    rwa [frQ_ofQ, frQ_ofQ] at this
  have le : ∀ (p q : Rat), p ≤ q → cmpQ p q ≤ 0 := fun p q h => by
    have := cmpQ_pos (p := p) (q := q)
    rcases Int.lt_or_le 0 (cmpQ p q) with k | k
    · exact absurd (this.1 k) (Rat.not_lt.2 h)
    · exact k
  refine ⟨key b o (by omega) (by omega) (by omega) (by omega), fun h => ?_, fun h => ?_⟩
  · have hle : b ≤ o := Rat.not_lt.1 (fun k => h (cmpQ_pos.2 k))
    obtain ⟨e1, e2⟩ := h1 hle
    exact ⟨_, _, le _ _ e1, le _ _ e2, key b a (by omega) (by omega) (by omega) (by omega), key a o (by omega) (by omega) (by omega) (by omega)⟩
  · have hle : o ≤ b := Rat.le_of_lt (cmpQ_pos.1 h)
    obtain ⟨e1, e2⟩ := h2 hle
    exact ⟨_, _, le _ _ e1, le _ _ e2, key o a (by omega) (by omega) (by omega) (by omega), key a b (by omega) (by omega) (by omega) (by omega)⟩
theorem buy_all {ls : List LotV} {x : LotV} {w : World} {A : Option Addr} (hL : LotsAt w A ls) (hs : SmallL x) (hv : checkAllL ls = 0) (hx : checkL x = 0) :
    ∃ bf k1, BuyCmp bf (newV (valI x.c) (valI x.q)).1 (afterV ls x.ins x.q x.c).1 k1 ∧ ((priceV ls x.ins).2 = 0 → (priceV ls x.ins).1 = bf) ∧ ((priceV ls x.ins).2 ≠ 0 → (newV (valI x.c) (valI x.q)).1 = bf) := by
  rw [buy_after hv hx, buy_own hx]
  have qo := (own_qb hs).mono (show 2000 ≤ 2001 by omega)
  have qa := buy_qb hL x.ins hs
  rcases Int.lt_or_le 0 (totQ ls x.ins) with h | h
  · obtain ⟨m1, m2⟩ := buy_some hx h
    refine ⟨_, _, buyCmp ((avg_qb hL x.ins).mono (show 2000 ≤ 2001 by omega)) qo qa m1 m2, fun _ => ?_, fun h0 => ?_⟩
    · rw [priceV_ok hv h]
    · rw [priceV_ok hv h] at h0; exact absurd rfl h0
  · have h0 : totQ ls x.ins = 0 := by have := totQ_nonneg (ins := x.ins) hv; omega
    have e := buy_none (x := x) hv h0
    refine ⟨_, _, buyCmp qo qo qa (fun _ => ?_) (fun _ => ?_), fun h1 => ?_, fun _ => rfl⟩
    · rw [e]; exact ⟨Rat.le_refl, Rat.le_refl⟩
    · rw [e]; exact ⟨Rat.le_refl, Rat.le_refl⟩
    · rw [priceV_no hv h0] at h1; cases h1
def TwoFr (W : World) (a b : Fr) (p q : Value) (wx : World) : Prop :=
  ∃ P R, p = .pointer (some ⟨P, 0, none⟩) ∧ q = .pointer (some ⟨R, 0, none⟩) ∧ P ≠ R ∧ W.heap.size ≤ P ∧ W.heap.size ≤ R ∧ Blk wx P 28 (fc a) ∧ Blk wx R 28 (fc b) ∧ Ext W wx
set_option maxRecDepth 100000 in
set_option maxHeartbeats 8000000 in
theorem lawBuys (ls : List LotV) (A : Option Addr) (c : Nat) (x : LotV) (w : World) (hA : RdL w A ls) (hc : ls.length ≤ c) (hn : ls.length ≤ 4611686018427387904) (hE : Env w) :
    Calls Tryz.prog 9 #[.slice A ls.length c, lv x] w fun e w' => e = .returned (.bool true) ∧ Ext w w' := by
  have HE := Lib.hid hE
  have HFN := Lib.hid (lawFine ls A c (w.alloc (.cells (lc x) 50)) (hA.ext (Ext.new _ _)) hn hc)
  have HB := Lib.hid (Blk.new w 50 (lc x))
  have HX : Hid (Ext w (w.alloc (.cells (lc x) 50))) := Lib.hid (Ext.new _ _)
  have HGR := Lib.hid (fun W => refGreatOne x W)
  cases hf : fineB ls
  · rw [hf] at HFN
    clear hE hA HB
    go_enter Tryz.func9, Tryz.ntmps9
    go_wp2_with fail
    refine (HFN.out).mono ?_
    rintro e v1 ⟨rfl, hx1⟩
    replace HX := Lib.hid (HX.out.trans hx1)
    clear hx1
    go_wp2_with fail
    refine (lawAwake _ (HE.out.ext HX.out)).mono ?_
    rintro e v3 ⟨rfl, hx1⟩
    replace HX := Lib.hid (HX.out.trans hx1)
    clear hx1
    go_wp2_with fail
    go_ret
    exact ⟨rfl, HX.out⟩
  rw [hf] at HFN
  obtain ⟨hgr, hl12, hv⟩ := fineB_ok hf
  have hL : LotsAt w A ls := ⟨hA, great_small hgr, by omega⟩
  clear hf
  by_cases h1 : 11 < ls.length
  · have g1 : decide ((11 : Int) < (ls.length : Int)) = true := by rw [decide_eq_true_iff]; omega
    clear hE hA hv hL hgr HB
    go_enter Tryz.func9, Tryz.ntmps9
    go_wp2_with fail
    refine (HFN.out).mono ?_
    rintro e v5 ⟨rfl, hx1⟩
    replace HX := Lib.hid (HX.out.trans hx1)
    clear hx1
    go_wp2_with fail
    refine (lawAwake _ (HE.out.ext HX.out)).mono ?_
    rintro e v7 ⟨rfl, hx1⟩
    replace HX := Lib.hid (HX.out.trans hx1)
    clear hx1
    go_wp2_with fail
    go_ret
    exact ⟨rfl, HX.out⟩
  have g1 : decide ((11 : Int) < (ls.length : Int)) = false := by rw [decide_eq_false_iff_not]; omega
  cases hgx : greatL x
  rotate_left
  · rw [hgx] at HGR
    clear hE hA hv hL hgr hgx
    go_enter Tryz.func9, Tryz.ntmps9
    go_wp2_with fail
    refine (HFN.out).mono ?_
    rintro e v9 ⟨rfl, hx1⟩
    replace HB := Lib.hid (HB.out.ext hx1)
    replace HX := Lib.hid (HX.out.trans hx1)
    clear hx1
    obtain ⟨p0, p1, p2, p3, p4, p5, p6⟩ := lotBlk HB.out (Ext.refl _)
    go_wp2_with fail
    refine (HGR.out _).mono ?_
    rintro e v10 ⟨rfl, hx1⟩
    replace HX := Lib.hid (HX.out.trans hx1)
    clear hx1
    go_wp2_with fail
    refine (lawAwake _ (HE.out.ext HX.out)).mono ?_
    rintro e v12 ⟨rfl, hx1⟩
    replace HX := Lib.hid (HX.out.trans hx1)
    clear hx1
    go_wp2_with fail
    go_ret
    exact ⟨rfl, HX.out⟩
  rw [hgx] at HGR
  have hs : SmallL x := by
    obtain ⟨k1, k2, k3, k4, k5⟩ := greatL_no hgx
    exact ⟨by omega, by omega, by omega, by omega, by omega⟩
  have hck := fun W => refLotCheck x hs W
  by_cases hx : checkL x = 0
  rotate_left
  · have gz : (checkL x != 0) = true := by rw [bne_iff_ne]; exact hx
    have HCK := Lib.hid hck
    generalize checkL x = ck at *
    clear hE hA hv hL hgr hgx hck hs
    go_enter Tryz.func9, Tryz.ntmps9
    go_wp2_with fail
    refine (HFN.out).mono ?_
    rintro e v14 ⟨rfl, hx1⟩
    replace HB := Lib.hid (HB.out.ext hx1)
    replace HX := Lib.hid (HX.out.trans hx1)
    clear hx1
    obtain ⟨p0, p1, p2, p3, p4, p5, p6⟩ := lotBlk HB.out (Ext.refl _)
    go_wp2_with fail
    refine (HGR.out _).mono ?_
    rintro e v15 ⟨rfl, hx1⟩
    replace HB := Lib.hid (HB.out.ext hx1)
    replace HX := Lib.hid (HX.out.trans hx1)
    clear hx1
    obtain ⟨p0, p1, p2, p3, p4, p5, p6⟩ := lotBlk HB.out (Ext.refl _)
    go_wp2_with fail
    refine (HCK.out _).mono ?_
    rintro e v16 ⟨rfl, hx1⟩
    replace HX := Lib.hid (HX.out.trans hx1)
    clear hx1
    go_wp2_with fail
    refine (lawAwake _ (HE.out.ext HX.out)).mono ?_
    rintro e v18 ⟨rfl, hx1⟩
    replace HX := Lib.hid (HX.out.trans hx1)
    clear hx1
    go_wp2_with fail
    go_ret
    exact ⟨rfl, HX.out⟩
  rw [hx] at hck
  have HCK := Lib.hid hck
  obtain ⟨bf, k1, hcmp, hp0, hp1⟩ := buy_all hL hs hv hx
  have sx := hs
  obtain ⟨s1, s2, s3, s4, s5⟩ := sx
  have HAF := Lib.hid (fun W hxw => avgAfter ls A c x.ins x.q x.c W (hE.ext hxw) (hL.ext hxw) (by omega) (by omega))
  have hne := newP x.c x.q (by omega) (by omega)
  have HPR := Lib.hid (fun W hxw => avgPrice ls A c x.ins W (hE.ext hxw) (hL.ext hxw))
  have ea : (afterV ls x.ins x.q x.c).2 = 0 := by rw [buy_after hv hx]
  have eo : (newV (valI x.c) (valI x.q)).2 = 0 := by rw [buy_own hx]
  rw [ea] at HAF
  rw [eo] at hne
  have HNW := Lib.hid hne
  have HON := Lib.hid (fun hf W hxw => lotOpen_no ls x A c W (hE.ext hxw) (hL.ext hxw) hs hv hx hf)
  have HOK := Lib.hid (fun hf W hxw => lotOpen_ok ls x A c W (hE.ext hxw) (hL.ext hxw) hs hv hx hf (by omega))
  have hpl := putK_le ls x.ins ls.length
  have hmore := fun hf => buy_now (ls := ls) (x := x) hpl hv hx hf (by omega)
  have eaf : afterV ls x.ins x.q x.c = (ofQ (Rat.divInt (totC ls x.ins + valI x.c) (totQ ls x.ins + valI x.q)), 0) := buy_after hv hx
  have hmm : ∀ hf, priceV (insAt ls (putK ls x.ins ls.length) x) x.ins = ((afterV ls x.ins x.q x.c).1, 0) := fun hf => by rw [hmore hf, eaf]
  have HPM := Lib.hid (fun (hf : (findL ls x.id).isSome = false) A' c' W (hxw : Ext w W) (hr : RdL W A' (insAt ls (putK ls x.ins ls.length) x)) => by
    have := avgPrice (insAt ls (putK ls x.ins ls.length) x) A' c' x.ins W (hE.ext hxw) ⟨hr, fun y hy => by
      rcases mem_insAt hy with h | rfl
      · exact hL.sm y h
      · exact hs, by rw [insAt_len hpl]; omega⟩
    rw [hmm hf] at this
    exact this)
  have HCMP := Lib.hid hcmp
  have HP0 := Lib.hid (And.intro hp0 hp1)
  clear hmore eaf hmm ea eo hcmp hp0 hp1 hck hne hpl s1 s2 s3 s4 s5 hs hgx hgr hE hA hv hL hl12 hx
  generalize (afterV ls x.ins x.q x.c).1 = af at *
  generalize (newV (valI x.c) (valI x.q)).1 = of_ at *
  generalize (priceV ls x.ins).1 = p at *
  generalize (priceV ls x.ins).2 = pe at *
  generalize insAt ls (putK ls x.ins ls.length) x = more at *
  go_enter Tryz.func9, Tryz.ntmps9
  go_wp2_with fail
  refine (HFN.out).mono ?_
  rintro e v20 ⟨rfl, hx1⟩
  replace HB := Lib.hid (HB.out.ext hx1)
  replace HX := Lib.hid (HX.out.trans hx1)
  clear hx1
  generalize hg : w.heap.size = g at *
  have hww : w.heap.size ≤ g := by omega
  clear hg
  obtain ⟨p0, p1, p2, p3, p4, p5, p6⟩ := lotBlk HB.out (Ext.refl _)
  go_wp2_with fail
  refine (HGR.out _).mono ?_
  rintro e v21 ⟨rfl, hx1⟩
  replace HB := Lib.hid (HB.out.ext hx1)
  replace HX := Lib.hid (HX.out.trans hx1)
  clear hx1
  obtain ⟨p0, p1, p2, p3, p4, p5, p6⟩ := lotBlk HB.out (Ext.refl _)
  go_wp2_with fail
  refine (HCK.out _).mono ?_
  rintro e v22 ⟨rfl, hx1⟩
  replace HB := Lib.hid (HB.out.ext hx1)
  replace HX := Lib.hid (HX.out.trans hx1)
  clear hx1
  obtain ⟨p0, p1, p2, p3, p4, p5, p6⟩ := lotBlk HB.out (Ext.refl _)
  go_wp2_with fail
  refine (HAF.out _ HX.out).mono ?_
  rintro e w4 ⟨rfl, hx1⟩
  replace HB := Lib.hid (HB.out.ext hx1)
  replace HX := Lib.hid (HX.out.trans hx1)
  clear hx1
  clear HFN HGR HCK p0 p1 p2 p3 p4 p5 p6
  have BA := Lib.hid (Blk.new w4 28 (fc af))
  have hgA := HB.out.lt
  replace HX := Lib.hid (HX.out.alloc (.cells (fc af) 28))
  replace HB := Lib.hid (HB.out.alloc (.cells (fc af) 28))
  go_upto_region 4 with fail
  generalize w4.heap.size = GA at *
  generalize w4.alloc (.cells (fc af) 28) = W4 at *
  obtain ⟨p0, p1, p2, p3, p4, p5, p6⟩ := lotBlk HB.out (Ext.refl _)
  go_wp2_with fail
  refine (HNW.out _ (HE.out.ext HX.out)).mono ?_
  rintro e w5 ⟨rfl, hx1⟩
  replace HB := Lib.hid (HB.out.ext hx1)
  replace BA := Lib.hid (BA.out.ext hx1)
  replace HX := Lib.hid (HX.out.trans hx1)
  clear hx1
  clear p0 p1 p2 p3 p4 p5 p6
  have BO := Lib.hid (Blk.new w5 28 (fc of_))
  have hAO := BA.out.lt
  replace HX := Lib.hid (HX.out.alloc (.cells (fc of_) 28))
  replace HB := Lib.hid (HB.out.alloc (.cells (fc of_) 28))
  replace BA := Lib.hid (BA.out.alloc (.cells (fc of_) 28))
  go_upto_region 5 with fail
  generalize w5.heap.size = GO at *
  generalize w5.alloc (.cells (fc of_) 28) = W5 at *
  obtain ⟨p0, p1, p2, p3, p4, p5, p6⟩ := lotBlk HB.out (Ext.refl _)
  go_wp2_with fail
  refine (HPR.out _ HX.out).mono ?_
  rintro e w7 ⟨rfl, hx1⟩
  replace HB := Lib.hid (HB.out.ext hx1)
  replace BA := Lib.hid (BA.out.ext hx1)
  replace BO := Lib.hid (BO.out.ext hx1)
  replace HX := Lib.hid (HX.out.trans hx1)
  clear hx1
  clear p0 p1 p2 p3 p4 p5 p6
  have hOP := BO.out.lt
  have HS : Hid (BuyAt w g GA GO w7.heap.size x af of_ p (w7.alloc (.cells (fc p) 28))) := Lib.hid ⟨HX.out.alloc _, HB.out.alloc _, BA.out.alloc _, BO.out.alloc _, Blk.new _ _ _⟩
  have HLT : Hid (BuyLt w (w7.alloc (.cells (fc p) 28)) g GA GO w7.heap.size) := Lib.hid ⟨hgA, hAO, hOP, hww, by simp⟩
  go_upto_if 68 with fail
  generalize w7.heap.size = GP at *
  generalize w7.alloc (.cells (fc p) 28) = W8 at *
  clear HX HB BA BO hgA hAO hOP HAF HNW HPR
  go_cut [] (fun wx => BuyAt w g GA GO GP x af of_ bf wx)
  case first =>
    by_cases hpe : pe = 0
    · have gz : (pe != 0) = false := by rw [bne_eq_false_iff_eq]; exact hpe
      have e := HP0.out.1 hpe
      subst e
      clear hpe
      go_wp2_with fail
      go_meet
      exact HS.out
    · have gz : (pe != 0) = true := by rw [bne_iff_ne]; exact hpe
      have e := HP0.out.2 hpe
      subst e
      clear hpe
      obtain ⟨o0, o1, _, _⟩ := frBlk HS.out.bo (Ext.refl _)
      obtain ⟨q0, q1, f0, f1⟩ := frBlk HS.out.bp (Ext.refl _)
      go_wp2_with fail
      go_meet
      exact HS.out.over HLT.out of_
  case rest =>
    clear HS HP0
    have HS := Lib.hid hcut
    clear hcut
    have hAO := HLT.out.ao
    have hxa := HLT.out.xa
    have hop := HLT.out.op
    have hww := HLT.out.w
    have hPW := HS.out.bp.lt
    clear HLT
    go_upto_region 10 with fail
    go_cut [11, 12] (fun p11 p12 wx => TwoFr wc bf of_ p11 p12 wx)
    case first =>
      obtain ⟨o0, o1, _, _⟩ := frBlk HS.out.bo (Ext.refl _)
      obtain ⟨q0, q1, _, _⟩ := frBlk HS.out.bp (Ext.refl _)
      go_region_held3 (fun w' => w'.cell? ⟨GO, 0, none⟩ = some (.string (bs of_.num)) ∧ w'.cell? ⟨GO, 1, none⟩ = some (.string (bs of_.den)) ∧ w'.cell? ⟨GP, 0, none⟩ = some (.string (bs bf.num)) ∧ w'.cell? ⟨GP, 1, none⟩ = some (.string (bs bf.den)))
        (go_keep)
        (fail)
      all_goals
        go_wp2_with fail
        go_meet
        first
          | exact ⟨wc.heap.size, wc.heap.size + 1, rfl, rfl, by omega, by omega, by omega, ((Blk.new _ _ _).alloc _).drew, (blk_at _ _ _ _ (by simp)).drew, (((Ext.new _ _).alloc _).drew)⟩
          | exact ⟨wc.heap.size + 1, wc.heap.size, rfl, rfl, by omega, by omega, by omega, (blk_at _ _ _ _ (by simp)).drew, ((Blk.new _ _ _).alloc _).drew, (((Ext.new _ _).alloc _).drew)⟩
    case rest =>
      obtain ⟨LO, HI, rfl, rfl, hne, hwL, hwH, hbL, hbH, hxw⟩ := hcut
      have HT : Hid (LowAt w g GA LO HI x af bf of_ wc) := Lib.hid ⟨HS.out.ext.trans hxw, HS.out.bx.ext hxw, HS.out.ba.ext hxw, hbL, hbH⟩
      have HLL : Hid (LowLt w g GA LO HI) := Lib.hid ⟨by omega, by omega, by omega, by omega, hne, by omega⟩
      clear hbL hbH hxw HS hwL hwH hAO hxa hop hww hPW
      obtain ⟨l0, l1, fl0, fl1⟩ := frBlk HT.out.bl (Ext.refl _)
      obtain ⟨h0, h1, fh0, fh1⟩ := frBlk HT.out.bh (Ext.refl _)
      go_wp2_with fail
      refine (HCMP.out.c1 _ (HE.out.ext HT.out.ext)).mono ?_
      rintro e w11 ⟨rfl, hx1⟩
      replace HT := Lib.hid (HT.out.on hx1)
      clear hx1 l0 l1 fl0 fl1 h0 h1 fh0 fh1
      go_upto_if 75 with fail
      go_cut [] (fun wx => ∃ lo hi, LowAt w g GA LO HI x af lo hi wx ∧ GoodBuy lo hi af)
      case first =>
        obtain ⟨l0, l1, fl0, fl1⟩ := frBlk HT.out.bl (Ext.refl _)
        obtain ⟨h0, h1, fh0, fh1⟩ := frBlk HT.out.bh (Ext.refl _)
        have hne := HLL.out.lh
        have hne' := Ne.symm hne
        by_cases hk : 0 < k1
        · have gk : decide (0 < k1) = true := decide_eq_true hk
          have HGD := Lib.hid (HCMP.out.turn hk)
          go_wp2_with fail
          go_meet
          exact ⟨_, _, HT.out.swap HLL.out, HGD.out⟩
        · have gk : decide (0 < k1) = false := decide_eq_false hk
          have HGD := Lib.hid (HCMP.out.stay hk)
          go_wp2_with fail
          go_meet
          exact ⟨_, _, HT.out, HGD.out⟩
      case rest =>
        obtain ⟨lo, hi, ht, k2, k3, hk2, hk3, hc2, hc3⟩ := hcut
        clear HT HCMP HLL
        have HT := Lib.hid ht
        have C2 := Lib.hid hc2
        have C3 := Lib.hid hc3
        have g2 : decide (0 < k2) = false := decide_eq_false (by omega)
        have g3 : decide (0 < k3) = false := decide_eq_false (by omega)
        clear ht hc2 hc3 hk2 hk3
        obtain ⟨l0, l1, _, _⟩ := frBlk HT.out.bl (Ext.refl _)
        obtain ⟨a0, a1, _, _⟩ := frBlk HT.out.ba (Ext.refl _)
        go_wp2_with fail
        refine (C2.out _ (HE.out.ext HT.out.ext)).mono ?_
        rintro e w12 ⟨rfl, hx1⟩
        replace HT := Lib.hid (HT.out.on hx1)
        clear hx1 l0 l1 a0 a1
        obtain ⟨a0, a1, _, _⟩ := frBlk HT.out.ba (Ext.refl _)
        obtain ⟨h0, h1, _, _⟩ := frBlk HT.out.bh (Ext.refl _)
        go_wp2_with fail
        refine (C3.out _ (HE.out.ext HT.out.ext)).mono ?_
        rintro e w13 ⟨rfl, hx1⟩
        replace HT := Lib.hid (HT.out.on hx1)
        clear hx1 h0 h1 a0 a1
        obtain ⟨p0, p1, p2, p3, p4, p5, p6⟩ := lotBlk HT.out.bx (Ext.refl _)
        cases hf : (findL ls x.id).isSome
        · go_wp2_with fail
          refine (HOK.out hf _ HT.out.ext).mono ?_
          rintro e w14 ⟨A9, c9, rfl, hr9, hc9, hx1⟩
          have HR9 := Lib.hid hr9
          replace HT := Lib.hid (HT.out.on hx1)
          clear hx1 hr9 hc9 p0 p1 p2 p3 p4 p5 p6
          obtain ⟨p0, p1, p2, p3, p4, p5, p6⟩ := lotBlk HT.out.bx (Ext.refl _)
          go_wp2_with fail
          refine (HPM.out hf A9 c9 _ HT.out.ext HR9.out).mono ?_
          rintro e w15 ⟨rfl, hx1⟩
          replace HT := Lib.hid (HT.out.on hx1)
          clear hx1 p0 p1 p2 p3 p4 p5 p6
          have BN := Lib.hid (Blk.new w15 28 (fc af))
          have BA := Lib.hid (HT.out.ba.alloc (.cells (fc af) 28))
          have HX : Hid (Ext w (w15.alloc (.cells (fc af) 28))) := Lib.hid (HT.out.ext.alloc _)
          go_upto_region 19 with fail
          generalize w15.heap.size = GN at *
          generalize w15.alloc (.cells (fc af) 28) = WE at *
          obtain ⟨z1, z2, _, _⟩ := frBlk BA.out (Ext.refl _)
          obtain ⟨z3, z4, _, _⟩ := frBlk BN.out (Ext.refl _)
          clear HT BA BN HR9 HPM HON HOK
          go_wp2_with fail
          refine (lawAwake _ (HE.out.ext HX.out)).mono ?_
          rintro e v27 ⟨rfl, hx1⟩
          replace HX := Lib.hid (HX.out.trans hx1)
          clear hx1
          go_wp2_with fail
          go_ret
          exact ⟨rfl, HX.out⟩
        · go_wp2_with fail
          refine (HON.out hf _ HT.out.ext).mono ?_
          rintro e w14 ⟨rfl, hx1⟩
          have HX := Lib.hid (HT.out.ext.trans hx1)
          clear hx1 p0 p1 p2 p3 p4 p5 p6 HT HPM HON HOK
          go_wp2_with fail
          refine (lawAwake _ (HE.out.ext HX.out)).mono ?_
          rintro e v30 ⟨rfl, hx1⟩
          replace HX := Lib.hid (HX.out.trans hx1)
          clear hx1
          go_wp2_with fail
          go_ret
          exact ⟨rfl, HX.out⟩
end Go.Proofs.YtikehdbkiplleaaGreatDoor
namespace Go.Proofs.YtikehdbkiplleaaGreatDoor.averageBuys
open Go.ChangeShapes Go.WideShapes Go.ChangeAt Go.RowKit Go.Deep Go.Joins

set_option maxRecDepth 100000 in
theorem contract (H : Type) (enc : TypeId × Value → H) (W : World) (base : Nat) (args : Array Value) (ds gs : List (DataW H)) (before : List MemPlace)
    (hval : ∀ (j : Nat) t v, Tryz.f9.params[j]? = some t → args[j]? = some v → Value.okWide Tryz.prog W .any base t v)
    (hW : DataW.Whole enc Tryz.prog Tryz.f9.params.toList Rows.averageBuysSpec.vars false W args.toList ds gs before) (hwt : (DataW.weightsEach Tryz.prog (Tryz.f9.params.toList ++ (OpenSpec.ofChange Rows.averageBuysSpec).bare.plain.varTypes Tryz.prog) (ds ++ gs)).all (· ≤ reachBytes) = true)
    (hL : laidMetH Tryz.prog Rows.averageBuysRow.laid W) (hsh : W.ShapedOpen Tryz.prog) :
    Calls Tryz.prog 9 args W fun e W' => ∃ v, e = .returned v ∧ Rows.averageBuysSpec.post enc Tryz.prog Tryz.f9 false true false false W args v W' := by
  have hE : Env W := env_of (show laidMet Tryz.prog _ W from hL) hsh
  have hW' := hW
  obtain ⟨p, q, hA0, hV, rfl, hfz, hnd⟩ := hW
  have hA : DataW.TrodAll enc Tryz.prog W 0 (fun _ => true) true Tryz.f9.params.toList args.toList ds p := hA0
  rw [Tryz.params9] at hA hval hwt
  obtain ⟨v0, vs0, d0, ds0, p0, q0, hargs, rfl, rfl, h0, r0⟩ := trodAll_cons hA
  obtain ⟨v1, vs1, d1, ds1, p1, q1, rfl, rfl, rfl, h1, r1⟩ := trodAll_cons r0
  obtain ⟨rfl, rfl, rfl⟩ := trodAll_nil r1
  obtain rfl : args = #[v0, v1] := by cases args; simp_all
  obtain ⟨rfl, rfl⟩ := trodVars_none hV
  simp only [List.append_nil, List.cons_append, List.nil_append, DataW.weightsEach, List.all_append, Bool.and_eq_true] at hwt
  obtain ⟨s0, A0, c0, rfl, hR0, hc0, hn0⟩ := open_lots (hval 0 22 v0 rfl rfl) h0 hwt.1
  obtain ⟨s1, rfl⟩ := open_lot1 (hval 1 50 v1 rfl rfl) h1
  refine (lawBuys s0 A0 c0 s1 W hR0 hc0 hn0 hE).mono fun e W' ⟨he, hx⟩ => ?_
  subst he
  exact ⟨_, rfl, post_law laidOut (by kernel_rfl) (by kernel_rfl) Tryz.underlying4 rfl hW' rfl rfl rfl hx⟩

def flat1 : DataW Unit → List Value | .lit (.int k n) => [.int k n] | _ => []
def flat2 : DataW Unit → List Value | .agg ps => ps.flatMap flat1 | x => flat1 x
def flat3 : DataW Unit → List Value | .agg ps => ps.flatMap flat2 | x => flat1 x
def layIn (w : World) (g : Nat) (d : DataW Unit) : World := { w with heap := w.heap.modify g fun
  | .cells _ t frozen => .cells (flat3 d).toArray t frozen
  | o => o }
/-- A WORLD FOR THE WITNESS: the settled one, the library's tables holding what their initialisers lay. -/
noncomputable def low : Nat := (World.holding Tryz.prog default ⟨#[], #[], []⟩).heap.size
def layErr (w : World) (g b : Nat) : World := { w with heap := w.heap.modify g fun
  | .cells _ t frozen => .cells #[.iface 222 (.pointer (some ⟨b, 0, none⟩))] t frozen
  | o => o }
noncomputable def laidWorld (os : Os) : World :=
  layErr (layErr (layIn (layIn (layIn (layIn (layIn (World.holding Tryz.prog os ⟨#[.cells #[.string ⟨#[118, 97, 108, 117, 101, 32, 111, 117, 116, 32, 111, 102, 32, 114, 97, 110, 103, 101]⟩] 224, .cells #[.string ⟨#[105, 110, 118, 97, 108, 105, 100, 32, 115, 121, 110, 116, 97, 120]⟩] 224], #[], []⟩) 6 Rows.laid_math_bits_deBruijn32tab) 7 Rows.laid_math_bits_deBruijn64tab) 2 Rows.laid_internal_strconv_uint64pow10) 5 Rows.laid_unicode_utf8_acceptRanges) 4 Rows.laid_unicode_utf8_first) 1 low) 0 (low + 1)
theorem laid_met (os : Os) : laidMet Tryz.prog Rows.averageBuysRow.laid ((laidWorld os).forCall (fun _ _ => 0) ⟨#[], #[.slice none 0 0, .agg #[.string ⟨#[]⟩, .string ⟨#[]⟩, .int .i64 0, .int .i64 0, .string ⟨#[]⟩, .string ⟨#[]⟩, .string ⟨#[]⟩]], []⟩).memory :=
  laidMet_of_run' 8 (by kernel_rfl) (by kernel_rfl)
theorem reads (os : Os) {H : Type} (enc : TypeId × Value → H) : ∃ places, DataW.whole enc Tryz.prog ((laidWorld os).forCall (fun _ _ => 0) ⟨#[], #[.slice none 0 0, .agg #[.string ⟨#[]⟩, .string ⟨#[]⟩, .int .i64 0, .int .i64 0, .string ⟨#[]⟩, .string ⟨#[]⟩, .string ⟨#[]⟩]], []⟩).memory Tryz.f9.params.toList Rows.averageBuysSpec.vars false (#[.slice none 0 0, .agg #[.string ⟨#[]⟩, .string ⟨#[]⟩, .int .i64 0, .int .i64 0, .string ⟨#[]⟩, .string ⟨#[]⟩, .string ⟨#[]⟩]] : Array Value).toList 8 = some ([.nil, .agg [.lit (.string []), .lit (.string []), .lit (.int .i64 0), .lit (.int .i64 0), .lit (.string []), .lit (.string []), .lit (.string [])]], [], places) :=
  ⟨[], by kernel_rfl⟩

set_option maxRecDepth 100000 in
theorem lifted (os : Os) (started : os.Started) (H : Type) (enc : TypeId × Value → H) (F : Stop.Interp) :
    ReturnsInHanded {} Tryz.checked os 9 .any ((OpenSpec.ofChange Rows.averageBuysSpec).preRow enc Tryz.prog Tryz.f9 Rows.averageBuysRow.domain false Rows.averageBuysRow.laid) (((OpenSpec.ofChange Rows.averageBuysSpec).at F).post enc Tryz.prog Tryz.f9 false true false false) := by
  obtain ⟨places, hx⟩ := reads os enc
  refine returnsInHanded_of_row (C := Tryz.checked) (s := OpenSpec.ofChange Rows.averageBuysSpec) own started (by kernel_rfl) Tryz.func9
    (witness_row_at (enc := enc) (C := Tryz.checked) false (laidWorld os) #[.slice none 0 0, .agg #[.string ⟨#[]⟩, .string ⟨#[]⟩, .int .i64 0, .int .i64 0, .string ⟨#[]⟩, .string ⟨#[]⟩, .string ⟨#[]⟩]] rfl (by kernel_rfl) (by kernel_rfl) (by kernel_rfl)
      (OpenSpec.preRow_of_cond 8 hx (by kernel_rfl) (fun k hk => by cases hk) (by kernel_rfl) (laid_met os))) ?_
  intro W base args ds gs before hval hW _ _ hwt hL hsh _
  exact contract H enc W base args ds gs before hval hW hwt hL hsh

theorem said : Rows.AverageBuysSaid :=
  OpenClaim.holds_of_cond 9 Tryz.f9 rfl rfl rfl rfl rfl rfl rfl ⟨rfl, rfl, rfl, rfl, rfl⟩ rfl rfl rfl rfl rfl (by kernel_rfl) Tryz.func9 (by kernel_rfl)
    (of_decide_eq_true (by kernel_rfl)) (by unfold Func.isWrapper; first | (rw [if_pos (by decide +kernel)]; kernel_rfl) | (rw [if_neg (by decide +kernel)]; exact ⟨rfl, rfl⟩))
    (fun os started H enc _ F => by rw [OpenClaim.pre_eq_preRow]; exact lifted os started H enc F)

theorem plain (f : FuncId) (fn : Func) (hf : Tryz.pinned.checked.prog.funcNamed "tranche/tranchelaw22.AverageBuys" = some f) (hfn : Tryz.pinned.checked.prog.funcs[f]? = some fn) :
    true = Tryz.pinned.checked.prog.looks [] ∧ ∀ (j : Nat) t, fn.params[j]? = some t → Tryz.pinned.checked.prog.wantsStandIn t = false := by
  obtain rfl : f = 9 := Option.some.inj ((show Tryz.prog.funcNamed "tranche/tranchelaw22.AverageBuys" = some 9 by kernel_rfl).symm.trans hf) |>.symm
  obtain rfl : fn = Tryz.f9 := (Option.some.inj (Tryz.func9.symm.trans hfn)).symm
  refine ⟨by kernel_rfl, fun j t ht => ?_⟩
  rw [Tryz.params9] at ht
  have hm := Array.mem_of_getElem? ht
  simp only [List.mem_toArray, List.mem_cons, List.not_mem_nil, or_false] at hm
  rcases hm with rfl | rfl
  · exact (show Tryz.prog.wantsStandIn 22 = false by kernel_rfl)
  · exact (show Tryz.prog.wantsStandIn 50 = false by kernel_rfl)

/-- THE CARD -/
theorem card : Rows.AverageBuysCardSaid :=
  Claim7.holds_tied_plain_at .later [] _ _ _ _ said (fun _ h => by cases h) (by kernel_rfl) (fun _ h => by cases h) averageBuys_row_tie rfl ⟨rfl, rfl⟩ (by kernel_rfl) rfl plain (by kernel_rfl)
end Go.Proofs.YtikehdbkiplleaaGreatDoor.averageBuys
