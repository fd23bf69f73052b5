/- AverageOrder (P22.6): for all lots, every instrument, every number and every quantity the law returns true, that is: the average does not depend on the order of the lots, nor on how one of them is cut (within the sizes that the law checks itself; beyond them it answers by its example); every argument reads afterwards as it did. Condition: the library's tables and sentinel errors hold what their initialisers lay (the card ties them). -/
import Derived.Test.YtikehdbkiplleaaGreatDoorZ5
import Derived.Lib.AppendZeros
import Derived.BigRegion
import Derived.Deep.RegionHeld3
import Derived.Test.YtikehdbkiplleaaGreatDoorCards
import Derived.Test.YtikehdbkiplleaaGreatDoorTie
import Derived.Deep.DeepHandedRow
import Derived.ProofKit
/- Plain: what the law of the average cost of a quantity says. No program in sight. -/
namespace Go.Proofs.YtikehdbkiplleaaGreatDoor
open Go.RowKit

theorem take_none {ls : List LotV} {ins qty : Bs} (hv : checkAllL ls = 0) (hq : checkI qty = 0) (h : totQ ls ins = 0) : takeV ls ins qty = ([], [], 6) := by
  unfold takeV; rw [if_neg (by rw [avgE_ok hv (by simpa using hq)]; decide), if_pos h]
theorem take_low {ls : List LotV} {ins qty : Bs} (hv : checkAllL ls = 0) (hq : checkI qty = 0) (h : 0 < totQ ls ins) (h1 : valI qty ≤ 0) : takeV ls ins qty = ([], [], 2) := by
  unfold takeV; rw [if_neg (by rw [avgE_ok hv (by simpa using hq)]; decide), if_neg (by omega), if_pos h1]
theorem take_high {ls : List LotV} {ins qty : Bs} (hv : checkAllL ls = 0) (hq : checkI qty = 0) (h : 0 < totQ ls ins) (h1 : totQ ls ins < valI qty) : takeV ls ins qty = ([], [], 15) := by
  unfold takeV; rw [if_neg (by rw [avgE_ok hv (by simpa using hq)]; decide), if_neg (by omega), if_neg (by omega), if_pos h1]
theorem take_ok {ls : List LotV} {ins qty : Bs} (hv : checkAllL ls = 0) (hq : checkI qty = 0) (h : 0 < totQ ls ins) (h1 : ¬ valI qty ≤ 0) (h2 : ¬ totQ ls ins < valI qty) :
    takeV ls ins qty = (ofI (shareZ (totC ls ins) (valI qty) (totQ ls ins)), ofI (totC ls ins - shareZ (totC ls ins) (valI qty) (totQ ls ins)), 0) := by
  unfold takeV; rw [if_neg (by rw [avgE_ok hv (by simpa using hq)]; decide), if_neg (by omega), if_neg h1, if_neg h2]
theorem take_all {ls : List LotV} {ins : Bs} (hv : checkAllL ls = 0) (h : 0 < totQ ls ins) : takeV ls ins (ofI (totQ ls ins)) = (ofI (totC ls ins), [], 0) := by
  rw [take_ok hv (checkI_ofI _) h (by rw [valI_ofI]; omega) (by rw [valI_ofI]; omega), valI_ofI, shareZ_all _ _ (by omega), Int.sub_self, ofI_nil.2 rfl]
theorem priceV_ok {ls : List LotV} {ins : Bs} (hv : checkAllL ls = 0) (h : 0 < totQ ls ins) : priceV ls ins = (ofQ (Rat.divInt (totC ls ins) (totQ ls ins)), 0) := by
  unfold priceV; rw [if_neg (by rw [avgE_ok hv (by simp)]; decide), prV_ok h]
theorem priceV_no {ls : List LotV} {ins : Bs} (hv : checkAllL ls = 0) (h : totQ ls ins = 0) : priceV ls ins = (⟨[], []⟩, 6) := by
  unfold priceV prV; rw [if_neg (by rw [avgE_ok hv (by simp)]; decide), if_pos h]
theorem share_qbL {t p a : Bs} {L : Nat} (h0 : 0 < L) (lt : t.length ≤ L) (lp : p.length ≤ L) (la : a.length ≤ L) : QB (L + L + 1) ((roundQ (Rat.divInt (valI t * valI p) (valI a)) : Int) : Rat) :=
  qb_int (by omega) (roundQ_abs (qb_ratio h0 lt lp la))
theorem share_qb {w : World} {A : Option Addr} {ls : List LotV} (h : LotsAt w A ls) (ins qty : Bs) (hq : qty.length ≤ 2000) : QB 4001 ((shareZ (totC ls ins) (valI qty) (totQ ls ins) : Int) : Rat) := by
  have h1 := share_qbL (t := ofI (totC ls ins)) (p := qty) (a := ofI (totQ ls ins)) (L := 2000) (by omega) (totC_le h ins) hq (totQ_le h ins)
  rw [valI_ofI, valI_ofI] at h1
  exact h1.mono (by omega)
theorem share_len {w : World} {A : Option Addr} {ls : List LotV} (h : LotsAt w A ls) (ins qty : Bs) (hq : qty.length ≤ 2000) : (ofI (shareZ (totC ls ins) (valI qty) (totQ ls ins))).length ≤ 4002 := by
  have h1 := qb_ratio (t := ofI (totC ls ins)) (p := qty) (a := ofI (totQ ls ins)) (L := 2000) (by omega) (totC_le h ins) hq (totQ_le h ins)
  rw [valI_ofI, valI_ofI] at h1
  exact round_len h1
theorem avg_qb {w : World} {A : Option Addr} {ls : List LotV} (h : LotsAt w A ls) (ins : Bs) : QB 2000 (Rat.divInt (totC ls ins) (totQ ls ins)) := by
  rw [← valI_ofI (totC ls ins), ← valI_ofI (totQ ls ins)]
  exact qb_two (totC_le h ins) (totQ_le h ins) (by omega)
theorem half_frQ : frQ ⟨[49], [50]⟩ = 1 / 2 := by
  unfold frQ frN frD
  rw [show valI [49] = 1 by decide, show valI [50] = 2 by decide, if_neg (by decide), Rat.divInt_eq_div]
  simp
end Go.Proofs.YtikehdbkiplleaaGreatDoor
/- The walks over the library's slices.Grow and slices.Concat at slices of lots. -/
namespace Go.Proofs.YtikehdbkiplleaaGreatDoor
open Go.RowKit
attribute [local go_sem] size_bs toList_bs

theorem lots_append (a b : List LotV) : lots (a ++ b) = lots a ++ lots b := by simp [lots]
def OwnEnds (base : Nat) (e : TypeId) (size n : Nat) (xs : List Value) (w : World) (r : Ending) (w' : World) : Prop :=
  ∃ v, r = .returned v ∧ w'.ownsRow base e size v n xs ∧ Ext w w'
set_option maxRecDepth 100000 in
set_option maxHeartbeats 1000000 in
theorem growL (n : Nat) (w : World) (hn : n ≤ 1000000) :
    Calls Tryz.prog 80 #[.slice none 0 0, .int .i64 n] w (OwnEnds w.heap.size 50 7 0 [] w) := by
  rcases Nat.eq_zero_or_pos n with h0 | h0
  · subst h0
    go_enter Tryz.func80, Tryz.ntmps80
    go_wp2_with fail
    go_ret
    exact ⟨_, rfl, ⟨rfl, .inl ⟨rfl, rfl⟩⟩, Ext.refl _⟩
  · obtain ⟨i0, hI, hz0, hz1, hz2⟩ := info_parts lotInfo
    have hrz : ∀ ty, (Builtin.append_ #[22, 3] ty #[.slice none 0 0, .int .i64 (n : Int)]).run Tryz.prog w = _ := fun ty =>
      Lib.run_append_nil_zeros w 22 3 ty 50 i0 _ .i64 .i64 Tryz.underlying22 Tryz.underlying3 hI hz0 n h0 (by rw [hz1]; decide) (by omega) (by rw [hz2]; omega)
    obtain ⟨G, hG⟩ : ∃ G, G = grownCap w n 0 50 := ⟨_, rfl⟩
    have hGn : n ≤ G := by rw [hG]; exact grownCap_ge w _ _ _
    have hG63 : G ≤ maxLen := by rw [hG]; exact grownCap_le_maxLen w n 0 _ (by unfold maxLen; omega)
    obtain ⟨ROW, hROW⟩ : ∃ ROW : Array Value, ROW = Builtin.zeroCells (Value.agg #[.string ⟨#[]⟩, .string ⟨#[]⟩, .int .i64 0, .int .i64 0, .string ⟨#[]⟩, .string ⟨#[]⟩, .string ⟨#[]⟩]).cells n ++ Builtin.zeroCells (Value.agg #[.string ⟨#[]⟩, .string ⟨#[]⟩, .int .i64 0, .int .i64 0, .string ⟨#[]⟩, .string ⟨#[]⟩, .string ⟨#[]⟩]).cells (G - n) := ⟨_, rfl⟩
    rw [← hG, ← hROW] at hrz
    have hRl : ROW.size = G * 7 := by
      rw [hROW]
      simp [Builtin.zeroCells, Value.cells]
      omega
    have HOWN : Hid ((w.drew.alloc (.cells ROW 50)).ownsRow w.heap.size 50 7 (.slice (some ⟨w.heap.size, 0, none⟩) 0 G) 0 []) := Lib.hid ⟨rfl, .inr ⟨w.heap.size, G, ROW, rfl, Nat.le_refl _, heap_alloc_new w.drew _, Nat.zero_le _, hG63, hRl, by simp⟩⟩
    clear hROW hRl hG hI hz0 hz1 hz2
    unfold maxLen at hG63
    go_enter Tryz.func80, Tryz.ntmps80
    go_wp2_with (at_builtin; refine Lib.wpList_append_run _ rfl (.tmp 20) (.tmp 21) _ _ rfl _ _ rfl rfl _ _ (hrz _) ?_)
    go_ret
    exact ⟨_, rfl, HOWN.out, (Ext.refl w).drew.alloc _⟩
abbrev Part : Type := Option Addr × Nat × List LotV
def pcells (ps : List Part) : List Value := ps.map fun p => .slice p.1 p.2.2.length p.2.1
def cat (ps : List Part) : List LotV := ps.flatMap (·.2.2)
theorem cat_take {ps : List Part} {k : Nat} (h : k < ps.length) : cat (ps.take (k + 1)) = cat (ps.take k) ++ (ps[k]'h).2.2 := by
  unfold cat; rw [List.take_succ_eq_append_getElem h, List.flatMap_append, List.flatMap_singleton]
theorem cat_le (ps : List Part) (k : Nat) : (cat (ps.take k)).length ≤ (cat ps).length := by
  have : cat ps = cat (ps.take k) ++ cat (ps.drop k) := by unfold cat; rw [← List.flatMap_append, List.take_append_drop]
  rw [this, List.length_append]; omega
def CatEnds (hs : List LotV) (w : World) (e : Ending) (w' : World) : Prop := ∃ A c, e = .returned (.slice A hs.length c) ∧ RdL w' A hs ∧ Ext w w' ∧ hs.length ≤ c
set_option maxRecDepth 100000 in
set_option maxHeartbeats 1000000 in
theorem concatL (ps : List Part) (A : Option Addr) (c : Nat) (w : World) (hA : Reads w 1 A ps.length (pcells ps)) (hP : ∀ p ∈ ps, RdL w p.1 p.2.2) (hk : ps.length ≤ 1000) (hn : (cat ps).length ≤ 1000000) :
    Calls Tryz.prog 42 #[.slice A ps.length c] w (CatEnds (cat ps) w) := by
  have HA := Lib.hid hA
  have HP := Lib.hid hP
  obtain ⟨i0, hI, hz0, hz1, hz2⟩ := info_parts lotInfo
  have HI := Lib.hid hI
  clear hA hP hI
  go_enter Tryz.func42, Tryz.ntmps42
  go_wp2_with fail
  go_loopw [11, 3, 5] (fun i z _ wr => ∃ k : Nat, k ≤ ps.length ∧ i = .int .i64 k ∧ z = .int .i64 (cat (ps.take k)).length ∧ w = wr) (fun i _ _ _ => ps.length - (intOf i).toNat)
  case atStart => exact ⟨0, by omega, rfl, rfl, rfl⟩
  case round =>
    obtain ⟨k, hk1, rfl, rfl, rfl⟩ := hrel
    by_cases hlt : k < ps.length
    · obtain ⟨b, o, rfl, hb⟩ := Reads.at_ HA.out (by omega)
      have hcell := Reads.cell HA.out (j := k) (u := .slice (ps[k]'hlt).1 (ps[k]'hlt).2.2.length (ps[k]'hlt).2.1) (by simp [pcells, hlt])
      have hle := cat_le ps (k + 1)
      rw [cat_take hlt, List.length_append] at hle
      have HCT := Lib.hid (cat_take hlt)
      generalize ps[k]'hlt = p at *
      generalize cat (List.take k ps) = pre at *
      have hneg : ¬ ((pre.length : Int) + (p.2.2.length : Int) < 0) := by omega
      go_wp2_with fail
      go_roundw
      case rel => exact ⟨k + 1, by omega, by go_num, by rw [HCT.out, List.length_append]; go_num, by first | rfl | trivial⟩
      case measure => simp [intOf]; omega
    · have hkl : k = ps.length := by omega
      subst hkl
      rw [List.take_length]
      clear hlt hk1
      go_wp2_with fail
      refine (growL (cat ps).length _ hn).mono ?_
      rintro e w1 ⟨v, rfl, hown, hx1⟩
      have HOW : Hid (w1.ownsRow w.heap.size 50 7 v (cat (ps.take 0)).length (lots (cat (ps.take 0)))) := Lib.hid hown
      have HX1 := Lib.hid hx1
      clear hown hx1
      go_wp2_with fail
      go_loopw [27, 6, 8] (fun i v _ w2 => ∃ k : Nat, k ≤ ps.length ∧ i = .int .i64 k ∧ w2.ownsRow w.heap.size 50 7 v (cat (ps.take k)).length (lots (cat (ps.take k))) ∧ Ext w w2) (fun i _ _ _ => ps.length - (intOf i).toNat)
      case atStart => exact ⟨0, by omega, rfl, HOW.out, HX1.out⟩
      case round =>
        clear HOW HX1
        obtain ⟨k, hk1, rfl, hown, hx⟩ := hrel
        have HOW := Lib.hid hown
        have HX := Lib.hid hx
        clear hown hx
        by_cases hlt : k < ps.length
        · obtain ⟨b, o, rfl, hb⟩ := Reads.at_ HA.out (by omega)
          have hcell := Reads.cell (Reads.ext HA.out HX.out) (j := k) (u := .slice (ps[k]'hlt).1 (ps[k]'hlt).2.2.length (ps[k]'hlt).2.1) (by simp [pcells, hlt])
          have hle := cat_le ps (k + 1)
          rw [cat_take hlt, List.length_append] at hle
          have HCT := Lib.hid (cat_take hlt)
          have HRD := Lib.hid ((HP.out _ (List.getElem_mem hlt)).ext HX.out)
          have hsz := HX.out.size
          generalize ps[k]'hlt = p at *
          generalize cat (List.take k ps) = pre at *
          go_wp2_with (at_builtin; refine wpList_append_any _ rfl (.tmp 31) (.tmp 32) 22 rfl w.heap.size 50 i0 _ 7 96 Tryz.underlying22 HI.out hz0 hz1 hz2 rfl (by decide) _ pre.length (lots pre) rfl HOW.out p.1 p.2.2.length p.2.1 (lots p.2.2) rfl HRD.out (oneL _) (by simp only [maxLen]; omega) (by omega) hsz ?_; intro v' w' hown hgrow hat)
          go_roundw
          case rel => exact ⟨k + 1, by omega, by go_num, by rw [HCT.out, List.length_append, lots_append]; exact hown, HX.out.grown hgrow (own_base HOW.out)⟩
          case measure => simp [intOf]; omega
        · have hkl : k = ps.length := by omega
          subst hkl
          rw [List.take_length] at HOW
          obtain ⟨A1, c1, rfl⟩ := own_len HOW.out
          go_wp2_with fail
          go_ret
          exact ⟨A1, c1, rfl, Reads.own HOW.out, HX.out, (own_cap HOW.out).1⟩
end Go.Proofs.YtikehdbkiplleaaGreatDoor
/- The library's slices.Reverse at lots. -/
namespace Go.Proofs.YtikehdbkiplleaaGreatDoor
open Go.RowKit
attribute [local go_sem] size_bs toList_bs

/-- the first k and the last k places exchanged -/
def revK (ls : List LotV) (k : Nat) : List LotV := List.ofFn (fun m : Fin ls.length => if m.val < k ∨ ls.length - k ≤ m.val then ls[ls.length - 1 - m.val]'(by have := m.isLt; omega) else ls[m.val])
theorem revK_len (ls : List LotV) (k : Nat) : (revK ls k).length = ls.length := by simp [revK]
theorem revK_at (ls : List LotV) (k m : Nat) (h : m < ls.length) (h' : m < (revK ls k).length) : (revK ls k)[m]'h' = if m < k ∨ ls.length - k ≤ m then ls[ls.length - 1 - m]'(by omega) else ls[m] := by
  simp [revK]
theorem revK_zero (ls : List LotV) : revK ls 0 = ls := by
  apply List.ext_getElem (revK_len _ _)
  intro m h1 h2
  rw [revK_at ls 0 m h2 h1, if_neg (by omega)]
theorem revK_full (ls : List LotV) (k : Nat) (h : ls.length ≤ 2 * k + 1) : revK ls k = ls.reverse := by
  apply List.ext_getElem (by rw [revK_len]; simp)
  intro m h1 h2
  rw [revK_len] at h1
  rw [revK_at ls k m h1, List.getElem_reverse]
  split
  · rfl
  · congr 1; omega
theorem revK_step (ls : List LotV) (k : Nat) (h : 2 * k + 1 < ls.length) :
    ((revK ls k).set k (ls[ls.length - 1 - k]'(by omega))).set (ls.length - 1 - k) (ls[k]'(by omega)) = revK ls (k + 1) := by
  apply List.ext_getElem (by simp [revK_len])
  intro m h1 h2
  rw [revK_len] at h2
  rw [revK_at ls (k + 1) m h2, List.getElem_set, List.getElem_set]
  split
  · rename_i e
    rw [if_pos (by omega)]
    congr 1; omega
  · split
    · rename_i e1 e2
      rw [if_pos (by omega)]
      congr 1; omega
    · rename_i e1 e2
      rw [revK_at ls k m h2]
      by_cases hc : m < k ∨ ls.length - k ≤ m
      · rw [if_pos hc, if_pos (by omega)]
      · rw [if_neg hc, if_neg (by omega)]
theorem lots_set (ls : List LotV) (k : Nat) (x : LotV) (h : k < ls.length) : lots (ls.set k x) = lsplice (lots ls) (k * 7) (lotCells x) := by
  induction ls generalizing k with
  | nil => simp at h
  | cons z r ih =>
    cases k with
    | zero =>
      simp only [lots, List.set_cons_zero, List.flatMap_cons, lsplice, Nat.zero_mul, List.take_zero, List.nil_append, Nat.zero_add]
      rw [lotCells_len, ← lotCells_len z, List.drop_left]
    | succ k =>
      have := ih k (by simpa using h)
      simp only [lots, List.set_cons_succ, List.flatMap_cons, lsplice] at this ⊢
      rw [this, show (k + 1) * 7 = (lotCells z).length + k * 7 by rw [lotCells_len]; omega, List.take_length_add_append, Nat.add_assoc, List.drop_length_add_append]
      simp only [List.append_assoc]
theorem lsplice_take {cur xs : List Value} {n o : Nat} (vs : List Value) (h : cur.take n = xs) (ho : o + vs.length ≤ n) (hn : n ≤ cur.length) : (lsplice cur o vs).take n = lsplice xs o vs := by
  subst h
  unfold lsplice
  have h1 : (cur.take n).take o = cur.take o := by rw [List.take_take, Nat.min_eq_left (by omega)]
  have h2 : (cur.take o).length = o := by rw [List.length_take]; omega
  rw [h1, List.take_append, List.take_of_length_le (by rw [List.length_append, h2]; omega), List.length_append, h2, List.drop_take, show n - (o + vs.length) = n - (o + vs.length) from rfl]
theorem RowL.drew {w : World} {g cap : Nat} {ls : List LotV} (h : RowL w g cap ls) : RowL w.drew g cap ls := by
  obtain ⟨cur, h⟩ := h
  exact ⟨cur, h.drew⟩
theorem RowL.setl {w : World} {g cap : Nat} {ls : List LotV} (h : RowL w g cap ls) {k : Nat} (hk : k < ls.length) (x : LotV) : RowL (w.setCells g (k * 7) (lotCells x)) g cap (ls.set k x) := by
  obtain ⟨cur, h⟩ := h
  have hle : k * 7 + (lotCells x).length ≤ ls.length * 7 := by rw [lotCells_len]; omega
  have hc : ls.length * 7 ≤ cap * 7 := Nat.mul_le_mul_right _ h.le
  refine ⟨_, h.put (lotCells x) (k * 7) (by omega) (n' := (ls.set k x).length) (xs' := lots (ls.set k x)) (by rw [List.length_set]; exact h.le) (lots_len _) ?_⟩
  rw [List.length_set, lots_set ls k x hk]
  exact lsplice_take _ h.take hle (by rw [h.full]; exact hc)
set_option maxRecDepth 100000 in
set_option maxHeartbeats 4000000 in
theorem reverseL (ls : List LotV) (g cap : Nat) (w : World) (hr : RowL w g cap ls) (hn : ls.length ≤ 1000000) :
    Calls Tryz.prog 40 #[.slice (some ⟨g, 0, none⟩) ls.length cap] w fun e w' => e = .returned (.tuple #[]) ∧ RowL w' g cap ls.reverse ∧ Only g w w' := by
  have HR0 := Lib.hid hr
  clear hr
  go_enter Tryz.func40, Tryz.ntmps40
  go_wp2_with fail
  go_loopw [2, 3] (fun i j wr => ∃ k : Nat, k ≤ ls.length ∧ i = .int .i64 k ∧ j = .int .i64 ((ls.length : Int) - 1 - k) ∧ RowL wr g cap (revK ls k) ∧ Only g w wr) (fun i _ _ => ls.length - (intOf i).toNat)
  case atStart => exact ⟨0, by omega, rfl, by go_num, by rw [revK_zero]; exact HR0.out, Only.refl _ _⟩
  case round =>
    clear HR0
    obtain ⟨k, hk, rfl, rfl, hr, ho⟩ := hrel
    have HR := Lib.hid hr
    have HO := Lib.hid ho
    clear hr ho
    by_cases hlt : 2 * k + 1 < ls.length
    · have hkl : k < (revK ls k).length := by rw [revK_len]; omega
      have hjl : ls.length - 1 - k < (revK ls k).length := by rw [revK_len]; omega
      obtain ⟨b, o, e1, _, c0, c1, c2, c3, c4, c5, c6⟩ := HR.out.reads.at_ hkl
      simp only [Option.some.injEq, Addr.mk.injEq, and_true] at e1
      obtain ⟨rfl, rfl⟩ := e1
      obtain ⟨b, o, e1, _, d0, d1, d2, d3, d4, d5, d6⟩ := HR.out.reads.at_ hjl
      simp only [Option.some.injEq, Addr.mk.injEq, and_true] at e1
      obtain ⟨rfl, rfl⟩ := e1
      simp only [Nat.zero_add] at c0 c1 c2 c3 c4 c5 c6 d0 d1 d2 d3 d4 d5 d6
      obtain ⟨j, hj⟩ : ∃ j, ls.length - 1 - k = j := ⟨_, rfl⟩
      have hji : (ls.length : Int) - 1 - (k : Int) = (j : Int) := by omega
      have hst := revK_step ls k hlt
      simp only [hj] at d0 d1 d2 d3 d4 d5 d6 hjl hst
      rw [hji]
      have hlt' : (k : Int) < (j : Int) := by omega
      have hjn : (j : Int) < (ls.length : Int) := by omega
      have hkn : (k : Int) < (ls.length : Int) := by omega
      have hk0 : (0 : Int) ≤ (k : Int) := by omega
      have hj0 : (0 : Int) ≤ (j : Int) := by omega
      have hfr := fun m => HR.out.frozen m
      have hS := Lib.hid hst
      generalize hxk : (revK ls k)[k] = x at *
      generalize hxj : (revK ls k)[j] = y at *
      obtain ⟨x0, x1, x2, x3, x4, x5, x6⟩ := x
      obtain ⟨y0, y1, y2, y3, y4, y5, y6⟩ := y
      simp only at c0 c1 c2 c3 c4 c5 c6 d0 d1 d2 d3 d4 d5 d6
      clear hst
      go_wp2_with fail
      go_region
      have HRN := (HR.out.setl hkl ⟨y0, y1, y2, y3, y4, y5, y6⟩).setl (k := j) (by rw [List.length_set]; exact hjl) ⟨x0, x1, x2, x3, x4, x5, x6⟩
      have HON := Only.sets (lotCells ⟨x0, x1, x2, x3, x4, x5, x6⟩) (j * 7) _ _ (Only.sets (lotCells ⟨y0, y1, y2, y3, y4, y5, y6⟩) (k * 7) _ _ HO.out)
      have hxy : (⟨y0, y1, y2, y3, y4, y5, y6⟩ : LotV) = ls[j]'(by omega) ∧ (⟨x0, x1, x2, x3, x4, x5, x6⟩ : LotV) = ls[k]'(by omega) := by
        rw [← hxk, ← hxj, revK_at ls k j (by omega), revK_at ls k k (by omega), if_neg (by omega), if_neg (by omega)]
        exact ⟨rfl, rfl⟩
      have hS2 := hS.out
      rw [← hxy.1, ← hxy.2] at hS2
      rw [hS2] at HRN
      have HRN' := Lib.hid HRN.drew
      have HON' := Lib.hid HON.drew
      clear HR HO HRN HON c0 c1 c2 c3 c4 c5 c6 d0 d1 d2 d3 d4 d5 d6 hfr
      go_wp2_with fail
      refine ⟨⟨k + 1, by omega, congrArg (Value.int .i64) (by omega), congrArg (Value.int .i64) (by omega), HRN'.out, HON'.out⟩, ?_⟩
      have e1 : (intOf (.int .i64 ((k : Int) + 1))).toNat = k + 1 := by show ((k : Int) + 1).toNat = _; omega
      have e2 : (intOf (.int .i64 (k : Int))).toNat = k := by show ((k : Int)).toNat = _; omega
      rw [e1, e2]
      omega
    · have hf : ls.length ≤ 2 * k + 1 := by omega
      have hcmp : ¬ ((k : Int) < (ls.length : Int) - 1 - (k : Int)) := by omega
      go_wp2_with fail
      go_end0
      exact ⟨rfl, by rw [← revK_full ls k hf]; exact HR.out, HO.out⟩
end Go.Proofs.YtikehdbkiplleaaGreatDoor
/- The walk over the program's Cut of a lot. -/
namespace Go.Proofs.YtikehdbkiplleaaGreatDoor
open Go.RowKit Go.Shelf
attribute [local go_sem] size_bs toList_bs

abbrev LT : TypeId := 50
def lot0 : LotV := ⟨[], [], 0, 0, [], [], []⟩
def cutA (x : LotV) (q : Bs) : LotV := { x with q := q, c := ofI (shareZ (valI x.c) (valI q) (valI x.q)), u := if x.u = [] then [] else q }
def cutB (x : LotV) (q : Bs) : LotV := { x with q := ofI (valI x.q - valI q), c := ofI (valI x.c - shareZ (valI x.c) (valI q) (valI x.q)), u := if x.u = [] then [] else ofI (valI x.q - valI q) }
def cutV (x : LotV) (q : Bs) : LotV × LotV × Int :=
  if checkL x ≠ 0 ∨ checkI q ≠ 0 then (lot0, lot0, 1) else if valI q ≤ 0 ∨ valI x.q ≤ valI q then (lot0, lot0, 2) else (cutA x q, cutB x q, 0)
theorem lsplice_all (vs cs : List Value) (h : cs.length = vs.length) : lsplice cs 0 vs = vs := by
  unfold lsplice
  rw [List.take_zero, List.nil_append, List.drop_of_length_le (by omega), List.append_nil]
theorem lc_list (x : LotV) : lc x = (lotCells x).toArray := rfl
/-- a lot stored over a block of its own -/
theorem lot_over {w : World} {g : Nat} {x : LotV} (h : Blk w g 50 (lc x)) (y : LotV) : Blk (w.setCells g 0 (lotCells y)) g 50 (lc y) := by
  have := Blk.sets (lotCells y) 0 w (lotCells x) h (by rw [lotCells_len, lotCells_len]; omega)
  rw [lsplice_all _ _ (by rw [lotCells_len, lotCells_len])] at this
  exact this
theorem results_lot2 {fn : Func} {a b c : Tmp} (h : fn.results = #[.cell a 50, .cell b 50, .tmp c]) (tmps : Array Value) (w : World) (g k : Nat) (x y : LotV) (z : Value) (ha : tmps.getD a undef = .pointer (some ⟨g, 0, none⟩)) (hb : tmps.getD b undef = .pointer (some ⟨k, 0, none⟩)) (hz : tmps.getD c undef = z) (hx : Blk w g 50 (lc x)) (hy : Blk w k 50 (lc y)) :
    (results fn tmps).run Tryz.prog w = .ok (.tuple #[lv x, lv y, z]) w := by
  obtain ⟨p0, p1, p2, p3, p4, p5, p6⟩ := lotBlk hx (Ext.refl _)
  obtain ⟨q0, q1, q2, q3, q4, q5, q6⟩ := lotBlk hy (Ext.refl _)
  unfold results
  rw [h]
  simp only [List.mapM_toArray, List.mapM_cons, List.mapM_nil, ha, hb, hz]
  go_simp
/-- the three blocks of Cut -/
structure CutAt (W0 W : World) (g : Nat) (x : LotV) : Prop where
  bx : Blk W g 50 (lc x)
  ba : Blk W (g + 1) 50 (lc lot0)
  bb : Blk W (g + 2) 50 (lc lot0)
  le : W0.heap.size ≤ g
  ext : Ext W0 W
theorem CutAt.on {W0 W W' : World} {g : Nat} {x : LotV} (h : CutAt W0 W g x) (hx : Ext W W') : CutAt W0 W' g x := ⟨h.bx.ext hx, h.ba.ext hx, h.bb.ext hx, h.le, h.ext.trans hx⟩
theorem cutAt_new (w : World) (x : LotV) : CutAt w (((w.alloc (.cells (lc x) 50)).alloc (.cells (lc lot0) 50)).alloc (.cells (lc lot0) 50)) w.heap.size x := by
  have e1 : (w.alloc (.cells (lc x) 50)).heap.size = w.heap.size + 1 := Array.size_push ..
  have e2 : ((w.alloc (.cells (lc x) 50)).alloc (.cells (lc lot0) 50)).heap.size = w.heap.size + 2 := (Array.size_push ..).trans (congrArg (· + 1) e1)
  refine ⟨((Blk.new _ _ _).ext (Ext.new _ _)).ext (Ext.new _ _), ?_, ?_, Nat.le_refl _, ((Ext.new _ _).trans (Ext.new _ _)).trans (Ext.new _ _)⟩
  · have := (Blk.new (w.alloc (.cells (lc x) 50)) 50 (lc lot0)).ext (Ext.new _ (.cells (lc lot0) 50))
    rwa [e1] at this
  · have := Blk.new ((w.alloc (.cells (lc x) 50)).alloc (.cells (lc lot0) 50)) 50 (lc lot0)
    rwa [e2] at this
def StartAt (w : World) (x : LotV) (p2 p4 p5 : Value) (wx : World) : Prop := ∃ g, p2 = .pointer (some ⟨g, 0, none⟩) ∧ p4 = .pointer (some ⟨g + 1, 0, none⟩) ∧ p5 = .pointer (some ⟨g + 2, 0, none⟩) ∧ CutAt w wx g x
def PairAt (W : World) (x : LotV) (p7 p8 : Value) (wx : World) : Prop := ∃ P R, p7 = .pointer (some ⟨P, 0, none⟩) ∧ p8 = .pointer (some ⟨R, 0, none⟩) ∧ P ≠ R ∧ W.heap.size ≤ P ∧ W.heap.size ≤ R ∧ Blk wx P 50 (lc x) ∧ Blk wx R 50 (lc x) ∧ Ext W wx
/-- the two halves beside them -/
structure HalvesAt (W0 W : World) (g P R : Nat) (x a b : LotV) : Prop where
  cut : CutAt W0 W g x
  ne : P ≠ R
  lp : g + 3 ≤ P
  lr : g + 3 ≤ R
  bp : Blk W P 50 (lc a)
  br : Blk W R 50 (lc b)
section
variable {W0 W W' : World} {g P R : Nat} {x a b : LotV}
theorem HalvesAt.on (h : HalvesAt W0 W g P R x a b) (hx : Ext W W') : HalvesAt W0 W' g P R x a b := ⟨h.cut.on hx, h.ne, h.lp, h.lr, h.bp.ext hx, h.br.ext hx⟩
theorem HalvesAt.store (h : HalvesAt W0 W g P R x a b) (n : Nat) (u v : Value) {a' b' : LotV} (ha : (lc a).setIfInBounds n u = lc a') (hb : (lc b).setIfInBounds n v = lc b') : HalvesAt W0 ((W.setCell ⟨P, n, none⟩ u).setCell ⟨R, n, none⟩ v) g P R x a' b' := by
  have h1 := h.lp
  have h2 := h.lr
  have h3 := h.ne
  have h4 := h.cut.le
  refine ⟨⟨(h.cut.bx.far (p := ⟨P, n, none⟩) (by show g ≠ P; omega) u).far (p := ⟨R, n, none⟩) (by show g ≠ R; omega) v, (h.cut.ba.far (p := ⟨P, n, none⟩) (by show g + 1 ≠ P; omega) u).far (p := ⟨R, n, none⟩) (by show g + 1 ≠ R; omega) v, (h.cut.bb.far (p := ⟨P, n, none⟩) (by show g + 2 ≠ P; omega) u).far (p := ⟨R, n, none⟩) (by show g + 2 ≠ R; omega) v, h.cut.le, (h.cut.ext.setCell (p := ⟨P, n, none⟩) (by show W0.heap.size ≤ P; omega) u).setCell (p := ⟨R, n, none⟩) (by show W0.heap.size ≤ R; omega) v⟩, h3, h1, h2, ?_, ?_⟩
  · have := (h.bp.set_ n u).far (p := ⟨R, n, none⟩) h3 v
    rwa [ha] at this
  · have := (h.br.far (p := ⟨P, n, none⟩) (Ne.symm h3) u).set_ n v
    rwa [hb] at this
theorem halves_drew (h : HalvesAt W0 W g P R x a b) : HalvesAt W0 W.drew g P R x a b := h.on (Ext.refl _).drew
end
set_option maxRecDepth 100000 in
set_option maxHeartbeats 4000000 in
theorem lotCut (x : LotV) (q : Bs) (hs : SmallL x) (hq : q.length ≤ 5000) : Pure 41 #[lv x, .string (bs q)] (.tuple #[lv (cutV x q).1, lv (cutV x q).2.1, .int .i64 (cutV x q).2.2]) := by
  intro w hE
  have s3 := hs.2.2.1
  have s4 := hs.2.2.2.1
  have HE := Lib.hid hE
  have HN := Lib.hid (cutAt_new w x)
  have HX : Hid (Ext w w) := Lib.hid (Ext.refl w)
  have KL := Lib.hid (lotCheck x hs)
  have KQ := Lib.hid (checkP q (by omega))
  have C0 := Lib.hid (cmp0P q (by omega))
  have C1 := Lib.hid (cmpP q x.q (by omega) (by omega))
  have S1 := Lib.hid (subP x.q q (by omega) (by omega))
  by_cases h1 : checkL x = 0
  rotate_left
  · have he : cutV x q = (lot0, lot0, 1) := by unfold cutV; rw [if_pos (.inl h1)]
    rw [he]
    have g1 : (checkL x != 0) = true := by rw [bne_iff_ne]; exact h1
    generalize checkL x = ck at *
    go_enter Tryz.func41, Tryz.ntmps41
    go_upto_region 0 with fail
    go_cut [2, 4, 5] (fun p2 p4 p5 wx => StartAt w x p2 p4 p5 wx)
    case first =>
      go_wp2_with fail
      go_meet
      exact ⟨_, rfl, rfl, rfl, HN.out⟩
    obtain ⟨g, rfl, rfl, rfl, hcu⟩ := hcut
    replace HN := Lib.hid hcu
    replace HX := Lib.hid hcu.ext
    clear hcu
    obtain ⟨p0, p1, p2, p3, p4, p5, p6⟩ := lotBlk HN.out.bx (Ext.refl _)
    go_wp2_with fail
    refine (KL.out _ (HE.out.ext HX.out)).mono ?_
    rintro e wv ⟨rfl, hx1⟩
    replace HN := Lib.hid (HN.out.on hx1)
    replace HX := Lib.hid (HX.out.trans hx1)
    clear hx1
    obtain ⟨p0, p1, p2, p3, p4, p5, p6⟩ := lotBlk HN.out.bx (Ext.refl _)
    obtain ⟨a0, a1, a2, a3, a4, a5, a6⟩ := lotBlk HN.out.ba (Ext.refl _)
    obtain ⟨b0, b1, b2, b3, b4, b5, b6⟩ := lotBlk HN.out.bb (Ext.refl _)
    have fa := fun k => HN.out.ba.frozen k
    have fb := fun k => HN.out.bb.frozen k
    go_wp2_with fail
    refine bodyPost_ret (results_lot2 rfl _ _ (g + 1) (g + 2) (lot0) (lot0) (.int .i64 1) rfl rfl rfl (Blk.sets_far (lot_over HN.out.ba (lot0)) (by omega) (lotCells (lot0)) 0) (lot_over (Blk.sets_far HN.out.bb (by omega) (lotCells (lot0)) 0) (lot0))) rfl ?_
    exact ⟨rfl, ext_sets (lotCells (lot0)) 0 _ () (ext_sets (lotCells (lot0)) 0 _ () HX.out (by have := HN.out.le; omega)) (by have := HN.out.le; omega)⟩
  rw [h1] at KL
  by_cases h2 : checkI q = 0
  rotate_left
  · have he : cutV x q = (lot0, lot0, 1) := by unfold cutV; rw [if_pos (.inr h2)]
    rw [he]
    have g1 : (checkI q != 0) = true := by rw [bne_iff_ne]; exact h2
    generalize checkI q = ck at *
    go_enter Tryz.func41, Tryz.ntmps41
    go_upto_region 0 with fail
    go_cut [2, 4, 5] (fun p2 p4 p5 wx => StartAt w x p2 p4 p5 wx)
    case first =>
      go_wp2_with fail
      go_meet
      exact ⟨_, rfl, rfl, rfl, HN.out⟩
    obtain ⟨g, rfl, rfl, rfl, hcu⟩ := hcut
    replace HN := Lib.hid hcu
    replace HX := Lib.hid hcu.ext
    clear hcu
    obtain ⟨p0, p1, p2, p3, p4, p5, p6⟩ := lotBlk HN.out.bx (Ext.refl _)
    go_wp2_with fail
    refine (KL.out _ (HE.out.ext HX.out)).mono ?_
    rintro e wv ⟨rfl, hx1⟩
    replace HN := Lib.hid (HN.out.on hx1)
    replace HX := Lib.hid (HX.out.trans hx1)
    clear hx1
    obtain ⟨p0, p1, p2, p3, p4, p5, p6⟩ := lotBlk HN.out.bx (Ext.refl _)
    go_wp2_with fail
    refine (KQ.out _ (HE.out.ext HX.out)).mono ?_
    rintro e wv ⟨rfl, hx1⟩
    replace HN := Lib.hid (HN.out.on hx1)
    replace HX := Lib.hid (HX.out.trans hx1)
    clear hx1
    obtain ⟨p0, p1, p2, p3, p4, p5, p6⟩ := lotBlk HN.out.bx (Ext.refl _)
    obtain ⟨a0, a1, a2, a3, a4, a5, a6⟩ := lotBlk HN.out.ba (Ext.refl _)
    obtain ⟨b0, b1, b2, b3, b4, b5, b6⟩ := lotBlk HN.out.bb (Ext.refl _)
    have fa := fun k => HN.out.ba.frozen k
    have fb := fun k => HN.out.bb.frozen k
    go_wp2_with fail
    refine bodyPost_ret (results_lot2 rfl _ _ (g + 1) (g + 2) (lot0) (lot0) (.int .i64 1) rfl rfl rfl (Blk.sets_far (lot_over HN.out.ba (lot0)) (by omega) (lotCells (lot0)) 0) (lot_over (Blk.sets_far HN.out.bb (by omega) (lotCells (lot0)) 0) (lot0))) rfl ?_
    exact ⟨rfl, ext_sets (lotCells (lot0)) 0 _ () (ext_sets (lotCells (lot0)) 0 _ () HX.out (by have := HN.out.le; omega)) (by have := HN.out.le; omega)⟩
  rw [h2] at KQ
  by_cases h3 : valI q ≤ 0
  · have he : cutV x q = (lot0, lot0, 2) := by unfold cutV; rw [if_neg (by omega), if_pos (.inl h3)]
    rw [he]
    have g2 : decide (cmpI (valI q) 0 ≤ 0) = true := by rw [decide_eq_true_iff]; have := cmpI_pos (x := valI q) (y := 0); omega
    clear he h1 h2 h3 s3 s4 hs hq
    generalize cmpI (valI q) 0 = k1 at *
    go_enter Tryz.func41, Tryz.ntmps41
    go_upto_region 0 with fail
    go_cut [2, 4, 5] (fun p2 p4 p5 wx => StartAt w x p2 p4 p5 wx)
    case first =>
      go_wp2_with fail
      go_meet
      exact ⟨_, rfl, rfl, rfl, HN.out⟩
    obtain ⟨g, rfl, rfl, rfl, hcu⟩ := hcut
    replace HN := Lib.hid hcu
    replace HX := Lib.hid hcu.ext
    clear hcu
    obtain ⟨p0, p1, p2, p3, p4, p5, p6⟩ := lotBlk HN.out.bx (Ext.refl _)
    go_wp2_with fail
    refine (KL.out _ (HE.out.ext HX.out)).mono ?_
    rintro e wv ⟨rfl, hx1⟩
    replace HN := Lib.hid (HN.out.on hx1)
    replace HX := Lib.hid (HX.out.trans hx1)
    clear hx1
    obtain ⟨p0, p1, p2, p3, p4, p5, p6⟩ := lotBlk HN.out.bx (Ext.refl _)
    go_wp2_with fail
    refine (KQ.out _ (HE.out.ext HX.out)).mono ?_
    rintro e wv ⟨rfl, hx1⟩
    replace HN := Lib.hid (HN.out.on hx1)
    replace HX := Lib.hid (HX.out.trans hx1)
    clear hx1
    obtain ⟨p0, p1, p2, p3, p4, p5, p6⟩ := lotBlk HN.out.bx (Ext.refl _)
    go_wp2_with fail
    refine (C0.out _ (HE.out.ext HX.out)).mono ?_
    rintro e wv ⟨rfl, hx1⟩
    replace HN := Lib.hid (HN.out.on hx1)
    replace HX := Lib.hid (HX.out.trans hx1)
    clear hx1
    obtain ⟨p0, p1, p2, p3, p4, p5, p6⟩ := lotBlk HN.out.bx (Ext.refl _)
    obtain ⟨a0, a1, a2, a3, a4, a5, a6⟩ := lotBlk HN.out.ba (Ext.refl _)
    obtain ⟨b0, b1, b2, b3, b4, b5, b6⟩ := lotBlk HN.out.bb (Ext.refl _)
    have fa := fun k => HN.out.ba.frozen k
    have fb := fun k => HN.out.bb.frozen k
    go_wp2_with fail
    refine bodyPost_ret (results_lot2 rfl _ _ (g + 1) (g + 2) (lot0) (lot0) (.int .i64 2) rfl rfl rfl (Blk.sets_far (lot_over HN.out.ba (lot0)) (by omega) (lotCells (lot0)) 0) (lot_over (Blk.sets_far HN.out.bb (by omega) (lotCells (lot0)) 0) (lot0))) rfl ?_
    exact ⟨rfl, ext_sets (lotCells (lot0)) 0 _ () (ext_sets (lotCells (lot0)) 0 _ () HX.out (by have := HN.out.le; omega)) (by have := HN.out.le; omega)⟩
  have g2 : decide (cmpI (valI q) 0 ≤ 0) = false := by rw [decide_eq_false_iff_not]; have := cmpI_pos (x := valI q) (y := 0); omega
  by_cases h4 : valI x.q ≤ valI q
  · have he : cutV x q = (lot0, lot0, 2) := by unfold cutV; rw [if_neg (by omega), if_pos (.inr h4)]
    rw [he]
    have g3 : decide (0 ≤ cmpI (valI q) (valI x.q)) = true := by rw [decide_eq_true_iff]; have := cmpI_neg (x := valI q) (y := valI x.q); omega
    clear he h1 h2 h3 h4 s3 s4 hs hq
    generalize cmpI (valI q) 0 = k1 at *
    generalize cmpI (valI q) (valI x.q) = k2 at *
    go_enter Tryz.func41, Tryz.ntmps41
    go_upto_region 0 with fail
    go_cut [2, 4, 5] (fun p2 p4 p5 wx => StartAt w x p2 p4 p5 wx)
    case first =>
      go_wp2_with fail
      go_meet
      exact ⟨_, rfl, rfl, rfl, HN.out⟩
    obtain ⟨g, rfl, rfl, rfl, hcu⟩ := hcut
    replace HN := Lib.hid hcu
    replace HX := Lib.hid hcu.ext
    clear hcu
    obtain ⟨p0, p1, p2, p3, p4, p5, p6⟩ := lotBlk HN.out.bx (Ext.refl _)
    go_wp2_with fail
    refine (KL.out _ (HE.out.ext HX.out)).mono ?_
    rintro e wv ⟨rfl, hx1⟩
    replace HN := Lib.hid (HN.out.on hx1)
    replace HX := Lib.hid (HX.out.trans hx1)
    clear hx1
    obtain ⟨p0, p1, p2, p3, p4, p5, p6⟩ := lotBlk HN.out.bx (Ext.refl _)
    go_wp2_with fail
    refine (KQ.out _ (HE.out.ext HX.out)).mono ?_
    rintro e wv ⟨rfl, hx1⟩
    replace HN := Lib.hid (HN.out.on hx1)
    replace HX := Lib.hid (HX.out.trans hx1)
    clear hx1
    obtain ⟨p0, p1, p2, p3, p4, p5, p6⟩ := lotBlk HN.out.bx (Ext.refl _)
    go_wp2_with fail
    refine (C0.out _ (HE.out.ext HX.out)).mono ?_
    rintro e wv ⟨rfl, hx1⟩
    replace HN := Lib.hid (HN.out.on hx1)
    replace HX := Lib.hid (HX.out.trans hx1)
    clear hx1
    obtain ⟨p0, p1, p2, p3, p4, p5, p6⟩ := lotBlk HN.out.bx (Ext.refl _)
    go_wp2_with fail
    refine (C1.out _ (HE.out.ext HX.out)).mono ?_
    rintro e wv ⟨rfl, hx1⟩
    replace HN := Lib.hid (HN.out.on hx1)
    replace HX := Lib.hid (HX.out.trans hx1)
    clear hx1
    obtain ⟨p0, p1, p2, p3, p4, p5, p6⟩ := lotBlk HN.out.bx (Ext.refl _)
    obtain ⟨a0, a1, a2, a3, a4, a5, a6⟩ := lotBlk HN.out.ba (Ext.refl _)
    obtain ⟨b0, b1, b2, b3, b4, b5, b6⟩ := lotBlk HN.out.bb (Ext.refl _)
    have fa := fun k => HN.out.ba.frozen k
    have fb := fun k => HN.out.bb.frozen k
    go_wp2_with fail
    refine bodyPost_ret (results_lot2 rfl _ _ (g + 1) (g + 2) (lot0) (lot0) (.int .i64 2) rfl rfl rfl (Blk.sets_far (lot_over HN.out.ba (lot0)) (by omega) (lotCells (lot0)) 0) (lot_over (Blk.sets_far HN.out.bb (by omega) (lotCells (lot0)) 0) (lot0))) rfl ?_
    exact ⟨rfl, ext_sets (lotCells (lot0)) 0 _ () (ext_sets (lotCells (lot0)) 0 _ () HX.out (by have := HN.out.le; omega)) (by have := HN.out.le; omega)⟩
  have g3 : decide (0 ≤ cmpI (valI q) (valI x.q)) = false := by rw [decide_eq_false_iff_not]; have := cmpI_neg (x := valI q) (y := valI x.q); omega
  have he : cutV x q = (cutA x q, cutB x q, 0) := by unfold cutV; rw [if_neg (by omega), if_neg (by omega)]
  rw [he]
  obtain ⟨o1, o2, o3, o4, o5⟩ := checkL_ok h1
  have SH := Lib.hid (allShare x.c q x.q (by omega) (by omega) (by omega) o2 h2 o1 o3 (by omega) (by omega))
  have hA : cutA x q = { x with q := q, c := ofI (shareZ (valI x.c) (valI q) (valI x.q)), u := if x.u = [] then [] else q } := rfl
  have hB : cutB x q = { x with q := ofI (valI x.q - valI q), c := ofI (valI x.c - shareZ (valI x.c) (valI q) (valI x.q)), u := if x.u = [] then [] else ofI (valI x.q - valI q) } := rfl
  rw [hA, hB]
  have HU1 : Hid (x.u = [] → [] = (if x.u = [] then [] else q) ∧ [] = (if x.u = [] then [] else ofI (valI x.q - valI q))) := Lib.hid (fun h => by rw [if_pos h, if_pos h]; exact ⟨rfl, rfl⟩)
  have HU2 : Hid (x.u ≠ [] → q = (if x.u = [] then [] else q) ∧ ofI (valI x.q - valI q) = (if x.u = [] then [] else ofI (valI x.q - valI q))) := Lib.hid (fun h => by rw [if_neg h, if_neg h]; exact ⟨rfl, rfl⟩)
  generalize (if x.u = [] then [] else q) = ua at *
  generalize (if x.u = [] then [] else ofI (valI x.q - valI q)) = ub at *
  clear hA hB he h1 h2 h3 h4 s3 s4 hs hq o1 o2 o3 o4 o5
  generalize ofI (valI x.c - shareZ (valI x.c) (valI q) (valI x.q)) = cb at *
  generalize ofI (shareZ (valI x.c) (valI q) (valI x.q)) = ca at *
  generalize ofI (valI x.q - valI q) = qb at *
  generalize cmpI (valI q) 0 = k1 at *
  generalize cmpI (valI q) (valI x.q) = k2 at *
  go_enter Tryz.func41, Tryz.ntmps41
  go_upto_region 0 with fail
  go_cut [2, 4, 5] (fun p2 p4 p5 wx => StartAt w x p2 p4 p5 wx)
  case first =>
    go_wp2_with fail
    go_meet
    exact ⟨_, rfl, rfl, rfl, HN.out⟩
  obtain ⟨g, rfl, rfl, rfl, hcu⟩ := hcut
  replace HN := Lib.hid hcu
  replace HX := Lib.hid hcu.ext
  clear hcu
  obtain ⟨p0, p1, p2, p3, p4, p5, p6⟩ := lotBlk HN.out.bx (Ext.refl _)
  go_wp2_with fail
  refine (KL.out _ (HE.out.ext HX.out)).mono ?_
  rintro e wv ⟨rfl, hx1⟩
  replace HN := Lib.hid (HN.out.on hx1)
  replace HX := Lib.hid (HX.out.trans hx1)
  clear hx1
  obtain ⟨p0, p1, p2, p3, p4, p5, p6⟩ := lotBlk HN.out.bx (Ext.refl _)
  go_wp2_with fail
  refine (KQ.out _ (HE.out.ext HX.out)).mono ?_
  rintro e wv ⟨rfl, hx1⟩
  replace HN := Lib.hid (HN.out.on hx1)
  replace HX := Lib.hid (HX.out.trans hx1)
  clear hx1
  obtain ⟨p0, p1, p2, p3, p4, p5, p6⟩ := lotBlk HN.out.bx (Ext.refl _)
  go_wp2_with fail
  refine (C0.out _ (HE.out.ext HX.out)).mono ?_
  rintro e wv ⟨rfl, hx1⟩
  replace HN := Lib.hid (HN.out.on hx1)
  replace HX := Lib.hid (HX.out.trans hx1)
  clear hx1
  obtain ⟨p0, p1, p2, p3, p4, p5, p6⟩ := lotBlk HN.out.bx (Ext.refl _)
  go_wp2_with fail
  refine (C1.out _ (HE.out.ext HX.out)).mono ?_
  rintro e wv ⟨rfl, hx1⟩
  replace HN := Lib.hid (HN.out.on hx1)
  replace HX := Lib.hid (HX.out.trans hx1)
  clear hx1
  obtain ⟨p0, p1, p2, p3, p4, p5, p6⟩ := lotBlk HN.out.bx (Ext.refl _)
  go_upto_region 5 with fail
  go_cut [7, 8] (fun p7 p8 wx => PairAt wv x p7 p8 wx)
  case first =>
    go_region_held3 (fun w' => w'.cell? ⟨g, 0, none⟩ = some (.string (bs x.id)) ∧ w'.cell? ⟨g, 1, none⟩ = some (.string (bs x.ins)) ∧ w'.cell? ⟨g, 2, none⟩ = some (.int .i64 x.acq) ∧ w'.cell? ⟨g, 3, none⟩ = some (.int .i64 x.opn) ∧ w'.cell? ⟨g, 4, none⟩ = some (.string (bs x.q)) ∧ w'.cell? ⟨g, 5, none⟩ = some (.string (bs x.c)) ∧ w'.cell? ⟨g, 6, none⟩ = some (.string (bs x.u)))
      (go_keep)
      (fail)
    all_goals
      go_wp2_with fail
      go_meet
      first
        | exact ⟨wv.heap.size, wv.heap.size + 1, rfl, rfl, by omega, by omega, by omega, ((Blk.new _ _ _).alloc _).drew, (blk_at _ _ _ _ (by simp)).drew, (((Ext.new _ _).alloc _).drew)⟩
        | exact ⟨wv.heap.size + 1, wv.heap.size, rfl, rfl, by omega, by omega, by omega, (blk_at _ _ _ _ (by simp)).drew, ((Blk.new _ _ _).alloc _).drew, (((Ext.new _ _).alloc _).drew)⟩
  case rest =>
    obtain ⟨P, R, rfl, rfl, hPR, hwP, hwR, hbp, hbr, hxw⟩ := hcut
    have hbl := HN.out.bb.lt
    have HV : Hid (HalvesAt w wc g P R x x x) := Lib.hid ⟨HN.out.on hxw, hPR, by omega, by omega, hbp, hbr⟩
    replace HX := Lib.hid (HX.out.trans hxw)
    clear hbp hbr hxw hwP hwR HN hbl p0 p1 p2 p3 p4 p5 p6
    have hPg : P ≠ g := by have := HV.out.lp; omega
    have hRg : R ≠ g := by have := HV.out.lr; omega
    have hgP : g ≠ P := Ne.symm hPg
    have hgR : g ≠ R := Ne.symm hRg
    have hRP : R ≠ P := Ne.symm hPR
    obtain ⟨xi, xn, xa, xo, xq, xc, xu⟩ := x
    simp only at *
    obtain ⟨p0, p1, p2, p3, p4, p5, p6⟩ := lotBlk HV.out.cut.bx (Ext.refl _)
    obtain ⟨a0, a1, a2, a3, a4, a5, a6⟩ := lotBlk HV.out.bp (Ext.refl _)
    obtain ⟨b0, b1, b2, b3, b4, b5, b6⟩ := lotBlk HV.out.br (Ext.refl _)
    have fa := fun k => HV.out.bp.frozen k
    have fb := fun k => HV.out.br.frozen k
    go_wp2_with fail
    refine (S1.out _ (HE.out.ext HX.out)).mono ?_
    rintro e w1 ⟨rfl, hx1⟩
    replace HV := Lib.hid (HV.out.on hx1)
    clear hx1 a0 a1 a2 a3 a4 a5 a6 b0 b1 b2 b3 b4 b5 b6 fa fb p0 p1 p2 p3 p4 p5 p6
    have HV2 : Hid (HalvesAt w ((w1.setCell ⟨P, 4, none⟩ (.string (bs q))).setCell ⟨R, 4, none⟩ (.string (bs qb))) g P R ⟨xi, xn, xa, xo, xq, xc, xu⟩ ⟨xi, xn, xa, xo, q, xc, xu⟩ ⟨xi, xn, xa, xo, qb, xc, xu⟩) := Lib.hid (HV.out.store 4 _ _ rfl rfl)
    obtain ⟨p0, p1, p2, p3, p4, p5, p6⟩ := lotBlk HV.out.cut.bx (Ext.refl _)
    obtain ⟨a0, a1, a2, a3, a4, a5, a6⟩ := lotBlk HV.out.bp (Ext.refl _)
    obtain ⟨b0, b1, b2, b3, b4, b5, b6⟩ := lotBlk HV.out.br (Ext.refl _)
    have fa := fun k => HV.out.bp.frozen k
    have fb := fun k => HV.out.br.frozen k
    go_wp2_with fail
    refine (SH.out _ (HE.out.ext HV2.out.cut.ext)).mono ?_
    rintro e w2 ⟨rfl, hx1⟩
    clear HV
    have HV := Lib.hid (HV2.out.on hx1)
    clear hx1 a0 a1 a2 a3 a4 a5 a6 b0 b1 b2 b3 b4 b5 b6 fa fb p0 p1 p2 p3 p4 p5 p6 HV2
    have HV2 : Hid (HalvesAt w ((w2.setCell ⟨P, 5, none⟩ (.string (bs ca))).setCell ⟨R, 5, none⟩ (.string (bs cb))) g P R ⟨xi, xn, xa, xo, xq, xc, xu⟩ ⟨xi, xn, xa, xo, q, ca, xu⟩ ⟨xi, xn, xa, xo, qb, cb, xu⟩) := Lib.hid (HV.out.store 5 _ _ rfl rfl)
    obtain ⟨p0, p1, p2, p3, p4, p5, p6⟩ := lotBlk HV.out.cut.bx (Ext.refl _)
    obtain ⟨a0, a1, a2, a3, a4, a5, a6⟩ := lotBlk HV.out.bp (Ext.refl _)
    obtain ⟨b0, b1, b2, b3, b4, b5, b6⟩ := lotBlk HV.out.br (Ext.refl _)
    have fa := fun k => HV.out.bp.frozen k
    have fb := fun k => HV.out.br.frozen k
    by_cases hu : xu = []
    · have g9 : (!xu.isEmpty) = false := by rw [hu]; rfl
      obtain ⟨e1, e2⟩ := HU1.out hu
      clear HU1 HU2
      subst e1 e2 hu
      go_wp2_with fail
      replace HV := HV2
      clear HV2 a0 a1 a2 a3 a4 a5 a6 b0 b1 b2 b3 b4 b5 b6 fa fb p0 p1 p2 p3 p4 p5 p6
      generalize (w2.setCell ⟨P, 5, none⟩ (.string (bs ca))).setCell ⟨R, 5, none⟩ (.string (bs cb)) = W4 at *
      obtain ⟨p0, p1, p2, p3, p4, p5, p6⟩ := lotBlk HV.out.cut.bx (Ext.refl _)
      obtain ⟨a0, a1, a2, a3, a4, a5, a6⟩ := lotBlk HV.out.bp (Ext.refl _)
      obtain ⟨b0, b1, b2, b3, b4, b5, b6⟩ := lotBlk HV.out.br (Ext.refl _)
      have fa := fun k => HV.out.bp.frozen k
      have fb := fun k => HV.out.br.frozen k
      obtain ⟨c0, c1, c2, c3, c4, c5, c6⟩ := lotBlk HV.out.cut.ba (Ext.refl _)
      obtain ⟨d0, d1, d2, d3, d4, d5, d6⟩ := lotBlk HV.out.cut.bb (Ext.refl _)
      have fc := fun k => HV.out.cut.ba.frozen k
      have fd := fun k => HV.out.cut.bb.frozen k
      have n1 : R ≠ g + 1 := by have := HV.out.lr; omega
      have n2 : P ≠ g + 1 := by have := HV.out.lp; omega
      have n3 : R ≠ g + 2 := by have := HV.out.lr; omega
      have n4 : P ≠ g + 2 := by have := HV.out.lp; omega
      have n5 := Ne.symm n1
      have n6 := Ne.symm n2
      have n7 := Ne.symm n3
      have n8 := Ne.symm n4
      go_region
      go_wp2_with fail
      refine bodyPost_ret (results_lot2 rfl _ _ (g + 1) (g + 2) ((⟨xi, xn, xa, xo, q, ca, []⟩ : LotV)) ((⟨xi, xn, xa, xo, qb, cb, []⟩ : LotV)) (.int .i64 0) rfl rfl rfl (Blk.sets_far (lot_over HV.out.cut.ba ((⟨xi, xn, xa, xo, q, ca, []⟩ : LotV))) (by omega) (lotCells ((⟨xi, xn, xa, xo, qb, cb, []⟩ : LotV))) 0).drew (lot_over (Blk.sets_far HV.out.cut.bb (by omega) (lotCells ((⟨xi, xn, xa, xo, q, ca, []⟩ : LotV))) 0) ((⟨xi, xn, xa, xo, qb, cb, []⟩ : LotV))).drew) rfl ?_
      exact ⟨rfl, (ext_sets (lotCells ((⟨xi, xn, xa, xo, qb, cb, []⟩ : LotV))) 0 _ () (ext_sets (lotCells ((⟨xi, xn, xa, xo, q, ca, []⟩ : LotV))) 0 _ () HV.out.cut.ext (by have := HV.out.cut.le; omega)) (by have := HV.out.cut.le; omega)).drew⟩
    · have g9 : (!xu.isEmpty) = true := by simpa using hu
      obtain ⟨e1, e2⟩ := HU2.out hu
      clear HU1 HU2
      subst e1 e2
      go_wp2_with fail
      replace HV := HV2
      clear HV2 a0 a1 a2 a3 a4 a5 a6 b0 b1 b2 b3 b4 b5 b6 fa fb p0 p1 p2 p3 p4 p5 p6
      generalize (w2.setCell ⟨P, 5, none⟩ (.string (bs ca))).setCell ⟨R, 5, none⟩ (.string (bs cb)) = W3 at *
      obtain ⟨p0, p1, p2, p3, p4, p5, p6⟩ := lotBlk HV.out.cut.bx (Ext.refl _)
      obtain ⟨a0, a1, a2, a3, a4, a5, a6⟩ := lotBlk HV.out.bp (Ext.refl _)
      obtain ⟨b0, b1, b2, b3, b4, b5, b6⟩ := lotBlk HV.out.br (Ext.refl _)
      have fa := fun k => HV.out.bp.frozen k
      have fb := fun k => HV.out.br.frozen k
      have HV2 : Hid (HalvesAt w ((W3.setCell ⟨P, 6, none⟩ (.string (bs q))).setCell ⟨R, 6, none⟩ (.string (bs qb))).drew g P R ⟨xi, xn, xa, xo, xq, xc, xu⟩ ⟨xi, xn, xa, xo, q, ca, q⟩ ⟨xi, xn, xa, xo, qb, cb, qb⟩) := Lib.hid (halves_drew (HV.out.store 6 _ _ rfl rfl))
      go_region
      go_wp2_with fail
      replace HV := HV2
      clear HV2 a0 a1 a2 a3 a4 a5 a6 b0 b1 b2 b3 b4 b5 b6 fa fb p0 p1 p2 p3 p4 p5 p6
      generalize ((W3.setCell ⟨P, 6, none⟩ (.string (bs q))).setCell ⟨R, 6, none⟩ (.string (bs qb))).drew = W4 at *
      obtain ⟨p0, p1, p2, p3, p4, p5, p6⟩ := lotBlk HV.out.cut.bx (Ext.refl _)
      obtain ⟨a0, a1, a2, a3, a4, a5, a6⟩ := lotBlk HV.out.bp (Ext.refl _)
      obtain ⟨b0, b1, b2, b3, b4, b5, b6⟩ := lotBlk HV.out.br (Ext.refl _)
      have fa := fun k => HV.out.bp.frozen k
      have fb := fun k => HV.out.br.frozen k
      obtain ⟨c0, c1, c2, c3, c4, c5, c6⟩ := lotBlk HV.out.cut.ba (Ext.refl _)
      obtain ⟨d0, d1, d2, d3, d4, d5, d6⟩ := lotBlk HV.out.cut.bb (Ext.refl _)
      have fc := fun k => HV.out.cut.ba.frozen k
      have fd := fun k => HV.out.cut.bb.frozen k
      have n1 : R ≠ g + 1 := by have := HV.out.lr; omega
      have n2 : P ≠ g + 1 := by have := HV.out.lp; omega
      have n3 : R ≠ g + 2 := by have := HV.out.lr; omega
      have n4 : P ≠ g + 2 := by have := HV.out.lp; omega
      have n5 := Ne.symm n1
      have n6 := Ne.symm n2
      have n7 := Ne.symm n3
      have n8 := Ne.symm n4
      go_region
      go_wp2_with fail
      refine bodyPost_ret (results_lot2 rfl _ _ (g + 1) (g + 2) ((⟨xi, xn, xa, xo, q, ca, q⟩ : LotV)) ((⟨xi, xn, xa, xo, qb, cb, qb⟩ : LotV)) (.int .i64 0) rfl rfl rfl (Blk.sets_far (lot_over HV.out.cut.ba ((⟨xi, xn, xa, xo, q, ca, q⟩ : LotV))) (by omega) (lotCells ((⟨xi, xn, xa, xo, qb, cb, qb⟩ : LotV))) 0).drew (lot_over (Blk.sets_far HV.out.cut.bb (by omega) (lotCells ((⟨xi, xn, xa, xo, q, ca, q⟩ : LotV))) 0) ((⟨xi, xn, xa, xo, qb, cb, qb⟩ : LotV))).drew) rfl ?_
      exact ⟨rfl, (ext_sets (lotCells ((⟨xi, xn, xa, xo, qb, cb, qb⟩ : LotV))) 0 _ () (ext_sets (lotCells ((⟨xi, xn, xa, xo, q, ca, q⟩ : LotV))) 0 _ () HV.out.cut.ext (by have := HV.out.cut.le; omega)) (by have := HV.out.cut.le; omega)).drew⟩
end Go.Proofs.YtikehdbkiplleaaGreatDoor
/- Plain: averages of lots in another order, and of lots of which one was cut. No program in sight. -/
namespace Go.Proofs.YtikehdbkiplleaaGreatDoor
open Go.RowKit

theorem goAll_make : ∀ (l : List LotV) (seen : List Bs), (∀ x ∈ l, checkL x = 0) → (l.map (·.id)).Nodup → (∀ a ∈ l.map (·.id), a ∉ seen) → goAll seen l = 0
  | [], _, _, _, _ => rfl
  | x :: r, seen, h1, h2, h3 => by
    have e1 := h1 x (by simp)
    have e2 := h3 x.id (by simp)
    rw [List.map_cons, List.nodup_cons] at h2
    unfold goAll
    rw [if_neg (by omega), if_neg e2]
    refine goAll_make r _ (fun y hy => h1 y (List.mem_cons_of_mem _ hy)) h2.2 (fun a ha => ?_)
    rw [List.mem_append, List.mem_singleton]
    rintro (h | h)
    · exact h3 a (by rw [List.map_cons]; exact List.mem_cons_of_mem _ ha) h
    · subst h; exact h2.1 ha
theorem checkAll_rev {ls : List LotV} (h : checkAllL ls = 0) : checkAllL ls.reverse = 0 := by
  obtain ⟨h1, h2⟩ := checkAllL_ok h
  have h3 := checkAll_ids h
  unfold checkAllL
  rw [List.length_reverse, if_neg (by omega)]
  refine goAll_make _ _ (fun x hx => h2 x (List.mem_reverse.1 hx)) ?_ (fun _ _ => List.not_mem_nil)
  rw [List.map_reverse]
  exact List.pairwise_reverse.2 (h3.imp fun h => Ne.symm h)
theorem ofL_rev (ls : List LotV) (ins : Bs) : ofL ls.reverse ins = (ofL ls ins).reverse := by unfold ofL; rw [List.filter_reverse]
theorem totQ_rev (ls : List LotV) (ins : Bs) : totQ ls.reverse ins = totQ ls ins := by
  unfold totQ; rw [ofL_rev, List.map_reverse, List.sum_reverse]
theorem totC_rev (ls : List LotV) (ins : Bs) : totC ls.reverse ins = totC ls ins := by
  unfold totC; rw [ofL_rev, List.map_reverse, List.sum_reverse]
theorem priceV_same {ls ms : List LotV} {ins : Bs} (h1 : checkAllL ls = 0) (h2 : checkAllL ms = 0) (hq : totQ ms ins = totQ ls ins) (hc : totC ms ins = totC ls ins) : priceV ms ins = priceV ls ins := by
  have e1 : avgE ls [] = 0 := avgE_ok h1 (by simp)
  have e2 : avgE ms [] = 0 := avgE_ok h2 (by simp)
  unfold priceV prV
  rw [e1, e2, hq, hc]
theorem priceV_rev {ls : List LotV} {ins : Bs} (h : checkAllL ls = 0) : priceV ls.reverse ins = priceV ls ins := priceV_same h (checkAll_rev h) (totQ_rev ls ins) (totC_rev ls ins)
/-- a lot in the place of which two stand -/
def cutAt (ls : List LotV) (k : Nat) (a b : LotV) : List LotV := ls.take k ++ ([a, b] ++ ls.drop (k + 1))
theorem ofL_app (a b : List LotV) (ins : Bs) : ofL (a ++ b) ins = ofL a ins ++ ofL b ins := by unfold ofL; rw [List.filter_append]
theorem totQ_app (a b : List LotV) (ins : Bs) : totQ (a ++ b) ins = totQ a ins + totQ b ins := by unfold totQ; rw [ofL_app, List.map_append, List.sum_append]
theorem totC_app (a b : List LotV) (ins : Bs) : totC (a ++ b) ins = totC a ins + totC b ins := by unfold totC; rw [ofL_app, List.map_append, List.sum_append]
theorem tot_one (x : LotV) (ins : Bs) : totQ [x] ins = (if x.ins = ins then valI x.q else 0) ∧ totC [x] ins = (if x.ins = ins then valI x.c else 0) := by
  unfold totQ totC ofL
  by_cases h : x.ins = ins
  · simp [h]
  · simp [h]
theorem cut_split {ls : List LotV} {k : Nat} (hk : k < ls.length) : ls = ls.take k ++ ([ls[k]'hk] ++ ls.drop (k + 1)) := by
  rw [List.singleton_append, List.getElem_cons_drop, List.take_append_drop]
theorem cut_tot {ls : List LotV} {k : Nat} (hk : k < ls.length) {a b : LotV} (ins : Bs) (ha : a.ins = (ls[k]'hk).ins) (hb : b.ins = (ls[k]'hk).ins) (hq : valI a.q + valI b.q = valI (ls[k]'hk).q) (hc : valI a.c + valI b.c = valI (ls[k]'hk).c) :
    totQ (cutAt ls k a b) ins = totQ ls ins ∧ totC (cutAt ls k a b) ins = totC ls ins := by
  obtain ⟨a1, a2⟩ := tot_one a ins
  obtain ⟨b1, b2⟩ := tot_one b ins
  obtain ⟨x1, x2⟩ := tot_one (ls[k]'hk) ins
  have e : [a, b] = [a] ++ [b] := rfl
  have h1 : totQ ls ins = totQ (ls.take k ++ ([ls[k]'hk] ++ ls.drop (k + 1))) ins := congrArg (totQ · ins) (cut_split hk)
  have h2 : totC ls ins = totC (ls.take k ++ ([ls[k]'hk] ++ ls.drop (k + 1))) ins := congrArg (totC · ins) (cut_split hk)
  rw [h1, h2]
  unfold cutAt
  rw [e]
  simp only [totQ_app, totC_app]
  rw [a1, a2, b1, b2, x1, x2, ha, hb]
  split <;> omega
/-- the halves under their names -/
def cut98 : Bs := [99, 117, 116, 47, 57, 57, 57, 56]
def cut99 : Bs := [99, 117, 116, 47, 57, 57, 57, 57]
def halfA (x : LotV) (q : Bs) : LotV := { cutA x q with id := cut98 }
def halfB (x : LotV) (q : Bs) : LotV := { cutB x q with id := cut99 }
theorem cutV_ok {x : LotV} {q : Bs} (h : (cutV x q).2.2 = 0) : cutV x q = (cutA x q, cutB x q, 0) := by
  unfold cutV at h ⊢
  split at h
  · simp at h
  · rename_i h1
    rw [if_neg h1]
    split at h
    · simp at h
    · rename_i h2
      rw [if_neg h2]
theorem half_tot {ls : List LotV} {k : Nat} (hk : k < ls.length) (q ins : Bs) : totQ (cutAt ls k (halfA (ls[k]'hk) q) (halfB (ls[k]'hk) q)) ins = totQ ls ins ∧ totC (cutAt ls k (halfA (ls[k]'hk) q) (halfB (ls[k]'hk) q)) ins = totC ls ins := by
  refine cut_tot hk ins rfl rfl ?_ ?_
  · show valI q + valI (ofI _) = _
    rw [valI_ofI]; omega
  · show valI (ofI _) + valI (ofI _) = _
    rw [valI_ofI, valI_ofI]; omega
theorem half_small {x : LotV} {q : Bs} (hg : greatL x = false) (hq : q.length ≤ 13) : SmallL (halfA x q) ∧ SmallL (halfB x q) := by
  obtain ⟨g1, g2, g3, g4, g5⟩ := greatL_no hg
  have b1 : QB 27 ((shareZ (valI x.c) (valI q) (valI x.q) : Int) : Rat) := share_qbL (L := 13) (by omega) g2 hq g1
  have l1 : (ofI (shareZ (valI x.c) (valI q) (valI x.q))).length ≤ 28 := by
    have := b1.1
    rw [Rat.num_intCast] at this
    exact ofI_len this
  have b2 : QB 41 (((valI x.c - shareZ (valI x.c) (valI q) (valI x.q) : Int)) : Rat) := by
    rw [Rat.intCast_sub]
    exact ((qb_val (L := 13) g2 (by omega)).sub b1).mono (by omega)
  have l2 : (ofI (valI x.c - shareZ (valI x.c) (valI q) (valI x.q))).length ≤ 42 := by
    have := b2.1
    rw [Rat.num_intCast] at this
    exact ofI_len this
  have b3 : QB 27 (((valI x.q - valI q : Int)) : Rat) := by
    rw [Rat.intCast_sub]
    exact ((qb_val (L := 13) g1 (by omega)).sub (qb_val (L := 13) hq (by omega))).mono (by omega)
  have l3 : (ofI (valI x.q - valI q)).length ≤ 28 := by
    have := b3.1
    rw [Rat.num_intCast] at this
    exact ofI_len this
  have c1 : cut98.length = 8 := rfl
  have c2 : cut99.length = 8 := rfl
  constructor
  · refine ⟨by show cut98.length ≤ _; omega, by show x.ins.length ≤ _; omega, by show q.length ≤ _; omega, by show (ofI _).length ≤ _; omega, ?_⟩
    show (if x.u = [] then [] else q).length ≤ _
    split
    · simp
    · omega
  · refine ⟨by show cut99.length ≤ _; omega, by show x.ins.length ≤ _; omega, by show (ofI _).length ≤ _; omega, by show (ofI _).length ≤ _; omega, ?_⟩
    show (if x.u = [] then [] else ofI (valI x.q - valI q)).length ≤ _
    split
    · simp
    · omega
theorem cutAt_len {ls : List LotV} {k : Nat} (hk : k < ls.length) (a b : LotV) : (cutAt ls k a b).length = ls.length + 1 := by
  unfold cutAt
  simp only [List.length_append, List.length_take, List.length_drop, List.length_cons, List.length_nil]
  omega
end Go.Proofs.YtikehdbkiplleaaGreatDoor
/- The walk over the law AverageOrder. -/
namespace Go.Proofs.YtikehdbkiplleaaGreatDoor
open Go.RowKit
attribute [local go_sem] size_bs toList_bs
theorem Blk.only {w w' : World} {g g' : Nat} {t : TypeId} {cs : Array Value} (h : Blk w g t cs) (ho : Only g' w w') (hne : g ≠ g') : Blk w' g t cs :=
  (ho.block g h.lt (by intro e; injection e with e; exact hne e)).trans h
theorem lots_drop (ls : List LotV) (n : Nat) : lots (ls.drop n) = (lots ls).drop (n * 7) := by
  rcases Nat.lt_or_ge n ls.length with h | h
  · have e := lots_append (ls.take n) (ls.drop n)
    rw [List.take_append_drop] at e
    rw [e, List.drop_left' (by rw [lots_len, List.length_take]; omega)]
  · rw [List.drop_of_length_le h, List.drop_of_length_le (by rw [lots_len]; omega)]; rfl
theorem RdL.from {w : World} {b o c : Nat} {ls : List LotV} (h : RdL w (some ⟨b, o, none⟩) ls) (n : Nat) (hc : ls.length ≤ c) : RdL w (if c = n then some ⟨b, o, none⟩ else some ⟨b, o + n * 7, none⟩) (ls.drop n) := by
  refine ⟨by rw [lots_len], fun h0 => ?_⟩
  rw [List.length_drop] at h0
  rw [if_neg (by omega)]
  obtain ⟨b', o', e, hb, hr⟩ := h.2 (by omega)
  injection e with e
  injection e with e1 e2 _
  subst e1 e2
  refine ⟨b, o + n * 7, rfl, hb, fun j u hu => ?_⟩
  change (lots (ls.drop n))[j]? = some u at hu
  rw [lots_drop, List.getElem?_drop] at hu
  have := hr _ _ hu
  rwa [← Nat.add_assoc] at this
set_option maxRecDepth 100000 in
set_option maxHeartbeats 800000 in
theorem lawOrder (ls : List LotV) (A : Option Addr) (c : Nat) (ins : Bs) (n : Int) (q : Bs) (w : World) (hA : RdL w A ls) (hc : ls.length ≤ c) (hn : ls.length ≤ 4611686018427387904) (hn0 : 0 ≤ n) (hn1 : n ≤ 255) (hE : Env w) :
    Calls Tryz.prog 8 #[.slice A ls.length c, .string (bs ins), .int .u8 n, .string (bs q)] w fun e w' => e = .returned (.bool true) ∧ Ext w w' := by
  have HE := Lib.hid hE
  have HFN := Lib.hid (lawFine ls A c w hA hn hc)
  have HLQ := Lib.hid (fun W => refLong q W)
  cases hf : fineB ls
  · rw [hf] at HFN
    clear hf hE hA
    go_enter Tryz.func8, Tryz.ntmps8
    go_wp2_with fail
    refine HFN.out.mono ?_
    rintro e w1 ⟨rfl, hx1⟩
    have HX := Lib.hid hx1
    clear hx1
    go_wp2_with fail
    refine (lawAwake _ (HE.out.ext HX.out)).mono ?_
    rintro e v3 ⟨rfl, hx1⟩
    replace HX := Lib.hid (HX.out.trans hx1)
    clear hx1
    go_wp2_with fail
    go_ret
    exact ⟨rfl, HX.out⟩
  rw [hf] at HFN
  obtain ⟨hg, hl12, hv⟩ := fineB_ok hf
  have hL : LotsAt w A ls := ⟨hA, great_small hg, by omega⟩
  clear hf
  by_cases h1 : 11 < ls.length
  · have g1 : decide ((11 : Int) < (ls.length : Int)) = true := by rw [decide_eq_true_iff]; omega
    clear hE hA hv hL hg
    go_enter Tryz.func8, Tryz.ntmps8
    go_wp2_with fail
    refine HFN.out.mono ?_
    rintro e w1 ⟨rfl, hx1⟩
    have HX := Lib.hid hx1
    clear hx1
    go_wp2_with fail
    refine (lawAwake _ (HE.out.ext HX.out)).mono ?_
    rintro e v7 ⟨rfl, hx1⟩
    replace HX := Lib.hid (HX.out.trans hx1)
    clear hx1
    go_wp2_with fail
    go_ret
    exact ⟨rfl, HX.out⟩
  have g1 : decide ((11 : Int) < (ls.length : Int)) = false := by rw [decide_eq_false_iff_not]; omega
  by_cases h2 : ls.length = 0
  · have g2 : ((ls.length : Int) == 0) = true := by rw [beq_iff_eq]; omega
    clear hE hA hv hL hg h1 h2 hc hn hl12
    generalize ls.length = ll at *
    go_enter Tryz.func8, Tryz.ntmps8
    go_wp2_with fail
    refine HFN.out.mono ?_
    rintro e w1 ⟨rfl, hx1⟩
    have HX := Lib.hid hx1
    clear hx1
    go_wp2_with fail
    refine (lawAwake _ (HE.out.ext HX.out)).mono ?_
    rintro e v11 ⟨rfl, hx1⟩
    replace HX := Lib.hid (HX.out.trans hx1)
    clear hx1
    go_wp2_with fail
    go_ret
    exact ⟨rfl, HX.out⟩
  have g2 : ((ls.length : Int) == 0) = false := by rw [beq_eq_false_iff_ne]; omega
  cases h3 : decide (40 < (ins.length : Int))
  rotate_left
  · clear hE hA hv hL hg
    go_enter Tryz.func8, Tryz.ntmps8
    go_wp2_with fail
    refine HFN.out.mono ?_
    rintro e w1 ⟨rfl, hx1⟩
    have HX := Lib.hid hx1
    clear hx1
    go_wp2_with fail
    refine (lawAwake _ (HE.out.ext HX.out)).mono ?_
    rintro e v15 ⟨rfl, hx1⟩
    replace HX := Lib.hid (HX.out.trans hx1)
    clear hx1
    go_wp2_with fail
    go_ret
    exact ⟨rfl, HX.out⟩
  cases h4 : decide (13 < (q.length : Int))
  rotate_left
  · rw [h4] at HLQ
    clear hE hA hv hL hg h4
    go_enter Tryz.func8, Tryz.ntmps8
    go_wp2_with fail
    refine HFN.out.mono ?_
    rintro e w1 ⟨rfl, hx1⟩
    have HX := Lib.hid hx1
    clear hx1
    go_wp2_with fail
    refine (HLQ.out _).mono ?_
    rintro e wy ⟨h1, h2⟩
    subst h1
    subst h2
    go_wp2_with fail
    refine (lawAwake _ (HE.out.ext HX.out)).mono ?_
    rintro e v20 ⟨rfl, hx1⟩
    replace HX := Lib.hid (HX.out.trans hx1)
    clear hx1
    go_wp2_with fail
    go_ret
    exact ⟨rfl, HX.out⟩
  rw [h4] at HLQ
  have hq13 : q.length ≤ 13 := by simp only [decide_eq_false_iff_not] at h4; omega
  have hpos : 0 < ls.length := by omega
  obtain ⟨k, hkn⟩ : ∃ k, n.toNat % ls.length = k := ⟨_, rfl⟩
  have hk : k < ls.length := by rw [← hkn]; exact Nat.mod_lt _ hpos
  have HP1 := Lib.hid (fun W hx => avgPrice ls A c ins W (hE.ext hx) (hL.ext hx))
  have HCL := Lib.hid (fun W hx => cloneL ls A c W (hA.ext hx) (by omega))
  have hRl : ∀ (W : World) (g cc : Nat), RowL W g cc ls.reverse → LotsAt W (some ⟨g, 0, none⟩) ls.reverse := fun W g cc h => ⟨h.reads, fun x hx => great_small hg x (List.mem_reverse.1 hx), by rw [List.length_reverse]; omega⟩
  have hP2 := fun g cc W hx (h : RowL W g cc ls.reverse) => avgPrice ls.reverse (some ⟨g, 0, none⟩) cc ins W (hE.ext hx) (hRl W g cc h)
  rw [List.length_reverse, priceV_rev hv] at hP2
  have HP2 := Lib.hid hP2
  have HRV := Lib.hid (fun g cc W (h : RowL W g cc ls) => reverseL ls g cc W h (by omega))
  have HL := Lib.hid hL
  have HV := Lib.hid hv
  have HG := Lib.hid hg
  have hcut := lotCut (ls[k]'hk) q (great_small hg _ (List.getElem_mem hk)) (by omega)
  have HCUT := Lib.hid hcut
  have hrem : n.tmod (ls.length : Int) = (k : Int) := by
    rw [← hkn]
    have : n = (n.toNat : Int) := by omega
    rw [this]
    rfl
  have hki : (k : Int) < (ls.length : Int) := by omega
  have hk0 : (0 : Int) ≤ (k : Int) := by omega
  generalize hpp : (priceV ls ins).1 = p at *
  generalize hpe : (priceV ls ins).2 = pe at *
  have HPP := Lib.hid (And.intro hpp hpe)
  clear hpp hpe hE hA hv hL hg hRl hP2 hcut h4
  go_enter Tryz.func8, Tryz.ntmps8
  go_wp2_with fail
  refine HFN.out.mono ?_
  rintro e w1 ⟨rfl, hx1⟩
  have HX := Lib.hid hx1
  clear hx1
  go_wp2_with fail
  refine (HLQ.out _).mono ?_
  rintro e wy ⟨h1, h2⟩
  subst h1
  subst h2
  go_wp2_with fail
  refine (HP1.out _ HX.out).mono ?_
  rintro e w2 ⟨rfl, hx1⟩
  replace HX := Lib.hid (HX.out.trans hx1)
  clear hx1
  have B1 := Lib.hid (Blk.new w2 28 #[.string (bs p.num), .string (bs p.den)])
  replace HX := Lib.hid (HX.out.alloc (.cells #[.string (bs p.num), .string (bs p.den)] 28))
  have hb1 := B1.out.lt
  have hw2 : w.heap.size ≤ (w2.alloc (.cells #[.string (bs p.num), .string (bs p.den)] 28)).heap.size := HX.out.size
  generalize hG1 : w2.heap.size = G1 at *
  go_wp2_with fail
  refine (HCL.out _ HX.out).mono ?_
  rintro e w3 ⟨A1, c1, rfl, hx1, hr1⟩
  replace B1 := Lib.hid (B1.out.ext hx1)
  replace HX := Lib.hid (HX.out.trans hx1)
  clear hx1
  obtain ⟨g, rfl, hgw, hrow⟩ := hr1 hpos
  have hG1g : G1 ≠ g := by omega
  have hwg : w.heap.size ≤ g := by omega
  have HROW := Lib.hid hrow
  clear hrow hr1 hb1 hw2 hgw hG1
  go_wp2_with fail
  refine (HRV.out _ _ _ HROW.out).mono ?_
  rintro e v26 ⟨rfl, hrow2, ho⟩
  clear HROW
  have HROW := Lib.hid hrow2
  replace HX := Lib.hid (Ext.only HX.out ho hwg)
  replace B1 := Lib.hid (B1.out.only ho hG1g)
  clear hrow2 ho
  go_wp2_with fail
  refine (HP2.out g c1 _ HX.out HROW.out).mono ?_
  rintro e w5 ⟨rfl, hx1⟩
  replace B1 := Lib.hid (B1.out.ext hx1)
  replace HX := Lib.hid (HX.out.trans hx1)
  clear hx1
  have B2 := Lib.hid (Blk.new w5 28 #[.string (bs p.num), .string (bs p.den)])
  replace HX := Lib.hid (HX.out.alloc (.cells #[.string (bs p.num), .string (bs p.den)] 28))
  replace B1 := Lib.hid (B1.out.alloc (.cells #[.string (bs p.num), .string (bs p.den)] 28))
  go_upto_region 7 with fail
  generalize w5.heap.size = G2 at *
  generalize w5.alloc (.cells #[.string (bs p.num), .string (bs p.den)] 28) = W at *
  obtain ⟨x1, y1, _, _⟩ := frBlk B1.out (Ext.refl _)
  obtain ⟨x2, y2, _, _⟩ := frBlk B2.out (Ext.refl _)
  obtain ⟨b, o, rfl, hb, c0, c1, c2, c3, c4, c5, c6⟩ := (HL.out.rd.ext HX.out).at_ hk
  clear HROW HP1 HP2 HCL HRV HFN B2 HLQ
  by_cases hz : (cutV (ls[k]'hk) q).2.2 = 0
  rotate_left
  · have gz : ((cutV (ls[k]'hk) q).2.2 != 0) = true := by rw [bne_iff_ne]; exact hz
    generalize (cutV (ls[k]'hk) q).1 = a at *
    generalize (cutV (ls[k]'hk) q).2.1 = b2 at *
    generalize (cutV (ls[k]'hk) q).2.2 = ce at *
    clear hz HL HV HG HPP
    generalize ls[k]'hk = x at *
    go_wp2_with fail
    refine (HCUT.out _ (HE.out.ext HX.out)).mono ?_
    rintro e w6 ⟨rfl, hx1⟩
    replace HX := Lib.hid (HX.out.trans hx1)
    clear hx1
    replace HX := Lib.hid ((HX.out.alloc (.cells (lc a) 50)).alloc (.cells (lc b2) 50))
    go_wp2_with fail
    refine (lawAwake _ (HE.out.ext HX.out)).mono ?_
    rintro e v30 ⟨rfl, hx1⟩
    replace HX := Lib.hid (HX.out.trans hx1)
    clear hx1
    go_wp2_with fail
    go_ret
    exact ⟨rfl, HX.out⟩
  rw [cutV_ok hz] at HCUT
  clear hz
  have hgx : greatL (ls[k]'hk) = false := (greatAll_no HG.out).2 _ (List.getElem_mem hk)
  obtain ⟨s1, s2⟩ := half_small (x := ls[k]'hk) (q := q) hgx hq13
  obtain ⟨t1, t2⟩ := half_tot hk q ins
  have hcl := cutAt_len hk (halfA (ls[k]'hk) q) (halfB (ls[k]'hk) q)
  have hmem : ∀ y ∈ cutAt ls k (halfA (ls[k]'hk) q) (halfB (ls[k]'hk) q), SmallL y := by
    intro y hy
    unfold cutAt at hy
    rw [List.mem_append, List.mem_append] at hy
    rcases hy with h | h | h
    · exact HL.out.sm y (List.mem_of_mem_take h)
    · rw [List.mem_cons, List.mem_singleton] at h
      rcases h with rfl | rfl
      · exact s1
      · exact s2
    · exact HL.out.sm y (List.mem_of_mem_drop h)
  have hCK := fun (A' : Option Addr) (c' : Nat) (V : World) (h : RdL V A' (cutAt ls k (halfA (ls[k]'hk) q) (halfB (ls[k]'hk) q))) (hc' : _ ≤ c') => refCheckAll _ A' c' V h hmem (by rw [hcl]; omega) hc'
  have hPC := fun (h0 : checkAllL (cutAt ls k (halfA (ls[k]'hk) q) (halfB (ls[k]'hk) q)) = 0) (A' : Option Addr) (c' : Nat) (V : World) (hx : Ext w V) (h : RdL V A' (cutAt ls k (halfA (ls[k]'hk) q) (halfB (ls[k]'hk) q))) => avgPrice _ A' c' ins V (HE.out.ext hx) ⟨h, hmem, by rw [hcl]; omega⟩
  have hPV := fun h0 => priceV_same (ins := ins) HV.out h0 t1 t2
  have HCK := Lib.hid hCK
  have HPC := Lib.hid hPC
  have HPV := Lib.hid hPV
  have HCL := Lib.hid hcl
  clear hCK hPC hPV hcl hmem s1 s2 t1 t2 hgx
  have hB1 := B1.out.lt
  generalize hcl : cutAt ls k (halfA (ls[k]'hk) q) (halfB (ls[k]'hk) q) = cl at *
  have HCD := Lib.hid hcl
  clear hcl
  have hhA : halfA (ls[k]'hk) q = { cutA (ls[k]'hk) q with id := cut98 } := rfl
  have hhB : halfB (ls[k]'hk) q = { cutB (ls[k]'hk) q with id := cut99 } := rfl
  rw [hhA, hhB] at HCD
  clear hhA hhB
  generalize cutA (ls[k]'hk) q = ca at *
  generalize cutB (ls[k]'hk) q = cb at *
  generalize ls[k]'hk = x at *
  go_wp2_with fail
  refine (HCUT.out _ (HE.out.ext HX.out)).mono ?_
  rintro e w6 ⟨rfl, hx1⟩
  replace B1 := Lib.hid (B1.out.ext hx1)
  replace HX := Lib.hid (HX.out.trans hx1)
  clear hx1
  have hGA : G1 < w6.heap.size := B1.out.lt
  have hwA : w.heap.size ≤ w6.heap.size := HX.out.size
  have BA := Lib.hid ((Blk.new w6 50 (lc ca)).alloc (.cells (lc cb) 50))
  have BB := Lib.hid (blk_at (w6.alloc (.cells (lc ca) 50)) 50 (lc cb) (w6.heap.size + 1) (by simp))
  replace HX := Lib.hid ((HX.out.alloc (.cells (lc ca) 50)).alloc (.cells (lc cb) 50))
  replace B1 := Lib.hid ((B1.out.alloc (.cells (lc ca) 50)).alloc (.cells (lc cb) 50))
  go_upto_region 13 with fail
  generalize w6.heap.size = GA at *
  generalize (w6.alloc (.cells (lc ca) 50)).alloc (.cells (lc cb) 50) = W7 at *
  obtain ⟨p0, _, _, _, _, _, _⟩ := lotBlk BA.out (Ext.refl _)
  obtain ⟨r0, _, _, _, _, _, _⟩ := lotBlk BB.out (Ext.refl _)
  have fa := BA.out.frozen 0
  have fb := BB.out.frozen 0
  have nA : GA ≠ GA + 1 := by omega
  have nB : GA + 1 ≠ GA := by omega
  have HBA : Hid (Blk ((W7.setCell ⟨GA, 0, none⟩ (.string ⟨#[99, 117, 116, 47, 57, 57, 57, 56]⟩)).setCell ⟨GA + 1, 0, none⟩ (.string ⟨#[99, 117, 116, 47, 57, 57, 57, 57]⟩)) GA 50 (lc { ca with id := cut98 })) := Lib.hid ((BA.out.set_ 0 (.string ⟨#[99, 117, 116, 47, 57, 57, 57, 56]⟩)).far (p := ⟨GA + 1, 0, none⟩) nA _)
  have HBB : Hid (Blk ((W7.setCell ⟨GA, 0, none⟩ (.string ⟨#[99, 117, 116, 47, 57, 57, 57, 56]⟩)).setCell ⟨GA + 1, 0, none⟩ (.string ⟨#[99, 117, 116, 47, 57, 57, 57, 57]⟩)) (GA + 1) 50 (lc { cb with id := cut99 })) := Lib.hid ((BB.out.far (p := ⟨GA, 0, none⟩) nB _).set_ 0 (.string ⟨#[99, 117, 116, 47, 57, 57, 57, 57]⟩))
  have HB1 : Hid (Blk ((W7.setCell ⟨GA, 0, none⟩ (.string ⟨#[99, 117, 116, 47, 57, 57, 57, 56]⟩)).setCell ⟨GA + 1, 0, none⟩ (.string ⟨#[99, 117, 116, 47, 57, 57, 57, 57]⟩)) G1 28 #[.string (bs p.num), .string (bs p.den)]) := Lib.hid ((B1.out.far (p := ⟨GA, 0, none⟩) (by show G1 ≠ GA; omega) _).far (p := ⟨GA + 1, 0, none⟩) (by show G1 ≠ GA + 1; omega) _)
  have HX8 : Hid (Ext w ((W7.setCell ⟨GA, 0, none⟩ (.string ⟨#[99, 117, 116, 47, 57, 57, 57, 56]⟩)).setCell ⟨GA + 1, 0, none⟩ (.string ⟨#[99, 117, 116, 47, 57, 57, 57, 57]⟩))) := Lib.hid ((HX.out.setCell (p := ⟨GA, 0, none⟩) hwA _).setCell (p := ⟨GA + 1, 0, none⟩) (by show w.heap.size ≤ GA + 1; omega) _)
  go_upto_region 14 with fail
  clear BA BB B1 HX p0 r0 fa fb
  generalize (W7.setCell ⟨GA, 0, none⟩ (.string ⟨#[99, 117, 116, 47, 57, 57, 57, 56]⟩)).setCell ⟨GA + 1, 0, none⟩ (.string ⟨#[99, 117, 116, 47, 57, 57, 57, 57]⟩) = W8 at *
  generalize hha : ({ ca with id := cut98 } : LotV) = ha at *
  generalize hhb : ({ cb with id := cut99 } : LotV) = hb' at *
  clear hha hhb HCUT
  obtain ⟨a0, a1, a2, a3, a4, a5, a6⟩ := lotBlk HBA.out (Ext.refl _)
  obtain ⟨b0, b1, b2, b3, b4, b5, b6⟩ := lotBlk HBB.out (Ext.refl _)
  have e1 : (0 : Int) ≤ (k : Int) + 1 := by omega
  have e2 : (k : Int) + 1 ≤ (ls.length : Int) := by omega
  have e3 : (ls.length : Int) ≤ (c : Int) := by omega
  have e4 : (k : Int) ≤ (c : Int) := by omega
  have e5 : (k : Int) + 1 ≤ (c : Int) := by omega
  have ew : IntKind.i64.wrap ((k : Int) + 1) = (k : Int) + 1 := IntWalk.i64_in _ (by omega)
  have HD : Hid (Ext W8 W8.drew) := Lib.hid (Ext.refl W8).drew
  clear c0 c1 c2 c3 c4 c5 c6 x1 y1 x2 y2 hB1 hb
  have HCC : Hid (∀ (T : Option Addr) (cA cB : Nat), (if c = k + 1 then some ⟨b, o, none⟩ else some ⟨b, o + (k + 1) * 7, none⟩) = T → Calls Tryz.prog 42 #[.slice (some ⟨W8.heap.size + 1, 0, none⟩) 3 3] (((W8.alloc (.cells #[.string (bs ha.id), .string (bs ha.ins), .int .i64 ha.acq, .int .i64 ha.opn, .string (bs ha.q), .string (bs ha.c), .string (bs ha.u), .string (bs hb'.id), .string (bs hb'.ins), .int .i64 hb'.acq, .int .i64 hb'.opn, .string (bs hb'.q), .string (bs hb'.c), .string (bs hb'.u)] 50)).alloc (.cells #[.slice (some ⟨b, o, none⟩) k cA, .slice (some ⟨W8.heap.size, 0, none⟩) 2 2, .slice T (ls.length - (k + 1)) cB] 22)).drew) (CatEnds cl (((W8.alloc (.cells #[.string (bs ha.id), .string (bs ha.ins), .int .i64 ha.acq, .int .i64 ha.opn, .string (bs ha.q), .string (bs ha.c), .string (bs ha.u), .string (bs hb'.id), .string (bs hb'.ins), .int .i64 hb'.acq, .int .i64 hb'.opn, .string (bs hb'.q), .string (bs hb'.c), .string (bs hb'.u)] 50)).alloc (.cells #[.slice (some ⟨b, o, none⟩) k cA, .slice (some ⟨W8.heap.size, 0, none⟩) 2 2, .slice T (ls.length - (k + 1)) cB] 22)).drew))) := Lib.hid (by
    intro T cA cB hT
    have hcat : cat [((some ⟨b, o, none⟩ : Option Addr), cA, ls.take k), ((some ⟨W8.heap.size, 0, none⟩ : Option Addr), 2, [ha, hb']), (T, cB, ls.drop (k + 1))] = cl := by
      rw [← HCD.out]; simp [cat, cutAt]
    have hpc : pcells [((some ⟨b, o, none⟩ : Option Addr), cA, ls.take k), ((some ⟨W8.heap.size, 0, none⟩ : Option Addr), 2, [ha, hb']), (T, cB, ls.drop (k + 1))] = [.slice (some ⟨b, o, none⟩) k cA, .slice (some ⟨W8.heap.size, 0, none⟩) 2 2, .slice T (ls.length - (k + 1)) cB] := by
      simp [pcells, Nat.min_eq_left (Nat.le_of_lt hk)]
    have hB2 := (blk_at (W8.alloc (.cells #[.string (bs ha.id), .string (bs ha.ins), .int .i64 ha.acq, .int .i64 ha.opn, .string (bs ha.q), .string (bs ha.c), .string (bs ha.u), .string (bs hb'.id), .string (bs hb'.ins), .int .i64 hb'.acq, .int .i64 hb'.opn, .string (bs hb'.q), .string (bs hb'.c), .string (bs hb'.u)] 50)) 22 #[.slice (some ⟨b, o, none⟩) k cA, .slice (some ⟨W8.heap.size, 0, none⟩) 2 2, .slice T (ls.length - (k + 1)) cB] (W8.heap.size + 1) (by simp)).drew
    have hB3 := ((Blk.new W8 50 #[.string (bs ha.id), .string (bs ha.ins), .int .i64 ha.acq, .int .i64 ha.opn, .string (bs ha.q), .string (bs ha.c), .string (bs ha.u), .string (bs hb'.id), .string (bs hb'.ins), .int .i64 hb'.acq, .int .i64 hb'.opn, .string (bs hb'.q), .string (bs hb'.c), .string (bs hb'.u)]).alloc (.cells #[.slice (some ⟨b, o, none⟩) k cA, .slice (some ⟨W8.heap.size, 0, none⟩) 2 2, .slice T (ls.length - (k + 1)) cB] 22)).drew
    have hxv : Ext w (((W8.alloc (.cells #[.string (bs ha.id), .string (bs ha.ins), .int .i64 ha.acq, .int .i64 ha.opn, .string (bs ha.q), .string (bs ha.c), .string (bs ha.u), .string (bs hb'.id), .string (bs hb'.ins), .int .i64 hb'.acq, .int .i64 hb'.opn, .string (bs hb'.q), .string (bs hb'.c), .string (bs hb'.u)] 50)).alloc (.cells #[.slice (some ⟨b, o, none⟩) k cA, .slice (some ⟨W8.heap.size, 0, none⟩) 2 2, .slice T (ls.length - (k + 1)) cB] 22)).drew) := ((HX8.out.alloc _).alloc _).drew
    rw [← hcat]
    refine concatL _ _ 3 _ ?_ ?_ (by show 3 ≤ 1000; decide) (by rw [hcat, HCL.out]; omega)
    · rw [hpc]
      exact ⟨rfl, fun _ => ⟨_, 0, rfl, hB2.lt, fun j u hu => by rw [Nat.zero_add, hB2.cell j, List.getElem?_toArray]; exact hu⟩⟩
    · intro p hp
      rw [List.mem_cons, List.mem_cons, List.mem_singleton] at hp
      rcases hp with rfl | rfl | rfl
      · exact (HL.out.rd.take k (Nat.le_of_lt hk)).ext hxv
      · exact ⟨rfl, fun _ => ⟨_, 0, rfl, hB3.lt, fun j u hu => by rw [Nat.zero_add, hB3.cell j, List.getElem?_toArray]; exact hu⟩⟩
      · have h3 := HL.out.rd.from (k + 1) hc
        rw [hT] at h3
        exact h3.ext hxv)
  go_cut [18] (fun p18 wx => ∃ A' c', p18 = .slice A' cl.length c' ∧ RdL wx A' cl ∧ Ext W8 wx ∧ cl.length ≤ c')
  case first =>
    obtain ⟨T, hT⟩ : ∃ T : Option Addr, (if c = k + 1 then some ⟨b, o, none⟩ else some ⟨b, o + (k + 1) * 7, none⟩) = T := ⟨_, rfl⟩
    go_region_held3 (fun w' => w'.cell? ⟨GA, 0, none⟩ = some (.string (bs ha.id)) ∧ w'.cell? ⟨GA, 1, none⟩ = some (.string (bs ha.ins)) ∧ w'.cell? ⟨GA, 2, none⟩ = some (.int .i64 ha.acq) ∧ w'.cell? ⟨GA, 3, none⟩ = some (.int .i64 ha.opn) ∧ w'.cell? ⟨GA, 4, none⟩ = some (.string (bs ha.q)) ∧ w'.cell? ⟨GA, 5, none⟩ = some (.string (bs ha.c)) ∧ w'.cell? ⟨GA, 6, none⟩ = some (.string (bs ha.u)) ∧ w'.cell? ⟨GA + 1, 0, none⟩ = some (.string (bs hb'.id)) ∧ w'.cell? ⟨GA + 1, 1, none⟩ = some (.string (bs hb'.ins)) ∧ w'.cell? ⟨GA + 1, 2, none⟩ = some (.int .i64 hb'.acq) ∧ w'.cell? ⟨GA + 1, 3, none⟩ = some (.int .i64 hb'.opn) ∧ w'.cell? ⟨GA + 1, 4, none⟩ = some (.string (bs hb'.q)) ∧ w'.cell? ⟨GA + 1, 5, none⟩ = some (.string (bs hb'.c)) ∧ w'.cell? ⟨GA + 1, 6, none⟩ = some (.string (bs hb'.u)))
      (go_keep)
      (first
        | (go_at_call 42; (refine (HCC.out _ _ _ (by assumption)).mono ?_); (rintro e w9 ⟨A9, c9, rfl, hr9, hx9, hc9⟩); (have HE9 := (((Ext.new W8 _).alloc _).drew).trans hx9); (obtain ⟨_, _, _, _, _, _, _⟩ := lotBlk HBA.out HE9); (obtain ⟨_, _, _, _, _, _, _⟩ := lotBlk HBB.out HE9))
        | fail)
    all_goals
      go_wp2_with fail
      go_meet
      exact ⟨A9, c9, rfl, hr9, HE9, hc9⟩
  case rest =>
    obtain ⟨A9, c9, rfl, hr9, hx9, hc9⟩ := hcut
    have HR9 := Lib.hid hr9
    replace HX8 := Lib.hid (HX8.out.trans hx9)
    replace HB1 := Lib.hid (HB1.out.ext hx9)
    have HX := HX8
    clear hr9 hx9 HX8 HBA HBB HCC HCD HCL HL HV HG
    by_cases hz : checkAllL cl = 0
    rotate_left
    · have gz : (checkAllL cl != 0) = true := by rw [bne_iff_ne]; exact hz
      have HC9 := Lib.hid (HCK.out A9 c9 _ HR9.out hc9)
      generalize checkAllL cl = ce at *
      go_wp2_with fail
      refine (HC9.out).mono ?_
      rintro e v33 ⟨rfl, hx1⟩
      replace HX := Lib.hid (HX.out.trans hx1)
      clear hx1
      go_wp2_with fail
      refine (lawAwake _ (HE.out.ext HX.out)).mono ?_
      rintro e v35 ⟨rfl, hx1⟩
      replace HX := Lib.hid (HX.out.trans hx1)
      clear hx1
      go_wp2_with fail
      go_ret
      exact ⟨rfl, HX.out⟩
    have hpv := HPV.out hz
    have HP9 := Lib.hid (fun V hx h => HPC.out hz A9 c9 V hx h)
    rw [hpv, HPP.out.1, HPP.out.2] at HP9
    have HC9 := Lib.hid (HCK.out A9 c9 _ HR9.out hc9)
    rw [hz] at HC9
    clear HPC HPV HPP HCK hpv
    go_wp2_with fail
    refine (HC9.out).mono ?_
    rintro e v37 ⟨rfl, hx1⟩
    replace HB1 := Lib.hid (HB1.out.ext hx1)
    replace HR9 := Lib.hid (HR9.out.ext hx1)
    replace HX := Lib.hid (HX.out.trans hx1)
    clear hx1
    go_wp2_with fail
    refine (HP9.out _ HX.out HR9.out).mono ?_
    rintro e w11 ⟨rfl, hx1⟩
    replace HB1 := Lib.hid (HB1.out.ext hx1)
    replace HX := Lib.hid (HX.out.trans hx1)
    clear hx1
    have B3 := Lib.hid (Blk.new w11 28 #[.string (bs p.num), .string (bs p.den)])
    replace HX := Lib.hid (HX.out.alloc (.cells #[.string (bs p.num), .string (bs p.den)] 28))
    replace HB1 := Lib.hid (HB1.out.alloc (.cells #[.string (bs p.num), .string (bs p.den)] 28))
    go_upto_region 18 with fail
    generalize w11.heap.size = G3 at *
    generalize w11.alloc (.cells #[.string (bs p.num), .string (bs p.den)] 28) = WE at *
    obtain ⟨z1, z2, _, _⟩ := frBlk HB1.out (Ext.refl _)
    obtain ⟨z3, z4, _, _⟩ := frBlk B3.out (Ext.refl _)
    clear B3 HB1 HR9 HP9 HC9
    go_wp2_with fail
    refine (lawAwake _ (HE.out.ext HX.out)).mono ?_
    rintro e v40 ⟨rfl, hx1⟩
    replace HX := Lib.hid (HX.out.trans hx1)
    clear hx1
    go_wp2_with fail
    go_ret
    exact ⟨rfl, HX.out⟩
end Go.Proofs.YtikehdbkiplleaaGreatDoor
namespace Go.Proofs.YtikehdbkiplleaaGreatDoor.averageOrder
open Go.ChangeShapes Go.WideShapes Go.ChangeAt Go.RowKit Go.Deep Go.Joins

theorem u8_of {n : Int} (h : (Lit.int .u8 n).wf = true) : 0 ≤ n ∧ n ≤ 255 := by
  simp only [Lit.wf, Bool.and_eq_true, decide_eq_true_eq] at h
  have e1 : IntKind.u8.min = 0 := by decide
  have e2 : IntKind.u8.max = 255 := by decide
  omega
set_option maxRecDepth 100000 in
theorem contract (H : Type) (enc : TypeId × Value → H) (W : World) (base : Nat) (args : Array Value) (ds gs : List (DataW H)) (before : List MemPlace)
    (hval : ∀ (j : Nat) t v, Tryz.f8.params[j]? = some t → args[j]? = some v → Value.okWide Tryz.prog W .any base t v)
    (hW : DataW.Whole enc Tryz.prog Tryz.f8.params.toList Rows.averageOrderSpec.vars false W args.toList ds gs before) (hwt : (DataW.weightsEach Tryz.prog (Tryz.f8.params.toList ++ (OpenSpec.ofChange Rows.averageOrderSpec).bare.plain.varTypes Tryz.prog) (ds ++ gs)).all (· ≤ reachBytes) = true)
    (hL : laidMetH Tryz.prog Rows.averageOrderRow.laid W) (hsh : W.ShapedOpen Tryz.prog) :
    Calls Tryz.prog 8 args W fun e W' => ∃ v, e = .returned v ∧ Rows.averageOrderSpec.post enc Tryz.prog Tryz.f8 false true false false W args v W' := by
  have hE : Env W := env_of (show laidMet Tryz.prog _ W from hL) hsh
  have hW' := hW
  obtain ⟨p, q, hA0, hV, rfl, hfz, hnd⟩ := hW
  have hA : DataW.TrodAll enc Tryz.prog W 0 (fun _ => true) true Tryz.f8.params.toList args.toList ds p := hA0
  rw [Tryz.params8] at hA hval hwt
  obtain ⟨v0, vs0, d0, ds0, p0, q0, hargs, rfl, rfl, h0, r0⟩ := trodAll_cons hA
  obtain ⟨v1, vs1, d1, ds1, p1, q1, rfl, rfl, rfl, h1, r1⟩ := trodAll_cons r0
  obtain ⟨v2, vs2, d2, ds2, p2, q2, rfl, rfl, rfl, h2, r2⟩ := trodAll_cons r1
  obtain ⟨v3, vs3, d3, ds3, p3, q3, rfl, rfl, rfl, h3, r3⟩ := trodAll_cons r2
  obtain ⟨rfl, rfl, rfl⟩ := trodAll_nil r3
  obtain rfl : args = #[v0, v1, v2, v3] := by cases args; simp_all
  obtain ⟨rfl, rfl⟩ := trodVars_none hV
  simp only [List.append_nil, List.cons_append, List.nil_append, DataW.weightsEach, List.all_append, Bool.and_eq_true] at hwt
  obtain ⟨s0, A0, c0, rfl, hR0, hc0, hn0⟩ := open_lots (hval 0 22 v0 rfl rfl) h0 hwt.1
  obtain ⟨x1, rfl, rfl, rfl, hx1⟩ := ChangeMaps.open_string Tryz.underlying9 (hval 1 9 v1 rfl rfl) h1
  obtain ⟨t1, rfl⟩ : ∃ t, x1 = bs t := ⟨L x1, (bs_L x1).symm⟩
  obtain ⟨n2, rfl, rfl, rfl, hn2⟩ := open_int Tryz.underlying5 (hval 2 5 v2 rfl rfl) h2
  have hu2 := u8_of hn2
  obtain ⟨x3, rfl, rfl, rfl, hx3⟩ := ChangeMaps.open_string Tryz.underlying23 (hval 3 23 v3 rfl rfl) h3
  obtain ⟨t3, rfl⟩ : ∃ t, x3 = bs t := ⟨L x3, (bs_L x3).symm⟩
  refine (lawOrder s0 A0 c0 t1 n2 t3 W hR0 hc0 hn0 hu2.1 hu2.2 hE).mono fun e W' ⟨he, hx⟩ => ?_
  subst he
  exact ⟨_, rfl, post_law laidOut (by kernel_rfl) (by kernel_rfl) Tryz.underlying4 rfl hW' rfl rfl rfl hx⟩

def flat1 : DataW Unit → List Value | .lit (.int k n) => [.int k n] | _ => []
def flat2 : DataW Unit → List Value | .agg ps => ps.flatMap flat1 | x => flat1 x
def flat3 : DataW Unit → List Value | .agg ps => ps.flatMap flat2 | x => flat1 x
def layIn (w : World) (g : Nat) (d : DataW Unit) : World := { w with heap := w.heap.modify g fun
  | .cells _ t frozen => .cells (flat3 d).toArray t frozen
  | o => o }
/-- A WORLD FOR THE WITNESS: the settled one, the library's tables holding what their initialisers lay. -/
noncomputable def low : Nat := (World.holding Tryz.prog default ⟨#[], #[], []⟩).heap.size
def layErr (w : World) (g b : Nat) : World := { w with heap := w.heap.modify g fun
  | .cells _ t frozen => .cells #[.iface 222 (.pointer (some ⟨b, 0, none⟩))] t frozen
  | o => o }
noncomputable def laidWorld (os : Os) : World :=
  layErr (layErr (layIn (layIn (layIn (layIn (layIn (World.holding Tryz.prog os ⟨#[.cells #[.string ⟨#[118, 97, 108, 117, 101, 32, 111, 117, 116, 32, 111, 102, 32, 114, 97, 110, 103, 101]⟩] 224, .cells #[.string ⟨#[105, 110, 118, 97, 108, 105, 100, 32, 115, 121, 110, 116, 97, 120]⟩] 224], #[], []⟩) 6 Rows.laid_math_bits_deBruijn32tab) 7 Rows.laid_math_bits_deBruijn64tab) 2 Rows.laid_internal_strconv_uint64pow10) 5 Rows.laid_unicode_utf8_acceptRanges) 4 Rows.laid_unicode_utf8_first) 1 low) 0 (low + 1)
theorem laid_met (os : Os) : laidMet Tryz.prog Rows.averageOrderRow.laid ((laidWorld os).forCall (fun _ _ => 0) ⟨#[], #[.slice none 0 0, .string ⟨#[]⟩, .int .u8 0, .string ⟨#[]⟩], []⟩).memory :=
  laidMet_of_run' 8 (by kernel_rfl) (by kernel_rfl)
theorem reads (os : Os) {H : Type} (enc : TypeId × Value → H) : ∃ places, DataW.whole enc Tryz.prog ((laidWorld os).forCall (fun _ _ => 0) ⟨#[], #[.slice none 0 0, .string ⟨#[]⟩, .int .u8 0, .string ⟨#[]⟩], []⟩).memory Tryz.f8.params.toList Rows.averageOrderSpec.vars false (#[.slice none 0 0, .string ⟨#[]⟩, .int .u8 0, .string ⟨#[]⟩] : Array Value).toList 8 = some ([.nil, .lit (.string []), .lit (.int .u8 0), .lit (.string [])], [], places) :=
  ⟨[], by kernel_rfl⟩

set_option maxRecDepth 100000 in
theorem lifted (os : Os) (started : os.Started) (H : Type) (enc : TypeId × Value → H) (F : Stop.Interp) :
    ReturnsInHanded {} Tryz.checked os 8 .any ((OpenSpec.ofChange Rows.averageOrderSpec).preRow enc Tryz.prog Tryz.f8 Rows.averageOrderRow.domain false Rows.averageOrderRow.laid) (((OpenSpec.ofChange Rows.averageOrderSpec).at F).post enc Tryz.prog Tryz.f8 false true false false) := by
  obtain ⟨places, hx⟩ := reads os enc
  refine returnsInHanded_of_row (C := Tryz.checked) (s := OpenSpec.ofChange Rows.averageOrderSpec) own started (by kernel_rfl) Tryz.func8
    (witness_row_at (enc := enc) (C := Tryz.checked) false (laidWorld os) #[.slice none 0 0, .string ⟨#[]⟩, .int .u8 0, .string ⟨#[]⟩] rfl (by kernel_rfl) (by kernel_rfl) (by kernel_rfl)
      (OpenSpec.preRow_of_cond 8 hx (by kernel_rfl) (fun k hk => by cases hk) (by kernel_rfl) (laid_met os))) ?_
  intro W base args ds gs before hval hW _ _ hwt hL hsh _
  exact contract H enc W base args ds gs before hval hW hwt hL hsh

theorem said : Rows.AverageOrderSaid :=
  OpenClaim.holds_of_cond 8 Tryz.f8 rfl rfl rfl rfl rfl rfl rfl ⟨rfl, rfl, rfl, rfl, rfl⟩ rfl rfl rfl rfl rfl (by kernel_rfl) Tryz.func8 (by kernel_rfl)
    (of_decide_eq_true (by kernel_rfl)) (by unfold Func.isWrapper; first | (rw [if_pos (by decide +kernel)]; kernel_rfl) | (rw [if_neg (by decide +kernel)]; exact ⟨rfl, rfl⟩))
    (fun os started H enc _ F => by rw [OpenClaim.pre_eq_preRow]; exact lifted os started H enc F)

theorem plain (f : FuncId) (fn : Func) (hf : Tryz.pinned.checked.prog.funcNamed "tranche/tranchelaw22.AverageOrder" = some f) (hfn : Tryz.pinned.checked.prog.funcs[f]? = some fn) :
    true = Tryz.pinned.checked.prog.looks [] ∧ ∀ (j : Nat) t, fn.params[j]? = some t → Tryz.pinned.checked.prog.wantsStandIn t = false := by
  obtain rfl : f = 8 := Option.some.inj ((show Tryz.prog.funcNamed "tranche/tranchelaw22.AverageOrder" = some 8 by kernel_rfl).symm.trans hf) |>.symm
  obtain rfl : fn = Tryz.f8 := (Option.some.inj (Tryz.func8.symm.trans hfn)).symm
  refine ⟨by kernel_rfl, fun j t ht => ?_⟩
  rw [Tryz.params8] at ht
  have hm := Array.mem_of_getElem? ht
  simp only [List.mem_toArray, List.mem_cons, List.not_mem_nil, or_false] at hm
  rcases hm with rfl | rfl | rfl | rfl
  · exact (show Tryz.prog.wantsStandIn 22 = false by kernel_rfl)
  · exact (show Tryz.prog.wantsStandIn 9 = false by kernel_rfl)
  · exact (show Tryz.prog.wantsStandIn 5 = false by kernel_rfl)
  · exact (show Tryz.prog.wantsStandIn 23 = false by kernel_rfl)

/-- THE CARD -/
theorem card : Rows.AverageOrderCardSaid :=
  Claim7.holds_tied_plain_at .later [] _ _ _ _ said (fun _ h => by cases h) (by kernel_rfl) (fun _ h => by cases h) averageOrder_row_tie rfl ⟨rfl, rfl⟩ (by kernel_rfl) rfl plain (by kernel_rfl)
end Go.Proofs.YtikehdbkiplleaaGreatDoor.averageOrder
