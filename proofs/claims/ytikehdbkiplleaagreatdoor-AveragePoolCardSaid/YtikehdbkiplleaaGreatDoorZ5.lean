/- The seat's texts, part 5 of 5. -/
import Derived.Test.YtikehdbkiplleaaGreatDoorZ4
import Derived.Deep.RegionHeld3
import Derived.BigQuiet
import Derived.Maps.AppendAt
import Derived.Deep.AppendLies
import Derived.RegionTactic
import Derived.OwnWalk
import Derived.Deep.RegionLaw
import Derived.KernelRfl

/- The walks over the program's allocation: the order of the rests (cmp.Or, the closure), the sort. -/
namespace Go.Proofs.YtikehdbkiplleaaGreatDoor
open Go.RowKit Go.Shelf
attribute [local go_sem] size_bs toList_bs

def orI (x y : Int) : Int := if x ≠ 0 then x else y
set_option maxRecDepth 100000 in
set_option maxHeartbeats 2000000 in
theorem orInt (x y : Int) (b : Nat) (t : TypeId) (w : World) (hB : Blk w b t #[.int .i64 x, .int .i64 y]) :
    Calls Tryz.prog 231 #[.slice (some ⟨b, 0, none⟩) 2 2] w fun e w' => e = .returned (.int .i64 (orI x y)) ∧ w' = w := by
  have c0 := hB.cell 0
  have c1 := hB.cell 1
  simp only [List.getElem?_toArray, List.getElem?_cons_zero, List.getElem?_cons_succ] at c0 c1
  have HB := Lib.hid hB
  clear hB
  by_cases hx : x = 0
  · by_cases hy : y = 0
    · subst hx hy
      go_enter Tryz.func231, Tryz.ntmps231
      go_wp2_with fail
      refine wp_loop_rounds 3 ?_
      rw [rounds_succ]
      go_wp2_with fail
      rw [rounds_succ]
      go_wp2_with fail
      rw [rounds_succ]
      go_wp2_with fail
      go_ret
      exact ⟨rfl, rfl⟩
    · subst hx
      have HO : Hid (orI 0 y = y) := Lib.hid (by unfold orI; simp)
      have g : (y != 0) = true := by simp [hy]
      clear hy
      go_enter Tryz.func231, Tryz.ntmps231
      go_wp2_with fail
      refine wp_loop_rounds 3 ?_
      rw [rounds_succ]
      go_wp2_with fail
      rw [rounds_succ]
      go_wp2_with fail
      go_ret
      exact ⟨by rw [HO.out]; rfl, rfl⟩
  · have HO : Hid (orI x y = x) := Lib.hid (by unfold orI; simp [hx])
    have g : (x != 0) = true := by simp [hx]
    clear hx
    go_enter Tryz.func231, Tryz.ntmps231
    go_wp2_with fail
    refine wp_loop_rounds 3 ?_
    rw [rounds_succ]
    go_wp2_with fail
    go_ret
    exact ⟨by rw [HO.out]; rfl, rfl⟩
theorem cmpInt_eq (x y : Int) : Lib.compareInt x y = cmpI x y := by unfold Lib.compareInt cmpI; split <;> (try split) <;> (try split) <;> omega
theorem boxCell {W : World} {g : Nat} {t : TypeId} {v : Value} (h : Blk W g t #[v]) : W.cell? ⟨g, 0, none⟩ = some v := by
  have := h.cell 0
  simpa using this
set_option maxRecDepth 100000 in
set_option maxHeartbeats 2000000 in
theorem posLess (rs : List Bs) (hs : ∀ x ∈ rs, x.length ≤ 100000) (A : Option Addr) (c g : Nat) (i k : Nat) (hi : i < rs.length) (hk : k < rs.length) (w : World) (hE : Env w) (hB : Blk w g 99 #[.slice A rs.length c]) (hA : RdS w A rs) :
    Calls Tryz.prog 230 #[.int .i64 i, .int .i64 k, .pointer (some ⟨g, 0, none⟩)] w fun e w' => e = .returned (.int .i64 (orI (cmpI (valI (rs[k]'hk)) (valI (rs[i]'hi))) (cmpI i k))) ∧ Ext w w' := by
  have hc := cmpP (rs[k]'hk) (rs[i]'hi) (hs _ (List.getElem_mem _)) (hs _ (List.getElem_mem _))
  have HC := Lib.hid hc
  have HD := Lib.hid (fun W => Tryz.cmp_Compare_int (i : Int) (k : Int) W)
  simp only [cmpInt_eq] at HD
  have HO := Lib.hid (fun W b hb => orInt (cmpI (valI (rs[k]'hk)) (valI (rs[i]'hi))) (cmpI i k) b 3 W hb)
  obtain ⟨b, o, rfl, hb, ci⟩ := hA.at_ hi
  obtain ⟨b', o', he, hb', ck⟩ := hA.at_ hk
  injection he with he
  injection he with e1 e2 _
  subst e1 e2
  have HE := Lib.hid hE
  have HB := Lib.hid hB
  have HA := Lib.hid hA
  have hii : (i : Int) < (rs.length : Int) := by omega
  have hkk : (k : Int) < (rs.length : Int) := by omega
  have hi0 : (0 : Int) ≤ (i : Int) := by omega
  have hk0 : (0 : Int) ≤ (k : Int) := by omega
  have q0 := boxCell hB
  have hg := hB.lt
  have HCELL : Hid (∀ W, Ext w W → W.cell? ⟨g, 0, none⟩ = some (.slice (some ⟨b, o, none⟩) rs.length c) ∧ W.cell? ⟨b, o + i, none⟩ = some (.string (bs (rs[i]'hi))) ∧ W.cell? ⟨b, o + k, none⟩ = some (.string (bs (rs[k]'hk))) ∧ g ≠ W.heap.size ∧ b ≠ W.heap.size ∧ W.heap.size ≠ g ∧ W.heap.size ≠ b) := Lib.hid (fun W hx => ⟨(hx.cell (p := ⟨g, 0, none⟩) hg).trans q0, (hx.cell (p := ⟨b, o + i, none⟩) hb).trans ci, (hx.cell (p := ⟨b, o + k, none⟩) hb).trans ck, by have := hx.size; omega, by have := hx.size; omega, by have := hx.size; omega, by have := hx.size; omega⟩)
  have hgn : g ≠ w.heap.size := by omega
  have hbn : b ≠ w.heap.size := by omega
  clear hc hE hB hA hs hb'
  generalize orI (cmpI (valI (rs[k]'hk)) (valI (rs[i]'hi))) (cmpI i k) = z at *
  generalize cmpI (valI (rs[k]'hk)) (valI (rs[i]'hi)) = z1 at *
  generalize cmpI (i : Int) (k : Int) = z2 at *
  generalize rs[k]'hk = rk at *
  generalize rs[i]'hi = ri at *
  have HX : Hid (Ext w w) := Lib.hid (Ext.refl w)
  go_enter Tryz.func230, Tryz.ntmps230
  go_wp2_with fail
  replace HX : Hid (Ext w w.drew) := Lib.hid HX.out.drew
  go_region_held3 (fun w' => w'.cell? ⟨g, 0, none⟩ = some (.slice (some ⟨b, o, none⟩) rs.length c) ∧ w'.cell? ⟨b, o + i, none⟩ = some (.string (bs ri)) ∧ w'.cell? ⟨b, o + k, none⟩ = some (.string (bs rk)))
    (go_keep)
    (first
      | (go_at_call 24; ((with_reducible refine (HC.out _ (HE.out.ext HX.out)).mono ?_); rintro e w1 ⟨rfl, hx⟩); (replace HX := Lib.hid (HX.out.trans hx)); (obtain ⟨q1, q2, q3, q4, q5, q6, q7⟩ := HCELL.out _ HX.out); clear hx HC)
      | (go_at_call 232; ((with_reducible refine (HD.out _).mono ?_); rintro e w2 ⟨rfl, rfl⟩); clear HD)
      | (go_at_call 231; ((with_reducible refine (HO.out _ _ (Blk.new _ _ _)).mono ?_); rintro e w3 ⟨rfl, rfl⟩); (replace HX := Lib.hid (HX.out.alloc (.cells #[.int .i64 z1, .int .i64 z2] 3))); clear HO))
  all_goals
    go_wp2_with fail
    go_ret
    exact ⟨rfl, HX.out⟩
end Go.Proofs.YtikehdbkiplleaaGreatDoor

/- The walks over the reference's Compare and Sign. -/
namespace Go.Proofs.YtikehdbkiplleaaGreatDoor
open Go.RowKit
attribute [local go_sem] size_bs toList_bs

theorem cmp_less {m : Bool} {x y : Nat} (h : x < y) : cmpI (sgn m x) (sgn m y) = if m then 1 else -1 := by
  unfold cmpI sgn; cases m <;> simp <;> omega
theorem cmp_more {m : Bool} {x y : Nat} (h : y < x) : cmpI (sgn m x) (sgn m y) = if m then -1 else 1 := by
  unfold cmpI sgn; cases m <;> simp <;> omega
theorem cmp_same (x : Int) : cmpI x x = 0 := by unfold cmpI; simp
theorem cmp_apart {m n : Bool} {x y : Nat} (hm : m = true → 0 < x) (hn : n = true → 0 < y) (h : m ≠ n) : cmpI (sgn m x) (sgn n y) = if m then -1 else 1 := by
  unfold cmpI sgn
  cases m <;> cases n <;> simp at h hm hn <;> simp <;> omega
set_option maxRecDepth 100000 in
set_option maxHeartbeats 2000000 in
theorem refCmp (a b : Bs) (w : World) (ha : a.length ≤ 1000000000) (hb : b.length ≤ 1000000000) :
    Calls Tryz.prog 55 #[.string (bs a), .string (bs b)] w fun e w' => e = .returned (.int .i64 (cmpI (valI a) (valI b))) ∧ w = w' := by
  have HD1 := Lib.hid (fun w => refDigits a w ha)
  have HD2 := Lib.hid (fun w => refDigits b w hb)
  have hla : (mag a).length ≤ 1000000000 := Nat.le_trans (mag_le a) ha
  have hlb : (mag b).length ≤ 1000000000 := Nat.le_trans (mag_le b) hb
  have HAP := Lib.hid (cmp_apart (m := neg a) (n := neg b) (x := natOf (mag a)) (y := natOf (mag b)) neg_pos neg_pos)
  have HS1 := Lib.hid (fun h => shorter_lt (mag_all a) (mag_all b) (mag_lead b) h)
  have HS2 := Lib.hid (fun h => shorter_lt (mag_all b) (mag_all a) (mag_lead a) h)
  have HE1 := Lib.hid (fun h => (lt_digits (mag_all a) (mag_all b) h).1)
  have HE2 := Lib.hid (fun h => (lt_digits (mag_all b) (mag_all a) h).1)
  have HV : Hid (valI a = sgn (neg a) (natOf (mag a)) ∧ valI b = sgn (neg b) (natOf (mag b))) := Lib.hid ⟨rfl, rfl⟩
  rw [HV.out.1, HV.out.2]
  clear HV ha hb
  generalize neg a = m at *
  generalize neg b = n at *
  generalize mag a = s at *
  generalize mag b = t at *
  by_cases hmn : m = n
  · subst hmn
    clear HAP
    rcases Nat.lt_trichotomy s.length t.length with h | h | h
    · have HC := Lib.hid (cmp_less (m := m) (HS1.out h))
      generalize cmpI (sgn m (natOf s)) (sgn m (natOf t)) = z at *
      have hne : ((s.length : Int) != (t.length : Int)) = true := by rw [bne_iff_ne]; omega
      cases m
      all_goals
        go_enter Tryz.func55, Tryz.ntmps55
        go_wp2_with fail
        refine (HD1.out _).mono ?_
        rintro e w1 ⟨rfl, rfl⟩
        go_wp2_with fail
        refine (HD2.out _).mono ?_
        rintro e w1 ⟨rfl, rfl⟩
        go_wp2_with fail
        go_ret
        exact ⟨by rw [HC.out]; rfl, rfl⟩
    · have hne : ((s.length : Int) != (t.length : Int)) = false := by rw [bne_eq_false_iff_eq]; omega
      by_cases h1 : Op.bytesLess s t = true
      · have HC := Lib.hid (cmp_less (m := m) (HE1.out h h1))
        generalize cmpI (sgn m (natOf s)) (sgn m (natOf t)) = z at *
        cases m
        all_goals
          go_enter Tryz.func55, Tryz.ntmps55
          go_wp2_with fail
          refine (HD1.out _).mono ?_
          rintro e w1 ⟨rfl, rfl⟩
          go_wp2_with fail
          refine (HD2.out _).mono ?_
          rintro e w1 ⟨rfl, rfl⟩
          go_wp2_with fail
          go_ret
          exact ⟨by rw [HC.out]; rfl, rfl⟩
      · have h1f : Op.bytesLess s t = false := by simpa using h1
        by_cases h2 : Op.bytesLess t s = true
        · have HC := Lib.hid (cmp_more (m := m) (HE2.out h.symm h2))
          have hst : (s == t) = false := by
            rw [beq_eq_false_iff_ne]; intro e; subst e
            rw [h1f] at h2; cases h2
          generalize cmpI (sgn m (natOf s)) (sgn m (natOf t)) = z at *
          cases m
          all_goals
            go_enter Tryz.func55, Tryz.ntmps55
            go_wp2_with fail
            refine (HD1.out _).mono ?_
            rintro e w1 ⟨rfl, rfl⟩
            go_wp2_with fail
            refine (HD2.out _).mono ?_
            rintro e w1 ⟨rfl, rfl⟩
            go_wp2_with fail
            go_ret
            exact ⟨by rw [HC.out]; rfl, rfl⟩
        · have h2f : Op.bytesLess t s = false := by simpa using h2
          have est : s = t := lt_total s t h1f h2f
          have HC : Hid (cmpI (sgn m (natOf s)) (sgn m (natOf t)) = 0) := Lib.hid (by rw [est, cmp_same])
          generalize cmpI (sgn m (natOf s)) (sgn m (natOf t)) = z at *
          have hst : (s == t) = true := by rw [est]; simp
          clear est
          cases m
          all_goals
            go_enter Tryz.func55, Tryz.ntmps55
            go_wp2_with fail
            refine (HD1.out _).mono ?_
            rintro e w1 ⟨rfl, rfl⟩
            go_wp2_with fail
            refine (HD2.out _).mono ?_
            rintro e w1 ⟨rfl, rfl⟩
            go_wp2_with fail
            go_ret
            exact ⟨by rw [HC.out]; rfl, rfl⟩
    · have HC := Lib.hid (cmp_more (m := m) (HS2.out h))
      generalize cmpI (sgn m (natOf s)) (sgn m (natOf t)) = z at *
      have hne : ((s.length : Int) != (t.length : Int)) = true := by rw [bne_iff_ne]; omega
      cases m
      all_goals
        go_enter Tryz.func55, Tryz.ntmps55
        go_wp2_with fail
        refine (HD1.out _).mono ?_
        rintro e w1 ⟨rfl, rfl⟩
        go_wp2_with fail
        refine (HD2.out _).mono ?_
        rintro e w1 ⟨rfl, rfl⟩
        go_wp2_with fail
        go_ret
        exact ⟨by rw [HC.out]; rfl, rfl⟩
  · have HC := Lib.hid (HAP.out hmn)
    generalize cmpI (sgn m (natOf s)) (sgn n (natOf t)) = z at *
    clear HAP
    cases m <;> cases n <;> simp at hmn
    all_goals
      go_enter Tryz.func55, Tryz.ntmps55
      go_wp2_with fail
      refine (HD1.out _).mono ?_
      rintro e w1 ⟨rfl, rfl⟩
      go_wp2_with fail
      refine (HD2.out _).mono ?_
      rintro e w1 ⟨rfl, rfl⟩
      go_wp2_with fail
      go_ret
      exact ⟨by rw [HC.out]; rfl, rfl⟩
theorem valI_nilR : valI [] = 0 := by decide
set_option maxHeartbeats 1000000 in
theorem refSign (a : Bs) (w : World) (ha : a.length ≤ 1000000000) :
    Calls Tryz.prog 54 #[.string (bs a)] w fun e w' => e = .returned (.int .i64 (cmpI (valI a) 0)) ∧ w = w' := by
  have HC := Lib.hid (refCmp a [] w ha (by simp))
  rw [valI_nilR] at HC
  generalize cmpI (valI a) 0 = z at *
  go_enter Tryz.func54, Tryz.ntmps54
  go_wp2_with fail
  refine HC.out.mono ?_
  rintro e w1 ⟨rfl, rfl⟩
  go_wp2_with fail
  go_ret
  exact ⟨rfl, rfl⟩
end Go.Proofs.YtikehdbkiplleaaGreatDoor

/- Slices of ints that are rewritten in place (as RowU, printed from it); the reference's product of magnitudes. -/
namespace Go.Proofs.YtikehdbkiplleaaGreatDoor
open Go.RowKit
attribute [local go_sem] size_bs toList_bs

def RowI (w : World) (g cap : Nat) (gs : List Nat) : Prop := ∃ cur, Row w g 3 1 gs.length cap (icells gs) cur
theorem RowI.cell {w : World} {g cap : Nat} {gs : List Nat} (h : RowI w g cap gs) {k x : Nat} (hk : gs[k]? = some x) : w.cell? ⟨g, k, none⟩ = some (.int .i64 x) := by
  obtain ⟨cur, h⟩ := h; exact h.cell (by simp [icells, hk])
theorem RowI.frozen {w : World} {g cap : Nat} {gs : List Nat} (h : RowI w g cap gs) (k : Nat) : w.frozen? ⟨g, k, none⟩ = false := by
  obtain ⟨cur, h⟩ := h; exact h.frozen k
theorem RowI.lt {w : World} {g cap : Nat} {gs : List Nat} (h : RowI w g cap gs) : g < w.heap.size := by obtain ⟨cur, h⟩ := h; exact h.blk.lt
theorem RowI.reads {w : World} {g cap : Nat} {gs : List Nat} (h : RowI w g cap gs) : RdI w (some ⟨g, 0, none⟩) gs := by obtain ⟨cur, h⟩ := h; exact h.reads
theorem RowI.caps {w : World} {g cap : Nat} {gs : List Nat} (h : RowI w g cap gs) : gs.length ≤ cap ∧ cap ≤ maxLen := by obtain ⟨cur, h⟩ := h; exact ⟨h.le, h.big⟩
theorem RowI.ext {w w' : World} {g cap : Nat} {gs : List Nat} (h : RowI w g cap gs) (hx : Ext w w') : RowI w' g cap gs := by obtain ⟨cur, h⟩ := h; exact ⟨cur, h.ext hx⟩
theorem RowI.set_ {w : World} {g cap : Nat} {gs : List Nat} (h : RowI w g cap gs) (k x : Nat) (_hk : k < gs.length) : RowI (w.setCell ⟨g, k, none⟩ (.int .i64 x)) g cap (gs.set k x) := by
  obtain ⟨cur, h⟩ := h
  have h1 := h.blk.set_ k (.int .i64 x)
  rw [List.setIfInBounds_toArray] at h1
  refine ⟨cur.set k (.int .i64 x), h1, by simp [icells], by simpa using h.le, h.big, by simpa using h.full, ?_⟩
  rw [List.length_set, List.take_set, h.take]; simp [icells, List.map_set]
theorem RowI.put {w : World} {g cap : Nat} {gs : List Nat} (h : RowI w g cap gs) (k : Nat) (z : Int) (x : Nat) (hk : k < gs.length) (hz : z = (x : Int)) : RowI (w.setCell ⟨g, k, none⟩ (.int .i64 z)) g cap (gs.set k x) := by
  subst hz; exact h.set_ k x hk
theorem RowI.drew {w : World} {g cap : Nat} {gs : List Nat} (h : RowI w g cap gs) : RowI w.drew g cap gs := by obtain ⟨cur, h⟩ := h; exact ⟨cur, h.drew⟩
theorem icells_rep (n : Nat) : icells (List.replicate n 0) = List.replicate n (.int .i64 0) := by simp [icells]
/-- a new slice of n groups, all 0 -/
theorem makeI (n c : Nat) (w : World) (hc : n = c) (hn : n ≤ 3000000) : ∃ W, (Instr.makeSlice 108 (.int .i64 (n : Int)) (.int .i64 (n : Int))).run Tryz.prog w = .ok (.slice (some ⟨w.heap.size, 0, none⟩) n n) W ∧ RowI W w.heap.size n (List.replicate n 0) ∧ Ext w W := by
  obtain ⟨i0, hI, hz0, hz1, hz2⟩ := info_parts i64Info
  have h := run_make (P := Tryz.prog) w 108 3 i0 _ Tryz.underlying108 hI hz0 .i64 .i64 (n : Int) (n : Int) (by omega) (by omega) (by rw [hz2]; omega) (by omega)
  rw [hz1, Int.toNat_natCast, Nat.mul_one] at h
  refine ⟨_, h, ⟨List.replicate n (.int .i64 0), ?_, by rw [icells_rep]; simp, by simp, by unfold maxLen; simp; omega, by simp, by rw [icells_rep]; simp⟩, Ext.new _ _⟩
  have hb := Blk.new w 3 (madeCells #[.int .i64 0] n)
  have e : madeCells (Value.int .i64 0).cells n = (List.replicate n (Value.int .i64 0)).toArray := by
    rw [← toList_madeCells_one]; rfl
  rw [e]; exact Blk.new _ _ _
/-- the front of a row, cut -/
theorem RowI.cutOwn {w : World} {g cap : Nat} {R : List Nat} {base : Nat} (h : RowI w g cap R) (hb : base ≤ g) : w.ownsRow base 3 1 (.slice (some ⟨g, 0, none⟩) (cutL R).length cap) (cutL R).length (icells (cutL R)) := by
  obtain ⟨cur, h⟩ := h
  have hp := cutL_prefix R
  have hl := cutL_le R
  refine ⟨by simp [icells], .inr ⟨g, cap, cur.toArray, rfl, hb, h.blk, by have := h.le; omega, h.big, by simpa using h.full, ?_⟩⟩
  have ht := h.take
  rw [Nat.mul_one] at ht ⊢
  have : (cur.take R.length).take (cutL R).length = (icells R).take (cutL R).length := by rw [ht]
  rw [List.take_take, Nat.min_eq_left hl] at this
  show cur.take _ = _
  rw [this]
  conv => rhs; rw [hp]
  simp [icells, List.map_take]
theorem RowI.at0 {w : World} {g cap : Nat} {R : List Nat} (h : RowI w g cap R) {k : Nat} (hk : k < R.length) : w.cell? ⟨g, k, none⟩ = some (.int .i64 (at0 R k : Nat)) := by
  rw [at0_lt hk]; exact h.cell (List.getElem?_eq_getElem hk)
theorem RowI.far {w : World} {g cap : Nat} {gs : List Nat} (h : RowI w g cap gs) {g' : Nat} (hne : g ≠ g') (k : Nat) (u : Value) : RowI (w.setCell ⟨g', k, none⟩ u) g cap gs := by
  obtain ⟨cur, h⟩ := h
  exact ⟨cur, { h with blk := h.blk.far (p := ⟨g', k, none⟩) hne u }⟩
def OwnMagI (n : Nat) (w : World) (e : Ending) (w' : World) : Prop :=
  ∃ A c, e = .returned (.slice A (gr n).length c) ∧ w'.ownsRow w.heap.size 3 1 (.slice A (gr n).length c) (gr n).length (icells (gr n)) ∧ Ext w w'
theorem OwnMagI.mag {n : Nat} {w : World} {e : Ending} {w' : World} (h : OwnMagI n w e w') : MagEndsI n w e w' := by
  obtain ⟨A, c, rfl, ho, hx⟩ := h
  exact ⟨A, c, rfl, Reads.own ho, hx, (own_cap ho).1, (own_cap ho).2⟩
theorem mulQ2 (c o x y : Nat) : ((o : Int) + (x : Int) * (y : Int) + (c : Int)) / 1000000000 = (((c + o + x * y) / B9 : Nat) : Int) ∧ ((o : Int) + (x : Int) * (y : Int) + (c : Int)) % 1000000000 = (((c + o + x * y) % B9 : Nat) : Int) := by
  have e : B9 = 1000000000 := rfl
  rw [← Int.natCast_mul, e]
  generalize x * y = z
  omega
/-- how the inner loop of the reference's product stands -/
def MulR (xi : Nat) (gx gy : List Nat) (L i k ca : Nat) (R : List Nat) : Prop :=
  (k ≤ gy.length ∧ MulIn xi gy (gval (gx.take i) * gval gy) L i k ca R) ∨ (k = gy.length + 1 ∧ ca = 0 ∧ MulOut gx gy L (i + 1) R)
theorem MulR.go {xi : Nat} {gx gy : List Nat} {L i k ca : Nat} {R : List Nat} (h : MulR xi gx gy L i k ca R) (hxi : at0 gx i = xi) (hx : xi < B9) (hy : AllB gy) (hL : i + gy.length < L) :
    (R.length = L ∧ AllB R ∧ ca < B9 ∧ k ≤ gy.length + 1) ∧
    ((k ≤ gy.length ∧ (k < gy.length ∨ (¬ k < gy.length ∧ 0 < ca)) ∧ MulR xi gx gy L i (k + 1) ((ca + at0 R (i + k) + xi * at0 gy k) / B9) (R.set (i + k) ((ca + at0 R (i + k) + xi * at0 gy k) % B9))) ∨ (¬ k < gy.length ∧ ca = 0 ∧ MulOut gx gy L (i + 1) R)) := by
  rcases h with ⟨hk, hm⟩ | ⟨hk, hc, ho⟩
  · refine ⟨⟨hm.len, hm.all, hm.cb, by omega⟩, ?_⟩
    by_cases hlt : k < gy.length
    · exact .inl ⟨hk, .inl hlt, .inl ⟨hlt, hm.step hx hy hlt (by omega)⟩⟩
    · have hkl : k = gy.length := by omega
      subst hkl
      rcases Nat.eq_zero_or_pos ca with h0 | h0
      · subst h0
        refine .inr ⟨hlt, rfl, MulOut.next hm.len hm.all ?_ (fun j hj => hm.tail j (by omega))⟩
        rw [hxi]; exact hm.done0 (Nat.le_refl _)
      · refine .inl ⟨hk, .inr ⟨hlt, h0⟩, .inr ⟨rfl, ?_, ?_⟩⟩
        · have hz := hm.tail _ (Nat.le_refl _)
          rw [hz, at0_ge (Nat.le_refl _), Nat.mul_zero, Nat.add_zero]
          exact Nat.div_eq_of_lt hm.cb
        · obtain ⟨d1, d2, d3, d4⟩ := hm.done hL
          have hz := hm.tail _ (Nat.le_refl _)
          have e : (ca + at0 R (i + gy.length) + xi * at0 gy gy.length) % B9 = at0 R (i + gy.length) + ca := by
            rw [hz, at0_ge (Nat.le_refl _), Nat.mul_zero, Nat.add_zero, Nat.zero_add]
            exact Nat.mod_eq_of_lt hm.cb
          rw [e]
          exact MulOut.next d1 d2 (by rw [hxi]; exact d3) d4
  · exact ⟨⟨ho.len, ho.all, by rw [hc]; decide, by omega⟩, .inr ⟨by omega, hc, ho⟩⟩
set_option maxRecDepth 100000 in
set_option maxHeartbeats 1000000 in
theorem refTimes (x y : Nat) (A A' : Option Addr) (c c' : Nat) (w : World) (hA : RdI w A (gr x)) (hA' : RdI w A' (gr y)) (hn : (gr x).length ≤ 1000000) (hn' : (gr y).length ≤ 1000000) :
    Calls Tryz.prog 144 #[.slice A (gr x).length c, .slice A' (gr y).length c'] w (OwnMagI (x * y) w) := by
  have HA := Lib.hid hA
  have HA' := Lib.hid hA'
  have HBX : Hid (AllB (gr x)) := Lib.hid (gr_lt x)
  have HBY : Hid (AllB (gr y)) := Lib.hid (gr_lt y)
  have HVX := Lib.hid (gval_gr x)
  have HVY := Lib.hid (gval_gr y)
  generalize gr x = gx at *
  generalize gr y = gy at *
  clear hA hA'
  obtain ⟨W, hmk, hrow, hxW⟩ := makeI (gx.length + gy.length) _ w rfl (by omega)
  rw [Int.natCast_add] at hmk
  have HROW := Lib.hid hrow
  have HXW := Lib.hid hxW
  clear hrow hxW
  go_enter Tryz.func144, Tryz.ntmps144
  go_wp2_with fail
  clear hmk
  go_loopw [6, 7, 8, 9] (fun i _ _ _ wr => ∃ (k : Nat) (R : List Nat), k ≤ gx.length ∧ i = .int .i64 k ∧ RowI wr w.heap.size (gx.length + gy.length) R ∧ MulOut gx gy (gx.length + gy.length) k R ∧ Ext w wr) (fun i _ _ _ _ => gx.length - (intOf i).toNat)
  case atStart => exact ⟨0, _, by omega, rfl, HROW.out, MulOut.start _ _ _, HXW.out⟩
  case round =>
    clear HROW HXW
    obtain ⟨i, R, hi, rfl, hrow, hmo, hx⟩ := hrel
    have HR := Lib.hid hrow
    have HM := Lib.hid hmo
    have HX := Lib.hid hx
    clear hrow hmo hx
    by_cases hlt : i < gx.length
    · have HIN := Lib.hid (HM.out.in_ (at0 gx i))
      obtain ⟨wo, rfl⟩ : ∃ wo : World, wo = wr := ⟨_, rfl⟩
      have hbx := HBX.out.at0 i
      have HCX := Lib.hid (fun W hW => (HA.out.ext (w' := W) hW).at_ hlt)
      rw [← at0_lt hlt] at HCX
      have HXI : Hid (∀ z, at0 gx i = z → z = at0 gx i) := Lib.hid (fun z h => h.symm)
      obtain ⟨xi, hxi⟩ : ∃ xi, at0 gx i = xi := ⟨_, rfl⟩
      rw [hxi] at HCX HIN hbx
      have HXE := Lib.hid hxi
      clear hxi HXI
      go_wp2_with fail
      go_loopw [7, 8, 9] (fun vc vk _ wr => ∃ (k ca : Nat) (R : List Nat), vk = .int .i64 k ∧ vc = .int .i64 ca ∧ RowI wr w.heap.size (gx.length + gy.length) R ∧ MulR xi gx gy (gx.length + gy.length) i k ca R ∧ Ext w wr) (fun _ vk _ _ => gy.length + 2 - (intOf vk).toNat)
      case atStart => exact ⟨0, 0, R, rfl, rfl, HR.out, .inl ⟨Nat.zero_le _, HIN.out⟩, HX.out⟩
      case round =>
        clear HR HM HX HIN
        obtain ⟨k, ca, R, rfl, rfl, hrow, hmr, hx⟩ := hrel
        have HR := Lib.hid hrow
        have HX := Lib.hid hx
        obtain ⟨⟨hRl, hall, hcb, hkl⟩, hcase⟩ := hmr.go HXE.out hbx HBY.out (by omega)
        clear hrow hmr hx
        rcases hcase with ⟨hk, hgo, hnx⟩ | ⟨hk, hc0, hmo⟩
        · have HNX := Lib.hid hnx
          have hcr := HR.out.at0 (k := i + k) (by omega)
          have hfr := HR.out.frozen (i + k)
          have hor := hall.at0 (i + k)
          have hby := HBY.out.at0 k
          have HG := Lib.hid (fun W h => refGroup gy A' c' k W h hn')
          have HRS := Lib.hid (fun W (hW : RowI W w.heap.size (gx.length + gy.length) R) v z hz => hW.put (i + k) z v (by omega) hz)
          obtain ⟨b, o, rfl, hb, hcx⟩ := HCX.out _ HX.out
          clear hnx
          generalize at0 gy k = yk at *
          generalize at0 R (i + k) = ok at *
          obtain ⟨hm0, hm1⟩ := mulI hbx hby
          have e9 : B9 = 1000000000 := rfl
          rw [e9] at hcb hor
          clear e9 hall
          have hik : ((i : Int) + (k : Int)).toNat = i + k := by omega
          rcases hgo with hgo | ⟨hgo, hgo2⟩
          all_goals
            go_wp2_with fail
            go_quiet ((go_at_call 179; exact quiet_same (HG.out _ (HA'.out.ext (HX.out.drewN _)))))
            go_wp2_with fail
            obtain ⟨hq, hr⟩ := mulQ2 ca ok xi yk
            exact ⟨⟨k + 1, _, _, by go_num, by rw [hq], HRS.out _ (HR.out.ext ((Ext.refl _).drewN _)) _ _ hr, HNX.out, (HX.out.drewN _).setCell (p := ⟨w.heap.size, i + k, none⟩) (Nat.le_refl _) _⟩, by simp [intOf]; omega⟩
        · subst hc0
          have HMO := Lib.hid hmo
          clear hmo hall hcb
          go_wp2_with fail
          exact ⟨⟨i + 1, R, by omega, by go_num, HR.out, HMO.out, HX.out⟩, by simp [intOf]; omega⟩
    · have hil : i = gx.length := by omega
      subst hil
      have HCF : Hid (cutL R = gr (x * y)) := Lib.hid (by rw [HM.out.fin (Nat.le_refl _), HVX.out, HVY.out])
      have hRl := HM.out.len
      have HCP := Lib.hid (HR.out.caps)
      have HCUT := Lib.hid (refTrim R (some ⟨w.heap.size, 0, none⟩) (gx.length + gy.length) wr HR.out.reads HCP.out.1 HCP.out.2 HM.out.all)
      have HOW := Lib.hid (HR.out.cutOwn (base := w.heap.size) (Nat.le_refl _))
      rw [HCF.out] at HCUT HOW
      rw [hRl] at HCUT
      clear hlt
      go_wp2_with fail
      refine HCUT.out.mono ?_
      rintro e w9 ⟨rfl, rfl⟩
      go_wp2_with fail
      go_ret
      exact ⟨_, _, rfl, HOW.out, HX.out⟩
end Go.Proofs.YtikehdbkiplleaaGreatDoor

/- The sort of the rests' indexes, as the program's allocation calls it. -/
namespace Go.Proofs.YtikehdbkiplleaaGreatDoor
open Go.RowKit Go.Shelf Go.Sort

theorem ext_grow {w w' : World} (h : Ext w w') (hd : w.drawn ≤ w'.drawn) : ∃ q os, w' = grow (w.drewN q) os := by
  refine ⟨w'.drawn - w.drawn, w'.heap.extract w.heap.size w'.heap.size, ?_⟩
  have hh : w'.heap = w.heap ++ w'.heap.extract w.heap.size w'.heap.size := by
    apply Array.ext_getElem?
    intro i
    have hs := h.size
    rw [Array.getElem?_append]
    split
    · rename_i hi; exact h.block i hi
    · rename_i hi
      rw [Array.getElem?_extract]
      split
      · congr 1; omega
      · rw [Array.getElem?_eq_none]; omega
  have ho := h.os
  have ht := h.tape
  have hu := h.output
  cases w
  cases w'
  simp only [grow, World.drewN] at *
  subst ho ht hu
  congr 1
  omega
theorem sort_only {α : Type} [Inhabited α] (enc : α → Value) (w : World) (blk off m : Nat) (dk : Array α) (os : Array Obj) : Only blk w (sortWorld enc w blk off m dk os) := by
  refine ⟨rfl, rfl, rfl, ?_, ?_⟩
  · simp [sortWorld, grow, putRow, mapBlock, Sort.ahead]
  · intro k hk hne
    have hne : blk ≠ k := fun e => hne (by rw [e])
    simp only [sortWorld, grow, putRow, mapBlock, Sort.ahead]
    rw [Array.getElem?_append_left (by simpa using hk), Array.getElem?_modify, if_neg hne]
theorem cfR_or (rs : List Bs) (x y : Fin (rs.map valI).length) (hx : x.val < rs.length) (hy : y.val < rs.length) : cfR (rs.map valI) x y = orI (cmpI (valI (rs[y.val]'hy)) (valI (rs[x.val]'hx))) (cmpI (x.val : Int) (y.val : Int)) := by
  unfold cfR orI
  simp only [Fin.getElem_fin, List.getElem_map]
theorem swoR (r : List Int) : SWO (ltOf (cfR r)) := by
  have e : ltOf (cfR r) = ltR r := rfl
  rw [e]
  refine ⟨?_, ?_, ?_⟩
  · intro x; rw [← Bool.not_eq_true, ltR_iff]; omega
  · intro x y z; rw [ltR_iff, ltR_iff, ltR_iff]; omega
  · intro x y z; rw [← Bool.not_eq_true, ← Bool.not_eq_true, ← Bool.not_eq_true, ltR_iff, ltR_iff, ltR_iff]; omega
set_option maxRecDepth 100000 in
theorem posSort (rs : List Bs) (hs : ∀ x ∈ rs, x.length ≤ 100000) (h0 : 0 < rs.length) (hn : rs.length ≤ 100000) (A : Option Addr) (c g bI cap : Nat) (w : World) (hK : ∀ W, Only bI w W → Env W ∧ Blk W g 99 #[.slice A rs.length c] ∧ RdS W A rs)
    (hI : RowI w bI cap (List.range rs.length)) :
    Calls Tryz.prog 229 #[.slice (some ⟨bI, 0, none⟩) rs.length cap, .func (.func 230) #[] #[.pointer (some ⟨g, 0, none⟩)]] w fun e w' =>
      e = .returned (.tuple #[]) ∧ Only bI w w' ∧ RdI w' (some ⟨bI, 0, none⟩) ((ordR (rs.map valI)).map (·.val)) := by
  have hl : (rs.map valI).length = rs.length := List.length_map ..
  haveI : Inhabited (Fin (rs.map valI).length) := ⟨⟨0, by omega⟩⟩
  let enc : Fin (rs.map valI).length → Value := fun i => .int .i64 (i.val : Int)
  have hsz : (List.finRange (rs.map valI).length).toArray.size = rs.length := by simp
  have hH : Holds enc w bI 0 (List.finRange (rs.map valI).length).toArray := by
    intro j hj
    rw [hsz] at hj
    refine ⟨?_, hI.frozen _⟩
    rw [Nat.zero_add, hI.cell (k := j) (x := j) (by simp [hj])]
    rw [getElem!_pos _ j (by rw [hsz]; exact hj)]
    simp [enc]
  have hcmp : CmpLays1 Tryz.prog 230 #[.pointer (some ⟨g, 0, none⟩)] enc (cfR (rs.map valI)) bI 0 (List.finRange (rs.map valI).length).toArray.size w := by
    intro m os dk _ x y
    obtain ⟨hE, hB, hA⟩ := hK _ (sort_only enc w bI 0 m dk os)
    refine (calls_drawn (posLess rs hs A c g x.val y.val (by omega) (by omega) _ hE hB hA)).mono ?_
    rintro e w' ⟨⟨rfl, hx'⟩, hd⟩
    exact ⟨by rw [cfR_or rs x y (by omega) (by omega)], ext_grow hx' (hd _ rfl)⟩
  have h := Any.slices_SortFunc_total Tryz.sortL enc (fun _ => rfl) (cfR (rs.map valI)) (swoR _) 230 #[.pointer (some ⟨g, 0, none⟩)] bI 0 cap (List.finRange (rs.map valI).length).toArray w (fun _ _ => by rfl) hcmp hH hI.lt (by rw [hsz]; omega) (by
    intro x y h1 h2
    have e : ltOf (cfR (rs.map valI)) = ltR (rs.map valI) := rfl
    rw [e, ← Bool.not_eq_true, ltR_iff] at h1 h2
    apply Fin.ext
    omega)
  rw [hsz] at h
  refine h.mono ?_
  rintro e w' ⟨rfl, m, os, rfl⟩
  refine ⟨rfl, sort_only _ _ _ _ _ _ _, ?_⟩
  have hl2 : (ordR (rs.map valI)).length = rs.length := by rw [ordR_len, hl]
  have hh := holds_sortWorld enc w bI 0 m _ (ordR (rs.map valI)).toArray os hI.lt hH (by simp [hl2])
  have ho := sort_only enc w bI 0 m (ordR (rs.map valI)).toArray os
  refine ⟨by simp [icells], fun _ => ⟨bI, 0, rfl, Nat.lt_of_lt_of_le hI.lt ho.size, ?_⟩⟩
  intro j u hu
  have hj : j < (ordR (rs.map valI)).length := by
    have := (List.getElem?_eq_some_iff.1 hu).1
    simpa [icells] using this
  have := (hh j (by simpa using hj)).1
  refine (show _ = _ from this).trans ?_
  rw [← hu, getElem!_pos _ j (by simpa using hj)]
  simp [icells, enc, hj]
end Go.Proofs.YtikehdbkiplleaaGreatDoor

/- Slices of integers' texts that are rewritten in place (as RowI); lists that are filled from the left. -/
namespace Go.Proofs.YtikehdbkiplleaaGreatDoor
open Go.RowKit
attribute [local go_sem] size_bs toList_bs

def RowS (w : World) (g cap : Nat) (gs : List Bs) : Prop := ∃ cur, Row w g 23 1 gs.length cap (scells gs) cur
section
variable {w w' : World} {g cap : Nat} {gs : List Bs}
theorem RowS.cell (h : RowS w g cap gs) {k : Nat} {x : Bs} (hk : gs[k]? = some x) : w.cell? ⟨g, k, none⟩ = some (.string (bs x)) := by
  obtain ⟨cur, h⟩ := h; exact h.cell (by simp [scells, hk])
theorem RowS.frozen (h : RowS w g cap gs) (k : Nat) : w.frozen? ⟨g, k, none⟩ = false := by
  obtain ⟨cur, h⟩ := h; exact h.frozen k
theorem RowS.lt (h : RowS w g cap gs) : g < w.heap.size := by obtain ⟨cur, h⟩ := h; exact h.blk.lt
theorem RowS.reads (h : RowS w g cap gs) : RdS w (some ⟨g, 0, none⟩) gs := by obtain ⟨cur, h⟩ := h; exact h.reads
theorem RowS.ext (h : RowS w g cap gs) (hx : Ext w w') : RowS w' g cap gs := by obtain ⟨cur, h⟩ := h; exact ⟨cur, h.ext hx⟩
theorem RowS.set_ (h : RowS w g cap gs) (k : Nat) (x : Bs) : RowS (w.setCell ⟨g, k, none⟩ (.string (bs x))) g cap (gs.set k x) := by
  obtain ⟨cur, h⟩ := h
  have h1 := h.blk.set_ k (.string (bs x))
  rw [List.setIfInBounds_toArray] at h1
  refine ⟨cur.set k (.string (bs x)), h1, by simp [scells], by simpa using h.le, h.big, by simpa using h.full, ?_⟩
  rw [List.length_set, List.take_set, h.take]; simp [scells, List.map_set]
theorem RowS.drew (h : RowS w g cap gs) : RowS w.drew g cap gs := by obtain ⟨cur, h⟩ := h; exact ⟨cur, h.drew⟩
theorem RowS.far (h : RowS w g cap gs) {g' : Nat} (hne : g ≠ g') (k : Nat) (u : Value) : RowS (w.setCell ⟨g', k, none⟩ u) g cap gs := by
  obtain ⟨cur, h⟩ := h
  exact ⟨cur, { h with blk := h.blk.far (p := ⟨g', k, none⟩) hne u }⟩
theorem RowS.only (h : RowS w g cap gs) {g' : Nat} (ho : Only g' w w') (hne : g ≠ g') : RowS w' g cap gs := by
  obtain ⟨cur, h⟩ := h
  exact ⟨cur, { h with blk := (ho.block g h.blk.lt (by intro e; injection e with e; exact hne e)).trans h.blk }⟩
theorem RowS.new {n : Nat} (hn : n ≤ 3000000) (h : Blk w g 23 (List.replicate n (Value.string ⟨#[]⟩)).toArray) : RowS w g n (List.replicate n []) := by
  refine ⟨List.replicate n (.string ⟨#[]⟩), h, by simp [scells], by simp, by unfold maxLen; simp; omega, by simp, ?_⟩
  simp only [List.length_replicate, Nat.mul_one, List.take_replicate, Nat.min_self, scells, List.map_replicate]; rfl
end
theorem RowI.new {w : World} {g n : Nat} (hn : n ≤ 3000000) (h : Blk w g 3 (List.replicate n (Value.int .i64 0)).toArray) : RowI w g n (List.replicate n 0) :=
  ⟨List.replicate n (.int .i64 0), h, by rw [icells_rep]; simp, by simp, by unfold maxLen; simp; omega, by simp, by rw [icells_rep]; simp⟩
theorem strInfo : (Tryz.prog.info? 23).map (fun i => (i.zero, i.size, i.bytes)) = some (some (.string ⟨#[]⟩), 1, 16) := by kernel_rfl
theorem makeS (n : Nat) (hn : n ≤ 3000000) (w : World) : (Instr.makeSlice 99 (.int .i64 (n : Int)) (.int .i64 (n : Int))).run Tryz.prog w = .ok (.slice (some ⟨w.heap.size, 0, none⟩) n n) (w.alloc (.cells (List.replicate n (Value.string ⟨#[]⟩)).toArray 23)) := by
  obtain ⟨i0, hI, hz0, hz1, hz2⟩ := info_parts strInfo
  have h := run_make (P := Tryz.prog) w 99 23 i0 _ Tryz.underlying99 hI hz0 .i64 .i64 (n : Int) (n : Int) (by omega) (by omega) (by rw [hz2]; omega) (by omega)
  rw [hz1, Int.toNat_natCast, Nat.mul_one] at h
  have e : madeCells (Value.string ⟨#[]⟩).cells n = (List.replicate n (Value.string ⟨#[]⟩)).toArray := by
    rw [← toList_madeCells_one]; rfl
  rw [e] at h
  exact h
theorem makeI2 (n : Nat) (hn : n ≤ 3000000) (w : World) : (Instr.makeSlice 108 (.int .i64 (n : Int)) (.int .i64 (n : Int))).run Tryz.prog w = .ok (.slice (some ⟨w.heap.size, 0, none⟩) n n) (w.alloc (.cells (List.replicate n (Value.int .i64 0)).toArray 3)) := by
  obtain ⟨i0, hI, hz0, hz1, hz2⟩ := info_parts i64Info
  have h := run_make (P := Tryz.prog) w 108 3 i0 _ Tryz.underlying108 hI hz0 .i64 .i64 (n : Int) (n : Int) (by omega) (by omega) (by rw [hz2]; omega) (by omega)
  rw [hz1, Int.toNat_natCast, Nat.mul_one] at h
  have e : madeCells (Value.int .i64 0).cells n = (List.replicate n (Value.int .i64 0)).toArray := by
    rw [← toList_madeCells_one]; rfl
  rw [e] at h
  exact h
/-- filled up to k -/
def mixL {α : Type} (l : List α) (d : α) (k : Nat) : List α := l.take k ++ List.replicate (l.length - k) d
section
variable {α : Type} {l : List α} {d : α} {k : Nat}
theorem mixL_len (hk : k ≤ l.length) : (mixL l d k).length = l.length := by simp [mixL]; omega
theorem mixL_zero : mixL l d 0 = List.replicate l.length d := by simp [mixL]
theorem mixL_full : mixL l d l.length = l := by simp [mixL]
theorem mixL_at (hk : k < l.length) : (mixL l d k)[k]? = some d := by
  have e : (l.take k).length = k := by rw [List.length_take]; omega
  unfold mixL
  rw [List.getElem?_append_right (by omega), e, Nat.sub_self, List.getElem?_replicate, if_pos (by omega)]
theorem mixL_set (hk : k < l.length) : (mixL l d k).set k (l[k]'hk) = mixL l d (k + 1) := by
  have e : (l.take k).length = k := by rw [List.length_take]; omega
  unfold mixL
  rw [List.set_append_right _ _ (by omega), e, Nat.sub_self, List.take_succ_eq_append_getElem hk, List.append_assoc]
  congr 1
  obtain ⟨m, hm⟩ : ∃ m, l.length - k = m + 1 := ⟨l.length - k - 1, by omega⟩
  rw [hm, show l.length - (k + 1) = m by omega, List.replicate_succ]
  rfl
end
/-- two slices and a box that points to the second -/
def ThreeAt (n : Nat) (w : World) (s6 s7 : Value) (wx : World) : Prop :=
  ∃ P R G, s6 = .slice (some ⟨P, 0, none⟩) n n ∧ s7 = .pointer (some ⟨G, 0, none⟩) ∧ P ≠ R ∧ P ≠ G ∧ R ≠ G ∧ w.heap.size ≤ P ∧ w.heap.size ≤ R ∧ w.heap.size ≤ G ∧
    RowS wx P n (List.replicate n []) ∧ RowS wx R n (List.replicate n []) ∧ Blk wx G 99 #[.slice (some ⟨R, 0, none⟩) n n] ∧ Ext w wx
end Go.Proofs.YtikehdbkiplleaaGreatDoor

/- The walk over the program's allocation of a total that is not negative. -/
namespace Go.Proofs.YtikehdbkiplleaaGreatDoor
open Go.RowKit Go.Shelf
attribute [local go_sem] size_bs toList_bs

theorem Blk.only' {w w' : World} {g g' : Nat} {t : TypeId} {cs : Array Value} (h : Blk w g t cs) (ho : Only g' w w') (hp : g ≠ g') : Blk w' g t cs := (ho.block g h.lt (by intro e; injection e with e; exact hp e)).trans h
theorem RowS.new' {w : World} {g n : Nat} (hn : n ≤ 3000000) (h : Blk w g 23 (Array.replicate n (Value.string ⟨#[]⟩))) : RowS w g n (List.replicate n []) :=
  RowS.new hn (by rw [List.toArray_replicate]; exact h)
theorem RowI.new' {w : World} {g n : Nat} (hn : n ≤ 3000000) (h : Blk w g 3 (Array.replicate n (Value.int .i64 0))) : RowI w g n (List.replicate n 0) :=
  RowI.new hn (by rw [List.toArray_replicate]; exact h)
def prtS (T : Int) (ls : List Bs) : List Bs := (prtL T (ls.map valI)).map ofI
def rstS (T : Int) (ls : List Bs) : List Bs := (rstL T (ls.map valI)).map ofI
theorem prtS_len (T : Int) (ls : List Bs) : (prtS T ls).length = ls.length := by simp [prtS, prtL]
theorem rstS_len (T : Int) (ls : List Bs) : (rstS T ls).length = ls.length := by simp [rstS, rstL]
theorem prtS_at (T : Int) (ls : List Bs) {k : Nat} (hk : k < ls.length) (h : k < (prtS T ls).length) : (prtS T ls)[k]'h = ofI (T * valI (ls[k]'hk) / sumV ls) := by simp [prtS, prtL, sumV]
theorem rstS_at (T : Int) (ls : List Bs) {k : Nat} (hk : k < ls.length) (h : k < (rstS T ls).length) : (rstS T ls)[k]'h = ofI (T * valI (ls[k]'hk) % sumV ls) := by simp [rstS, rstL, sumV]
/-- what is left behind the first k -/
def leftV (T : Int) (ls : List Bs) (k : Nat) : Int := T - ((prtL T (ls.map valI)).take k).sum
theorem leftV_succ (T : Int) (ls : List Bs) {k : Nat} (hk : k < ls.length) : leftV T ls k - T * valI (ls[k]'hk) / sumV ls = leftV T ls (k + 1) := by
  have hl : k < (prtL T (ls.map valI)).length := by simpa [prtL] using hk
  unfold leftV
  rw [List.take_succ_eq_append_getElem hl, List.sum_append]
  have : (prtL T (ls.map valI))[k]'hl = T * valI (ls[k]'hk) / sumV ls := by simp [prtL, sumV]
  rw [this]; simp; omega
theorem leftV_full (T : Int) (ls : List Bs) : leftV T ls ls.length = missN T (ls.map valI) := by
  unfold leftV missN
  rw [List.take_of_length_le (by simp [prtL])]
theorem sum_nonneg (l : List Int) (h : ∀ x ∈ l, 0 ≤ x) : 0 ≤ l.sum := by
  induction l with
  | nil => simp
  | cons a r ih => rw [List.sum_cons]; have := h a (by simp); have := ih (fun x hx => h x (by simp [hx])); omega
theorem prt_nonneg {T : Int} {ls : List Bs} (h0 : 0 ≤ T) (hW : WtOK ls) : ∀ x ∈ prtL T (ls.map valI), 0 ≤ x := by
  intro x hx
  obtain ⟨y, hy, rfl⟩ := List.mem_map.1 hx
  obtain ⟨z, hz, rfl⟩ := List.mem_map.1 hy
  exact Int.ediv_nonneg (Int.mul_nonneg h0 (hW.nn z hz)) (Int.le_of_lt hW.sum)
theorem leftV_bounds {T : Int} {ls : List Bs} (h0 : 0 ≤ T) (hW : WtOK ls) (k : Nat) : 0 ≤ leftV T ls k ∧ leftV T ls k ≤ T := by
  have h1 := prt_nonneg h0 hW
  have h2 := (miss_bounds (T := T) (ws := ls.map valI) hW.sum).1
  have h3 := sum_nonneg _ (fun x hx => h1 x (List.mem_of_mem_take (i := k) hx))
  have h4 := sum_nonneg _ (fun x hx => h1 x (List.mem_of_mem_drop (i := k) hx))
  have h5 : (prtL T (ls.map valI)).sum = ((prtL T (ls.map valI)).take k).sum + ((prtL T (ls.map valI)).drop k).sum := by rw [← List.sum_append, List.take_append_drop]
  unfold missN at h2
  unfold leftV
  omega
theorem leftV_lenL {L : Nat} {t : Bs} {ls : List Bs} (ht : t.length ≤ L) (h0 : 0 ≤ valI t) (hW : WtOK ls) (k : Nat) : (ofI (leftV (valI t) ls k)).length ≤ L + 1 := by
  have h1 := leftV_bounds h0 hW k
  have h2 := valI_lt10 ht
  exact ofI_lt10 (by omega)
theorem prt_le {L : Nat} {t : Bs} {ls : List Bs} (ht : t.length ≤ L) (hs : ∀ x ∈ ls, x.length ≤ L) (h0 : 0 ≤ valI t) (hW : WtOK ls) : ∀ x ∈ prtL (valI t) (ls.map valI), 0 ≤ x ∧ x < ((10 ^ (L + L) : Nat) : Int) := by
  intro x hx
  refine ⟨prt_nonneg h0 hW x hx, ?_⟩
  obtain ⟨y, hy, rfl⟩ := List.mem_map.1 hx
  obtain ⟨z, hz, rfl⟩ := List.mem_map.1 hy
  have h1 := valI_lt10 ht
  have h2 := valI_lt10 (hs z hz)
  have h3 := hW.nn z hz
  have h4 : 0 ≤ valI t * valI z := Int.mul_nonneg h0 h3
  have h5 := Int.ediv_le_self (a := valI t * valI z) ((ls.map valI).sum) h4
  have h6 : (valI t * valI z).natAbs < 10 ^ (L + L) := by
    rw [Int.natAbs_mul, Nat.pow_add]
    exact Nat.mul_lt_mul'' h1 h2
  omega
theorem rst_len {L : Nat} {t : Bs} {ls : List Bs} (ht : t.length ≤ L) (hs : ∀ x ∈ ls, x.length ≤ L) (h0 : 0 ≤ valI t) (hW : WtOK ls) : ∀ x ∈ rstL (valI t) (ls.map valI), (ofI x).length ≤ L + L + 1 := by
  intro x hx
  obtain ⟨y, hy, rfl⟩ := List.mem_map.1 hx
  obtain ⟨z, hz, rfl⟩ := List.mem_map.1 hy
  have h1 := valI_lt10 ht
  have h2 := valI_lt10 (hs z hz)
  have h3 := hW.nn z hz
  have hS : 0 < (ls.map valI).sum := hW.sum
  have h4 : 0 ≤ valI t * valI z := Int.mul_nonneg h0 h3
  have h5 : 0 ≤ (ls.map valI).sum * (valI t * valI z / (ls.map valI).sum) := Int.mul_nonneg (Int.le_of_lt hS) (Int.ediv_nonneg h4 (Int.le_of_lt hS))
  have h6 : (valI t * valI z).natAbs < 10 ^ (L + L) := by
    rw [Int.natAbs_mul, Nat.pow_add]
    exact Nat.mul_lt_mul'' h1 h2
  have h7 := Int.emod_nonneg (valI t * valI z) (show (ls.map valI).sum ≠ 0 by omega)
  have h8 := Int.emod_def (valI t * valI z) (ls.map valI).sum
  exact ofI_lt10 (by omega)
theorem bump_len {L : Nat} {t : Bs} {ls : List Bs} (ht : t.length ≤ L) (hs : ∀ x ∈ ls, x.length ≤ L) (h0 : 0 ≤ valI t) (hW : WtOK ls) (j i : Nat) (v : Int) (h : (bumpAll (prtL (valI t) (ls.map valI)) ((topL (valI t) (ls.map valI)).take j))[i]? = some v) : (ofI v).length ≤ L + L + 2 := by
  have hi := (List.getElem?_eq_some_iff.1 h).1
  rw [bumpAll_len] at hi
  rw [bumpAll_get _ _ (topL_nodup.sublist (List.take_sublist _ _)) _ hi] at h
  injection h with h
  have h1 := prt_le ht hs h0 hW _ (List.getElem_mem hi)
  have h2 : 10 ^ (L + L + 1) = 10 * 10 ^ (L + L) := by rw [Nat.pow_succ, Nat.mul_comm]
  have h3 : 0 < 10 ^ (L + L) := Nat.pow_pos (by decide)
  refine ofI_lt10 (L := L + L + 1) ?_
  subst h
  split <;> omega
theorem bumpAll_succ (p : List Int) (is : List Nat) {j : Nat} (hj : j < is.length) : bumpAll p (is.take (j + 1)) = (bumpAll p (is.take j)).modify (is[j]'hj) (· + 1) := by
  unfold bumpAll
  rw [List.take_succ_eq_append_getElem hj, List.foldl_append]; rfl
theorem map_modify (l : List Int) (i : Nat) (v : Int) (h : l[i]? = some v) : (l.map ofI).set i (ofI (v + 1)) = (l.modify i (· + 1)).map ofI := by
  apply List.ext_getElem?
  intro k
  rw [List.getElem?_set, List.getElem?_map, List.getElem?_map, List.getElem?_modify]
  have hi := (List.getElem?_eq_some_iff.1 h).1
  by_cases e : i = k
  · subst e; rw [if_pos rfl, if_pos (by simpa using hi), h]; simp
  · rw [if_neg e]; simp [e]
/-- how it stands in memory: so many of the parts, the rests, the indexes -/
structure PosAt (w : World) (P R G O : Nat) (T : Int) (ls : List Bs) (kp kr ko : Nat) (W : World) : Prop where
  ext : Ext w W
  p : RowS W P ls.length (mixL (prtS T ls) [] kp)
  r : RowS W R ls.length (mixL (rstS T ls) [] kr)
  o : RowI W O ls.length (mixL (List.range ls.length) 0 ko)
  g : Blk W G 99 #[.slice (some ⟨R, 0, none⟩) ls.length ls.length]
structure Apart (w : World) (P R G O : Nat) : Prop where
  pr : P ≠ R
  pg : P ≠ G
  rg : R ≠ G
  po : P ≠ O
  ro : R ≠ O
  go : G ≠ O
  p : w.heap.size ≤ P
  r : w.heap.size ≤ R
  g : w.heap.size ≤ G
  o : w.heap.size ≤ O
section
variable {w : World} {P R G O : Nat} {T : Int} {ls : List Bs} {kp kr ko : Nat} {W W' : World}
theorem PosAt.on (h : PosAt w P R G O T ls kp kr ko W) (hx : Ext W W') : PosAt w P R G O T ls kp kr ko W' :=
  ⟨h.ext.trans hx, h.p.ext hx, h.r.ext hx, h.o.ext hx, h.g.ext hx⟩
theorem PosAt.putP (h : PosAt w P R G O T ls kp kr ko W) (ha : Apart w P R G O) (hk : kp < ls.length) : PosAt w P R G O T ls (kp + 1) kr ko (W.setCell ⟨P, kp, none⟩ (.string (bs (ofI (T * valI (ls[kp]'hk) / sumV ls))))) := by
  refine ⟨h.ext.setCell (p := ⟨P, kp, none⟩) ha.p _, ?_, h.r.far ha.pr.symm _ _, h.o.far ha.po.symm _ _, h.g.far (p := ⟨P, kp, none⟩) ha.pg.symm _⟩
  have hl : kp < (prtS T ls).length := by rw [prtS_len]; exact hk
  have := h.p.set_ kp ((prtS T ls)[kp]'hl)
  rw [mixL_set hl, prtS_at T ls hk] at this
  exact this
theorem PosAt.putR (h : PosAt w P R G O T ls kp kr ko W) (ha : Apart w P R G O) (hk : kr < ls.length) : PosAt w P R G O T ls kp (kr + 1) ko (W.setCell ⟨R, kr, none⟩ (.string (bs (ofI (T * valI (ls[kr]'hk) % sumV ls))))) := by
  refine ⟨h.ext.setCell (p := ⟨R, kr, none⟩) ha.r _, h.p.far ha.pr _ _, ?_, h.o.far ha.ro.symm _ _, h.g.far (p := ⟨R, kr, none⟩) ha.rg.symm _⟩
  have hl : kr < (rstS T ls).length := by rw [rstS_len]; exact hk
  have := h.r.set_ kr ((rstS T ls)[kr]'hl)
  rw [mixL_set hl, rstS_at T ls hk] at this
  exact this
theorem PosAt.putO (h : PosAt w P R G O T ls kp kr ko W) (ha : Apart w P R G O) (hk : ko < ls.length) : PosAt w P R G O T ls kp kr (ko + 1) (W.setCell ⟨O, ko, none⟩ (.int .i64 (ko : Int))) := by
  refine ⟨h.ext.setCell (p := ⟨O, ko, none⟩) ha.o _, h.p.far ha.po _ _, h.r.far ha.ro _ _, ?_, h.g.far (p := ⟨O, ko, none⟩) ha.go _⟩
  have hl : ko < (List.range ls.length).length := by simpa using hk
  have := h.o.set_ ko ((List.range ls.length)[ko]'hl) (by rw [mixL_len (by simp; omega)]; exact hl)
  rw [mixL_set hl, List.getElem_range] at this
  exact this
theorem PosAt.cells (h : PosAt w P R G O T ls kp kr ko W) (hp : kp < ls.length) (hr : kr < ls.length) (ho : ko < ls.length) :
    W.cell? ⟨G, 0, none⟩ = some (.slice (some ⟨R, 0, none⟩) ls.length ls.length) ∧ W.cell? ⟨P, kp, none⟩ = some (.string (bs [])) ∧ W.frozen? ⟨P, kp, none⟩ = false ∧ W.cell? ⟨R, kr, none⟩ = some (.string (bs [])) ∧ W.frozen? ⟨R, kr, none⟩ = false ∧ W.cell? ⟨O, ko, none⟩ = some (.int .i64 0) ∧ W.frozen? ⟨O, ko, none⟩ = false :=
  ⟨boxCell h.g, h.p.cell (mixL_at (by rw [prtS_len]; exact hp)), h.p.frozen _, h.r.cell (mixL_at (by rw [rstS_len]; exact hr)), h.r.frozen _, h.o.cell (mixL_at (by simpa using ho)), h.o.frozen _⟩
theorem PosAt.made (h : PosAt w P R G O T ls (kp + 1) kr ko W) (hp : kp < ls.length) : W.cell? ⟨P, kp, none⟩ = some (.string (bs (ofI (T * valI (ls[kp]'hp) / sumV ls)))) := by
  have hl : kp < (prtS T ls).length := by rw [prtS_len]; exact hp
  rw [← prtS_at T ls hp hl]
  refine h.p.cell ?_
  unfold mixL
  rw [List.getElem?_append_left (by rw [List.length_take]; omega), List.getElem?_take, if_pos (by omega), List.getElem?_eq_getElem hl]
end
set_option maxRecDepth 100000 in
set_option maxHeartbeats 4000000 in
theorem allPositive (t : Bs) (ls : List Bs) (A : Option Addr) (c : Nat) (w : World) (hE : Env w) (hA : RdS w A ls) (ht : t.length ≤ 4000) (h0 : 0 ≤ valI t) (hW : WtOK ls) :
    Calls Tryz.prog 209 #[.string (bs t), .slice A ls.length c] w fun e w' => ∃ P, e = .returned (.slice (some ⟨P, 0, none⟩) ls.length ls.length) ∧ w.heap.size ≤ P ∧ RowS w' P ls.length ((splitP (valI t) (ls.map valI)).map ofI) ∧ Ext w w' := by
  have HE := Lib.hid hE
  have HA := Lib.hid hA
  have HWH := Lib.hid (fun W hx => allWhole ls A c W (hE.ext hx) (hA.ext hx) hW.sm (by have := hW.le; omega))
  have HW := Lib.hid hW
  have hnn := hW.le
  have hmk := makeS ls.length (by have := hW.le; omega)
  have hmi := makeI2 ls.length (by have := hW.le; omega)
  have HSUM : Hid (0 < sumV ls) := Lib.hid hW.sum
  clear hE hA hW
  have HX : Hid (Ext w w) := Lib.hid (Ext.refl w)
  go_enter Tryz.func209, Tryz.ntmps209
  go_wp2_with fail
  refine (HWH.out _ HX.out).mono ?_
  rintro e w1 ⟨rfl, hx1⟩
  replace HX := Lib.hid (HX.out.trans hx1)
  clear hx1
  go_upto_region 2 with fail
  go_cut [6, 7] (fun s6 s7 wx => ThreeAt ls.length w1 s6 s7 wx)
  case first =>
    go_region
    all_goals (go_wp2_with fail; go_meet; clear HX hmk hmi; first | (refine ⟨_, (w1.heap.size + 1), _, rfl, rfl, ?_, ?_, ?_, ?_, ?_, ?_, RowS.new' ?_ ?_, RowS.new' ?_ ?_, ?_, (((Ext.new _ _).alloc _).alloc _).drew⟩ <;> first | omega | ((repeat' first | (refine Blk.newAt _ _ _ _ ?_; solve | simp | (simp only [World.size_alloc]; omega)) | refine Blk.drew ?_ | refine Blk.alloc ?_ _); done)) | (refine ⟨_, (w1.heap.size + 1 + 1), _, rfl, rfl, ?_, ?_, ?_, ?_, ?_, ?_, RowS.new' ?_ ?_, RowS.new' ?_ ?_, ?_, (((Ext.new _ _).alloc _).alloc _).drew⟩ <;> first | omega | ((repeat' first | (refine Blk.newAt _ _ _ _ ?_; solve | simp | (simp only [World.size_alloc]; omega)) | refine Blk.drew ?_ | refine Blk.alloc ?_ _); done)) | (refine ⟨_, w1.heap.size, _, rfl, rfl, ?_, ?_, ?_, ?_, ?_, ?_, RowS.new' ?_ ?_, RowS.new' ?_ ?_, ?_, (((Ext.new _ _).alloc _).alloc _).drew⟩ <;> first | omega | ((repeat' first | (refine Blk.newAt _ _ _ _ ?_; solve | simp | (simp only [World.size_alloc]; omega)) | refine Blk.drew ?_ | refine Blk.alloc ?_ _); done)))
  case rest =>
    obtain ⟨P, R, G, rfl, rfl, hPR, hPG, hRG, hP, hR, hG, hrp, hrr, hbg, hxw⟩ := hcut
    have HST : Hid (PosAt w P R G wc.heap.size (valI t) ls 0 0 0 (wc.alloc (.cells (Array.replicate ls.length (.int .i64 0)) 3))) := Lib.hid (by
      refine ⟨(HX.out.trans hxw).alloc _, ?_, ?_, ?_, hbg.alloc _⟩
      · rw [mixL_zero, prtS_len]; exact hrp.ext (Ext.new _ _)
      · rw [mixL_zero, rstS_len]; exact hrr.ext (Ext.new _ _)
      · rw [mixL_zero, List.length_range]; exact RowI.new' (by omega) (Blk.new _ _ _))
    have HAP : Hid (Apart w P R G wc.heap.size) := Lib.hid ⟨hPR, hPG, hRG, Nat.ne_of_lt hrp.lt, Nat.ne_of_lt hrr.lt, Nat.ne_of_lt hbg.lt, Nat.le_trans HX.out.size hP, Nat.le_trans HX.out.size hR, Nat.le_trans HX.out.size hG, (HX.out.trans hxw).size⟩
    clear hrp hrr hbg hxw HX HWH hP hR hG hmk hPR hPG hRG
    have HT0 : Hid (valI t = leftV (valI t) ls 0) := Lib.hid (by simp [leftV])
    go_wp2_with fail
    clear hmi
    generalize hW0 : wc.alloc (.cells (Array.replicate ls.length (.int .i64 0)) 3) = W0 at *
    clear hW0
    generalize wc.heap.size = O at *
    go_loopw [30, 9, 10, 11] (fun i s _ _ wr => ∃ (k : Nat) (l : Bs), k ≤ ls.length ∧ i = .int .i64 k ∧ s = .string (bs l) ∧ valI l = leftV (valI t) ls k ∧ l.length ≤ 4001 ∧ (0 < k → l = ofI (leftV (valI t) ls k)) ∧ PosAt w P R G O (valI t) ls k k k wr) (fun i _ _ _ _ => ls.length - (intOf i).toNat)
    case atStart => exact ⟨0, t, by omega, rfl, rfl, HT0.out, by omega, by omega, HST.out⟩
    case round =>
      clear HST HT0
      obtain ⟨k, l, hk, rfl, rfl, hl, hll, hlk, hpos⟩ := hrel
      have HPOS := Lib.hid hpos
      have HL := Lib.hid hl
      have HLK := Lib.hid hlk
      clear hpos hl hlk
      by_cases hlt : k < ls.length
      · obtain ⟨b, o, rfl, hb, c0⟩ := (HA.out.ext HPOS.out.ext).at_ hlt
        have m1 := mulP t (ls[k]'hlt) (by omega) (by have := HW.out.sm _ (List.getElem_mem hlt); omega)
        have ml := mul_len ht (HW.out.sm _ (List.getElem_mem hlt))
        have sl := sumV_lenL 4000 ls HW.out.sm (by omega)
        have d1 := divP (ofI (valI t * valI (ls[k]'hlt))) (ofI (sumV ls)) (by omega) (by omega) (by rw [valI_ofI]; have := HSUM.out; omega)
        rw [valI_ofI, valI_ofI, divF_pos HSUM.out, modF_pos HSUM.out] at d1
        have pl := bump_len ht HW.out.sm h0 HW.out 0 k (valI t * valI (ls[k]'hlt) / sumV ls) (by simp [bumpAll, prtL, sumV, hlt])
        have s1 := subP l (ofI (valI t * valI (ls[k]'hlt) / sumV ls)) (by omega) (by omega)
        rw [valI_ofI, HL.out, leftV_succ _ _ hlt] at s1
        have HLEN := Lib.hid (leftV_lenL ht h0 HW.out (k + 1))
        have M1 := Lib.hid m1
        have D1 := Lib.hid d1
        have S1 := Lib.hid s1
        have HC : Hid (∀ W, Ext wr W → W.cell? ⟨G, 0, none⟩ = some (.slice (some ⟨R, 0, none⟩) ls.length ls.length) ∧ W.cell? ⟨P, k, none⟩ = some (.string (bs [])) ∧ W.frozen? ⟨P, k, none⟩ = false ∧ W.cell? ⟨R, k, none⟩ = some (.string (bs [])) ∧ W.frozen? ⟨R, k, none⟩ = false ∧ W.cell? ⟨O, k, none⟩ = some (.int .i64 0) ∧ W.frozen? ⟨O, k, none⟩ = false) := Lib.hid (fun W hx => (HPOS.out.on hx).cells hlt hlt hlt)
        have HP1 : Hid (∀ W, Ext wr W → PosAt w P R G O (valI t) ls (k + 1) (k + 1) k ((W.setCell ⟨P, k, none⟩ (.string (bs (ofI (valI t * valI (ls[k]'hlt) / sumV ls))))).setCell ⟨R, k, none⟩ (.string (bs (ofI (valI t * valI (ls[k]'hlt) % sumV ls)))))) := Lib.hid (fun W hx => ((HPOS.out.on hx).putP HAP.out hlt).putR HAP.out hlt)
        have HP2 : Hid (∀ W, PosAt w P R G O (valI t) ls (k + 1) (k + 1) k W → PosAt w P R G O (valI t) ls (k + 1) (k + 1) (k + 1) (W.setCell ⟨O, k, none⟩ (.int .i64 (k : Int)))) := Lib.hid (fun W h => h.putO HAP.out hlt)
        have HMD : Hid (∀ W, PosAt w P R G O (valI t) ls (k + 1) (k + 1) k W → W.cell? ⟨P, k, none⟩ = some (.string (bs (ofI (valI t * valI (ls[k]'hlt) / sumV ls)))) ∧ W.cell? ⟨O, k, none⟩ = some (.int .i64 0) ∧ W.frozen? ⟨O, k, none⟩ = false) := Lib.hid (fun W h => ⟨h.made hlt, h.o.cell (mixL_at (by simpa using hlt)), h.o.frozen _⟩)
        have HXE : Hid (∀ W, PosAt w P R G O (valI t) ls (k + 1) (k + 1) k W → Env W) := Lib.hid (fun W h => HE.out.ext h.ext)
        have HER : Hid (Env wr) := Lib.hid (HE.out.ext HPOS.out.ext)
        have hpr := HAP.out.pr
        have hpg := HAP.out.pg
        have hrg := HAP.out.rg
        have hpr' := HAP.out.pr.symm
        have hpg' := HAP.out.pg.symm
        have hrg' := HAP.out.rg.symm
        have hki : (k : Int) < (ls.length : Int) := by omega
        have hk0 : (0 : Int) ≤ (k : Int) := by omega
        clear m1 d1 s1 pl ml sl
        generalize ofI (valI t * valI (ls[k]'hlt) / sumV ls) = zq at *
        generalize ofI (valI t * valI (ls[k]'hlt) % sumV ls) = zr at *
        generalize ofI (valI t * valI (ls[k]'hlt)) = zm at *
        generalize ls[k]'hlt = x at *
        generalize ofI (sumV ls) = zs at *
        go_upto_region 8 with fail
        go_cut [] (fun wx => PosAt w P R G O (valI t) ls (k + 1) (k + 1) k wx)
        case first =>
          obtain ⟨q0, q1, q2, q3, q4, _, _⟩ := HC.out _ (Ext.refl wr)
          have HX : Hid (Ext wr wr.drew) := Lib.hid (Ext.refl wr).drew
          go_region_held3 (fun w' => w'.cell? ⟨G, 0, none⟩ = some (.slice (some ⟨R, 0, none⟩) ls.length ls.length))
            (go_keep)
            (first
              | (go_at_call 89; ((with_reducible refine (M1.out _ (HER.out.ext HX.out)).mono ?_); rintro e w2 ⟨rfl, hx⟩); (replace HX := Lib.hid (HX.out.trans hx)); (obtain ⟨r0, r1, r2, r3, r4, _, _⟩ := HC.out _ HX.out); clear hx M1)
              | (go_at_call 142; ((with_reducible refine (D1.out _ (HER.out.ext HX.out)).mono ?_); rintro e w3 ⟨rfl, hx⟩); (replace HX := Lib.hid (HX.out.trans hx)); (obtain ⟨u0, u1, u2, u3, u4, _, _⟩ := HC.out _ HX.out); clear hx D1))
          all_goals (go_wp2_with fail; go_meet; exact HP1.out _ HX.out)
        case rest =>
          obtain ⟨y0, y1, y2⟩ := HMD.out _ hcut
          have HCU := Lib.hid hcut
          clear hcut
          go_wp2_with fail
          refine (S1.out _ (HXE.out _ HCU.out)).mono ?_
          rintro e w4 ⟨rfl, hx⟩
          obtain ⟨v0, v1, v2⟩ := HMD.out _ (HCU.out.on hx)
          replace HCU := Lib.hid (HP2.out _ (HCU.out.on hx))
          clear hx
          go_wp2_with fail
          go_roundw
          case rel => exact ⟨k + 1, _, by omega, by go_num, rfl, valI_ofI _, HLEN.out, fun _ => rfl, HCU.out⟩
          case measure => simp [intOf]; omega
      · have hkn : k = ls.length := by omega
        have hp0 := HW.out.pos
        have HLL : Hid (l = ofI (((missN (valI t) (ls.map valI)).toNat : Nat) : Int)) := Lib.hid (by
          have h1 := (miss_bounds (T := valI t) (ws := ls.map valI) HW.out.sum).1
          rw [HLK.out (by omega), hkn, leftV_full, Int.toNat_of_nonneg h1])
        have hml : (missN (valI t) (ls.map valI)).toNat ≤ ls.length := by
          have h1 := (miss_bounds (T := valI t) (ws := ls.map valI) HW.out.sum).2
          rw [List.length_map] at h1; omega
        have HPR : Hid (RowS wr P ls.length (prtS (valI t) ls)) := Lib.hid (by
          have := HPOS.out.p
          rw [hkn, ← prtS_len (valI t) ls, mixL_full, prtS_len] at this; exact this)
        have HRR : Hid (RowS wr R ls.length (rstS (valI t) ls)) := Lib.hid (by
          have := HPOS.out.r
          rw [hkn, ← rstS_len (valI t) ls, mixL_full, rstS_len] at this; exact this)
        have HOR : Hid (RowI wr O ls.length (List.range ls.length)) := Lib.hid (by
          have := HPOS.out.o
          rw [hkn] at this
          have e := mixL_full (l := List.range ls.length) (d := 0)
          rw [List.length_range] at e
          rw [e] at this; exact this)
        have HBG := Lib.hid HPOS.out.g
        have HXR := Lib.hid HPOS.out.ext
        have SM := Lib.hid (smallP (missN (valI t) (ls.map valI)).toNat (by omega))
        rw [← HLL.out] at SM
        have srt := posSort (rstS (valI t) ls) (by
            intro x hx
            obtain ⟨y, hy, rfl⟩ := List.mem_map.1 hx
            have := rst_len ht HW.out.sm h0 HW.out y hy
            omega) (by rw [rstS_len]; omega) (by rw [rstS_len]; omega) (some ⟨R, 0, none⟩) ls.length G O ls.length wr (fun W ho => by
            rw [rstS_len]
            exact ⟨HE.out.ext (ho.toExt HXR.out HAP.out.o), Blk.only' HBG.out ho HAP.out.go, (HRR.out.only ho HAP.out.ro).reads⟩) (by rw [rstS_len]; exact HOR.out)
        have ers : (rstS (valI t) ls).map valI = rstL (valI t) (ls.map valI) := by
          unfold rstS; rw [List.map_map]; conv => rhs; rw [← List.map_id (rstL (valI t) (ls.map valI))]
          apply List.map_congr_left; intro x _; exact valI_ofI x
        rw [ers, rstS_len] at srt
        have SRT := Lib.hid srt
        clear srt ers HLL HPOS HOR HRR HBG
        subst hkn
        have HTL : Hid ((topL (valI t) (ls.map valI)) = ((ordR (rstL (valI t) (ls.map valI))).map (·.val)).take (missN (valI t) (ls.map valI)).toNat) := Lib.hid (by unfold topL; rw [List.map_take])
        have HTN : Hid ((topL (valI t) (ls.map valI)).length = (missN (valI t) (ls.map valI)).toNat) := Lib.hid (by
          have h1 := topL_len (T := valI t) (ws := ls.map valI) HW.out.sum
          omega)
        have HOL : Hid (((ordR (rstL (valI t) (ls.map valI))).map (·.val)).length = ls.length) := Lib.hid (by rw [List.length_map, ordR_len, rstL_len, List.length_map])
        generalize (missN (valI t) (ls.map valI)).toNat = m at *
        generalize (ordR (rstL (valI t) (ls.map valI))).map (·.val) = od at *
        go_wp2_with fail
        refine SRT.out.mono ?_
        rintro e w5 ⟨rfl, ho, hrd⟩
        have HPR2 := Lib.hid (HPR.out.only ho HAP.out.po)
        have HXR2 := Lib.hid (ho.toExt HXR.out HAP.out.o)
        have HRD := Lib.hid hrd
        clear ho hrd HPR HXR SRT
        go_wp2_with fail
        refine (SM.out _ (HE.out.ext HXR2.out)).mono ?_
        rintro e w6 ⟨rfl, hx⟩
        replace HPR2 := Lib.hid (HPR2.out.ext hx)
        replace HXR2 := Lib.hid (HXR2.out.trans hx)
        replace HRD := Lib.hid (HRD.out.ext hx)
        clear hx SM
        have hmi1 : (m : Int) ≤ (ls.length : Int) := by omega
        have hmi0 : (0 : Int) ≤ (m : Int) := by omega
        go_wp2_with fail
        go_loopw [73, 15] (fun i _ wr => ∃ j : Nat, j ≤ m ∧ i = .int .i64 j ∧ RowS wr P ls.length ((bumpAll (prtL (valI t) (ls.map valI)) ((topL (valI t) (ls.map valI)).take j)).map ofI) ∧ RdI wr (some ⟨O, 0, none⟩) od ∧ Ext w wr) (fun i _ _ => m - (intOf i).toNat)
        case atStart => exact ⟨0, by omega, rfl, HPR2.out, HRD.out, HXR2.out⟩
        case round =>
          clear HPR2 HRD HXR2
          obtain ⟨j, hj, rfl, hrow, hrd, hx⟩ := hrel
          have HRO := Lib.hid hrow
          have HRD := Lib.hid hrd
          have HX := Lib.hid hx
          clear hrow hrd hx
          by_cases hjm : j < m
          · have hjt : j < (topL (valI t) (ls.map valI)).length := by rw [HTN.out]; exact hjm
            have hjo : j < od.length := by rw [HOL.out]; omega
            have eo : od[j]'hjo = (topL (valI t) (ls.map valI))[j]'hjt := by
              have : (topL (valI t) (ls.map valI))[j]? = od[j]? := by rw [HTL.out, List.getElem?_take, if_pos hjm]
              rw [List.getElem?_eq_getElem hjt, List.getElem?_eq_getElem hjo] at this
              injection this with this
              exact this.symm
            have hin : (topL (valI t) (ls.map valI))[j]'hjt < ls.length := by
              have := topL_lt _ (List.getElem_mem hjt)
              rw [List.length_map] at this; exact this
            obtain ⟨b', o', he, _, c1⟩ := HRD.out.at_ hjo
            injection he with he
            injection he with e1 e2 _
            subst e1 e2
            rw [Nat.zero_add, eo] at c1
            have HNX : Hid (bumpAll (prtL (valI t) (ls.map valI)) ((topL (valI t) (ls.map valI)).take (j + 1)) = _) := Lib.hid (bumpAll_succ (prtL (valI t) (ls.map valI)) (topL (valI t) (ls.map valI)) hjt)
            have hbl : (bumpAll (prtL (valI t) (ls.map valI)) ((topL (valI t) (ls.map valI)).take j)).length = ls.length := by rw [bumpAll_len, prtL_len, List.length_map]
            have HBLN := Lib.hid (bump_len ht HW.out.sm h0 HW.out j)
            generalize (topL (valI t) (ls.map valI))[j]'hjt = i at *
            generalize hB1 : bumpAll (prtL (valI t) (ls.map valI)) ((topL (valI t) (ls.map valI)).take (j + 1)) = B1 at *
            have HB1 := Lib.hid hB1
            clear hB1
            generalize bumpAll (prtL (valI t) (ls.map valI)) ((topL (valI t) (ls.map valI)).take j) = B0 at *
            obtain ⟨v, hv⟩ : ∃ v, B0[i]? = some v := ⟨_, List.getElem?_eq_getElem (by omega)⟩
            have hvl := HBLN.out i v hv
            have hmod := map_modify B0 i v hv
            rw [← HNX.out] at hmod
            have HMOD := Lib.hid hmod
            have pc := HRO.out.cell (k := i) (x := ofI v) (by rw [List.getElem?_map, hv]; rfl)
            have a1 : Pure 29 #[.string (bs (ofI v)), .string ⟨#[49]⟩] (.string (bs (ofI (v + 1)))) := by
              have := addP (ofI v) [49] (by omega) (by decide)
              rw [valI_ofI, show valI [49] = 1 by decide] at this
              exact this
            have A1 := Lib.hid a1
            have HCC : Hid (∀ W, Ext wr W → W.cell? ⟨P, i, none⟩ = some (.string (bs (ofI v))) ∧ W.frozen? ⟨P, i, none⟩ = false) := Lib.hid (fun W hx => ⟨(HRO.out.ext hx).cell (by rw [List.getElem?_map, hv]; rfl), (HRO.out.ext hx).frozen _⟩)
            have hii : (i : Int) < (ls.length : Int) := by omega
            have hi0 : (0 : Int) ≤ (i : Int) := by omega
            have hjj : (j : Int) < (m : Int) := by omega
            have hj0 : (0 : Int) ≤ (j : Int) := by omega
            clear a1 hmod hv hvl HBLN HNX eo hbl hjt hjo
            generalize ofI v = z0 at *
            generalize ofI (v + 1) = z1 at *
            go_wp2_with fail
            refine (A1.out _ (HE.out.ext HX.out)).mono ?_
            rintro e w7 ⟨rfl, hx⟩
            obtain ⟨d0, d1⟩ := HCC.out _ hx
            have HR2 := Lib.hid ((HRO.out.ext hx).set_ i z1)
            rw [HMOD.out] at HR2
            have HRD2 := Lib.hid (RdI.far (g := P) (i := i) (HRD.out.ext hx) (.string (bs z1)) (fun _ b o he => by injection he with he; injection he with e1 _ _; rw [← e1]; exact HAP.out.po.symm))
            have HX2 := Lib.hid ((HX.out.trans hx).setCell (p := ⟨P, i, none⟩) HAP.out.p (.string (bs z1)))
            clear hx
            go_wp2_with fail
            go_roundw
            case rel => exact ⟨j + 1, by omega, by go_num, by rw [HB1.out]; exact HR2.out, HRD2.out, HX2.out⟩
            case measure => simp [intOf]; omega
          · have HFIN : Hid (bumpAll (prtL (valI t) (ls.map valI)) ((topL (valI t) (ls.map valI)).take j) = splitP (valI t) (ls.map valI)) := Lib.hid (by
              rw [List.take_of_length_le (by rw [HTN.out]; omega)]; rfl)
            rw [HFIN.out] at HRO
            go_wp2_with fail
            go_ret
            exact ⟨P, rfl, HAP.out.p, HRO.out, HX.out⟩
end Go.Proofs.YtikehdbkiplleaaGreatDoor

/- The walks over the program's allocation: divide, Split. -/
namespace Go.Proofs.YtikehdbkiplleaaGreatDoor
open Go.RowKit Go.Shelf
attribute [local go_sem] size_bs toList_bs

def negK (sp : List Int) (k : Nat) : List Bs := ((sp.take k).map (-·) ++ sp.drop k).map ofI
theorem negK_zero (sp : List Int) : negK sp 0 = sp.map ofI := by simp [negK]
theorem negK_full (sp : List Int) {k : Nat} (h : sp.length ≤ k) : negK sp k = (sp.map (-·)).map ofI := by simp [negK, List.take_of_length_le h, List.drop_of_length_le h]
theorem negK_len (sp : List Int) (k : Nat) : (negK sp k).length = sp.length := by simp [negK]; omega
theorem negK_at (sp : List Int) {k : Nat} (hk : k < sp.length) : (negK sp k)[k]? = some (ofI (sp[k]'hk)) := by
  unfold negK
  rw [List.getElem?_map, List.getElem?_append_right (by simp; omega)]
  simp [Nat.min_eq_left (Nat.le_of_lt hk), hk]
theorem negK_set (sp : List Int) {k : Nat} (hk : k < sp.length) : (negK sp k).set k (ofI (-(sp[k]'hk))) = negK sp (k + 1) := by
  unfold negK
  rw [← List.map_set]
  congr 1
  have e : ((sp.take k).map (-·)).length = k := by simp; omega
  rw [List.set_append_right _ _ (by omega), e, Nat.sub_self, List.take_succ_eq_append_getElem hk, List.map_append, List.append_assoc]
  congr 1
  rw [List.drop_eq_getElem_cons hk]
  rfl
theorem split_len {L : Nat} {t : Bs} {ls : List Bs} (ht : t.length ≤ L) (hs : ∀ x ∈ ls, x.length ≤ L) (h0 : 0 ≤ valI t) (hW : WtOK ls) : ∀ v ∈ splitP (valI t) (ls.map valI), (ofI v).length ≤ L + L + 2 := by
  intro v hv
  obtain ⟨i, hi, rfl⟩ := List.getElem_of_mem hv
  refine bump_len ht hs h0 hW (topL (valI t) (ls.map valI)).length i _ ?_
  rw [List.take_length]
  exact List.getElem?_eq_getElem hi
set_option maxRecDepth 100000 in
set_option maxHeartbeats 4000000 in
theorem allDivide (t : Bs) (ls : List Bs) (A : Option Addr) (c : Nat) (w : World) (hE : Env w) (hA : RdS w A ls) (ht : t.length ≤ 3000) (hW : WtOK ls) :
    Calls Tryz.prog 167 #[.string (bs t), .slice A ls.length c] w fun e w' => ∃ P, e = .returned (.slice (some ⟨P, 0, none⟩) ls.length ls.length) ∧ w.heap.size ≤ P ∧ RowS w' P ls.length ((splitV (valI t) (ls.map valI)).map ofI) ∧ Ext w w' := by
  have HE := Lib.hid hE
  have HA := Lib.hid hA
  have HX : Hid (Ext w w) := Lib.hid (Ext.refl w)
  have N1 := Lib.hid (allNeg t (by omega))
  by_cases hneg : valI t < 0
  · rw [show decide (valI t < 0) = true by simp [hneg]] at N1
    have HSV : Hid (splitV (valI t) (ls.map valI) = (splitP (-valI t) (ls.map valI)).map (-·)) := Lib.hid (by unfold splitV; rw [if_pos hneg])
    rw [HSV.out]
    have n2 := negP t (by omega)
    have hl : (ofI (-valI t)).length ≤ 3000 + 1 := ofI_lt10 (L := 3000) (by have := valI_lt10 ht; omega)
    have h0 : 0 ≤ valI (ofI (-valI t)) := by rw [valI_ofI]; omega
    have HPO := Lib.hid (fun W hx => allPositive (ofI (-valI t)) ls A c W (hE.ext hx) (hA.ext hx) (by omega) h0 hW)
    have HLS := Lib.hid (split_len (L := 4000) (t := ofI (-valI t)) (by omega) hW.sm h0 hW)
    rw [valI_ofI] at HPO HLS
    have N2 := Lib.hid n2
    have hspl : (splitP (-valI t) (ls.map valI)).length = ls.length := by rw [splitP_len, List.length_map]
    have hnn := hW.le
    clear hE hA hW ht hneg n2 h0 hl HSV
    generalize ofI (-valI t) = t' at *
    generalize splitP (-valI t) (ls.map valI) = sp at *
    go_enter Tryz.func167, Tryz.ntmps167
    go_wp2_with fail
    refine (N1.out _ HE.out).mono ?_
    rintro e w1 ⟨rfl, hx1⟩
    replace HX := Lib.hid (HX.out.trans hx1)
    clear hx1
    go_wp2_with fail
    refine (N2.out _ (HE.out.ext HX.out)).mono ?_
    rintro e w2 ⟨rfl, hx1⟩
    replace HX := Lib.hid (HX.out.trans hx1)
    clear hx1
    go_wp2_with fail
    refine (HPO.out _ HX.out).mono ?_
    rintro e w3 ⟨P, rfl, hP, hrow, hx1⟩
    have hPw : w.heap.size ≤ P := Nat.le_trans HX.out.size hP
    replace HX := Lib.hid (HX.out.trans hx1)
    rw [← negK_zero] at hrow
    have HR := Lib.hid hrow
    clear hx1 hP hrow HPO N1 N2
    go_wp2_with fail
    go_loopw [19, 6] (fun i _ wr => ∃ k : Nat, k ≤ ls.length ∧ i = .int .i64 k ∧ RowS wr P ls.length (negK sp k) ∧ Ext w wr) (fun i _ _ => ls.length - (intOf i).toNat)
    case atStart => exact ⟨0, by omega, rfl, HR.out, HX.out⟩
    case round =>
      clear HR HX
      obtain ⟨k, hk, rfl, hr, hx⟩ := hrel
      have HR := Lib.hid hr
      have HX := Lib.hid hx
      clear hr hx
      by_cases hlt : k < ls.length
      · have hks : k < sp.length := by omega
        have n3 := negP (ofI (sp[k]'hks)) (by have := HLS.out _ (List.getElem_mem hks); omega)
        rw [valI_ofI] at n3
        have N3 := Lib.hid n3
        have c0 := HR.out.cell (negK_at sp hks)
        have HCC := Lib.hid (fun W hx => (HR.out.ext (w' := W) hx).cell (negK_at sp hks))
        have HSET := Lib.hid (negK_set sp hks)
        have hki : (k : Int) < (ls.length : Int) := by omega
        have hk0 : (0 : Int) ≤ (k : Int) := by omega
        clear n3
        generalize ofI (-(sp[k]'hks)) = z1 at *
        generalize ofI (sp[k]'hks) = z0 at *
        go_wp2_with fail
        refine (N3.out _ (HE.out.ext HX.out)).mono ?_
        rintro e w4 ⟨rfl, hx⟩
        have d0 := HCC.out _ hx
        have d1 := (HR.out.ext hx).frozen k
        have HR2 := Lib.hid ((HR.out.ext hx).set_ k z1)
        rw [HSET.out] at HR2
        have HX2 := Lib.hid ((HX.out.trans hx).setCell (p := ⟨P, k, none⟩) hPw (.string (bs z1)))
        clear hx
        go_wp2_with fail
        go_roundw
        case rel => exact ⟨k + 1, by omega, by go_num, HR2.out, HX2.out⟩
        case measure => simp [intOf]; omega
      · have HF := Lib.hid (negK_full sp (k := k) (by omega))
        rw [HF.out] at HR
        go_wp2_with fail
        go_ret
        exact ⟨P, rfl, hPw, HR.out, HX.out⟩
  · rw [show decide (valI t < 0) = false by simp; omega] at N1
    have HSV : Hid (splitV (valI t) (ls.map valI) = splitP (valI t) (ls.map valI)) := Lib.hid (by unfold splitV; rw [if_neg hneg])
    rw [HSV.out]
    have HPO := Lib.hid (fun W hx => allPositive t ls A c W (hE.ext hx) (hA.ext hx) (by omega) (by omega) hW)
    clear hE hA hW ht hneg HSV
    generalize splitP (valI t) (ls.map valI) = sp at *
    go_enter Tryz.func167, Tryz.ntmps167
    go_wp2_with fail
    refine (N1.out _ HE.out).mono ?_
    rintro e w1 ⟨rfl, hx1⟩
    replace HX := Lib.hid (HX.out.trans hx1)
    clear hx1
    go_wp2_with fail
    refine (HPO.out _ HX.out).mono ?_
    rintro e w3 ⟨P, rfl, hP, hrow, hx1⟩
    have hPw : w.heap.size ≤ P := Nat.le_trans HX.out.size hP
    replace HX := Lib.hid (HX.out.trans hx1)
    have HR := Lib.hid hrow
    clear hx1 hP hrow HPO N1
    go_wp2_with fail
    go_ret
    exact ⟨P, rfl, hPw, HR.out, HX.out⟩
set_option maxRecDepth 100000 in
theorem allSplit (t : Bs) (ls : List Bs) (A : Option Addr) (c : Nat) (w : World) (hE : Env w) (hA : RdS w A ls) (ht : t.length ≤ 3000) (htc : checkI t = 0) (hW : WtOK ls) :
    Calls Tryz.prog 127 #[.string (bs t), .slice A ls.length c] w fun e w' => ∃ P, e = .returned (.tuple #[.slice (some ⟨P, 0, none⟩) ls.length ls.length, .int .i64 0]) ∧ w.heap.size ≤ P ∧ RowS w' P ls.length ((splitV (valI t) (ls.map valI)).map ofI) ∧ Ext w w' := by
  have HX : Hid (Ext w w) := Lib.hid (Ext.refl w)
  have HC := Lib.hid (allCheck t ls A c w hE hA (by omega) htc hW)
  have HD := Lib.hid (fun W hx => allDivide t ls A c W (hE.ext hx) (hA.ext hx) ht hW)
  clear hE hA ht htc hW
  generalize splitV (valI t) (ls.map valI) = sp at *
  go_enter Tryz.func127, Tryz.ntmps127
  go_wp2_with fail
  refine HC.out.mono ?_
  rintro e w1 ⟨rfl, hx1⟩
  replace HX := Lib.hid (HX.out.trans hx1)
  clear hx1
  go_wp2_with fail
  refine (HD.out _ HX.out).mono ?_
  rintro e w3 ⟨P, rfl, hP, hrow, hx1⟩
  have hPw : w.heap.size ≤ P := Nat.le_trans HX.out.size hP
  replace HX := Lib.hid (HX.out.trans hx1)
  have HR := Lib.hid hrow
  clear hx1 hP hrow HD HC
  go_wp2_with fail
  go_ret2
  exact ⟨P, rfl, hPw, HR.out, HX.out⟩
end Go.Proofs.YtikehdbkiplleaaGreatDoor

/- Append onto a row of the call's own, the source nil, empty or not. No program in sight. -/
namespace Go.Proofs.YtikehdbkiplleaaGreatDoor
open Go.RowKit

section
variable {P : Program} (w : World)
theorem run_append_of_nil (base : Nat) (t ty e : TypeId) (i : TypeInfo) (size : Nat) (ht : P.underlying t = some (.slice e)) (hi : P.info? e = some i)
    (v : Value) (n : Nat) (xs : List Value) (hown : w.ownsRow base e size v n xs) (c : Nat) : (Builtin.append_ #[t, t] ty #[v, .slice none 0 c]).run P w = .ok v w := by
  rcases hown.2 with ⟨rfl, rfl⟩ | ⟨g, cap, cur, rfl, _, _, hnc, _⟩
  · simp [Builtin.append_, run_underlying ht, sizeOf, typeInfo, hi, Builtin.lenOf, Builtin.firstCells]
  · simp [Builtin.append_, run_underlying ht, sizeOf, typeInfo, hi, Builtin.lenOf, Builtin.firstCells, hnc, storeCells]
theorem run_append_any (base : Nat) (t ty e : TypeId) (i : TypeInfo) (z : Value) (size bytes : Nat) (ht : P.underlying t = some (.slice e)) (hi : P.info? e = some i) (hz : i.zero = some z)
    (hsize : i.size = size) (hby : i.bytes = bytes) (hzs : z.cells.size = size) (hsz : 0 < size)
    (v : Value) (n : Nat) (xs : List Value) (hown : w.ownsRow base e size v n xs)
    (A : Option Addr) (m c : Nat) (news : List Value) (hr : Reads w size A m news) (h1 : ∀ u ∈ news, u.oneCell' = true)
    (h63 : n + m ≤ maxLen) (hbytes : (n + m) * bytes ≤ 140737488355328) (hbase : base ≤ w.heap.size) :
    ∃ v' w', (Builtin.append_ #[t, t] ty #[v, .slice A m c]).run P w = .ok v' w' ∧ w'.ownsRow base e size v' (n + m) (xs ++ news) ∧ w.grownBy w' v.ownBlock ∧
      (v'.ownBlock = v.ownBlock ∨ v'.ownBlock = some w.heap.size) := by
  rcases A with _ | ad
  · have hm : m = 0 := by
      rcases Nat.eq_zero_or_pos m with h0 | h0
      · exact h0
      · obtain ⟨b, o, h, _⟩ := hr.2 h0
        cases h
    subst hm
    have hn : news = [] := List.eq_nil_of_length_eq_zero (by simpa using hr.1)
    subst hn
    exact ⟨v, w, run_append_of_nil w base t ty e i size ht hi v n xs hown c, by simpa using hown, World.grownBy.refl w _, .inl rfl⟩
  · have hcells : ∀ j u, news[j]? = some u → w.cell? (ad.add j) = some u := by
      intro j u hu
      rcases Nat.eq_zero_or_pos m with h0 | h0
      · subst h0
        have hn : news = [] := List.eq_nil_of_length_eq_zero (by simpa using hr.1)
        subst hn
        simp at hu
      · obtain ⟨b, o, h, _, hc⟩ := hr.2 h0
        injection h with h
        subst h
        rw [Addr.add_lit]
        exact hc j u hu
    obtain ⟨v', w', hrun, h2, h3, _, h5⟩ := run_append_own_at (P := P) w base t ty e i z size bytes ht hi hz hsize hby hzs hsz v n xs hown ad m c news hr.1 hcells h1 h63 hbytes hbase
    exact ⟨v', w', hrun, h2, h3, h5⟩
theorem wp_append_any {o : Oper} {a : Act} {K : Act → World → Prop} {Q : Exit → Act → World → Prop} (s x : Operand) (t : TypeId)
    (ho : o.op = .call { callee := .builtin .append, args := #[s, x], argTypes := #[t, t] })
    (base : Nat) (e : TypeId) (i : TypeInfo) (z : Value) (size bytes : Nat) (ht : P.underlying t = some (.slice e)) (hi : P.info? e = some i) (hz : i.zero = some z)
    (hsize : i.size = size) (hby : i.bytes = bytes) (hzs : z.cells.size = size) (hsz : 0 < size)
    (v : Value) (n : Nat) (xs : List Value) (hs : a.eval s = v) (hown : w.ownsRow base e size v n xs)
    (A : Option Addr) (m c : Nat) (news : List Value) (hx : a.eval x = .slice A m c) (hr : Reads w size A m news) (h1 : ∀ u ∈ news, u.oneCell' = true)
    (h63 : n + m ≤ maxLen) (hbytes : (n + m) * bytes ≤ 140737488355328) (hbase : base ≤ w.heap.size)
    (h : ∀ v' w', w'.ownsRow base e size v' (n + m) (xs ++ news) → w.grownBy w' v.ownBlock → (v'.ownBlock = v.ownBlock ∨ v'.ownBlock = some w.heap.size) → K (a.put o.dst v') w') : o.wp P a w K Q := by
  obtain ⟨v', w', hrun, h2, h3, h4⟩ := run_append_any (P := P) w base t o.type e i z size bytes ht hi hz hsize hby hzs hsz v n xs hown A m c news hr h1 h63 hbytes hbase
  unfold Oper.wp execOp
  simp only [ho, resolve, invoke, builtin, Sem.run_bind, Sem.run_pure, Result.andThen_ok, List.map_toArray, List.map_cons, List.map_nil, hs, hx, hrun]
  exact h v' w' h2 h3 h4
theorem wpList_append_any {ops : Array Oper} {rest : List Oper} {o : Oper} {a : Act} {Q : Exit → Act → World → Prop} (hgd : o.guard = none) (s x : Operand) (t : TypeId)
    (ho : o.op = .call { callee := .builtin .append, args := #[s, x], argTypes := #[t, t] })
    (base : Nat) (e : TypeId) (i : TypeInfo) (z : Value) (size bytes : Nat) (ht : P.underlying t = some (.slice e)) (hi : P.info? e = some i) (hz : i.zero = some z)
    (hsize : i.size = size) (hby : i.bytes = bytes) (hzs : z.cells.size = size) (hsz : 0 < size)
    (v : Value) (n : Nat) (xs : List Value) (hs : a.eval s = v) (hown : w.ownsRow base e size v n xs)
    (A : Option Addr) (m c : Nat) (news : List Value) (hx : a.eval x = .slice A m c) (hr : Reads w size A m news) (h1 : ∀ u ∈ news, u.oneCell' = true)
    (h63 : n + m ≤ maxLen) (hbytes : (n + m) * bytes ≤ 140737488355328) (hbase : base ≤ w.heap.size)
    (h : ∀ v' w', w'.ownsRow base e size v' (n + m) (xs ++ news) → w.grownBy w' v.ownBlock → (v'.ownBlock = v.ownBlock ∨ v'.ownBlock = some w.heap.size) → wpList P ops Q rest (a.put o.dst v') w') : wpList P ops Q (o :: rest) a w :=
  wpList_plain hgd fun _ hK => wp_append_any w s x t ho base e i z size bytes ht hi hz hsize hby hzs hsz v n xs hs hown A m c news hx hr h1 h63 hbytes hbase fun v' w' h2 h3 h4 => hK _ _ (h v' w' h2 h3 h4)
theorem step_append_any {ops : Array Oper} {o : Oper} {a : Act} {K : Act → World → Prop} {Q : Exit → Act → World → Prop} {E : Prop} (hgd : o.guard = none) (s x : Operand) (t : TypeId)
    (ho : o.op = .call { callee := .builtin .append, args := #[s, x], argTypes := #[t, t] })
    (base : Nat) (e : TypeId) (i : TypeInfo) (z : Value) (size bytes : Nat) (ht : P.underlying t = some (.slice e)) (hi : P.info? e = some i) (hz : i.zero = some z)
    (hsize : i.size = size) (hby : i.bytes = bytes) (hzs : z.cells.size = size) (hsz : 0 < size)
    (v : Value) (n : Nat) (xs : List Value) (hs : a.eval s = v) (hown : w.ownsRow base e size v n xs)
    (A : Option Addr) (m c : Nat) (news : List Value) (hx : a.eval x = .slice A m c) (hr : Reads w size A m news) (h1 : ∀ u ∈ news, u.oneCell' = true)
    (h63 : n + m ≤ maxLen) (hbytes : (n + m) * bytes ≤ 140737488355328) (hbase : base ≤ w.heap.size)
    (h : ∀ v' w', w'.ownsRow base e size v' (n + m) (xs ++ news) → w.grownBy w' v.ownBlock → (v'.ownBlock = v.ownBlock ∨ v'.ownBlock = some w.heap.size) → K (a.put o.dst v') w') :
    if Region.wanted o (yielded ops a.tmps) = true then Oper.wp P o a w K Q else E := by
  have hw : Region.wanted o (yielded ops a.tmps) = true := by simp [Region.wanted, hgd]
  rw [if_pos hw]
  exact wp_append_any w s x t ho base e i z size bytes ht hi hz hsize hby hzs hsz v n xs hs hown A m c news hx hr h1 h63 hbytes hbase h
end
end Go.Proofs.YtikehdbkiplleaaGreatDoor

/- The library's slices.Clone at lots; rows of lots. -/
namespace Go.Proofs.YtikehdbkiplleaaGreatDoor
open Go.RowKit
attribute [local go_sem] size_bs toList_bs

theorem lotInfo : (Tryz.prog.info? 50).map (fun i => (i.zero, i.size, i.bytes)) = some (some (.agg #[.string ⟨#[]⟩, .string ⟨#[]⟩, .int .i64 0, .int .i64 0, .string ⟨#[]⟩, .string ⟨#[]⟩, .string ⟨#[]⟩]), 7, 96) := by kernel_rfl
abbrev lots (ls : List LotV) : List Value := ls.flatMap lotCells
theorem lots_len (ls : List LotV) : (lots ls).length = ls.length * 7 := by
  induction ls with
  | nil => rfl
  | cons x r ih => simp only [lots, List.flatMap_cons, List.length_append, List.length_cons] at *; rw [ih, lotCells_len]; omega
theorem oneL (ls : List LotV) : ∀ u ∈ lots ls, u.oneCell' = true := by
  intro u hu
  obtain ⟨h, _, hh⟩ := List.mem_flatMap.1 hu
  unfold lotCells at hh
  simp only [List.mem_cons, List.not_mem_nil, or_false] at hh
  rcases hh with rfl | rfl | rfl | rfl | rfl | rfl | rfl <;> rfl
/-- lots at the head of a block of their own -/
def RowL (w : World) (g cap : Nat) (ls : List LotV) : Prop := ∃ cur, Row w g 50 7 ls.length cap (lots ls) cur
section
variable {w w' : World} {g cap : Nat} {ls : List LotV}
theorem RowL.lt (h : RowL w g cap ls) : g < w.heap.size := by obtain ⟨cur, h⟩ := h; exact h.blk.lt
theorem RowL.reads (h : RowL w g cap ls) : RdL w (some ⟨g, 0, none⟩) ls := by obtain ⟨cur, h⟩ := h; exact h.reads
theorem RowL.frozen (h : RowL w g cap ls) (k : Nat) : w.frozen? ⟨g, k, none⟩ = false := by obtain ⟨cur, h⟩ := h; exact h.frozen k
theorem RowL.ext (h : RowL w g cap ls) (hx : Ext w w') : RowL w' g cap ls := by obtain ⟨cur, h⟩ := h; exact ⟨cur, h.ext hx⟩
theorem RowL.far (h : RowL w g cap ls) {p : Addr} (hne : g ≠ p.block) (u : Value) : RowL (w.setCell p u) g cap ls := by
  obtain ⟨cur, h⟩ := h
  exact ⟨cur, { h with blk := h.blk.far hne u }⟩
theorem RowL.only (h : RowL w g cap ls) {g' : Nat} (ho : Only g' w w') (hne : g ≠ g') : RowL w' g cap ls := by
  obtain ⟨cur, h⟩ := h
  exact ⟨cur, { h with blk := (ho.block g h.blk.lt (by intro e; injection e with e; exact hne e)).trans h.blk }⟩
end
def CloneL (ls : List LotV) (w : World) (e : Ending) (w' : World) : Prop :=
  ∃ A c, e = .returned (.slice A ls.length c) ∧ Ext w w' ∧ (0 < ls.length → ∃ g, A = some ⟨g, 0, none⟩ ∧ w.heap.size ≤ g ∧ RowL w' g c ls)
set_option maxRecDepth 100000 in
set_option maxHeartbeats 1000000 in
theorem cloneL (ls : List LotV) (A : Option Addr) (c : Nat) (w : World) (hA : RdL w A ls) (hn : ls.length ≤ 1000000) :
    Calls Tryz.prog 39 #[.slice A ls.length c] w (CloneL ls w) := by
  obtain ⟨i0, hI, hz0, hz1, hz2⟩ := info_parts lotInfo
  have HI := Lib.hid hI
  clear hI
  cases A with
  | none =>
    have h0 : ls = [] := by
      rcases Nat.eq_zero_or_pos ls.length with h | h
      · exact List.length_eq_zero_iff.1 h
      · obtain ⟨b, o, e, _⟩ := hA.2 h; cases e
    subst h0
    clear hA
    have hnil : ∀ W : World, (binOp .eql 22 (.slice none 0 c) (.slice none 0 0)).run Tryz.prog W = .ok (.bool true) W := fun W => Lib.run_eql_slice_nil W _ _ _ _ _ _ _ Tryz.underlying22
    go_enter Tryz.func39, Tryz.ntmps39
    go_wp2_with fail
    go_ret
    exact ⟨none, 0, rfl, Ext.refl _, fun h => absurd h (by simp)⟩
  | some a =>
    have hnil : ∀ W : World, (binOp .eql 22 (.slice (some a) ls.length c) (.slice none 0 0)).run Tryz.prog W = .ok (.bool false) W := fun W => Lib.run_eql_slice_nil W _ _ _ _ _ _ _ Tryz.underlying22
    rcases Nat.eq_zero_or_pos ls.length with h0 | h0
    · have h1 : ls = [] := List.length_eq_zero_iff.1 h0
      subst h1
      simp only [List.length_nil] at hnil
      clear hA h0
      go_enter Tryz.func39, Tryz.ntmps39
      have hr : ∀ ty, (Builtin.append_ #[22, 22] ty #[.slice (some ⟨w.heap.size, 0, none⟩) 0 0, .slice (some a) 0 c]).run Tryz.prog (w.alloc (.cells #[] 50)) = .ok (.slice (some ⟨w.heap.size, 0, none⟩) 0 0) (w.alloc (.cells #[] 50)) := fun ty =>
        run_append_room_cells _ _ ty 50 i0 Tryz.underlying22 HI.out w.heap.size 0 0 0 a 0 c [] (by simp) (by simp) (by simp) (Nat.le_refl _) (by simp) (by simp)
      go_wp2_with (at_builtin; refine Lib.wpList_append_run _ rfl (.tmp 5) (.tmp 6) _ _ rfl _ _ rfl rfl _ _ (hr _) ?_)
      go_ret
      exact ⟨some ⟨w.heap.size, 0, none⟩, 0, rfl, Ext.new _ _, fun h => absurd h (by simp)⟩
    · obtain ⟨b, o, e, hb, hc⟩ := hA.2 h0
      injection e with e
      subst e
      have HC : Hid (∀ j u, (lots ls)[j]? = some u → (w.alloc (.cells #[] 50)).cell? ((⟨b, o, none⟩ : Addr).add j) = some u) := Lib.hid (fun j u hu => by
        rw [Addr.add_lit]; exact ((Ext.new w _).cell (p := ⟨b, o + j, none⟩) hb).trans (hc j u hu))
      have HL : Hid ((lots ls).length = ls.length * 7) := Lib.hid (lots_len ls)
      clear hc hA
      go_enter Tryz.func39, Tryz.ntmps39
      go_wp2_with (at_builtin; refine wpList_append_lies _ rfl (.tmp 5) (.tmp 6) 22 rfl w.heap.size 50 i0 _ 7 96 Tryz.underlying22 HI.out hz0 hz1 hz2 rfl (by decide) _ 0 [] rfl ⟨rfl, .inr ⟨w.heap.size, 0, #[], rfl, Nat.le_refl _, heap_alloc_new w _, Nat.le_refl _, by decide, rfl, rfl⟩⟩ ⟨b, o, none⟩ ls.length c (lots ls) rfl HL.out HC.out (oneL ls) h0 (by simp only [maxLen]; omega) (by omega) (by simp) _ rfl ?_; intro g cap w' hown hgrow hat hlt)
      go_ret
      simp only [Nat.zero_add, List.nil_append] at hown
      obtain ⟨hg, cur, hrow⟩ := Row.of_own hown
      exact ⟨some ⟨g, 0, none⟩, cap, rfl, Ext.only (Ext.new w (.cells #[] 50)) hgrow (Nat.le_refl _), fun _ => ⟨g, rfl, hg, cur, hrow⟩⟩
end Go.Proofs.YtikehdbkiplleaaGreatDoor

/- The walk over the program's average.change. -/
namespace Go.Proofs.YtikehdbkiplleaaGreatDoor
open Go.RowKit
attribute [local go_sem] size_bs toList_bs

/-- the lots of an instrument, changed one after the other -/
def chg (ch : Nat → LotV → LotV) (ins : Bs) : Nat → List LotV → List LotV
  | _, [] => []
  | n, x :: r => if x.ins = ins then ch n x :: chg ch ins (n + 1) r else x :: chg ch ins n r
section
variable {ch : Nat → LotV → LotV} {ins : Bs}
theorem ofL_cons (x : LotV) (r : List LotV) : ofL (x :: r) ins = if x.ins = ins then x :: ofL r ins else ofL r ins := by
  unfold ofL; rw [List.filter_cons]; simp
theorem ofL_append (l r : List LotV) : ofL (l ++ r) ins = ofL l ins ++ ofL r ins := by unfold ofL; rw [List.filter_append]
theorem chg_len (n : Nat) (l : List LotV) : (chg ch ins n l).length = l.length := by
  induction l generalizing n with
  | nil => rfl
  | cons x r ih => unfold chg; split <;> simp [ih]
theorem chg_snoc (n : Nat) (l : List LotV) (x : LotV) : chg ch ins n (l ++ [x]) = chg ch ins n l ++ [if x.ins = ins then ch (n + (ofL l ins).length) x else x] := by
  induction l generalizing n with
  | nil => simp [chg, ofL]; split <;> rfl
  | cons y r ih =>
    rw [List.cons_append]
    unfold chg
    rw [ofL_cons]
    by_cases h : y.ins = ins
    · simp only [h, if_true, List.cons_append, ih, List.length_cons]
      rw [show n + 1 + (ofL r ins).length = n + ((ofL r ins).length + 1) by omega]
    · simp only [h, if_false, List.cons_append, ih]
/-- behind the first k -/
def chgK (ch : Nat → LotV → LotV) (ins : Bs) (ls : List LotV) (k : Nat) : List LotV := chg ch ins 0 (ls.take k) ++ ls.drop k
variable {ls : List LotV} {k : Nat}
theorem chgK_zero : chgK ch ins ls 0 = ls := by simp [chgK, chg]
theorem chgK_full (h : ls.length ≤ k) : chgK ch ins ls k = chg ch ins 0 ls := by simp [chgK, List.take_of_length_le h, List.drop_of_length_le h]
theorem chgK_len : (chgK ch ins ls k).length = ls.length := by simp [chgK, chg_len]; omega
theorem chgK_at (h : k < ls.length) (h' : k < (chgK ch ins ls k).length) : (chgK ch ins ls k)[k]'h' = ls[k]'h := by
  have e : (chg ch ins 0 (ls.take k)).length = k := by rw [chg_len, List.length_take]; omega
  have h1 : (chgK ch ins ls k)[k]? = some (ls[k]'h) := by
    unfold chgK
    rw [List.getElem?_append_right (by omega), e, Nat.sub_self, List.drop_eq_getElem_cons h]; rfl
  rw [List.getElem?_eq_getElem h'] at h1
  injection h1
theorem chgK_hit (h : k < ls.length) (hi : (ls[k]'h).ins = ins) : (chgK ch ins ls k).set k (ch (ofL (ls.take k) ins).length (ls[k]'h)) = chgK ch ins ls (k + 1) := by
  have e : (chg ch ins 0 (ls.take k)).length = k := by rw [chg_len, List.length_take]; omega
  unfold chgK
  rw [List.set_append_right _ _ (by omega), e, Nat.sub_self, List.take_succ_eq_append_getElem h, chg_snoc, if_pos hi, List.append_assoc, Nat.zero_add]
  congr 1
  rw [List.drop_eq_getElem_cons h]
  rfl
theorem chgK_skip (h : k < ls.length) (hi : ¬ (ls[k]'h).ins = ins) : chgK ch ins ls k = chgK ch ins ls (k + 1) := by
  unfold chgK
  rw [List.take_succ_eq_append_getElem h, chg_snoc, if_neg hi, List.append_assoc]
  congr 1
  rw [List.drop_eq_getElem_cons h]
  rfl
theorem ofL_at (h : k < ls.length) (hi : (ls[k]'h).ins = ins) : (ofL ls ins)[(ofL (ls.take k) ins).length]? = some (ls[k]'h) := by
  have e : ofL ls ins = ofL (ls.take k) ins ++ ofL (ls.drop k) ins := by rw [← ofL_append, List.take_append_drop]
  rw [e, List.getElem?_append_right (Nat.le_refl _), Nat.sub_self, List.drop_eq_getElem_cons h, ofL_cons, if_pos hi]
  rfl
theorem ofL_hit_len (h : k < ls.length) (hi : (ls[k]'h).ins = ins) : (ofL (ls.take (k + 1)) ins).length = (ofL (ls.take k) ins).length + 1 := by
  rw [List.take_succ_eq_append_getElem h, ofL_append, ofL_cons, if_pos hi]; simp [ofL]
theorem ofL_skip_len (h : k < ls.length) (hi : ¬ (ls[k]'h).ins = ins) : (ofL (ls.take (k + 1)) ins).length = (ofL (ls.take k) ins).length := by
  rw [List.take_succ_eq_append_getElem h, ofL_append, ofL_cons, if_neg hi]; simp [ofL]
end
/-- what the closure does to the n-th lot of the instrument -/
abbrev Does (kf : Nat) (cb : Array Value) (ch : Nat → LotV → LotV) (J : Nat → Nat → World → Prop) (ins : Bs) (ls : List LotV) (base : Nat) : Prop :=
  ∀ (g cap : Nat) (ls' : List LotV) (k : Nat) (x : LotV) (n : Nat) (W : World), base ≤ g → ls'.length = ls.length → ls'[k]? = some x → (ofL ls ins)[n]? = some x → RowL W g cap ls' → J g n W →
    Calls Tryz.prog kf (#[.int .i64 (n : Int), .pointer (some ⟨g, k * 7, none⟩)] ++ cb) W fun e w' => e = .returned (.tuple #[]) ∧ RowL w' g cap (ls'.set k (ch n x)) ∧ J g (n + 1) w'
def ChgEnds (ch : Nat → LotV → LotV) (J : Nat → Nat → World → Prop) (ins : Bs) (ls : List LotV) (w : World) (e : Ending) (w' : World) : Prop :=
  ∃ A c g, e = .returned (.slice A ls.length c) ∧ w.heap.size ≤ g ∧ RdL w' A (chg ch ins 0 ls) ∧ (0 < ls.length → A = some ⟨g, 0, none⟩ ∧ RowL w' g c (chg ch ins 0 ls)) ∧ J g (ofL ls ins).length w'
set_option maxRecDepth 100000 in
set_option maxHeartbeats 2000000 in
theorem avgChange (kf : Nat) (cb : Array Value) (ek : ∀ args w, (callFunc kf args).run Tryz.prog w = .ok (.enter kf args) w) (ch : Nat → LotV → LotV) (J : Nat → Nat → World → Prop) (ins : Bs) (ls : List LotV) (A : Option Addr) (c : Nat) (w : World) (hA : RdL w A ls) (hn : ls.length ≤ 1000000)
    (hJ : ∀ g W, Ext w W → w.heap.size ≤ g → J g 0 W) (hF : Does kf cb ch J ins ls w.heap.size) :
    Calls Tryz.prog 125 #[.slice A ls.length c, .string (bs ins), .func (.func kf) #[] cb] w (ChgEnds ch J ins ls w) := by
  have HCL := Lib.hid (cloneL ls A c w hA hn)
  have HF := Lib.hid hF
  have HJ := Lib.hid hJ
  clear hA hF hJ
  go_enter Tryz.func125, Tryz.ntmps125
  go_wp2_with fail
  refine HCL.out.mono ?_
  rintro e w1 ⟨A', c', rfl, hx, hrow⟩
  rcases Nat.eq_zero_or_pos ls.length with h0 | h0
  · have h1 : ls = [] := List.length_eq_zero_iff.1 h0
    subst h1
    have HJ1 := Lib.hid (HJ.out w.heap.size w1 hx (Nat.le_refl _))
    have HX := Lib.hid hx
    clear hrow hx HF HJ HCL h0
    go_wp2_with fail
    refine wp_loop_rounds 1 ?_
    rw [rounds_succ]
    go_wp2_with fail
    go_ret
    exact ⟨A', c', w.heap.size, rfl, Nat.le_refl _, Reads.nil, fun h => absurd h (by simp), HJ1.out⟩
  · obtain ⟨g, rfl, hg, hr⟩ := hrow h0
    have HR := Lib.hid hr
    have HJ1 := Lib.hid (HJ.out g w1 hx hg)
    clear hrow hr hx HJ HCL
    go_wp2_with fail
    go_loopw [15, 8, 9, 10] (fun i n _ _ wr => ∃ k : Nat, k ≤ ls.length ∧ i = .int .i64 k ∧ n = .int .i64 ((ofL (ls.take k) ins).length : Nat) ∧ RowL wr g c' (chgK ch ins ls k) ∧ J g (ofL (ls.take k) ins).length wr) (fun i _ _ _ _ => ls.length - (intOf i).toNat)
    case atStart => exact ⟨0, by omega, rfl, rfl, by rw [chgK_zero]; exact HR.out, HJ1.out⟩
    case round =>
      clear HR HJ1
      obtain ⟨k, hk, rfl, rfl, hr, hj⟩ := hrel
      have HR := Lib.hid hr
      have HJ := Lib.hid hj
      clear hr hj
      by_cases hlt : k < ls.length
      · have hck : k < (chgK ch ins ls k).length := by rw [chgK_len]; exact hlt
        obtain ⟨b, o, he, hq1, hq2, c1, hq3⟩ := HR.out.reads.at_ hck
        clear hq1 hq2 hq3
        injection he with he
        injection he with e1 e2 _
        subst e1 e2
        rw [chgK_at hlt hck, Nat.zero_add] at c1
        have hki : (k : Int) < (ls.length : Int) := by omega
        have hk0 : (0 : Int) ≤ (k : Int) := by omega
        have hm : (ofL (ls.take k) ins).length ≤ 1000000 := by
          have h1 : (ofL (ls.take k) ins).length ≤ (ls.take k).length := List.length_filter_le _ _
          rw [List.length_take] at h1; omega
        by_cases hi : (ls[k]'hlt).ins = ins
        · have HC := Lib.hid (HF.out g c' (chgK ch ins ls k) k (ls[k]'hlt) _ wr hg chgK_len (by rw [List.getElem?_eq_getElem hck, chgK_at hlt hck]) (ofL_at hlt hi) HR.out HJ.out)
          have HH := Lib.hid (chgK_hit (ch := ch) hlt hi)
          have HN := Lib.hid (ofL_hit_len hlt hi)
          rw [hi] at c1
          clear hi hck
          generalize (ofL (ls.take k) ins).length = n at *
          go_wp2_with fail
          refine HC.out.mono ?_
          rintro e w2 ⟨rfl, hr2, hj2⟩
          rw [HH.out] at hr2
          have HR2 := Lib.hid hr2
          have HJ2 := Lib.hid hj2
          clear hr2 hj2
          go_wp2_with fail
          go_roundw
          case rel => exact ⟨k + 1, by omega, by go_num, by rw [HN.out]; go_num, HR2.out, by rw [HN.out]; exact HJ2.out⟩
          case measure => simp [intOf]; omega
        · have gi : ((ls[k]'hlt).ins == ins) = false := by rw [beq_eq_false_iff_ne]; exact hi
          have HH := Lib.hid (chgK_skip (ch := ch) hlt hi)
          have HN := Lib.hid (ofL_skip_len hlt hi)
          clear hi hck
          rw [HH.out] at HR
          generalize (ofL (ls.take k) ins).length = n at *
          go_wp2_with fail
          go_roundw
          case rel => exact ⟨k + 1, by omega, by go_num, by rw [HN.out], HR.out, by rw [HN.out]; exact HJ.out⟩
          case measure => simp [intOf]; omega
      · have HH := Lib.hid (chgK_full (ch := ch) (ins := ins) (ls := ls) (k := k) (by omega))
        have HT : Hid (ls.take k = ls) := Lib.hid (List.take_of_length_le (by omega))
        rw [HH.out] at HR
        rw [HT.out] at HJ
        rw [HT.out]
        go_wp2_with fail
        go_ret
        exact ⟨some ⟨g, 0, none⟩, c', g, rfl, hg, HR.out.reads, fun _ => ⟨rfl, HR.out⟩, HJ.out⟩
end Go.Proofs.YtikehdbkiplleaaGreatDoor

/- The walks over the two closures of the program's average.pool. -/
namespace Go.Proofs.YtikehdbkiplleaaGreatDoor
open Go.RowKit
attribute [local go_sem] size_bs toList_bs

/-- the quantities gathered so far, in a slice that a box holds -/
def J1 (w0 : World) (G : Nat) (qs : List Bs) (_g n : Nat) (W : World) : Prop :=
  Ext w0 W ∧ ∃ v, Blk W G 99 #[v] ∧ W.ownsRow w0.heap.size 23 1 v n (scells (qs.take n))
theorem blk_ne {w : World} {g g' : Nat} {t t' : TypeId} {cs cs' : Array Value} (h : Blk w g t cs) (h' : Blk w g' t' cs') (hne : t ≠ t') : g ≠ g' := by
  rintro rfl
  unfold Blk at h h'
  rw [h] at h'
  injection h' with h'
  injection h' with _ h2 _
  exact hne h2
theorem set_same {α : Type} {l : List α} {k : Nat} {x : α} (h : l[k]? = some x) : l.set k x = l := by
  apply List.ext_getElem?
  intro i
  rw [List.getElem?_set]
  by_cases e : k = i
  · subst e
    rw [if_pos rfl, if_pos (List.getElem?_eq_some_iff.1 h).1, h]
  · rw [if_neg e]
theorem scells_snoc (qs : List Bs) {n : Nat} {x : Bs} (h : qs[n]? = some x) : scells (qs.take n) ++ [.string (bs x)] = scells (qs.take (n + 1)) := by
  obtain ⟨hn, hx⟩ := List.getElem?_eq_some_iff.1 h
  rw [List.take_succ_eq_append_getElem hn, hx]; simp [scells]
set_option maxRecDepth 100000 in
set_option maxHeartbeats 2000000 in
theorem poolGather (w0 : World) (G : Nat) (ins : Bs) (ls : List LotV) (base : Nat) (hG : w0.heap.size ≤ G) (hn : ls.length ≤ 1000000) :
    Does 126 #[.pointer (some ⟨G, 0, none⟩)] (fun _ x => x) (J1 w0 G ((ofL ls ins).map (·.q))) ins ls base := by
  intro g cap ls' k x n w hg hl hk hx hrow hJ
  obtain ⟨hext, v, hb, hown⟩ := hJ
  have hqx : ((ofL ls ins).map (·.q))[n]? = some x.q := by rw [List.getElem?_map, hx]; rfl
  have HSN := Lib.hid (scells_snoc _ hqx)
  have hnl : n < 1000000 := by
    have h1 := (List.getElem?_eq_some_iff.1 hx).1
    have h2 : (ofL ls ins).length ≤ ls.length := List.length_filter_le _ _
    omega
  obtain ⟨hk', hkx⟩ := List.getElem?_eq_some_iff.1 hk
  obtain ⟨b, o, he, hq0, hq1, hq2, hq3, hq4, c4, hq5⟩ := hrow.reads.at_ hk'
  injection he with he
  injection he with e1 e2 _
  subst e1 e2
  rw [hkx, Nat.zero_add] at c4
  obtain ⟨A, c, rfl⟩ := own_slice hown
  have q0 := boxCell hb
  have q1 := boxCell (hb.alloc (.cells #[.string (bs x.q)] 23))
  obtain ⟨i0, hI, hz0, hz1, hz2⟩ := info_parts strInfo
  have HI := Lib.hid hI
  have HOWN := Lib.hid hown
  have HB := Lib.hid hb
  have HROW := Lib.hid hrow
  have HEX := Lib.hid hext
  have HSS := Lib.hid (set_same hk)
  have hsz := hext.size
  obtain ⟨cur, hrw⟩ := hrow
  have HBG := Lib.hid hrw.blk
  clear hown hb hext hk hx hrw hI hq0 hq1 hq2 hq3 hq4 hq5 hqx hk' hkx
  show Calls Tryz.prog 126 #[.int .i64 (n : Int), .pointer (some ⟨g, k * 7, none⟩), .pointer (some ⟨G, 0, none⟩)] w fun e w' => e = .returned (.tuple #[]) ∧ RowL w' g cap (ls'.set k x) ∧ J1 w0 G ((ofL ls ins).map (·.q)) g (n + 1) w'
  rw [HSS.out]
  go_enter Tryz.func126, Tryz.ntmps126
  go_wp2_with fail
  go_region_law ((refine step_append_lies _ (by rfl) (.tmp 5) (.tmp 10) 99 (by rfl) w0.heap.size 23 i0 _ 1 16 Tryz.underlying99 HI.out hz0 hz1 hz2 rfl (by decide) (.slice A n c) n (scells (((ofL ls ins).map (·.q)).take n)) (by simp [Act.eval]) (own_ext2 HOWN.out ((Ext.refl w).drew.alloc _)) ⟨w.heap.size, 0, none⟩ 1 1 [.string (bs x.q)] (by simp [Act.eval]) rfl (World.news_of_block (heap_alloc_new w.drew _)) (by simp [Value.oneCell']) (by omega) (by simp only [maxLen]; omega) (by omega) (by simp; omega) _ rfl ?_); intro g' cap' w' hown' hgrow hat hlt'; (have hbG : Blk w' G 99 #[.slice A n c] := (hgrow.block G (by have := HB.out.lt; simp; omega) (fun e => own_ne HOWN.out HB.out (by decide) e.symm)).trans (HB.out.drew.alloc _)); (have d0 := boxCell hbG); (have d1 := hbG.frozen 0); (have HW' := Lib.hid hown'); (have HGR := Lib.hid hgrow); (have HBG' := Lib.hid hbG); clear hown' hgrow hat hbG)
  all_goals
    go_wp2_with fail
    go_end0
    refine ⟨rfl, ?_, ?_, .slice (some ⟨g', 0, none⟩) (n + 1) cap', ?_, ?_⟩
    · have hx1 : Ext w (w.drew.alloc (.cells #[.string (bs x.q)] 23)) := (Ext.refl w).drew.alloc _
      obtain ⟨cu, hr⟩ := HROW.out
      have hb1 : Blk w' g 50 cu.toArray := (HGR.out.block g (by have := hr.blk.lt; simp; omega) (fun e => own_ne HOWN.out hr.blk (by decide) e.symm)).trans (hr.blk.ext hx1)
      exact ⟨cu, { hr with blk := hb1.far (p := ⟨G, 0, none⟩) (blk_ne hb1 HBG'.out (by decide)) _ }⟩
    · exact (Ext.grown (HEX.out.trans ((Ext.refl w).drew.alloc _)) HGR.out (own_base HOWN.out)).setCell (p := ⟨G, 0, none⟩) hG _
    · exact HBG'.out.set_ 0 _
    · rw [← HSN.out]
      exact own_set HW'.out (own_ne HW'.out HBG'.out (by decide)) _
end Go.Proofs.YtikehdbkiplleaaGreatDoor

/- The walk over the second closure of the program's average.pool; the pool. -/
namespace Go.Proofs.YtikehdbkiplleaaGreatDoor
open Go.RowKit
attribute [local go_sem] size_bs toList_bs

theorem lots_setc (ls : List LotV) (k : Nat) (x : LotV) (y : Bs) (h : ls[k]? = some x) : lots (ls.set k { x with c := y }) = (lots ls).set (k * 7 + 5) (.string (bs y)) := by
  induction ls generalizing k with
  | nil => simp at h
  | cons z r ih =>
    cases k with
    | zero =>
      simp only [List.getElem?_cons_zero, Option.some.injEq] at h
      subst h
      simp [lots, lotCells]
    | succ k =>
      have := ih k (by simpa using h)
      simp only [lots, List.set_cons_succ, List.flatMap_cons] at this ⊢
      rw [this, List.set_append_right _ _ (by rw [lotCells_len]; omega), lotCells_len]
      congr 2
      omega
theorem RowL.setc {w : World} {g cap : Nat} {ls : List LotV} (h : RowL w g cap ls) {k : Nat} {x : LotV} (hk : ls[k]? = some x) (y : Bs) : RowL (w.setCell ⟨g, k * 7 + 5, none⟩ (.string (bs y))) g cap (ls.set k { x with c := y }) := by
  obtain ⟨cur, h⟩ := h
  have h1 := h.blk.set_ (k * 7 + 5) (.string (bs y))
  rw [List.setIfInBounds_toArray] at h1
  refine ⟨cur.set (k * 7 + 5) (.string (bs y)), h1, by rw [lots_len], by simpa using h.le, h.big, by simpa using h.full, ?_⟩
  rw [List.length_set, List.take_set, h.take, lots_setc ls k x y hk]
set_option maxRecDepth 100000 in
set_option maxHeartbeats 2000000 in
theorem poolStore (w0 : World) (G : Nat) (A : Option Addr) (c : Nat) (ss : List Bs) (ins : Bs) (ls : List LotV) (hb : Blk w0 G 99 #[.slice A ss.length c]) (hA : RdS w0 A ss) (hl : ss.length = (ofL ls ins).length) :
    Does 128 #[.pointer (some ⟨G, 0, none⟩)] (fun n x => { x with c := ss.getD n [] }) (fun _ _ W => Ext w0 W) ins ls w0.heap.size := by
  intro g cap ls' k x n w hg _ hk hx hrow hJ
  have hn : n < ss.length := by rw [hl]; exact (List.getElem?_eq_some_iff.1 hx).1
  obtain ⟨hk', hkx⟩ := List.getElem?_eq_some_iff.1 hk
  obtain ⟨b, o, he, hq0, hq1, hq2, hq3, hq4, hq5, c5, hq6⟩ := hrow.reads.at_ hk'
  injection he with he
  injection he with e1 e2 _
  subst e1 e2
  rw [hkx, Nat.zero_add] at c5
  obtain ⟨b, o, rfl, hbl, s0⟩ := (hA.ext hJ).at_ hn
  have HG : Hid (ss.getD n [] = ss[n]'hn) := Lib.hid (by simp [hn])
  have q0 := boxCell (hb.ext hJ)
  have hf := hrow.frozen (k * 7 + 5)
  have HROW := Lib.hid (hrow.setc hk (ss[n]'hn))
  have HEX := Lib.hid (hJ.setCell (p := ⟨g, k * 7 + 5, none⟩) hg (.string (bs (ss[n]'hn))))
  have hni : (n : Int) < (ss.length : Int) := by omega
  have hn0 : (0 : Int) ≤ (n : Int) := by omega
  clear hb hA hl hk hx hrow hJ hq0 hq1 hq2 hq3 hq4 hq5 hq6 hk' hkx
  show Calls Tryz.prog 128 #[.int .i64 (n : Int), .pointer (some ⟨g, k * 7, none⟩), .pointer (some ⟨G, 0, none⟩)] w fun e w' => e = .returned (.tuple #[]) ∧ RowL w' g cap (ls'.set k { x with c := ss.getD n [] }) ∧ Ext w0 w'
  rw [HG.out]
  generalize ss[n]'hn = y at *
  go_enter Tryz.func128, Tryz.ntmps128
  go_wp2_with fail
  go_end0
  exact ⟨rfl, HROW.out, HEX.out⟩
end Go.Proofs.YtikehdbkiplleaaGreatDoor

/- The walks over the program's average.pool and Pool. -/
namespace Go.Proofs.YtikehdbkiplleaaGreatDoor
open Go.RowKit
attribute [local go_sem] size_bs toList_bs

/-- the quantities of an instrument's lots, the shares of its cost -/
def qsL (ls : List LotV) (ins : Bs) : List Bs := (ofL ls ins).map (·.q)
def shL (ls : List LotV) (ins : Bs) : List Bs := (splitV (totC ls ins) ((qsL ls ins).map valI)).map ofI
def poolV (ls : List LotV) (ins : Bs) : List LotV := if (ofL ls ins).length = 0 then ls else chg (fun n x => { x with c := (shL ls ins).getD n [] }) ins 0 ls
theorem qsL_len (ls : List LotV) (ins : Bs) : (qsL ls ins).length = (ofL ls ins).length := by simp [qsL]
theorem shL_len (ls : List LotV) (ins : Bs) : (shL ls ins).length = (ofL ls ins).length := by simp [shL, splitV_len, qsL_len]
def PoolEnds (ls : List LotV) (ins : Bs) (w : World) (e : Ending) (w' : World) : Prop :=
  ∃ A c, e = .returned (.tuple #[.slice A ls.length c, .int .i64 0]) ∧ RdL w' A (poolV ls ins) ∧ Ext w w'
set_option maxRecDepth 100000 in
set_option maxHeartbeats 2000000 in
theorem avgpool (ls : List LotV) (A : Option Addr) (c : Nat) (ins : Bs) (w : World) (hE : Env w) (hL : LotsAt w A ls) (hW : 0 < (ofL ls ins).length → WtOK (qsL ls ins)) :
    Calls Tryz.prog 74 #[.slice A ls.length c, .string (bs ins)] w (PoolEnds ls ins w) := by
  have HE := Lib.hid hE
  have HL := Lib.hid hL
  have hle := hL.le
  have HX0 : Hid (Ext w (w.alloc (.cells #[.slice none 0 0] 99))) := Lib.hid (Ext.new _ _)
  have HC1 := Lib.hid (avgChange 126 #[.pointer (some ⟨w.heap.size, 0, none⟩)] (fun _ _ => by rfl) (fun _ x => x) (J1 w w.heap.size (qsL ls ins)) ins ls A c (w.alloc (.cells #[.slice none 0 0] 99)) (hL.rd.ext HX0.out) (by omega)
    (fun g W hx _ => ⟨HX0.out.trans hx, _, (Blk.new w _ _).ext hx, ⟨by simp [scells], .inl ⟨rfl, rfl⟩⟩⟩)
    (poolGather w w.heap.size ins ls _ (Nat.le_refl _) (by omega)))
  have HT := Lib.hid (fun W hx => lotTotal ls A c ins W (hE.ext hx) (hL.rd.ext hx) hL.sm hL.le)
  have HTL := Lib.hid (totC_le hL ins)
  have HW := Lib.hid hW
  clear hE hL hW
  go_enter Tryz.func74, Tryz.ntmps74
  go_wp2_with fail
  refine HC1.out.mono ?_
  rintro e w1 ⟨A1, c1, g1, rfl, _, _, _, hx1, v, hb1, hown⟩
  obtain ⟨A2, c2, rfl⟩ := own_slice hown
  have q0 := boxCell hb1
  have HB1 := Lib.hid hb1
  have HOWN := Lib.hid hown
  have HX := Lib.hid hx1
  clear hb1 hown hx1 HC1 HX0
  by_cases h0 : (ofL ls ins).length = 0
  · have HV : Hid (poolV ls ins = ls) := Lib.hid (by unfold poolV; rw [if_pos h0])
    rw [h0] at q0
    clear HOWN HB1
    go_wp2_with fail
    go_ret2
    exact ⟨A, c, rfl, by rw [HV.out]; exact HL.out.rd.ext HX.out, HX.out⟩
  · have HV : Hid (poolV ls ins = chg (fun n x => { x with c := (shL ls ins).getD n [] }) ins 0 ls) := Lib.hid (by unfold poolV; rw [if_neg h0])
    have hg0 : (((ofL ls ins).length : Int) == 0) = false := by rw [beq_eq_false_iff_ne]; omega
    have hwt := HW.out (by omega)
    have hrd : RdS w1 A2 (qsL ls ins) := by
      have h := Reads.own HOWN.out
      rw [List.take_of_length_le (by rw [qsL_len]; exact Nat.le_refl _)] at h
      unfold RdS
      rw [qsL_len]; exact h
    have HSP := Lib.hid (fun W (hx : Ext w1 W) => allSplit (ofI (totC ls ins)) (qsL ls ins) A2 c2 W (HE.out.ext (HX.out.trans hx)) (hrd.ext hx) (by have := HTL.out; omega) (checkI_ofI _) hwt)
    rw [valI_ofI, qsL_len] at HSP
    have HBX : Hid (∀ W, Ext w1 W → W.cell? ⟨w.heap.size, 0, none⟩ = some (.slice A2 (ofL ls ins).length c2)) := Lib.hid (fun W hx => boxCell (HB1.out.ext hx))
    have HXA : Hid (Ext w1 w1) := Lib.hid (Ext.refl _)
    have HPS : Hid (∀ (W : World) (G P : Nat), Ext w1 W → Blk W G 99 #[.slice (some ⟨P, 0, none⟩) (ofL ls ins).length (ofL ls ins).length] → RdS W (some ⟨P, 0, none⟩) (shL ls ins) → Calls Tryz.prog 125 #[.slice A ls.length c, .string (bs ins), .func (.func 128) #[] #[.pointer (some ⟨G, 0, none⟩)]] W (ChgEnds (fun n x => { x with c := (shL ls ins).getD n [] }) (fun _ _ V => Ext W V) ins ls W)) := Lib.hid (fun W G P hx hb hr =>
      avgChange 128 #[.pointer (some ⟨G, 0, none⟩)] (fun _ _ => by rfl) _ _ ins ls A c W (HL.out.rd.ext (HX.out.trans hx)) (by omega) (fun _ V hv _ => hv)
        (poolStore W G (some ⟨P, 0, none⟩) (ofL ls ins).length (shL ls ins) ins ls (by rw [shL_len]; exact hb) hr (shL_len _ _)))
    clear hrd hwt HOWN HB1 HW h0 HTL
    go_wp2_with fail
    refine (HT.out _ HX.out).mono ?_
    rintro e w2 ⟨rfl, hx⟩
    have q1 := HBX.out _ hx
    replace HXA := Lib.hid (HXA.out.trans hx)
    clear hx
    go_wp2_with fail
    refine (HSP.out _ HXA.out).mono ?_
    rintro e w3 ⟨P, rfl, hP, hrow, hx⟩
    replace HXA := Lib.hid (HXA.out.trans hx)
    have HRW := Lib.hid hrow.reads
    clear hx hrow hP
    go_wp2_with fail
    refine (HPS.out _ _ P (HXA.out.trans (Ext.new _ _)) (Blk.new _ _ _) (HRW.out.ext (Ext.new _ _))).mono ?_
    rintro e w4 ⟨A5, c5, g5, rfl, _, hr5, _, hx5⟩
    have HX5 := Lib.hid (HX.out.trans ((HXA.out.trans (Ext.new _ _)).trans hx5))
    have HR5 := Lib.hid hr5
    clear hx5 hr5
    go_wp2_with fail
    go_ret2
    exact ⟨A5, c5, rfl, by rw [HV.out]; exact HR5.out, HX5.out⟩
end Go.Proofs.YtikehdbkiplleaaGreatDoor

/- The walk over the program's average.Pool. -/
namespace Go.Proofs.YtikehdbkiplleaaGreatDoor
open Go.RowKit
attribute [local go_sem] size_bs toList_bs

theorem poolV_len (ls : List LotV) (ins : Bs) : (poolV ls ins).length = ls.length := by
  unfold poolV; split
  · rfl
  · exact chg_len _ _
def PoolOk (ls : List LotV) (ins : Bs) (w : World) (e : Ending) (w' : World) : Prop :=
  ∃ A c, e = .returned (.tuple #[.slice A ls.length c, .int .i64 0]) ∧ RdL w' A (poolV ls ins) ∧ Ext w w'
set_option maxRecDepth 100000 in
set_option maxHeartbeats 2000000 in
theorem avgPool_ok (ls : List LotV) (A : Option Addr) (c : Nat) (ins : Bs) (w : World) (hE : Env w) (hL : LotsAt w A ls) (h0 : avgE ls [] = 0) (hW : 0 < (ofL ls ins).length → WtOK (qsL ls ins)) :
    Calls Tryz.prog 31 #[.slice A ls.length c, .string (bs ins)] w (PoolOk ls ins w) := by
  have HK := Lib.hid (avgCheck ls A none c 0 [] w hE hL Reads.nil (by simp) (by simp))
  rw [h0] at HK
  have HP := Lib.hid (fun W hx => avgpool ls A c ins W (hE.ext hx) (hL.ext hx) hW)
  have hle := hL.le
  have HCL := Lib.hid (fun A' c' W hr => cloneL (poolV ls ins) A' c' W hr (by rw [poolV_len]; omega))
  rw [poolV_len] at HCL
  clear hE hL hW h0
  go_enter Tryz.func31, Tryz.ntmps31
  go_wp2_with fail
  refine HK.out.mono ?_
  rintro e w1 ⟨rfl, hx⟩
  have HX := Lib.hid hx
  clear hx
  go_wp2_with fail
  refine (HP.out _ HX.out).mono ?_
  rintro e w2 ⟨A2, c2, rfl, hr, hx⟩
  replace HX := Lib.hid (HX.out.trans hx)
  have HR := Lib.hid hr
  clear hx hr
  go_wp2_with fail
  refine (HCL.out _ _ _ HR.out).mono ?_
  rintro e w3 ⟨A3, c3, rfl, hx, hrow⟩
  rw [poolV_len] at hrow ⊢
  replace HX := Lib.hid (HX.out.trans hx)
  have HR3 : Hid (RdL w3 A3 (poolV ls ins)) := Lib.hid (by
    rcases Nat.eq_zero_or_pos ls.length with h0 | h0
    · have h1 : poolV ls ins = [] := List.length_eq_zero_iff.1 (by rw [poolV_len]; exact h0)
      rw [h1]; exact Reads.nil
    · obtain ⟨g, rfl, _, hr⟩ := hrow h0
      exact hr.reads)
  clear hx hrow HR
  go_wp2_with fail
  go_ret2
  exact ⟨A3, c3, rfl, HR3.out, HX.out⟩
set_option maxRecDepth 100000 in
theorem avgPool_no (ls : List LotV) (A : Option Addr) (c : Nat) (ins : Bs) (w : World) (hE : Env w) (hL : LotsAt w A ls) (h0 : avgE ls [] ≠ 0) :
    Calls Tryz.prog 31 #[.slice A ls.length c, .string (bs ins)] w fun e w' => e = .returned (.tuple #[.slice none 0 0, .int .i64 (avgE ls [])]) ∧ Ext w w' := by
  have HK := Lib.hid (avgCheck ls A none c 0 [] w hE hL Reads.nil (by simp) (by simp))
  have g : (avgE ls [] != 0) = true := by rw [bne_iff_ne]; exact h0
  clear hE hL h0
  generalize avgE ls [] = k at *
  go_enter Tryz.func31, Tryz.ntmps31
  go_wp2_with fail
  refine HK.out.mono ?_
  rintro e w1 ⟨rfl, hx⟩
  have HX := Lib.hid hx
  clear hx
  go_wp2_with fail
  go_ret2
  exact ⟨rfl, HX.out⟩
end Go.Proofs.YtikehdbkiplleaaGreatDoor

/- The walks over slices.Equal at lots, and over the program's Same of lots. (Printed by eqgenl.py.) -/
namespace Go.Proofs.YtikehdbkiplleaaGreatDoor
open Go.RowKit
attribute [local go_sem] size_bs toList_bs

def EqEnds (p : Prop) (w : World) (e : Ending) (w' : World) : Prop := Ext w w' ∧ ((p ∧ e = .returned (.bool true)) ∨ (¬ p ∧ e = .returned (.bool false)))
theorem bs_ne {a b : Bs} (h : a ≠ b) : (a == b) = false := by rw [beq_eq_false_iff_ne]; exact h
theorem int_ne {a b : Int} (h : a ≠ b) : (a == b) = false := by rw [beq_eq_false_iff_ne]; exact h
theorem same_at {α : Type} {l l' : List α} (hl : l.length = l'.length) (h : ∀ (j : Nat) (h1 : j < l.length) (h2 : j < l'.length), l[j] = l'[j]) : l = l' := List.ext_getElem hl h
theorem step_at {α : Type} {l l' : List α} {k : Nat} (hz : ∀ (j : Nat) (h1 : j < l.length) (h2 : j < l'.length), j < k → l[j] = l'[j]) (h1 : k < l.length) (h2 : k < l'.length) (he : l[k] = l'[k]) : ∀ (j : Nat) (h1 : j < l.length) (h2 : j < l'.length), j < k + 1 → l[j] = l'[j] := by
  intro j a b hj
  rcases Nat.lt_or_ge j k with h | h
  · exact hz j a b h
  · obtain rfl : j = k := by omega
    exact he
theorem extL {a b : LotV} (h0 : a.id = b.id) (h1 : a.ins = b.ins) (h2 : a.acq = b.acq) (h3 : a.opn = b.opn) (h4 : a.q = b.q) (h5 : a.c = b.c) (h6 : a.u = b.u) : a = b := by cases a; cases b; simp_all
set_option maxRecDepth 100000 in
set_option maxHeartbeats 1000000 in
theorem equalL (hs hs' : List LotV) (A A' : Option Addr) (c c' : Nat) (w : World) (hA : RdL w A hs) (hA' : RdL w A' hs') (hn : hs.length ≤ 4611686018427387904) (hn' : hs'.length ≤ 4611686018427387904) :
    Calls Tryz.prog 76 #[.slice A hs.length c, .slice A' hs'.length c'] w (EqEnds (hs = hs') w) := by
  have HA := Lib.hid hA
  have HA' := Lib.hid hA'
  clear hA hA'
  by_cases hl : hs.length = hs'.length
  · have HLL := Lib.hid hl
    have hbl : ((hs.length : Int) != (hs'.length : Int)) = false := by rw [bne_eq_false_iff_eq]; omega
    clear hl
    go_enter Tryz.func76, Tryz.ntmps76
    go_wp2_with fail
    go_loopw [13, 5] (fun i _ wr => ∃ k : Nat, k ≤ hs.length ∧ i = .int .i64 k ∧ (∀ (j : Nat) (h1 : j < hs.length) (h2 : j < hs'.length), j < k → hs[j] = hs'[j]) ∧ Ext w wr) (fun i _ _ => hs.length - (intOf i).toNat)
    case atStart => exact ⟨0, by omega, rfl, fun j _ _ hj => absurd hj (by omega), Ext.refl _⟩
    case round =>
      obtain ⟨k, hk, rfl, hz, hx⟩ := hrel
      have HZ := Lib.hid hz
      have HX := Lib.hid hx
      clear hz hx
      by_cases hlt : k < hs.length
      · have hlt' : k < hs'.length := by have := HLL.out; omega
        obtain ⟨b, o, rfl, hb, hc1, hc2, hc3, hc4, hc5, hc6, hc7⟩ := (HA.out.ext HX.out).at_ hlt
        obtain ⟨b', o', rfl, hb', hd1, hd2, hd3, hd4, hd5, hd6, hd7⟩ := (HA'.out.ext HX.out).at_ hlt'
        by_cases he : hs[k] = hs'[k]
        · have HST := Lib.hid (step_at HZ.out hlt hlt' he)
          rw [← he] at hd1 hd2 hd3 hd4 hd5 hd6 hd7
          generalize (hs[k]'hlt) = h at *
          clear he
          go_wp2_with fail
          go_quiet (fail)
          go_wp2_with fail
          go_roundw
          case rel => exact ⟨k + 1, by omega, by go_num, HST.out, HX.out.drewN _⟩
          case measure => simp [intOf]; omega
        · have HNE : Hid (¬ hs = hs') := Lib.hid (fun e => he (by subst e; rfl))
          have HNC : Hid (¬ ((hs[k]'hlt).id = (hs'[k]'hlt').id ∧ (hs[k]'hlt).ins = (hs'[k]'hlt').ins ∧ (hs[k]'hlt).acq = (hs'[k]'hlt').acq ∧ (hs[k]'hlt).opn = (hs'[k]'hlt').opn ∧ (hs[k]'hlt).q = (hs'[k]'hlt').q ∧ (hs[k]'hlt).c = (hs'[k]'hlt').c ∧ (hs[k]'hlt).u = (hs'[k]'hlt').u)) := Lib.hid (fun hh => he (by obtain ⟨a0, a1, a2, a3, a4, a5, a6⟩ := hh; exact extL a0 a1 a2 a3 a4 a5 a6))
          generalize (hs[k]'hlt) = h at *
          generalize (hs'[k]'hlt') = h' at *
          clear he
          by_cases e0 : h.id = h'.id
          rotate_left
          · have q := bs_ne e0
            clear e0
            go_wp2_with fail
            go_quiet (fail)
            go_wp2_with fail
            go_ret
            exact ⟨HX.out.drewN _, .inr ⟨HNE.out, rfl⟩⟩
          rw [← e0] at hd1
          by_cases e1 : h.ins = h'.ins
          rotate_left
          · have q := bs_ne e1
            clear e1
            go_wp2_with fail
            go_quiet (fail)
            go_wp2_with fail
            go_ret
            exact ⟨HX.out.drewN _, .inr ⟨HNE.out, rfl⟩⟩
          rw [← e1] at hd2
          by_cases e2 : h.acq = h'.acq
          rotate_left
          · have q := int_ne e2
            clear e2
            go_wp2_with fail
            go_quiet (fail)
            go_wp2_with fail
            go_ret
            exact ⟨HX.out.drewN _, .inr ⟨HNE.out, rfl⟩⟩
          rw [← e2] at hd3
          by_cases e3 : h.opn = h'.opn
          rotate_left
          · have q := int_ne e3
            clear e3
            go_wp2_with fail
            go_quiet (fail)
            go_wp2_with fail
            go_ret
            exact ⟨HX.out.drewN _, .inr ⟨HNE.out, rfl⟩⟩
          rw [← e3] at hd4
          by_cases e4 : h.q = h'.q
          rotate_left
          · have q := bs_ne e4
            clear e4
            go_wp2_with fail
            go_quiet (fail)
            go_wp2_with fail
            go_ret
            exact ⟨HX.out.drewN _, .inr ⟨HNE.out, rfl⟩⟩
          rw [← e4] at hd5
          by_cases e5 : h.c = h'.c
          rotate_left
          · have q := bs_ne e5
            clear e5
            go_wp2_with fail
            go_quiet (fail)
            go_wp2_with fail
            go_ret
            exact ⟨HX.out.drewN _, .inr ⟨HNE.out, rfl⟩⟩
          rw [← e5] at hd6
          have e6 : ¬ h.u = h'.u := fun e => HNC.out ⟨e0, e1, e2, e3, e4, e5, e⟩
          have q := bs_ne e6
          clear HNC e0 e1 e2 e3 e4 e5 e6
          go_wp2_with fail
          go_quiet (fail)
          go_wp2_with fail
          go_ret
          exact ⟨HX.out.drewN _, .inr ⟨HNE.out, rfl⟩⟩
      · have HEQ : Hid (hs = hs') := Lib.hid (same_at HLL.out (fun j h1 h2 => HZ.out j h1 h2 (by omega)))
        go_wp2_with fail
        go_ret
        exact ⟨HX.out, .inl ⟨HEQ.out, rfl⟩⟩
  · have HNE : Hid (¬ hs = hs') := Lib.hid (fun e => hl (by rw [e]))
    have hbl : ((hs.length : Int) != (hs'.length : Int)) = true := by rw [bne_iff_ne]; omega
    clear hl
    go_enter Tryz.func76, Tryz.ntmps76
    go_wp2_with fail
    go_ret
    exact ⟨Ext.refl _, .inr ⟨HNE.out, rfl⟩⟩
instance : DecidableEq LotV := fun a b => by
  by_cases h : (a.id = b.id ∧ a.ins = b.ins ∧ a.acq = b.acq ∧ a.opn = b.opn ∧ a.q = b.q ∧ a.c = b.c ∧ a.u = b.u)
  · exact isTrue (by obtain ⟨h0, h1, h2, h3, h4, h5, h6⟩ := h; exact extL h0 h1 h2 h3 h4 h5 h6)
  · exact isFalse (by rintro rfl; exact h ⟨rfl, rfl, rfl, rfl, rfl, rfl, rfl⟩)
set_option maxRecDepth 100000 in
theorem lotSame (hs hs' : List LotV) (A A' : Option Addr) (c c' : Nat) (w : World) (hA : RdL w A hs) (hA' : RdL w A' hs') (hn : hs.length ≤ 4611686018427387904) (hn' : hs'.length ≤ 4611686018427387904) :
    Calls Tryz.prog 37 #[.slice A hs.length c, .slice A' hs'.length c'] w fun e w' => e = .returned (.bool (decide (hs = hs'))) ∧ Ext w w' := by
  have HQ := Lib.hid ((equalL hs hs' A A' c c' w hA hA' hn hn').mono (R' := fun e w' => e = .returned (.bool (decide (hs = hs'))) ∧ Ext w w') (by
    rintro e w' ⟨hx, ⟨h, rfl⟩ | ⟨h, rfl⟩⟩
    · exact ⟨by simp [h], hx⟩
    · exact ⟨by simp [h], hx⟩))
  clear hA hA' hn hn'
  generalize decide (hs = hs') = z at *
  go_enter Tryz.func37, Tryz.ntmps37
  go_wp2_with fail
  refine HQ.out.mono ?_
  rintro e w1 ⟨rfl, hx⟩
  have HX := Lib.hid hx
  clear hx
  go_wp2_with fail
  go_ret
  exact ⟨rfl, HX.out⟩
end Go.Proofs.YtikehdbkiplleaaGreatDoor

/- The walk over the program's average.Pooled. -/
namespace Go.Proofs.YtikehdbkiplleaaGreatDoor
open Go.RowKit
attribute [local go_sem] size_bs toList_bs

set_option maxRecDepth 100000 in
set_option maxHeartbeats 2000000 in
theorem avgPooled_ok (ls : List LotV) (A : Option Addr) (c : Nat) (ins : Bs) (w : World) (hE : Env w) (hL : LotsAt w A ls) (h0 : avgE ls [] = 0) (hW : 0 < (ofL ls ins).length → WtOK (qsL ls ins)) :
    Calls Tryz.prog 34 #[.slice A ls.length c, .string (bs ins)] w fun e w' => e = .returned (.tuple #[.bool (decide (poolV ls ins = ls)), .int .i64 0]) ∧ Ext w w' := by
  have HK := Lib.hid (avgCheck ls A none c 0 [] w hE hL Reads.nil (by simp) (by simp))
  rw [h0] at HK
  have HP := Lib.hid (fun W hx => avgpool ls A c ins W (hE.ext hx) (hL.ext hx) hW)
  have hle := hL.le
  have HSM := Lib.hid (fun A' c' W (hx : Ext w W) hr => lotSame (poolV ls ins) ls A' A c' c W hr (hL.rd.ext hx) (by rw [poolV_len]; omega) (by omega))
  rw [poolV_len] at HSM
  clear hE hL hW h0
  generalize decide (poolV ls ins = ls) = z at *
  go_enter Tryz.func34, Tryz.ntmps34
  go_wp2_with fail
  refine HK.out.mono ?_
  rintro e w1 ⟨rfl, hx⟩
  have HX := Lib.hid hx
  clear hx
  go_wp2_with fail
  refine (HP.out _ HX.out).mono ?_
  rintro e w2 ⟨A2, c2, rfl, hr, hx⟩
  replace HX := Lib.hid (HX.out.trans hx)
  have HR := Lib.hid hr
  clear hx hr
  go_wp2_with fail
  refine (HSM.out _ _ _ HX.out HR.out).mono ?_
  rintro e w3 ⟨rfl, hx⟩
  replace HX := Lib.hid (HX.out.trans hx)
  clear hx HR
  go_wp2_with fail
  go_ret2
  exact ⟨rfl, HX.out⟩
set_option maxRecDepth 100000 in
theorem avgPooled_no (ls : List LotV) (A : Option Addr) (c : Nat) (ins : Bs) (w : World) (hE : Env w) (hL : LotsAt w A ls) (h0 : avgE ls [] ≠ 0) :
    Calls Tryz.prog 34 #[.slice A ls.length c, .string (bs ins)] w fun e w' => e = .returned (.tuple #[.bool false, .int .i64 (avgE ls [])]) ∧ Ext w w' := by
  have HK := Lib.hid (avgCheck ls A none c 0 [] w hE hL Reads.nil (by simp) (by simp))
  have g : (avgE ls [] != 0) = true := by rw [bne_iff_ne]; exact h0
  clear hE hL h0
  generalize avgE ls [] = k at *
  go_enter Tryz.func34, Tryz.ntmps34
  go_wp2_with fail
  refine HK.out.mono ?_
  rintro e w1 ⟨rfl, hx⟩
  have HX := Lib.hid hx
  clear hx
  go_wp2_with fail
  go_ret2
  exact ⟨rfl, HX.out⟩
end Go.Proofs.YtikehdbkiplleaaGreatDoor

/- Plain: valid lots have valid weights. The reference's small tests of integers and days. -/
namespace Go.Proofs.YtikehdbkiplleaaGreatDoor
open Go.RowKit
attribute [local go_sem] size_bs toList_bs

theorem goAll_ok (seen : List Bs) (ls : List LotV) (h : goAll seen ls = 0) : ∀ x ∈ ls, checkL x = 0 := by
  induction ls generalizing seen with
  | nil => intro x hx; cases hx
  | cons y r ih =>
    unfold goAll at h
    split at h
    · rename_i hc; exact absurd h hc
    · rename_i hc
      split at h
      · cases h
      · intro x hx
        rcases List.mem_cons.1 hx with rfl | hx
        · exact Decidable.not_not.1 hc
        · exact ih _ h x hx
theorem checkAllL_ok {ls : List LotV} (h : checkAllL ls = 0) : ls.length ≤ 1000 ∧ ∀ x ∈ ls, checkL x = 0 := by
  unfold checkAllL at h
  split at h
  · cases h
  · exact ⟨by omega, goAll_ok _ _ h⟩
theorem checkL_ok {x : LotV} (h : checkL x = 0) : checkI x.q = 0 ∧ checkI x.c = 0 ∧ 0 < valI x.q ∧ 0 ≤ valI x.c ∧ (x.u = [] ∨ x.u = x.q) := by
  unfold checkL at h
  split at h
  · cases h
  split at h
  · cases h
  split at h
  · cases h
  split at h
  · cases h
  split at h
  · cases h
  rename_i h4 h5
  simp only [not_or, Decidable.not_not] at h4 h5
  refine ⟨h4.1, h4.2.1, by omega, by omega, ?_⟩
  by_cases hu : x.u = []
  · exact .inl hu
  · exact .inr (Decidable.not_not.1 (fun hq => h5.2.2 ⟨hu, hq⟩))
theorem sum_pos (l : List Int) (h : ∀ x ∈ l, 0 < x) (hl : 0 < l.length) : 0 < l.sum := by
  cases l with
  | nil => simp at hl
  | cons a r =>
    rw [List.sum_cons]
    have := h a (by simp)
    have := sum_nonneg r (fun x hx => Int.le_of_lt (h x (by simp [hx])))
    omega
theorem wt_ok {ls : List LotV} (ins : Bs) (hs : ∀ x ∈ ls, SmallL x) (h : checkAllL ls = 0) (hl : 0 < (ofL ls ins).length) : WtOK (qsL ls ins) := by
  obtain ⟨h1, h2⟩ := checkAllL_ok h
  have hm : ∀ x ∈ qsL ls ins, ∃ y ∈ ls, y.q = x := by
    intro x hx
    obtain ⟨y, hy, rfl⟩ := List.mem_map.1 hx
    exact ⟨y, (List.mem_filter.1 hy).1, rfl⟩
  have hle : (ofL ls ins).length ≤ ls.length := List.length_filter_le _ _
  refine ⟨by rw [qsL_len]; exact hl, by rw [qsL_len]; omega, ?_, ?_, ?_, ?_⟩
  · intro x hx; obtain ⟨y, hy, rfl⟩ := hm x hx; have := (hs y hy).2.2.1; omega
  · intro x hx; obtain ⟨y, hy, rfl⟩ := hm x hx; exact (checkL_ok (h2 y hy)).1
  · intro x hx; obtain ⟨y, hy, rfl⟩ := hm x hx; exact Int.le_of_lt (checkL_ok (h2 y hy)).2.2.1
  · refine sum_pos _ ?_ (by rw [List.length_map, qsL_len]; exact hl)
    intro v hv
    obtain ⟨x, hx, rfl⟩ := List.mem_map.1 hv
    obtain ⟨y, hy, rfl⟩ := hm x hx
    exact (checkL_ok (h2 y hy)).2.2.1
set_option maxRecDepth 100000 in
theorem refLong (a : Bs) (w : World) : Calls Tryz.prog 11 #[.string (bs a)] w fun e w' => e = .returned (.bool (decide (13 < (a.length : Int)))) ∧ w' = w := by
  go_enter Tryz.func11, Tryz.ntmps11
  go_wp2_with fail
  go_ret
  exact ⟨rfl, rfl⟩
set_option maxRecDepth 100000 in
theorem refDay (d : Int) (w : World) : Calls Tryz.prog 83 #[.int .i64 d] w fun e w' => e = .returned (.bool (dayOK d)) ∧ w' = w := by
  by_cases h1 : -25567 ≤ d
  · by_cases h2 : d ≤ 84005
    · have HD : Hid (dayOK d = true) := Lib.hid (by simp [dayOK, h1, h2])
      go_enter Tryz.func83, Tryz.ntmps83
      go_wp2_with fail
      go_ret
      exact ⟨by rw [HD.out]; rfl, rfl⟩
    · have HD : Hid (dayOK d = false) := Lib.hid (by simp [dayOK, h1, h2])
      go_enter Tryz.func83, Tryz.ntmps83
      go_wp2_with fail
      go_ret
      exact ⟨by rw [HD.out]; rfl, rfl⟩
  · have HD : Hid (dayOK d = false) := Lib.hid (by simp [dayOK, h1])
    go_enter Tryz.func83, Tryz.ntmps83
    go_wp2_with fail
    go_ret
    exact ⟨by rw [HD.out]; rfl, rfl⟩
end Go.Proofs.YtikehdbkiplleaaGreatDoor

/- The reference's tests: an integer, a number, an id of a lot. -/
namespace Go.Proofs.YtikehdbkiplleaaGreatDoor
open Go.RowKit
attribute [local go_sem] size_bs toList_bs extract_bs get_bs append_bs lit_append append_lit

theorem takeD_succ (l : Bs) (k : Nat) (hlt : k < l.length) (h : (l.take k).all isD = true) (hk : isD (l[k]'hlt) = true) : (l.take (k + 1)).all isD = true := by
  rw [List.take_succ_eq_append_getElem hlt, List.all_append, h]; simp [hk]
theorem numOK_bad_at (l : Bs) (k : Nat) (hlt : k < l.length) (hk : isD (l[k]'hlt) = false) : numOK l = false := by
  unfold numOK
  have : l.all isD = false := by
    rw [List.all_eq_false]
    exact ⟨_, List.getElem_mem hlt, by rw [hk]; simp⟩
  rw [this]; simp
set_option maxRecDepth 100000 in
set_option maxHeartbeats 400000 in
theorem refNumber (l : Bs) (w : World) (hs : l.length ≤ 1000000) : Calls Tryz.prog 134 #[.string (bs l)] w fun e w' => e = .returned (.bool (numOK l)) ∧ w' = w := by
  by_cases h1 : l.length < 1
  · have HN : Hid (numOK l = false) := Lib.hid (by unfold numOK; simp [show ¬ 1 ≤ l.length by omega])
    have g1 : decide ((l.length : Int) < 1) = true := by simp; omega
    go_enter Tryz.func134, Tryz.ntmps134
    go_wp2_with fail
    go_ret
    exact ⟨by rw [HN.out]; rfl, rfl⟩
  by_cases h4 : 4 < l.length
  · have HN : Hid (numOK l = false) := Lib.hid (by unfold numOK; simp [show ¬ l.length ≤ 4 by omega])
    have g1 : decide ((l.length : Int) < 1) = false := by simp; omega
    have g2 : decide (4 < (l.length : Int)) = true := by simp; omega
    go_enter Tryz.func134, Tryz.ntmps134
    go_wp2_with fail
    go_ret
    exact ⟨by rw [HN.out]; rfl, rfl⟩
  have h0 : 0 < l.length := by omega
  have g1 : decide ((l.length : Int) < 1) = false := by simp; omega
  have g2 : decide (4 < (l.length : Int)) = false := by simp; omega
  have hh : l.headD 48 = l[0]'h0 := by cases l with
    | nil => simp at h0
    | cons c r => rfl
  by_cases hz : l[0]'h0 = 48
  · have HN : Hid (numOK l = false) := Lib.hid (by unfold numOK; rw [hh, hz]; simp)
    have g3 : (((l[0]'h0).toNat : Int) == 48) = true := by rw [hz]; rfl
    clear hz hh
    go_enter Tryz.func134, Tryz.ntmps134
    go_wp2_with fail
    go_ret
    exact ⟨by rw [HN.out]; rfl, rfl⟩
  · have g3 : (((l[0]'h0).toNat : Int) == 48) = false := by
      rw [beq_eq_false_iff_ne]; intro e; apply hz; apply UInt8.toNat_inj.1; show _ = 48; omega
    have HFIN : Hid (l.all isD = true → numOK l = true) := Lib.hid (fun h => by unfold numOK; rw [hh, h]; simp [hz]; omega)
    clear hz hh
    go_enter Tryz.func134, Tryz.ntmps134
    go_wp2_with fail
    go_loop [3] (fun i => ∃ k : Nat, k ≤ l.length ∧ i = .int .i64 k ∧ (l.take k).all isD = true) (fun i => l.length - (intOf i).toNat)
    case atStart => exact ⟨0, Nat.zero_le _, rfl, rfl⟩
    case round =>
      obtain ⟨k, hk, rfl, hd⟩ := hrel
      have HD := Lib.hid hd
      clear hd g3
      by_cases hlt : k < l.length
      · by_cases hc1 : ((l[k]'hlt).toNat : Int) < 48
        · have HN := Lib.hid (numOK_bad_at l k hlt (by rw [← Bool.not_eq_true, isD_iff]; omega))
          have g5 : decide (((l[k]'hlt).toNat : Int) < 48) = true := by simp [hc1]
          go_wp2_with fail
          go_ret
          exact ⟨by rw [HN.out]; rfl, rfl⟩
        · have g5 : decide (((l[k]'hlt).toNat : Int) < 48) = false := by simp; omega
          by_cases hc2 : 57 < ((l[k]'hlt).toNat : Int)
          · have HN := Lib.hid (numOK_bad_at l k hlt (by rw [← Bool.not_eq_true, isD_iff]; omega))
            have g6 : decide (57 < ((l[k]'hlt).toNat : Int)) = true := by simp [hc2]
            go_wp2_with fail
            go_ret
            exact ⟨by rw [HN.out]; rfl, rfl⟩
          · have g6 : decide (57 < ((l[k]'hlt).toNat : Int)) = false := by simp; omega
            have HT := Lib.hid (takeD_succ l k hlt HD.out ((isD_iff _).2 (by omega)))
            clear hc1 hc2
            go_wp2_with fail
            go_round
            case rel => exact ⟨k + 1, by omega, by go_num, HT.out⟩
            case measure => simp [intOf]; omega
      · have HN := Lib.hid (HFIN.out (by have := HD.out; rwa [List.take_of_length_le (by omega)] at this))
        go_wp2_with fail
        go_ret
        exact ⟨by rw [HN.out]; rfl, rfl⟩
end Go.Proofs.YtikehdbkiplleaaGreatDoor

/- The reference's test of a lot's id. -/
namespace Go.Proofs.YtikehdbkiplleaaGreatDoor
open Go.RowKit
attribute [local go_sem] size_bs toList_bs extract_bs get_bs append_bs lit_append append_lit

theorem cut47_at (l : Bs) (k : Nat) (hlt : k < l.length) (h : ∀ x ∈ l.take k, x ≠ 47) (hk : l[k]'hlt = 47) : cut47 l = (l.take k, l.drop (k + 1)) := by
  induction l generalizing k with
  | nil => simp at hlt
  | cons c r ih =>
    cases k with
    | zero => simp only [List.getElem_cons_zero] at hk; unfold cut47; simp [hk]
    | succ k =>
      have hc : c ≠ 47 := h c (by simp)
      unfold cut47
      rw [if_neg hc, ih k (by simpa using hlt) (fun x hx => h x (by simp [hx])) (by simpa using hk)]
      simp
theorem cut47_none (l : Bs) (h : ∀ x ∈ l, x ≠ 47) : cut47 l = (l, []) := by
  induction l with
  | nil => rfl
  | cons c r ih => unfold cut47; rw [if_neg (h c (by simp)), ih (fun x hx => h x (by simp [hx]))]
set_option maxRecDepth 100000 in
set_option maxHeartbeats 1000000 in
theorem refId (l : Bs) (w : World) (hs : l.length ≤ 1000000) : Calls Tryz.prog 81 #[.string (bs l)] w fun e w' => e = .returned (.bool (isId l)) ∧ w' = w := by
  go_enter Tryz.func81, Tryz.ntmps81
  go_wp2_with fail
  go_loop [3] (fun i => ∃ k : Nat, k ≤ l.length ∧ i = .int .i64 k ∧ (∀ x ∈ l.take k, x ≠ 47)) (fun i => l.length - (intOf i).toNat)
  case atStart => exact ⟨0, Nat.zero_le _, rfl, by simp⟩
  case round =>
    obtain ⟨k, hk, rfl, hd⟩ := hrel
    have HD := Lib.hid hd
    clear hd
    by_cases hlt : k < l.length
    · by_cases hc : l[k]'hlt = 47
      · have g : (((l[k]'hlt).toNat : Int) == 47) = true := by rw [hc]; rfl
        have HI : Hid (isId l = (isName (l.take k) && numOK (l.drop (k + 1)))) := Lib.hid (by unfold isId; rw [cut47_at l k hlt HD.out hc])
        have HN := Lib.hid (refName (l.take k) w (by rw [List.length_take]; omega))
        have HU := Lib.hid (refNumber (l.drop (k + 1)) w (by rw [List.length_drop]; omega))
        clear hc
        generalize numOK (l.drop (k + 1)) = z2 at *
        cases hz : isName (l.take k)
        · rw [hz] at HN HI
          clear hz HU
          go_wp2_with fail
          refine HN.out.mono ?_
          rintro e w1 ⟨rfl, rfl⟩
          go_wp2_with fail
          go_ret
          exact ⟨by rw [HI.out]; rfl, rfl⟩
        · rw [hz] at HN HI
          clear hz
          go_wp2_with fail
          refine HN.out.mono ?_
          rintro e w1 ⟨rfl, rfl⟩
          go_wp2_with fail
          rw [show (l.drop (k + 1)).take (l.length - (k + 1)) = l.drop (k + 1) from List.take_of_length_le (by rw [List.length_drop]; exact Nat.le_refl _)]
          refine HU.out.mono ?_
          rintro e w1 ⟨rfl, rfl⟩
          go_wp2_with fail
          go_ret
          exact ⟨by rw [HI.out]; rfl, rfl⟩
      · have g : (((l[k]'hlt).toNat : Int) == 47) = false := by
          rw [beq_eq_false_iff_ne]; intro e; apply hc; apply UInt8.toNat_inj.1; show _ = 47; omega
        have HT : Hid (∀ x ∈ l.take (k + 1), x ≠ 47) := Lib.hid (by
          intro x hx
          rw [List.take_succ_eq_append_getElem hlt] at hx
          rcases List.mem_append.1 hx with h | h
          · exact HD.out x h
          · rw [List.mem_singleton.1 h]; exact hc)
        clear hc
        go_wp2_with fail
        go_round
        case rel => exact ⟨k + 1, by omega, by go_num, HT.out⟩
        case measure => simp [intOf]; omega
    · have HI : Hid (isId l = false) := Lib.hid (by
        have h := HD.out
        rw [List.take_of_length_le (by omega)] at h
        unfold isId
        rw [cut47_none l h]
        simp [numOK])
      go_wp2_with fail
      go_ret
      exact ⟨by rw [HI.out]; rfl, rfl⟩
end Go.Proofs.YtikehdbkiplleaaGreatDoor

/- The reference's Check of a lot. -/
namespace Go.Proofs.YtikehdbkiplleaaGreatDoor
open Go.RowKit
attribute [local go_sem] size_bs toList_bs

set_option maxRecDepth 100000 in
set_option maxHeartbeats 4000000 in
theorem refLotCheck (x : LotV) (hs : SmallL x) (w : World) : Calls Tryz.prog 45 #[lv x] w fun e w' => e = .returned (.int .i64 (checkL x)) ∧ Ext w w' := by
  obtain ⟨s1, s2, s3, s4, s5⟩ := hs
  have HK := Lib.hid (ckL x)
  generalize checkL x = r at *
  have HX : Hid (Ext w (w.alloc (.cells (lc x) 50))) := Lib.hid (Ext.new _ _)
  have hb := Blk.new w 50 (lc x)
  obtain ⟨c0, c1, c2, c3, c4, c5, c6⟩ := lotBlk hb (Ext.refl _)
  have H1 := Lib.hid (refId x.id (w.alloc (.cells (lc x) 50)) (by omega))
  have H2 := Lib.hid (refName x.ins (w.alloc (.cells (lc x) 50)) (by omega))
  have H3 := Lib.hid (refDay x.acq (w.alloc (.cells (lc x) 50)))
  have H4 := Lib.hid (refDay x.opn (w.alloc (.cells (lc x) 50)))
  have H5 := Lib.hid (refCheckI x.q (w.alloc (.cells (lc x) 50)) (by omega))
  have H6 := Lib.hid (refCheckI x.c (w.alloc (.cells (lc x) 50)) (by omega))
  have H7 := Lib.hid (refCheckI x.u (w.alloc (.cells (lc x) 50)) (by omega))
  have H8 := Lib.hid (refSign x.q (w.alloc (.cells (lc x) 50)) (by omega))
  have H9 := Lib.hid (refSign x.c (w.alloc (.cells (lc x) 50)) (by omega))
  clear hb s1 s2 s3 s4 s5
  cases e1 : isId x.id
  · rw [e1] at H1
    have HR := Lib.hid (HK.out.k1 e1)
    clear e1 HK
    go_enter Tryz.func45, Tryz.ntmps45
    go_wp2_with fail; refine (Hid.out H1).mono ?_; rintro e w1 ⟨h1, h2⟩; subst h1; subst h2
    go_wp2_with fail
    go_ret
    exact ⟨by rw [HR.out]; rfl, HX.out⟩
  cases e2 : isName x.ins
  · rw [e1] at H1
    rw [e2] at H2
    have HR := Lib.hid (HK.out.k2 e1 e2)
    clear e1 e2 HK
    go_enter Tryz.func45, Tryz.ntmps45
    go_wp2_with fail; refine (Hid.out H1).mono ?_; rintro e w1 ⟨h1, h2⟩; subst h1; subst h2
    go_wp2_with fail; refine (Hid.out H2).mono ?_; rintro e w1 ⟨h1, h2⟩; subst h1; subst h2
    go_wp2_with fail
    go_ret
    exact ⟨by rw [HR.out]; rfl, HX.out⟩
  cases e3 : dayOK x.acq
  · rw [e1] at H1
    rw [e2] at H2
    rw [e3] at H3
    have HR := Lib.hid (HK.out.k3 e1 e2 e3)
    clear e1 e2 e3 HK
    go_enter Tryz.func45, Tryz.ntmps45
    go_wp2_with fail; refine (Hid.out H1).mono ?_; rintro e w1 ⟨h1, h2⟩; subst h1; subst h2
    go_wp2_with fail; refine (Hid.out H2).mono ?_; rintro e w1 ⟨h1, h2⟩; subst h1; subst h2
    go_wp2_with fail; refine (Hid.out H3).mono ?_; rintro e w1 ⟨h1, h2⟩; subst h1; subst h2
    go_wp2_with fail
    go_ret
    exact ⟨by rw [HR.out]; rfl, HX.out⟩
  cases e4 : dayOK x.opn
  · rw [e1] at H1
    rw [e2] at H2
    rw [e3] at H3
    rw [e4] at H4
    have HR := Lib.hid (HK.out.k4 e1 e2 e3 e4)
    clear e1 e2 e3 e4 HK
    go_enter Tryz.func45, Tryz.ntmps45
    go_wp2_with fail; refine (Hid.out H1).mono ?_; rintro e w1 ⟨h1, h2⟩; subst h1; subst h2
    go_wp2_with fail; refine (Hid.out H2).mono ?_; rintro e w1 ⟨h1, h2⟩; subst h1; subst h2
    go_wp2_with fail; refine (Hid.out H3).mono ?_; rintro e w1 ⟨h1, h2⟩; subst h1; subst h2
    go_wp2_with fail; refine (Hid.out H4).mono ?_; rintro e w1 ⟨h1, h2⟩; subst h1; subst h2
    go_wp2_with fail
    go_ret
    exact ⟨by rw [HR.out]; rfl, HX.out⟩
  rw [e1] at H1
  rw [e2] at H2
  rw [e3] at H3
  rw [e4] at H4
  by_cases e5 : x.opn < x.acq
  · have g5 : decide (x.opn < x.acq) = true := by simp [e5]
    have HR := Lib.hid (HK.out.k5 e1 e2 e3 e4 e5)
    clear HK e1 e2 e3 e4 e5
    go_enter Tryz.func45, Tryz.ntmps45
    go_wp2_with fail; refine (Hid.out H1).mono ?_; rintro e w1 ⟨h1, h2⟩; subst h1; subst h2
    go_wp2_with fail; refine (Hid.out H2).mono ?_; rintro e w1 ⟨h1, h2⟩; subst h1; subst h2
    go_wp2_with fail; refine (Hid.out H3).mono ?_; rintro e w1 ⟨h1, h2⟩; subst h1; subst h2
    go_wp2_with fail; refine (Hid.out H4).mono ?_; rintro e w1 ⟨h1, h2⟩; subst h1; subst h2
    go_wp2_with fail
    go_ret
    exact ⟨by rw [HR.out]; rfl, HX.out⟩
  have g5 : decide (x.opn < x.acq) = false := by simp; omega
  by_cases e6 : checkI x.q ≠ 0
  · have g6 : (checkI x.q != 0) = true := by rw [bne_iff_ne]; exact e6
    have HR := Lib.hid (HK.out.k6 e1 e2 e3 e4 e5 (.inl e6))
    generalize checkI x.q = zz at *
    clear HK e1 e2 e3 e4 e5 e6
    go_enter Tryz.func45, Tryz.ntmps45
    go_wp2_with fail; refine (Hid.out H1).mono ?_; rintro e w1 ⟨h1, h2⟩; subst h1; subst h2
    go_wp2_with fail; refine (Hid.out H2).mono ?_; rintro e w1 ⟨h1, h2⟩; subst h1; subst h2
    go_wp2_with fail; refine (Hid.out H3).mono ?_; rintro e w1 ⟨h1, h2⟩; subst h1; subst h2
    go_wp2_with fail; refine (Hid.out H4).mono ?_; rintro e w1 ⟨h1, h2⟩; subst h1; subst h2
    go_wp2_with fail; refine (Hid.out H5).mono ?_; rintro e w1 ⟨h1, h2⟩; subst h1; subst h2
    go_wp2_with fail
    go_ret
    exact ⟨by rw [HR.out]; rfl, HX.out⟩
  have e6q : checkI x.q = 0 := Decidable.not_not.1 e6
  rw [e6q] at H5
  clear e6
  by_cases e6 : checkI x.c ≠ 0
  · have g6 : (checkI x.c != 0) = true := by rw [bne_iff_ne]; exact e6
    have HR := Lib.hid (HK.out.k6 e1 e2 e3 e4 e5 (.inr (.inl e6)))
    generalize checkI x.c = zz at *
    clear HK e1 e2 e3 e4 e5 e6 e6q
    go_enter Tryz.func45, Tryz.ntmps45
    go_wp2_with fail; refine (Hid.out H1).mono ?_; rintro e w1 ⟨h1, h2⟩; subst h1; subst h2
    go_wp2_with fail; refine (Hid.out H2).mono ?_; rintro e w1 ⟨h1, h2⟩; subst h1; subst h2
    go_wp2_with fail; refine (Hid.out H3).mono ?_; rintro e w1 ⟨h1, h2⟩; subst h1; subst h2
    go_wp2_with fail; refine (Hid.out H4).mono ?_; rintro e w1 ⟨h1, h2⟩; subst h1; subst h2
    go_wp2_with fail; refine (Hid.out H5).mono ?_; rintro e w1 ⟨h1, h2⟩; subst h1; subst h2
    go_wp2_with fail; refine (Hid.out H6).mono ?_; rintro e w1 ⟨h1, h2⟩; subst h1; subst h2
    go_wp2_with fail
    go_ret
    exact ⟨by rw [HR.out]; rfl, HX.out⟩
  have e6c : checkI x.c = 0 := Decidable.not_not.1 e6
  rw [e6c] at H6
  clear e6
  by_cases e6 : checkI x.u ≠ 0
  · have g6 : (checkI x.u != 0) = true := by rw [bne_iff_ne]; exact e6
    have HR := Lib.hid (HK.out.k6 e1 e2 e3 e4 e5 (.inr (.inr e6)))
    generalize checkI x.u = zz at *
    clear HK e1 e2 e3 e4 e5 e6 e6q e6c
    go_enter Tryz.func45, Tryz.ntmps45
    go_wp2_with fail; refine (Hid.out H1).mono ?_; rintro e w1 ⟨h1, h2⟩; subst h1; subst h2
    go_wp2_with fail; refine (Hid.out H2).mono ?_; rintro e w1 ⟨h1, h2⟩; subst h1; subst h2
    go_wp2_with fail; refine (Hid.out H3).mono ?_; rintro e w1 ⟨h1, h2⟩; subst h1; subst h2
    go_wp2_with fail; refine (Hid.out H4).mono ?_; rintro e w1 ⟨h1, h2⟩; subst h1; subst h2
    go_wp2_with fail; refine (Hid.out H5).mono ?_; rintro e w1 ⟨h1, h2⟩; subst h1; subst h2
    go_wp2_with fail; refine (Hid.out H6).mono ?_; rintro e w1 ⟨h1, h2⟩; subst h1; subst h2
    go_wp2_with fail; refine (Hid.out H7).mono ?_; rintro e w1 ⟨h1, h2⟩; subst h1; subst h2
    go_wp2_with fail
    go_ret
    exact ⟨by rw [HR.out]; rfl, HX.out⟩
  have e6u : checkI x.u = 0 := Decidable.not_not.1 e6
  rw [e6u] at H7
  clear e6
  have e6 : ¬ (checkI x.q ≠ 0 ∨ checkI x.c ≠ 0 ∨ checkI x.u ≠ 0) := by rintro (h | h | h) <;> contradiction
  clear e6q e6c e6u
  by_cases e7 : valI x.q ≤ 0
  · have g7 : decide (cmpI (valI x.q) 0 ≤ 0) = true := by rw [decide_eq_true_iff]; have := cmpI_pos (x := valI x.q) (y := 0); omega
    have HR := Lib.hid (HK.out.k7 e1 e2 e3 e4 e5 e6 (.inl e7))
    generalize cmpI (valI x.q) 0 = zz at *
    clear HK e1 e2 e3 e4 e5 e6 e7
    go_enter Tryz.func45, Tryz.ntmps45
    go_wp2_with fail; refine (Hid.out H1).mono ?_; rintro e w1 ⟨h1, h2⟩; subst h1; subst h2
    go_wp2_with fail; refine (Hid.out H2).mono ?_; rintro e w1 ⟨h1, h2⟩; subst h1; subst h2
    go_wp2_with fail; refine (Hid.out H3).mono ?_; rintro e w1 ⟨h1, h2⟩; subst h1; subst h2
    go_wp2_with fail; refine (Hid.out H4).mono ?_; rintro e w1 ⟨h1, h2⟩; subst h1; subst h2
    go_wp2_with fail; refine (Hid.out H5).mono ?_; rintro e w1 ⟨h1, h2⟩; subst h1; subst h2
    go_wp2_with fail; refine (Hid.out H6).mono ?_; rintro e w1 ⟨h1, h2⟩; subst h1; subst h2
    go_wp2_with fail; refine (Hid.out H7).mono ?_; rintro e w1 ⟨h1, h2⟩; subst h1; subst h2
    go_wp2_with fail; refine (Hid.out H8).mono ?_; rintro e w1 ⟨h1, h2⟩; subst h1; subst h2
    go_wp2_with fail
    go_ret
    exact ⟨by rw [HR.out]; rfl, HX.out⟩
  have g7 : decide (cmpI (valI x.q) 0 ≤ 0) = false := by rw [decide_eq_false_iff_not]; have := cmpI_pos (x := valI x.q) (y := 0); omega
  generalize cmpI (valI x.q) 0 = zz at *
  by_cases e8 : valI x.c < 0
  · have g8 : decide (cmpI (valI x.c) 0 < 0) = true := by rw [decide_eq_true_iff]; exact cmpI_neg.2 e8
    have HR := Lib.hid (HK.out.k7 e1 e2 e3 e4 e5 e6 (.inr (.inl e8)))
    generalize cmpI (valI x.c) 0 = zy at *
    clear HK e1 e2 e3 e4 e5 e6 e7 e8
    go_enter Tryz.func45, Tryz.ntmps45
    go_wp2_with fail; refine (Hid.out H1).mono ?_; rintro e w1 ⟨h1, h2⟩; subst h1; subst h2
    go_wp2_with fail; refine (Hid.out H2).mono ?_; rintro e w1 ⟨h1, h2⟩; subst h1; subst h2
    go_wp2_with fail; refine (Hid.out H3).mono ?_; rintro e w1 ⟨h1, h2⟩; subst h1; subst h2
    go_wp2_with fail; refine (Hid.out H4).mono ?_; rintro e w1 ⟨h1, h2⟩; subst h1; subst h2
    go_wp2_with fail; refine (Hid.out H5).mono ?_; rintro e w1 ⟨h1, h2⟩; subst h1; subst h2
    go_wp2_with fail; refine (Hid.out H6).mono ?_; rintro e w1 ⟨h1, h2⟩; subst h1; subst h2
    go_wp2_with fail; refine (Hid.out H7).mono ?_; rintro e w1 ⟨h1, h2⟩; subst h1; subst h2
    go_wp2_with fail; refine (Hid.out H8).mono ?_; rintro e w1 ⟨h1, h2⟩; subst h1; subst h2
    go_wp2_with fail; refine (Hid.out H9).mono ?_; rintro e w1 ⟨h1, h2⟩; subst h1; subst h2
    go_wp2_with fail
    go_ret
    exact ⟨by rw [HR.out]; rfl, HX.out⟩
  have g8 : decide (cmpI (valI x.c) 0 < 0) = false := by rw [decide_eq_false_iff_not, cmpI_neg]; exact e8
  generalize cmpI (valI x.c) 0 = zy at *
  by_cases e9 : x.u = []
  · have g9 : x.u.isEmpty = true := by rw [e9]; rfl
    have HR := Lib.hid (HK.out.k8 e1 e2 e3 e4 e5 e6 (fun h => h.elim e7 (fun h => h.elim e8 (fun h => h.1 e9))))
    clear HK e1 e2 e3 e4 e5 e6 e7 e8 e9
    go_enter Tryz.func45, Tryz.ntmps45
    go_wp2_with fail; refine (Hid.out H1).mono ?_; rintro e w1 ⟨h1, h2⟩; subst h1; subst h2
    go_wp2_with fail; refine (Hid.out H2).mono ?_; rintro e w1 ⟨h1, h2⟩; subst h1; subst h2
    go_wp2_with fail; refine (Hid.out H3).mono ?_; rintro e w1 ⟨h1, h2⟩; subst h1; subst h2
    go_wp2_with fail; refine (Hid.out H4).mono ?_; rintro e w1 ⟨h1, h2⟩; subst h1; subst h2
    go_wp2_with fail; refine (Hid.out H5).mono ?_; rintro e w1 ⟨h1, h2⟩; subst h1; subst h2
    go_wp2_with fail; refine (Hid.out H6).mono ?_; rintro e w1 ⟨h1, h2⟩; subst h1; subst h2
    go_wp2_with fail; refine (Hid.out H7).mono ?_; rintro e w1 ⟨h1, h2⟩; subst h1; subst h2
    go_wp2_with fail; refine (Hid.out H8).mono ?_; rintro e w1 ⟨h1, h2⟩; subst h1; subst h2
    go_wp2_with fail; refine (Hid.out H9).mono ?_; rintro e w1 ⟨h1, h2⟩; subst h1; subst h2
    go_wp2_with fail
    go_ret
    exact ⟨by rw [HR.out]; rfl, HX.out⟩
  have g9 : x.u.isEmpty = false := by cases h : x.u with
    | nil => exact absurd h e9
    | cons _ _ => rfl
  by_cases e10 : x.u = x.q
  · have g10 : (x.u == x.q) = true := by rw [beq_iff_eq]; exact e10
    have HR := Lib.hid (HK.out.k8 e1 e2 e3 e4 e5 e6 (fun h => h.elim e7 (fun h => h.elim e8 (fun h => h.2 e10))))
    clear HK e1 e2 e3 e4 e5 e6 e7 e8 e9 e10
    go_enter Tryz.func45, Tryz.ntmps45
    go_wp2_with fail; refine (Hid.out H1).mono ?_; rintro e w1 ⟨h1, h2⟩; subst h1; subst h2
    go_wp2_with fail; refine (Hid.out H2).mono ?_; rintro e w1 ⟨h1, h2⟩; subst h1; subst h2
    go_wp2_with fail; refine (Hid.out H3).mono ?_; rintro e w1 ⟨h1, h2⟩; subst h1; subst h2
    go_wp2_with fail; refine (Hid.out H4).mono ?_; rintro e w1 ⟨h1, h2⟩; subst h1; subst h2
    go_wp2_with fail; refine (Hid.out H5).mono ?_; rintro e w1 ⟨h1, h2⟩; subst h1; subst h2
    go_wp2_with fail; refine (Hid.out H6).mono ?_; rintro e w1 ⟨h1, h2⟩; subst h1; subst h2
    go_wp2_with fail; refine (Hid.out H7).mono ?_; rintro e w1 ⟨h1, h2⟩; subst h1; subst h2
    go_wp2_with fail; refine (Hid.out H8).mono ?_; rintro e w1 ⟨h1, h2⟩; subst h1; subst h2
    go_wp2_with fail; refine (Hid.out H9).mono ?_; rintro e w1 ⟨h1, h2⟩; subst h1; subst h2
    go_wp2_with fail
    go_ret
    exact ⟨by rw [HR.out]; rfl, HX.out⟩
  have g10 : (x.u == x.q) = false := by rw [beq_eq_false_iff_ne]; exact e10
  have HR := Lib.hid (HK.out.k7 e1 e2 e3 e4 e5 e6 (.inr (.inr ⟨e9, e10⟩)))
  clear HK e1 e2 e3 e4 e5 e6 e7 e8 e9 e10
  go_enter Tryz.func45, Tryz.ntmps45
  go_wp2_with fail; refine (Hid.out H1).mono ?_; rintro e w1 ⟨h1, h2⟩; subst h1; subst h2
  go_wp2_with fail; refine (Hid.out H2).mono ?_; rintro e w1 ⟨h1, h2⟩; subst h1; subst h2
  go_wp2_with fail; refine (Hid.out H3).mono ?_; rintro e w1 ⟨h1, h2⟩; subst h1; subst h2
  go_wp2_with fail; refine (Hid.out H4).mono ?_; rintro e w1 ⟨h1, h2⟩; subst h1; subst h2
  go_wp2_with fail; refine (Hid.out H5).mono ?_; rintro e w1 ⟨h1, h2⟩; subst h1; subst h2
  go_wp2_with fail; refine (Hid.out H6).mono ?_; rintro e w1 ⟨h1, h2⟩; subst h1; subst h2
  go_wp2_with fail; refine (Hid.out H7).mono ?_; rintro e w1 ⟨h1, h2⟩; subst h1; subst h2
  go_wp2_with fail; refine (Hid.out H8).mono ?_; rintro e w1 ⟨h1, h2⟩; subst h1; subst h2
  go_wp2_with fail; refine (Hid.out H9).mono ?_; rintro e w1 ⟨h1, h2⟩; subst h1; subst h2
  go_wp2_with fail
  go_ret
  exact ⟨by rw [HR.out]; rfl, HX.out⟩
end Go.Proofs.YtikehdbkiplleaaGreatDoor

/- The reference's Find of a lot. -/
namespace Go.Proofs.YtikehdbkiplleaaGreatDoor
open Go.RowKit
attribute [local go_sem] size_bs toList_bs

def foundZ (o : Option Nat) : Int := match o with | some k => (k : Int) | none => 0
theorem findL_hit (ls : List LotV) (id : Bs) (k : Nat) (hk : k < ls.length) (h : ∀ x ∈ ls.take k, x.id ≠ id) (he : (ls[k]'hk).id = id) : findL ls id = some k := by
  induction ls generalizing k with
  | nil => simp at hk
  | cons y r ih =>
    cases k with
    | zero => simp only [List.getElem_cons_zero] at he; simp [findL, he]
    | succ k =>
      have hy : y.id ≠ id := h y (by simp)
      unfold findL
      rw [if_neg hy, ih k (by simpa using hk) (fun x hx => h x (by simp [hx])) (by simpa using he)]
      rfl
theorem findL_miss (ls : List LotV) (id : Bs) (h : ∀ x ∈ ls, x.id ≠ id) : findL ls id = none := by
  induction ls with
  | nil => rfl
  | cons y r ih => unfold findL; rw [if_neg (h y (by simp)), ih (fun x hx => h x (by simp [hx]))]; rfl
set_option maxRecDepth 100000 in
set_option maxHeartbeats 1000000 in
theorem refFind (ls : List LotV) (id : Bs) (A : Option Addr) (c : Nat) (w : World) (hA : RdL w A ls) (hn : ls.length ≤ 1000000) :
    Calls Tryz.prog 59 #[.slice A ls.length c, .string (bs id)] w fun e w' => e = .returned (.tuple #[.int .i64 (foundZ (findL ls id)), .bool (findL ls id).isSome]) ∧ w' = w := by
  have HA := Lib.hid hA
  clear hA
  go_enter Tryz.func59, Tryz.ntmps59
  go_wp2_with fail
  go_loop [6] (fun i => ∃ k : Nat, k ≤ ls.length ∧ i = .int .i64 k ∧ (∀ x ∈ ls.take k, x.id ≠ id)) (fun i => ls.length - (intOf i).toNat)
  case atStart => exact ⟨0, Nat.zero_le _, rfl, by simp⟩
  case round =>
    obtain ⟨k, hk, rfl, hd⟩ := hrel
    have HD := Lib.hid hd
    clear hd
    by_cases hlt : k < ls.length
    · obtain ⟨b, o, rfl, hb, c0, c1, c2, c3, c4, c5, c6⟩ := HA.out.at_ hlt
      clear c1 c2 c3 c4 c5 c6
      have hki : (k : Int) < (ls.length : Int) := by omega
      have hk0 : (0 : Int) ≤ (k : Int) := by omega
      by_cases he : (ls[k]'hlt).id = id
      · have HF := Lib.hid (findL_hit ls id k hlt HD.out he)
        rw [he] at c0
        clear he
        go_wp2_with fail
        go_ret2
        exact ⟨by rw [HF.out]; rfl, rfl⟩
      · have g : ((ls[k]'hlt).id == id) = false := by rw [beq_eq_false_iff_ne]; exact he
        have HT : Hid (∀ x ∈ ls.take (k + 1), x.id ≠ id) := Lib.hid (by
          intro x hx
          rw [List.take_succ_eq_append_getElem hlt] at hx
          rcases List.mem_append.1 hx with h | h
          · exact HD.out x h
          · rw [List.mem_singleton.1 h]; exact he)
        clear he
        go_wp2_with fail
        go_round
        case rel => exact ⟨k + 1, by omega, by go_num, HT.out⟩
        case measure => simp [intOf]; omega
    · have HF : Hid (findL ls id = none) := Lib.hid (findL_miss ls id (by have := HD.out; rwa [List.take_of_length_le (by omega)] at this))
      go_wp2_with fail
      go_ret2
      exact ⟨by rw [HF.out]; rfl, rfl⟩
end Go.Proofs.YtikehdbkiplleaaGreatDoor

/- The reference's Same of lots. (Printed by eqgenr.py.) -/
namespace Go.Proofs.YtikehdbkiplleaaGreatDoor
open Go.RowKit
attribute [local go_sem] size_bs toList_bs

set_option maxRecDepth 100000 in
set_option maxHeartbeats 1000000 in
theorem refSameE (hs hs' : List LotV) (A A' : Option Addr) (c c' : Nat) (w : World) (hA : RdL w A hs) (hA' : RdL w A' hs') (hn : hs.length ≤ 4611686018427387904) (hn' : hs'.length ≤ 4611686018427387904) :
    Calls Tryz.prog 36 #[.slice A hs.length c, .slice A' hs'.length c'] w (EqEnds (hs = hs') w) := by
  have HA := Lib.hid hA
  have HA' := Lib.hid hA'
  clear hA hA'
  by_cases hl : hs.length = hs'.length
  · have HLL := Lib.hid hl
    have hbl : ((hs.length : Int) != (hs'.length : Int)) = false := by rw [bne_eq_false_iff_eq]; omega
    clear hl
    go_enter Tryz.func36, Tryz.ntmps36
    go_wp2_with fail
    go_loopw [5] (fun i wr => ∃ k : Nat, k ≤ hs.length ∧ i = .int .i64 k ∧ (∀ (j : Nat) (h1 : j < hs.length) (h2 : j < hs'.length), j < k → hs[j] = hs'[j]) ∧ Ext w wr) (fun i _ => hs.length - (intOf i).toNat)
    case atStart => exact ⟨0, by omega, rfl, fun j _ _ hj => absurd hj (by omega), Ext.refl _⟩
    case round =>
      obtain ⟨k, hk, rfl, hz, hx⟩ := hrel
      have HZ := Lib.hid hz
      have HX := Lib.hid hx
      clear hz hx
      by_cases hlt : k < hs.length
      · have hlt' : k < hs'.length := by have := HLL.out; omega
        obtain ⟨b, o, rfl, hb, hc1, hc2, hc3, hc4, hc5, hc6, hc7⟩ := (HA.out.ext HX.out).at_ hlt
        obtain ⟨b', o', rfl, hb', hd1, hd2, hd3, hd4, hd5, hd6, hd7⟩ := (HA'.out.ext HX.out).at_ hlt'
        by_cases he : hs[k] = hs'[k]
        · have HST := Lib.hid (step_at HZ.out hlt hlt' he)
          rw [← he] at hd1 hd2 hd3 hd4 hd5 hd6 hd7
          generalize (hs[k]'hlt) = h at *
          clear he
          go_wp2_with fail
          go_quiet (fail)
          go_wp2_with fail
          go_roundw
          case rel => exact ⟨k + 1, by omega, by go_num, HST.out, HX.out.drewN _⟩
          case measure => simp [intOf]; omega
        · have HNE : Hid (¬ hs = hs') := Lib.hid (fun e => he (by subst e; rfl))
          have HNC : Hid (¬ ((hs[k]'hlt).id = (hs'[k]'hlt').id ∧ (hs[k]'hlt).ins = (hs'[k]'hlt').ins ∧ (hs[k]'hlt).acq = (hs'[k]'hlt').acq ∧ (hs[k]'hlt).opn = (hs'[k]'hlt').opn ∧ (hs[k]'hlt).q = (hs'[k]'hlt').q ∧ (hs[k]'hlt).c = (hs'[k]'hlt').c ∧ (hs[k]'hlt).u = (hs'[k]'hlt').u)) := Lib.hid (fun hh => he (by obtain ⟨a0, a1, a2, a3, a4, a5, a6⟩ := hh; exact extL a0 a1 a2 a3 a4 a5 a6))
          generalize (hs[k]'hlt) = h at *
          generalize (hs'[k]'hlt') = h' at *
          clear he
          by_cases e0 : h.id = h'.id
          rotate_left
          · have q := bs_ne e0
            clear e0
            go_wp2_with fail
            go_quiet (fail)
            go_wp2_with fail
            go_ret
            exact ⟨HX.out.drewN _, .inr ⟨HNE.out, rfl⟩⟩
          rw [← e0] at hd1
          by_cases e1 : h.ins = h'.ins
          rotate_left
          · have q := bs_ne e1
            clear e1
            go_wp2_with fail
            go_quiet (fail)
            go_wp2_with fail
            go_ret
            exact ⟨HX.out.drewN _, .inr ⟨HNE.out, rfl⟩⟩
          rw [← e1] at hd2
          by_cases e2 : h.acq = h'.acq
          rotate_left
          · have q := int_ne e2
            clear e2
            go_wp2_with fail
            go_quiet (fail)
            go_wp2_with fail
            go_ret
            exact ⟨HX.out.drewN _, .inr ⟨HNE.out, rfl⟩⟩
          rw [← e2] at hd3
          by_cases e3 : h.opn = h'.opn
          rotate_left
          · have q := int_ne e3
            clear e3
            go_wp2_with fail
            go_quiet (fail)
            go_wp2_with fail
            go_ret
            exact ⟨HX.out.drewN _, .inr ⟨HNE.out, rfl⟩⟩
          rw [← e3] at hd4
          by_cases e4 : h.q = h'.q
          rotate_left
          · have q := bs_ne e4
            clear e4
            go_wp2_with fail
            go_quiet (fail)
            go_wp2_with fail
            go_ret
            exact ⟨HX.out.drewN _, .inr ⟨HNE.out, rfl⟩⟩
          rw [← e4] at hd5
          by_cases e5 : h.c = h'.c
          rotate_left
          · have q := bs_ne e5
            clear e5
            go_wp2_with fail
            go_quiet (fail)
            go_wp2_with fail
            go_ret
            exact ⟨HX.out.drewN _, .inr ⟨HNE.out, rfl⟩⟩
          rw [← e5] at hd6
          have e6 : ¬ h.u = h'.u := fun e => HNC.out ⟨e0, e1, e2, e3, e4, e5, e⟩
          have q := bs_ne e6
          clear HNC e0 e1 e2 e3 e4 e5 e6
          go_wp2_with fail
          go_quiet (fail)
          go_wp2_with fail
          go_ret
          exact ⟨HX.out.drewN _, .inr ⟨HNE.out, rfl⟩⟩
      · have HEQ : Hid (hs = hs') := Lib.hid (same_at HLL.out (fun j h1 h2 => HZ.out j h1 h2 (by omega)))
        go_wp2_with fail
        go_ret
        exact ⟨HX.out, .inl ⟨HEQ.out, rfl⟩⟩
  · have HNE : Hid (¬ hs = hs') := Lib.hid (fun e => hl (by rw [e]))
    have hbl : ((hs.length : Int) != (hs'.length : Int)) = true := by rw [bne_iff_ne]; omega
    clear hl
    go_enter Tryz.func36, Tryz.ntmps36
    go_wp2_with fail
    go_ret
    exact ⟨Ext.refl _, .inr ⟨HNE.out, rfl⟩⟩
theorem refSame (hs hs' : List LotV) (A A' : Option Addr) (c c' : Nat) (w : World) (hA : RdL w A hs) (hA' : RdL w A' hs') (hn : hs.length ≤ 4611686018427387904) (hn' : hs'.length ≤ 4611686018427387904) :
    Calls Tryz.prog 36 #[.slice A hs.length c, .slice A' hs'.length c'] w fun e w' => e = .returned (.bool (decide (hs = hs'))) ∧ Ext w w' := by
  refine (refSameE hs hs' A A' c c' w hA hA' hn hn').mono ?_
  rintro e w' ⟨hx, ⟨h, rfl⟩ | ⟨h, rfl⟩⟩
  · exact ⟨by simp [h], hx⟩
  · exact ⟨by simp [h], hx⟩
end Go.Proofs.YtikehdbkiplleaaGreatDoor

/- The reference's test of a lot that is too great. -/
namespace Go.Proofs.YtikehdbkiplleaaGreatDoor
open Go.RowKit
attribute [local go_sem] size_bs toList_bs

def longB (a : Bs) : Bool := decide (13 < (a.length : Int))
def greatL (x : LotV) : Bool := longB x.q || longB x.c || longB x.u || decide (40 < (x.id.length : Int)) || decide (40 < (x.ins.length : Int))
set_option maxRecDepth 100000 in
set_option maxHeartbeats 2000000 in
theorem refGreatOne (x : LotV) (w : World) : Calls Tryz.prog 44 #[lv x] w fun e w' => e = .returned (.bool (greatL x)) ∧ Ext w w' := by
  have HX : Hid (Ext w (w.alloc (.cells (lc x) 50))) := Lib.hid (Ext.new _ _)
  have hb := Blk.new w 50 (lc x)
  obtain ⟨c0, c1, c2, c3, c4, c5, c6⟩ := lotBlk hb (Ext.refl _)
  have H1 := Lib.hid (refLong x.q (w.alloc (.cells (lc x) 50)))
  have H2 := Lib.hid (refLong x.c (w.alloc (.cells (lc x) 50)))
  have H3 := Lib.hid (refLong x.u (w.alloc (.cells (lc x) 50)))
  rw [show decide (13 < (x.q.length : Int)) = longB x.q from rfl] at H1
  rw [show decide (13 < (x.c.length : Int)) = longB x.c from rfl] at H2
  rw [show decide (13 < (x.u.length : Int)) = longB x.u from rfl] at H3
  clear hb
  unfold greatL
  cases e1 : longB x.q
  rotate_left
  · rw [e1] at H1
    clear e1
    go_enter Tryz.func44, Tryz.ntmps44
    go_wp2_with fail; refine (Hid.out H1).mono ?_; rintro e w1 ⟨h1, h2⟩; subst h1; subst h2
    go_wp2_with fail
    go_ret
    exact ⟨rfl, HX.out⟩
  rw [e1] at H1
  clear e1
  cases e2 : longB x.c
  rotate_left
  · rw [e2] at H2
    clear e2
    go_enter Tryz.func44, Tryz.ntmps44
    go_wp2_with fail; refine (Hid.out H1).mono ?_; rintro e w1 ⟨h1, h2⟩; subst h1; subst h2
    go_wp2_with fail; refine (Hid.out H2).mono ?_; rintro e w1 ⟨h1, h2⟩; subst h1; subst h2
    go_wp2_with fail
    go_ret
    exact ⟨rfl, HX.out⟩
  rw [e2] at H2
  clear e2
  cases e3 : longB x.u
  rotate_left
  · rw [e3] at H3
    clear e3
    go_enter Tryz.func44, Tryz.ntmps44
    go_wp2_with fail; refine (Hid.out H1).mono ?_; rintro e w1 ⟨h1, h2⟩; subst h1; subst h2
    go_wp2_with fail; refine (Hid.out H2).mono ?_; rintro e w1 ⟨h1, h2⟩; subst h1; subst h2
    go_wp2_with fail; refine (Hid.out H3).mono ?_; rintro e w1 ⟨h1, h2⟩; subst h1; subst h2
    go_wp2_with fail
    go_ret
    exact ⟨rfl, HX.out⟩
  rw [e3] at H3
  clear e3
  cases e4 : decide (40 < (x.id.length : Int))
  rotate_left
  · go_enter Tryz.func44, Tryz.ntmps44
    go_wp2_with fail; refine (Hid.out H1).mono ?_; rintro e w1 ⟨h1, h2⟩; subst h1; subst h2
    go_wp2_with fail; refine (Hid.out H2).mono ?_; rintro e w1 ⟨h1, h2⟩; subst h1; subst h2
    go_wp2_with fail; refine (Hid.out H3).mono ?_; rintro e w1 ⟨h1, h2⟩; subst h1; subst h2
    go_wp2_with fail
    go_ret
    exact ⟨rfl, HX.out⟩
  cases e5 : decide (40 < (x.ins.length : Int))
  rotate_left
  · go_enter Tryz.func44, Tryz.ntmps44
    go_wp2_with fail; refine (Hid.out H1).mono ?_; rintro e w1 ⟨h1, h2⟩; subst h1; subst h2
    go_wp2_with fail; refine (Hid.out H2).mono ?_; rintro e w1 ⟨h1, h2⟩; subst h1; subst h2
    go_wp2_with fail; refine (Hid.out H3).mono ?_; rintro e w1 ⟨h1, h2⟩; subst h1; subst h2
    go_wp2_with fail
    go_ret
    exact ⟨rfl, HX.out⟩
  go_enter Tryz.func44, Tryz.ntmps44
  go_wp2_with fail; refine (Hid.out H1).mono ?_; rintro e w1 ⟨h1, h2⟩; subst h1; subst h2
  go_wp2_with fail; refine (Hid.out H2).mono ?_; rintro e w1 ⟨h1, h2⟩; subst h1; subst h2
  go_wp2_with fail; refine (Hid.out H3).mono ?_; rintro e w1 ⟨h1, h2⟩; subst h1; subst h2
  go_wp2_with fail
  go_ret
  exact ⟨rfl, HX.out⟩
end Go.Proofs.YtikehdbkiplleaaGreatDoor

/- The reference's test of lots that are too great. -/
namespace Go.Proofs.YtikehdbkiplleaaGreatDoor
open Go.RowKit
attribute [local go_sem] size_bs toList_bs

def tooMany (n : Nat) : Bool := (decide (12 < (n : Int)) && decide ((n : Int) < 999)) || decide (1002 < (n : Int))
def greatAll (ls : List LotV) : Bool := tooMany ls.length || ls.any greatL
set_option maxRecDepth 100000 in
set_option maxHeartbeats 2000000 in
theorem refGreat (ls : List LotV) (A : Option Addr) (c : Nat) (w : World) (hA : RdL w A ls) (_hn : ls.length ≤ 4611686018427387904) :
    Calls Tryz.prog 10 #[.slice A ls.length c] w fun e w' => e = .returned (.bool (greatAll ls)) ∧ Ext w w' := by
  have HA := Lib.hid hA
  clear hA
  by_cases h : tooMany ls.length = true
  · have HG : Hid (greatAll ls = true) := Lib.hid (by unfold greatAll; rw [h]; rfl)
    unfold tooMany at h
    go_enter Tryz.func10, Tryz.ntmps10
    cases a1 : decide (12 < (ls.length : Int)) <;> cases a2 : decide ((ls.length : Int) < 999) <;> cases a3 : decide (1002 < (ls.length : Int)) <;> simp only [a1, a2, a3] at h
    all_goals first
      | (exact absurd h (by decide))
      | (clear h
         go_wp2_with fail
         go_ret
         exact ⟨by rw [HG.out]; rfl, Ext.refl _⟩)
  · have HG : Hid (greatAll ls = ls.any greatL) := Lib.hid (by unfold greatAll; rw [Bool.not_eq_true] at h; rw [h]; rfl)
    rw [Bool.not_eq_true] at h
    have hn : ls.length ≤ 1002 := by
      have h2 := h
      simp only [tooMany, Bool.or_eq_false_iff, decide_eq_false_iff_not] at h2
      omega
    unfold tooMany at h
    go_enter Tryz.func10, Tryz.ntmps10
    cases a1 : decide (12 < (ls.length : Int)) <;> cases a2 : decide ((ls.length : Int) < 999) <;> cases a3 : decide (1002 < (ls.length : Int)) <;> simp only [a1, a2, a3] at h
    all_goals first
      | (exact absurd h (by decide))
      | skip
    all_goals
      clear h
      go_wp2_with fail
      go_loopw [3] (fun i wr => ∃ k : Nat, k ≤ ls.length ∧ i = .int .i64 k ∧ (∀ x ∈ ls.take k, greatL x = false) ∧ Ext w wr) (fun i _ => ls.length - (intOf i).toNat)
      case atStart => exact ⟨0, by omega, rfl, by simp, Ext.refl _⟩
      case round =>
        clear a1 a2 a3
        obtain ⟨k, hk, rfl, hz, hx⟩ := hrel
        have HZ := Lib.hid hz
        have HX := Lib.hid hx
        clear hz hx
        by_cases hlt : k < ls.length
        · obtain ⟨b, o, rfl, hb, c0, c1, c2, c3, c4, c5, c6⟩ := (HA.out.ext HX.out).at_ hlt
          have HC := Lib.hid (fun W => refGreatOne (ls[k]'hlt) W)
          cases hg : greatL (ls[k]'hlt)
          · rw [hg] at HC
            have HT : Hid (∀ x ∈ ls.take (k + 1), greatL x = false) := Lib.hid (by
              intro x hx
              rw [List.take_succ_eq_append_getElem hlt] at hx
              rcases List.mem_append.1 hx with h | h
              · exact HZ.out x h
              · rw [List.mem_singleton.1 h]; exact hg)
            clear hg
            generalize (ls[k]'hlt) = x at *
            go_wp2_with fail
            refine (HC.out _).mono ?_
            rintro e w1 ⟨rfl, hx1⟩
            replace HX := Lib.hid (HX.out.trans hx1)
            clear hx1
            go_wp2_with fail
            go_roundw
            case rel => exact ⟨k + 1, by omega, by go_num, HT.out, HX.out⟩
            case measure => simp [intOf]; omega
          · rw [hg] at HC
            have HT : Hid (ls.any greatL = true) := Lib.hid (List.any_eq_true.2 ⟨_, List.getElem_mem hlt, hg⟩)
            clear hg
            generalize (ls[k]'hlt) = x at *
            go_wp2_with fail
            refine (HC.out _).mono ?_
            rintro e w1 ⟨rfl, hx1⟩
            replace HX := Lib.hid (HX.out.trans hx1)
            clear hx1
            go_wp2_with fail
            go_ret
            exact ⟨by rw [HG.out, HT.out]; rfl, HX.out⟩
        · have HT : Hid (ls.any greatL = false) := Lib.hid (by
            have h := HZ.out
            rw [List.take_of_length_le (by omega)] at h
            rw [List.any_eq_false]; intro x hx; rw [h x hx]; simp)
          go_wp2_with fail
          go_ret
          exact ⟨by rw [HG.out, HT.out]; rfl, HX.out⟩
end Go.Proofs.YtikehdbkiplleaaGreatDoor

/- The reference's CheckAll of lots. -/
namespace Go.Proofs.YtikehdbkiplleaaGreatDoor
open Go.RowKit
attribute [local go_sem] size_bs toList_bs

theorem RdL.take {w : World} {A : Option Addr} {ls : List LotV} (h : RdL w A ls) (k : Nat) (hk : k ≤ ls.length) : RdL w A (ls.take k) := by
  have hl : (ls.take k).length = k := by rw [List.length_take]; omega
  refine ⟨flat_len lotCells 7 lotCells_len _, fun h0 => ?_⟩
  obtain ⟨b, o, e, hb, hc⟩ := h.2 (by omega)
  refine ⟨b, o, e, hb, fun j u hu => hc j u ?_⟩
  have e2 : ls.flatMap lotCells = (ls.take k).flatMap lotCells ++ (ls.drop k).flatMap lotCells := by rw [← List.flatMap_append, List.take_append_drop]
  rw [e2, List.getElem?_append_left (List.getElem?_eq_some_iff.1 hu).1]
  exact hu
theorem findL_some_iff (ls : List LotV) (id : Bs) : (findL ls id).isSome = true ↔ id ∈ ls.map (·.id) := by
  induction ls with
  | nil => simp [findL]
  | cons x r ih =>
    unfold findL
    by_cases h : x.id = id
    · simp [h]
    · rw [if_neg h]
      simp only [Option.isSome_map, List.map_cons, List.mem_cons]
      rw [ih]
      constructor
      · exact fun k => .inr k
      · rintro (k | k)
        · exact absurd k.symm h
        · exact k
def RcAt (w : World) (ls : List LotV) (k : Nat) (wr : World) : Prop := Ext w wr ∧ goAll [] ls = goAll ((ls.take k).map (·.id)) (ls.drop k)
set_option maxRecDepth 100000 in
set_option maxHeartbeats 4000000 in
theorem refCheckAll (ls : List LotV) (A : Option Addr) (c : Nat) (w : World) (hA : RdL w A ls) (hs : ∀ x ∈ ls, SmallL x) (hn : ls.length ≤ 100000) (hc : ls.length ≤ c) :
    Calls Tryz.prog 43 #[.slice A ls.length c] w fun e w' => e = .returned (.int .i64 (checkAllL ls)) ∧ Ext w w' := by
  have HA := Lib.hid hA
  have HS := Lib.hid hs
  clear hA hs
  by_cases hbig : 1000 < ls.length
  · have HR : Hid (checkAllL ls = 4) := Lib.hid (by unfold checkAllL; rw [if_pos hbig])
    rw [HR.out]
    have g : decide (1000 < (ls.length : Int)) = true := by rw [decide_eq_true_iff]; omega
    go_enter Tryz.func43, Tryz.ntmps43
    go_wp2_with fail
    go_ret
    exact ⟨rfl, Ext.refl _⟩
  · have HR : Hid (checkAllL ls = goAll [] ls) := Lib.hid (by unfold checkAllL; rw [if_neg hbig])
    rw [HR.out]
    have g : decide (1000 < (ls.length : Int)) = false := by rw [decide_eq_false_iff_not]; omega
    obtain ⟨R, hR⟩ : ∃ R, goAll [] ls = R := ⟨_, rfl⟩
    have HRR := Lib.hid hR
    rw [hR]
    clear hR HR
    go_enter Tryz.func43, Tryz.ntmps43
    go_wp2_with fail
    go_loopw [3, 4, 5, 6] (fun i _ _ _ wr => ∃ k : Nat, k ≤ ls.length ∧ i = .int .i64 k ∧ RcAt w ls k wr) (fun i _ _ _ _ => ls.length - (intOf i).toNat)
    case atStart => exact ⟨0, by omega, rfl, Ext.refl _, by simp⟩
    case round =>
      obtain ⟨k, hk, rfl, hx, hgo⟩ := hrel
      have HX := Lib.hid hx
      have HGO := Lib.hid hgo
      clear hx hgo
      by_cases hlt : k < ls.length
      · obtain ⟨b, o, rfl, hb, c0, c1, c2, c3, c4, c5, c6⟩ := (HA.out.ext HX.out).at_ hlt
        have HL := Lib.hid (refLotCheck (ls[k]'hlt) (HS.out _ (List.getElem_mem hlt)))
        have htk : (ls.take k).length = k := by rw [List.length_take]; omega
        have HF := Lib.hid (fun W hx => refFind (ls.take k) (ls[k]'hlt).id (some ⟨b, o, none⟩) c W ((HA.out.ext hx).take k (by omega)) (by omega))
        rw [htk] at HF
        have hdr : ls.drop k = (ls[k]'hlt) :: ls.drop (k + 1) := List.drop_eq_getElem_cons hlt
        have hti : (ls.take (k + 1)).map (·.id) = (ls.take k).map (·.id) ++ [(ls[k]'hlt).id] := take_ids hlt
        have HST := Lib.hid (goAll_step (seen := (ls.take k).map (·.id)) (x := ls[k]'hlt) (r := ls.drop (k + 1)))
        rw [← hdr] at HST
        have HFI := Lib.hid (findL_some_iff (ls.take k) (ls[k]'hlt).id)
        rw [← HGO.out, HRR.out, ← hti] at HST
        clear hdr hti htk
        have hki : (k : Int) < (ls.length : Int) := by omega
        have hk0 : (0 : Int) ≤ (k : Int) := by omega
        by_cases hck : checkL (ls[k]'hlt) = 0
        · rw [hck] at HL
          have HCK := Lib.hid hck
          clear hck
          by_cases hid : (ls[k]'hlt).id ∈ (ls.take k).map (·.id)
          · have HRE := Lib.hid (HST.out.2.1 HCK.out hid)
            have hfs : (findL (ls.take k) (ls[k]'hlt).id).isSome = true := HFI.out.2 hid
            rw [hfs] at HF
            clear hid hfs HFI HST HGO HCK
            generalize foundZ (findL (ls.take k) (ls[k]'hlt).id) = fz at *
            generalize (ls[k]'hlt) = x at *
            go_wp2_with fail
            refine (HL.out _).mono ?_
            rintro e w1 ⟨rfl, hx1⟩
            obtain ⟨r1, r2⟩ := hx1.rules
            have HX1 := Lib.hid (HX.out.trans hx1)
            have hb1 : b < w1.heap.size := Nat.lt_of_lt_of_le hb hx1.size
            have d0 : w1.cell? ⟨b, o + k * 7, none⟩ = some (.string (bs x.id)) := by rw [r1 _ _ hb]; exact c0
            clear hx1 r1 r2 c0 c1 c2 c3 c4 c5 c6
            go_wp2_with fail
            go_quiet ((go_at_call 59; exact Calls.quiet_of_same (HF.out _ (HX1.out.drewN _))))
            go_wp2_with fail
            go_ret
            exact ⟨by first | (rw [HRE.out]; rfl) | rw [HRE.out], HX1.out.drewN _⟩
          · have HRE := Lib.hid (HST.out.2.2 HCK.out hid)
            have hfs : (findL (ls.take k) (ls[k]'hlt).id).isSome = false := by rw [← Bool.not_eq_true]; exact fun h => hid (HFI.out.1 h)
            rw [hfs] at HF
            clear hid hfs HFI HST HGO HCK
            generalize foundZ (findL (ls.take k) (ls[k]'hlt).id) = fz at *
            generalize (ls[k]'hlt) = x at *
            go_wp2_with fail
            refine (HL.out _).mono ?_
            rintro e w1 ⟨rfl, hx1⟩
            obtain ⟨r1, r2⟩ := hx1.rules
            have HX1 := Lib.hid (HX.out.trans hx1)
            have hb1 : b < w1.heap.size := Nat.lt_of_lt_of_le hb hx1.size
            have d0 : w1.cell? ⟨b, o + k * 7, none⟩ = some (.string (bs x.id)) := by rw [r1 _ _ hb]; exact c0
            clear hx1 r1 r2 c0 c1 c2 c3 c4 c5 c6
            go_wp2_with fail
            go_quiet ((go_at_call 59; exact Calls.quiet_of_same (HF.out _ (HX1.out.drewN _))))
            go_wp2_with fail
            exact ⟨⟨k + 1, by omega, by go_num, HX1.out.drewN _, by rw [HRR.out]; exact HRE.out⟩, by simp [intOf]; omega⟩
        · have HRE := Lib.hid (HST.out.1 hck)
          have g : (checkL (ls[k]'hlt) != 0) = true := by rw [bne_iff_ne]; exact hck
          clear hck HFI HST HGO HF
          generalize checkL (ls[k]'hlt) = cv at *
          generalize (ls[k]'hlt) = x at *
          go_wp2_with fail
          refine (HL.out _).mono ?_
          rintro e w1 ⟨rfl, hx1⟩
          have HX1 := Lib.hid (HX.out.trans hx1)
          clear hx1
          go_wp2_with fail
          go_ret
          exact ⟨by first | (rw [HRE.out]; rfl) | rw [HRE.out], HX1.out⟩
      · have HRE : Hid (R = 0) := Lib.hid (by
          have := HGO.out
          rw [HRR.out, List.drop_of_length_le (by omega)] at this
          exact this)
        clear HGO
        go_wp2_with fail
        go_ret
        exact ⟨by first | (rw [HRE.out]; rfl) | rw [HRE.out], HX.out⟩
end Go.Proofs.YtikehdbkiplleaaGreatDoor

/- Plain: what the laws of averages rest on. No program in sight. -/
namespace Go.Proofs.YtikehdbkiplleaaGreatDoor
open Go.RowKit

theorem greatL_no {x : LotV} (h : greatL x = false) : x.q.length ≤ 13 ∧ x.c.length ≤ 13 ∧ x.u.length ≤ 13 ∧ x.id.length ≤ 40 ∧ x.ins.length ≤ 40 := by
  unfold greatL longB at h
  simp only [Bool.or_eq_false_iff, decide_eq_false_iff_not] at h
  omega
theorem greatAll_no {ls : List LotV} (h : greatAll ls = false) : ls.length ≤ 1002 ∧ ∀ x ∈ ls, greatL x = false := by
  unfold greatAll tooMany at h
  simp only [Bool.or_eq_false_iff, decide_eq_false_iff_not, List.any_eq_false, Bool.not_eq_true] at h
  exact ⟨by omega, h.2⟩
theorem great_small {ls : List LotV} (h : greatAll ls = false) : ∀ x ∈ ls, SmallL x := fun x hx => by
  have := greatL_no ((greatAll_no h).2 x hx)
  refine ⟨?_, ?_, ?_, ?_, ?_⟩ <;> omega
theorem ofL_mem' {ls : List LotV} {ins : Bs} {x : LotV} (h : x ∈ ofL ls ins) : x ∈ ls ∧ x.ins = ins := by
  have := List.mem_filter.1 h
  exact ⟨this.1, by simpa using this.2⟩
theorem totQ_pos {ls : List LotV} {ins : Bs} (h : checkAllL ls = 0) (hl : 0 < (ofL ls ins).length) : 0 < totQ ls ins := by
  refine sum_pos _ ?_ (by rw [List.length_map]; exact hl)
  intro v hv
  obtain ⟨x, hx, rfl⟩ := List.mem_map.1 hv
  exact (checkL_ok ((checkAllL_ok h).2 x (ofL_mem' hx).1)).2.2.1
theorem totC_nonneg {ls : List LotV} {ins : Bs} (h : checkAllL ls = 0) : 0 ≤ totC ls ins := by
  refine sum_nonneg _ ?_
  intro v hv
  obtain ⟨x, hx, rfl⟩ := List.mem_map.1 hv
  exact (checkL_ok ((checkAllL_ok h).2 x (ofL_mem' hx).1)).2.2.2.1
theorem totQ_zero {ls : List LotV} {ins : Bs} (h : checkAllL ls = 0) : totQ ls ins = 0 ↔ (ofL ls ins).length = 0 := by
  constructor
  · intro h0
    rcases Nat.eq_zero_or_pos (ofL ls ins).length with k | k
    · exact k
    · have := totQ_pos h k; omega
  · intro h0
    have := List.length_eq_zero_iff.1 h0
    unfold totQ; rw [this]; rfl
theorem totQ_nonneg {ls : List LotV} {ins : Bs} (h : checkAllL ls = 0) : 0 ≤ totQ ls ins := by
  rcases Nat.eq_zero_or_pos (ofL ls ins).length with k | k
  · have := (totQ_zero (ins := ins) h).2 k; omega
  · have := totQ_pos h k; omega
theorem avgE_ok {ls : List LotV} {ns : List Bs} (h : checkAllL ls = 0) (hn : ∀ a ∈ ns, checkI a = 0) : avgE ls ns = 0 := by
  unfold avgE
  rw [if_neg (by simpa using h), if_neg]
  rw [Bool.not_eq_true, List.any_eq_false]
  intro a ha
  rw [hn a ha]; decide
theorem divInt_mul_cancel (t a : Int) (ha : a ≠ 0) : Rat.divInt (t * a) a = (t : Rat) := by
  rw [← divInt_one t, ← Rat.divInt_mul_right (n := t) (d := 1) ha, Int.one_mul]
theorem shareZ_all (t a : Int) (ha : a ≠ 0) : shareZ t a a = t := by
  unfold shareZ; rw [divInt_mul_cancel t a ha, roundQ_int]
def absQ (q : Rat) : Rat := if q < 0 then -q else q
theorem divInt_split (t p a : Int) : Rat.divInt (t * p) a = Rat.divInt t a * (p : Rat) := by
  rw [← divInt_one p, Rat.divInt_mul_divInt, Int.mul_one]
theorem shareZ_near (t p a : Int) : absQ ((shareZ t p a : Rat) - Rat.divInt t a * (p : Rat)) ≤ 1 / 2 := by
  have h := roundQ_near (Rat.divInt (t * p) a)
  rw [← divInt_split]
  unfold shareZ absQ
  generalize Rat.divInt (t * p) a = q at *
  generalize (roundQ q : Rat) = r at *
  split <;> grind
theorem absQ_qb {q : Rat} {L : Nat} (h : QB L q) : QB L (absQ q) := by
  unfold absQ; split
  · exact h.neg
  · exact h
end Go.Proofs.YtikehdbkiplleaaGreatDoor

/- Plain: pooled costs. No program in sight. -/
namespace Go.Proofs.YtikehdbkiplleaaGreatDoor
open Go.RowKit

def mapN (ch : Nat → LotV → LotV) : Nat → List LotV → List LotV
  | _, [] => []
  | n, x :: r => ch n x :: mapN ch (n + 1) r
theorem ofL_chg {ch : Nat → LotV → LotV} {ins : Bs} (hch : ∀ n x, (ch n x).ins = x.ins) : ∀ (l : List LotV) (n : Nat), ofL (chg ch ins n l) ins = mapN ch n (ofL l ins)
  | [], _ => rfl
  | x :: r, n => by
    unfold chg
    by_cases h : x.ins = ins
    · rw [if_pos h, ofL_cons, if_pos (by rw [hch]; exact h), ofL_cons, if_pos h, ofL_chg hch r]; rfl
    · rw [if_neg h, ofL_cons, if_neg h, ofL_cons, if_neg h, ofL_chg hch r]
theorem ofL_chg_ne {ch : Nat → LotV → LotV} {ins : Bs} (hch : ∀ n x, (ch n x).ins = x.ins) {o : Bs} (ho : o ≠ ins) : ∀ (l : List LotV) (n : Nat), ofL (chg ch ins n l) o = ofL l o
  | [], _ => rfl
  | x :: r, n => by
    unfold chg
    by_cases h : x.ins = ins
    · rw [if_pos h, ofL_cons, if_neg (by rw [hch, h]; exact fun e => ho e.symm), ofL_cons, if_neg (by rw [h]; exact fun e => ho e.symm), ofL_chg_ne hch ho r]
    · rw [if_neg h, ofL_cons, ofL_cons, ofL_chg_ne hch ho r]
theorem mapN_map {α : Type} {ch : Nat → LotV → LotV} {f : LotV → α} (hf : ∀ n x, f (ch n x) = f x) : ∀ (l : List LotV) (n : Nat), (mapN ch n l).map f = l.map f
  | [], _ => rfl
  | x :: r, n => by simp [mapN, hf, mapN_map hf r]
theorem mapN_len {ch : Nat → LotV → LotV} : ∀ (l : List LotV) (n : Nat), (mapN ch n l).length = l.length
  | [], _ => rfl
  | x :: r, n => by simp [mapN, mapN_len r]
theorem chg_map {α : Type} {ch : Nat → LotV → LotV} {ins : Bs} {f : LotV → α} (hf : ∀ n x, f (ch n x) = f x) : ∀ (l : List LotV) (n : Nat), (chg ch ins n l).map f = l.map f
  | [], _ => rfl
  | x :: r, n => by
    unfold chg
    split
    · simp [hf, chg_map hf r]
    · simp [chg_map hf r]
theorem chg_chg {ch : Nat → LotV → LotV} {ins : Bs} (hi : ∀ n x, (ch n x).ins = x.ins) (hc : ∀ n x, ch n (ch n x) = ch n x) : ∀ (l : List LotV) (n : Nat), chg ch ins n (chg ch ins n l) = chg ch ins n l
  | [], _ => rfl
  | x :: r, n => by
    by_cases h : x.ins = ins
    · have e : chg ch ins n (x :: r) = ch n x :: chg ch ins (n + 1) r := by show (if _ then _ else _) = _; rw [if_pos h]
      rw [e]
      show (if _ then _ else _) = _
      rw [if_pos (by rw [hi]; exact h), hc, chg_chg hi hc r]
    · have e : chg ch ins n (x :: r) = x :: chg ch ins n r := by show (if _ then _ else _) = _; rw [if_neg h]
      rw [e]
      show (if _ then _ else _) = _
      rw [if_neg h, chg_chg hi hc r]
theorem chg_mem {ch : Nat → LotV → LotV} {ins : Bs} {x : LotV} : ∀ (l : List LotV) (n : Nat), x ∈ chg ch ins n l → (x ∈ l ∧ x.ins ≠ ins) ∨ ∃ k y, y ∈ l ∧ y.ins = ins ∧ x = ch k y ∧ n ≤ k ∧ k < n + (ofL l ins).length
  | [], _, h => by cases h
  | y :: r, n, h => by
    unfold chg at h
    rw [ofL_cons]
    by_cases e : y.ins = ins
    · rw [if_pos e] at h
      rw [if_pos e, List.length_cons]
      rcases List.mem_cons.1 h with rfl | h
      · exact .inr ⟨n, y, by simp, e, rfl, by omega, by omega⟩
      · rcases chg_mem r (n + 1) h with ⟨k, ne⟩ | ⟨k, z, hz, hi, he, h1, h2⟩
        · exact .inl ⟨List.mem_cons_of_mem _ k, ne⟩
        · exact .inr ⟨k, z, List.mem_cons_of_mem _ hz, hi, he, by omega, by omega⟩
    · rw [if_neg e] at h
      rw [if_neg e]
      rcases List.mem_cons.1 h with rfl | h
      · exact .inl ⟨by simp, e⟩
      · rcases chg_mem r n h with ⟨k, ne⟩ | ⟨k, z, hz, hi, he, h1, h2⟩
        · exact .inl ⟨List.mem_cons_of_mem _ k, ne⟩
        · exact .inr ⟨k, z, List.mem_cons_of_mem _ hz, hi, he, h1, h2⟩
/-- at each place: the lot itself, or the changed one with the number of its like ahead of it -/
theorem chg_at {ch : Nat → LotV → LotV} {ins : Bs} : ∀ (l : List LotV) (n k : Nat) (h : k < l.length) (h' : k < (chg ch ins n l).length), (chg ch ins n l)[k]'h' = if (l[k]'h).ins = ins then ch (n + (ofL (l.take k) ins).length) (l[k]'h) else l[k]'h
  | [], _, k, h, _ => by simp at h
  | x :: r, n, 0, _, _ => by
    simp only [chg, List.getElem_cons_zero, List.take_zero]
    split
    · rfl
    · rfl
  | x :: r, n, k + 1, h, h' => by
    have hr : k < r.length := by simpa using h
    simp only [chg, List.take_succ_cons, ofL_cons]
    by_cases e : x.ins = ins
    · simp only [e, if_true, List.getElem_cons_succ, List.length_cons]
      rw [chg_at r (n + 1) k hr]
      rw [show n + 1 + (ofL (r.take k) ins).length = n + ((ofL (r.take k) ins).length + 1) by omega]
    · simp only [e, if_false, List.getElem_cons_succ]
      rw [chg_at r n k hr]

def costed (ss : List Bs) (n : Nat) (x : LotV) : LotV := { x with c := ss.getD n [] }
theorem poolV_pos {ls : List LotV} {ins : Bs} (h : (ofL ls ins).length ≠ 0) : poolV ls ins = chg (costed (shL ls ins)) ins 0 ls := by
  unfold poolV; rw [if_neg h]; rfl
theorem poolV_zero {ls : List LotV} {ins : Bs} (h : (ofL ls ins).length = 0) : poolV ls ins = ls := by unfold poolV; rw [if_pos h]
theorem mapN_costs (ss : List Bs) : ∀ (l : List LotV) (n : Nat), n + l.length = ss.length → (mapN (costed ss) n l).map (·.c) = ss.drop n
  | [], n, h => by
    rw [List.drop_of_length_le (by simp at h; omega)]; rfl
  | x :: r, n, h => by
    have hn : n < ss.length := by simp at h; omega
    simp only [mapN, List.map_cons]
    rw [mapN_costs ss r (n + 1) (by simp at h ⊢; omega), List.drop_eq_getElem_cons hn]
    congr 1
    show ss.getD n [] = _
    rw [List.getD_eq_getElem?_getD, List.getElem?_eq_getElem hn]; rfl
section
variable {ls : List LotV} {ins : Bs}
theorem pool_map {α : Type} {f : LotV → α} (hf : ∀ n x, f (costed (shL ls ins) n x) = f x) : (poolV ls ins).map f = ls.map f := by
  by_cases h : (ofL ls ins).length = 0
  · rw [poolV_zero h]
  · rw [poolV_pos h]; exact chg_map hf ls 0
theorem pool_ofL : ofL (poolV ls ins) ins = mapN (costed (shL ls ins)) 0 (ofL ls ins) := by
  by_cases h : (ofL ls ins).length = 0
  · rw [poolV_zero h, List.length_eq_zero_iff.1 h]; rfl
  · rw [poolV_pos h]; exact ofL_chg (ch := costed (shL ls ins)) (fun _ _ => rfl) ls 0
theorem pool_qsL : qsL (poolV ls ins) ins = qsL ls ins := by
  unfold qsL; rw [pool_ofL]; exact mapN_map (ch := costed (shL ls ins)) (fun _ _ => rfl) _ _
theorem pool_len' : (ofL (poolV ls ins) ins).length = (ofL ls ins).length := by rw [pool_ofL, mapN_len]
theorem totQ_qs (ls : List LotV) (ins : Bs) : totQ ls ins = ((qsL ls ins).map valI).sum := by
  unfold totQ qsL; rw [List.map_map]; rfl
theorem pool_totQ : totQ (poolV ls ins) ins = totQ ls ins := by rw [totQ_qs, totQ_qs, pool_qsL]
theorem sh_vals : (shL ls ins).map valI = splitV (totC ls ins) ((qsL ls ins).map valI) := by
  unfold shL
  rw [List.map_map]
  have : (valI ∘ ofI) = id := by funext z; exact valI_ofI z
  rw [this, List.map_id]
theorem pool_costs : (ofL (poolV ls ins) ins).map (·.c) = shL ls ins := by
  rw [pool_ofL, mapN_costs _ _ 0 (by rw [shL_len]; omega), List.drop_zero]
theorem pool_totC (hv : checkAllL ls = 0) : totC (poolV ls ins) ins = totC ls ins := by
  by_cases h : (ofL ls ins).length = 0
  · rw [poolV_zero h]
  · have e : totC (poolV ls ins) ins = ((ofL (poolV ls ins) ins).map (·.c) |>.map valI).sum := by unfold totC; rw [List.map_map]; rfl
    rw [e, pool_costs, sh_vals]
    exact splitV_sum (by rw [← totQ_qs]; exact totQ_pos hv (by omega))
theorem pool_shL (hv : checkAllL ls = 0) : shL (poolV ls ins) ins = shL ls ins := by
  unfold shL; rw [pool_totC hv, pool_qsL]
/-- pooling twice is pooling once -/
theorem pool_pool (hv : checkAllL ls = 0) : poolV (poolV ls ins) ins = poolV ls ins := by
  by_cases h : (ofL ls ins).length = 0
  · rw [poolV_zero h, poolV_zero h]
  · rw [poolV_pos (ls := poolV ls ins) (by rw [pool_len']; exact h), pool_shL hv, poolV_pos h]
    exact chg_chg (ch := costed (shL ls ins)) (fun _ _ => rfl) (fun _ _ => rfl) ls 0
theorem checkL_cost {x : LotV} {c : Bs} (h : checkL x = 0) (h1 : checkI c = 0) (h2 : 0 ≤ valI c) : checkL { x with c := c } = 0 := by
  have hk := checkL_ok h
  unfold checkL at h ⊢
  split at h
  · cases h
  split at h
  · cases h
  split at h
  · cases h
  split at h
  · cases h
  split at h
  · cases h
  rename_i a1 a2 a3 a4 a5
  rw [if_neg a1, if_neg a2, if_neg a3, if_neg (by simp only [not_or, Decidable.not_not] at a4 ⊢; exact ⟨a4.1, h1, a4.2.2⟩), if_neg (by simp only [not_or] at a5 ⊢; exact ⟨a5.1, by omega, a5.2.2⟩)]
theorem sh_mem (hv : checkAllL ls = 0) (hl : 0 < (ofL ls ins).length) {a : Bs} (h : a ∈ shL ls ins) : ∃ v : Int, a = ofI v ∧ 0 ≤ v ∧ v ≤ totC ls ins := by
  obtain ⟨v, hv', rfl⟩ := List.mem_map.1 h
  have hT := totC_nonneg (ins := ins) hv
  have e : splitV (totC ls ins) ((qsL ls ins).map valI) = splitP (totC ls ins) ((qsL ls ins).map valI) := by unfold splitV; rw [if_neg (by omega)]
  rw [e] at hv'
  have hS : 0 < ((qsL ls ins).map valI).sum := by rw [← totQ_qs]; exact totQ_pos hv hl
  have hnn := splitP_nonneg hT (fun x hx => by
    obtain ⟨q, hq, rfl⟩ := List.mem_map.1 hx
    obtain ⟨y, hy, rfl⟩ := List.mem_map.1 hq
    exact Int.le_of_lt (checkL_ok ((checkAllL_ok hv).2 y (ofL_mem' hy).1)).2.2.1) hS
  have hs := splitP_sum (T := totC ls ins) hS
  refine ⟨v, rfl, hnn v hv', ?_⟩
  rw [← hs]
  clear e hs
  generalize splitP (totC ls ins) ((qsL ls ins).map valI) = l at *
  induction l with
  | nil => cases hv'
  | cons a r ih =>
    rw [List.sum_cons]
    have h0 := hnn a (by simp)
    have h1 := sum_nonneg r (fun x hx => hnn x (by simp [hx]))
    rcases List.mem_cons.1 hv' with rfl | hm
    · omega
    · have := ih hm (fun x hx => hnn x (by simp [hx])); omega
theorem pool_mem (hv : checkAllL ls = 0) {x : LotV} (h : x ∈ poolV ls ins) : x ∈ ls ∨ ∃ y v, y ∈ ls ∧ x = { y with c := ofI v } ∧ 0 ≤ v ∧ v ≤ totC ls ins := by
  by_cases h0 : (ofL ls ins).length = 0
  · rw [poolV_zero h0] at h; exact .inl h
  · rw [poolV_pos h0] at h
    rcases chg_mem ls 0 h with ⟨k, _⟩ | ⟨k, y, hy, hi, rfl, _, h2⟩
    · exact .inl k
    · have hk : k < (shL ls ins).length := by rw [shL_len]; omega
      have hm : (shL ls ins).getD k [] ∈ shL ls ins := by rw [List.getD_eq_getElem?_getD, List.getElem?_eq_getElem hk]; exact List.getElem_mem _
      obtain ⟨v, e, h1, h3⟩ := sh_mem hv (by omega) hm
      refine .inr ⟨y, v, hy, ?_, h1, h3⟩
      unfold costed; rw [e]
theorem pool_check (hv : checkAllL ls = 0) : ∀ x ∈ poolV ls ins, checkL x = 0 := by
  intro x hx
  rcases pool_mem hv hx with h | ⟨y, v, hy, rfl, h1, _⟩
  · exact (checkAllL_ok hv).2 x h
  · exact checkL_cost ((checkAllL_ok hv).2 y hy) (checkI_ofI v) (by rw [valI_ofI]; exact h1)
theorem goAll_congr : ∀ (l m : List LotV) (seen : List Bs), (∀ x ∈ l, checkL x = 0) → (∀ x ∈ m, checkL x = 0) → l.map (·.id) = m.map (·.id) → goAll seen l = goAll seen m
  | [], [], _, _, _, _ => rfl
  | [], _ :: _, _, _, _, h => by simp at h
  | _ :: _, [], _, _, _, h => by simp at h
  | x :: r, y :: s, seen, h1, h2, h => by
    simp only [List.map_cons, List.cons.injEq] at h
    have hx := h1 x (by simp)
    have hy := h2 y (by simp)
    by_cases hm : x.id ∈ seen
    · rw [goAll_step.2.1 hx hm, goAll_step.2.1 hy (by rw [← h.1]; exact hm)]
    · rw [goAll_step.2.2 hx hm, goAll_step.2.2 hy (by rw [← h.1]; exact hm), h.1]
      exact goAll_congr r s _ (fun z hz => h1 z (by simp [hz])) (fun z hz => h2 z (by simp [hz])) h.2
theorem pool_checkAll (hv : checkAllL ls = 0) : checkAllL (poolV ls ins) = 0 := by
  have hi : (poolV ls ins).map (·.id) = ls.map (·.id) := pool_map (fun _ _ => rfl)
  have h0 := checkAllL_ok hv
  unfold checkAllL at hv ⊢
  rw [poolV_len]
  split at hv
  · cases hv
  · rename_i hn
    rw [if_neg hn, goAll_congr _ ls [] (pool_check (by unfold checkAllL; rw [if_neg hn]; exact hv)) h0.2 hi]; exact hv
theorem pool_at (k : Nat) (h : k < ls.length) (h' : k < (poolV ls ins).length) : (poolV ls ins)[k]'h' = ls[k]'h ∨ ((ls[k]'h).ins = ins ∧ ∃ a, (poolV ls ins)[k]'h' = { ls[k]'h with c := a }) := by
  by_cases h0 : (ofL ls ins).length = 0
  · left; simp only [poolV_zero h0]
  · simp only [poolV_pos h0]
    rw [chg_at ls 0 k h]
    by_cases e : (ls[k]'h).ins = ins
    · rw [if_pos e]; exact .inr ⟨e, _, rfl⟩
    · rw [if_neg e]; exact .inl rfl
theorem pool_small {L : Nat} (hv : checkAllL ls = 0) (hs : ∀ x ∈ ls, x.c.length ≤ L ∧ x.q.length ≤ 1000 ∧ x.u.length ≤ 1000 ∧ x.id.length ≤ 1000 ∧ x.ins.length ≤ 1000) (hL : L ≤ 900) (hn : ls.length ≤ 1000) : ∀ x ∈ poolV ls ins, SmallL x := by
  intro x hx
  rcases pool_mem hv hx with h | ⟨y, v, hy, rfl, h1, h2⟩
  · have := hs x h; refine ⟨?_, ?_, ?_, ?_, ?_⟩ <;> omega
  · have := hs y hy
    refine ⟨by simp only; omega, by simp only; omega, by simp only; omega, ?_, by simp only; omega⟩
    show (ofI v).length ≤ 1000
    have hc := tot_lenL (fun x => x.c) L (ofL ls ins) (fun z hz => (hs z (ofL_mem' hz).1).1) (by have : (ofL ls ins).length ≤ ls.length := List.length_filter_le _ _; omega)
    have hm := ofI_lt10' (z := v) (l := ofI (totC ls ins)) (by rw [valI_ofI]; omega) (L := L + 7) hc
    omega
end
/-- ids are distinct -/
theorem goAll_ids : ∀ (l : List LotV) (seen : List Bs), goAll seen l = 0 → (l.map (·.id)).Nodup ∧ ∀ a ∈ l.map (·.id), a ∉ seen
  | [], _, _ => ⟨by simp, by simp⟩
  | x :: r, seen, h => by
    unfold goAll at h
    split at h
    · rename_i hc; exact absurd h hc
    · split at h
      · cases h
      · rename_i hm
        obtain ⟨h1, h2⟩ := goAll_ids r _ h
        refine ⟨?_, ?_⟩
        · rw [List.map_cons, List.nodup_cons]
          exact ⟨fun hx => h2 _ hx (by simp), h1⟩
        · intro a ha
          rw [List.map_cons] at ha
          rcases List.mem_cons.1 ha with e | h'
          · rw [e]; exact hm
          · exact fun hs => h2 a h' (by simp [hs])
theorem checkAll_ids {ls : List LotV} (h : checkAllL ls = 0) : (ls.map (·.id)).Nodup := by
  unfold checkAllL at h
  split at h
  · cases h
  · exact (goAll_ids _ _ h).1
theorem findL_at : ∀ (ls : List LotV) (k : Nat) (hk : k < ls.length), (ls.map (·.id)).Nodup → findL ls (ls[k]'hk).id = some k
  | [], k, hk, _ => by simp at hk
  | x :: r, 0, _, _ => by simp [findL]
  | x :: r, k + 1, hk, h => by
    rw [List.map_cons, List.nodup_cons] at h
    have hk' : k < r.length := by simpa using hk
    unfold findL
    simp only [List.getElem_cons_succ]
    rw [if_neg, findL_at r k hk' h.2]
    · rfl
    · intro e
      exact h.1 (by rw [e]; exact List.mem_map_of_mem (List.getElem_mem _))
theorem findL_ids : ∀ (l m : List LotV) (id : Bs), l.map (·.id) = m.map (·.id) → findL l id = findL m id
  | [], [], _, _ => rfl
  | [], _ :: _, _, h => by simp at h
  | _ :: _, [], _, h => by simp at h
  | x :: r, y :: s, id, h => by
    simp only [List.map_cons, List.cons.injEq] at h
    unfold findL
    rw [h.1, findL_ids r s id h.2]
end Go.Proofs.YtikehdbkiplleaaGreatDoor

/- Plain: how even pooled costs are; what the gaps add up to. No program in sight. -/
namespace Go.Proofs.YtikehdbkiplleaaGreatDoor
open Go.RowKit

/-- by how much the cost of a lot is more than its part of the average of ins -/
def gapQ (ls : List LotV) (ins : Bs) (x : LotV) : Rat := ((valI x.c : Int) : Rat) - Rat.divInt (totC ls ins) (totQ ls ins) * ((valI x.q : Int) : Rat)
theorem ofL_pos {ls : List LotV} {ins : Bs} {k : Nat} (hk : k < ls.length) (he : (ls[k]'hk).ins = ins) : 0 < (ofL ls ins).length :=
  List.length_pos_of_mem (List.mem_filter.2 ⟨List.getElem_mem hk, by simpa using he⟩)
theorem prV_ok {ls : List LotV} {ins : Bs} (h : 0 < totQ ls ins) : prV ls ins = (ofQ (Rat.divInt (totC ls ins) (totQ ls ins)), 0) := by
  unfold prV; rw [if_neg (by omega)]
theorem gapV_at {ls : List LotV} {ins : Bs} {k : Nat} (hv : checkAllL ls = 0) (hk : k < ls.length) (he : (ls[k]'hk).ins = ins) : gapV ls (ls[k]'hk).id = (ofQ (gapQ ls ins (ls[k]'hk)), 0) := by
  have hp := totQ_pos hv (ofL_pos hk he)
  unfold gapV
  rw [if_neg (by rw [avgE_ok hv (by simp)]; decide), findL_at ls k hk (checkAll_ids hv)]
  have hgd : ls.getD k default = ls[k]'hk := by rw [List.getD_eq_getElem?_getD, List.getElem?_eq_getElem hk]; rfl
  simp only [hgd, he]
  rw [prV_ok hp]
  simp only [frQ_ofQ]
  rfl
theorem near_rat {v T S w : Int} (hS : 0 < S) (h1 : -S < v * S - T * w) (h2 : v * S - T * w < S) : -1 < ((v : Int) : Rat) - Rat.divInt T S * ((w : Int) : Rat) ∧ ((v : Int) : Rat) - Rat.divInt T S * ((w : Int) : Rat) < 1 := by
  have hSR : (0 : Rat) < (S : Rat) := Rat.intCast_pos.2 hS
  have k1 : -(S : Rat) < (v : Rat) * (S : Rat) - (T : Rat) * (w : Rat) := by
    have := Rat.intCast_lt_intCast.2 h1
    simpa using this
  have k2 : (v : Rat) * (S : Rat) - (T : Rat) * (w : Rat) < (S : Rat) := by
    have := Rat.intCast_lt_intCast.2 h2
    simpa using this
  have hm : Rat.divInt T S * (S : Rat) = (T : Rat) := by
    rw [Rat.divInt_eq_div]
    exact Rat.div_mul_cancel (by grind)
  generalize Rat.divInt T S = p at *
  generalize (S : Rat) = s at *
  generalize (T : Rat) = t at *
  generalize (v : Rat) = v at *
  generalize (w : Rat) = w at *
  subst hm
  constructor
  · refine Rat.lt_of_mul_lt_mul_right (c := s) ?_ (by grind)
    grind
  · refine Rat.lt_of_mul_lt_mul_right (c := s) ?_ (by grind)
    grind
theorem even_at {ls : List LotV} {ins : Bs} {k : Nat} (hv : checkAllL ls = 0) (hk : k < ls.length) (he : (ls[k]'hk).ins = ins) :
    ∃ x' ∈ poolV ls ins, gapV (poolV ls ins) (ls[k]'hk).id = (ofQ (gapQ (poolV ls ins) ins x'), 0) ∧ -1 < gapQ (poolV ls ins) ins x' ∧ gapQ (poolV ls ins) ins x' < 1 := by
  have hpos := ofL_pos hk he
  have hp := totQ_pos hv hpos
  have hk' : k < (poolV ls ins).length := by rw [poolV_len]; exact hk
  have hids : (poolV ls ins).map (·.id) = ls.map (·.id) := pool_map (fun _ _ => rfl)
  have hat : (poolV ls ins)[k]'hk' = costed (shL ls ins) (ofL (ls.take k) ins).length (ls[k]'hk) := by
    simp only [poolV_pos (ls := ls) (ins := ins) (by omega)]
    rw [chg_at ls 0 k hk, if_pos he, Nat.zero_add]
  have hg := gapV_at (ls := poolV ls ins) (ins := ins) (k := k) (pool_checkAll hv) hk' (by rw [hat]; exact he)
  rw [show ((poolV ls ins)[k]'hk').id = (ls[k]'hk).id by rw [hat]; rfl] at hg
  refine ⟨_, List.getElem_mem hk', hg, ?_⟩
  unfold gapQ
  rw [pool_totC hv, pool_totQ, hat]
  have hof := ofL_at hk he
  generalize (ofL (ls.take k) ins).length = j at *
  have hj : j < (ofL ls ins).length := (List.getElem?_eq_some_iff.1 hof).1
  have hjs : j < (splitP (totC ls ins) ((qsL ls ins).map valI)).length := by rw [splitP_len, List.length_map, qsL_len]; exact hj
  have hT := totC_nonneg (ins := ins) hv
  have esp : splitV (totC ls ins) ((qsL ls ins).map valI) = splitP (totC ls ins) ((qsL ls ins).map valI) := by unfold splitV; rw [if_neg (by omega)]
  have hcv : (costed (shL ls ins) j (ls[k]'hk)).c = ofI ((splitP (totC ls ins) ((qsL ls ins).map valI))[j]'hjs) := by
    show (shL ls ins).getD j [] = _
    unfold shL
    rw [esp, List.getD_eq_getElem?_getD, List.getElem?_eq_getElem (by simpa using hjs), List.getElem_map]; rfl
  have hS : 0 < ((qsL ls ins).map valI).sum := by rw [← totQ_qs]; exact hp
  have hjw : j < ((qsL ls ins).map valI).length := by rw [List.length_map, qsL_len]; exact hj
  have hnear := splitP_near (T := totC ls ins) hS j hjw hjs
  have hw : ((qsL ls ins).map valI)[j]'hjw = valI (ls[k]'hk).q := by
    rw [List.getElem_map]
    congr 1
    unfold qsL
    rw [List.getElem_map, (List.getElem?_eq_some_iff.1 hof).2]
  rw [hw, ← totQ_qs] at hnear
  rw [hcv, valI_ofI]
  exact near_rat hp hnear.1 hnear.2
/-- the sum of the gaps of the first k -/
def sumG (ls : List LotV) (ins : Bs) (k : Nat) : Rat := ((totC (ls.take k) ins : Int) : Rat) - Rat.divInt (totC ls ins) (totQ ls ins) * ((totQ (ls.take k) ins : Int) : Rat)
theorem sumG_zero (ls : List LotV) (ins : Bs) : sumG ls ins 0 = 0 := by
  unfold sumG
  have h1 : totC (ls.take 0) ins = 0 := by simp [totC, ofL]
  have h2 : totQ (ls.take 0) ins = 0 := by simp [totQ, ofL]
  rw [h1, h2]; grind
theorem sumG_hit {ls : List LotV} {ins : Bs} {k : Nat} (hk : k < ls.length) (he : (ls[k]'hk).ins = ins) : sumG ls ins k + gapQ ls ins (ls[k]'hk) = sumG ls ins (k + 1) := by
  unfold sumG gapQ
  rw [totC_hit hk he, totQ_hit hk he, Rat.intCast_add, Rat.intCast_add]
  grind
theorem sumG_skip {ls : List LotV} {ins : Bs} {k : Nat} (hk : k < ls.length) (he : (ls[k]'hk).ins ≠ ins) : sumG ls ins k = sumG ls ins (k + 1) := by
  unfold sumG totC totQ
  rw [ofL_take_skip hk he]
theorem sumG_full {ls : List LotV} {ins : Bs} (hv : checkAllL ls = 0) : sumG ls ins ls.length = 0 := by
  unfold sumG
  rw [List.take_length]
  by_cases h : (ofL ls ins).length = 0
  · have h1 : totC ls ins = 0 := by unfold totC; rw [List.length_eq_zero_iff.1 h]; rfl
    have h2 : totQ ls ins = 0 := (totQ_zero hv).2 h
    rw [h1, h2]; grind
  · have hp := totQ_pos hv (ins := ins) (by omega)
    have hSR : (0 : Rat) < ((totQ ls ins : Int) : Rat) := Rat.intCast_pos.2 hp
    have hm : Rat.divInt (totC ls ins) (totQ ls ins) * ((totQ ls ins : Int) : Rat) = ((totC ls ins : Int) : Rat) := by
      rw [Rat.divInt_eq_div]
      exact Rat.div_mul_cancel (by grind)
    rw [hm]; grind
theorem gap_qb {w : World} {A : Option Addr} {ls : List LotV} (h : LotsAt w A ls) (ins : Bs) {x : LotV} (hx : x ∈ ls) : QB 8001 (gapQ ls ins x) := by
  have hs := h.sm x hx
  have h1 : QB 2000 (Rat.divInt (totC ls ins) (totQ ls ins)) := by
    rw [← valI_ofI (totC ls ins), ← valI_ofI (totQ ls ins)]
    exact qb_two (totC_le h ins) (totQ_le h ins) (by omega)
  have h2 : QB 2000 ((valI x.q : Int) : Rat) := qb_val (by have := hs.2.2.1; omega) (by omega)
  have h3 : QB 4000 ((valI x.c : Int) : Rat) := qb_val (by have := hs.2.2.2.1; omega) (by omega)
  exact (h3.sub (h1.mul h2)).mono (by omega)
theorem sumG_qb {w : World} {A : Option Addr} {ls : List LotV} (h : LotsAt w A ls) (ins : Bs) (k : Nat) : QB 8001 (sumG ls ins k) := by
  have h1 : QB 2000 (Rat.divInt (totC ls ins) (totQ ls ins)) := by
    rw [← valI_ofI (totC ls ins), ← valI_ofI (totQ ls ins)]
    exact qb_two (totC_le h ins) (totQ_le h ins) (by omega)
  have h2 : QB 2000 ((totQ (ls.take k) ins : Int) : Rat) := by
    have := qb_val (totQ_len ins k h.sm h.le) (by omega)
    rwa [valI_ofI] at this
  have h3 : QB 4000 ((totC (ls.take k) ins : Int) : Rat) := by
    have := qb_val (L := 4000) (Nat.le_trans (totC_len ins k h.sm h.le) (by omega)) (by omega)
    rwa [valI_ofI] at this
  exact (h3.sub (h1.mul h2)).mono (by omega)
theorem absQ_lt {q : Rat} (h1 : -1 < q) (h2 : q < 1) : absQ q < 1 := by
  unfold absQ; split <;> grind
end Go.Proofs.YtikehdbkiplleaaGreatDoor

/- The walks over the law's Example, fine and abs. -/
namespace Go.Proofs.YtikehdbkiplleaaGreatDoor
open Go.RowKit
attribute [local go_sem] size_bs toList_bs

/-- valid lots, and not too many or too large -/
def fineB (ls : List LotV) : Bool := !greatAll ls && decide ((ls.length : Int) ≤ 12) && (checkAllL ls == 0)
theorem fineB_ok {ls : List LotV} (h : fineB ls = true) : greatAll ls = false ∧ ls.length ≤ 12 ∧ checkAllL ls = 0 := by
  unfold fineB at h
  simp only [Bool.and_eq_true, Bool.not_eq_true', decide_eq_true_eq, beq_iff_eq] at h
  exact ⟨h.1.1, by omega, h.2⟩
set_option maxRecDepth 100000 in
set_option maxHeartbeats 2000000 in
theorem lawFine (ls : List LotV) (A : Option Addr) (c : Nat) (w : World) (hA : RdL w A ls) (hn : ls.length ≤ 4611686018427387904) (hc : ls.length ≤ c) :
    Calls Tryz.prog 21 #[.slice A ls.length c] w fun e w' => e = .returned (.bool (fineB ls)) ∧ Ext w w' := by
  have HA := Lib.hid hA
  clear hA
  have HG := Lib.hid (refGreat ls A c w HA.out hn)
  unfold fineB
  cases hg : greatAll ls
  · rw [hg] at HG
    have HS := Lib.hid (great_small hg)
    have HN := Lib.hid (greatAll_no hg).1
    clear hg
    cases hl : decide ((ls.length : Int) ≤ 12)
    · clear HS HN
      go_enter Tryz.func21, Tryz.ntmps21
      go_wp2_with fail
      refine HG.out.mono ?_
      rintro e w1 ⟨rfl, hx1⟩
      have HX := Lib.hid hx1
      clear hx1
      go_wp2_with fail
      go_ret
      exact ⟨rfl, HX.out⟩
    · have HK := Lib.hid (fun W hx => refCheckAll ls A c W (HA.out.ext hx) HS.out (by have := HN.out; omega) hc)
      clear HS HN
      cases hk : (checkAllL ls == 0)
      all_goals
        generalize checkAllL ls = k at *
        go_enter Tryz.func21, Tryz.ntmps21
        go_wp2_with fail
        refine HG.out.mono ?_
        rintro e w1 ⟨rfl, hx1⟩
        have HX := Lib.hid hx1
        clear hx1
        go_wp2_with fail
        refine (HK.out _ HX.out).mono ?_
        rintro e v1 ⟨rfl, hx1⟩
        replace HX := Lib.hid (HX.out.trans hx1)
        clear hx1
        go_wp2_with fail
        go_ret
        exact ⟨rfl, HX.out⟩
  · rw [hg] at HG
    clear hg
    go_enter Tryz.func21, Tryz.ntmps21
    go_wp2_with fail
    refine HG.out.mono ?_
    rintro e w1 ⟨rfl, hx1⟩
    have HX := Lib.hid hx1
    clear hx1
    go_wp2_with fail
    go_ret
    exact ⟨rfl, HX.out⟩
theorem frQ_nil : frQ ⟨[], []⟩ = 0 := by
  have := frQ_ofQ 0
  rwa [ofQ_zero] at this
set_option maxRecDepth 100000 in
set_option maxHeartbeats 2000000 in
theorem lawAbs (q : Rat) (hq : QB 10000 q) : Pure 25 #[fv (ofQ q)] (fv (ofQ (absQ q))) := by
  intro w hE
  have HE := Lib.hid hE
  have l1 := hq.num_len
  have l2 := hq.den_len
  have hc := fracCmp (ofQ q) ⟨[], []⟩ (by omega) (by omega) (by simp) (by simp)
  have hn := fracNeg (ofQ q) (by omega) (by omega)
  rw [frQ_ofQ, frQ_nil] at hc
  rw [frQ_ofQ] at hn
  have HC := Lib.hid hc
  have HN := Lib.hid hn
  clear hc hn hE l1 l2
  unfold absQ
  by_cases h0 : q < 0
  · have g : decide (cmpQ q 0 < 0) = true := by rw [decide_eq_true_iff]; exact cmpQ_neg.2 h0
    rw [if_pos h0]
    clear h0 hq
    generalize cmpQ q 0 = cc at *
    generalize ofQ (-q) = r at *
    generalize ofQ q = f at *
    obtain ⟨n, d⟩ := f
    have HB := Lib.hid (Blk.newAt (w.alloc (.cells #[.string (bs n), .string (bs d)] 28)) 28 #[.string ⟨#[]⟩, .string ⟨#[]⟩] (w.heap.size + 1) (by simp))
    have HB0 := Lib.hid ((Blk.new w 28 #[.string (bs n), .string (bs d)]).alloc (.cells #[.string ⟨#[]⟩, .string ⟨#[]⟩] 28))
    have HX : Hid (Ext w ((w.alloc (.cells #[.string (bs n), .string (bs d)] 28)).alloc (.cells #[.string ⟨#[]⟩, .string ⟨#[]⟩] 28))) := Lib.hid ((Ext.new _ _).alloc _)
    go_enter Tryz.func25, Tryz.ntmps25
    go_wp2_with fail
    refine (HC.out _ (HE.out.ext HX.out)).mono ?_
    rintro e v2 ⟨rfl, hx1⟩
    replace HB := Lib.hid (HB.out.ext hx1)
    replace HB0 := Lib.hid (HB0.out.ext hx1)
    replace HX := Lib.hid (HX.out.trans hx1)
    clear hx1
    obtain ⟨a0, a1, _, _⟩ := frBlk HB0.out (Ext.refl _)
    go_wp2_with fail
    refine (HN.out _ (HE.out.ext HX.out)).mono ?_
    rintro e w2 ⟨rfl, hx1⟩
    obtain ⟨q0, q1, f0, f1⟩ := frBlk HB.out hx1
    replace HB := Lib.hid (HB.out.ext hx1)
    replace HX := Lib.hid (HX.out.trans hx1)
    clear hx1 a0 a1
    go_wp2_with fail
    refine bodyPost_ret (results_fr rfl _ _ (w.heap.size + 1) (.string (bs r.num)) (.string (bs r.den)) rfl ((HB.out.set_ 0 _).set_ 1 _)) rfl ?_
    exact ⟨rfl, (HX.out.setCell (p := ⟨w.heap.size + 1, 0, none⟩) (Nat.le_succ _) _).setCell (p := ⟨w.heap.size + 1, 1, none⟩) (Nat.le_succ _) _⟩
  · have g : decide (cmpQ q 0 < 0) = false := by rw [decide_eq_false_iff_not, cmpQ_neg]; exact h0
    rw [if_neg h0]
    clear h0 hq HN
    generalize cmpQ q 0 = cc at *
    generalize ofQ q = f at *
    obtain ⟨n, d⟩ := f
    have HB := Lib.hid (Blk.newAt (w.alloc (.cells #[.string (bs n), .string (bs d)] 28)) 28 #[.string ⟨#[]⟩, .string ⟨#[]⟩] (w.heap.size + 1) (by simp))
    have HB0 := Lib.hid ((Blk.new w 28 #[.string (bs n), .string (bs d)]).alloc (.cells #[.string ⟨#[]⟩, .string ⟨#[]⟩] 28))
    have HX : Hid (Ext w ((w.alloc (.cells #[.string (bs n), .string (bs d)] 28)).alloc (.cells #[.string ⟨#[]⟩, .string ⟨#[]⟩] 28))) := Lib.hid ((Ext.new _ _).alloc _)
    go_enter Tryz.func25, Tryz.ntmps25
    go_wp2_with fail
    refine (HC.out _ (HE.out.ext HX.out)).mono ?_
    rintro e v3 ⟨rfl, hx1⟩
    replace HB := Lib.hid (HB.out.ext hx1)
    replace HB0 := Lib.hid (HB0.out.ext hx1)
    replace HX := Lib.hid (HX.out.trans hx1)
    clear hx1
    obtain ⟨a0, a1, _, _⟩ := frBlk HB0.out (Ext.refl _)
    obtain ⟨q0, q1, f0, f1⟩ := frBlk HB.out (Ext.refl _)
    go_wp2_with fail
    refine bodyPost_ret (results_fr rfl _ _ (w.heap.size + 1) (.string (bs n)) (.string (bs d)) rfl ((HB.out.set_ 0 _).set_ 1 _)) rfl ?_
    exact ⟨rfl, (HX.out.setCell (p := ⟨w.heap.size + 1, 0, none⟩) (Nat.le_succ _) _).setCell (p := ⟨w.heap.size + 1, 1, none⟩) (Nat.le_succ _) _⟩

def exI : Bs := [97, 98, 99]
def exL : List LotV := [⟨[97, 47, 49], exI, 0, 0, [51], [49, 48], []⟩, ⟨[97, 47, 50], exI, 0, 0, [49], [51, 48], []⟩]
def ExEnds (w : World) (e : Ending) (w' : World) : Prop := ∃ A, e = .returned (.slice A 2 2) ∧ RdL w' A exL ∧ Ext w w'
set_option maxRecDepth 100000 in
theorem lawExample (w : World) : Calls Tryz.prog 48 #[] w (ExEnds w) := by
  go_enter Tryz.func48, Tryz.ntmps48
  go_wp2_with fail
  go_ret
  exact ⟨_, rfl, Reads.lit (xs := exL.flatMap lotCells) (n := 2) rfl, Ext.new _ _⟩
end Go.Proofs.YtikehdbkiplleaaGreatDoor

/- The walk over the law's awake: the chapter's example. -/
namespace Go.Proofs.YtikehdbkiplleaaGreatDoor
open Go.RowKit
attribute [local go_sem] size_bs toList_bs

theorem exSmall : ∀ x ∈ exL, SmallL x := by
  intro x hx
  simp [exL] at hx
  rcases hx with rfl | rfl <;> simp [SmallL, exI]
theorem exCheck : checkAllL exL = 0 := by kernel_rfl
theorem exTotQ : totQ exL exI = 4 := by kernel_rfl
theorem exTotC : totC exL exI = 40 := by kernel_rfl
theorem exE (ns : List Bs) (h : ∀ a ∈ ns, checkI a = 0) : avgE exL ns = 0 := avgE_ok exCheck h
theorem exPrice : priceV exL exI = (⟨[49, 48], []⟩, 0) := by
  unfold priceV prV
  rw [if_neg (by rw [exE [] (by simp)]; decide), exTotQ, exTotC, if_neg (by decide)]
  kernel_rfl
theorem exPool : poolV exL exI = [⟨[97, 47, 49], exI, 0, 0, [51], [51, 48], []⟩, ⟨[97, 47, 50], exI, 0, 0, [49], [49, 48], []⟩] := by
  kernel_rfl
theorem exGap : gapV exL [97, 47, 49] = (⟨[45, 50, 48], []⟩, 0) := by kernel_rfl
theorem exTake : takeV exL exI [50] = ([50, 48], [50, 48], 0) := by kernel_rfl
theorem exAfter : afterV exL exI [49] [53] = (⟨[57], []⟩, 0) := by kernel_rfl
end Go.Proofs.YtikehdbkiplleaaGreatDoor

/- The walk over the law's awake. -/
namespace Go.Proofs.YtikehdbkiplleaaGreatDoor
open Go.RowKit
attribute [local go_sem] size_bs toList_bs

def exM : List LotV := [⟨[97, 47, 49], exI, 0, 0, [51], [51, 48], []⟩, ⟨[97, 47, 50], exI, 0, 0, [49], [49, 48], []⟩]
def ExPool (w : World) (e : Ending) (w' : World) : Prop := ∃ A c, e = .returned (.tuple #[.slice A 2 c, .int .i64 0]) ∧ RdL w' A exM ∧ Ext w w'
set_option maxRecDepth 100000 in
set_option maxHeartbeats 4000000 in
theorem lawAwake (w : World) (hE : Env w) : Calls Tryz.prog 12 #[] w fun e w' => e = .returned (.bool true) ∧ Ext w w' := by
  go_enter Tryz.func12, Tryz.ntmps12
  go_wp2_with fail
  refine (lawExample _).mono ?_
  rintro e w1 ⟨A, rfl, hA, hx1⟩
  have hL : LotsAt w1 A exL := ⟨hA, exSmall, by decide⟩
  have hE1 := hE.ext hx1
  have H0 := Lib.hid hx1
  have HP : Hid (∀ W, Ext w1 W → Calls Tryz.prog 13 #[.slice A 2 2, .string ⟨#[97, 98, 99]⟩] W fun e w' => e = .returned (.tuple #[fv ⟨[49, 48], []⟩, .int .i64 0]) ∧ Ext W w') :=
    Lib.hid (fun W hx => by have := avgPrice exL A 2 exI W (hE1.ext hx) (hL.ext hx); rw [exPrice] at this; exact this)
  have HO : Hid (∀ W, Ext w1 W → Calls Tryz.prog 31 #[.slice A 2 2, .string ⟨#[97, 98, 99]⟩] W (ExPool W)) :=
    Lib.hid (fun W hx => by have := avgPool_ok exL A 2 exI W (hE1.ext hx) (hL.ext hx) (exE [] (by simp)) (wt_ok exI exSmall exCheck); unfold PoolOk at this; rw [exPool] at this; exact this)
  have HG : Hid (∀ W, Ext w1 W → Calls Tryz.prog 19 #[.slice A 2 2, .string ⟨#[97, 47, 49]⟩] W fun e w' => e = .returned (.tuple #[fv ⟨[45, 50, 48], []⟩, .int .i64 0]) ∧ Ext W w') :=
    Lib.hid (fun W hx => by have := avgGap exL A 2 [97, 47, 49] W (hE1.ext hx) (hL.ext hx); rw [exGap] at this; exact this)
  have HT : Hid (∀ W, Ext w1 W → Calls Tryz.prog 15 #[.slice A 2 2, .string ⟨#[97, 98, 99]⟩, .string ⟨#[50]⟩] W fun e w' => e = .returned (.tuple #[.string (bs [50, 48]), .string (bs [50, 48]), .int .i64 0]) ∧ Ext W w') :=
    Lib.hid (fun W hx => by have := avgTake exL A 2 exI [50] W (hE1.ext hx) (hL.ext hx) (by simp); rw [exTake] at this; exact this)
  have HF : Hid (∀ W, Ext w1 W → Calls Tryz.prog 17 #[.slice A 2 2, .string ⟨#[97, 98, 99]⟩, .string ⟨#[49]⟩, .string ⟨#[53]⟩] W fun e w' => e = .returned (.tuple #[fv ⟨[57], []⟩, .int .i64 0]) ∧ Ext W w') :=
    Lib.hid (fun W hx => by have := avgAfter exL A 2 exI [49] [53] W (hE1.ext hx) (hL.ext hx) (by simp) (by simp); rw [exAfter] at this; exact this)
  have HX := Lib.hid (Ext.refl w1)
  clear hA hL hE hE1 hx1
  go_wp2_with fail
  refine (HP.out _ HX.out).mono ?_
  rintro e w2 ⟨rfl, hx1⟩
  replace HX := Lib.hid (HX.out.trans hx1)
  clear hx1
  have HB2 := Lib.hid (Blk.new w2 28 #[.string (bs [49, 48]), .string (bs [])])
  replace HX := Lib.hid (HX.out.alloc (.cells #[.string (bs [49, 48]), .string (bs [])] 28))
  go_wp2_with fail
  refine (HO.out _ HX.out).mono ?_
  rintro e w3 ⟨A3, c3, rfl, hr3, hx1⟩
  replace HB2 := Lib.hid (HB2.out.ext hx1)
  replace HX := Lib.hid (HX.out.trans hx1)
  clear hx1
  have HM := Lib.hid hr3
  clear hr3
  go_wp2_with fail
  refine (HG.out _ HX.out).mono ?_
  rintro e w4 ⟨rfl, hx1⟩
  replace HB2 := Lib.hid (HB2.out.ext hx1)
  replace HM := Lib.hid (HM.out.ext hx1)
  replace HX := Lib.hid (HX.out.trans hx1)
  clear hx1
  have HB4 := Lib.hid (Blk.new w4 28 #[.string (bs [45, 50, 48]), .string (bs [])])
  replace HX := Lib.hid (HX.out.alloc (.cells #[.string (bs [45, 50, 48]), .string (bs [])] 28))
  replace HB2 := Lib.hid (HB2.out.alloc (.cells #[.string (bs [45, 50, 48]), .string (bs [])] 28))
  replace HM := Lib.hid (HM.out.ext (Ext.new w4 (.cells #[.string (bs [45, 50, 48]), .string (bs [])] 28)))
  go_wp2_with fail
  refine (HT.out _ HX.out).mono ?_
  rintro e w5 ⟨rfl, hx1⟩
  replace HB2 := Lib.hid (HB2.out.ext hx1)
  replace HM := Lib.hid (HM.out.ext hx1)
  replace HB4 := Lib.hid (HB4.out.ext hx1)
  replace HX := Lib.hid (HX.out.trans hx1)
  clear hx1
  go_wp2_with fail
  refine (HF.out _ HX.out).mono ?_
  rintro e w6 ⟨rfl, hx1⟩
  replace HB2 := Lib.hid (HB2.out.ext hx1)
  replace HM := Lib.hid (HM.out.ext hx1)
  replace HB4 := Lib.hid (HB4.out.ext hx1)
  replace HX := Lib.hid (HX.out.trans hx1)
  clear hx1
  have HB6 := Lib.hid (Blk.new w6 28 #[.string (bs [57]), .string (bs [])])
  replace HX := Lib.hid (HX.out.alloc (.cells #[.string (bs [57]), .string (bs [])] 28))
  replace HB2 := Lib.hid (HB2.out.alloc (.cells #[.string (bs [57]), .string (bs [])] 28))
  replace HB4 := Lib.hid (HB4.out.alloc (.cells #[.string (bs [57]), .string (bs [])] 28))
  replace HM := Lib.hid (HM.out.ext (Ext.new w6 (.cells #[.string (bs [57]), .string (bs [])] 28)))
  go_upto_region 7 with fail
  generalize w6.alloc (.cells #[.string (bs [57]), .string (bs [])] 28) = W at *
  obtain ⟨a0, a1, _, _⟩ := frBlk HB2.out (Ext.refl _)
  obtain ⟨b0, b1, _, _⟩ := frBlk HB4.out (Ext.refl _)
  obtain ⟨d0, d1, _, _⟩ := frBlk HB6.out (Ext.refl _)
  obtain ⟨b, o, rfl, hb, _, _, _, _, _, c5, _⟩ := HM.out.at_ (k := 0) (by decide)
  obtain ⟨b', o', he, hb', _, _, _, _, _, e5, _⟩ := HM.out.at_ (k := 1) (by decide)
  simp only [Option.some.injEq, Addr.mk.injEq, and_true] at he
  obtain ⟨rfl, rfl⟩ := he
  have c5a : W.cell? ⟨b, o + 5, none⟩ = some (.string (bs [51, 48])) := c5
  have e5a : W.cell? ⟨b, o + 7 + 5, none⟩ = some (.string (bs [49, 48])) := e5
  have e5b : W.cell? ⟨b, o + 12, none⟩ = some (.string (bs [49, 48])) := e5
  clear c5 e5 hb' HP HO HG HT HF HB2 HB4 HB6 HM
  go_wp2_with fail
  go_ret
  exact ⟨rfl, H0.out.trans HX.out⟩
end Go.Proofs.YtikehdbkiplleaaGreatDoor
