/- The seat's texts, part 3 of 5. -/
import Derived.Test.YthgpheopnhajaaaGreatDoorV2
import Derived.Lib.OthersKept
import Derived.Test.YthgpheopnhajaaaGreatDoorProg
import Derived.Laws.Runes
import Derived.IntWalk
import Derived.BigQuiet

/- The shelf's contracts on strings.Builder that the shelf's own command does not lay at this dump, laid by hand-made tables (handlay.py). -/
namespace Go.Proofs
open Go.Shelf
def Tryz.lays166_ren : Go.Shelf.Ren := ⟨fun | 166 => 137 | 240 => 207 | 276 => 269 | n => n, fun | 70 => 190 | 72 => 193 | 37 => 191 | 164 => 278 | 75 => 185 | 80 => 198 | 20 => 20 | 0 => 0 | 3 => 3 | 4 => 4 | 5 => 5 | 9 => 9 | n => n, fun | n => n⟩
theorem Tryz.lays166 : Go.Proofs.Lays.n166 Tryz.prog Tryz.lays166_ren := {
  mixed := by kernel_rfl
  f166 := Tryz.func137.trans (congrArg some (by kernel_rfl))
  f240 := Tryz.func207.trans (congrArg some (by kernel_rfl))
  f276 := Tryz.func269.trans (congrArg some (by kernel_rfl))
  t0 := Tryz.underlying0
  a0 := Tryz.isAgg0
  z0 := Tryz.sizeOf0
  v0 := Tryz.zeroValue0
  t3 := Tryz.underlying3
  a3 := Tryz.isAgg3
  z3 := Tryz.sizeOf3
  v3 := Tryz.zeroValue3
  t4 := Tryz.underlying4
  a4 := Tryz.isAgg4
  z4 := Tryz.sizeOf4
  v4 := Tryz.zeroValue4
  t9 := Tryz.underlying9
  a9 := Tryz.isAgg9
  z9 := Tryz.sizeOf9
  v9 := Tryz.zeroValue9
  t20 := Tryz.underlying20
  a20 := Tryz.isAgg20
  z20 := Tryz.sizeOf20
  v20 := Tryz.zeroValue20
  t37 := Tryz.underlying191
  a37 := Tryz.isAgg191
  z37 := Tryz.sizeOf191
  v37 := Tryz.zeroValue191
  t70 := Tryz.underlying190
  a70 := Tryz.isAgg190
  z70 := Tryz.sizeOf190
  v70 := Tryz.zeroValue190
  t72 := Tryz.underlying193
  a72 := Tryz.isAgg193
  z72 := Tryz.sizeOf193
  v72 := Tryz.zeroValue193
  t75 := Tryz.underlying185
  a75 := Tryz.isAgg185
  z75 := Tryz.sizeOf185
  v75 := Tryz.zeroValue185
  t164 := Tryz.underlying278
  a164 := Tryz.isAgg278
  z164 := Tryz.sizeOf278
  v164 := Tryz.zeroValue278
}
def Tryz.lays167_ren : Go.Shelf.Ren := ⟨fun | 167 => 136 | 240 => 207 | 276 => 269 | n => n, fun | 70 => 190 | 72 => 193 | 37 => 191 | 164 => 278 | 75 => 185 | 80 => 198 | 20 => 20 | 0 => 0 | 3 => 3 | 4 => 4 | 5 => 5 | 9 => 9 | n => n, fun | n => n⟩
theorem Tryz.lays167 : Go.Proofs.Lays.n167 Tryz.prog Tryz.lays167_ren := {
  mixed := by kernel_rfl
  f167 := Tryz.func136.trans (congrArg some (by kernel_rfl))
  f240 := Tryz.func207.trans (congrArg some (by kernel_rfl))
  f276 := Tryz.func269.trans (congrArg some (by kernel_rfl))
  t0 := Tryz.underlying0
  a0 := Tryz.isAgg0
  z0 := Tryz.sizeOf0
  v0 := Tryz.zeroValue0
  t4 := Tryz.underlying4
  a4 := Tryz.isAgg4
  z4 := Tryz.sizeOf4
  v4 := Tryz.zeroValue4
  t5 := Tryz.underlying5
  a5 := Tryz.isAgg5
  z5 := Tryz.sizeOf5
  v5 := Tryz.zeroValue5
  t9 := Tryz.underlying9
  a9 := Tryz.isAgg9
  z9 := Tryz.sizeOf9
  v9 := Tryz.zeroValue9
  t20 := Tryz.underlying20
  a20 := Tryz.isAgg20
  z20 := Tryz.sizeOf20
  v20 := Tryz.zeroValue20
  t37 := Tryz.underlying191
  a37 := Tryz.isAgg191
  z37 := Tryz.sizeOf191
  v37 := Tryz.zeroValue191
  t70 := Tryz.underlying190
  a70 := Tryz.isAgg190
  z70 := Tryz.sizeOf190
  v70 := Tryz.zeroValue190
  t72 := Tryz.underlying193
  a72 := Tryz.isAgg193
  z72 := Tryz.sizeOf193
  v72 := Tryz.zeroValue193
  t75 := Tryz.underlying185
  a75 := Tryz.isAgg185
  z75 := Tryz.sizeOf185
  v75 := Tryz.zeroValue185
  t164 := Tryz.underlying278
  a164 := Tryz.isAgg278
  z164 := Tryz.sizeOf278
  v164 := Tryz.zeroValue278
}
theorem Tryz.Builder_Extra_166 : Builder.Extra Tryz.prog Tryz.lays166_ren := {
  sizeBuilder := by kernel_rfl
  liesBuilder := by kernel_rfl
  t5 := Tryz.underlying5
  a5 := Tryz.isAgg5
  z5 := Tryz.sizeOf5
  v5 := Tryz.zeroValue5
  infoByte := by kernel_rfl
  cellsByte := by kernel_rfl
  sizeByte := by kernel_rfl
  neB5 := by decide
}
theorem Tryz.Builder_Extra_167 : Builder.Extra Tryz.prog Tryz.lays167_ren := {
  sizeBuilder := by kernel_rfl
  liesBuilder := by kernel_rfl
  t5 := Tryz.underlying5
  a5 := Tryz.isAgg5
  z5 := Tryz.sizeOf5
  v5 := Tryz.zeroValue5
  infoByte := by kernel_rfl
  cellsByte := by kernel_rfl
  sizeByte := by kernel_rfl
  neB5 := by decide
}
open Go.RowKit in
theorem Tryz.Builder_WriteString_k (B b : Nat) (bs : List Value) (s : ByteArray) (w : World) (h : Lib.IsBuilderF 193 5 B b bs w) (hlen : bs.length + s.size ≤ 140737488355328) (hBw : B ≤ w.heap.size) :
    Calls Tryz.prog 137 #[.pointer (some ⟨b, 0, none⟩), .string s] w fun e w' => e = .returned (.tuple #[.int .i64 s.size, .nilIface]) ∧ (Lib.BuilderAtF 193 5 B b (.pointer (some ⟨b, 0, none⟩)) (bs ++ Lib.strCells s) w' ∧ Below B w w' ∧ Lib.OthersKept 5 (some b) w w') := Any.Builder_WriteString_k Tryz.lays166 Tryz.Builder_Extra_166 B b bs s w h hlen hBw
open Go.RowKit in
theorem Tryz.Builder_WriteByte_k (B b : Nat) (bs : List Value) (c : Int) (w : World) (h : Lib.IsBuilderF 193 5 B b bs w) (hlen : bs.length + 1 ≤ 140737488355328) (hBw : B ≤ w.heap.size) :
    Calls Tryz.prog 136 #[.pointer (some ⟨b, 0, none⟩), .int .u8 c] w fun e w' => e = .returned .nilIface ∧ (Lib.BuilderAtF 193 5 B b (.pointer (some ⟨b, 0, none⟩)) (bs ++ [.int .u8 c]) w' ∧ Below B w w' ∧ Lib.OthersKept 5 (some b) w w') := Any.Builder_WriteByte_k Tryz.lays167 Tryz.Builder_Extra_167 B b bs c w h hlen hBw
end Go.Proofs

/- A Builder that a call fills. -/
namespace Go.Proofs.YthgpheopnhajaaaGreatDoor
open Go.RowKit Go.Shelf
attribute [local go_sem] size_bs toList_bs extract_bs get_bs append_bs lit_append append_lit
/-- the Builder in block b holds l -/
def Bld (B b : Nat) (l : Bs) (w : World) : Prop := Lib.IsBuilderF 193 5 B b (Lib.byteCells l) w
theorem Bld.ext {B b : Nat} {l : Bs} {w w' : World} (h : Bld B b l w) (hx : Ext w w') : Bld B b l w' := by
  have key : ∀ p, Lib.BuilderAtF 193 5 B b p (Lib.byteCells l) w → Lib.BuilderAtF 193 5 B b p (Lib.byteCells l) w' := by
    rintro p ⟨hB, v, hb, hown, hne⟩
    have hlt : b < w.heap.size := by
      rcases Nat.lt_or_ge b w.heap.size with h | h
      · exact h
      · rw [Array.getElem?_eq_none h] at hb; cases hb
    exact ⟨hB, v, (hx.block b hlt).trans hb, hown.kept (row := none) ⟨hx.os, hx.tape, hx.output, hx.size, fun i hi _ => hx.block i hi⟩ (by cases v.ownBlock <;> simp), hne⟩
  rcases h with h | h
  · exact .inl (key _ h)
  · exact .inr (key _ h)
theorem Bld.new (w : World) : Bld w.heap.size w.heap.size [] (w.alloc (.cells #[.pointer none, .slice none 0 0] 193)) :=
  .inl ⟨Nat.le_refl _, .slice none 0 0, heap_alloc_new w _, World.ownsRowF_nil _ _ _ _, by simp [Value.ownBlock]⟩
theorem Bld.lt {B b : Nat} {l : Bs} {w : World} (h : Bld B b l w) : b < w.heap.size := by
  rcases h with h | h <;> exact h.lt
end Go.Proofs.YthgpheopnhajaaaGreatDoor

/- Plain: the values of strings that are written digit by digit. No program in sight. -/
namespace Go.Proofs.YthgpheopnhajaaaGreatDoor
open Go.RowKit
theorem natOf_noZeros (t : Bs) : natOf (noZeros t) = natOf t := by
  induction t with
  | nil => rfl
  | cons c r ih =>
    by_cases hc : (c == 48) = true
    · have e : noZeros (c :: r) = noZeros r := by simp only [noZeros]; rw [if_pos hc]
      obtain rfl : c = 48 := by simpa using hc
      rw [e, ih]; exact (natOf_zeros 1 r).symm
    · have e : noZeros (c :: r) = c :: r := by simp only [noZeros]; rw [if_neg hc]
      rw [e]
theorem isMin_dig {t : Bs} (h : t.all isD = true) : isMin t = false := by
  cases t with
  | nil => rfl
  | cons c r =>
    simp only [List.all_cons, Bool.and_eq_true] at h
    have := (isD_iff c).1 h.1
    simp only [isMin, beq_eq_false_iff_ne]
    rintro rfl; revert this; decide
theorem valI_dig {t : Bs} (h : t.all isD = true) : valI t = (natOf t : Int) := by
  have hm : mag t = noZeros t := by
    show magT (strip t) = _
    unfold strip; rw [isMin_dig h]; exact magT_good t h
  have hn : neg t = false := by show negT (isMin t) (strip t) = false; rw [isMin_dig h]; rfl
  unfold valI; rw [hn, hm, natOf_noZeros]; rfl
theorem valI_min {t : Bs} (h : t.all isD = true) : valI (45 :: t) = -(natOf t : Int) := by
  have hm : mag (45 :: t) = noZeros t := magT_good t h
  have hn : neg (45 :: t) = !(noZeros t).isEmpty := by
    show negT true t = _
    unfold negT; rw [magT_good t h]; rfl
  unfold valI; rw [hn, hm, natOf_noZeros]
  cases hz : noZeros t with
  | nil =>
    have := natOf_noZeros t
    rw [hz, natOf_nil] at this
    rw [← this]; rfl
  | cons c r => rfl
theorem valI_ofI (z : Int) : valI (ofI z) = z := by
  unfold ofI; split
  · rw [valI_min (dig10_all _), natOf_dig10]; omega
  · rw [valI_dig (dig10_all _), natOf_dig10]; omega
theorem lowT_val : ∀ (r : List Nat), (∀ g ∈ r, g < B9) → natOf (lowT r) = gval r
  | [], _ => rfl
  | g :: r, h => by
    rw [lowT_cons, natOf_append, pad9_len (h g (by simp)), pad9_val, lowT_val r (fun x hx => h x (by simp [hx]))]
    show _ = g + B9 * gval r
    rw [show (10 : Nat) ^ 9 = B9 from rfl, Nat.mul_comm]; omega
/-- the canonical text of a sign and groups -/
theorem canon_low (b : Bool) (gs : List Nat) (h : ∀ g ∈ gs, g < B9) : canon (if b then 45 :: lowT gs else lowT gs) = ofI (if b then -(gval gs : Int) else gval gs) := by
  rw [canon_ofI]
  cases b
  · rw [if_neg (by decide), if_neg (by decide), valI_dig (lowT_all gs), lowT_val gs h]
  · rw [if_pos rfl, if_pos rfl, valI_min (lowT_all gs), lowT_val gs h]
theorem ofI_nil_iff (z : Int) : ofI z = [] ↔ z = 0 := by
  constructor
  · intro h
    have := valI_ofI z
    rw [h] at this; rw [← this]; decide
  · rintro rfl; unfold ofI; rw [if_neg (by decide)]; exact dig10_zero
/-- the digits from below: the text of the last j digits of n, nine of them are pad9 -/
def lastT (n : Nat) : Nat → Bs | 0 => [] | j + 1 => UInt8.ofNat (48 + n / 10 ^ j % 10) :: lastT n j
theorem lastT_len (n j : Nat) : (lastT n j).length = j := by induction j with | zero => rfl | succ j ih => simp [lastT, ih]
theorem dig_isD (n : Nat) : isD (UInt8.ofNat (48 + n % 10)) = true := (dig_of _ (Nat.mod_lt _ (by decide))).1
theorem lastT_all (n j : Nat) : (lastT n j).all isD = true := by
  induction j with
  | zero => rfl
  | succ j ih => rw [lastT, List.all_cons, ih, Bool.and_true]; exact dig_isD _
theorem lastT_val (n j : Nat) : natOf (lastT n j) = n % 10 ^ j := by
  induction j with
  | zero => simp [lastT, natOf, Nat.mod_one]
  | succ j ih =>
    have e : natOf (lastT n (j + 1)) = natOf [UInt8.ofNat (48 + n / 10 ^ j % 10)] * 10 ^ (lastT n j).length + natOf (lastT n j) := natOf_append [_] (lastT n j)
    have e2 : natOf [UInt8.ofNat (48 + n / 10 ^ j % 10)] = n / 10 ^ j % 10 := by
      show 10 * 0 + dval _ = _
      rw [dval_dig (Nat.mod_lt _ (by decide))]; omega
    rw [e, e2, lastT_len, ih, Nat.pow_succ, Nat.mod_mul, Nat.mul_comm]; omega
theorem dig_inj : ∀ {a b : Bs}, a.all isD = true → b.all isD = true → a.length = b.length → natOf a = natOf b → a = b := by
  intro a
  induction a using snocInd with
  | h0 => intro b _ _ hl _; exact (List.length_eq_zero_iff.1 hl.symm).symm
  | h1 a x ih =>
    intro b ha hb hl hv
    have hne : b ≠ [] := by intro h; subst h; simp at hl
    obtain ⟨b', y, rfl⟩ : ∃ b' y, b = b' ++ [y] := ⟨b.dropLast, b.getLast hne, (List.dropLast_concat_getLast hne).symm⟩
    rw [List.all_append, Bool.and_eq_true] at ha hb
    rw [natOf_snoc, natOf_snoc] at hv
    have hx : isD x = true := by simpa using ha.2
    have hy : isD y = true := by simpa using hb.2
    have h1 := dval_lt hx
    have h2 := dval_lt hy
    have h3 : dval x = dval y := by omega
    have h4 : natOf a = natOf b' := by omega
    rw [ih ha.1 hb.1 (by simpa using hl) h4]
    have hx' := (isD_iff x).1 hx
    have hy' := (isD_iff y).1 hy
    have : x = y := UInt8.toNat_inj.1 (by unfold dval at h3; omega)
    rw [this]
theorem lastT_nine {g : Nat} (h : g < B9) : lastT g 9 = pad9 g := by
  refine dig_inj (lastT_all g 9) (pad9_all g) (by rw [lastT_len, pad9_len h]) ?_
  rw [lastT_val, pad9_val]; exact Nat.mod_eq_of_lt h
theorem natOf_take_succ (m : Bs) (k : Nat) (h : k < m.length) : natOf (m.take (k + 1)) = 10 * natOf (m.take k) + dval (m[k]'h) := by
  rw [List.take_succ_eq_append_getElem h, natOf_snoc]
theorem lowT_len (r : List Nat) (h : ∀ g ∈ r, g < B9) : (lowT r).length = 9 * r.length := by
  induction r with
  | nil => rfl
  | cons g r ih => rw [lowT_cons, List.length_append, ih (fun x hx => h x (by simp [hx])), pad9_len (h g (by simp)), List.length_cons]; omega
end Go.Proofs.YthgpheopnhajaaaGreatDoor

/- The walk over the program's text of a number. -/
namespace Go.Proofs.YthgpheopnhajaaaGreatDoor
open Go.RowKit
attribute [local go_sem] size_bs toList_bs extract_bs get_bs append_bs lit_append append_lit
theorem bldWrite (B b : Nat) (cur l : Bs) (w : World) (hB : Bld B b cur w) (hl : cur.length + l.length ≤ 1000000000) (hBw : B ≤ w.heap.size) :
    Calls Tryz.prog 137 #[.pointer (some ⟨b, 0, none⟩), .string (bs l)] w fun e w' => e = .returned (.tuple #[.int .i64 l.length, .nilIface]) ∧ Bld B b (cur ++ l) w' ∧ Below B w w' := by
  refine (Tryz.Builder_WriteString_k B b (Lib.byteCells cur) (bs l) w hB (by rw [Lib.byteCells_length, size_bs]; omega) hBw).mono ?_
  rintro e w' ⟨rfl, h1, h2, _⟩
  have e : Lib.byteCells cur ++ Lib.strCells (bs l) = Lib.byteCells (cur ++ l) := by
    unfold Lib.strCells Lib.byteCells; rw [data_bs]; exact List.map_append.symm
  rw [e] at h1
  exact ⟨by rw [size_bs], .inr h1, h2⟩
theorem bldMinus (B b : Nat) (cur : Bs) (w : World) (hB : Bld B b cur w) (hl : cur.length ≤ 1000000000) (hBw : B ≤ w.heap.size) :
    Calls Tryz.prog 136 #[.pointer (some ⟨b, 0, none⟩), .int .u8 45] w fun e w' => e = .returned .nilIface ∧ Bld B b (cur ++ [45]) w' ∧ Below B w w' := by
  refine (Tryz.Builder_WriteByte_k B b (Lib.byteCells cur) 45 w hB (by rw [Lib.byteCells_length]; omega) hBw).mono ?_
  rintro e w' ⟨rfl, h1, h2, _⟩
  have e : Lib.byteCells cur ++ [.int .u8 45] = Lib.byteCells (cur ++ [45]) := by
    unfold Lib.byteCells; rw [List.map_append]; rfl
  rw [e] at h1
  exact ⟨rfl, .inr h1, h2⟩
theorem repeat_zero (k : Nat) : Lib.repeatL [48] k = List.replicate k 48 := by
  induction k with
  | zero => rfl
  | succ k ih => rw [List.replicate_succ, ← ih]; simp [Lib.repeatL]
def txt (b : Bool) (n : Nat) : Bs := if n = 0 then [] else if b then 45 :: dig10 n else dig10 n
theorem txt_ofI (b : Bool) (n : Nat) : txt b n = ofI (sgn b n) := by
  by_cases h : n = 0
  · subst h
    have e : sgn b 0 = 0 := by cases b <;> rfl
    rw [e, (ofI_nil_iff 0).2 rfl]; rfl
  · cases b
    · have e : sgn false n = (n : Int) := rfl
      have h2 : ofI (n : Int) = dig10 n := by unfold ofI; rw [if_neg (by omega), Int.natAbs_natCast]
      rw [e, h2]; unfold txt; rw [if_neg h]; rfl
    · have e : sgn true n = -(n : Int) := rfl
      have h2 : ofI (-(n : Int)) = 45 :: dig10 n := by unfold ofI; rw [if_pos (by omega), Int.natAbs_neg, Int.natAbs_natCast]
      rw [e, h2]; unfold txt; rw [if_neg h]; rfl
def preT (b : Bool) : Bs := if b then [45] else []
/-- how the loop of text stands -/
def TextAt (b : Bool) (top : Nat) (r : List Nat) (_w w1 : World) (z : Value) (wr : World) : Prop :=
  ∃ k : Nat, k ≤ r.length ∧ z = .int .i64 ((k : Int) - 1) ∧ Bld w1.heap.size w1.heap.size (preT b ++ fmtU top ++ lowT (r.drop k)) wr ∧ Ext w1 wr
set_option maxRecDepth 100000 in
set_option maxHeartbeats 4000000 in
theorem intText (b : Bool) (n : Nat) (A : Option Addr) (c : Nat) (w : World) (hA : RdU w A (gr n)) (hn : (gr n).length ≤ 1000000) (hc : (gr n).length ≤ c) (hm : c ≤ maxLen) (hE : Env w) :
    Calls Tryz.prog 80 #[.agg #[.bool b, .slice A (gr n).length c]] w fun e w' => e = .returned (.string (bs (txt b n))) ∧ Ext w w' := by
  have HCUT := Lib.hid (fun W h => intCut (gr n) A c W h hc hm (gr_lt n))
  rw [cutL_gr_self] at HCUT
  have HE := Lib.hid hE
  clear hE
  by_cases h0 : n = 0
  · subst h0
    have HA := Lib.hid hA
    clear hA
    rw [gr_zero] at *
    go_enter Tryz.func80, Tryz.ntmps80
    go_wp2_with fail
    refine (HCUT.out _ (HA.out.ext (Ext.new _ _))).mono ?_
    rintro e w1 ⟨rfl, rfl⟩
    go_wp2_with fail
    go_ret
    exact ⟨rfl, Ext.new _ _⟩
  · obtain ⟨r, top, hr⟩ : ∃ r top, gr n = r ++ [top] := by
      have : gr n ≠ [] := by rw [gr_pos h0]; simp
      exact ⟨(gr n).dropLast, (gr n).getLast this, (List.dropLast_concat_getLast this).symm⟩
    have HT : Hid (preT b ++ fmtU top ++ lowT r = txt b n) := Lib.hid (by
      rw [List.append_assoc, text_gr hr]; unfold preT txt; rw [if_neg h0]; cases b <;> rfl)
    have hb := gr_lt n
    rw [hr] at hb hA hc HCUT hn ⊢
    have HB := Lib.hid (fun g (hg : g ∈ r) => hb g (List.mem_append_left _ hg))
    have htop : top < 1000000000 := hb top (by simp)
    have hrl : (r ++ [top]).length = r.length + 1 := by simp
    rw [hrl] at hc hn HCUT ⊢
    have hln : r.length ≤ 1000000 := by omega
    have HA := Lib.hid hA
    have hft := fmtU_len (g := top) htop
    clear hA hb hr hrl h0
    go_enter Tryz.func80, Tryz.ntmps80
    go_wp2_with fail
    refine (HCUT.out _ (HA.out.ext (Ext.new _ _))).mono ?_
    rintro e w0 ⟨rfl, rfl⟩
    obtain ⟨ab, ao, rfl, hab, hcell0⟩ := HA.out.at_ (k := r.length) (by simp)
    have HCT : Hid (w.cell? ⟨ab, ao + r.length, none⟩ = some (.int .u64 top)) := Lib.hid (by simpa using hcell0)
    have HCR : Hid (∀ (k : Nat) (h : k < r.length), w.cell? ⟨ab, ao + k, none⟩ = some (.int .u64 (r[k]'h))) := Lib.hid (fun k h => by
      have := Reads.cell HA.out (j := k) (u := .int .u64 (r[k]'h)) (by rw [ucells, List.map_append, List.getElem?_append_left (by simpa using h)]; simp [h])
      exact this)
    clear hcell0
    have HX0 : Hid (Ext w (w.alloc (.cells #[.bool b, .slice (some ⟨ab, ao, none⟩) (r.length + 1) c] 124))) := Lib.hid (Ext.new _ _)
    have HBX := Lib.hid (blk_at w 124 #[.bool b, .slice (some ⟨ab, ao, none⟩) (r.length + 1) c] w.heap.size rfl)
    have x0 := HBX.out.cell 0
    simp only [List.getElem?_toArray, List.getElem?_cons_zero] at x0
    generalize (w.alloc (.cells #[.bool b, .slice (some ⟨ab, ao, none⟩) (r.length + 1) c] 124)) = w1 at *
    have hl1 := HBX.out.lt
    have hlz : ((r.length : Int) + 1 == 0) = false := by rw [beq_eq_false_iff_ne]; omega
    have hab1 : ab < w1.heap.size := Nat.lt_of_lt_of_le hab HX0.out.size
    have hct := (HX0.out.cell (p := ⟨ab, ao + r.length, none⟩) hab).trans HCT.out
    cases b
    · go_wp2_with fail
      refine (fmtUint top (by omega) _ (HE.out.ext (HX0.out.trans (Ext.new _ _)))).mono ?_
      rintro e w2 ⟨rfl, hx2⟩
      have HX2 := Lib.hid hx2
      clear hx2
      go_wp2_with fail
      refine (bldWrite w1.heap.size w1.heap.size [] (fmtU top) _ ((Bld.new w1).ext HX2.out) (by simp; omega) (HX2.out.of_alloc).size).mono ?_
      rintro e w3 ⟨rfl, hB3, hb3⟩
      have HB3 : Hid (Bld w1.heap.size w1.heap.size (preT false ++ fmtU top ++ lowT (r.drop r.length)) w3) := Lib.hid (by
        rw [List.drop_length]; simpa [preT, lowT] using hB3)
      have HX3 : Hid (Ext w1 w3) := Lib.hid (Below.trans (HX2.out.of_alloc) hb3)
      clear hB3 hb3 HX2 hct
      go_wp2_with fail
      go_loopw [5, 6] (fun z _ wr => TextAt false top r w w1 z wr) (fun z _ _ => (intOf z + 1).toNat)
      case atStart => exact ⟨r.length, Nat.le_refl _, by first | rfl | go_num | (congr 1; omega), HB3.out, HX3.out⟩
      case round =>
        clear HB3 HX3
        obtain ⟨k, hk, rfl, hB, hx⟩ := hrel
        have HBr := Lib.hid hB
        have HXr := Lib.hid hx
        clear hB hx
        rcases Nat.eq_zero_or_pos k with h0 | h0
        · subst h0
          have HB9 : Hid (Bld w1.heap.size w1.heap.size (txt false n) wr) := Lib.hid (by rw [← HT.out]; exact HBr.out)
          go_wp2_with fail
          refine (Tryz.Builder_String_any_f w1.heap.size w1.heap.size (txt false n) _ HB9.out HXr.out.size).mono ?_
          rintro e w6 ⟨rfl, _, hb6⟩
          go_wp2_with fail
          go_ret
          exact ⟨rfl, HX0.out.trans (Below.trans HXr.out hb6)⟩
        · obtain ⟨j, rfl⟩ : ∃ j, k = j + 1 := ⟨k - 1, by omega⟩
          have hj : j < r.length := by omega
          have hcj := (HXr.out.cell (p := ⟨ab, ao + j, none⟩) hab1).trans ((HX0.out.cell (p := ⟨ab, ao + j, none⟩) hab).trans (HCR.out j hj))
          have hg : (r[j]'hj) < 1000000000 := HB.out _ (List.getElem_mem hj)
          have HGL := Lib.hid (fmtU_len (g := r[j]'hj) hg)
          have HNX : Hid (preT false ++ fmtU top ++ lowT (r.drop (j + 1)) ++ (List.replicate (9 - (fmtU (r[j]'hj)).length) 48 ++ fmtU (r[j]'hj)) = preT false ++ fmtU top ++ lowT (r.drop j)) := Lib.hid (by
            rw [List.drop_eq_getElem_cons hj, lowT_cons]; unfold pad9; simp only [List.append_assoc])
          have HCL : Hid ((preT false ++ fmtU top ++ lowT (r.drop (j + 1))).length ≤ 9000100) := Lib.hid (by
            rw [List.length_append, List.length_append, lowT_len _ (fun g hg => HB.out g (List.mem_of_mem_drop hg)), List.length_drop]
            have : (preT false).length ≤ 1 := by decide
            omega)
          have e0 : ((j + 1 : Nat) : Int) - 1 = (j : Int) := by omega
          rw [e0]
          clear e0
          generalize r[j]'hj = g at *
          go_wp2_with fail
          refine (fmtUint g (by omega) _ (HE.out.ext (HX0.out.trans HXr.out))).mono ?_
          rintro e w4 ⟨rfl, hx4⟩
          have HX4 := Lib.hid hx4
          clear hx4
          have hfl := HGL.out
          generalize fmtU g = fg at *
          go_wp2_with fail
          refine (repeat_any [48] (9 - (fg.length : Int)) _ (by omega) (by omega) (by simp)).mono ?_
          rintro e w5 ⟨rfl, hx5⟩
          have er : Lib.repeatL [48] (9 - (fg.length : Int)).toNat = List.replicate (9 - fg.length) 48 := by rw [repeat_zero]; congr 1; omega
          rw [er]
          have HX5 := Lib.hid (HX4.out.trans hx5)
          clear hx5 er
          have hrl : (List.replicate (9 - fg.length) (48 : UInt8)).length ≤ 9 := by simp
          generalize hrp : List.replicate (9 - fg.length) (48 : UInt8) = rp at *
          clear hrp
          go_wp2_with fail
          refine (bldWrite w1.heap.size w1.heap.size _ (rp ++ fg) _ (HBr.out.ext HX5.out) (by have := HCL.out; have h2 : (rp ++ fg).length = rp.length + fg.length := List.length_append; omega) (Nat.le_trans HXr.out.size HX5.out.size)).mono ?_
          rintro e w7 ⟨rfl, hB7, hb7⟩
          rw [HNX.out] at hB7
          have HB7 := Lib.hid hB7
          have HX7 : Hid (Ext w1 w7) := Lib.hid (Below.trans (HXr.out.trans HX5.out) hb7)
          clear hB7 hb7
          go_wp2_with fail
          exact ⟨⟨j, by omega, by first | rfl | go_num, HB7.out, HX7.out⟩, by simp [intOf] <;> omega⟩
    · go_wp2_with fail
      refine (bldMinus w1.heap.size w1.heap.size [] _ (Bld.new w1) (by simp) (Ext.new w1 _).size).mono ?_
      rintro e w2 ⟨rfl, hB2, hb2⟩
      have HX2 : Hid (Ext w1 w2) := Lib.hid (Below.trans (Ext.new w1 _) hb2)
      have HB2 := Lib.hid hB2
      have hct2 := (HX2.out.cell (p := ⟨ab, ao + r.length, none⟩) hab1).trans hct
      clear hB2 hb2 hct
      go_wp2_with fail
      refine (fmtUint top (by omega) _ (HE.out.ext (HX0.out.trans HX2.out))).mono ?_
      rintro e w4 ⟨rfl, hx4⟩
      have HX4 := Lib.hid hx4
      clear hx4 hct2
      go_wp2_with fail
      refine (bldWrite w1.heap.size w1.heap.size _ (fmtU top) _ (HB2.out.ext HX4.out) (by simp; omega) (HX2.out.trans HX4.out).size).mono ?_
      rintro e w3 ⟨rfl, hB3, hb3⟩
      have HB3 : Hid (Bld w1.heap.size w1.heap.size (preT true ++ fmtU top ++ lowT (r.drop r.length)) w3) := Lib.hid (by
        rw [List.drop_length]; simpa [preT, lowT] using hB3)
      have HX3 : Hid (Ext w1 w3) := Lib.hid (Below.trans (HX2.out.trans HX4.out) hb3)
      clear hB3 hb3 HX2 HX4 HB2
      go_wp2_with fail
      go_loopw [5, 6] (fun z _ wr => TextAt true top r w w1 z wr) (fun z _ _ => (intOf z + 1).toNat)
      case atStart => exact ⟨r.length, Nat.le_refl _, by first | rfl | go_num | (congr 1; omega), HB3.out, HX3.out⟩
      case round =>
        clear HB3 HX3
        obtain ⟨k, hk, rfl, hB, hx⟩ := hrel
        have HBr := Lib.hid hB
        have HXr := Lib.hid hx
        clear hB hx
        rcases Nat.eq_zero_or_pos k with h0 | h0
        · subst h0
          have HB9 : Hid (Bld w1.heap.size w1.heap.size (txt true n) wr) := Lib.hid (by rw [← HT.out]; exact HBr.out)
          go_wp2_with fail
          refine (Tryz.Builder_String_any_f w1.heap.size w1.heap.size (txt true n) _ HB9.out HXr.out.size).mono ?_
          rintro e w6 ⟨rfl, _, hb6⟩
          go_wp2_with fail
          go_ret
          exact ⟨rfl, HX0.out.trans (Below.trans HXr.out hb6)⟩
        · obtain ⟨j, rfl⟩ : ∃ j, k = j + 1 := ⟨k - 1, by omega⟩
          have hj : j < r.length := by omega
          have hcj := (HXr.out.cell (p := ⟨ab, ao + j, none⟩) hab1).trans ((HX0.out.cell (p := ⟨ab, ao + j, none⟩) hab).trans (HCR.out j hj))
          have hg : (r[j]'hj) < 1000000000 := HB.out _ (List.getElem_mem hj)
          have HGL := Lib.hid (fmtU_len (g := r[j]'hj) hg)
          have HNX : Hid (preT true ++ fmtU top ++ lowT (r.drop (j + 1)) ++ (List.replicate (9 - (fmtU (r[j]'hj)).length) 48 ++ fmtU (r[j]'hj)) = preT true ++ fmtU top ++ lowT (r.drop j)) := Lib.hid (by
            rw [List.drop_eq_getElem_cons hj, lowT_cons]; unfold pad9; simp only [List.append_assoc])
          have HCL : Hid ((preT true ++ fmtU top ++ lowT (r.drop (j + 1))).length ≤ 9000100) := Lib.hid (by
            rw [List.length_append, List.length_append, lowT_len _ (fun g hg => HB.out g (List.mem_of_mem_drop hg)), List.length_drop]
            have : (preT true).length ≤ 1 := by decide
            omega)
          have e0 : ((j + 1 : Nat) : Int) - 1 = (j : Int) := by omega
          rw [e0]
          clear e0
          generalize r[j]'hj = g at *
          go_wp2_with fail
          refine (fmtUint g (by omega) _ (HE.out.ext (HX0.out.trans HXr.out))).mono ?_
          rintro e w4 ⟨rfl, hx4⟩
          have HX4 := Lib.hid hx4
          clear hx4
          have hfl := HGL.out
          generalize fmtU g = fg at *
          go_wp2_with fail
          refine (repeat_any [48] (9 - (fg.length : Int)) _ (by omega) (by omega) (by simp)).mono ?_
          rintro e w5 ⟨rfl, hx5⟩
          have er : Lib.repeatL [48] (9 - (fg.length : Int)).toNat = List.replicate (9 - fg.length) 48 := by rw [repeat_zero]; congr 1; omega
          rw [er]
          have HX5 := Lib.hid (HX4.out.trans hx5)
          clear hx5 er
          have hrl : (List.replicate (9 - fg.length) (48 : UInt8)).length ≤ 9 := by simp
          generalize hrp : List.replicate (9 - fg.length) (48 : UInt8) = rp at *
          clear hrp
          go_wp2_with fail
          refine (bldWrite w1.heap.size w1.heap.size _ (rp ++ fg) _ (HBr.out.ext HX5.out) (by have := HCL.out; have h2 : (rp ++ fg).length = rp.length + fg.length := List.length_append; omega) (Nat.le_trans HXr.out.size HX5.out.size)).mono ?_
          rintro e w7 ⟨rfl, hB7, hb7⟩
          rw [HNX.out] at hB7
          have HB7 := Lib.hid hB7
          have HX7 : Hid (Ext w1 w7) := Lib.hid (Below.trans (HXr.out.trans HX5.out) hb7)
          clear hB7 hb7
          go_wp2_with fail
          exact ⟨⟨j, by omega, by first | rfl | go_num, HB7.out, HX7.out⟩, by simp [intOf] <;> omega⟩
end Go.Proofs.YthgpheopnhajaaaGreatDoor

/- The walks over the reference's integer functions that read no memory: digits, Canonical, Check, Print, Parse. -/
namespace Go.Proofs.YthgpheopnhajaaaGreatDoor
open Go.RowKit
attribute [local go_sem] size_bs toList_bs extract_bs get_bs append_bs lit_append append_lit
set_option maxHeartbeats 1000000 in
theorem refDigits_core (l t : Bs) (b : Bool) (w : World) (hs : (t.length : Int) ≤ 1000000000000) (hcase : (l = 45 :: t ∧ b = true) ∨ (t = l ∧ b = false ∧ isMin t = false)) :
    Calls Tryz.prog 200 #[.string (bs l)] w fun e w' => e = .returned (.tuple #[.string (bs (magT t)), .bool (negT b t)]) ∧ w = w' := by
  have key : (l = 45 :: t ∧ b = true) ∨ (t = l ∧ b = false ∧ ∃ h0 : 0 < t.length, ((t[0].toNat : Int) == 45) = false) ∨ (t = l ∧ b = false ∧ ¬ 0 < t.length) := by
    rcases hcase with h | ⟨rfl, rfl, hm⟩
    · exact .inl h
    · cases t with
      | nil => exact .inr (.inr ⟨rfl, rfl, by simp⟩)
      | cons c r => exact .inr (.inl ⟨rfl, rfl, by simp, by have := byte_ne (c := c) (d := 45) (by simpa [isMin] using hm); simpa using this⟩)
  clear hcase
  rcases key with ⟨rfl, rfl⟩ | ⟨rfl, rfl, h0, h1⟩ | ⟨rfl, rfl, h0⟩
  all_goals
    go_enter Tryz.func200, Tryz.ntmps200
    go_wp2
    go_loop [6] (fun i => ∃ k : Nat, k ≤ t.length ∧ i = .int .i64 k ∧ (t.take k).all isD = true) (fun i => t.length - (intOf i).toNat)
    case atStart => exact ⟨0, Nat.zero_le _, rfl, rfl⟩
    case round =>
      obtain ⟨k, hk, rfl, hd⟩ := hrel
      have HD := Lib.hid hd
      clear hd
      by_cases hlt : k < t.length
      · by_cases hA : (t[k].toNat : Int) < 48
        · go_wp2
          go_ret2
          exact ⟨by rw [magT_bad t k hlt (by left; exact_mod_cast hA), negT_bad _ t k hlt (by left; exact_mod_cast hA)]; rfl, rfl⟩
        · by_cases hB : 57 < (t[k].toNat : Int)
          · go_wp2
            go_ret2
            exact ⟨by rw [magT_bad t k hlt (by right; exact_mod_cast hB), negT_bad _ t k hlt (by right; exact_mod_cast hB)]; rfl, rfl⟩
          · go_wp2
            go_round
            case rel => exact ⟨k + 1, by omega, by go_num, take_all_succ t k hlt HD.out (by omega) (by omega)⟩
            case measure => simp [intOf]; omega
      · have hall := Lib.hid (take_all_end t k hlt HD.out)
        go_wp2
        go_loop [4] (fun v => ∃ r : Bs, v = .string (bs r) ∧ r.length ≤ t.length ∧ noZeros r = noZeros t) (fun v => strLen v)
        case atStart => exact ⟨t, rfl, Nat.le_refl _, rfl⟩
        case round =>
          obtain ⟨r, rfl, hrl, hz⟩ := hrel
          have HZ := Lib.hid hz
          clear hz
          cases r with
          | nil =>
            go_wp2
            go_ret2
            exact ⟨by rw [magT_good t hall.out, negT_good _ t hall.out, ← HZ.out]; simp [noZeros], rfl⟩
          | cons c q =>
            by_cases hc : c = 48
            · subst hc
              go_wp2
              go_round
              case rel => exact ⟨q, rfl, by simp at hrl; omega, HZ.out⟩
              case measure => simp [strLen, size_bs]
            · have hcb : ((c.toNat : Int) == 48) = false := by have := byte_ne (c := c) (d := 48) hc; simpa using this
              go_wp2
              go_ret2
              exact ⟨by rw [magT_good t hall.out, negT_good _ t hall.out, ← HZ.out]; simp [noZeros, hc], rfl⟩

theorem refDigits (l : Bs) (w : World) (hs : l.length ≤ 1000000000) :
    Calls Tryz.prog 200 #[.string (bs l)] w fun e w' => e = .returned (.tuple #[.string (bs (mag l)), .bool (neg l)]) ∧ w = w' := by
  have hl := strip_le l
  refine refDigits_core l (strip l) (isMin l) w (by omega) ?_
  unfold strip
  cases l with
  | nil => exact .inr ⟨rfl, rfl, rfl⟩
  | cons c r =>
    by_cases h : c = 45
    · left; simp [isMin, h]
    · right; simp [isMin, h]

set_option maxHeartbeats 400000 in
theorem refCanonical (l : Bs) (w : World) (hs : l.length ≤ 1000000000) :
    Calls Tryz.prog 129 #[.string (bs l)] w fun e w' => e = .returned (.string (bs (canon l))) ∧ w = w' := by
  have hm := mag_le l
  go_enter Tryz.func129, Tryz.ntmps129
  go_wp2_with fail
  refine (refDigits l _ hs).mono ?_
  rintro e w1 ⟨rfl, rfl⟩
  by_cases hn : neg l = true
  · go_wp2_with fail
    go_ret
    exact ⟨by unfold canon; rw [if_pos hn]; rfl, rfl⟩
  · have hnb : neg l = false := by simpa using hn
    go_wp2_with fail
    go_ret
    exact ⟨by unfold canon; rw [if_neg hn]; rfl, rfl⟩

set_option maxHeartbeats 400000 in
theorem refCheckI (l : Bs) (w : World) (hs : l.length ≤ 1000000000) :
    Calls Tryz.prog 74 #[.string (bs l)] w fun e w' => e = .returned (.int .i64 (checkI l)) ∧ w = w' := by
  have HS := Lib.hid hs
  clear hs
  go_enter Tryz.func74, Tryz.ntmps74
  go_wp2_with fail
  refine (refCanonical l _ HS.out).mono ?_
  rintro e w1 ⟨rfl, rfl⟩
  by_cases hn : canon l = l
  · have hb : (canon l == l) = true := beq_iff_eq.2 hn
    have HN := Lib.hid hn
    clear hn
    go_wp2_with fail
    go_ret
    exact ⟨by unfold checkI; rw [if_pos HN.out]; rfl, rfl⟩
  · have hb : (canon l == l) = false := beq_eq_false_iff_ne.2 hn
    have HN := Lib.hid hn
    clear hn
    go_wp2_with fail
    go_ret
    exact ⟨by unfold checkI; rw [if_neg HN.out]; rfl, rfl⟩
end Go.Proofs.YthgpheopnhajaaaGreatDoor

/- The walks over the reference's short numbers: short, Of, Neg. -/
namespace Go.Proofs.YthgpheopnhajaaaGreatDoor
open Go.RowKit
attribute [local go_sem] size_bs toList_bs extract_bs get_bs append_bs lit_append append_lit
theorem encode_one (n : Nat) (h : n < 128) : Utf8.encode (n : Int) = bs [UInt8.ofNat n] := by
  unfold Utf8.encode
  have hv : Utf8.valid (n : Int) = true := by simp [Utf8.valid]; omega
  rw [hv]
  simp only [if_true, Int.toNat_natCast]
  rw [if_pos h]; rfl
theorem encode_dig (q : Nat) : Utf8.encode (48 + (q : Int) % 10) = bs [UInt8.ofNat (48 + q % 10)] := by
  have : (48 + (q : Int) % 10) = ((48 + q % 10 : Nat) : Int) := by omega
  rw [this]; exact encode_one _ (by omega)
theorem dig10_step {q n : Nat} {l : Bs} (h0 : q ≠ 0) (h : dig10 q ++ l = dig10 n) : dig10 (q / 10) ++ (UInt8.ofNat (48 + q % 10) :: l) = dig10 n := by
  rw [← h, dig10_pos h0]; simp
theorem dval_u8 {c : UInt8} (h : isD c = true) : 48 ≤ (c.toNat : Int) ∧ (c.toNat : Int) ≤ 57 ∧ (dval c : Int) = (c.toNat : Int) - 48 := by
  have := (isD_iff c).1 h
  unfold dval; omega


set_option maxRecDepth 100000 in
set_option maxHeartbeats 1000000 in
theorem refOf_pos (n : Nat) (hn : n ≤ 4000000000000000000) (w : World) :
    Calls Tryz.prog 192 #[.int .i64 (n : Int)] w fun e w' => e = .returned (.string (bs (ofI n))) ∧ w = w' := by
  by_cases h0 : n = 0
  · subst h0
    go_enter Tryz.func192, Tryz.ntmps192
    go_wp2_with fail
    go_ret
    exact ⟨by rw [show ofI ((0 : Nat) : Int) = [] from (ofI_nil_iff 0).2 rfl]; rfl, rfl⟩
  · have hb : ((n : Int) == 0) = false := by rw [beq_eq_false_iff_ne]; omega
    have hng : ¬ ((n : Int) < 0) := by omega
    have HO : Hid (dig10 n = ofI (n : Int)) := Lib.hid (by unfold ofI; rw [if_neg (by omega), Int.natAbs_natCast])
    have HLN : Hid ((dig10 n).length ≤ 19) := Lib.hid (dig10_len (by omega))
    clear h0
    go_enter Tryz.func192, Tryz.ntmps192
    go_wp2_with fail
    go_loop [3, 4, 5] (fun t v _ => ∃ (q : Nat) (l : Bs), q ≤ n ∧ v = .int .i64 (q : Int) ∧ t = .string (bs l) ∧ dig10 q ++ l = dig10 n) (fun _ v _ => (intOf v).toNat)
    case atStart => exact ⟨n, [], Nat.le_refl _, rfl, rfl, by simp⟩
    case round =>
      obtain ⟨q, l, hq, rfl, rfl, hl⟩ := hrel
      have hll : l.length ≤ 19 := by have h1 := congrArg List.length hl; have h2 := HLN.out; rw [List.length_append] at h1; omega
      by_cases hz : q = 0
      · subst hz
        have HL : Hid (l = ofI (n : Int)) := Lib.hid (by rw [dig10_zero, List.nil_append] at hl; rw [hl]; exact HO.out)
        clear hl
        go_wp2_with fail
        go_ret
        exact ⟨by rw [HL.out]; rfl, rfl⟩
      · have HL := Lib.hid (dig10_step hz hl)
        have hqb : ((q : Int) == 0) = false := by rw [beq_eq_false_iff_ne]; omega
        have hqb2 : ((q : Int) != 0) = true := by rw [bne_iff_ne]; omega
        have hd : ¬ ((q : Int) % 10 < 0) := by omega
        have he := encode_dig q
        clear hl
        have hcv : ∀ W : World, (convert 21 9 (.int .i32 (48 + (q : Int) % 10))).run Tryz.prog W = .ok (.string (bs [UInt8.ofNat (48 + q % 10)])) W := fun W => by rw [run_convert_int_string W _ _ _ _ (by rw [Tryz.underlying21]; rfl) Tryz.underlying9, he]
        clear he
        generalize hdd : UInt8.ofNat (48 + q % 10) = dd at *
        clear hdd
        go_wp2_with fail
        go_round
        case rel => exact ⟨q / 10, _, by omega, by go_num, rfl, HL.out⟩
        case measure => simp [intOf]; omega
theorem tmod_neg (q : Nat) : (-(q : Int)).tmod 10 = -((q % 10 : Nat) : Int) := by
  rw [Int.neg_tmod]; rfl
theorem tdiv_neg (q : Nat) : (-(q : Int)).tdiv 10 = -((q / 10 : Nat) : Int) := by
  rw [Int.neg_tdiv]; rfl
set_option maxRecDepth 100000 in
set_option maxHeartbeats 1000000 in
theorem refOf_neg (n : Nat) (h0 : n ≠ 0) (hn : n ≤ 4000000000000000000) (w : World) :
    Calls Tryz.prog 192 #[.int .i64 (-(n : Int))] w fun e w' => e = .returned (.string (bs (ofI (-(n : Int))))) ∧ w = w' := by
  have hb : (-(n : Int) == 0) = false := by rw [beq_eq_false_iff_ne]; omega
  have hng : -(n : Int) < 0 := by omega
  have HO : Hid (45 :: dig10 n = ofI (-(n : Int))) := Lib.hid (by unfold ofI; rw [if_pos (by omega), Int.natAbs_neg, Int.natAbs_natCast])
  have HLN : Hid ((dig10 n).length ≤ 19) := Lib.hid (dig10_len (by omega))
  clear h0
  go_enter Tryz.func192, Tryz.ntmps192
  go_wp2_with fail
  go_loop [3, 4, 5] (fun t v _ => ∃ (q : Nat) (l : Bs), q ≤ n ∧ v = .int .i64 (-(q : Int)) ∧ t = .string (bs l) ∧ dig10 q ++ l = dig10 n) (fun _ v _ => (- intOf v).toNat)
  case atStart => exact ⟨n, [], Nat.le_refl _, rfl, rfl, by simp⟩
  case round =>
    obtain ⟨q, l, hq, rfl, rfl, hl⟩ := hrel
    have hll : l.length ≤ 19 := by have h1 := congrArg List.length hl; have h2 := HLN.out; rw [List.length_append] at h1; omega
    by_cases hz : q = 0
    · subst hz
      have HL : Hid (45 :: l = ofI (-(n : Int))) := Lib.hid (by rw [dig10_zero, List.nil_append] at hl; rw [hl]; exact HO.out)
      clear hl
      go_wp2_with fail
      go_ret
      exact ⟨by rw [← HL.out]; rfl, rfl⟩
    · have HL := Lib.hid (dig10_step hz hl)
      have hqb : (-(q : Int) == 0) = false := by rw [beq_eq_false_iff_ne]; omega
      have hqb2 : (-(q : Int) != 0) = true := by rw [bne_iff_ne]; omega
      have hr := tmod_neg q
      have ht := tdiv_neg q
      have hr9 : q % 10 < 10 := Nat.mod_lt _ (by decide)
      have htq : q / 10 < q := by omega
      have HQ : Hid (q / 10 ≤ n) := Lib.hid (by omega)
      clear hl
      generalize q % 10 = r at *
      have he : Utf8.encode (48 + (r : Int)) = bs [UInt8.ofNat (48 + r)] := by
        have : (48 + (r : Int)) = ((48 + r : Nat) : Int) := by omega
        rw [this]; exact encode_one _ (by omega)
      have hcv : ∀ W : World, (convert 21 9 (.int .i32 (48 + (r : Int)))).run Tryz.prog W = .ok (.string (bs [UInt8.ofNat (48 + r)])) W := fun W => by rw [run_convert_int_string W _ _ _ _ (by rw [Tryz.underlying21]; rfl) Tryz.underlying9, he]
      clear he
      by_cases hr0 : r = 0
      · subst hr0
        have hr' : (-(q : Int)).tmod 10 = 0 := hr
        have hcv' : ∀ W : World, (convert 21 9 (.int .i32 48)).run Tryz.prog W = .ok (.string (bs [UInt8.ofNat (48 + 0)])) W := fun W => hcv W
        clear hr hcv
        generalize hdd : UInt8.ofNat (48 + 0) = dd at *
        clear hdd
        generalize q / 10 = p at *
        go_wp2_with fail
        go_round
        case rel => exact ⟨p, _, HQ.out, by go_num, rfl, HL.out⟩
        case measure => simp [intOf]; omega
      · have hneg : -(r : Int) < 0 := by omega
        have hr1 : (r : Int) < 10 := by omega
        generalize hdd : UInt8.ofNat (48 + r) = dd at *
        clear hdd
        generalize q / 10 = p at *
        go_wp2_with fail
        go_round
        case rel => exact ⟨p, _, HQ.out, by go_num, rfl, HL.out⟩
        case measure => simp [intOf]; omega
theorem refIntOf (z : Int) (h1 : -4000000000000000000 ≤ z) (h2 : z ≤ 4000000000000000000) (w : World) :
    Calls Tryz.prog 192 #[.int .i64 z] w fun e w' => e = .returned (.string (bs (ofI z))) ∧ w = w' := by
  by_cases h : 0 ≤ z
  · obtain ⟨n, rfl⟩ := Int.eq_ofNat_of_zero_le h
    exact refOf_pos n (by omega) w
  · obtain ⟨n, rfl⟩ : ∃ n : Nat, z = -(n : Int) := ⟨z.natAbs, by omega⟩
    exact refOf_neg n (by omega) (by omega) w
theorem natOf_take_lt {m : Bs} (hd : m.all isD = true) (hl : m.length ≤ 17) (k : Nat) : natOf (m.take k) < 100000000000000000 := by
  have h1 := natOf_lt (l := m.take k) (all_take hd k)
  have h2 : (m.take k).length ≤ 17 := by rw [List.length_take]; omega
  exact Nat.lt_of_lt_of_le h1 (Nat.le_trans (Nat.pow_le_pow_right (by decide) h2) (by decide))
theorem all_at {m : Bs} (h : m.all isD = true) {k : Nat} (hk : k < m.length) : isD (m[k]'hk) = true := List.all_eq_true.1 h _ (List.getElem_mem hk)
set_option maxRecDepth 100000 in
set_option maxHeartbeats 1000000 in
theorem refShort (l : Bs) (w : World) (hs : l.length ≤ 1000000000) (hl : (mag l).length ≤ 17) :
    Calls Tryz.prog 191 #[.string (bs l)] w fun e w' => e = .returned (.tuple #[.int .i64 (valI l), .bool true]) ∧ w = w' := by
  have HDIG := Lib.hid (fun w => refDigits l w hs)
  have HD := Lib.hid (mag_all l)
  have HV : Hid (valI l = if neg l then -(natOf (mag l) : Int) else natOf (mag l)) := Lib.hid rfl
  generalize valI l = z at *
  generalize mag l = m at *
  generalize neg l = b at *
  clear hs
  have HL := Lib.hid hl
  have hlb : ¬ (17 < (m.length : Int)) := by omega
  clear hl
  go_enter Tryz.func191, Tryz.ntmps191
  go_wp2_with fail
  refine (HDIG.out _).mono ?_
  rintro e w1 ⟨rfl, rfl⟩
  go_wp2_with fail
  go_loop [6, 7] (fun v i => ∃ k : Nat, k ≤ m.length ∧ i = .int .i64 k ∧ v = .int .i64 (natOf (m.take k) : Nat)) (fun _ i => m.length - (intOf i).toNat)
  case atStart => exact ⟨0, Nat.zero_le _, rfl, rfl⟩
  case round =>
    obtain ⟨k, hk, rfl, rfl⟩ := hrel
    by_cases hlt : k < m.length
    · have hv := natOf_take_lt HD.out HL.out k
      have HS := Lib.hid (natOf_take_succ m k hlt)
      obtain ⟨hc1, hc2, hc3⟩ := dval_u8 (all_at HD.out hlt)
      have HC := Lib.hid hc3
      clear hc3
      generalize natOf (m.take k) = p at *
      go_wp2_with fail
      go_round
      case rel => exact ⟨k + 1, by omega, by go_num, by rw [HS.out]; have := HC.out; congr 1; omega⟩
      case measure => simp [intOf]; omega
    · have hv := natOf_take_lt HD.out HL.out k
      have HT : Hid (natOf (m.take k) = natOf m) := Lib.hid (by rw [List.take_of_length_le (by omega)])
      generalize natOf (m.take k) = p at *
      cases b
      · go_wp2_with fail
        go_ret2
        exact ⟨by rw [HV.out, ← HT.out]; rfl, rfl⟩
      · go_wp2_with fail
        go_ret2
        exact ⟨by rw [HV.out, ← HT.out]; rfl, rfl⟩
set_option maxRecDepth 100000 in
set_option maxHeartbeats 1000000 in
theorem refShort_no (l : Bs) (w : World) (hs : l.length ≤ 1000000000) (hl : ¬ (mag l).length ≤ 17) :
    Calls Tryz.prog 191 #[.string (bs l)] w fun e w' => e = .returned (.tuple #[.int .i64 0, .bool false]) ∧ w = w' := by
  have HDIG := Lib.hid (fun w => refDigits l w hs)
  generalize mag l = m at *
  generalize neg l = b at *
  clear hs
  have hlb : 17 < (m.length : Int) := by omega
  clear hl
  go_enter Tryz.func191, Tryz.ntmps191
  go_wp2_with fail
  refine (HDIG.out _).mono ?_
  rintro e w1 ⟨rfl, rfl⟩
  go_wp2_with fail
  go_ret2
  exact ⟨rfl, rfl⟩
theorem ofI_neg (l : Bs) : ofI (-(valI l)) = if neg l = true ∨ mag l = [] then mag l else 45 :: mag l := by
  have hd := dig10_natOf (mag_all l) (mag_lead l)
  by_cases h : neg l = true
  · have h0 := neg_mag h
    have hv : valI l = -(natOf (mag l) : Int) := by unfold valI; rw [if_pos h]
    rw [if_pos (Or.inl h), hv, Int.neg_neg]
    unfold ofI
    rw [if_neg (by omega), Int.natAbs_natCast, hd]
  · have hv : valI l = (natOf (mag l) : Int) := by unfold valI; rw [if_neg h]
    by_cases hm : mag l = []
    · rw [if_pos (Or.inr hm), hv, hm]; exact (ofI_nil_iff 0).2 rfl
    · have hp : natOf (mag l) ≠ 0 := by rw [Ne, natOf_zero (mag_all l) (mag_lead l)]; exact hm
      have hno : ¬ (neg l = true ∨ mag l = []) := fun x => x.elim h hm
      rw [if_neg hno, hv]
      unfold ofI
      rw [if_pos (by omega), Int.natAbs_neg, Int.natAbs_natCast, hd]
set_option maxHeartbeats 1000000 in
theorem refNeg (l : Bs) (w : World) (hs : l.length ≤ 1000000000) :
    Calls Tryz.prog 125 #[.string (bs l)] w fun e w' => e = .returned (.string (bs (ofI (-(valI l))))) ∧ w = w' := by
  have HDIG := Lib.hid (fun w => refDigits l w hs)
  have HO := Lib.hid (ofI_neg l)
  have HML : Hid ((mag l).length ≤ 1000000000) := Lib.hid (Nat.le_trans (mag_le l) hs)
  generalize ofI (-(valI l)) = r at *
  generalize mag l = m at *
  generalize neg l = b at *
  clear hs
  by_cases h : b = true ∨ m = []
  · have HR : Hid (r = m) := Lib.hid (by rw [HO.out, if_pos h])
    clear HO
    rcases h with h | h
    · subst h
      go_enter Tryz.func125, Tryz.ntmps125
      go_wp2_with fail
      refine (HDIG.out _).mono ?_
      rintro e w1 ⟨rfl, rfl⟩
      go_wp2_with fail
      go_ret
      exact ⟨by rw [HR.out]; rfl, rfl⟩
    · subst h
      go_enter Tryz.func125, Tryz.ntmps125
      go_wp2_with fail
      refine (HDIG.out _).mono ?_
      rintro e w1 ⟨rfl, rfl⟩
      cases b
      all_goals
        go_wp2_with fail
        go_ret
        exact ⟨by rw [HR.out]; rfl, rfl⟩
  · have HR : Hid (r = 45 :: m) := Lib.hid (by rw [HO.out, if_neg h])
    clear HO
    have hb : b = false := by cases b; rfl; exact absurd (.inl rfl) h
    have hm : m ≠ [] := fun e => h (.inr e)
    subst hb
    have hmb : m.isEmpty = false := by simpa using hm
    have hmb2 : (m == []) = false := by simpa using hm
    have hml := HML.out
    clear h hm
    go_enter Tryz.func125, Tryz.ntmps125
    go_wp2_with fail
    refine (HDIG.out _).mono ?_
    rintro e w1 ⟨rfl, rfl⟩
    go_wp2_with fail
    go_ret
    exact ⟨by rw [HR.out]; rfl, rfl⟩
end Go.Proofs.YthgpheopnhajaaaGreatDoor

/- The walks over the reference's groups: group, trim, order. -/
namespace Go.Proofs.YthgpheopnhajaaaGreatDoor
open Go.RowKit
attribute [local go_sem] size_bs toList_bs
def icells (gs : List Nat) : List Value := gs.map fun g : Nat => Value.int .i64 (g : Int)
def RdI (w : World) (A : Option Addr) (gs : List Nat) : Prop := Reads w 1 A gs.length (icells gs)
theorem RdI.ext {w w' : World} {A : Option Addr} {gs : List Nat} (h : RdI w A gs) (he : Ext w w') : RdI w' A gs := Reads.ext h he
theorem RdI.at_ {w : World} {A : Option Addr} {gs : List Nat} (h : RdI w A gs) {k : Nat} (hk : k < gs.length) :
    ∃ b o, A = some ⟨b, o, none⟩ ∧ b < w.heap.size ∧ w.cell? ⟨b, o + k, none⟩ = some (.int .i64 (gs[k]'hk)) := by
  obtain ⟨b, o, rfl, hb⟩ := Reads.at_ h (by omega)
  exact ⟨b, o, rfl, hb, Reads.cell h (by simp [icells, hk])⟩
theorem RdI.take {w : World} {A : Option Addr} {gs : List Nat} (h : RdI w A gs) (n : Nat) : RdI w A (gs.take n) := by
  refine ⟨by simp [icells], fun hn => ?_⟩
  have h0 : 0 < gs.length := by rw [List.length_take] at hn; omega
  obtain ⟨b, o, rfl, hb, hc⟩ := h.2 h0
  refine ⟨b, o, rfl, hb, fun j u hu => hc j u ?_⟩
  unfold icells at hu ⊢
  rw [List.map_take, List.getElem?_take] at hu
  split at hu
  · exact hu
  · cases hu
set_option maxHeartbeats 1000000 in
theorem refTrim (gs : List Nat) (A : Option Addr) (c : Nat) (w : World) (hA : RdI w A gs) (hc : gs.length ≤ c) (hm : c ≤ maxLen) (hb : ∀ g ∈ gs, g < B9) :
    Calls Tryz.prog 281 #[.slice A gs.length c] w fun e w' => e = .returned (.slice A (cutL gs).length c) ∧ w = w' := by
  have HA := Lib.hid hA
  have HB := Lib.hid hb
  unfold maxLen at hm
  clear hA hb
  go_enter Tryz.func281, Tryz.ntmps281
  go_wp2_with fail
  go_loop [0] (fun v => ∃ k : Nat, k ≤ gs.length ∧ v = .slice A k c ∧ cutL (gs.take k) = cutL gs) (fun v => slLen v)
  case atStart => exact ⟨gs.length, Nat.le_refl _, rfl, by rw [List.take_length]⟩
  case round =>
    obtain ⟨k, hk, rfl, hz⟩ := hrel
    have HZ := Lib.hid hz
    clear hz
    rcases Nat.eq_zero_or_pos k with h0 | h0
    · subst h0
      have HL : Hid ((cutL gs).length = 0) := Lib.hid (by rw [← HZ.out]; rfl)
      go_wp2_with fail
      go_ret
      exact ⟨by rw [HL.out]; rfl, rfl⟩
    · obtain ⟨j, rfl⟩ : ∃ j, k = j + 1 := ⟨k - 1, by omega⟩
      have hj : j < gs.length := by omega
      obtain ⟨b, o, rfl, hbw, hcell⟩ := HA.out.at_ hj
      have hts : gs.take (j + 1) = gs.take j ++ [gs[j]] := List.take_succ_eq_append_getElem hj
      have HTS := Lib.hid hts
      clear hts
      by_cases hg : gs[j] = 0
      · have HN : Hid (cutL (gs.take j) = cutL gs) := Lib.hid (by rw [← HZ.out, HTS.out, hg, cutL_snoc_zero])
        rw [hg] at hcell
        clear hg
        go_wp2_with fail
        go_round
        case rel => exact ⟨j, by omega, rfl, HN.out⟩
        case measure => simp [slLen]
      · have HL : Hid ((cutL gs).length = j + 1) := Lib.hid (by rw [← HZ.out, HTS.out, cutL_snoc _ hg]; simp; omega)
        have hgb : ((gs[j] : Int) == 0) = false := by rw [beq_eq_false_iff_ne]; omega
        clear hg
        generalize (gs[j]'hj) = g at *
        go_wp2_with fail
        go_ret
        exact ⟨by rw [HL.out]; rfl, rfl⟩

set_option maxHeartbeats 400000 in
theorem refGroup (gs : List Nat) (A : Option Addr) (c k : Nat) (w : World) (hA : RdI w A gs) (_hn : gs.length ≤ 1000000) :
    Calls Tryz.prog 280 #[.slice A gs.length c, .int .i64 (k : Int)] w fun e w' => e = .returned (.int .i64 (at0 gs k : Nat)) ∧ w = w' := by
  have HA := Lib.hid hA
  clear hA
  by_cases h : k < gs.length
  · obtain ⟨b, o, rfl, hb, hcell⟩ := HA.out.at_ h
    have HV := Lib.hid (at0_lt h)
    generalize gs[k]'h = g at *
    go_enter Tryz.func280, Tryz.ntmps280
    go_wp2_with fail
    go_ret
    exact ⟨by rw [HV.out]; rfl, rfl⟩
  · have HV := Lib.hid (at0_ge (l := gs) (k := k) (by omega))
    go_enter Tryz.func280, Tryz.ntmps280
    go_wp2_with fail
    go_ret
    exact ⟨by rw [HV.out]; rfl, rfl⟩
set_option maxRecDepth 100000 in
set_option maxHeartbeats 1000000 in
theorem refOrder (x y : Nat) (A A' : Option Addr) (c c' : Nat) (w : World) (hA : RdI w A (gr x)) (hA' : RdI w A' (gr y)) (hn : (gr x).length ≤ 1000000) (_hn' : (gr y).length ≤ 1000000) :
    Calls Tryz.prog 247 #[.slice A (gr x).length c, .slice A' (gr y).length c'] w (CmpEnds x y w) := by
  have HA := Lib.hid hA
  have HA' := Lib.hid hA'
  clear hA hA'
  by_cases hl : (gr x).length = (gr y).length
  · have HLL := Lib.hid hl
    have hbl : (((gr x).length : Int) != ((gr y).length : Int)) = false := by rw [bne_eq_false_iff_eq]; omega
    have HLS := Lib.hid (fun k (a : k < (gr x).length) (b : k < (gr y).length) he h => gr_less (x := x) (y := y) (k := k) hl a b he h)
    have HGT := Lib.hid (fun k (a : k < (gr y).length) (b : k < (gr x).length) he h => gr_less (x := y) (y := x) (k := k) hl.symm a b he h)
    have HEQ : Hid (gr x = gr y → x = y) := Lib.hid gr_inj
    generalize gr x = gx at *
    generalize gr y = gy at *
    clear hl
    go_enter Tryz.func247, Tryz.ntmps247
    go_wp2_with fail
    go_loopw [5, 31, 40] (fun z _ _ wr => ∃ k : Nat, k ≤ gx.length ∧ z = .int .i64 ((k : Int) - 1) ∧ (∀ (j : Nat) (h1 : j < gx.length) (h2 : j < gy.length), k ≤ j → gx[j] = gy[j]) ∧ Ext w wr) (fun z _ _ _ => (intOf z + 1).toNat)
    case atStart => exact ⟨gx.length, Nat.le_refl _, rfl, fun j h1 _ hj => absurd h1 (by omega), Ext.refl _⟩
    case round =>
      obtain ⟨k, hk, rfl, hz, hx⟩ := hrel
      have HZ := Lib.hid hz
      have HX := Lib.hid hx
      clear hz hx
      rcases Nat.eq_zero_or_pos k with h0 | h0
      · subst h0
        have HY : Hid (x = y) := Lib.hid (HEQ.out (List.ext_getElem HLL.out (fun j h1 h2 => HZ.out j h1 h2 (by omega))))
        go_wp2_with fail
        go_ret
        exact ⟨HX.out, 0, rfl, .inr (.inl ⟨rfl, HY.out⟩)⟩
      · obtain ⟨j, rfl⟩ : ∃ j, k = j + 1 := ⟨k - 1, by omega⟩
        have hj : j < gx.length := by omega
        have hj' : j < gy.length := by have := HLL.out; omega
        obtain ⟨b, o, rfl, hbw, hcell⟩ := (HA.out.ext HX.out).at_ hj
        obtain ⟨b', o', rfl, hbw', hcell'⟩ := (HA'.out.ext HX.out).at_ hj'
        have e0 : ((j + 1 : Nat) : Int) - 1 = (j : Int) := by omega
        rw [e0]
        clear e0
        rcases Nat.lt_trichotomy (gx[j]'hj) (gy[j]'hj') with h | h | h
        · have HY : Hid (x < y) := Lib.hid (HLS.out j hj hj' (fun i h1 h2 hi => HZ.out i h1 h2 (by omega)) h)
          generalize (gx[j]'hj) = p at *
          generalize (gy[j]'hj') = q at *
          go_wp2_with fail
          go_quiet (fail)
          go_wp2_with fail
          go_ret
          exact ⟨HX.out.drewN _, -1, rfl, .inl ⟨by decide, HY.out⟩⟩
        · have HNX := Lib.hid (fun i (h1 : i < gx.length) (h2 : i < gy.length) (hi : j ≤ i) => (by
            rcases Nat.lt_or_ge j i with h' | h'
            · exact HZ.out i h1 h2 (by omega)
            · obtain rfl : i = j := by omega
              exact h : gx[i] = gy[i]))
          rw [← h] at hcell'
          generalize (gx[j]'hj) = p at *
          clear h
          go_wp2_with fail
          go_quiet (fail)
          go_wp2_with fail
          go_quiet (fail)
          go_wp2_with fail
          go_roundw
          case rel => exact ⟨j, by omega, rfl, HNX.out, HX.out.drewN _⟩
          case measure => simp [intOf]
        · have HY : Hid (y < x) := Lib.hid (HGT.out j hj' hj (fun i h1 h2 hi => (HZ.out i h2 h1 (by omega)).symm) h)
          have hb1 : ¬ (gx[j]'hj) < (gy[j]'hj') := by omega
          generalize (gx[j]'hj) = p at *
          generalize (gy[j]'hj') = q at *
          go_wp2_with fail
          go_quiet (fail)
          go_wp2_with fail
          go_quiet (fail)
          go_wp2_with fail
          go_ret
          exact ⟨(HX.out.drewN _).drewN _, 1, rfl, .inr (.inr ⟨by decide, HY.out⟩)⟩
  · have hbl : (((gr x).length : Int) != ((gr y).length : Int)) = true := by rw [bne_iff_ne]; omega
    rcases Nat.lt_or_ge (gr x).length (gr y).length with h | h
    · have HY : Hid (x < y) := Lib.hid (gr_shorter h)
      generalize gr x = gx at *
      generalize gr y = gy at *
      clear hl
      go_enter Tryz.func247, Tryz.ntmps247
      go_wp2_with fail
      go_ret
      exact ⟨Ext.refl _, -1, rfl, .inl ⟨by decide, HY.out⟩⟩
    · have HY : Hid (y < x) := Lib.hid (gr_shorter (by omega))
      have h' : ¬ (gr x).length < (gr y).length := by omega
      generalize gr x = gx at *
      generalize gr y = gy at *
      clear hl
      go_enter Tryz.func247, Tryz.ntmps247
      go_wp2_with fail
      go_ret
      exact ⟨Ext.refl _, 1, rfl, .inr (.inr ⟨by decide, HY.out⟩)⟩
end Go.Proofs.YthgpheopnhajaaaGreatDoor

/- The walks over the reference's numbers: read, write. -/
namespace Go.Proofs.YthgpheopnhajaaaGreatDoor
open Go.RowKit Go.Shelf
attribute [local go_sem] size_bs toList_bs extract_bs get_bs append_bs lit_append append_lit
theorem i64Info : (Tryz.prog.info? 3).map (fun i => (i.zero, i.size, i.bytes)) = some (some (.int .i64 0), 1, 8) := by kernel_rfl
theorem results_numI {fn : Func} {a : Tmp} (h : fn.results = #[.cell a 230]) (tmps : Array Value) (w : World) (g : Nat) (x y : Value) (ha : tmps.getD a undef = .pointer (some ⟨g, 0, none⟩)) (hb : Blk w g 230 #[x, y]) :
    (results fn tmps).run Tryz.prog w = .ok (.agg #[x, y]) w := by
  have h0 := hb.cell 0
  have h1 := hb.cell 1
  simp only [List.getElem?_toArray, List.getElem?_cons_zero, List.getElem?_cons_succ] at h0 h1
  unfold results
  rw [h]
  simp only [List.mapM_toArray, List.mapM_cons, List.mapM_nil, ha]
  go_simp
/-- a number of the reference: its sign, and its groups in memory -/
def NumEndsI (neg : Bool) (gs : List Nat) (w : World) (e : Ending) (w' : World) : Prop :=
  ∃ A c, e = .returned (.agg #[.bool neg, .slice A gs.length c]) ∧ RdI w' A gs ∧ Ext w w' ∧ gs.length ≤ c ∧ c ≤ maxLen
/-- how the loop of read stands -/
def ReadAtI (m : Bs) (N : Nat) (ng : Bool) (w : World) (z : Value) (wr : World) : Prop :=
  ∃ (y : Int) (done : List Nat) (v : Value), z = .int .i64 y ∧ -9 < y ∧ y ≤ m.length ∧ wr.ownsRow (w.heap.size + 2) 3 1 v done.length (icells done) ∧ done ++ groupsOf (m.take y.toNat) = gr N ∧ Ext w wr ∧ Blk wr w.heap.size 230 #[.bool false, .slice none 0 0] ∧ Blk wr (w.heap.size + 1) 230 #[.bool ng, v]
theorem drop_snoc (m : Bs) (a k : Nat) (ha : a ≤ k) (hk : k < m.length) : natOf ((m.take (k + 1)).drop a) = 10 * natOf ((m.take k).drop a) + dval (m[k]'hk) := by
  rw [List.take_succ_eq_append_getElem hk, List.drop_append_of_le_length (by rw [List.length_take]; omega), natOf_snoc]
theorem nine_lt {m : Bs} (hd : m.all isD = true) (a k : Nat) (h : k ≤ a + 9) : natOf ((m.take k).drop a) < 1000000000 := by
  have h1 := natOf_lt (l := (m.take k).drop a) (all_drop (all_take hd k) a)
  have h2 : ((m.take k).drop a).length ≤ 9 := by rw [List.length_drop, List.length_take]; omega
  exact Nat.lt_of_lt_of_le h1 (Nat.le_trans (Nat.pow_le_pow_right (by decide) h2) (by decide))
set_option maxRecDepth 100000 in
set_option maxHeartbeats 2000000 in
theorem refReadN (l : Bs) (w : World) (hs : l.length ≤ 1000000) :
    Calls Tryz.prog 195 #[.string (bs l)] w (NumEndsI (neg l) (gr (natOf (mag l))) w) := by
  obtain ⟨i0, hI, hz0, hz1, hz2⟩ := info_parts i64Info
  have hml := mag_le l
  have HG := Lib.hid (groupsOf_gr (mag l) (mag_all l) (mag_lead l))
  have HD := Lib.hid (mag_all l)
  have HGL : Hid ((gr (natOf (mag l))).length ≤ 1000000) := Lib.hid (by rw [← groupsOf_gr (mag l) (mag_all l) (mag_lead l)]; have := groupsOf_len (mag l); omega)
  have HI := Lib.hid hI
  have HS := Lib.hid (Nat.le_trans hml hs)
  have HDIG := Lib.hid (fun w => refDigits l w (by omega))
  clear hI hml
  generalize hm : mag l = m at *
  generalize hN : natOf m = N at *
  generalize hng : neg l = ng at *
  clear hm hng hs hN
  have HX0 : Hid (Ext w ((w.alloc (.cells #[.bool false, .slice none 0 0] 230)).alloc (.cells #[.bool ng, .slice none 0 0] 230))) := Lib.hid ((Ext.new _ _).alloc _)
  have HB0 : Hid (Blk ((w.alloc (.cells #[.bool false, .slice none 0 0] 230)).alloc (.cells #[.bool ng, .slice none 0 0] 230)) w.heap.size 230 #[.bool false, .slice none 0 0]) := Lib.hid ((blk_at w _ _ w.heap.size rfl).alloc _)
  have HB1 : Hid (Blk ((w.alloc (.cells #[.bool false, .slice none 0 0] 230)).alloc (.cells #[.bool ng, .slice none 0 0] 230)) (w.heap.size + 1) 230 #[.bool ng, .slice none 0 0]) := Lib.hid (blk_at (w.alloc (.cells #[.bool false, .slice none 0 0] 230)) _ _ (w.heap.size + 1) (by simp))
  go_enter Tryz.func195, Tryz.ntmps195
  go_wp2_with fail
  refine (HDIG.out _).mono ?_
  rintro e w1 ⟨rfl, rfl⟩
  clear HDIG
  have hsm := HS.out
  go_wp2_with fail
  go_loopw [6, 7, 8] (fun z _ _ wr => ReadAtI m N ng w z wr) (fun z _ _ _ => (intOf z).toNat)
  case atStart => exact ⟨m.length, [], .slice none 0 0, rfl, by omega, by omega, ⟨rfl, .inl ⟨rfl, rfl⟩⟩, by rw [Int.toNat_natCast, List.take_of_length_le (Nat.le_refl _), List.nil_append]; exact HG.out, HX0.out, HB0.out, HB1.out⟩
  case round =>
    clear HX0 HB0 HB1
    obtain ⟨z, done, v, rfl, hz1', hz2', hown, hsum, hx, hb0, hb1⟩ := hrel
    have HOWN := Lib.hid hown
    have HSUM := Lib.hid hsum
    have HX := Lib.hid hx
    have HBR := Lib.hid hb0
    have HBO := Lib.hid hb1
    clear hown hsum hx hb0 hb1
    by_cases hpos : 0 < z
    · obtain ⟨e, rfl⟩ : ∃ e : Nat, z = (e : Int) := ⟨z.toNat, by omega⟩
      have hel : e ≤ m.length := by omega
      have he0 : 0 < e := by omega
      have HST := Lib.hid (groups_step he0 hel)
      have HLN : Hid (done.length ≤ 1000000) := Lib.hid (by
        have h1 := congrArg List.length HSUM.out
        rw [List.length_append] at h1
        have h2 := HGL.out; omega)
      have HNX : Hid (done ++ [natOf ((m.take e).drop (e - 9))] ++ groupsOf (m.take (e - 9)) = gr N) := Lib.hid (by
        rw [← HSUM.out, Int.toNat_natCast, HST.out]; simp)
      have hmx : max (0 : Int) ((e : Int) - 9) = ((e - 9 : Nat) : Int) := by omega
      have ha9 : e - 9 ≤ e := by omega
      have ha10 : e ≤ (e - 9) + 9 := by omega
      have HEA : Hid (((e : Int) - 9).toNat = e - 9) := Lib.hid (by omega)
      clear HST
      generalize hea : e - 9 = a at *
      go_wp2_with fail
      clear hmx
      go_loop [7, 8] (fun nv iv => ∃ k : Nat, a ≤ k ∧ k ≤ e ∧ iv = .int .i64 k ∧ nv = .int .i64 (natOf ((m.take k).drop a) : Nat)) (fun _ iv => e - (intOf iv).toNat)
      case atStart => exact ⟨a, Nat.le_refl _, ha9, rfl, by rw [List.drop_eq_nil_of_le (by rw [List.length_take]; omega)]; rfl⟩
      case round =>
        obtain ⟨k, hak, hke, rfl, rfl⟩ := hrel
        by_cases hlt : k < e
        · have hkm : k < m.length := by omega
          have hv := nine_lt HD.out a k (by omega)
          have HDS := Lib.hid (drop_snoc m a k hak hkm)
          obtain ⟨hc1, hc2, hc3⟩ := dval_u8 (all_at HD.out hkm)
          have HC := Lib.hid hc3
          clear hc3
          generalize natOf ((m.take k).drop a) = p at *
          go_wp2_with fail
          go_round
          case rel => exact ⟨k + 1, by omega, by omega, by go_num, by rw [HDS.out]; have := HC.out; congr 1; omega⟩
          case measure => simp [intOf]; omega
        · obtain rfl : k = e := by omega
          have hv := nine_lt HD.out a k ha10
          generalize natOf ((m.take k).drop a) = p at *
          have hln := HLN.out
          have q1 := HBO.out.cell 1
          simp only [List.getElem?_toArray, List.getElem?_cons_zero, List.getElem?_cons_succ] at q1
          go_wp2_with (at_builtin; refine wpList_append_lies _ rfl (.tmp 39) (.tmp 41) 206 rfl (w.heap.size + 2) 3 i0 _ 1 8 Tryz.underlying206 HI.out hz0 hz1 hz2 rfl (by decide) _ done.length (icells done) rfl (own_ext2 HOWN.out (Ext.new _ _)) ⟨wr.heap.size, 0, none⟩ 1 1 [.int .i64 p] rfl rfl (World.news_of_block (heap_alloc_new wr _)) (by simp [Value.oneCell']) (by omega) (by simp only [maxLen]; omega) (by omega) (by have := HBO.out.lt; simp; omega) _ rfl ?_; intro g' cap' w' hown hgrow hat hlt'; have HGR := Lib.hid hgrow; have HON := Lib.hid hown; have hbo := (hgrow.block (w.heap.size + 1) (by have := HBO.out.lt; simp; omega) (fun e => by have := own_base HOWN.out (w.heap.size + 1) e.symm; omega)).trans (HBO.out.alloc _); have HBO2 : Hid (Blk w' (w.heap.size + 1) 230 #[.bool ng, v]) := Lib.hid hbo; have HBR2 : Hid (Blk w' w.heap.size 230 #[.bool false, .slice none 0 0]) := Lib.hid ((hgrow.block w.heap.size (by have := HBR.out.lt; simp; omega) (fun e => by have := own_base HOWN.out w.heap.size e.symm; omega)).trans (HBR.out.alloc _)); have HX2 : Hid (Ext w w') := Lib.hid (Ext.grown (HX.out.trans (Ext.new _ _)) hgrow (fun k hk => by have := own_base HOWN.out k hk; omega)); have r1 := HBO2.out.cell 1; have f1 := HBO2.out.frozen 1; simp only [List.getElem?_toArray, List.getElem?_cons_zero, List.getElem?_cons_succ] at r1; clear hown hgrow hat hbo)
          refine ⟨⟨(k : Int) - 9, done ++ [p], .slice (some ⟨g', 0, none⟩) (done.length + 1) cap', rfl, by omega, by omega, ?_, ?_, ?_, ?_, ?_⟩, by simp [intOf]; omega⟩
          · have hnb : (Value.slice (some ⟨g', 0, none⟩) (done.length + 1) cap').ownBlock ≠ some (w.heap.size + 1) := fun h => by have := own_base HON.out _ h; omega
            simpa [icells] using own_set HON.out hnb (i := 1) (.slice (some ⟨g', 0, none⟩) (done.length + 1) cap')
          · rw [HEA.out]; exact HNX.out
          · exact HX2.out.setCell (p := ⟨w.heap.size + 1, 1, none⟩) (Nat.le_succ _) _
          · exact HBR2.out.far (p := ⟨w.heap.size + 1, 1, none⟩) (by show w.heap.size ≠ w.heap.size + 1; omega) _
          · exact HBO2.out.set_ 1 _
    · have HDN : Hid (done = gr N) := Lib.hid (by have := HSUM.out; rw [show z.toNat = 0 by omega, List.take_zero, groupsOf_nil, List.append_nil] at this; exact this)
      obtain ⟨A, c, rfl⟩ := own_slice HOWN.out
      have q0 := HBO.out.cell 0
      have q1 := HBO.out.cell 1
      have r0 := HBR.out.cell 0
      have r1 := HBR.out.cell 1
      have f0 := HBR.out.frozen 0
      have f1 := HBR.out.frozen 1
      simp only [List.getElem?_toArray, List.getElem?_cons_zero, List.getElem?_cons_succ] at q0 q1 r0 r1
      go_wp2_with fail
      have hnb : (Value.slice A done.length c).ownBlock ≠ some w.heap.size := fun h => by have := own_base HOWN.out _ h; omega
      have hfin := own_set (own_set HOWN.out hnb (i := 0) (.bool ng)) hnb (i := 1) (.slice A done.length c)
      refine bodyPost_ret (results_numI rfl _ _ w.heap.size (.bool ng) (.slice A done.length c) rfl ((HBR.out.set_ 0 (.bool ng)).set_ 1 (.slice A done.length c))) rfl ?_
      have hcp := own_cap hfin
      rw [HDN.out] at hfin hcp ⊢
      exact ⟨A, c, rfl, Reads.own hfin, (HX.out.setCell (p := ⟨w.heap.size, 0, none⟩) (Nat.le_refl _) _).setCell (p := ⟨w.heap.size, 1, none⟩) (Nat.le_refl _) _, hcp.1, hcp.2⟩
theorem lastT_step (g q : Nat) (l : Bs) : lastT g (q + 1) ++ l = UInt8.ofNat (48 + g / 10 ^ q % 10) :: (lastT g q ++ l) := rfl
theorem canon_sgn (b : Bool) (gs : List Nat) (h : ∀ g ∈ gs, g < B9) : canon (if b then 45 :: lowT gs else lowT gs) = ofI (sgn b (gval gs)) := canon_low b gs h
set_option maxRecDepth 100000 in
set_option maxHeartbeats 2000000 in
theorem refWrite (b : Bool) (gs : List Nat) (A : Option Addr) (c : Nat) (w : World) (hA : RdI w A gs) (hn : gs.length ≤ 1000000) (hb : ∀ g ∈ gs, g < B9) :
    Calls Tryz.prog 193 #[.agg #[.bool b, .slice A gs.length c]] w fun e w' => e = .returned (.string (bs (ofI (sgn b (gval gs))))) ∧ Ext w w' := by
  have HC := Lib.hid (canon_sgn b gs hb)
  generalize ofI (sgn b (gval gs)) = r at *
  have HA := Lib.hid (hA.ext (Ext.new w (.cells #[.bool b, .slice A gs.length c] 230)))
  have HB := Lib.hid hb
  have HTL := Lib.hid (fun k => (show (lowT (gs.take k)).length ≤ 9 * gs.length from by rw [lowT_len _ (fun g hg => hb g (List.mem_of_mem_take hg)), List.length_take]; omega))
  clear hA hb
  go_enter Tryz.func193, Tryz.ntmps193
  go_wp2_with fail
  go_loop [3, 4, 5, 6] (fun t i _ _ => ∃ k : Nat, k ≤ gs.length ∧ i = .int .i64 k ∧ t = .string (bs (lowT (gs.take k)))) (fun _ i _ _ => gs.length - (intOf i).toNat)
  case atStart => exact ⟨0, Nat.zero_le _, rfl, rfl⟩
  case round =>
    obtain ⟨k, hk, rfl, rfl⟩ := hrel
    have hlt9 := HTL.out k
    by_cases hlt : k < gs.length
    · obtain ⟨ab, ao, rfl, hab, hcell⟩ := HA.out.at_ hlt
      have hg := HB.out _ (List.getElem_mem hlt)
      have HNX : Hid (lastT (gs[k]'hlt) 9 ++ lowT (gs.take k) = lowT (gs.take (k + 1))) := Lib.hid (by
        rw [lastT_nine hg, List.take_succ_eq_append_getElem hlt, lowT_snoc])
      generalize gs[k]'hlt = g at *
      generalize lowT (gs.take k) = low at *
      have hg' : g < 1000000000 := hg
      clear hg
      go_wp2_with fail
      clear hcell
      go_loop [3, 5, 6] (fun t v j => ∃ q : Nat, q ≤ 9 ∧ j = .int .i64 q ∧ v = .int .i64 (g / 10 ^ q : Nat) ∧ t = .string (bs (lastT g q ++ low))) (fun _ _ j => 9 - (intOf j).toNat)
      case atStart => exact ⟨0, Nat.zero_le _, rfl, by rw [Nat.pow_zero, Nat.div_one], rfl⟩
      case round =>
        obtain ⟨q, hq, rfl, rfl, rfl⟩ := hrel
        by_cases hq9 : q < 9
        · have HS := Lib.hid (lastT_step g q low)
          have HV : Hid (g / 10 ^ q / 10 = g / 10 ^ (q + 1)) := Lib.hid (by rw [Nat.pow_succ, Nat.div_div_eq_div_mul])
          have hvl : g / 10 ^ q ≤ g := Nat.div_le_self _ _
          have hll : (lastT g q ++ low).length ≤ 9 + 9 * gs.length := by rw [List.length_append, lastT_len]; omega
          generalize lastT g q ++ low = t at *
          generalize g / 10 ^ q = v at *
          have hcv : ∀ W : World, (convert 21 9 (.int .i32 (48 + (v : Int) % 10))).run Tryz.prog W = .ok (.string (bs [UInt8.ofNat (48 + v % 10)])) W := fun W => by rw [run_convert_int_string W _ _ _ _ (by rw [Tryz.underlying21]; rfl) Tryz.underlying9, encode_dig]
          generalize UInt8.ofNat (48 + v % 10) = dd at *
          go_wp2_with fail
          go_round
          case rel => exact ⟨q + 1, by omega, by go_num, by rw [← HV.out] <;> go_num, by rw [HS.out]⟩
          case measure => simp [intOf]; omega
        · obtain rfl : q = 9 := by omega
          rw [HNX.out]
          generalize g / 10 ^ 9 = v at *
          go_wp2_with fail
          go_round
          case rel => exact ⟨k + 1, by omega, by go_num, rfl⟩
          case measure => simp [intOf]; omega
    · have HT : Hid (lowT (gs.take k) = lowT gs) := Lib.hid (by rw [List.take_of_length_le (by omega)])
      cases b
      · have HC' : Hid (canon (lowT gs) = r) := Lib.hid HC.out
        rw [← HT.out] at HC'
        clear HT HC
        generalize lowT (gs.take k) = t at *
        go_wp2_with fail
        refine (refCanonical t _ (by omega)).mono ?_
        rintro e w1 ⟨rfl, rfl⟩
        go_wp2_with fail
        go_ret
        exact ⟨by rw [HC'.out]; rfl, Ext.new _ _⟩
      · have HC' : Hid (canon (45 :: lowT gs) = r) := Lib.hid HC.out
        rw [← HT.out] at HC'
        clear HT HC
        generalize lowT (gs.take k) = t at *
        go_wp2_with fail
        refine (refCanonical (45 :: t) _ (by rw [List.length_cons]; omega)).mono ?_
        rintro e w1 ⟨rfl, rfl⟩
        go_wp2_with fail
        go_ret
        exact ⟨by rw [HC'.out]; rfl, Ext.new _ _⟩
end Go.Proofs.YthgpheopnhajaaaGreatDoor

/- The walks over the reference's sums and differences of groups. -/
namespace Go.Proofs.YthgpheopnhajaaaGreatDoor
open Go.RowKit Go.Shelf
attribute [local go_sem] size_bs toList_bs
def MagEndsI (n : Nat) (w : World) (e : Ending) (w' : World) : Prop :=
  ∃ A c, e = .returned (.slice A (gr n).length c) ∧ RdI w' A (gr n) ∧ Ext w w' ∧ (gr n).length ≤ c ∧ c ≤ maxLen
theorem RdI.cut {w : World} {A : Option Addr} {gs : List Nat} (h : RdI w A gs) : RdI w A (cutL gs) := by rw [cutL_prefix]; exact h.take _
theorem icells_snoc (l : List Nat) (x : Nat) (z : Int) (h : z = (x : Int)) : icells (l ++ [x]) = icells l ++ [.int .i64 z] := by subst h; simp [icells]
/-- how a loop stands that writes the groups f one after the other, with a carry -/
def SumAt (f g : Nat → Nat) (L : Nat) (w : World) (v cv z : Value) (wr : World) : Prop :=
  ∃ k : Nat, k ≤ L ∧ z = .int .i64 k ∧ cv = .int .i64 (g k : Nat) ∧ wr.ownsRow w.heap.size 3 1 v k (icells ((List.range k).map f)) ∧ Ext w wr
theorem own_next {w : World} {base k g c : Nat} {e : TypeId} {f : Nat → Nat} {z : Int} (h : w.ownsRow base e 1 (.slice (some ⟨g, 0, none⟩) (k + 1) c) (k + 1) (icells ((List.range k).map f) ++ [.int .i64 z])) (hz : z = (f k : Nat)) : w.ownsRow base e 1 (.slice (some ⟨g, 0, none⟩) (k + 1) c) (k + 1) (icells ((List.range (k + 1)).map f)) := by
  rw [List.range_succ, List.map_append, List.map_cons, List.map_nil, icells_snoc _ _ _ hz]; exact h
theorem plus_all {x y k : Nat} (h1 : (gr x).length ≤ k) (h2 : (gr y).length ≤ k) (hc : cy (at0 (gr x)) (at0 (gr y)) k = 0) : cutL ((List.range k).map (pl (at0 (gr x)) (at0 (gr y)))) = gr (x + y) := by
  rw [cutL_gr (by intro g hg; obtain ⟨j, _, rfl⟩ := List.mem_map.1 hg; exact pl_lt _ _ _), gval_range]
  have h := plus_sum (at0 (gr x)) (at0 (gr y)) k
  rw [hc, Nat.zero_mul, Nat.add_zero, ← gval_gsum (gr x) k h1, ← gval_gsum (gr y) k h2, gval_gr, gval_gr] at h
  rw [h]
set_option maxRecDepth 100000 in
set_option maxHeartbeats 4000000 in
theorem refPlus (x y : Nat) (A A' : Option Addr) (c c' : Nat) (w : World) (hA : RdI w A (gr x)) (hA' : RdI w A' (gr y)) (hn : (gr x).length ≤ 1000000) (hn' : (gr y).length ≤ 1000000) :
    Calls Tryz.prog 246 #[.slice A (gr x).length c, .slice A' (gr y).length c'] w (MagEndsI (x + y) w) := by
  obtain ⟨i0, hI, hz0, hz1, hz2⟩ := info_parts i64Info
  have HI := Lib.hid hI
  have HA := Lib.hid hA
  have HA' := Lib.hid hA'
  have HFIN := Lib.hid (fun k => plus_all (x := x) (y := y) (k := k))
  have HL1 := Lib.hid (fun k => at0_bd (gr_lt x) k)
  have HL2 := Lib.hid (fun k => at0_bd (gr_lt y) k)
  have HCY := Lib.hid (fun k => cy_le (HL1.out) (HL2.out) k)
  have HZA := Lib.hid (fun k h => at0_ge (l := gr x) (k := k) h)
  have HZB := Lib.hid (fun k h => at0_ge (l := gr y) (k := k) h)
  clear hI hA hA'
  generalize gr x = gx at *
  generalize gr y = gy at *
  go_enter Tryz.func246, Tryz.ntmps246
  go_wp2_with fail
  go_loopw [5, 6, 7, 8] (fun v cv z _ wr => SumAt (pl (at0 gx) (at0 gy)) (cy (at0 gx) (at0 gy)) (max gx.length gy.length + 1) w v cv z wr) (fun _ _ z _ _ => max gx.length gy.length + 2 - (intOf z).toNat)
  case atStart => exact ⟨0, by omega, rfl, rfl, ⟨rfl, .inr ⟨w.heap.size, 0, #[], rfl, Nat.le_refl _, heap_alloc_new w _, Nat.le_refl _, by decide, rfl, rfl⟩⟩, Ext.new _ _⟩
  case round =>
    obtain ⟨k, hk, rfl, rfl, hown, hx⟩ := hrel
    have HOWN := Lib.hid hown
    have HX := Lib.hid hx
    clear hown hx
    have hpk := HL1.out k
    have hqk := HL2.out k
    have hck := HCY.out k
    have hkk : k ≤ 1000001 := by omega
    by_cases hgo : k < gx.length ∨ k < gy.length ∨ 0 < cy (at0 gx) (at0 gy) k
    · have hkL : k ≤ max gx.length gy.length := by
        rcases Nat.lt_or_ge (max gx.length gy.length) k with h | h
        · exfalso
          obtain ⟨j, rfl⟩ : ∃ j, k = j + 1 := ⟨k - 1, by omega⟩
          have e1 := HZA.out j (by omega)
          have e2 := HZB.out j (by omega)
          have h3 := HCY.out j
          have e3 : cy (at0 gx) (at0 gy) (j + 1) = (at0 gx j + at0 gy j + cy (at0 gx) (at0 gy) j) / B9 := rfl
          rw [e1, e2] at e3
          have e4 : (0 + 0 + cy (at0 gx) (at0 gy) j) / B9 = 0 := Nat.div_eq_of_lt (by show _ < 1000000000; omega)
          omega
        · exact h
      have HP : Hid ((((at0 gx k : Nat) : Int) + (at0 gy k : Nat) + (cy (at0 gx) (at0 gy) k : Nat)) % 1000000000 = (pl (at0 gx) (at0 gy) k : Nat)) := Lib.hid (by show _ = (((at0 gx k + at0 gy k + cy (at0 gx) (at0 gy) k) % 1000000000 : Nat) : Int); omega)
      have HQ : Hid ((((at0 gx k : Nat) : Int) + (at0 gy k : Nat) + (cy (at0 gx) (at0 gy) k : Nat)) / 1000000000 = (cy (at0 gx) (at0 gy) (k + 1) : Nat)) := Lib.hid (by show _ = (((at0 gx k + at0 gy k + cy (at0 gx) (at0 gy) k) / 1000000000 : Nat) : Int); omega)
      have hpk' : at0 gx k < 1000000000 := hpk
      have hqk' : at0 gy k < 1000000000 := hqk
      clear hpk hqk
      have HG1 := Lib.hid (fun W h => refGroup gx A c k W h hn)
      have HG2 := Lib.hid (fun W h => refGroup gy A' c' k W h hn')
      have hcases : k < gx.length ∨ (¬ k < gx.length ∧ k < gy.length) ∨ (¬ k < gx.length ∧ ¬ k < gy.length ∧ 0 < cy (at0 gx) (at0 gy) k) := by omega
      generalize at0 gx k = p at *
      generalize at0 gy k = q at *
      generalize cy (at0 gx) (at0 gy) k = cc at *
      clear hgo
      rcases hcases with h1 | ⟨h1, h2⟩ | ⟨h1, h2, h3⟩
      all_goals
        go_wp2_with fail
        refine (HG1.out _ (HA.out.ext HX.out)).mono ?_
        rintro e w1 ⟨rfl, rfl⟩
        go_wp2_with fail
        refine (HG2.out _ (HA'.out.ext HX.out)).mono ?_
        rintro e w1 ⟨rfl, rfl⟩
        go_wp2_with (at_builtin; refine wpList_append_lies _ rfl (.tmp 35) (.tmp 38) 206 rfl w.heap.size 3 i0 _ 1 8 Tryz.underlying206 HI.out hz0 hz1 hz2 rfl (by decide) _ k (icells ((List.range k).map (pl (at0 gx) (at0 gy)))) rfl (own_ext2 HOWN.out (Ext.new _ _)) ⟨wr.heap.size, 0, none⟩ 1 1 [.int .i64 (((p : Int) + (q : Int) + (cc : Int)) % 1000000000)] rfl rfl (World.news_of_block (heap_alloc_new wr _)) (by simp [Value.oneCell']) (by omega) (by simp only [maxLen]; omega) (by omega) (by have := HX.out.size; simp; omega) _ rfl ?_; intro g' cap' w' hown hgrow hat hlt'; have HX2 : Hid (Ext w w') := Lib.hid (Ext.grown (HX.out.trans (Ext.new _ _)) hgrow (fun k hk => own_base HOWN.out k hk)); have HON := Lib.hid (own_next hown HP.out); clear hown hgrow hat)
        refine ⟨⟨k + 1, by omega, by go_num, by rw [← HQ.out], HON.out, HX2.out⟩, by simp [intOf]; omega⟩
    · have h1 : ¬ k < gx.length := by omega
      have h2 : ¬ k < gy.length := by omega
      have h3 : cy (at0 gx) (at0 gy) k = 0 := by omega
      have HF := Lib.hid (HFIN.out k (by omega) (by omega) h3)
      rw [h3]
      clear hgo h3 hck hpk hqk HFIN
      obtain ⟨A1, c1, rfl⟩ := own_slice HOWN.out
      have hcp := own_cap HOWN.out
      have hlen : ((List.range k).map (pl (at0 gx) (at0 gy))).length = k := by simp
      have HRD : Hid (RdI wr A1 ((List.range k).map (pl (at0 gx) (at0 gy)))) := Lib.hid (by
        have := Reads.own HOWN.out
        unfold RdI; rw [hlen]; exact this)
      have HTR := Lib.hid (refTrim ((List.range k).map (pl (at0 gx) (at0 gy))) A1 c1 wr HRD.out (by rw [hlen]; exact hcp.1) hcp.2 (by intro g hg; obtain ⟨j, _, rfl⟩ := List.mem_map.1 hg; exact pl_lt _ _ _))
      rw [hlen, HF.out] at HTR
      have HRC : Hid (RdI wr A1 (gr (x + y))) := Lib.hid (by rw [← HF.out]; exact HRD.out.cut)
      have HCL : Hid ((gr (x + y)).length ≤ c1 ∧ c1 ≤ maxLen) := Lib.hid ⟨by rw [← HF.out]; have := cutL_le ((List.range k).map (pl (at0 gx) (at0 gy))); omega, hcp.2⟩
      clear hlen hcp
      go_wp2_with fail
      refine HTR.out.mono ?_
      rintro e w1 ⟨rfl, rfl⟩
      go_wp2_with fail
      go_ret
      exact ⟨A1, c1, rfl, HRC.out, HX.out, HCL.out.1, HCL.out.2⟩
theorem quiet_same {P : Program} {f : FuncId} {args : Array Value} {w : World} {n : Nat} {v : Value}
    (h : Calls P f args (w.drewN n) fun e w' => e = .returned v ∧ w.drewN n = w') : Calls P f args (w.drewN n) fun e w'' => e = .returned v ∧ ∃ m, w'' = w.drewN m :=
  h.mono fun _ _ ⟨he, hm⟩ => ⟨he, n, hm.symm⟩
theorem own_drewN {w : World} {base : Nat} {e : TypeId} {size n : Nat} {v : Value} {xs : List Value} (h : w.ownsRow base e size v n xs) (k : Nat) : (w.drewN k).ownsRow base e size v n xs := own_ext2 h ((Ext.refl w).drewN k)
set_option maxRecDepth 100000 in
set_option maxHeartbeats 4000000 in
theorem refMinus (x y : Nat) (hle : y ≤ x) (A A' : Option Addr) (c c' : Nat) (w : World) (hA : RdI w A (gr x)) (hA' : RdI w A' (gr y)) (hn : (gr x).length ≤ 1000000) (hn' : (gr y).length ≤ 1000000) :
    Calls Tryz.prog 248 #[.slice A (gr x).length c, .slice A' (gr y).length c'] w (MagEndsI (x - y) w) := by
  obtain ⟨i0, hI, hz0, hz1, hz2⟩ := info_parts i64Info
  have HI := Lib.hid hI
  have HA := Lib.hid hA
  have HA' := Lib.hid hA'
  have HFIN := Lib.hid (cut_mixed hle)
  have HL1 := Lib.hid (fun k => at0_bd (gr_lt x) k)
  have HL2 := Lib.hid (fun k => at0_bd (gr_lt y) k)
  have HMI := Lib.hid (fun k => mi_lt (HL1.out) (HL2.out) k)
  have HV1 := Lib.hid (fun k (h : k < (gr x).length) => at0_lt h)
  clear hI hA hA' hle
  generalize gr x = gx at *
  generalize gr y = gy at *
  go_enter Tryz.func248, Tryz.ntmps248
  go_wp2_with fail
  go_loopw [5, 6, 7, 8] (fun v cv z _ wr => SumAt (mi (at0 gx) (at0 gy)) (bw (at0 gx) (at0 gy)) gx.length w v cv z wr) (fun _ _ z _ _ => gx.length - (intOf z).toNat)
  case atStart => exact ⟨0, by omega, rfl, rfl, ⟨rfl, .inr ⟨w.heap.size, 0, #[], rfl, Nat.le_refl _, heap_alloc_new w _, Nat.le_refl _, by decide, rfl, rfl⟩⟩, Ext.new _ _⟩
  case round =>
    obtain ⟨k, hk, rfl, rfl, hown, hx⟩ := hrel
    have HOWN := Lib.hid hown
    have HX := Lib.hid hx
    clear hown hx
    by_cases hlt : k < gx.length
    · have hpk : at0 gx k < 1000000000 := HL1.out k
      have hqk : at0 gy k < 1000000000 := HL2.out k
      have hbk : bw (at0 gx) (at0 gy) k ≤ 1 := bw_le _ _ k
      obtain ⟨ab, ao, rfl, hab, hcell⟩ := (HA.out.ext HX.out).at_ hlt
      rw [← HV1.out k hlt] at hcell
      have HG2 := Lib.hid (fun W h => refGroup gy A' c' k W h hn')
      have HM1 : Hid (at0 gx k < at0 gy k + bw (at0 gx) (at0 gy) k → ((at0 gx k : Nat) : Int) - (at0 gy k : Nat) - (bw (at0 gx) (at0 gy) k : Nat) + 1000000000 = (mi (at0 gx) (at0 gy) k : Nat) ∧ bw (at0 gx) (at0 gy) (k + 1) = 1) := Lib.hid (fun h => by
        have e1 : mi (at0 gx) (at0 gy) k = at0 gx k + 1000000000 - (at0 gy k + bw (at0 gx) (at0 gy) k) := by unfold mi; rw [if_pos h]; rfl
        have e2 : bw (at0 gx) (at0 gy) (k + 1) = 1 := by show (if _ then 1 else 0) = 1; rw [if_pos h]
        exact ⟨by omega, e2⟩)
      have HM2 : Hid (¬ at0 gx k < at0 gy k + bw (at0 gx) (at0 gy) k → ((at0 gx k : Nat) : Int) - (at0 gy k : Nat) - (bw (at0 gx) (at0 gy) k : Nat) = (mi (at0 gx) (at0 gy) k : Nat) ∧ bw (at0 gx) (at0 gy) (k + 1) = 0) := Lib.hid (fun h => by
        have e1 : mi (at0 gx) (at0 gy) k = at0 gx k - (at0 gy k + bw (at0 gx) (at0 gy) k) := by unfold mi; rw [if_neg h]
        have e2 : bw (at0 gx) (at0 gy) (k + 1) = 0 := by show (if _ then 1 else 0) = 0; rw [if_neg h]
        exact ⟨by omega, e2⟩)
      generalize at0 gx k = p at *
      generalize at0 gy k = q at *
      generalize bw (at0 gx) (at0 gy) k = bb at *
      have hw1 : IntKind.i64.wrap ((p : Int) - (q : Int)) = (p : Int) - q := IntWalk.i64_in _ (by omega)
      have hw2 : IntKind.i64.wrap ((p : Int) - (q : Int) - (bb : Int)) = (p : Int) - q - bb := IntWalk.i64_in _ (by omega)
      by_cases hbo : p < q + bb
      · obtain ⟨he1, he2⟩ := HM1.out hbo
        have HP := Lib.hid he1
        have HQ := Lib.hid he2
        have hneg : (p : Int) - (q : Int) - (bb : Int) < 0 := by omega
        clear HM1 HM2 he1 he2
        go_wp2_with fail
        go_quiet ((go_at_call 280; exact quiet_same (HG2.out _ (HA'.out.ext (HX.out.drewN _)))))
        clear hw1 hw2
        go_wp2_with (at_builtin; refine wpList_append_lies _ rfl (.tmp 30) (.tmp 32) 206 rfl w.heap.size 3 i0 _ 1 8 Tryz.underlying206 HI.out hz0 hz1 hz2 rfl (by decide) _ k (icells ((List.range k).map (mi (at0 gx) (at0 gy)))) rfl (own_ext2 (own_drewN HOWN.out _) (Ext.new _ _)) ⟨wr.heap.size, 0, none⟩ 1 1 [.int .i64 ((p : Int) - (q : Int) - (bb : Int) + 1000000000)] rfl rfl (World.news_of_block (heap_alloc_new _ _)) (by simp [Value.oneCell']) (by omega) (by simp only [maxLen]; omega) (by omega) (by have := HX.out.size; simp; omega) _ rfl ?_; intro g' cap' w' hown hgrow hat hlt'; have HX2 : Hid (Ext w w') := Lib.hid (Ext.grown ((HX.out.drewN _).trans (Ext.new _ _)) hgrow (fun k hk => own_base HOWN.out k hk)); have HON := Lib.hid (own_next hown HP.out); clear hown hgrow hat)
        refine ⟨⟨k + 1, by omega, by go_num, by rw [HQ.out]; rfl, HON.out, HX2.out⟩, by simp [intOf]; omega⟩
      · obtain ⟨he1, he2⟩ := HM2.out hbo
        have HP := Lib.hid he1
        have HQ := Lib.hid he2
        have hneg : ¬ (p : Int) - (q : Int) - (bb : Int) < 0 := by omega
        clear HM1 HM2 he1 he2
        go_wp2_with fail
        go_quiet ((go_at_call 280; exact quiet_same (HG2.out _ (HA'.out.ext (HX.out.drewN _)))))
        clear hw1 hw2
        go_wp2_with (at_builtin; refine wpList_append_lies _ rfl (.tmp 30) (.tmp 32) 206 rfl w.heap.size 3 i0 _ 1 8 Tryz.underlying206 HI.out hz0 hz1 hz2 rfl (by decide) _ k (icells ((List.range k).map (mi (at0 gx) (at0 gy)))) rfl (own_ext2 (own_drewN HOWN.out _) (Ext.new _ _)) ⟨wr.heap.size, 0, none⟩ 1 1 [.int .i64 ((p : Int) - (q : Int) - (bb : Int))] rfl rfl (World.news_of_block (heap_alloc_new _ _)) (by simp [Value.oneCell']) (by omega) (by simp only [maxLen]; omega) (by omega) (by have := HX.out.size; simp; omega) _ rfl ?_; intro g' cap' w' hown hgrow hat hlt'; have HX2 : Hid (Ext w w') := Lib.hid (Ext.grown ((HX.out.drewN _).trans (Ext.new _ _)) hgrow (fun k hk => own_base HOWN.out k hk)); have HON := Lib.hid (own_next hown HP.out); clear hown hgrow hat)
        refine ⟨⟨k + 1, by omega, by go_num, by rw [HQ.out]; rfl, HON.out, HX2.out⟩, by simp [intOf]; omega⟩
    · obtain rfl : k = gx.length := by omega
      generalize bw (at0 gx) (at0 gy) gx.length = bb at *
      obtain ⟨A1, c1, rfl⟩ := own_slice HOWN.out
      have hcp := own_cap HOWN.out
      have hlen : ((List.range gx.length).map (mi (at0 gx) (at0 gy))).length = gx.length := by simp
      have HRD : Hid (RdI wr A1 ((List.range gx.length).map (mi (at0 gx) (at0 gy)))) := Lib.hid (by
        have := Reads.own HOWN.out
        unfold RdI; rw [hlen]; exact this)
      have HTR := Lib.hid (refTrim ((List.range gx.length).map (mi (at0 gx) (at0 gy))) A1 c1 wr HRD.out (by rw [hlen]; exact hcp.1) hcp.2 (by intro g hg; obtain ⟨j, _, rfl⟩ := List.mem_map.1 hg; exact HMI.out _))
      rw [hlen, HFIN.out] at HTR
      have HRC : Hid (RdI wr A1 (gr (x - y))) := Lib.hid (by rw [← HFIN.out]; exact HRD.out.cut)
      have HCL : Hid ((gr (x - y)).length ≤ c1 ∧ c1 ≤ maxLen) := Lib.hid ⟨by rw [← HFIN.out]; have := cutL_le ((List.range gx.length).map (mi (at0 gx) (at0 gy))); omega, hcp.2⟩
      clear hlen hcp
      go_wp2_with fail
      refine HTR.out.mono ?_
      rintro e w1 ⟨rfl, rfl⟩
      go_wp2_with fail
      go_ret
      exact ⟨A1, c1, rfl, HRC.out, HX.out, HCL.out.1, HCL.out.2⟩
end Go.Proofs.YthgpheopnhajaaaGreatDoor
