/- The seat's texts, part 2 of 5. -/
import Derived.Test.YtikehdbkiplleaaGreatDoorZ1
import Derived.Lib.AppendIntMem
import Derived.Lib.OthersKept
import Derived.Test.YtikehdbkiplleaaGreatDoorProg
import Derived.Laws.Runes
import Derived.IntWalk
import Derived.BigQuiet
import Derived.Deep.RegionHeld3

/- What the walks take of the library's variables ('Env'), and the shelf's contracts in the words 'bs', 'Ext'. -/
namespace Go.Proofs.YtikehdbkiplleaaGreatDoor
open Go.RowKit Go.Shelf

theorem cell_in {w : World} {p : Addr} {v : Value} (h : w.cell? p = some v) : p.block < w.heap.size := by
  rcases Nat.lt_or_ge p.block w.heap.size with k | k
  · exact k
  · unfold World.cell? at h; rw [Array.getElem?_eq_none k] at h; simp at h
structure Env (w : World) : Prop where
  tab : Lib.TabIs Tryz.prog w "internal/strconv.uint64pow10" .u64 Lib.pow10Tab
  len : ∃ m : Int, w.cell? ⟨3, 0, none⟩ = some (.int .i64 m)
  big : 2 < w.heap.size ∧ 3 < w.heap.size
  syn : ∃ v, w.cell? ⟨0, 0, none⟩ = some v ∧ (v = .nilIface ∨ ∃ te pe, v = .iface te pe)
  rng : ∃ v, w.cell? ⟨1, 0, none⟩ = some v ∧ (v = .nilIface ∨ ∃ te pe, v = .iface te pe)
theorem Env.ext {w w' : World} (h : Env w) (he : Ext w w') : Env w' := by
  refine ⟨?_, ?_, ⟨Nat.lt_of_lt_of_le h.big.1 he.size, Nat.lt_of_lt_of_le h.big.2 he.size⟩, ?_, ?_⟩
  · exact var?_below he (g := 2) (by kernel_rfl) h.big.1 h.tab
  · obtain ⟨m, hm⟩ := h.len
    exact ⟨m, (he.cell (p := ⟨3, 0, none⟩) h.big.2).trans hm⟩
  · obtain ⟨v, hv, k⟩ := h.syn
    exact ⟨v, (he.cell (p := ⟨0, 0, none⟩) (cell_in hv)).trans hv, k⟩
  · obtain ⟨v, hv, k⟩ := h.rng
    exact ⟨v, (he.cell (p := ⟨1, 0, none⟩) (cell_in hv)).trans hv, k⟩

theorem itoa_any (n : Int) (w : World) (h0 : -9223372036854775808 ≤ n) (h1 : n ≤ 9223372036854775807) (hE : Env w) :
    Calls Tryz.prog 176 #[.int .i64 n] w fun e w' => e = .returned (.string (bs (Lib.itoa n))) ∧ Ext w w' := by
  refine (Tryz.strconv_Itoa n h0 h1 w hE.tab).mono ?_
  rintro e w' ⟨rfl, k, os, rfl⟩
  exact ⟨rfl, Lib.below_grow _ w (Nat.le_refl _) k os⟩
theorem repeat_any (l : Bs) (c : Int) (w : World) (h0 : 0 ≤ c) (hc : c ≤ 1000) (hl : l.length ≤ 1000) :
    Calls Tryz.prog 123 #[.string (bs l), .int .i64 c] w fun e w' => e = .returned (.string (bs (Lib.repeatL l c.toNat))) ∧ Ext w w' := by
  obtain ⟨n, rfl⟩ := Int.eq_ofNat_of_zero_le h0
  refine (Tryz.strings_Repeat (bs l) n w (by omega) (by rw [size_bs]; exact Nat.le_trans (Nat.mul_le_mul hl (show n ≤ 1000 by omega)) (by decide))).mono ?_
  rintro e w' ⟨rfl, hb⟩
  exact ⟨by rw [data_bs, Int.toNat_natCast]; rfl, hb⟩
end Go.Proofs.YtikehdbkiplleaaGreatDoor

/- The walk over the library's FormatUint. -/
namespace Go.Proofs.YtikehdbkiplleaaGreatDoor
open Go.RowKit Go.Lib Go.Sort

set_option maxRecDepth 100000 in
set_option maxHeartbeats 2000000 in
theorem fmtIn (u : Nat) (hu64 : u < 9223372036854775808) (w : World) (hE : Env w) :
    Calls Tryz.prog 161 #[.int .u64 u, .int .i64 10] w fun e w' => e = .returned (.string (bs (Lib.decDigits u))) ∧ Ext w w' := by
  by_cases hs : u < 100
  · go_enter Tryz.func161, Tryz.ntmps161
    go_wp2_with fail
    refine (Tryz.internal_strconv_small u hs _).mono ?_
    rintro e w' ⟨rfl, rfl⟩
    go_wp2_with fail
    go_ret
    exact ⟨rfl, Ext.refl _⟩
  · have hu1 : 1 ≤ u := by omega
    have hu : u < 18446744073709551616 := by omega
    have hnd20 : Lib.nDigits u ≤ 20 := by have := Lib.numDigits_eq u hu1 hu; split at this <;> omega
    have hH0 := Lib.holds_zero0 w 185 (Lib.nDigits u) (by omega)
    have hfmt := Tryz.internal_strconv_formatBase10 w.heap.size 0 24 u (Array.replicate (Lib.nDigits u) 0) (w.alloc (.cells Lib.zeros24 185)) hH0 (by rw [Array.size_replicate]; exact Lib.lt_pow_nDigits u) hu (by rw [Array.size_replicate]; omega)
    rw [Array.size_replicate] at hfmt
    have HH0 := Lib.hid hH0
    have HF := Lib.hid hfmt
    have HT := Lib.hid (Lib.tabIs_alloc hE.tab (.cells Lib.zeros24 185))
    clear hH0 hfmt
    have hal : Tryz.prog.arrayLen 185 = 24 := by kernel_rfl
    have hsl : ∀ W, (Instr.sliceAt 185 (.pointer (some ⟨w.heap.size, 0, none⟩)) none (some (.int .i64 (Lib.nDigits u : Int))) none).run Tryz.prog W = .ok (.slice (some ⟨w.heap.size, 0, none⟩) (Lib.nDigits u) 24) W := fun W => by
      rw [run_sliceAt_array_h W 185 ⟨w.heap.size, 0, none⟩ (by simp [Program.arrayLen, Program.elem, Tryz.underlying185]) .i64 (Lib.nDigits u : Int) (by omega) (by rw [hal]; omega)]
      rw [hal, Int.toNat_natCast, show Tryz.prog.elem 185 = 5 from by kernel_rfl, Tryz.sizeOf5]
      simp [Result.andThen, slicedAt, Addr.add]
    clear hal
    go_enter Tryz.func161, Tryz.ntmps161
    go_wp2_with fail
    refine (Tryz.internal_strconv_numDigits u hu1 hu _ HT.out).mono ?_
    rintro e w' ⟨rfl, rfl⟩
    go_wp2_with fail
    refine HF.out.mono ?_
    rintro e w' ⟨rfl, k, v', dk, rfl, hF⟩
    have hcv : (convert 123 9 (.slice (some ⟨w.heap.size, 0, none⟩) (Lib.nDigits u) 24)).run Tryz.prog ((putRow (fun (b : UInt8) => Value.int .u8 (b.toNat : Int)) (w.alloc (.cells Lib.zeros24 185)) w.heap.size 0 dk).drewN k) = .ok (.string ⟨(Lib.decDigits u).toArray⟩) ((putRow (fun (b : UInt8) => Value.int .u8 (b.toNat : Int)) (w.alloc (.cells Lib.zeros24 185)) w.heap.size 0 dk).drewN k) := by
      have h := run_convert_bytes_back (P := Tryz.prog) ((putRow (fun (b : UInt8) => Value.int .u8 (b.toNat : Int)) (w.alloc (.cells Lib.zeros24 185)) w.heap.size 0 dk).drewN k) 123 9 5 ⟨w.heap.size, 0, none⟩ 24 (Lib.decDigits u) Tryz.underlying123 Tryz.underlying5 Tryz.underlying9 (fun j hj => by
        rw [Lib.row_is_numeral hF j hj, Lib.add_plain, World.cell?_drewN]
        exact cell?_putRow (fun (b : UInt8) => Value.int .u8 (b.toNat : Int)) _ w.heap.size 0 _ dk HH0.out (by rw [hF.size, Array.size_replicate]) j (by rw [hF.size]; rw [Lib.decDigits_length] at hj; exact hj))
      rw [Lib.decDigits_length] at h
      exact h
    obtain ⟨os, eo⟩ := Lib.fin_at w (.cells Lib.zeros24 185) dk k 0
    have HX : Hid (Ext w ((putRow (fun (b : UInt8) => Value.int .u8 (b.toNat : Int)) (w.alloc (.cells Lib.zeros24 185)) w.heap.size 0 dk).drewN k)) := Lib.hid (by rw [eo]; exact Lib.below_grow _ w (Nat.le_refl _) k os)
    clear eo hF
    generalize (putRow (fun (b : UInt8) => Value.int .u8 (b.toNat : Int)) (w.alloc (.cells Lib.zeros24 185)) w.heap.size 0 dk).drewN k = W at *
    go_wp2_with fail
    go_ret
    exact ⟨rfl, HX.out⟩
theorem dec_pos (u : Nat) (h : u ≠ 0) : Lib.decDigits u = dig10 u := by
  induction u using Nat.strongRecOn with
  | ind u ih =>
    rw [Lib.decDigits]
    by_cases h10 : u < 10
    · rw [dif_pos h10, dig10_pos h, show u / 10 = 0 by omega, dig10_zero, Nat.mod_eq_of_lt h10]; rfl
    · rw [dif_neg h10, dig10_pos h, ih (u / 10) (by omega) (by omega)]
theorem dec_fmtU (u : Nat) : Lib.decDigits u = fmtU u := by
  unfold fmtU; split
  · rename_i h; subst h; rw [Lib.decDigits]; rfl
  · exact dec_pos u (by assumption)
theorem fmtUint (u : Nat) (hu64 : u < 9223372036854775808) (w : World) (hE : Env w) :
    Calls Tryz.prog 122 #[.int .u64 u, .int .i64 10] w fun e w' => e = .returned (.string (bs (fmtU u))) ∧ Ext w w' := by
  go_enter Tryz.func122, Tryz.ntmps122
  go_wp2_with fail
  refine (fmtIn u hu64 _ hE).mono ?_
  rw [dec_fmtU]
  rintro e w' ⟨rfl, hx⟩
  go_wp2_with fail
  go_ret
  exact ⟨rfl, hx⟩
end Go.Proofs.YtikehdbkiplleaaGreatDoor

/- A Builder that a call fills. -/
namespace Go.Proofs.YtikehdbkiplleaaGreatDoor
open Go.RowKit Go.Shelf
attribute [local go_sem] size_bs toList_bs extract_bs get_bs append_bs lit_append append_lit

/-- the Builder in block b holds l -/
def Bld (B b : Nat) (l : Bs) (w : World) : Prop := Lib.IsBuilderF 125 5 B b (Lib.byteCells l) w
theorem Bld.ext {B b : Nat} {l : Bs} {w w' : World} (h : Bld B b l w) (hx : Ext w w') : Bld B b l w' := by
  have key : ∀ p, Lib.BuilderAtF 125 5 B b p (Lib.byteCells l) w → Lib.BuilderAtF 125 5 B b p (Lib.byteCells l) w' := by
    rintro p ⟨hB, v, hb, hown, hne⟩
    have hlt : b < w.heap.size := by
      rcases Nat.lt_or_ge b w.heap.size with h | h
      · exact h
      · rw [Array.getElem?_eq_none h] at hb; cases hb
    exact ⟨hB, v, (hx.block b hlt).trans hb, hown.kept (row := none) ⟨hx.os, hx.tape, hx.output, hx.size, fun i hi _ => hx.block i hi⟩ (by cases v.ownBlock <;> simp), hne⟩
  rcases h with h | h
  · exact .inl (key _ h)
  · exact .inr (key _ h)
theorem Bld.new (w : World) : Bld w.heap.size w.heap.size [] (w.alloc (.cells #[.pointer none, .slice none 0 0] 125)) :=
  .inl ⟨Nat.le_refl _, .slice none 0 0, heap_alloc_new w _, World.ownsRowF_nil _ _ _ _, by simp [Value.ownBlock]⟩
theorem Bld.lt {B b : Nat} {l : Bs} {w : World} (h : Bld B b l w) : b < w.heap.size := by
  rcases h with h | h <;> exact h.lt
theorem Bld.draws {B b : Nat} {l : Bs} {w : World} (h : Bld B b l w) (n : Nat) : Bld B b l (w.drewN n) := h.ext ((Ext.refl w).drewN n)

theorem others_ext {e : TypeId} {b : Option Nat} {w w' : World} (h : Ext w w') : Lib.OthersKept e b w w' := fun k o hk _ _ => by
  have hlt : k < w.heap.size := by
    rcases Nat.lt_or_ge k w.heap.size with h | h
    · exact h
    · rw [Array.getElem?_eq_none h] at hk; cases hk
  exact (h.block k hlt).trans hk
theorem Blk.others {e : TypeId} {b g : Nat} {t : TypeId} {cs : Array Value} {w w' : World} (h : Blk w g t cs) (hk : Lib.OthersKept e (some b) w w') (hg : g ≠ b) (ht : t ≠ e) : Blk w' g t cs :=
  hk g _ h (fun x => hg (by injection x)) (fun c fz x => by injection x with _ h2; exact ht h2)
end Go.Proofs.YtikehdbkiplleaaGreatDoor

/- The walk over the program's text of a number. -/
namespace Go.Proofs.YtikehdbkiplleaaGreatDoor
open Go.RowKit
attribute [local go_sem] size_bs toList_bs extract_bs get_bs append_bs lit_append append_lit

theorem bldWrite (B b : Nat) (cur l : Bs) (w : World) (hB : Bld B b cur w) (hl : cur.length + l.length ≤ 1000000000) (hBw : B ≤ w.heap.size) :
    Calls Tryz.prog 121 #[.pointer (some ⟨b, 0, none⟩), .string (bs l)] w fun e w' => e = .returned (.tuple #[.int .i64 l.length, .nilIface]) ∧ Bld B b (cur ++ l) w' ∧ Below B w w' := by
  refine (Tryz.Builder_WriteString_k B b (Lib.byteCells cur) (bs l) w hB (by rw [Lib.byteCells_length, size_bs]; omega) hBw).mono ?_
  rintro e w' ⟨rfl, h1, h2, _⟩
  have e : Lib.byteCells cur ++ Lib.strCells (bs l) = Lib.byteCells (cur ++ l) := by
    unfold Lib.strCells Lib.byteCells; rw [data_bs]; exact List.map_append.symm
  rw [e] at h1
  exact ⟨by rw [size_bs], .inr h1, h2⟩
theorem bldMinus (B b : Nat) (cur : Bs) (w : World) (hB : Bld B b cur w) (hl : cur.length ≤ 1000000000) (hBw : B ≤ w.heap.size) :
    Calls Tryz.prog 120 #[.pointer (some ⟨b, 0, none⟩), .int .u8 45] w fun e w' => e = .returned .nilIface ∧ Bld B b (cur ++ [45]) w' ∧ Below B w w' := by
  refine (Tryz.Builder_WriteByte_k B b (Lib.byteCells cur) 45 w hB (by rw [Lib.byteCells_length]; omega) hBw).mono ?_
  rintro e w' ⟨rfl, h1, h2, _⟩
  have e : Lib.byteCells cur ++ [.int .u8 45] = Lib.byteCells (cur ++ [45]) := by
    unfold Lib.byteCells; rw [List.map_append]; rfl
  rw [e] at h1
  exact ⟨rfl, .inr h1, h2⟩
theorem repeat_zero (k : Nat) : Lib.repeatL [48] k = List.replicate k 48 := by
  induction k with
  | zero => rfl
  | succ k ih => rw [List.replicate_succ, ← ih]; simp [Lib.repeatL]
def txt (b : Bool) (n : Nat) : Bs := if n = 0 then [] else if b then 45 :: dig10 n else dig10 n
theorem txt_ofI (b : Bool) (n : Nat) : txt b n = ofI (sgn b n) := by
  by_cases h : n = 0
  · subst h
    have e : sgn b 0 = 0 := by cases b <;> rfl
    rw [e, (ofI_nil_iff 0).2 rfl]; rfl
  · cases b
    · have e : sgn false n = (n : Int) := rfl
      have h2 : ofI (n : Int) = dig10 n := by unfold ofI; rw [if_neg (by omega), Int.natAbs_natCast]
      rw [e, h2]; unfold txt; rw [if_neg h]; rfl
    · have e : sgn true n = -(n : Int) := rfl
      have h2 : ofI (-(n : Int)) = 45 :: dig10 n := by unfold ofI; rw [if_pos (by omega), Int.natAbs_neg, Int.natAbs_natCast]
      rw [e, h2]; unfold txt; rw [if_neg h]; rfl
def preT (b : Bool) : Bs := if b then [45] else []
/-- how the loop of text stands -/
def TextAt (b : Bool) (top : Nat) (r : List Nat) (_w w1 : World) (z : Value) (wr : World) : Prop :=
  ∃ k : Nat, k ≤ r.length ∧ z = .int .i64 ((k : Int) - 1) ∧ Bld w1.heap.size w1.heap.size (preT b ++ fmtU top ++ lowT (r.drop k)) wr ∧ Ext w1 wr
set_option maxRecDepth 100000 in
set_option maxHeartbeats 4000000 in
theorem intText (b : Bool) (n : Nat) (A : Option Addr) (c : Nat) (w : World) (hA : RdU w A (gr n)) (hn : (gr n).length ≤ 1000000) (hc : (gr n).length ≤ c) (hm : c ≤ maxLen) (hE : Env w) :
    Calls Tryz.prog 72 #[.agg #[.bool b, .slice A (gr n).length c]] w fun e w' => e = .returned (.string (bs (txt b n))) ∧ Ext w w' := by
  have HCUT := Lib.hid (fun W h => intCut (gr n) A c W h hc hm (gr_lt n))
  rw [cutL_gr_self] at HCUT
  have HE := Lib.hid hE
  clear hE
  by_cases h0 : n = 0
  · subst h0
    have HA := Lib.hid hA
    clear hA
    rw [gr_zero] at *
    go_enter Tryz.func72, Tryz.ntmps72
    go_wp2_with fail
    refine (HCUT.out _ (HA.out.ext (Ext.new _ _))).mono ?_
    rintro e w1 ⟨rfl, rfl⟩
    go_wp2_with fail
    go_ret
    exact ⟨rfl, Ext.new _ _⟩
  · obtain ⟨r, top, hr⟩ : ∃ r top, gr n = r ++ [top] := by
      have : gr n ≠ [] := by rw [gr_pos h0]; simp
      exact ⟨(gr n).dropLast, (gr n).getLast this, (List.dropLast_concat_getLast this).symm⟩
    have HT : Hid (preT b ++ fmtU top ++ lowT r = txt b n) := Lib.hid (by
      rw [List.append_assoc, text_gr hr]; unfold preT txt; rw [if_neg h0]; cases b <;> rfl)
    have hb := gr_lt n
    rw [hr] at hb hA hc HCUT hn ⊢
    have HB := Lib.hid (fun g (hg : g ∈ r) => hb g (List.mem_append_left _ hg))
    have htop : top < 1000000000 := hb top (by simp)
    have hrl : (r ++ [top]).length = r.length + 1 := by simp
    rw [hrl] at hc hn HCUT ⊢
    have hln : r.length ≤ 1000000 := by omega
    have HA := Lib.hid hA
    have hft := fmtU_len (g := top) htop
    clear hA hb hr hrl h0
    go_enter Tryz.func72, Tryz.ntmps72
    go_wp2_with fail
    refine (HCUT.out _ (HA.out.ext (Ext.new _ _))).mono ?_
    rintro e w0 ⟨rfl, rfl⟩
    obtain ⟨ab, ao, rfl, hab, hcell0⟩ := HA.out.at_ (k := r.length) (by simp)
    have HCT : Hid (w.cell? ⟨ab, ao + r.length, none⟩ = some (.int .u64 top)) := Lib.hid (by simpa using hcell0)
    have HCR : Hid (∀ (k : Nat) (h : k < r.length), w.cell? ⟨ab, ao + k, none⟩ = some (.int .u64 (r[k]'h))) := Lib.hid (fun k h => by
      have := Reads.cell HA.out (j := k) (u := .int .u64 (r[k]'h)) (by rw [ucells, List.map_append, List.getElem?_append_left (by simpa using h)]; simp [h])
      exact this)
    clear hcell0
    have HX0 : Hid (Ext w (w.alloc (.cells #[.bool b, .slice (some ⟨ab, ao, none⟩) (r.length + 1) c] 81))) := Lib.hid (Ext.new _ _)
    have HBX := Lib.hid (blk_at w 81 #[.bool b, .slice (some ⟨ab, ao, none⟩) (r.length + 1) c] w.heap.size rfl)
    have x0 := HBX.out.cell 0
    simp only [List.getElem?_toArray, List.getElem?_cons_zero] at x0
    generalize (w.alloc (.cells #[.bool b, .slice (some ⟨ab, ao, none⟩) (r.length + 1) c] 81)) = w1 at *
    have hl1 := HBX.out.lt
    have hlz : ((r.length : Int) + 1 == 0) = false := by rw [beq_eq_false_iff_ne]; omega
    have hab1 : ab < w1.heap.size := Nat.lt_of_lt_of_le hab HX0.out.size
    have hct := (HX0.out.cell (p := ⟨ab, ao + r.length, none⟩) hab).trans HCT.out
    cases b
    · go_wp2_with fail
      refine (fmtUint top (by omega) _ (HE.out.ext (HX0.out.trans (Ext.new _ _)))).mono ?_
      rintro e w2 ⟨rfl, hx2⟩
      have HX2 := Lib.hid hx2
      clear hx2
      go_wp2_with fail
      refine (bldWrite w1.heap.size w1.heap.size [] (fmtU top) _ ((Bld.new w1).ext HX2.out) (by simp; omega) (HX2.out.of_alloc).size).mono ?_
      rintro e w3 ⟨rfl, hB3, hb3⟩
      have HB3 : Hid (Bld w1.heap.size w1.heap.size (preT false ++ fmtU top ++ lowT (r.drop r.length)) w3) := Lib.hid (by
        rw [List.drop_length]; simpa [preT, lowT] using hB3)
      have HX3 : Hid (Ext w1 w3) := Lib.hid (Below.trans (HX2.out.of_alloc) hb3)
      clear hB3 hb3 HX2 hct
      go_wp2_with fail
      go_loopw [5, 6] (fun z _ wr => TextAt false top r w w1 z wr) (fun z _ _ => (intOf z + 1).toNat)
      case atStart => exact ⟨r.length, Nat.le_refl _, by first | rfl | go_num | (congr 1; omega), HB3.out, HX3.out⟩
      case round =>
        clear HB3 HX3
        obtain ⟨k, hk, rfl, hB, hx⟩ := hrel
        have HBr := Lib.hid hB
        have HXr := Lib.hid hx
        clear hB hx
        rcases Nat.eq_zero_or_pos k with h0 | h0
        · subst h0
          have HB9 : Hid (Bld w1.heap.size w1.heap.size (txt false n) wr) := Lib.hid (by rw [← HT.out]; exact HBr.out)
          go_wp2_with fail
          refine (Tryz.Builder_String_any_f w1.heap.size w1.heap.size (txt false n) _ HB9.out HXr.out.size).mono ?_
          rintro e w6 ⟨rfl, _, hb6⟩
          go_wp2_with fail
          go_ret
          exact ⟨rfl, HX0.out.trans (Below.trans HXr.out hb6)⟩
        · obtain ⟨j, rfl⟩ : ∃ j, k = j + 1 := ⟨k - 1, by omega⟩
          have hj : j < r.length := by omega
          have hcj := (HXr.out.cell (p := ⟨ab, ao + j, none⟩) hab1).trans ((HX0.out.cell (p := ⟨ab, ao + j, none⟩) hab).trans (HCR.out j hj))
          have hg : (r[j]'hj) < 1000000000 := HB.out _ (List.getElem_mem hj)
          have HGL := Lib.hid (fmtU_len (g := r[j]'hj) hg)
          have HNX : Hid (preT false ++ fmtU top ++ lowT (r.drop (j + 1)) ++ (List.replicate (9 - (fmtU (r[j]'hj)).length) 48 ++ fmtU (r[j]'hj)) = preT false ++ fmtU top ++ lowT (r.drop j)) := Lib.hid (by
            rw [List.drop_eq_getElem_cons hj, lowT_cons]; unfold pad9; simp only [List.append_assoc])
          have HCL : Hid ((preT false ++ fmtU top ++ lowT (r.drop (j + 1))).length ≤ 9000100) := Lib.hid (by
            rw [List.length_append, List.length_append, lowT_len _ (fun g hg => HB.out g (List.mem_of_mem_drop hg)), List.length_drop]
            have : (preT false).length ≤ 1 := by decide
            omega)
          have e0 : ((j + 1 : Nat) : Int) - 1 = (j : Int) := by omega
          rw [e0]
          clear e0
          generalize r[j]'hj = g at *
          go_wp2_with fail
          refine (fmtUint g (by omega) _ (HE.out.ext (HX0.out.trans HXr.out))).mono ?_
          rintro e w4 ⟨rfl, hx4⟩
          have HX4 := Lib.hid hx4
          clear hx4
          have hfl := HGL.out
          generalize fmtU g = fg at *
          go_wp2_with fail
          refine (repeat_any [48] (9 - (fg.length : Int)) _ (by omega) (by omega) (by simp)).mono ?_
          rintro e w5 ⟨rfl, hx5⟩
          have er : Lib.repeatL [48] (9 - (fg.length : Int)).toNat = List.replicate (9 - fg.length) 48 := by rw [repeat_zero]; congr 1; omega
          rw [er]
          have HX5 := Lib.hid (HX4.out.trans hx5)
          clear hx5 er
          have hrl : (List.replicate (9 - fg.length) (48 : UInt8)).length ≤ 9 := by simp
          generalize hrp : List.replicate (9 - fg.length) (48 : UInt8) = rp at *
          clear hrp
          go_wp2_with fail
          refine (bldWrite w1.heap.size w1.heap.size _ (rp ++ fg) _ (HBr.out.ext HX5.out) (by have := HCL.out; have h2 : (rp ++ fg).length = rp.length + fg.length := List.length_append; omega) (Nat.le_trans HXr.out.size HX5.out.size)).mono ?_
          rintro e w7 ⟨rfl, hB7, hb7⟩
          rw [HNX.out] at hB7
          have HB7 := Lib.hid hB7
          have HX7 : Hid (Ext w1 w7) := Lib.hid (Below.trans (HXr.out.trans HX5.out) hb7)
          clear hB7 hb7
          go_wp2_with fail
          exact ⟨⟨j, by omega, by first | rfl | go_num, HB7.out, HX7.out⟩, by simp [intOf] <;> omega⟩
    · go_wp2_with fail
      refine (bldMinus w1.heap.size w1.heap.size [] _ (Bld.new w1) (by simp) (Ext.new w1 _).size).mono ?_
      rintro e w2 ⟨rfl, hB2, hb2⟩
      have HX2 : Hid (Ext w1 w2) := Lib.hid (Below.trans (Ext.new w1 _) hb2)
      have HB2 := Lib.hid hB2
      have hct2 := (HX2.out.cell (p := ⟨ab, ao + r.length, none⟩) hab1).trans hct
      clear hB2 hb2 hct
      go_wp2_with fail
      refine (fmtUint top (by omega) _ (HE.out.ext (HX0.out.trans HX2.out))).mono ?_
      rintro e w4 ⟨rfl, hx4⟩
      have HX4 := Lib.hid hx4
      clear hx4 hct2
      go_wp2_with fail
      refine (bldWrite w1.heap.size w1.heap.size _ (fmtU top) _ (HB2.out.ext HX4.out) (by simp; omega) (HX2.out.trans HX4.out).size).mono ?_
      rintro e w3 ⟨rfl, hB3, hb3⟩
      have HB3 : Hid (Bld w1.heap.size w1.heap.size (preT true ++ fmtU top ++ lowT (r.drop r.length)) w3) := Lib.hid (by
        rw [List.drop_length]; simpa [preT, lowT] using hB3)
      have HX3 : Hid (Ext w1 w3) := Lib.hid (Below.trans (HX2.out.trans HX4.out) hb3)
      clear hB3 hb3 HX2 HX4 HB2
      go_wp2_with fail
      go_loopw [5, 6] (fun z _ wr => TextAt true top r w w1 z wr) (fun z _ _ => (intOf z + 1).toNat)
      case atStart => exact ⟨r.length, Nat.le_refl _, by first | rfl | go_num | (congr 1; omega), HB3.out, HX3.out⟩
      case round =>
        clear HB3 HX3
        obtain ⟨k, hk, rfl, hB, hx⟩ := hrel
        have HBr := Lib.hid hB
        have HXr := Lib.hid hx
        clear hB hx
        rcases Nat.eq_zero_or_pos k with h0 | h0
        · subst h0
          have HB9 : Hid (Bld w1.heap.size w1.heap.size (txt true n) wr) := Lib.hid (by rw [← HT.out]; exact HBr.out)
          go_wp2_with fail
          refine (Tryz.Builder_String_any_f w1.heap.size w1.heap.size (txt true n) _ HB9.out HXr.out.size).mono ?_
          rintro e w6 ⟨rfl, _, hb6⟩
          go_wp2_with fail
          go_ret
          exact ⟨rfl, HX0.out.trans (Below.trans HXr.out hb6)⟩
        · obtain ⟨j, rfl⟩ : ∃ j, k = j + 1 := ⟨k - 1, by omega⟩
          have hj : j < r.length := by omega
          have hcj := (HXr.out.cell (p := ⟨ab, ao + j, none⟩) hab1).trans ((HX0.out.cell (p := ⟨ab, ao + j, none⟩) hab).trans (HCR.out j hj))
          have hg : (r[j]'hj) < 1000000000 := HB.out _ (List.getElem_mem hj)
          have HGL := Lib.hid (fmtU_len (g := r[j]'hj) hg)
          have HNX : Hid (preT true ++ fmtU top ++ lowT (r.drop (j + 1)) ++ (List.replicate (9 - (fmtU (r[j]'hj)).length) 48 ++ fmtU (r[j]'hj)) = preT true ++ fmtU top ++ lowT (r.drop j)) := Lib.hid (by
            rw [List.drop_eq_getElem_cons hj, lowT_cons]; unfold pad9; simp only [List.append_assoc])
          have HCL : Hid ((preT true ++ fmtU top ++ lowT (r.drop (j + 1))).length ≤ 9000100) := Lib.hid (by
            rw [List.length_append, List.length_append, lowT_len _ (fun g hg => HB.out g (List.mem_of_mem_drop hg)), List.length_drop]
            have : (preT true).length ≤ 1 := by decide
            omega)
          have e0 : ((j + 1 : Nat) : Int) - 1 = (j : Int) := by omega
          rw [e0]
          clear e0
          generalize r[j]'hj = g at *
          go_wp2_with fail
          refine (fmtUint g (by omega) _ (HE.out.ext (HX0.out.trans HXr.out))).mono ?_
          rintro e w4 ⟨rfl, hx4⟩
          have HX4 := Lib.hid hx4
          clear hx4
          have hfl := HGL.out
          generalize fmtU g = fg at *
          go_wp2_with fail
          refine (repeat_any [48] (9 - (fg.length : Int)) _ (by omega) (by omega) (by simp)).mono ?_
          rintro e w5 ⟨rfl, hx5⟩
          have er : Lib.repeatL [48] (9 - (fg.length : Int)).toNat = List.replicate (9 - fg.length) 48 := by rw [repeat_zero]; congr 1; omega
          rw [er]
          have HX5 := Lib.hid (HX4.out.trans hx5)
          clear hx5 er
          have hrl : (List.replicate (9 - fg.length) (48 : UInt8)).length ≤ 9 := by simp
          generalize hrp : List.replicate (9 - fg.length) (48 : UInt8) = rp at *
          clear hrp
          go_wp2_with fail
          refine (bldWrite w1.heap.size w1.heap.size _ (rp ++ fg) _ (HBr.out.ext HX5.out) (by have := HCL.out; have h2 : (rp ++ fg).length = rp.length + fg.length := List.length_append; omega) (Nat.le_trans HXr.out.size HX5.out.size)).mono ?_
          rintro e w7 ⟨rfl, hB7, hb7⟩
          rw [HNX.out] at hB7
          have HB7 := Lib.hid hB7
          have HX7 : Hid (Ext w1 w7) := Lib.hid (Below.trans (HXr.out.trans HX5.out) hb7)
          clear hB7 hb7
          go_wp2_with fail
          exact ⟨⟨j, by omega, by first | rfl | go_num, HB7.out, HX7.out⟩, by simp [intOf] <;> omega⟩
end Go.Proofs.YtikehdbkiplleaaGreatDoor

/- The walks over the reference's integer functions that read no memory: digits, Canonical, Check, Print, Parse. -/
namespace Go.Proofs.YtikehdbkiplleaaGreatDoor
open Go.RowKit
attribute [local go_sem] size_bs toList_bs extract_bs get_bs append_bs lit_append append_lit

set_option maxHeartbeats 1000000 in
theorem refDigits_core (l t : Bs) (b : Bool) (w : World) (hs : (t.length : Int) ≤ 1000000000000) (hcase : (l = 45 :: t ∧ b = true) ∨ (t = l ∧ b = false ∧ isMin t = false)) :
    Calls Tryz.prog 91 #[.string (bs l)] w fun e w' => e = .returned (.tuple #[.string (bs (magT t)), .bool (negT b t)]) ∧ w = w' := by
  have key : (l = 45 :: t ∧ b = true) ∨ (t = l ∧ b = false ∧ ∃ h0 : 0 < t.length, ((t[0].toNat : Int) == 45) = false) ∨ (t = l ∧ b = false ∧ ¬ 0 < t.length) := by
    rcases hcase with h | ⟨rfl, rfl, hm⟩
    · exact .inl h
    · cases t with
      | nil => exact .inr (.inr ⟨rfl, rfl, by simp⟩)
      | cons c r => exact .inr (.inl ⟨rfl, rfl, by simp, by have := byte_ne (c := c) (d := 45) (by simpa [isMin] using hm); simpa using this⟩)
  clear hcase
  rcases key with ⟨rfl, rfl⟩ | ⟨rfl, rfl, h0, h1⟩ | ⟨rfl, rfl, h0⟩
  all_goals
    go_enter Tryz.func91, Tryz.ntmps91
    go_wp2
    go_loop [6] (fun i => ∃ k : Nat, k ≤ t.length ∧ i = .int .i64 k ∧ (t.take k).all isD = true) (fun i => t.length - (intOf i).toNat)
    case atStart => exact ⟨0, Nat.zero_le _, rfl, rfl⟩
    case round =>
      obtain ⟨k, hk, rfl, hd⟩ := hrel
      have HD := Lib.hid hd
      clear hd
      by_cases hlt : k < t.length
      · by_cases hA : (t[k].toNat : Int) < 48
        · go_wp2
          go_ret2
          exact ⟨by rw [magT_bad t k hlt (by left; exact_mod_cast hA), negT_bad _ t k hlt (by left; exact_mod_cast hA)]; rfl, rfl⟩
        · by_cases hB : 57 < (t[k].toNat : Int)
          · go_wp2
            go_ret2
            exact ⟨by rw [magT_bad t k hlt (by right; exact_mod_cast hB), negT_bad _ t k hlt (by right; exact_mod_cast hB)]; rfl, rfl⟩
          · go_wp2
            go_round
            case rel => exact ⟨k + 1, by omega, by go_num, take_all_succ t k hlt HD.out (by omega) (by omega)⟩
            case measure => simp [intOf]; omega
      · have hall := Lib.hid (take_all_end t k hlt HD.out)
        go_wp2
        go_loop [4] (fun v => ∃ r : Bs, v = .string (bs r) ∧ r.length ≤ t.length ∧ noZeros r = noZeros t) (fun v => strLen v)
        case atStart => exact ⟨t, rfl, Nat.le_refl _, rfl⟩
        case round =>
          obtain ⟨r, rfl, hrl, hz⟩ := hrel
          have HZ := Lib.hid hz
          clear hz
          cases r with
          | nil =>
            go_wp2
            go_ret2
            exact ⟨by rw [magT_good t hall.out, negT_good _ t hall.out, ← HZ.out]; simp [noZeros], rfl⟩
          | cons c q =>
            by_cases hc : c = 48
            · subst hc
              go_wp2
              go_round
              case rel => exact ⟨q, rfl, by simp at hrl; omega, HZ.out⟩
              case measure => simp [strLen, size_bs]
            · have hcb : ((c.toNat : Int) == 48) = false := by have := byte_ne (c := c) (d := 48) hc; simpa using this
              go_wp2
              go_ret2
              exact ⟨by rw [magT_good t hall.out, negT_good _ t hall.out, ← HZ.out]; simp [noZeros, hc], rfl⟩

theorem refDigits (l : Bs) (w : World) (hs : l.length ≤ 1000000000) :
    Calls Tryz.prog 91 #[.string (bs l)] w fun e w' => e = .returned (.tuple #[.string (bs (mag l)), .bool (neg l)]) ∧ w = w' := by
  have hl := strip_le l
  refine refDigits_core l (strip l) (isMin l) w (by omega) ?_
  unfold strip
  cases l with
  | nil => exact .inr ⟨rfl, rfl, rfl⟩
  | cons c r =>
    by_cases h : c = 45
    · left; simp [isMin, h]
    · right; simp [isMin, h]

set_option maxHeartbeats 400000 in
theorem refCanonical (l : Bs) (w : World) (hs : l.length ≤ 1000000000) :
    Calls Tryz.prog 63 #[.string (bs l)] w fun e w' => e = .returned (.string (bs (canon l))) ∧ w = w' := by
  have hm := mag_le l
  go_enter Tryz.func63, Tryz.ntmps63
  go_wp2_with fail
  refine (refDigits l _ hs).mono ?_
  rintro e w1 ⟨rfl, rfl⟩
  by_cases hn : neg l = true
  · go_wp2_with fail
    go_ret
    exact ⟨by unfold canon; rw [if_pos hn]; rfl, rfl⟩
  · have hnb : neg l = false := by simpa using hn
    go_wp2_with fail
    go_ret
    exact ⟨by unfold canon; rw [if_neg hn]; rfl, rfl⟩

set_option maxHeartbeats 400000 in
theorem refCheckI (l : Bs) (w : World) (hs : l.length ≤ 1000000000) :
    Calls Tryz.prog 22 #[.string (bs l)] w fun e w' => e = .returned (.int .i64 (checkI l)) ∧ w = w' := by
  have HS := Lib.hid hs
  clear hs
  go_enter Tryz.func22, Tryz.ntmps22
  go_wp2_with fail
  refine (refCanonical l _ HS.out).mono ?_
  rintro e w1 ⟨rfl, rfl⟩
  by_cases hn : canon l = l
  · have hb : (canon l == l) = true := beq_iff_eq.2 hn
    have HN := Lib.hid hn
    clear hn
    go_wp2_with fail
    go_ret
    exact ⟨by unfold checkI; rw [if_pos HN.out]; rfl, rfl⟩
  · have hb : (canon l == l) = false := beq_eq_false_iff_ne.2 hn
    have HN := Lib.hid hn
    clear hn
    go_wp2_with fail
    go_ret
    exact ⟨by unfold checkI; rw [if_neg HN.out]; rfl, rfl⟩
end Go.Proofs.YtikehdbkiplleaaGreatDoor

/- The walks over the reference's short numbers: short, Of, Neg. -/
namespace Go.Proofs.YtikehdbkiplleaaGreatDoor
open Go.RowKit
attribute [local go_sem] size_bs toList_bs extract_bs get_bs append_bs lit_append append_lit

theorem encode_one (n : Nat) (h : n < 128) : Utf8.encode (n : Int) = bs [UInt8.ofNat n] := by
  unfold Utf8.encode
  have hv : Utf8.valid (n : Int) = true := by simp [Utf8.valid]; omega
  rw [hv]
  simp only [if_true, Int.toNat_natCast]
  rw [if_pos h]; rfl
theorem encode_dig (q : Nat) : Utf8.encode (48 + (q : Int) % 10) = bs [UInt8.ofNat (48 + q % 10)] := by
  have : (48 + (q : Int) % 10) = ((48 + q % 10 : Nat) : Int) := by omega
  rw [this]; exact encode_one _ (by omega)
theorem dig10_step {q n : Nat} {l : Bs} (h0 : q ≠ 0) (h : dig10 q ++ l = dig10 n) : dig10 (q / 10) ++ (UInt8.ofNat (48 + q % 10) :: l) = dig10 n := by
  rw [← h, dig10_pos h0]; simp
theorem dval_u8 {c : UInt8} (h : isD c = true) : 48 ≤ (c.toNat : Int) ∧ (c.toNat : Int) ≤ 57 ∧ (dval c : Int) = (c.toNat : Int) - 48 := by
  have := (isD_iff c).1 h
  unfold dval; omega


set_option maxRecDepth 100000 in
set_option maxHeartbeats 1000000 in
theorem refOf_pos (n : Nat) (hn : n ≤ 4000000000000000000) (w : World) :
    Calls Tryz.prog 97 #[.int .i64 (n : Int)] w fun e w' => e = .returned (.string (bs (ofI n))) ∧ w = w' := by
  by_cases h0 : n = 0
  · subst h0
    go_enter Tryz.func97, Tryz.ntmps97
    go_wp2_with fail
    go_ret
    exact ⟨by rw [show ofI ((0 : Nat) : Int) = [] from (ofI_nil_iff 0).2 rfl]; rfl, rfl⟩
  · have hb : ((n : Int) == 0) = false := by rw [beq_eq_false_iff_ne]; omega
    have hng : ¬ ((n : Int) < 0) := by omega
    have HO : Hid (dig10 n = ofI (n : Int)) := Lib.hid (by unfold ofI; rw [if_neg (by omega), Int.natAbs_natCast])
    have HLN : Hid ((dig10 n).length ≤ 19) := Lib.hid (dig10_len (by omega))
    clear h0
    go_enter Tryz.func97, Tryz.ntmps97
    go_wp2_with fail
    go_loop [3, 4, 5] (fun t v _ => ∃ (q : Nat) (l : Bs), q ≤ n ∧ v = .int .i64 (q : Int) ∧ t = .string (bs l) ∧ dig10 q ++ l = dig10 n) (fun _ v _ => (intOf v).toNat)
    case atStart => exact ⟨n, [], Nat.le_refl _, rfl, rfl, by simp⟩
    case round =>
      obtain ⟨q, l, hq, rfl, rfl, hl⟩ := hrel
      have hll : l.length ≤ 19 := by have h1 := congrArg List.length hl; have h2 := HLN.out; rw [List.length_append] at h1; omega
      by_cases hz : q = 0
      · subst hz
        have HL : Hid (l = ofI (n : Int)) := Lib.hid (by rw [dig10_zero, List.nil_append] at hl; rw [hl]; exact HO.out)
        clear hl
        go_wp2_with fail
        go_ret
        exact ⟨by rw [HL.out]; rfl, rfl⟩
      · have HL := Lib.hid (dig10_step hz hl)
        have hqb : ((q : Int) == 0) = false := by rw [beq_eq_false_iff_ne]; omega
        have hqb2 : ((q : Int) != 0) = true := by rw [bne_iff_ne]; omega
        have hd : ¬ ((q : Int) % 10 < 0) := by omega
        have he := encode_dig q
        clear hl
        have hcv : ∀ W : World, (convert 21 9 (.int .i32 (48 + (q : Int) % 10))).run Tryz.prog W = .ok (.string (bs [UInt8.ofNat (48 + q % 10)])) W := fun W => by rw [run_convert_int_string W _ _ _ _ (by rw [Tryz.underlying21]; rfl) Tryz.underlying9, he]
        clear he
        generalize hdd : UInt8.ofNat (48 + q % 10) = dd at *
        clear hdd
        go_wp2_with fail
        go_round
        case rel => exact ⟨q / 10, _, by omega, by go_num, rfl, HL.out⟩
        case measure => simp [intOf]; omega
theorem tmod_neg (q : Nat) : (-(q : Int)).tmod 10 = -((q % 10 : Nat) : Int) := by
  rw [Int.neg_tmod]; rfl
theorem tdiv_neg (q : Nat) : (-(q : Int)).tdiv 10 = -((q / 10 : Nat) : Int) := by
  rw [Int.neg_tdiv]; rfl
set_option maxRecDepth 100000 in
set_option maxHeartbeats 1000000 in
theorem refOf_neg (n : Nat) (h0 : n ≠ 0) (hn : n ≤ 4000000000000000000) (w : World) :
    Calls Tryz.prog 97 #[.int .i64 (-(n : Int))] w fun e w' => e = .returned (.string (bs (ofI (-(n : Int))))) ∧ w = w' := by
  have hb : (-(n : Int) == 0) = false := by rw [beq_eq_false_iff_ne]; omega
  have hng : -(n : Int) < 0 := by omega
  have HO : Hid (45 :: dig10 n = ofI (-(n : Int))) := Lib.hid (by unfold ofI; rw [if_pos (by omega), Int.natAbs_neg, Int.natAbs_natCast])
  have HLN : Hid ((dig10 n).length ≤ 19) := Lib.hid (dig10_len (by omega))
  clear h0
  go_enter Tryz.func97, Tryz.ntmps97
  go_wp2_with fail
  go_loop [3, 4, 5] (fun t v _ => ∃ (q : Nat) (l : Bs), q ≤ n ∧ v = .int .i64 (-(q : Int)) ∧ t = .string (bs l) ∧ dig10 q ++ l = dig10 n) (fun _ v _ => (- intOf v).toNat)
  case atStart => exact ⟨n, [], Nat.le_refl _, rfl, rfl, by simp⟩
  case round =>
    obtain ⟨q, l, hq, rfl, rfl, hl⟩ := hrel
    have hll : l.length ≤ 19 := by have h1 := congrArg List.length hl; have h2 := HLN.out; rw [List.length_append] at h1; omega
    by_cases hz : q = 0
    · subst hz
      have HL : Hid (45 :: l = ofI (-(n : Int))) := Lib.hid (by rw [dig10_zero, List.nil_append] at hl; rw [hl]; exact HO.out)
      clear hl
      go_wp2_with fail
      go_ret
      exact ⟨by rw [← HL.out]; rfl, rfl⟩
    · have HL := Lib.hid (dig10_step hz hl)
      have hqb : (-(q : Int) == 0) = false := by rw [beq_eq_false_iff_ne]; omega
      have hqb2 : (-(q : Int) != 0) = true := by rw [bne_iff_ne]; omega
      have hr := tmod_neg q
      have ht := tdiv_neg q
      have hr9 : q % 10 < 10 := Nat.mod_lt _ (by decide)
      have htq : q / 10 < q := by omega
      have HQ : Hid (q / 10 ≤ n) := Lib.hid (by omega)
      clear hl
      generalize q % 10 = r at *
      have he : Utf8.encode (48 + (r : Int)) = bs [UInt8.ofNat (48 + r)] := by
        have : (48 + (r : Int)) = ((48 + r : Nat) : Int) := by omega
        rw [this]; exact encode_one _ (by omega)
      have hcv : ∀ W : World, (convert 21 9 (.int .i32 (48 + (r : Int)))).run Tryz.prog W = .ok (.string (bs [UInt8.ofNat (48 + r)])) W := fun W => by rw [run_convert_int_string W _ _ _ _ (by rw [Tryz.underlying21]; rfl) Tryz.underlying9, he]
      clear he
      by_cases hr0 : r = 0
      · subst hr0
        have hr' : (-(q : Int)).tmod 10 = 0 := hr
        have hcv' : ∀ W : World, (convert 21 9 (.int .i32 48)).run Tryz.prog W = .ok (.string (bs [UInt8.ofNat (48 + 0)])) W := fun W => hcv W
        clear hr hcv
        generalize hdd : UInt8.ofNat (48 + 0) = dd at *
        clear hdd
        generalize q / 10 = p at *
        go_wp2_with fail
        go_round
        case rel => exact ⟨p, _, HQ.out, by go_num, rfl, HL.out⟩
        case measure => simp [intOf]; omega
      · have hneg : -(r : Int) < 0 := by omega
        have hr1 : (r : Int) < 10 := by omega
        generalize hdd : UInt8.ofNat (48 + r) = dd at *
        clear hdd
        generalize q / 10 = p at *
        go_wp2_with fail
        go_round
        case rel => exact ⟨p, _, HQ.out, by go_num, rfl, HL.out⟩
        case measure => simp [intOf]; omega
theorem refIntOf (z : Int) (h1 : -4000000000000000000 ≤ z) (h2 : z ≤ 4000000000000000000) (w : World) :
    Calls Tryz.prog 97 #[.int .i64 z] w fun e w' => e = .returned (.string (bs (ofI z))) ∧ w = w' := by
  by_cases h : 0 ≤ z
  · obtain ⟨n, rfl⟩ := Int.eq_ofNat_of_zero_le h
    exact refOf_pos n (by omega) w
  · obtain ⟨n, rfl⟩ : ∃ n : Nat, z = -(n : Int) := ⟨z.natAbs, by omega⟩
    exact refOf_neg n (by omega) (by omega) w
theorem natOf_take_lt {m : Bs} (hd : m.all isD = true) (hl : m.length ≤ 17) (k : Nat) : natOf (m.take k) < 100000000000000000 := by
  have h1 := natOf_lt (l := m.take k) (all_take hd k)
  have h2 : (m.take k).length ≤ 17 := by rw [List.length_take]; omega
  exact Nat.lt_of_lt_of_le h1 (Nat.le_trans (Nat.pow_le_pow_right (by decide) h2) (by decide))
theorem all_at {m : Bs} (h : m.all isD = true) {k : Nat} (hk : k < m.length) : isD (m[k]'hk) = true := List.all_eq_true.1 h _ (List.getElem_mem hk)
set_option maxRecDepth 100000 in
set_option maxHeartbeats 1000000 in
theorem refShort (l : Bs) (w : World) (hs : l.length ≤ 1000000000) (hl : (mag l).length ≤ 17) :
    Calls Tryz.prog 96 #[.string (bs l)] w fun e w' => e = .returned (.tuple #[.int .i64 (valI l), .bool true]) ∧ w = w' := by
  have HDIG := Lib.hid (fun w => refDigits l w hs)
  have HD := Lib.hid (mag_all l)
  have HV : Hid (valI l = if neg l then -(natOf (mag l) : Int) else natOf (mag l)) := Lib.hid rfl
  generalize valI l = z at *
  generalize mag l = m at *
  generalize neg l = b at *
  clear hs
  have HL := Lib.hid hl
  have hlb : ¬ (17 < (m.length : Int)) := by omega
  clear hl
  go_enter Tryz.func96, Tryz.ntmps96
  go_wp2_with fail
  refine (HDIG.out _).mono ?_
  rintro e w1 ⟨rfl, rfl⟩
  go_wp2_with fail
  go_loop [6, 7] (fun v i => ∃ k : Nat, k ≤ m.length ∧ i = .int .i64 k ∧ v = .int .i64 (natOf (m.take k) : Nat)) (fun _ i => m.length - (intOf i).toNat)
  case atStart => exact ⟨0, Nat.zero_le _, rfl, rfl⟩
  case round =>
    obtain ⟨k, hk, rfl, rfl⟩ := hrel
    by_cases hlt : k < m.length
    · have hv := natOf_take_lt HD.out HL.out k
      have HS := Lib.hid (natOf_take_succ m k hlt)
      obtain ⟨hc1, hc2, hc3⟩ := dval_u8 (all_at HD.out hlt)
      have HC := Lib.hid hc3
      clear hc3
      generalize natOf (m.take k) = p at *
      go_wp2_with fail
      go_round
      case rel => exact ⟨k + 1, by omega, by go_num, by rw [HS.out]; have := HC.out; congr 1; omega⟩
      case measure => simp [intOf]; omega
    · have hv := natOf_take_lt HD.out HL.out k
      have HT : Hid (natOf (m.take k) = natOf m) := Lib.hid (by rw [List.take_of_length_le (by omega)])
      generalize natOf (m.take k) = p at *
      cases b
      · go_wp2_with fail
        go_ret2
        exact ⟨by rw [HV.out, ← HT.out]; rfl, rfl⟩
      · go_wp2_with fail
        go_ret2
        exact ⟨by rw [HV.out, ← HT.out]; rfl, rfl⟩
set_option maxRecDepth 100000 in
set_option maxHeartbeats 1000000 in
theorem refShort_no (l : Bs) (w : World) (hs : l.length ≤ 1000000000) (hl : ¬ (mag l).length ≤ 17) :
    Calls Tryz.prog 96 #[.string (bs l)] w fun e w' => e = .returned (.tuple #[.int .i64 0, .bool false]) ∧ w = w' := by
  have HDIG := Lib.hid (fun w => refDigits l w hs)
  generalize mag l = m at *
  generalize neg l = b at *
  clear hs
  have hlb : 17 < (m.length : Int) := by omega
  clear hl
  go_enter Tryz.func96, Tryz.ntmps96
  go_wp2_with fail
  refine (HDIG.out _).mono ?_
  rintro e w1 ⟨rfl, rfl⟩
  go_wp2_with fail
  go_ret2
  exact ⟨rfl, rfl⟩
theorem ofI_neg (l : Bs) : ofI (-(valI l)) = if neg l = true ∨ mag l = [] then mag l else 45 :: mag l := by
  have hd := dig10_natOf (mag_all l) (mag_lead l)
  by_cases h : neg l = true
  · have h0 := neg_mag h
    have hv : valI l = -(natOf (mag l) : Int) := by unfold valI; rw [if_pos h]
    rw [if_pos (Or.inl h), hv, Int.neg_neg]
    unfold ofI
    rw [if_neg (by omega), Int.natAbs_natCast, hd]
  · have hv : valI l = (natOf (mag l) : Int) := by unfold valI; rw [if_neg h]
    by_cases hm : mag l = []
    · rw [if_pos (Or.inr hm), hv, hm]; exact (ofI_nil_iff 0).2 rfl
    · have hp : natOf (mag l) ≠ 0 := by rw [Ne, natOf_zero (mag_all l) (mag_lead l)]; exact hm
      have hno : ¬ (neg l = true ∨ mag l = []) := fun x => x.elim h hm
      rw [if_neg hno, hv]
      unfold ofI
      rw [if_pos (by omega), Int.natAbs_neg, Int.natAbs_natCast, hd]
set_option maxHeartbeats 1000000 in
theorem refNeg (l : Bs) (w : World) (hs : l.length ≤ 1000000000) :
    Calls Tryz.prog 147 #[.string (bs l)] w fun e w' => e = .returned (.string (bs (ofI (-(valI l))))) ∧ w = w' := by
  have HDIG := Lib.hid (fun w => refDigits l w hs)
  have HO := Lib.hid (ofI_neg l)
  have HML : Hid ((mag l).length ≤ 1000000000) := Lib.hid (Nat.le_trans (mag_le l) hs)
  generalize ofI (-(valI l)) = r at *
  generalize mag l = m at *
  generalize neg l = b at *
  clear hs
  by_cases h : b = true ∨ m = []
  · have HR : Hid (r = m) := Lib.hid (by rw [HO.out, if_pos h])
    clear HO
    rcases h with h | h
    · subst h
      go_enter Tryz.func147, Tryz.ntmps147
      go_wp2_with fail
      refine (HDIG.out _).mono ?_
      rintro e w1 ⟨rfl, rfl⟩
      go_wp2_with fail
      go_ret
      exact ⟨by rw [HR.out]; rfl, rfl⟩
    · subst h
      go_enter Tryz.func147, Tryz.ntmps147
      go_wp2_with fail
      refine (HDIG.out _).mono ?_
      rintro e w1 ⟨rfl, rfl⟩
      cases b
      all_goals
        go_wp2_with fail
        go_ret
        exact ⟨by rw [HR.out]; rfl, rfl⟩
  · have HR : Hid (r = 45 :: m) := Lib.hid (by rw [HO.out, if_neg h])
    clear HO
    have hb : b = false := by cases b; rfl; exact absurd (.inl rfl) h
    have hm : m ≠ [] := fun e => h (.inr e)
    subst hb
    have hmb : m.isEmpty = false := by simpa using hm
    have hmb2 : (m == []) = false := by simpa using hm
    have hml := HML.out
    clear h hm
    go_enter Tryz.func147, Tryz.ntmps147
    go_wp2_with fail
    refine (HDIG.out _).mono ?_
    rintro e w1 ⟨rfl, rfl⟩
    go_wp2_with fail
    go_ret
    exact ⟨by rw [HR.out]; rfl, rfl⟩
end Go.Proofs.YtikehdbkiplleaaGreatDoor

/- The walks over the reference's groups: group, trim, order. -/
namespace Go.Proofs.YtikehdbkiplleaaGreatDoor
open Go.RowKit
attribute [local go_sem] size_bs toList_bs

def icells (gs : List Nat) : List Value := gs.map fun g : Nat => Value.int .i64 (g : Int)
def RdI (w : World) (A : Option Addr) (gs : List Nat) : Prop := Reads w 1 A gs.length (icells gs)
theorem RdI.ext {w w' : World} {A : Option Addr} {gs : List Nat} (h : RdI w A gs) (he : Ext w w') : RdI w' A gs := Reads.ext h he
theorem RdI.at_ {w : World} {A : Option Addr} {gs : List Nat} (h : RdI w A gs) {k : Nat} (hk : k < gs.length) :
    ∃ b o, A = some ⟨b, o, none⟩ ∧ b < w.heap.size ∧ w.cell? ⟨b, o + k, none⟩ = some (.int .i64 (gs[k]'hk)) := by
  obtain ⟨b, o, rfl, hb⟩ := Reads.at_ h (by omega)
  exact ⟨b, o, rfl, hb, Reads.cell h (by simp [icells, hk])⟩
theorem RdI.take {w : World} {A : Option Addr} {gs : List Nat} (h : RdI w A gs) (n : Nat) : RdI w A (gs.take n) := by
  refine ⟨by simp [icells], fun hn => ?_⟩
  have h0 : 0 < gs.length := by rw [List.length_take] at hn; omega
  obtain ⟨b, o, rfl, hb, hc⟩ := h.2 h0
  refine ⟨b, o, rfl, hb, fun j u hu => hc j u ?_⟩
  unfold icells at hu ⊢
  rw [List.map_take, List.getElem?_take] at hu
  split at hu
  · exact hu
  · cases hu
set_option maxHeartbeats 1000000 in
theorem refTrim (gs : List Nat) (A : Option Addr) (c : Nat) (w : World) (hA : RdI w A gs) (hc : gs.length ≤ c) (hm : c ≤ maxLen) (hb : ∀ g ∈ gs, g < B9) :
    Calls Tryz.prog 180 #[.slice A gs.length c] w fun e w' => e = .returned (.slice A (cutL gs).length c) ∧ w = w' := by
  have HA := Lib.hid hA
  have HB := Lib.hid hb
  unfold maxLen at hm
  clear hA hb
  go_enter Tryz.func180, Tryz.ntmps180
  go_wp2_with fail
  go_loop [0] (fun v => ∃ k : Nat, k ≤ gs.length ∧ v = .slice A k c ∧ cutL (gs.take k) = cutL gs) (fun v => slLen v)
  case atStart => exact ⟨gs.length, Nat.le_refl _, rfl, by rw [List.take_length]⟩
  case round =>
    obtain ⟨k, hk, rfl, hz⟩ := hrel
    have HZ := Lib.hid hz
    clear hz
    rcases Nat.eq_zero_or_pos k with h0 | h0
    · subst h0
      have HL : Hid ((cutL gs).length = 0) := Lib.hid (by rw [← HZ.out]; rfl)
      go_wp2_with fail
      go_ret
      exact ⟨by rw [HL.out]; rfl, rfl⟩
    · obtain ⟨j, rfl⟩ : ∃ j, k = j + 1 := ⟨k - 1, by omega⟩
      have hj : j < gs.length := by omega
      obtain ⟨b, o, rfl, hbw, hcell⟩ := HA.out.at_ hj
      have hts : gs.take (j + 1) = gs.take j ++ [gs[j]] := List.take_succ_eq_append_getElem hj
      have HTS := Lib.hid hts
      clear hts
      by_cases hg : gs[j] = 0
      · have HN : Hid (cutL (gs.take j) = cutL gs) := Lib.hid (by rw [← HZ.out, HTS.out, hg, cutL_snoc_zero])
        rw [hg] at hcell
        clear hg
        go_wp2_with fail
        go_round
        case rel => exact ⟨j, by omega, rfl, HN.out⟩
        case measure => simp [slLen]
      · have HL : Hid ((cutL gs).length = j + 1) := Lib.hid (by rw [← HZ.out, HTS.out, cutL_snoc _ hg]; simp; omega)
        have hgb : ((gs[j] : Int) == 0) = false := by rw [beq_eq_false_iff_ne]; omega
        clear hg
        generalize (gs[j]'hj) = g at *
        go_wp2_with fail
        go_ret
        exact ⟨by rw [HL.out]; rfl, rfl⟩

set_option maxHeartbeats 400000 in
theorem refGroup (gs : List Nat) (A : Option Addr) (c k : Nat) (w : World) (hA : RdI w A gs) (_hn : gs.length ≤ 1000000) :
    Calls Tryz.prog 179 #[.slice A gs.length c, .int .i64 (k : Int)] w fun e w' => e = .returned (.int .i64 (at0 gs k : Nat)) ∧ w = w' := by
  have HA := Lib.hid hA
  clear hA
  by_cases h : k < gs.length
  · obtain ⟨b, o, rfl, hb, hcell⟩ := HA.out.at_ h
    have HV := Lib.hid (at0_lt h)
    generalize gs[k]'h = g at *
    go_enter Tryz.func179, Tryz.ntmps179
    go_wp2_with fail
    go_ret
    exact ⟨by rw [HV.out]; rfl, rfl⟩
  · have HV := Lib.hid (at0_ge (l := gs) (k := k) (by omega))
    go_enter Tryz.func179, Tryz.ntmps179
    go_wp2_with fail
    go_ret
    exact ⟨by rw [HV.out]; rfl, rfl⟩
set_option maxRecDepth 100000 in
set_option maxHeartbeats 1000000 in
theorem refOrder (x y : Nat) (A A' : Option Addr) (c c' : Nat) (w : World) (hA : RdI w A (gr x)) (hA' : RdI w A' (gr y)) (hn : (gr x).length ≤ 1000000) (_hn' : (gr y).length ≤ 1000000) :
    Calls Tryz.prog 149 #[.slice A (gr x).length c, .slice A' (gr y).length c'] w (CmpEnds x y w) := by
  have HA := Lib.hid hA
  have HA' := Lib.hid hA'
  clear hA hA'
  by_cases hl : (gr x).length = (gr y).length
  · have HLL := Lib.hid hl
    have hbl : (((gr x).length : Int) != ((gr y).length : Int)) = false := by rw [bne_eq_false_iff_eq]; omega
    have HLS := Lib.hid (fun k (a : k < (gr x).length) (b : k < (gr y).length) he h => gr_less (x := x) (y := y) (k := k) hl a b he h)
    have HGT := Lib.hid (fun k (a : k < (gr y).length) (b : k < (gr x).length) he h => gr_less (x := y) (y := x) (k := k) hl.symm a b he h)
    have HEQ : Hid (gr x = gr y → x = y) := Lib.hid gr_inj
    generalize gr x = gx at *
    generalize gr y = gy at *
    clear hl
    go_enter Tryz.func149, Tryz.ntmps149
    go_wp2_with fail
    go_loopw [5, 31, 40] (fun z _ _ wr => ∃ k : Nat, k ≤ gx.length ∧ z = .int .i64 ((k : Int) - 1) ∧ (∀ (j : Nat) (h1 : j < gx.length) (h2 : j < gy.length), k ≤ j → gx[j] = gy[j]) ∧ Ext w wr) (fun z _ _ _ => (intOf z + 1).toNat)
    case atStart => exact ⟨gx.length, Nat.le_refl _, rfl, fun j h1 _ hj => absurd h1 (by omega), Ext.refl _⟩
    case round =>
      obtain ⟨k, hk, rfl, hz, hx⟩ := hrel
      have HZ := Lib.hid hz
      have HX := Lib.hid hx
      clear hz hx
      rcases Nat.eq_zero_or_pos k with h0 | h0
      · subst h0
        have HY : Hid (x = y) := Lib.hid (HEQ.out (List.ext_getElem HLL.out (fun j h1 h2 => HZ.out j h1 h2 (by omega))))
        go_wp2_with fail
        go_ret
        exact ⟨HX.out, 0, rfl, .inr (.inl ⟨rfl, HY.out⟩)⟩
      · obtain ⟨j, rfl⟩ : ∃ j, k = j + 1 := ⟨k - 1, by omega⟩
        have hj : j < gx.length := by omega
        have hj' : j < gy.length := by have := HLL.out; omega
        obtain ⟨b, o, rfl, hbw, hcell⟩ := (HA.out.ext HX.out).at_ hj
        obtain ⟨b', o', rfl, hbw', hcell'⟩ := (HA'.out.ext HX.out).at_ hj'
        have e0 : ((j + 1 : Nat) : Int) - 1 = (j : Int) := by omega
        rw [e0]
        clear e0
        rcases Nat.lt_trichotomy (gx[j]'hj) (gy[j]'hj') with h | h | h
        · have HY : Hid (x < y) := Lib.hid (HLS.out j hj hj' (fun i h1 h2 hi => HZ.out i h1 h2 (by omega)) h)
          generalize (gx[j]'hj) = p at *
          generalize (gy[j]'hj') = q at *
          go_wp2_with fail
          go_quiet (fail)
          go_wp2_with fail
          go_ret
          exact ⟨HX.out.drewN _, -1, rfl, .inl ⟨by decide, HY.out⟩⟩
        · have HNX := Lib.hid (fun i (h1 : i < gx.length) (h2 : i < gy.length) (hi : j ≤ i) => (by
            rcases Nat.lt_or_ge j i with h' | h'
            · exact HZ.out i h1 h2 (by omega)
            · obtain rfl : i = j := by omega
              exact h : gx[i] = gy[i]))
          rw [← h] at hcell'
          generalize (gx[j]'hj) = p at *
          clear h
          go_wp2_with fail
          go_quiet (fail)
          go_wp2_with fail
          go_quiet (fail)
          go_wp2_with fail
          go_roundw
          case rel => exact ⟨j, by omega, rfl, HNX.out, HX.out.drewN _⟩
          case measure => simp [intOf]
        · have HY : Hid (y < x) := Lib.hid (HGT.out j hj' hj (fun i h1 h2 hi => (HZ.out i h2 h1 (by omega)).symm) h)
          have hb1 : ¬ (gx[j]'hj) < (gy[j]'hj') := by omega
          generalize (gx[j]'hj) = p at *
          generalize (gy[j]'hj') = q at *
          go_wp2_with fail
          go_quiet (fail)
          go_wp2_with fail
          go_quiet (fail)
          go_wp2_with fail
          go_ret
          exact ⟨(HX.out.drewN _).drewN _, 1, rfl, .inr (.inr ⟨by decide, HY.out⟩)⟩
  · have hbl : (((gr x).length : Int) != ((gr y).length : Int)) = true := by rw [bne_iff_ne]; omega
    rcases Nat.lt_or_ge (gr x).length (gr y).length with h | h
    · have HY : Hid (x < y) := Lib.hid (gr_shorter h)
      generalize gr x = gx at *
      generalize gr y = gy at *
      clear hl
      go_enter Tryz.func149, Tryz.ntmps149
      go_wp2_with fail
      go_ret
      exact ⟨Ext.refl _, -1, rfl, .inl ⟨by decide, HY.out⟩⟩
    · have HY : Hid (y < x) := Lib.hid (gr_shorter (by omega))
      have h' : ¬ (gr x).length < (gr y).length := by omega
      generalize gr x = gx at *
      generalize gr y = gy at *
      clear hl
      go_enter Tryz.func149, Tryz.ntmps149
      go_wp2_with fail
      go_ret
      exact ⟨Ext.refl _, 1, rfl, .inr (.inr ⟨by decide, HY.out⟩)⟩
end Go.Proofs.YtikehdbkiplleaaGreatDoor

/- The walks over the reference's numbers: read, write. -/
namespace Go.Proofs.YtikehdbkiplleaaGreatDoor
open Go.RowKit Go.Shelf
attribute [local go_sem] size_bs toList_bs extract_bs get_bs append_bs lit_append append_lit

theorem i64Info : (Tryz.prog.info? 3).map (fun i => (i.zero, i.size, i.bytes)) = some (some (.int .i64 0), 1, 8) := by kernel_rfl
theorem results_numI {fn : Func} {a : Tmp} (h : fn.results = #[.cell a 110]) (tmps : Array Value) (w : World) (g : Nat) (x y : Value) (ha : tmps.getD a undef = .pointer (some ⟨g, 0, none⟩)) (hb : Blk w g 110 #[x, y]) :
    (results fn tmps).run Tryz.prog w = .ok (.agg #[x, y]) w := by
  have h0 := hb.cell 0
  have h1 := hb.cell 1
  simp only [List.getElem?_toArray, List.getElem?_cons_zero, List.getElem?_cons_succ] at h0 h1
  unfold results
  rw [h]
  simp only [List.mapM_toArray, List.mapM_cons, List.mapM_nil, ha]
  go_simp
/-- a number of the reference: its sign, and its groups in memory -/
def NumEndsI (neg : Bool) (gs : List Nat) (w : World) (e : Ending) (w' : World) : Prop :=
  ∃ A c, e = .returned (.agg #[.bool neg, .slice A gs.length c]) ∧ RdI w' A gs ∧ Ext w w' ∧ gs.length ≤ c ∧ c ≤ maxLen
/-- how the loop of read stands -/
def ReadAtI (m : Bs) (N : Nat) (ng : Bool) (w : World) (z : Value) (wr : World) : Prop :=
  ∃ (y : Int) (done : List Nat) (v : Value), z = .int .i64 y ∧ -9 < y ∧ y ≤ m.length ∧ wr.ownsRow (w.heap.size + 2) 3 1 v done.length (icells done) ∧ done ++ groupsOf (m.take y.toNat) = gr N ∧ Ext w wr ∧ Blk wr w.heap.size 110 #[.bool false, .slice none 0 0] ∧ Blk wr (w.heap.size + 1) 110 #[.bool ng, v]
theorem drop_snoc (m : Bs) (a k : Nat) (ha : a ≤ k) (hk : k < m.length) : natOf ((m.take (k + 1)).drop a) = 10 * natOf ((m.take k).drop a) + dval (m[k]'hk) := by
  rw [List.take_succ_eq_append_getElem hk, List.drop_append_of_le_length (by rw [List.length_take]; omega), natOf_snoc]
theorem nine_lt {m : Bs} (hd : m.all isD = true) (a k : Nat) (h : k ≤ a + 9) : natOf ((m.take k).drop a) < 1000000000 := by
  have h1 := natOf_lt (l := (m.take k).drop a) (all_drop (all_take hd k) a)
  have h2 : ((m.take k).drop a).length ≤ 9 := by rw [List.length_drop, List.length_take]; omega
  exact Nat.lt_of_lt_of_le h1 (Nat.le_trans (Nat.pow_le_pow_right (by decide) h2) (by decide))
set_option maxRecDepth 100000 in
set_option maxHeartbeats 2000000 in
theorem refReadN (l : Bs) (w : World) (hs : l.length ≤ 1000000) :
    Calls Tryz.prog 100 #[.string (bs l)] w (NumEndsI (neg l) (gr (natOf (mag l))) w) := by
  obtain ⟨i0, hI, hz0, hz1, hz2⟩ := info_parts i64Info
  have hml := mag_le l
  have HG := Lib.hid (groupsOf_gr (mag l) (mag_all l) (mag_lead l))
  have HD := Lib.hid (mag_all l)
  have HGL : Hid ((gr (natOf (mag l))).length ≤ 1000000) := Lib.hid (by rw [← groupsOf_gr (mag l) (mag_all l) (mag_lead l)]; have := groupsOf_len (mag l); omega)
  have HI := Lib.hid hI
  have HS := Lib.hid (Nat.le_trans hml hs)
  have HDIG := Lib.hid (fun w => refDigits l w (by omega))
  clear hI hml
  generalize hm : mag l = m at *
  generalize hN : natOf m = N at *
  generalize hng : neg l = ng at *
  clear hm hng hs hN
  have HX0 : Hid (Ext w ((w.alloc (.cells #[.bool false, .slice none 0 0] 110)).alloc (.cells #[.bool ng, .slice none 0 0] 110))) := Lib.hid ((Ext.new _ _).alloc _)
  have HB0 : Hid (Blk ((w.alloc (.cells #[.bool false, .slice none 0 0] 110)).alloc (.cells #[.bool ng, .slice none 0 0] 110)) w.heap.size 110 #[.bool false, .slice none 0 0]) := Lib.hid ((blk_at w _ _ w.heap.size rfl).alloc _)
  have HB1 : Hid (Blk ((w.alloc (.cells #[.bool false, .slice none 0 0] 110)).alloc (.cells #[.bool ng, .slice none 0 0] 110)) (w.heap.size + 1) 110 #[.bool ng, .slice none 0 0]) := Lib.hid (blk_at (w.alloc (.cells #[.bool false, .slice none 0 0] 110)) _ _ (w.heap.size + 1) (by simp))
  go_enter Tryz.func100, Tryz.ntmps100
  go_wp2_with fail
  refine (HDIG.out _).mono ?_
  rintro e w1 ⟨rfl, rfl⟩
  clear HDIG
  have hsm := HS.out
  go_wp2_with fail
  go_loopw [6, 7, 8] (fun z _ _ wr => ReadAtI m N ng w z wr) (fun z _ _ _ => (intOf z).toNat)
  case atStart => exact ⟨m.length, [], .slice none 0 0, rfl, by omega, by omega, ⟨rfl, .inl ⟨rfl, rfl⟩⟩, by rw [Int.toNat_natCast, List.take_of_length_le (Nat.le_refl _), List.nil_append]; exact HG.out, HX0.out, HB0.out, HB1.out⟩
  case round =>
    clear HX0 HB0 HB1
    obtain ⟨z, done, v, rfl, hz1', hz2', hown, hsum, hx, hb0, hb1⟩ := hrel
    have HOWN := Lib.hid hown
    have HSUM := Lib.hid hsum
    have HX := Lib.hid hx
    have HBR := Lib.hid hb0
    have HBO := Lib.hid hb1
    clear hown hsum hx hb0 hb1
    by_cases hpos : 0 < z
    · obtain ⟨e, rfl⟩ : ∃ e : Nat, z = (e : Int) := ⟨z.toNat, by omega⟩
      have hel : e ≤ m.length := by omega
      have he0 : 0 < e := by omega
      have HST := Lib.hid (groups_step he0 hel)
      have HLN : Hid (done.length ≤ 1000000) := Lib.hid (by
        have h1 := congrArg List.length HSUM.out
        rw [List.length_append] at h1
        have h2 := HGL.out; omega)
      have HNX : Hid (done ++ [natOf ((m.take e).drop (e - 9))] ++ groupsOf (m.take (e - 9)) = gr N) := Lib.hid (by
        rw [← HSUM.out, Int.toNat_natCast, HST.out]; simp)
      have hmx : max (0 : Int) ((e : Int) - 9) = ((e - 9 : Nat) : Int) := by omega
      have ha9 : e - 9 ≤ e := by omega
      have ha10 : e ≤ (e - 9) + 9 := by omega
      have HEA : Hid (((e : Int) - 9).toNat = e - 9) := Lib.hid (by omega)
      clear HST
      generalize hea : e - 9 = a at *
      go_wp2_with fail
      clear hmx
      go_loop [7, 8] (fun nv iv => ∃ k : Nat, a ≤ k ∧ k ≤ e ∧ iv = .int .i64 k ∧ nv = .int .i64 (natOf ((m.take k).drop a) : Nat)) (fun _ iv => e - (intOf iv).toNat)
      case atStart => exact ⟨a, Nat.le_refl _, ha9, rfl, by rw [List.drop_eq_nil_of_le (by rw [List.length_take]; omega)]; rfl⟩
      case round =>
        obtain ⟨k, hak, hke, rfl, rfl⟩ := hrel
        by_cases hlt : k < e
        · have hkm : k < m.length := by omega
          have hv := nine_lt HD.out a k (by omega)
          have HDS := Lib.hid (drop_snoc m a k hak hkm)
          obtain ⟨hc1, hc2, hc3⟩ := dval_u8 (all_at HD.out hkm)
          have HC := Lib.hid hc3
          clear hc3
          generalize natOf ((m.take k).drop a) = p at *
          go_wp2_with fail
          go_round
          case rel => exact ⟨k + 1, by omega, by omega, by go_num, by rw [HDS.out]; have := HC.out; congr 1; omega⟩
          case measure => simp [intOf]; omega
        · obtain rfl : k = e := by omega
          have hv := nine_lt HD.out a k ha10
          generalize natOf ((m.take k).drop a) = p at *
          have hln := HLN.out
          have q1 := HBO.out.cell 1
          simp only [List.getElem?_toArray, List.getElem?_cons_zero, List.getElem?_cons_succ] at q1
          go_wp2_with (at_builtin; refine wpList_append_lies _ rfl (.tmp 39) (.tmp 41) 108 rfl (w.heap.size + 2) 3 i0 _ 1 8 Tryz.underlying108 HI.out hz0 hz1 hz2 rfl (by decide) _ done.length (icells done) rfl (own_ext2 HOWN.out (Ext.new _ _)) ⟨wr.heap.size, 0, none⟩ 1 1 [.int .i64 p] rfl rfl (World.news_of_block (heap_alloc_new wr _)) (by simp [Value.oneCell']) (by omega) (by simp only [maxLen]; omega) (by omega) (by have := HBO.out.lt; simp; omega) _ rfl ?_; intro g' cap' w' hown hgrow hat hlt'; have HGR := Lib.hid hgrow; have HON := Lib.hid hown; have hbo := (hgrow.block (w.heap.size + 1) (by have := HBO.out.lt; simp; omega) (fun e => by have := own_base HOWN.out (w.heap.size + 1) e.symm; omega)).trans (HBO.out.alloc _); have HBO2 : Hid (Blk w' (w.heap.size + 1) 110 #[.bool ng, v]) := Lib.hid hbo; have HBR2 : Hid (Blk w' w.heap.size 110 #[.bool false, .slice none 0 0]) := Lib.hid ((hgrow.block w.heap.size (by have := HBR.out.lt; simp; omega) (fun e => by have := own_base HOWN.out w.heap.size e.symm; omega)).trans (HBR.out.alloc _)); have HX2 : Hid (Ext w w') := Lib.hid (Ext.grown (HX.out.trans (Ext.new _ _)) hgrow (fun k hk => by have := own_base HOWN.out k hk; omega)); have r1 := HBO2.out.cell 1; have f1 := HBO2.out.frozen 1; simp only [List.getElem?_toArray, List.getElem?_cons_zero, List.getElem?_cons_succ] at r1; clear hown hgrow hat hbo)
          refine ⟨⟨(k : Int) - 9, done ++ [p], .slice (some ⟨g', 0, none⟩) (done.length + 1) cap', rfl, by omega, by omega, ?_, ?_, ?_, ?_, ?_⟩, by simp [intOf]; omega⟩
          · have hnb : (Value.slice (some ⟨g', 0, none⟩) (done.length + 1) cap').ownBlock ≠ some (w.heap.size + 1) := fun h => by have := own_base HON.out _ h; omega
            simpa [icells] using own_set HON.out hnb (i := 1) (.slice (some ⟨g', 0, none⟩) (done.length + 1) cap')
          · rw [HEA.out]; exact HNX.out
          · exact HX2.out.setCell (p := ⟨w.heap.size + 1, 1, none⟩) (Nat.le_succ _) _
          · exact HBR2.out.far (p := ⟨w.heap.size + 1, 1, none⟩) (by show w.heap.size ≠ w.heap.size + 1; omega) _
          · exact HBO2.out.set_ 1 _
    · have HDN : Hid (done = gr N) := Lib.hid (by have := HSUM.out; rw [show z.toNat = 0 by omega, List.take_zero, groupsOf_nil, List.append_nil] at this; exact this)
      obtain ⟨A, c, rfl⟩ := own_slice HOWN.out
      have q0 := HBO.out.cell 0
      have q1 := HBO.out.cell 1
      have r0 := HBR.out.cell 0
      have r1 := HBR.out.cell 1
      have f0 := HBR.out.frozen 0
      have f1 := HBR.out.frozen 1
      simp only [List.getElem?_toArray, List.getElem?_cons_zero, List.getElem?_cons_succ] at q0 q1 r0 r1
      go_wp2_with fail
      have hnb : (Value.slice A done.length c).ownBlock ≠ some w.heap.size := fun h => by have := own_base HOWN.out _ h; omega
      have hfin := own_set (own_set HOWN.out hnb (i := 0) (.bool ng)) hnb (i := 1) (.slice A done.length c)
      refine bodyPost_ret (results_numI rfl _ _ w.heap.size (.bool ng) (.slice A done.length c) rfl ((HBR.out.set_ 0 (.bool ng)).set_ 1 (.slice A done.length c))) rfl ?_
      have hcp := own_cap hfin
      rw [HDN.out] at hfin hcp ⊢
      exact ⟨A, c, rfl, Reads.own hfin, (HX.out.setCell (p := ⟨w.heap.size, 0, none⟩) (Nat.le_refl _) _).setCell (p := ⟨w.heap.size, 1, none⟩) (Nat.le_refl _) _, hcp.1, hcp.2⟩
theorem lastT_step (g q : Nat) (l : Bs) : lastT g (q + 1) ++ l = UInt8.ofNat (48 + g / 10 ^ q % 10) :: (lastT g q ++ l) := rfl
theorem canon_sgn (b : Bool) (gs : List Nat) (h : ∀ g ∈ gs, g < B9) : canon (if b then 45 :: lowT gs else lowT gs) = ofI (sgn b (gval gs)) := canon_low b gs h
set_option maxRecDepth 100000 in
set_option maxHeartbeats 2000000 in
theorem refWrite (b : Bool) (gs : List Nat) (A : Option Addr) (c : Nat) (w : World) (hA : RdI w A gs) (hn : gs.length ≤ 1000000) (hb : ∀ g ∈ gs, g < B9) :
    Calls Tryz.prog 98 #[.agg #[.bool b, .slice A gs.length c]] w fun e w' => e = .returned (.string (bs (ofI (sgn b (gval gs))))) ∧ Ext w w' := by
  have HC := Lib.hid (canon_sgn b gs hb)
  generalize ofI (sgn b (gval gs)) = r at *
  have HA := Lib.hid (hA.ext (Ext.new w (.cells #[.bool b, .slice A gs.length c] 110)))
  have HB := Lib.hid hb
  have HTL := Lib.hid (fun k => (show (lowT (gs.take k)).length ≤ 9 * gs.length from by rw [lowT_len _ (fun g hg => hb g (List.mem_of_mem_take hg)), List.length_take]; omega))
  clear hA hb
  go_enter Tryz.func98, Tryz.ntmps98
  go_wp2_with fail
  go_loop [3, 4, 5, 6] (fun t i _ _ => ∃ k : Nat, k ≤ gs.length ∧ i = .int .i64 k ∧ t = .string (bs (lowT (gs.take k)))) (fun _ i _ _ => gs.length - (intOf i).toNat)
  case atStart => exact ⟨0, Nat.zero_le _, rfl, rfl⟩
  case round =>
    obtain ⟨k, hk, rfl, rfl⟩ := hrel
    have hlt9 := HTL.out k
    by_cases hlt : k < gs.length
    · obtain ⟨ab, ao, rfl, hab, hcell⟩ := HA.out.at_ hlt
      have hg := HB.out _ (List.getElem_mem hlt)
      have HNX : Hid (lastT (gs[k]'hlt) 9 ++ lowT (gs.take k) = lowT (gs.take (k + 1))) := Lib.hid (by
        rw [lastT_nine hg, List.take_succ_eq_append_getElem hlt, lowT_snoc])
      generalize gs[k]'hlt = g at *
      generalize lowT (gs.take k) = low at *
      have hg' : g < 1000000000 := hg
      clear hg
      go_wp2_with fail
      clear hcell
      go_loop [3, 5, 6] (fun t v j => ∃ q : Nat, q ≤ 9 ∧ j = .int .i64 q ∧ v = .int .i64 (g / 10 ^ q : Nat) ∧ t = .string (bs (lastT g q ++ low))) (fun _ _ j => 9 - (intOf j).toNat)
      case atStart => exact ⟨0, Nat.zero_le _, rfl, by rw [Nat.pow_zero, Nat.div_one], rfl⟩
      case round =>
        obtain ⟨q, hq, rfl, rfl, rfl⟩ := hrel
        by_cases hq9 : q < 9
        · have HS := Lib.hid (lastT_step g q low)
          have HV : Hid (g / 10 ^ q / 10 = g / 10 ^ (q + 1)) := Lib.hid (by rw [Nat.pow_succ, Nat.div_div_eq_div_mul])
          have hvl : g / 10 ^ q ≤ g := Nat.div_le_self _ _
          have hll : (lastT g q ++ low).length ≤ 9 + 9 * gs.length := by rw [List.length_append, lastT_len]; omega
          generalize lastT g q ++ low = t at *
          generalize g / 10 ^ q = v at *
          have hcv : ∀ W : World, (convert 21 9 (.int .i32 (48 + (v : Int) % 10))).run Tryz.prog W = .ok (.string (bs [UInt8.ofNat (48 + v % 10)])) W := fun W => by rw [run_convert_int_string W _ _ _ _ (by rw [Tryz.underlying21]; rfl) Tryz.underlying9, encode_dig]
          generalize UInt8.ofNat (48 + v % 10) = dd at *
          go_wp2_with fail
          go_round
          case rel => exact ⟨q + 1, by omega, by go_num, by rw [← HV.out] <;> go_num, by rw [HS.out]⟩
          case measure => simp [intOf]; omega
        · obtain rfl : q = 9 := by omega
          rw [HNX.out]
          generalize g / 10 ^ 9 = v at *
          go_wp2_with fail
          go_round
          case rel => exact ⟨k + 1, by omega, by go_num, rfl⟩
          case measure => simp [intOf]; omega
    · have HT : Hid (lowT (gs.take k) = lowT gs) := Lib.hid (by rw [List.take_of_length_le (by omega)])
      cases b
      · have HC' : Hid (canon (lowT gs) = r) := Lib.hid HC.out
        rw [← HT.out] at HC'
        clear HT HC
        generalize lowT (gs.take k) = t at *
        go_wp2_with fail
        refine (refCanonical t _ (by omega)).mono ?_
        rintro e w1 ⟨rfl, rfl⟩
        go_wp2_with fail
        go_ret
        exact ⟨by rw [HC'.out]; rfl, Ext.new _ _⟩
      · have HC' : Hid (canon (45 :: lowT gs) = r) := Lib.hid HC.out
        rw [← HT.out] at HC'
        clear HT HC
        generalize lowT (gs.take k) = t at *
        go_wp2_with fail
        refine (refCanonical (45 :: t) _ (by rw [List.length_cons]; omega)).mono ?_
        rintro e w1 ⟨rfl, rfl⟩
        go_wp2_with fail
        go_ret
        exact ⟨by rw [HC'.out]; rfl, Ext.new _ _⟩
end Go.Proofs.YtikehdbkiplleaaGreatDoor

/- The walks over the reference's sums and differences of groups. -/
namespace Go.Proofs.YtikehdbkiplleaaGreatDoor
open Go.RowKit Go.Shelf
attribute [local go_sem] size_bs toList_bs

def MagEndsI (n : Nat) (w : World) (e : Ending) (w' : World) : Prop :=
  ∃ A c, e = .returned (.slice A (gr n).length c) ∧ RdI w' A (gr n) ∧ Ext w w' ∧ (gr n).length ≤ c ∧ c ≤ maxLen
theorem RdI.cut {w : World} {A : Option Addr} {gs : List Nat} (h : RdI w A gs) : RdI w A (cutL gs) := by rw [cutL_prefix]; exact h.take _
theorem icells_snoc (l : List Nat) (x : Nat) (z : Int) (h : z = (x : Int)) : icells (l ++ [x]) = icells l ++ [.int .i64 z] := by subst h; simp [icells]
/-- how a loop stands that writes the groups f one after the other, with a carry -/
def SumAt (f g : Nat → Nat) (L : Nat) (w : World) (v cv z : Value) (wr : World) : Prop :=
  ∃ k : Nat, k ≤ L ∧ z = .int .i64 k ∧ cv = .int .i64 (g k : Nat) ∧ wr.ownsRow w.heap.size 3 1 v k (icells ((List.range k).map f)) ∧ Ext w wr
theorem own_next {w : World} {base k g c : Nat} {e : TypeId} {f : Nat → Nat} {z : Int} (h : w.ownsRow base e 1 (.slice (some ⟨g, 0, none⟩) (k + 1) c) (k + 1) (icells ((List.range k).map f) ++ [.int .i64 z])) (hz : z = (f k : Nat)) : w.ownsRow base e 1 (.slice (some ⟨g, 0, none⟩) (k + 1) c) (k + 1) (icells ((List.range (k + 1)).map f)) := by
  rw [List.range_succ, List.map_append, List.map_cons, List.map_nil, icells_snoc _ _ _ hz]; exact h
theorem plus_all {x y k : Nat} (h1 : (gr x).length ≤ k) (h2 : (gr y).length ≤ k) (hc : cy (at0 (gr x)) (at0 (gr y)) k = 0) : cutL ((List.range k).map (pl (at0 (gr x)) (at0 (gr y)))) = gr (x + y) := by
  rw [cutL_gr (by intro g hg; obtain ⟨j, _, rfl⟩ := List.mem_map.1 hg; exact pl_lt _ _ _), gval_range]
  have h := plus_sum (at0 (gr x)) (at0 (gr y)) k
  rw [hc, Nat.zero_mul, Nat.add_zero, ← gval_gsum (gr x) k h1, ← gval_gsum (gr y) k h2, gval_gr, gval_gr] at h
  rw [h]
set_option maxRecDepth 100000 in
set_option maxHeartbeats 4000000 in
theorem refPlus (x y : Nat) (A A' : Option Addr) (c c' : Nat) (w : World) (hA : RdI w A (gr x)) (hA' : RdI w A' (gr y)) (hn : (gr x).length ≤ 1000000) (hn' : (gr y).length ≤ 1000000) :
    Calls Tryz.prog 148 #[.slice A (gr x).length c, .slice A' (gr y).length c'] w (MagEndsI (x + y) w) := by
  obtain ⟨i0, hI, hz0, hz1, hz2⟩ := info_parts i64Info
  have HI := Lib.hid hI
  have HA := Lib.hid hA
  have HA' := Lib.hid hA'
  have HFIN := Lib.hid (fun k => plus_all (x := x) (y := y) (k := k))
  have HL1 := Lib.hid (fun k => at0_bd (gr_lt x) k)
  have HL2 := Lib.hid (fun k => at0_bd (gr_lt y) k)
  have HCY := Lib.hid (fun k => cy_le (HL1.out) (HL2.out) k)
  have HZA := Lib.hid (fun k h => at0_ge (l := gr x) (k := k) h)
  have HZB := Lib.hid (fun k h => at0_ge (l := gr y) (k := k) h)
  clear hI hA hA'
  generalize gr x = gx at *
  generalize gr y = gy at *
  go_enter Tryz.func148, Tryz.ntmps148
  go_wp2_with fail
  go_loopw [5, 6, 7, 8] (fun v cv z _ wr => SumAt (pl (at0 gx) (at0 gy)) (cy (at0 gx) (at0 gy)) (max gx.length gy.length + 1) w v cv z wr) (fun _ _ z _ _ => max gx.length gy.length + 2 - (intOf z).toNat)
  case atStart => exact ⟨0, by omega, rfl, rfl, ⟨rfl, .inr ⟨w.heap.size, 0, #[], rfl, Nat.le_refl _, heap_alloc_new w _, Nat.le_refl _, by decide, rfl, rfl⟩⟩, Ext.new _ _⟩
  case round =>
    obtain ⟨k, hk, rfl, rfl, hown, hx⟩ := hrel
    have HOWN := Lib.hid hown
    have HX := Lib.hid hx
    clear hown hx
    have hpk := HL1.out k
    have hqk := HL2.out k
    have hck := HCY.out k
    have hkk : k ≤ 1000001 := by omega
    by_cases hgo : k < gx.length ∨ k < gy.length ∨ 0 < cy (at0 gx) (at0 gy) k
    · have hkL : k ≤ max gx.length gy.length := by
        rcases Nat.lt_or_ge (max gx.length gy.length) k with h | h
        · exfalso
          obtain ⟨j, rfl⟩ : ∃ j, k = j + 1 := ⟨k - 1, by omega⟩
          have e1 := HZA.out j (by omega)
          have e2 := HZB.out j (by omega)
          have h3 := HCY.out j
          have e3 : cy (at0 gx) (at0 gy) (j + 1) = (at0 gx j + at0 gy j + cy (at0 gx) (at0 gy) j) / B9 := rfl
          rw [e1, e2] at e3
          have e4 : (0 + 0 + cy (at0 gx) (at0 gy) j) / B9 = 0 := Nat.div_eq_of_lt (by show _ < 1000000000; omega)
          omega
        · exact h
      have HP : Hid ((((at0 gx k : Nat) : Int) + (at0 gy k : Nat) + (cy (at0 gx) (at0 gy) k : Nat)) % 1000000000 = (pl (at0 gx) (at0 gy) k : Nat)) := Lib.hid (by show _ = (((at0 gx k + at0 gy k + cy (at0 gx) (at0 gy) k) % 1000000000 : Nat) : Int); omega)
      have HQ : Hid ((((at0 gx k : Nat) : Int) + (at0 gy k : Nat) + (cy (at0 gx) (at0 gy) k : Nat)) / 1000000000 = (cy (at0 gx) (at0 gy) (k + 1) : Nat)) := Lib.hid (by show _ = (((at0 gx k + at0 gy k + cy (at0 gx) (at0 gy) k) / 1000000000 : Nat) : Int); omega)
      have hpk' : at0 gx k < 1000000000 := hpk
      have hqk' : at0 gy k < 1000000000 := hqk
      clear hpk hqk
      have HG1 := Lib.hid (fun W h => refGroup gx A c k W h hn)
      have HG2 := Lib.hid (fun W h => refGroup gy A' c' k W h hn')
      have hcases : k < gx.length ∨ (¬ k < gx.length ∧ k < gy.length) ∨ (¬ k < gx.length ∧ ¬ k < gy.length ∧ 0 < cy (at0 gx) (at0 gy) k) := by omega
      generalize at0 gx k = p at *
      generalize at0 gy k = q at *
      generalize cy (at0 gx) (at0 gy) k = cc at *
      clear hgo
      rcases hcases with h1 | ⟨h1, h2⟩ | ⟨h1, h2, h3⟩
      all_goals
        go_wp2_with fail
        refine (HG1.out _ (HA.out.ext HX.out)).mono ?_
        rintro e w1 ⟨rfl, rfl⟩
        go_wp2_with fail
        refine (HG2.out _ (HA'.out.ext HX.out)).mono ?_
        rintro e w1 ⟨rfl, rfl⟩
        go_wp2_with (at_builtin; refine wpList_append_lies _ rfl (.tmp 35) (.tmp 38) 108 rfl w.heap.size 3 i0 _ 1 8 Tryz.underlying108 HI.out hz0 hz1 hz2 rfl (by decide) _ k (icells ((List.range k).map (pl (at0 gx) (at0 gy)))) rfl (own_ext2 HOWN.out (Ext.new _ _)) ⟨wr.heap.size, 0, none⟩ 1 1 [.int .i64 (((p : Int) + (q : Int) + (cc : Int)) % 1000000000)] rfl rfl (World.news_of_block (heap_alloc_new wr _)) (by simp [Value.oneCell']) (by omega) (by simp only [maxLen]; omega) (by omega) (by have := HX.out.size; simp; omega) _ rfl ?_; intro g' cap' w' hown hgrow hat hlt'; have HX2 : Hid (Ext w w') := Lib.hid (Ext.grown (HX.out.trans (Ext.new _ _)) hgrow (fun k hk => own_base HOWN.out k hk)); have HON := Lib.hid (own_next hown HP.out); clear hown hgrow hat)
        refine ⟨⟨k + 1, by omega, by go_num, by rw [← HQ.out], HON.out, HX2.out⟩, by simp [intOf]; omega⟩
    · have h1 : ¬ k < gx.length := by omega
      have h2 : ¬ k < gy.length := by omega
      have h3 : cy (at0 gx) (at0 gy) k = 0 := by omega
      have HF := Lib.hid (HFIN.out k (by omega) (by omega) h3)
      rw [h3]
      clear hgo h3 hck hpk hqk HFIN
      obtain ⟨A1, c1, rfl⟩ := own_slice HOWN.out
      have hcp := own_cap HOWN.out
      have hlen : ((List.range k).map (pl (at0 gx) (at0 gy))).length = k := by simp
      have HRD : Hid (RdI wr A1 ((List.range k).map (pl (at0 gx) (at0 gy)))) := Lib.hid (by
        have := Reads.own HOWN.out
        unfold RdI; rw [hlen]; exact this)
      have HTR := Lib.hid (refTrim ((List.range k).map (pl (at0 gx) (at0 gy))) A1 c1 wr HRD.out (by rw [hlen]; exact hcp.1) hcp.2 (by intro g hg; obtain ⟨j, _, rfl⟩ := List.mem_map.1 hg; exact pl_lt _ _ _))
      rw [hlen, HF.out] at HTR
      have HRC : Hid (RdI wr A1 (gr (x + y))) := Lib.hid (by rw [← HF.out]; exact HRD.out.cut)
      have HCL : Hid ((gr (x + y)).length ≤ c1 ∧ c1 ≤ maxLen) := Lib.hid ⟨by rw [← HF.out]; have := cutL_le ((List.range k).map (pl (at0 gx) (at0 gy))); omega, hcp.2⟩
      clear hlen hcp
      go_wp2_with fail
      refine HTR.out.mono ?_
      rintro e w1 ⟨rfl, rfl⟩
      go_wp2_with fail
      go_ret
      exact ⟨A1, c1, rfl, HRC.out, HX.out, HCL.out.1, HCL.out.2⟩
theorem quiet_same {P : Program} {f : FuncId} {args : Array Value} {w : World} {n : Nat} {v : Value}
    (h : Calls P f args (w.drewN n) fun e w' => e = .returned v ∧ w.drewN n = w') : Calls P f args (w.drewN n) fun e w'' => e = .returned v ∧ ∃ m, w'' = w.drewN m :=
  h.mono fun _ _ ⟨he, hm⟩ => ⟨he, n, hm.symm⟩
theorem own_drewN {w : World} {base : Nat} {e : TypeId} {size n : Nat} {v : Value} {xs : List Value} (h : w.ownsRow base e size v n xs) (k : Nat) : (w.drewN k).ownsRow base e size v n xs := own_ext2 h ((Ext.refl w).drewN k)
set_option maxRecDepth 100000 in
set_option maxHeartbeats 4000000 in
theorem refMinus (x y : Nat) (hle : y ≤ x) (A A' : Option Addr) (c c' : Nat) (w : World) (hA : RdI w A (gr x)) (hA' : RdI w A' (gr y)) (hn : (gr x).length ≤ 1000000) (hn' : (gr y).length ≤ 1000000) :
    Calls Tryz.prog 150 #[.slice A (gr x).length c, .slice A' (gr y).length c'] w (MagEndsI (x - y) w) := by
  obtain ⟨i0, hI, hz0, hz1, hz2⟩ := info_parts i64Info
  have HI := Lib.hid hI
  have HA := Lib.hid hA
  have HA' := Lib.hid hA'
  have HFIN := Lib.hid (cut_mixed hle)
  have HL1 := Lib.hid (fun k => at0_bd (gr_lt x) k)
  have HL2 := Lib.hid (fun k => at0_bd (gr_lt y) k)
  have HMI := Lib.hid (fun k => mi_lt (HL1.out) (HL2.out) k)
  have HV1 := Lib.hid (fun k (h : k < (gr x).length) => at0_lt h)
  clear hI hA hA' hle
  generalize gr x = gx at *
  generalize gr y = gy at *
  go_enter Tryz.func150, Tryz.ntmps150
  go_wp2_with fail
  go_loopw [5, 6, 7, 8] (fun v cv z _ wr => SumAt (mi (at0 gx) (at0 gy)) (bw (at0 gx) (at0 gy)) gx.length w v cv z wr) (fun _ _ z _ _ => gx.length - (intOf z).toNat)
  case atStart => exact ⟨0, by omega, rfl, rfl, ⟨rfl, .inr ⟨w.heap.size, 0, #[], rfl, Nat.le_refl _, heap_alloc_new w _, Nat.le_refl _, by decide, rfl, rfl⟩⟩, Ext.new _ _⟩
  case round =>
    obtain ⟨k, hk, rfl, rfl, hown, hx⟩ := hrel
    have HOWN := Lib.hid hown
    have HX := Lib.hid hx
    clear hown hx
    by_cases hlt : k < gx.length
    · have hpk : at0 gx k < 1000000000 := HL1.out k
      have hqk : at0 gy k < 1000000000 := HL2.out k
      have hbk : bw (at0 gx) (at0 gy) k ≤ 1 := bw_le _ _ k
      obtain ⟨ab, ao, rfl, hab, hcell⟩ := (HA.out.ext HX.out).at_ hlt
      rw [← HV1.out k hlt] at hcell
      have HG2 := Lib.hid (fun W h => refGroup gy A' c' k W h hn')
      have HM1 : Hid (at0 gx k < at0 gy k + bw (at0 gx) (at0 gy) k → ((at0 gx k : Nat) : Int) - (at0 gy k : Nat) - (bw (at0 gx) (at0 gy) k : Nat) + 1000000000 = (mi (at0 gx) (at0 gy) k : Nat) ∧ bw (at0 gx) (at0 gy) (k + 1) = 1) := Lib.hid (fun h => by
        have e1 : mi (at0 gx) (at0 gy) k = at0 gx k + 1000000000 - (at0 gy k + bw (at0 gx) (at0 gy) k) := by unfold mi; rw [if_pos h]; rfl
        have e2 : bw (at0 gx) (at0 gy) (k + 1) = 1 := by show (if _ then 1 else 0) = 1; rw [if_pos h]
        exact ⟨by omega, e2⟩)
      have HM2 : Hid (¬ at0 gx k < at0 gy k + bw (at0 gx) (at0 gy) k → ((at0 gx k : Nat) : Int) - (at0 gy k : Nat) - (bw (at0 gx) (at0 gy) k : Nat) = (mi (at0 gx) (at0 gy) k : Nat) ∧ bw (at0 gx) (at0 gy) (k + 1) = 0) := Lib.hid (fun h => by
        have e1 : mi (at0 gx) (at0 gy) k = at0 gx k - (at0 gy k + bw (at0 gx) (at0 gy) k) := by unfold mi; rw [if_neg h]
        have e2 : bw (at0 gx) (at0 gy) (k + 1) = 0 := by show (if _ then 1 else 0) = 0; rw [if_neg h]
        exact ⟨by omega, e2⟩)
      generalize at0 gx k = p at *
      generalize at0 gy k = q at *
      generalize bw (at0 gx) (at0 gy) k = bb at *
      have hw1 : IntKind.i64.wrap ((p : Int) - (q : Int)) = (p : Int) - q := IntWalk.i64_in _ (by omega)
      have hw2 : IntKind.i64.wrap ((p : Int) - (q : Int) - (bb : Int)) = (p : Int) - q - bb := IntWalk.i64_in _ (by omega)
      by_cases hbo : p < q + bb
      · obtain ⟨he1, he2⟩ := HM1.out hbo
        have HP := Lib.hid he1
        have HQ := Lib.hid he2
        have hneg : (p : Int) - (q : Int) - (bb : Int) < 0 := by omega
        clear HM1 HM2 he1 he2
        go_wp2_with fail
        go_quiet ((go_at_call 179; exact quiet_same (HG2.out _ (HA'.out.ext (HX.out.drewN _)))))
        clear hw1 hw2
        go_wp2_with (at_builtin; refine wpList_append_lies _ rfl (.tmp 30) (.tmp 32) 108 rfl w.heap.size 3 i0 _ 1 8 Tryz.underlying108 HI.out hz0 hz1 hz2 rfl (by decide) _ k (icells ((List.range k).map (mi (at0 gx) (at0 gy)))) rfl (own_ext2 (own_drewN HOWN.out _) (Ext.new _ _)) ⟨wr.heap.size, 0, none⟩ 1 1 [.int .i64 ((p : Int) - (q : Int) - (bb : Int) + 1000000000)] rfl rfl (World.news_of_block (heap_alloc_new _ _)) (by simp [Value.oneCell']) (by omega) (by simp only [maxLen]; omega) (by omega) (by have := HX.out.size; simp; omega) _ rfl ?_; intro g' cap' w' hown hgrow hat hlt'; have HX2 : Hid (Ext w w') := Lib.hid (Ext.grown ((HX.out.drewN _).trans (Ext.new _ _)) hgrow (fun k hk => own_base HOWN.out k hk)); have HON := Lib.hid (own_next hown HP.out); clear hown hgrow hat)
        refine ⟨⟨k + 1, by omega, by go_num, by rw [HQ.out]; rfl, HON.out, HX2.out⟩, by simp [intOf]; omega⟩
      · obtain ⟨he1, he2⟩ := HM2.out hbo
        have HP := Lib.hid he1
        have HQ := Lib.hid he2
        have hneg : ¬ (p : Int) - (q : Int) - (bb : Int) < 0 := by omega
        clear HM1 HM2 he1 he2
        go_wp2_with fail
        go_quiet ((go_at_call 179; exact quiet_same (HG2.out _ (HA'.out.ext (HX.out.drewN _)))))
        clear hw1 hw2
        go_wp2_with (at_builtin; refine wpList_append_lies _ rfl (.tmp 30) (.tmp 32) 108 rfl w.heap.size 3 i0 _ 1 8 Tryz.underlying108 HI.out hz0 hz1 hz2 rfl (by decide) _ k (icells ((List.range k).map (mi (at0 gx) (at0 gy)))) rfl (own_ext2 (own_drewN HOWN.out _) (Ext.new _ _)) ⟨wr.heap.size, 0, none⟩ 1 1 [.int .i64 ((p : Int) - (q : Int) - (bb : Int))] rfl rfl (World.news_of_block (heap_alloc_new _ _)) (by simp [Value.oneCell']) (by omega) (by simp only [maxLen]; omega) (by omega) (by have := HX.out.size; simp; omega) _ rfl ?_; intro g' cap' w' hown hgrow hat hlt'; have HX2 : Hid (Ext w w') := Lib.hid (Ext.grown ((HX.out.drewN _).trans (Ext.new _ _)) hgrow (fun k hk => own_base HOWN.out k hk)); have HON := Lib.hid (own_next hown HP.out); clear hown hgrow hat)
        refine ⟨⟨k + 1, by omega, by go_num, by rw [HQ.out]; rfl, HON.out, HX2.out⟩, by simp [intOf]; omega⟩
    · obtain rfl : k = gx.length := by omega
      generalize bw (at0 gx) (at0 gy) gx.length = bb at *
      obtain ⟨A1, c1, rfl⟩ := own_slice HOWN.out
      have hcp := own_cap HOWN.out
      have hlen : ((List.range gx.length).map (mi (at0 gx) (at0 gy))).length = gx.length := by simp
      have HRD : Hid (RdI wr A1 ((List.range gx.length).map (mi (at0 gx) (at0 gy)))) := Lib.hid (by
        have := Reads.own HOWN.out
        unfold RdI; rw [hlen]; exact this)
      have HTR := Lib.hid (refTrim ((List.range gx.length).map (mi (at0 gx) (at0 gy))) A1 c1 wr HRD.out (by rw [hlen]; exact hcp.1) hcp.2 (by intro g hg; obtain ⟨j, _, rfl⟩ := List.mem_map.1 hg; exact HMI.out _))
      rw [hlen, HFIN.out] at HTR
      have HRC : Hid (RdI wr A1 (gr (x - y))) := Lib.hid (by rw [← HFIN.out]; exact HRD.out.cut)
      have HCL : Hid ((gr (x - y)).length ≤ c1 ∧ c1 ≤ maxLen) := Lib.hid ⟨by rw [← HFIN.out]; have := cutL_le ((List.range gx.length).map (mi (at0 gx) (at0 gy))); omega, hcp.2⟩
      clear hlen hcp
      go_wp2_with fail
      refine HTR.out.mono ?_
      rintro e w1 ⟨rfl, rfl⟩
      go_wp2_with fail
      go_ret
      exact ⟨A1, c1, rfl, HRC.out, HX.out, HCL.out.1, HCL.out.2⟩
end Go.Proofs.YtikehdbkiplleaaGreatDoor

/- The walks over the reference's sum of numbers: add, Add, Sub. (printed by refaddgen.py) -/
namespace Go.Proofs.YtikehdbkiplleaaGreatDoor
open Go.RowKit
attribute [local go_sem] size_bs toList_bs

theorem RdI.far {w : World} {A : Option Addr} {gs : List Nat} (h : RdI w A gs) {g i : Nat} (u : Value) (hne : 0 < gs.length → ∀ b o, A = some ⟨b, o, none⟩ → b ≠ g) : RdI (w.setCell ⟨g, i, none⟩ u) A gs := by
  refine ⟨h.1, fun hn => ?_⟩
  obtain ⟨b, o, rfl, hb, hc⟩ := h.2 hn
  have hbg := hne hn b o rfl
  refine ⟨b, o, rfl, by simpa [World.setCell] using hb, fun j v hv => ?_⟩
  rw [← hc j v hv]
  unfold World.cell?
  rw [Below.heap_setCell w ⟨g, i, none⟩ u b hbg]
theorem RdI.box {w : World} {A : Option Addr} {gs : List Nat} (h : RdI w A gs) {g : Nat} {t : TypeId} {x : Bool} {B : Option Addr} {n c : Nat} (hb : Blk w g t #[.bool x, .slice B n c]) : 0 < gs.length → ∀ b o, A = some ⟨b, o, none⟩ → b ≠ g := by
  intro hn b o e hbg
  subst e; subst hbg
  have h0 := Reads.cell h (j := 0) (u := .int .i64 (gs[0]'hn)) (by simp [icells, hn])
  rw [Nat.add_zero, hb.cell o] at h0
  match o, h0 with
  | 0, h0 => simp at h0
  | 1, h0 => simp at h0
  | o + 2, h0 => simp at h0
def AddEndsI (z : Int) (w : World) (e : Ending) (w' : World) : Prop :=
  ∃ b n A c, e = .returned (.agg #[.bool b, .slice A (gr n).length c]) ∧ sgn b n = z ∧ RdI w' A (gr n) ∧ Ext w w' ∧ (gr n).length ≤ c ∧ c ≤ maxLen
set_option maxRecDepth 100000 in
set_option maxHeartbeats 2000000 in
theorem refAdd_same (b : Bool) (x y : Nat) (A A' : Option Addr) (c c' : Nat) (w : World) (hA : RdI w A (gr x)) (hA' : RdI w A' (gr y)) (hn : (gr x).length ≤ 1000000) (hn' : (gr y).length ≤ 1000000) :
    Calls Tryz.prog 99 #[.agg #[.bool b, .slice A (gr x).length c], .agg #[.bool b, .slice A' (gr y).length c']] w (AddEndsI (sgn b x + sgn b y) w) := by
  have HA := Lib.hid hA
  have HA' := Lib.hid hA'
  have HPL := Lib.hid (fun W h1 h2 => refPlus x y A A' c c' W h1 h2 hn hn')
  have HS : Hid (sgn b (x + y) = sgn b x + sgn b y) := Lib.hid (by unfold sgn; cases b <;> simp; omega)
  generalize gr x = gx at *
  generalize gr y = gy at *
  clear hA hA'
  have HX0 : Hid (Ext w (((w.alloc (.cells #[.bool b, .slice A gx.length c] 110)).alloc (.cells #[.bool b, .slice A' gy.length c'] 110)).alloc (.cells #[.bool false, .slice none 0 0] 110))) := Lib.hid (((Ext.new _ _).alloc _).alloc _)
  have HBR := Lib.hid (blk_at ((w.alloc (.cells #[.bool b, .slice A gx.length c] 110)).alloc (.cells #[.bool b, .slice A' gy.length c'] 110)) 110 #[.bool false, .slice none 0 0] (w.heap.size + 1 + 1) (by simp))
  have HBX := Lib.hid (((blk_at w 110 #[.bool b, .slice A gx.length c] w.heap.size rfl).alloc (.cells #[.bool b, .slice A' gy.length c'] 110)).alloc (.cells #[.bool false, .slice none 0 0] 110))
  have HBY := Lib.hid ((blk_at (w.alloc (.cells #[.bool b, .slice A gx.length c] 110)) 110 #[.bool b, .slice A' gy.length c'] (w.heap.size + 1) (by simp)).alloc (.cells #[.bool false, .slice none 0 0] 110))
  have hn1 : w.heap.size ≠ w.heap.size + 1 + 1 := by omega
  have hn2 : w.heap.size + 1 + 1 ≠ w.heap.size := by omega
  have hn3 : ¬ (w.heap.size = w.heap.size + 1 + 1) := by omega
  go_enter Tryz.func99, Tryz.ntmps99
  go_wp2_with fail
  have HXW := HX0
  have HBRW := HBR
  have HBXW := HBX
  have HBYW := HBY
  skip
  go_region_held3 (fun w' => w'.cell? ⟨w.heap.size, 0, none⟩ = some (.bool b) ∧ w'.cell? ⟨w.heap.size, 1, none⟩ = some (.slice A gx.length c) ∧ w'.cell? ⟨w.heap.size + 1, 1, none⟩ = some (.slice A' gy.length c'))
    (go_keep)
    (first
      | (go_at_call 148; refine (HPL.out _ (HA.out.ext HXW.out.drew) (HA'.out.ext HXW.out.drew)).mono ?_; rintro e w2 ⟨A1, c1, rfl, hrd, hx2, hc1, hc2⟩; have hbr := HBRW.out.drew.ext hx2; have q0 := hbr.cell 0; have q1 := hbr.cell 1; have f0 := hbr.frozen 0; have f1 := hbr.frozen 1; have hba := HBXW.out.drew.ext hx2; have u0 := hba.cell 0; have u1 := hba.cell 1; have hbb := HBYW.out.drew.ext hx2; have v1 := hbb.cell 1; simp only [List.getElem?_toArray, List.getElem?_cons_zero, List.getElem?_cons_succ] at q0 q1 u0 u1 v1; have HBR2 := Lib.hid hbr; have HX2 := Lib.hid (HXW.out.drew.trans hx2); have HRD := Lib.hid hrd; have HC := Lib.hid (And.intro hc1 hc2); clear hbr hba hbb hx2 hrd hc1 hc2))
  all_goals
    go_wp2_with fail
    refine bodyPost_ret (results_numI rfl _ _ (w.heap.size + 1 + 1) (.bool b) (.slice A1 (gr (x + y)).length c1) rfl ((HBR2.out.set_ 0 (.bool b)).set_ 1 (.slice A1 (gr (x + y)).length c1))) rfl ?_
    have hne := HRD.out.box HBR2.out
    exact ⟨b, x + y, A1, c1, rfl, HS.out, (HRD.out.far (.bool b) hne).far _ hne, (HX2.out.setCell (p := ⟨w.heap.size + 1 + 1, 0, none⟩) (by show w.heap.size ≤ w.heap.size + 1 + 1; omega) _).setCell (p := ⟨w.heap.size + 1 + 1, 1, none⟩) (by show w.heap.size ≤ w.heap.size + 1 + 1; omega) _, HC.out.1, HC.out.2⟩
set_option maxRecDepth 100000 in
set_option maxHeartbeats 2000000 in
theorem refAdd_diff (b : Bool) (x y : Nat) (A A' : Option Addr) (c c' : Nat) (w : World) (hA : RdI w A (gr x)) (hA' : RdI w A' (gr y)) (hn : (gr x).length ≤ 1000000) (hn' : (gr y).length ≤ 1000000) :
    Calls Tryz.prog 99 #[.agg #[.bool b, .slice A (gr x).length c], .agg #[.bool (!b), .slice A' (gr y).length c']] w (AddEndsI (sgn b x + sgn (!b) y) w) := by
  have HA := Lib.hid hA
  have HA' := Lib.hid hA'
  have HCP := Lib.hid (fun W h1 h2 => refOrder x y A A' c c' W h1 h2 hn hn')
  have HM1 := Lib.hid (fun h W h1 h2 => refMinus x y h A A' c c' W h1 h2 hn hn')
  have HM2 := Lib.hid (fun h W h1 h2 => refMinus y x h A' A c' c W h1 h2 hn' hn)
  have HS1 : Hid (y ≤ x → sgn b (x - y) = sgn b x + sgn (!b) y) := Lib.hid (by intro h; unfold sgn; cases b <;> simp <;> omega)
  have HS2 : Hid (x ≤ y → sgn (!b) (y - x) = sgn b x + sgn (!b) y) := Lib.hid (by intro h; unfold sgn; cases b <;> simp <;> omega)
  generalize gr x = gx at *
  generalize gr y = gy at *
  clear hA hA'
  have hbb : (b == !b) = false := by cases b <;> rfl
  generalize hnb : (!b) = nb at *
  clear hnb
  have HX0 : Hid (Ext w (((w.alloc (.cells #[.bool b, .slice A gx.length c] 110)).alloc (.cells #[.bool nb, .slice A' gy.length c'] 110)).alloc (.cells #[.bool false, .slice none 0 0] 110))) := Lib.hid (((Ext.new _ _).alloc _).alloc _)
  have HBR := Lib.hid (blk_at ((w.alloc (.cells #[.bool b, .slice A gx.length c] 110)).alloc (.cells #[.bool nb, .slice A' gy.length c'] 110)) 110 #[.bool false, .slice none 0 0] (w.heap.size + 1 + 1) (by simp))
  have HBX := Lib.hid (((blk_at w 110 #[.bool b, .slice A gx.length c] w.heap.size rfl).alloc (.cells #[.bool nb, .slice A' gy.length c'] 110)).alloc (.cells #[.bool false, .slice none 0 0] 110))
  have HBY := Lib.hid ((blk_at (w.alloc (.cells #[.bool b, .slice A gx.length c] 110)) 110 #[.bool nb, .slice A' gy.length c'] (w.heap.size + 1) (by simp)).alloc (.cells #[.bool false, .slice none 0 0] 110))
  have hn1 : w.heap.size ≠ w.heap.size + 1 + 1 := by omega
  have hn2 : w.heap.size + 1 + 1 ≠ w.heap.size := by omega
  have hn3 : ¬ (w.heap.size = w.heap.size + 1 + 1) := by omega
  go_enter Tryz.func99, Tryz.ntmps99
  go_wp2_with fail
  refine (HCP.out _ (HA.out.ext HX0.out) (HA'.out.ext HX0.out)).mono ?_
  rintro e w1 ⟨hx1, r, rfl, hcase⟩
  have hbx := HBX.out.ext hx1
  have hby := HBY.out.ext hx1
  have hbr := HBR.out.ext hx1
  have x0 := hbx.cell 0
  have x1 := hbx.cell 1
  have y0 := hby.cell 0
  have y1 := hby.cell 1
  simp only [List.getElem?_toArray, List.getElem?_cons_zero, List.getElem?_cons_succ] at x0 x1 y0 y1
  have HXW := Lib.hid (HX0.out.trans hx1)
  have HBXW := Lib.hid hbx
  have HBYW := Lib.hid hby
  have HBRW := Lib.hid hbr
  clear hbx hby hbr hx1 HX0 HBX HBY HBR
  by_cases hr : r < 0
  · have hle : x ≤ y := by omega
    have HM := Lib.hid (HM2.out hle)
    have HS := Lib.hid (HS2.out hle)
    have hr' : ¬ 0 ≤ r := by omega
    clear hcase hle
    go_wp2_with fail
    go_region_held3 (fun w' => w'.cell? ⟨w.heap.size + 1, 0, none⟩ = some (.bool nb) ∧ w'.cell? ⟨w.heap.size + 1, 1, none⟩ = some (.slice A' gy.length c') ∧ w'.cell? ⟨w.heap.size, 1, none⟩ = some (.slice A gx.length c))
      (go_keep)
      (first
        | (go_at_call 150; refine (HM.out _ (HA'.out.ext HXW.out.drew) (HA.out.ext HXW.out.drew)).mono ?_; rintro e w2 ⟨A1, c1, rfl, hrd, hx2, hc1, hc2⟩; have hbr := HBRW.out.drew.ext hx2; have q0 := hbr.cell 0; have q1 := hbr.cell 1; have f0 := hbr.frozen 0; have f1 := hbr.frozen 1; have hba := HBYW.out.drew.ext hx2; have u0 := hba.cell 0; have u1 := hba.cell 1; have hbb := HBXW.out.drew.ext hx2; have v1 := hbb.cell 1; simp only [List.getElem?_toArray, List.getElem?_cons_zero, List.getElem?_cons_succ] at q0 q1 u0 u1 v1; have HBR2 := Lib.hid hbr; have HX2 := Lib.hid (HXW.out.drew.trans hx2); have HRD := Lib.hid hrd; have HC := Lib.hid (And.intro hc1 hc2); clear hbr hba hbb hx2 hrd hc1 hc2))
    all_goals
      go_wp2_with fail
      refine bodyPost_ret (results_numI rfl _ _ (w.heap.size + 1 + 1) (.bool nb) (.slice A1 (gr (y - x)).length c1) rfl ((HBR2.out.set_ 0 (.bool nb)).set_ 1 (.slice A1 (gr (y - x)).length c1))) rfl ?_
      have hne := HRD.out.box HBR2.out
      exact ⟨nb, y - x, A1, c1, rfl, HS.out, (HRD.out.far (.bool nb) hne).far _ hne, (HX2.out.setCell (p := ⟨w.heap.size + 1 + 1, 0, none⟩) (by show w.heap.size ≤ w.heap.size + 1 + 1; omega) _).setCell (p := ⟨w.heap.size + 1 + 1, 1, none⟩) (by show w.heap.size ≤ w.heap.size + 1 + 1; omega) _, HC.out.1, HC.out.2⟩
  · have hle : y ≤ x := by omega
    have HM := Lib.hid (HM1.out hle)
    have HS := Lib.hid (HS1.out hle)
    have hr' : 0 ≤ r := by omega
    clear hcase hle
    go_wp2_with fail
    go_region_held3 (fun w' => w'.cell? ⟨w.heap.size, 0, none⟩ = some (.bool b) ∧ w'.cell? ⟨w.heap.size, 1, none⟩ = some (.slice A gx.length c) ∧ w'.cell? ⟨w.heap.size + 1, 1, none⟩ = some (.slice A' gy.length c'))
      (go_keep)
      (first
        | (go_at_call 150; refine (HM.out _ (HA.out.ext HXW.out.drew) (HA'.out.ext HXW.out.drew)).mono ?_; rintro e w2 ⟨A1, c1, rfl, hrd, hx2, hc1, hc2⟩; have hbr := HBRW.out.drew.ext hx2; have q0 := hbr.cell 0; have q1 := hbr.cell 1; have f0 := hbr.frozen 0; have f1 := hbr.frozen 1; have hba := HBXW.out.drew.ext hx2; have u0 := hba.cell 0; have u1 := hba.cell 1; have hbb := HBYW.out.drew.ext hx2; have v1 := hbb.cell 1; simp only [List.getElem?_toArray, List.getElem?_cons_zero, List.getElem?_cons_succ] at q0 q1 u0 u1 v1; have HBR2 := Lib.hid hbr; have HX2 := Lib.hid (HXW.out.drew.trans hx2); have HRD := Lib.hid hrd; have HC := Lib.hid (And.intro hc1 hc2); clear hbr hba hbb hx2 hrd hc1 hc2))
    all_goals
      go_wp2_with fail
      refine bodyPost_ret (results_numI rfl _ _ (w.heap.size + 1 + 1) (.bool b) (.slice A1 (gr (x - y)).length c1) rfl ((HBR2.out.set_ 0 (.bool b)).set_ 1 (.slice A1 (gr (x - y)).length c1))) rfl ?_
      have hne := HRD.out.box HBR2.out
      exact ⟨b, x - y, A1, c1, rfl, HS.out, (HRD.out.far (.bool b) hne).far _ hne, (HX2.out.setCell (p := ⟨w.heap.size + 1 + 1, 0, none⟩) (by show w.heap.size ≤ w.heap.size + 1 + 1; omega) _).setCell (p := ⟨w.heap.size + 1 + 1, 1, none⟩) (by show w.heap.size ≤ w.heap.size + 1 + 1; omega) _, HC.out.1, HC.out.2⟩
theorem refAddN (b b' : Bool) (x y : Nat) (A A' : Option Addr) (c c' : Nat) (w : World) (hA : RdI w A (gr x)) (hA' : RdI w A' (gr y)) (hn : (gr x).length ≤ 1000000) (hn' : (gr y).length ≤ 1000000) :
    Calls Tryz.prog 99 #[.agg #[.bool b, .slice A (gr x).length c], .agg #[.bool b', .slice A' (gr y).length c']] w (AddEndsI (sgn b x + sgn b' y) w) := by
  by_cases h : b' = b
  · subst h; exact refAdd_same b' x y A A' c c' w hA hA' hn hn'
  · have e : b' = !b := by cases b <;> cases b' <;> simp_all
    subst e; exact refAdd_diff b x y A A' c c' w hA hA' hn hn'
end Go.Proofs.YtikehdbkiplleaaGreatDoor

/- The walks over the reference's Add and Sub. -/
namespace Go.Proofs.YtikehdbkiplleaaGreatDoor
open Go.RowKit
attribute [local go_sem] size_bs toList_bs

theorem gr_len10 {n L : Nat} (h : n < 10 ^ L) : (gr n).length ≤ L := gr_len_le (Nat.lt_of_lt_of_le h (Nat.pow_le_pow_left (by decide) L))
theorem natOf_mag_lt (l : Bs) : natOf (mag l) < 10 ^ l.length := Nat.lt_of_lt_of_le (natOf_lt (mag_all l)) (Nat.pow_le_pow_right (by decide) (mag_le l))
theorem sum_len {b b1 b2 : Bool} {n x y L : Nat} (h : sgn b n = sgn b1 x + sgn b2 y) (hx : x < 10 ^ L) (hy : y < 10 ^ L) : (gr n).length ≤ L + 1 := by
  refine gr_len10 ?_
  have hn : n ≤ x + y := by unfold sgn at h; cases b <;> cases b1 <;> cases b2 <;> simp at h <;> omega
  rw [Nat.pow_succ]; omega
theorem mag_pow (l : Bs) {L : Nat} (h : l.length ≤ L) : natOf (mag l) < 10 ^ L := Nat.lt_of_lt_of_le (natOf_mag_lt l) (Nat.pow_le_pow_right (by decide) h)
theorem valI_sgn (l : Bs) : valI l = sgn (neg l) (natOf (mag l)) := rfl
theorem valI_short {l : Bs} (h : (mag l).length ≤ 17) : -1000000000000000000 ≤ valI l ∧ valI l ≤ 1000000000000000000 := by
  have h1 : natOf (mag l) < 100000000000000000 := by
    have := natOf_take_lt (mag_all l) h (mag l).length
    rwa [List.take_of_length_le (Nat.le_refl _)] at this
  unfold valI; split <;> omega
set_option maxRecDepth 100000 in
set_option maxHeartbeats 2000000 in
theorem refAdd_long (a b : Bs) (w : World) (ha : a.length ≤ 100000) (hb : b.length ≤ 100000) (m n : Int) (is also : Bool) (hno : (is && also) = false)
    (h1 : ∀ w, Calls Tryz.prog 96 #[.string (bs a)] w fun e w' => e = .returned (.tuple #[.int .i64 m, .bool is]) ∧ w = w')
    (h2 : ∀ w, Calls Tryz.prog 96 #[.string (bs b)] w fun e w' => e = .returned (.tuple #[.int .i64 n, .bool also]) ∧ w = w') :
    Calls Tryz.prog 57 #[.string (bs a), .string (bs b)] w fun e w' => e = .returned (.string (bs (ofI (valI a + valI b)))) ∧ Ext w w' := by
  have HR1 := Lib.hid (fun W => refReadN a W (by omega))
  have HR2 := Lib.hid (fun W => refReadN b W (by omega))
  obtain ⟨L, hLa, hLb, hL⟩ : ∃ L : Nat, a.length ≤ L ∧ b.length ≤ L ∧ L ≤ 100000 := ⟨max a.length b.length, by omega, by omega, by omega⟩
  have HL1 : Hid ((gr (natOf (mag a))).length ≤ 1000000) := Lib.hid (by have := gr_len10 (mag_pow a hLa); omega)
  have HL2 : Hid ((gr (natOf (mag b))).length ≤ 1000000) := Lib.hid (by have := gr_len10 (mag_pow b hLb); omega)
  have HP1 := Lib.hid (mag_pow a hLa)
  have HP2 := Lib.hid (mag_pow b hLb)
  have HV : Hid (valI a + valI b = sgn (neg a) (natOf (mag a)) + sgn (neg b) (natOf (mag b))) := Lib.hid rfl
  generalize valI a + valI b = z at *
  generalize natOf (mag a) = x at *
  generalize natOf (mag b) = y at *
  generalize neg a = ba at *
  generalize neg b = bb at *
  have H1 := Lib.hid h1
  have H2 := Lib.hid h2
  clear h1 h2 ha hb hLa hLb
  have hcase : (is = true ∧ also = false) ∨ is = false := by cases is <;> cases also <;> simp_all
  clear hno
  rcases hcase with ⟨rfl, rfl⟩ | rfl
  all_goals
    go_enter Tryz.func57, Tryz.ntmps57
    go_wp2_with fail
    refine (H1.out _).mono ?_
    rintro e w1 ⟨rfl, rfl⟩
    go_wp2_with fail
    refine (H2.out _).mono ?_
    rintro e w1 ⟨rfl, rfl⟩
    go_wp2_with fail
    refine (HR1.out _).mono ?_
    rintro e w2 ⟨A, c, rfl, hrd1, hx1, _, _⟩
    go_wp2_with fail
    refine (HR2.out _).mono ?_
    rintro e w3 ⟨A', c', rfl, hrd2, hx2, _, _⟩
    have HD1 := Lib.hid (hrd1.ext hx2)
    have HD2 := Lib.hid hrd2
    have HX := Lib.hid (hx1.trans hx2)
    clear hrd1 hrd2 hx1 hx2
    go_wp2_with fail
    refine (refAddN ba bb x y A A' c c' _ HD1.out HD2.out HL1.out HL2.out).mono ?_
    rintro e w4 ⟨bs', n', A1, c1, rfl, hs, hrd, hx, _, _⟩
    have HS := Lib.hid hs
    have HD := Lib.hid hrd
    have HX4 := Lib.hid (HX.out.trans hx)
    have HLN : Hid ((gr n').length ≤ 1000000) := Lib.hid (by have := sum_len hs HP1.out HP2.out; omega)
    clear hs hrd hx
    have HW := Lib.hid (refWrite bs' (gr n') A1 c1 w4 HD.out HLN.out (gr_lt n'))
    rw [gval_gr, HS.out, ← HV.out] at HW
    go_wp2_with fail
    refine HW.out.mono ?_
    rintro e w5 ⟨rfl, hx5⟩
    go_wp2_with fail
    go_ret
    exact ⟨rfl, HX4.out.trans hx5⟩
set_option maxRecDepth 100000 in
set_option maxHeartbeats 2000000 in
theorem refAdd (a b : Bs) (w : World) (ha : a.length ≤ 100000) (hb : b.length ≤ 100000) :
    Calls Tryz.prog 57 #[.string (bs a), .string (bs b)] w fun e w' => e = .returned (.string (bs (ofI (valI a + valI b)))) ∧ Ext w w' := by
  by_cases h1 : (mag a).length ≤ 17
  · by_cases h2 : (mag b).length ≤ 17
    · have HS1 := Lib.hid (fun w => refShort a w (by omega) h1)
      have HS2 := Lib.hid (fun w => refShort b w (by omega) h2)
      obtain ⟨p1, p2⟩ := valI_short h1
      obtain ⟨q1, q2⟩ := valI_short h2
      have HOF := Lib.hid (fun w => refIntOf (valI a + valI b) (by omega) (by omega) w)
      clear h1 h2 ha hb
      generalize valI a = m at *
      generalize valI b = n at *
      go_enter Tryz.func57, Tryz.ntmps57
      go_wp2_with fail
      refine (HS1.out _).mono ?_
      rintro e w1 ⟨rfl, rfl⟩
      go_wp2_with fail
      refine (HS2.out _).mono ?_
      rintro e w1 ⟨rfl, rfl⟩
      go_wp2_with fail
      refine (HOF.out _).mono ?_
      rintro e w1 ⟨rfl, rfl⟩
      go_wp2_with fail
      go_ret
      exact ⟨rfl, Ext.refl _⟩
    · exact refAdd_long a b w ha hb _ _ true false rfl (fun w => refShort a w (by omega) h1) (fun w => refShort_no b w (by omega) h2)
  · by_cases h2 : (mag b).length ≤ 17
    · exact refAdd_long a b w ha hb _ _ false true rfl (fun w => refShort_no a w (by omega) h1) (fun w => refShort b w (by omega) h2)
    · exact refAdd_long a b w ha hb _ _ false false rfl (fun w => refShort_no a w (by omega) h1) (fun w => refShort_no b w (by omega) h2)
theorem ofI_len {z : Int} {L : Nat} (h : z.natAbs < 10 ^ L) : (ofI z).length ≤ L + 1 := by
  have := dig10_len h
  unfold ofI; split <;> simp <;> omega
theorem valI_abs (l : Bs) : (valI l).natAbs < 10 ^ l.length := by
  have := natOf_mag_lt l
  unfold valI; split <;> omega
set_option maxHeartbeats 1000000 in
theorem refSub (a b : Bs) (w : World) (ha : a.length ≤ 90000) (hb : b.length ≤ 90000) :
    Calls Tryz.prog 95 #[.string (bs a), .string (bs b)] w fun e w' => e = .returned (.string (bs (ofI (valI a - valI b)))) ∧ Ext w w' := by
  have HN := Lib.hid (fun w => refNeg b w (by omega))
  have HA := Lib.hid (fun w => refAdd a (ofI (-(valI b))) w (by omega) (by
    have h1 := valI_abs b
    have h2 : (ofI (-(valI b))).length ≤ b.length + 1 := ofI_len (by rwa [Int.natAbs_neg])
    omega))
  rw [valI_ofI, ← Int.sub_eq_add_neg] at HA
  clear ha hb
  generalize ofI (-(valI b)) = c at *
  generalize ofI (valI a - valI b) = r at *
  go_enter Tryz.func95, Tryz.ntmps95
  go_wp2_with fail
  refine (HN.out _).mono ?_
  rintro e w1 ⟨rfl, rfl⟩
  go_wp2_with fail
  refine (HA.out _).mono ?_
  rintro e w2 ⟨rfl, hx⟩
  go_wp2_with fail
  go_ret
  exact ⟨rfl, hx⟩
end Go.Proofs.YtikehdbkiplleaaGreatDoor

/- The walks over the program's Add, Sub, Neg. -/
namespace Go.Proofs.YtikehdbkiplleaaGreatDoor
open Go.RowKit
attribute [local go_sem] size_bs toList_bs

set_option maxRecDepth 100000 in
set_option maxHeartbeats 2000000 in
theorem intAddS (a b : Bs) (w : World) (ha : a.length ≤ 100000) (hb : b.length ≤ 100000) (hE : Env w) :
    Calls Tryz.prog 29 #[.string (bs a), .string (bs b)] w fun e w' => e = .returned (.string (bs (ofI (valI a + valI b)))) ∧ Ext w w' := by
  have HR1 := Lib.hid (fun W => intRead a W (by omega))
  have HR2 := Lib.hid (fun W => intRead b W (by omega))
  obtain ⟨L, hLa, hLb, hL⟩ : ∃ L : Nat, a.length ≤ L ∧ b.length ≤ L ∧ L ≤ 100000 := ⟨max a.length b.length, by omega, by omega, by omega⟩
  have HL1 : Hid ((gr (natOf (mag a))).length ≤ 1000000) := Lib.hid (by have := gr_len10 (mag_pow a hLa); omega)
  have HL2 : Hid ((gr (natOf (mag b))).length ≤ 1000000) := Lib.hid (by have := gr_len10 (mag_pow b hLb); omega)
  have HP1 := Lib.hid (mag_pow a hLa)
  have HP2 := Lib.hid (mag_pow b hLb)
  have HE := Lib.hid hE
  have HV : Hid (valI a + valI b = sgn (neg a) (natOf (mag a)) + sgn (neg b) (natOf (mag b))) := Lib.hid rfl
  generalize valI a + valI b = z at *
  generalize natOf (mag a) = x at *
  generalize natOf (mag b) = y at *
  generalize neg a = ba at *
  generalize neg b = bb at *
  clear ha hb hLa hLb hE
  go_enter Tryz.func29, Tryz.ntmps29
  go_wp2_with fail
  refine (HR1.out _).mono ?_
  rintro e w2 ⟨A, c, rfl, hrd1, hx1, _, _⟩
  go_wp2_with fail
  refine (HR2.out _).mono ?_
  rintro e w3 ⟨A', c', rfl, hrd2, hx2, _, _⟩
  have HD1 := Lib.hid (hrd1.ext hx2)
  have HD2 := Lib.hid hrd2
  have HX := Lib.hid (hx1.trans hx2)
  clear hrd1 hrd2 hx1 hx2
  go_wp2_with fail
  refine (intAdd ba bb x y A A' c c' _ HD1.out HD2.out HL1.out HL2.out).mono ?_
  rintro e w4 ⟨bs', n', A1, c1, rfl, hs, hrd, hx, hc1, hc2⟩
  have HD := Lib.hid hrd
  have HX4 := Lib.hid (HX.out.trans hx)
  have HC := Lib.hid (And.intro hc1 hc2)
  have HLN : Hid ((gr n').length ≤ 1000000) := Lib.hid (by have := sum_len hs HP1.out HP2.out; omega)
  have HS : Hid (txt bs' n' = ofI z) := Lib.hid (by rw [txt_ofI, hs, ← HV.out])
  clear hs hrd hx hc1 hc2
  go_wp2_with fail
  refine (intText bs' n' A1 c1 _ HD.out HLN.out HC.out.1 HC.out.2 (HE.out.ext HX4.out)).mono ?_
  rintro e w5 ⟨rfl, hx5⟩
  rw [HS.out]
  go_wp2_with fail
  go_ret
  exact ⟨rfl, HX4.out.trans hx5⟩
theorem sgn_not (b : Bool) (n : Nat) : sgn (!b) n = -(sgn b n) := by cases b <;> simp [sgn]
set_option maxRecDepth 100000 in
set_option maxHeartbeats 4000000 in
theorem intSub (a b : Bs) (w : World) (ha : a.length ≤ 100000) (hb : b.length ≤ 100000) (hE : Env w) :
    Calls Tryz.prog 79 #[.string (bs a), .string (bs b)] w fun e w' => e = .returned (.string (bs (ofI (valI a - valI b)))) ∧ Ext w w' := by
  have HR1 := Lib.hid (fun W => intRead a W (by omega))
  have HR2 := Lib.hid (fun W => intRead b W (by omega))
  obtain ⟨L, hLa, hLb, hL⟩ : ∃ L : Nat, a.length ≤ L ∧ b.length ≤ L ∧ L ≤ 100000 := ⟨max a.length b.length, by omega, by omega, by omega⟩
  have HL1 : Hid ((gr (natOf (mag a))).length ≤ 1000000) := Lib.hid (by have := gr_len10 (mag_pow a hLa); omega)
  have HL2 : Hid ((gr (natOf (mag b))).length ≤ 1000000) := Lib.hid (by have := gr_len10 (mag_pow b hLb); omega)
  have HP1 := Lib.hid (mag_pow a hLa)
  have HP2 := Lib.hid (mag_pow b hLb)
  have HE := Lib.hid hE
  have HV : Hid (valI a - valI b = sgn (neg a) (natOf (mag a)) + sgn (!neg b) (natOf (mag b))) := Lib.hid (by rw [sgn_not]; exact Int.sub_eq_add_neg)
  generalize valI a - valI b = z at *
  generalize natOf (mag a) = x at *
  generalize natOf (mag b) = y at *
  generalize neg a = ba at *
  generalize neg b = bb at *
  clear ha hb hLa hLb hE
  go_enter Tryz.func79, Tryz.ntmps79
  go_wp2_with fail
  refine (HR2.out _).mono ?_
  rintro e w1 ⟨A', c', rfl, hrd2, hx1, _, _⟩
  have HD2 := Lib.hid hrd2
  have HX1 := Lib.hid hx1
  clear hrd2 hx1
  generalize hnb : (!bb) = nb at *
  go_wp2_with fail
  clear hnb
  have HBX := Lib.hid (blk_at w1 81 #[.bool nb, .slice A' (gr y).length c'] w1.heap.size rfl)
  have HXW := Lib.hid (HX1.out.trans (Ext.new w1 (.cells #[.bool nb, .slice A' (gr y).length c'] 81)))
  have HDW := Lib.hid (HD2.out.ext (Ext.new w1 (.cells #[.bool nb, .slice A' (gr y).length c'] 81)))
  have HBW := Lib.hid (Ext.refl (w1.alloc (.cells #[.bool nb, .slice A' (gr y).length c'] 81)))
  generalize (w1.alloc (.cells #[.bool nb, .slice A' (gr y).length c'] 81)) = W at *
  generalize w1.heap.size = g at *
  have x0 := HBX.out.cell 0
  have x1 := HBX.out.cell 1
  simp only [List.getElem?_toArray, List.getElem?_cons_zero, List.getElem?_cons_succ] at x0 x1
  go_region_held3 (fun w' => w'.cell? ⟨g, 0, none⟩ = some (.bool nb) ∧ w'.cell? ⟨g, 1, none⟩ = some (.slice A' (gr y).length c'))
    (go_keep)
    (first
      | (go_at_call 65; ((with_reducible refine (HR1.out _).mono ?_); rintro e w2 ⟨A, c, rfl, hrd1, hx2, _, _⟩); have hbx := HBX.out.drew.ext hx2; have u0 := hbx.cell 0; have u1 := hbx.cell 1; simp only [List.getElem?_toArray, List.getElem?_cons_zero, List.getElem?_cons_succ] at u0 u1; have HX2 := Lib.hid (HXW.out.drew.trans hx2); have HD1 := Lib.hid hrd1; have HD2W := Lib.hid ((HDW.out.ext HBW.out.drew).ext hx2); have HBX2 := Lib.hid hbx; clear hbx hx2 hrd1)
      | (go_at_call 71; ((with_reducible refine (intAdd ba nb x y A A' c c' _ HD1.out HD2W.out HL1.out HL2.out).mono ?_); rintro e w4 ⟨bs', n', A1, c1, rfl, hs, hrd, hx, hc1, hc2⟩); have HD := Lib.hid hrd; have hbx := HBX2.out.ext hx; have v0 := hbx.cell 0; have v1 := hbx.cell 1; simp only [List.getElem?_toArray, List.getElem?_cons_zero, List.getElem?_cons_succ] at v0 v1; have HBX4 := Lib.hid hbx; have HX4 := Lib.hid (HX2.out.trans hx); have HC := Lib.hid (And.intro hc1 hc2); have HLN : Hid ((gr n').length ≤ 1000000) := Lib.hid (by have := sum_len hs HP1.out HP2.out; omega); have HS : Hid (txt bs' n' = ofI z) := Lib.hid (by rw [txt_ofI, hs, ← HV.out]); clear hs hrd hx hc1 hc2 hbx)
      | (go_at_call 72; ((with_reducible refine (intText bs' n' A1 c1 _ HD.out HLN.out HC.out.1 HC.out.2 (HE.out.ext HX4.out)).mono ?_); rintro e w5 ⟨rfl, hx5⟩); have hbx := HBX4.out.ext hx5; have y0 := hbx.cell 0; have y1 := hbx.cell 1; simp only [List.getElem?_toArray, List.getElem?_cons_zero, List.getElem?_cons_succ] at y0 y1; have HX5 := Lib.hid (HX4.out.trans hx5); clear hx5 hbx))
  all_goals
    rw [HS.out]
    go_wp2_with fail
    go_ret
    exact ⟨rfl, HX5.out⟩
end Go.Proofs.YtikehdbkiplleaaGreatDoor

/- Plain: products and quotients of numbers in groups of nine digits, step by step. No program in sight. -/
namespace Go.Proofs.YtikehdbkiplleaaGreatDoor
open Go.RowKit

def AllB (R : List Nat) : Prop := ∀ g ∈ R, g < B9
theorem AllB.set {R : List Nat} (h : AllB R) (j v : Nat) (hv : v < B9) : AllB (R.set j v) := fun g hg => by
  rcases List.mem_or_eq_of_mem_set hg with h1 | h1
  · exact h g h1
  · rw [h1]; exact hv
theorem AllB.at0 {R : List Nat} (h : AllB R) (j : Nat) : at0 R j < B9 := at0_bd h j
theorem at0_set {R : List Nat} {j v : Nat} (h : j < R.length) (i : Nat) : at0 (R.set j v) i = if i = j then v else at0 R i := by
  unfold Go.Proofs.YtikehdbkiplleaaGreatDoor.at0
  rw [List.getD_eq_getElem?_getD, List.getD_eq_getElem?_getD, List.getElem?_set]
  by_cases e : j = i
  · subst e; rw [if_pos rfl, if_pos h, if_pos rfl]; rfl
  · rw [if_neg e, if_neg (fun h => e h.symm)]
theorem gval_append (a b : List Nat) : gval (a ++ b) = gval a + B9 ^ a.length * gval b := by
  induction a with
  | nil => simp [gval]
  | cons g r ih =>
    have e1 : gval ((g :: r) ++ b) = g + B9 * gval (r ++ b) := rfl
    have e2 : gval (g :: r) = g + B9 * gval r := rfl
    rw [e1, e2, ih, Nat.mul_add, List.length_cons, Nat.pow_succ, Nat.add_assoc, ← Nat.mul_assoc, Nat.mul_comm B9 (B9 ^ r.length)]
theorem gval_set : ∀ {R : List Nat} {j : Nat} (v : Nat), j < R.length → gval (R.set j v) + at0 R j * B9 ^ j = gval R + v * B9 ^ j
  | g :: r, 0, v, _ => by
    have e1 : gval ((g :: r).set 0 v) = v + B9 * gval r := rfl
    have e2 : gval (g :: r) = g + B9 * gval r := rfl
    have e3 : at0 (g :: r) 0 = g := rfl
    rw [e1, e2, e3, Nat.pow_zero]; omega
  | g :: r, j + 1, v, h => by
    have ih := gval_set (R := r) (j := j) v (by simpa using h)
    have e1 : gval ((g :: r).set (j + 1) v) = g + B9 * gval (r.set j v) := rfl
    have e2 : gval (g :: r) = g + B9 * gval r := rfl
    have e3 : at0 (g :: r) (j + 1) = at0 r j := rfl
    rw [e1, e2, e3, Nat.pow_succ]
    have h1 : B9 * (gval (r.set j v) + at0 r j * B9 ^ j) = B9 * (gval r + v * B9 ^ j) := by rw [ih]
    rw [Nat.mul_add, Nat.mul_add] at h1
    have h2 : ∀ x : Nat, x * (B9 ^ j * B9) = B9 * (x * B9 ^ j) := fun x => by rw [← Nat.mul_assoc, Nat.mul_comm]
    rw [h2, h2]; omega
theorem gval_take_succ (l : List Nat) (k : Nat) : gval (l.take (k + 1)) = gval (l.take k) + at0 l k * B9 ^ k := by
  rcases Nat.lt_or_ge k l.length with h | h
  · rw [List.take_succ_eq_append_getElem h, gval_snoc, at0_lt h, List.length_take, Nat.min_eq_left (by omega)]
  · rw [at0_ge h, List.take_of_length_le (by omega), List.take_of_length_le (by omega)]; simp
theorem gval_lt {R : List Nat} (h : AllB R) : gval R < B9 ^ R.length := by
  rw [gval_gsum R R.length (Nat.le_refl _)]
  exact gsum_lt (at0_bd h) _
/-- one group of a product -/
theorem mul_step {R : List Nat} {P X c x y j : Nat} (hj : j < R.length) (hc : gval R + c * B9 ^ j = P) (hx : X = c + at0 R j + x * y) :
    gval (R.set j (X % B9)) + X / B9 * B9 ^ (j + 1) = P + x * y * B9 ^ j := by
  have h1 := gval_set (R := R) (j := j) (X % B9) hj
  have h2 := Nat.mod_add_div X B9
  rw [Nat.pow_succ]
  generalize B9 ^ j = p at *
  have h3 : X / B9 * (p * B9) = B9 * (X / B9) * p := by rw [Nat.mul_comm p B9, ← Nat.mul_assoc, Nat.mul_comm (X / B9) B9]
  have h4 : (X % B9 + B9 * (X / B9)) * p = (c + at0 R j + x * y) * p := by rw [h2, hx]
  rw [Nat.add_mul, Nat.add_mul, Nat.add_mul] at h4
  rw [h3, ← hc]
  generalize B9 * (X / B9) * p = u1 at *
  generalize X % B9 * p = u2 at *
  generalize c * p = u3 at *
  generalize at0 R j * p = u4 at *
  generalize x * y * p = u5 at *
  generalize gval (R.set j (X % B9)) = u6 at *
  omega
theorem mul_bound {c o x y : Nat} (hc : c < B9) (ho : o < B9) (hx : x < B9) (hy : y < B9) : c + o + x * y < B9 * B9 ∧ c + o + x * y < 1000000000000000000 := by
  have e : B9 = 1000000000 := rfl
  rw [e] at hc ho hx hy ⊢
  have h1 : x * y ≤ 999999999 * 999999999 := Nat.mul_le_mul (by omega) (by omega)
  generalize x * y = z at *
  omega
/-- how the inner loop of a product stands: R is the row, the groups below k of n have been multiplied by x and added in from i on -/
structure MulIn (x : Nat) (n : List Nat) (P L i k c : Nat) (R : List Nat) : Prop where
  len : R.length = L
  all : AllB R
  cb : c < B9
  val : gval R + c * B9 ^ (i + k) = P + x * gval (n.take k) * B9 ^ i
  tail : ∀ j, i + n.length ≤ j → at0 R j = 0
theorem MulIn.start {x : Nat} {n R : List Nat} {P L i : Nat} (hl : R.length = L) (ha : AllB R) (hv : gval R = P) (ht : ∀ j, i + n.length ≤ j → at0 R j = 0) : MulIn x n P L i 0 0 R :=
  ⟨hl, ha, by decide, by simp [gval, hv], ht⟩
theorem MulIn.step {x : Nat} {n R : List Nat} {P L i k c : Nat} (h : MulIn x n P L i k c R) (hx : x < B9) (hn : AllB n) (hk : k < n.length) (hL : i + n.length ≤ L) :
    MulIn x n P L i (k + 1) ((c + at0 R (i + k) + x * at0 n k) / B9) (R.set (i + k) ((c + at0 R (i + k) + x * at0 n k) % B9)) := by
  have hj : i + k < R.length := by rw [h.len]; omega
  have hb := (mul_bound h.cb (h.all.at0 (i + k)) hx (hn.at0 k)).1
  refine ⟨by rw [List.length_set]; exact h.len, h.all.set _ _ (Nat.mod_lt _ (by decide)), by rw [Nat.div_lt_iff_lt_mul (by decide)]; exact hb, ?_, fun j hjt => ?_⟩
  · have := mul_step hj h.val (x := x) (y := at0 n k) rfl
    rw [show i + (k + 1) = i + k + 1 by omega, this, gval_take_succ, Nat.mul_add, Nat.add_mul, Nat.pow_add, Nat.add_assoc]
    congr 2
    rw [Nat.mul_assoc, Nat.mul_assoc, Nat.mul_assoc, Nat.mul_comm (B9 ^ k) (B9 ^ i)]
  · rw [at0_set hj, if_neg (by omega)]; exact h.tail j hjt
/-- the carry is laid behind -/
theorem MulIn.done {x : Nat} {n R : List Nat} {P L i c : Nat} (h : MulIn x n P L i n.length c R) (hL : i + n.length < L) :
    (R.set (i + n.length) (at0 R (i + n.length) + c)).length = L ∧ AllB (R.set (i + n.length) (at0 R (i + n.length) + c)) ∧ gval (R.set (i + n.length) (at0 R (i + n.length) + c)) = P + x * gval n * B9 ^ i ∧ ∀ j, i + 1 + n.length ≤ j → at0 (R.set (i + n.length) (at0 R (i + n.length) + c)) j = 0 := by
  have hj : i + n.length < R.length := by rw [h.len]; exact hL
  have h0 := h.tail (i + n.length) (Nat.le_refl _)
  rw [h0, Nat.zero_add]
  refine ⟨by rw [List.length_set]; exact h.len, h.all.set _ _ h.cb, ?_, fun j hjt => ?_⟩
  · have h1 := gval_set (R := R) (j := i + n.length) c hj
    have h2 := h.val
    rw [h0, Nat.zero_mul, Nat.add_zero] at h1
    rw [List.take_length] at h2
    rw [h1, h2]
  · rw [at0_set hj, if_neg (by omega)]; exact h.tail j (by omega)
/-- where no carry is left, nothing is to be laid behind -/
theorem MulIn.done0 {x : Nat} {n R : List Nat} {P L i k : Nat} (h : MulIn x n P L i k 0 R) (hk : n.length ≤ k) : gval R = P + x * gval n * B9 ^ i := by
  have h2 := h.val
  rw [List.take_of_length_le hk] at h2
  simpa using h2
/-- the outer loop of a product -/
structure MulOut (m n : List Nat) (L i : Nat) (R : List Nat) : Prop where
  len : R.length = L
  all : AllB R
  val : gval R = gval (m.take i) * gval n
  tail : ∀ j, i + n.length ≤ j → at0 R j = 0
theorem MulOut.start (m n : List Nat) (L : Nat) : MulOut m n L 0 (List.replicate L 0) := by
  have h0 : ∀ j, at0 (List.replicate L 0) j = 0 := fun j => by
    unfold Go.Proofs.YtikehdbkiplleaaGreatDoor.at0; rw [List.getD_eq_getElem?_getD, List.getElem?_replicate]; split <;> rfl
  refine ⟨by simp, fun g hg => by rw [(List.mem_replicate.1 hg).2]; decide, ?_, fun j _ => h0 j⟩
  rw [gval_gsum _ _ (Nat.le_refl _), gsum_congr (g := fun _ => 0) (fun k _ => h0 k)]
  have : ∀ L, gsum (fun _ => 0) L = 0 := by
    intro L; induction L with
    | zero => rfl
    | succ L ih => unfold gsum; rw [ih]; simp
    
  rw [this]; simp [gval]
theorem MulOut.in_ {m n R : List Nat} {L i : Nat} (h : MulOut m n L i R) (x : Nat) : MulIn x n (gval (m.take i) * gval n) L i 0 0 R := MulIn.start h.len h.all h.val h.tail
theorem MulOut.next {m n R : List Nat} {L i : Nat} (hl : R.length = L) (ha : AllB R) (hv : gval R = gval (m.take i) * gval n + at0 m i * gval n * B9 ^ i) (ht : ∀ j, i + 1 + n.length ≤ j → at0 R j = 0) : MulOut m n L (i + 1) R := by
  refine ⟨hl, ha, ?_, ht⟩
  rw [hv, gval_take_succ, Nat.add_mul, Nat.mul_assoc, Nat.mul_assoc, Nat.mul_comm (gval n) (B9 ^ i)]
theorem MulOut.fin {m n R : List Nat} {L i : Nat} (h : MulOut m n L i R) (hi : m.length ≤ i) : cutL R = gr (gval m * gval n) := by
  rw [cutL_gr h.all, h.val, List.take_of_length_le hi]
end Go.Proofs.YtikehdbkiplleaaGreatDoor

/- Plain: quotients of numbers in groups of nine digits, step by step. No program in sight. -/
namespace Go.Proofs.YtikehdbkiplleaaGreatDoor
open Go.RowKit

theorem gval_drop (l : List Nat) (i : Nat) (h : i < l.length) : gval (l.drop i) = at0 l i + B9 * gval (l.drop (i + 1)) := by
  rw [List.drop_eq_getElem_cons h, at0_lt h]; rfl
theorem gval_split (l : List Nat) (i : Nat) (h : i ≤ l.length) : gval l = gval (l.take i) + B9 ^ i * gval (l.drop i) := by
  conv => lhs; rw [← List.take_append_drop i l]
  rw [gval_append, List.length_take, Nat.min_eq_left h]
/-- how a division by one group stands: the groups from i on are divided -/
structure SgAt (m : List Nat) (d i rest : Nat) (R : List Nat) : Prop where
  len : R.length = m.length
  all : AllB R
  rb : rest < d
  val : gval (m.drop i) = gval (R.drop i) * d + rest
theorem SgAt.start {m : List Nat} {d : Nat} (hd : 0 < d) (R : List Nat) (hl : R.length = m.length) (ha : AllB R) : SgAt m d m.length 0 R :=
  ⟨hl, ha, hd, by rw [List.drop_of_length_le (Nat.le_refl _), List.drop_of_length_le (by omega)]; simp [gval]⟩
theorem sg_bound {rest d x : Nat} (hr : rest < d) (hx : x < B9) : rest * B9 + x < d * B9 := by
  have h : (rest + 1) * B9 ≤ d * B9 := Nat.mul_le_mul_right _ hr
  rw [Nat.add_mul, Nat.one_mul] at h; omega
theorem SgAt.step {m R : List Nat} {d i rest : Nat} (h : SgAt m d (i + 1) rest R) (hm : AllB m) (hi : i < m.length) : SgAt m d i ((rest * B9 + at0 m i) % d) (R.set i ((rest * B9 + at0 m i) / d)) := by
  have hd : 0 < d := Nat.lt_of_le_of_lt (Nat.zero_le _) h.rb
  have hR : i < R.length := by rw [h.len]; exact hi
  have hb := sg_bound h.rb (hm.at0 i)
  refine ⟨by rw [List.length_set]; exact h.len, h.all.set _ _ (by rw [Nat.div_lt_iff_lt_mul hd, Nat.mul_comm B9 d]; exact hb), Nat.mod_lt _ hd, ?_⟩
  rw [gval_drop m i hi, h.val, gval_drop _ i (by rw [List.length_set]; exact hR), at0_set hR, if_pos rfl, List.drop_set_of_lt (by omega)]
  have h1 := Nat.mod_add_div (rest * B9 + at0 m i) d
  generalize (rest * B9 + at0 m i) / d = q at *
  generalize (rest * B9 + at0 m i) % d = r at *
  generalize gval (R.drop (i + 1)) = Q at *
  have h2 : B9 * (Q * d + rest) = B9 * Q * d + rest * B9 := by rw [Nat.mul_add, ← Nat.mul_assoc, Nat.mul_comm B9 rest]
  rw [h2, Nat.add_mul]
  have h3 : d * q = q * d := Nat.mul_comm _ _
  generalize B9 * Q * d = u at *
  generalize rest * B9 = v at *
  omega
theorem SgAt.fin {m R : List Nat} {d rest : Nat} (h : SgAt m d 0 rest R) : gval m / d = gval R ∧ gval m % d = rest ∧ cutL R = gr (gval m / d) := by
  have hd : 0 < d := Nat.lt_of_le_of_lt (Nat.zero_le _) h.rb
  have hv : gval m = gval R * d + rest := by simpa using h.val
  have h1 : gval m / d = gval R := by
    rw [hv, Nat.mul_comm, Nat.mul_add_div hd, Nat.div_eq_of_lt h.rb]; rfl
  have h2 : gval m % d = rest := by
    rw [hv, Nat.mul_comm, Nat.mul_add_mod, Nat.mod_eq_of_lt h.rb]
  exact ⟨h1, h2, by rw [cutL_gr h.all, h1]⟩

theorem drop_succ {a b : List Nat} {k : Nat} (h : a.drop k = b.drop k) : a.drop (k + 1) = b.drop (k + 1) := by
  have e : ∀ l : List Nat, l.drop (k + 1) = (l.drop k).drop 1 := fun l => by rw [List.drop_drop]
  rw [e, e, h]
/-- what is taken off: g times the groups below j of b, from i on -/
structure SubIn (g : Nat) (b a0 : List Nat) (i j bo : Nat) (a : List Nat) : Prop where
  len : a.length = a0.length
  all : AllB a
  bb : bo < B9
  val : gval a + g * gval (b.take j) * B9 ^ i = gval a0 + bo * B9 ^ (i + j)
  low : a.take i = a0.take i
  high : a.drop (i + j) = a0.drop (i + j)
theorem SubIn.start {g : Nat} {b a0 : List Nat} {i : Nat} (ha : AllB a0) : SubIn g b a0 i 0 0 a0 := ⟨rfl, ha, by decide, by simp [gval], rfl, rfl⟩
def subLess (g x bo : Nat) : Nat := (g * x + bo) % B9
def subBo (g x bo o : Nat) : Nat := (g * x + bo) / B9 + if o < subLess g x bo then 1 else 0
def subGr (g x bo o : Nat) : Nat := if o < subLess g x bo then o + B9 - subLess g x bo else o - subLess g x bo
theorem sub_bounds {g x bo o : Nat} (hg : g < B9) (hx : x < B9) (hb : bo < B9) (ho : o < B9) : subBo g x bo o < B9 ∧ subGr g x bo o < B9 ∧ g * x + bo < 1000000000000000000 ∧ subGr g x bo o + (g * x + bo) = o + subBo g x bo o * B9 := by
  have e : B9 = 1000000000 := rfl
  have h1 : g * x ≤ 999999999 * 999999999 := Nat.mul_le_mul (by omega) (by omega)
  unfold subBo subGr subLess
  rw [e] at hg hx hb ho ⊢
  generalize g * x = z at *
  split <;> omega
theorem SubIn.step {g : Nat} {b a0 a : List Nat} {i j bo : Nat} (h : SubIn g b a0 i j bo a) (hg : g < B9) (hb : AllB b) (hj : i + j < a0.length) :
    SubIn g b a0 i (j + 1) (subBo g (at0 b j) bo (at0 a (i + j))) (a.set (i + j) (subGr g (at0 b j) bo (at0 a (i + j)))) := by
  obtain ⟨h1, h2, _, h4⟩ := sub_bounds hg (hb.at0 j) h.bb (h.all.at0 (i + j))
  have hl : i + j < a.length := by rw [h.len]; exact hj
  refine ⟨by rw [List.length_set]; exact h.len, h.all.set _ _ h2, h1, ?_, by rw [List.take_set_of_le (by omega)]; exact h.low, by rw [show i + (j + 1) = i + j + 1 by omega, List.drop_set_of_lt (by omega), drop_succ h.high]⟩
  have h5 := gval_set (R := a) (j := i + j) (subGr g (at0 b j) bo (at0 a (i + j))) hl
  have h6 := h.val
  rw [gval_take_succ, Nat.mul_add, Nat.add_mul, show i + (j + 1) = i + j + 1 by omega, Nat.pow_succ]
  generalize hG : subGr g (at0 b j) bo (at0 a (i + j)) = G at *
  generalize hB : subBo g (at0 b j) bo (at0 a (i + j)) = Bo at *
  have h7 : g * (at0 b j * B9 ^ j) * B9 ^ i = g * at0 b j * B9 ^ (i + j) := by
    rw [Nat.pow_add, Nat.mul_assoc, Nat.mul_assoc, Nat.mul_assoc, Nat.mul_comm (B9 ^ j) (B9 ^ i)]
  rw [h7]
  have h8 : (G + (g * at0 b j + bo)) * B9 ^ (i + j) = (at0 a (i + j) + Bo * B9) * B9 ^ (i + j) := by rw [h4]
  rw [Nat.add_mul, Nat.add_mul, Nat.add_mul] at h8
  have h9 : Bo * (B9 ^ (i + j) * B9) = Bo * B9 * B9 ^ (i + j) := by rw [Nat.mul_comm (B9 ^ (i + j)) B9, ← Nat.mul_assoc]
  rw [h9]
  generalize B9 ^ (i + j) = p at *
  generalize g * gval (b.take j) * B9 ^ i = u0 at *
  generalize g * at0 b j * p = u1 at *
  generalize Bo * B9 * p = u2 at *
  generalize at0 a (i + j) * p = u3 at *
  generalize G * p = u4 at *
  generalize bo * p = u5 at *
  generalize gval (a.set (i + j) G) = u6 at *
  omega
/-- what is put back: the groups below j of b, from i on -/
structure AddIn (b a0 : List Nat) (i j ca : Nat) (a : List Nat) : Prop where
  len : a.length = a0.length
  all : AllB a
  cb : ca ≤ 1
  val : gval a + ca * B9 ^ (i + j) = gval a0 + gval (b.take j) * B9 ^ i
  low : a.take i = a0.take i
  high : a.drop (i + j) = a0.drop (i + j)
theorem AddIn.start {b a0 : List Nat} {i : Nat} (ha : AllB a0) : AddIn b a0 i 0 0 a0 := ⟨rfl, ha, by decide, by simp [gval], rfl, rfl⟩
theorem AddIn.step {b a0 a : List Nat} {i j ca : Nat} (h : AddIn b a0 i j ca a) (hb : AllB b) (hj : i + j < a0.length) :
    AddIn b a0 i (j + 1) ((at0 a (i + j) + (at0 b j + ca)) / B9) (a.set (i + j) ((at0 a (i + j) + (at0 b j + ca)) % B9)) := by
  have hl : i + j < a.length := by rw [h.len]; exact hj
  have b1 := h.all.at0 (i + j)
  have b2 := hb.at0 j
  have b3 := h.cb
  refine ⟨by rw [List.length_set]; exact h.len, h.all.set _ _ (Nat.mod_lt _ (by decide)), by have e : B9 = 1000000000 := rfl; rw [e] at b1 b2 ⊢; omega, ?_, by rw [List.take_set_of_le (by omega)]; exact h.low, by rw [show i + (j + 1) = i + j + 1 by omega, List.drop_set_of_lt (by omega), drop_succ h.high]⟩
  have h5 := gval_set (R := a) (j := i + j) ((at0 a (i + j) + (at0 b j + ca)) % B9) hl
  have h6 := h.val
  have h4 := Nat.mod_add_div (at0 a (i + j) + (at0 b j + ca)) B9
  rw [gval_take_succ, Nat.add_mul, show i + (j + 1) = i + j + 1 by omega, Nat.pow_succ]
  generalize (at0 a (i + j) + (at0 b j + ca)) % B9 = G at *
  generalize (at0 a (i + j) + (at0 b j + ca)) / B9 = Ca at *
  have h7 : at0 b j * B9 ^ j * B9 ^ i = at0 b j * B9 ^ (i + j) := by rw [Nat.pow_add, Nat.mul_assoc, Nat.mul_comm (B9 ^ j) (B9 ^ i)]
  rw [h7]
  have h8 : (G + B9 * Ca) * B9 ^ (i + j) = (at0 a (i + j) + (at0 b j + ca)) * B9 ^ (i + j) := by rw [h4]
  rw [Nat.add_mul, Nat.add_mul, Nat.add_mul] at h8
  have h9 : Ca * (B9 ^ (i + j) * B9) = B9 * Ca * B9 ^ (i + j) := by rw [Nat.mul_comm (B9 ^ (i + j)) B9, ← Nat.mul_assoc, Nat.mul_comm Ca B9]
  rw [h9]
  generalize B9 ^ (i + j) = p at *
  generalize gval (b.take j) * B9 ^ i = u0 at *
  generalize at0 b j * p = u1 at *
  generalize B9 * Ca * p = u2 at *
  generalize at0 a (i + j) * p = u3 at *
  generalize G * p = u4 at *
  generalize ca * p = u5 at *
  generalize gval (a.set (i + j) G) = u6 at *
  omega
/-- the guess out of the highest groups is the digit, or one more -/
theorem guess_ok {W y T D p low yl g : Nat} (hW : W = T * p + low) (hl : low < p) (hy : y = D * p + yl) (hyl : yl < p) (hD : B9 ≤ D) (hgB : g < B9) (hgT : g * D ≤ T) (hmax : g = B9 - 1 ∨ T < (g + 1) * D) (hWy : W < B9 * y) : W / y ≤ g ∧ g ≤ W / y + 1 := by
  have hp : 0 < p := Nat.lt_of_le_of_lt (Nat.zero_le _) hl
  have hD0 : 0 < D := Nat.lt_of_lt_of_le (by decide) hD
  have hy0 : 0 < y := by rw [hy]; exact Nat.lt_of_lt_of_le (Nat.mul_pos hD0 hp) (Nat.le_add_right _ _)
  constructor
  · rw [← Nat.lt_succ_iff, Nat.div_lt_iff_lt_mul hy0]
    rcases hmax with h | h
    · have e : B9 = 1000000000 := rfl
      have : g.succ = B9 := by omega
      rw [this]; exact hWy
    · have h1 : (T + 1) * p ≤ (g + 1) * D * p := Nat.mul_le_mul_right _ h
      have h2 : (g + 1) * D * p ≤ (g + 1) * y := by
        rw [Nat.mul_assoc]; exact Nat.mul_le_mul_left _ (by rw [hy]; exact Nat.le_add_right _ _)
      rw [Nat.add_mul, Nat.one_mul] at h1
      show W < (g + 1) * y
      omega
  · rcases Nat.eq_zero_or_pos g with h0 | h0
    · rw [h0]; exact Nat.zero_le _
    · obtain ⟨z, rfl⟩ : ∃ z, g = z + 1 := ⟨g - 1, by omega⟩
      suffices h : z * y ≤ W by
        exact Nat.succ_le_succ ((Nat.le_div_iff_mul_le hy0).2 h)
      have h1 : (z + 1) * D * p ≤ T * p := Nat.mul_le_mul_right _ hgT
      have h2 : z * yl ≤ D * p := by
        have a1 : z * yl ≤ z * p := Nat.mul_le_mul_left _ (by omega)
        have a2 : z * p ≤ D * p := Nat.mul_le_mul_right _ (by omega)
        omega
      rw [hy, Nat.mul_add, ← Nat.mul_assoc]
      rw [Nat.add_mul, Nat.one_mul, Nat.add_mul] at h1
      omega
/-- the guess of the loop that lowers it -/
structure GuessAt (top a2 b1 b2 z : Nat) : Prop where
  lt : z < B9
  le : z * b1 ≤ top
  max : z = B9 - 1 ∨ top * B9 + a2 < (z + 1) * (b1 * B9 + b2)
theorem GuessAt.start {top a2 b1 b2 : Nat} (ha : a2 < B9) (hb : 0 < b1) : GuessAt top a2 b1 b2 (min (top / b1) (B9 - 1)) := by
  have e : B9 = 1000000000 := rfl
  refine ⟨by omega, ?_, ?_⟩
  · exact Nat.le_trans (Nat.mul_le_mul_right _ (Nat.min_le_left _ _)) (Nat.div_mul_le_self _ _)
  · rcases Nat.lt_or_ge (top / b1) (B9 - 1) with h | h
    · right
      rw [Nat.min_eq_left (by omega)]
      have h1 : top + 1 ≤ (top / b1 + 1) * b1 := by
        have h2 := Nat.div_add_mod top b1
        have h3 := Nat.mod_lt top hb
        rw [Nat.add_mul, Nat.one_mul, Nat.mul_comm]; omega
      have h4 : (top + 1) * B9 ≤ (top / b1 + 1) * b1 * B9 := Nat.mul_le_mul_right _ h1
      rw [Nat.mul_add, ← Nat.mul_assoc]
      rw [Nat.add_mul, Nat.one_mul] at h4
      generalize (top / b1 + 1) * b1 * B9 = u at *
      generalize (top / b1 + 1) * b2 = v at *
      generalize top * B9 = t at *
      omega
    · left; omega
theorem guess_iff {top a2 b1 b2 z : Nat} (hle : z * b1 ≤ top) : z * b2 ≤ (top - z * b1) * B9 + a2 ↔ z * (b1 * B9 + b2) ≤ top * B9 + a2 := by
  rw [Nat.mul_add, ← Nat.mul_assoc, Nat.sub_mul]
  have h : z * b1 * B9 ≤ top * B9 := Nat.mul_le_mul_right _ hle
  generalize z * b1 * B9 = u at *
  generalize top * B9 = t at *
  generalize z * b2 = v at *
  omega
theorem GuessAt.fine {top a2 b1 b2 z : Nat} (h : GuessAt top a2 b1 b2 z) (hb : b2 < B9) (hc : B9 ≤ top - z * b1 ∨ z * b2 ≤ (top - z * b1) * B9 + a2) : z * (b1 * B9 + b2) ≤ top * B9 + a2 := by
  rw [← guess_iff h.le]
  rcases hc with hc | hc
  · have h1 : z * b2 ≤ B9 * B9 := Nat.mul_le_mul (Nat.le_of_lt h.lt) (Nat.le_of_lt hb)
    have h2 : B9 * B9 ≤ (top - z * b1) * B9 := Nat.mul_le_mul_right _ hc
    omega
  · exact hc
theorem GuessAt.down {top a2 b1 b2 z : Nat} (h : GuessAt top a2 b1 b2 z) (hc : ¬ z * b2 ≤ (top - z * b1) * B9 + a2) : 0 < z ∧ GuessAt top a2 b1 b2 (z - 1) := by
  have h0 : 0 < z := by
    rcases Nat.eq_zero_or_pos z with h0 | h0
    · subst h0; exact absurd (by simp) hc
    · exact h0
  refine ⟨h0, ⟨by have := h.lt; omega, Nat.le_trans (Nat.mul_le_mul_right _ (by omega)) h.le, .inr ?_⟩⟩
  rw [guess_iff h.le] at hc
  rw [show z - 1 + 1 = z by omega]; omega
end Go.Proofs.YtikehdbkiplleaaGreatDoor

/- Plain: one digit of a long division. No program in sight. -/
namespace Go.Proofs.YtikehdbkiplleaaGreatDoor
open Go.RowKit

theorem at0_drop (l : List Nat) (i j : Nat) : at0 (l.drop i) j = at0 l (i + j) := by
  unfold Go.Proofs.YtikehdbkiplleaaGreatDoor.at0; rw [List.getD_eq_getElem?_getD, List.getD_eq_getElem?_getD, List.getElem?_drop]
theorem AllB.drop {l : List Nat} (h : AllB l) (i : Nat) : AllB (l.drop i) := fun g hg => h g (List.mem_of_mem_drop hg)
theorem AllB.take {l : List Nat} (h : AllB l) (i : Nat) : AllB (l.take i) := fun g hg => h g (List.mem_of_mem_take hg)
theorem gval_take_lt {l : List Nat} (h : AllB l) {k : Nat} (hk : k ≤ l.length) : gval (l.take k) < B9 ^ k := by
  have := gval_lt (h.take k); rwa [List.length_take, Nat.min_eq_left hk] at this
theorem pow_pos9 (k : Nat) : 0 < B9 ^ k := Nat.pow_pos (by decide)
/-- a divisor: at least two groups, the highest one not 0 -/
structure Dvr (b : List Nat) : Prop where
  two : 2 ≤ b.length
  all : AllB b
  top : 0 < at0 b (b.length - 1)
theorem Dvr.parts {b : List Nat} (h : Dvr b) : gval b = (at0 b (b.length - 1) * B9 + at0 b (b.length - 2)) * B9 ^ (b.length - 2) + gval (b.take (b.length - 2)) ∧ gval (b.take (b.length - 2)) < B9 ^ (b.length - 2) := by
  have h2 := h.two
  refine ⟨?_, gval_take_lt h.all (by omega)⟩
  have h1 : gval (b.drop (b.length - 2)) = at0 b (b.length - 1) * B9 + at0 b (b.length - 2) := by
    rw [gval_drop b _ (by omega), show b.length - 2 + 1 = b.length - 1 by omega, gval_drop b _ (by omega), show b.length - 1 + 1 = b.length by omega, List.drop_length]
    show _ + B9 * (_ + B9 * 0) = _
    rw [Nat.mul_zero, Nat.add_zero, Nat.mul_comm B9]; omega
  rw [gval_split b (b.length - 2) (by omega), h1, Nat.mul_comm (B9 ^ (b.length - 2))]; omega
theorem Dvr.pos {b : List Nat} (h : Dvr b) : 0 < gval b := by
  have h1 := h.parts.1
  have h2 : 0 < (at0 b (b.length - 1) * B9 + at0 b (b.length - 2)) * B9 ^ (b.length - 2) := Nat.mul_pos (by have := h.top; have e : B9 = 1000000000 := rfl; rw [e]; omega) (pow_pos9 _)
  omega
theorem Dvr.lt {b : List Nat} (h : Dvr b) : gval b < B9 ^ b.length := gval_lt h.all
/-- how a long division stands: the digits from i on are found -/
structure KnAt (A0 : Nat) (b : List Nat) (La i : Nat) (a q : List Nat) : Prop where
  la : a.length = La
  alla : AllB a
  lq : q.length = La - b.length
  allq : AllB q
  val : A0 = gval (q.drop i) * gval b * B9 ^ i + gval a
  rest : gval (a.drop i) < gval b
section
variable {A0 La i : Nat} {b a q : List Nat}
/-- the window of the next digit -/
theorem KnAt.win (h : KnAt A0 b La (i + 1) a q) (hi : i + b.length < La) : gval (a.drop i) < B9 * gval b := by
  rw [gval_drop a i (by rw [h.la]; omega)]
  have h1 := h.alla.at0 i
  have h2 : B9 * (gval (a.drop (i + 1)) + 1) ≤ B9 * gval b := Nat.mul_le_mul_left _ h.rest
  rw [Nat.mul_add, Nat.mul_one] at h2; omega
/-- its groups above the highest one are 0 -/
theorem win_high {a : List Nat} {i k y : Nat} (_ha : AllB a) (hk : i + k < a.length) (hy : y < B9 ^ k) (hw : gval (a.drop i) < B9 * y) : gval (a.drop (i + k + 1)) = 0 := by
  have h1 := gval_split (a.drop i) (k + 1) (by rw [List.length_drop]; omega)
  rw [List.drop_drop, show i + (k + 1) = i + k + 1 by omega] at h1
  have h2 : B9 * y < B9 ^ (k + 1) := by rw [Nat.pow_succ, Nat.mul_comm]; exact Nat.mul_lt_mul_of_pos_right hy (by decide)
  rcases Nat.eq_zero_or_pos (gval (a.drop (i + k + 1))) with h0 | h0
  · exact h0
  · exfalso
    have h3 : B9 ^ (k + 1) * 1 ≤ B9 ^ (k + 1) * gval (a.drop (i + k + 1)) := Nat.mul_le_mul_left _ h0
    omega
theorem win_top {a : List Nat} {i k : Nat} (hk : i + k < a.length) (hz : gval (a.drop (i + k + 1)) = 0) : gval (a.drop i) = gval ((a.drop i).take k) + at0 a (i + k) * B9 ^ k := by
  rw [gval_split (a.drop i) k (by rw [List.length_drop]; omega), List.drop_drop, gval_drop a (i + k) hk, hz]
  rw [Nat.mul_zero, Nat.add_zero, Nat.mul_comm (B9 ^ k)]
/-- the window by its three highest groups -/
theorem KnAt.three (h : KnAt A0 b La (i + 1) a q) (hb : Dvr b) (hi : i + b.length < La) :
    gval (a.drop i) = ((at0 a (i + b.length) * B9 + at0 a (i + b.length - 1)) * B9 + at0 a (i + b.length - 2)) * B9 ^ (b.length - 2) + gval ((a.drop i).take (b.length - 2)) ∧ gval ((a.drop i).take (b.length - 2)) < B9 ^ (b.length - 2) := by
  have h2 := hb.two
  have hla := h.la
  refine ⟨?_, gval_take_lt (h.alla.drop i) (by rw [List.length_drop]; omega)⟩
  have hz := win_high h.alla (by rw [hla]; exact hi) hb.lt (h.win hi)
  have h1 : gval (a.drop (i + (b.length - 2))) = (at0 a (i + b.length) * B9 + at0 a (i + b.length - 1)) * B9 + at0 a (i + b.length - 2) := by
    rw [gval_drop a _ (by omega), show i + (b.length - 2) + 1 = i + b.length - 1 by omega, gval_drop a _ (by omega), show i + b.length - 1 + 1 = i + b.length by omega, gval_drop a _ (by omega), hz, show i + (b.length - 2) = i + b.length - 2 by omega, Nat.mul_zero, Nat.add_zero]
    generalize at0 a (i + b.length) = x
    generalize at0 a (i + b.length - 1) = y
    generalize at0 a (i + b.length - 2) = z
    have e : B9 = 1000000000 := rfl
    rw [e]; omega
  rw [gval_split (a.drop i) (b.length - 2) (by rw [List.length_drop]; omega), List.drop_drop, h1, Nat.mul_comm (B9 ^ (b.length - 2))]; omega
/-- the guess is the digit, or one more -/
theorem KnAt.guess (h : KnAt A0 b La (i + 1) a q) (hb : Dvr b) (hi : i + b.length < La) {z : Nat} (hg : GuessAt (at0 a (i + b.length) * B9 + at0 a (i + b.length - 1)) (at0 a (i + b.length - 2)) (at0 b (b.length - 1)) (at0 b (b.length - 2)) z)
    (hf : z * (at0 b (b.length - 1) * B9 + at0 b (b.length - 2)) ≤ (at0 a (i + b.length) * B9 + at0 a (i + b.length - 1)) * B9 + at0 a (i + b.length - 2)) : gval (a.drop i) / gval b ≤ z ∧ z ≤ gval (a.drop i) / gval b + 1 := by
  obtain ⟨w1, w2⟩ := h.three hb hi
  obtain ⟨y1, y2⟩ := hb.parts
  exact guess_ok w1 w2 y1 y2 (by have := hb.top; have e : B9 = 1000000000 := rfl; rw [e]; omega) hg.lt hf hg.max (h.win hi)
/-- what one digit leaves -/
theorem KnAt.put (h : KnAt A0 b La (i + 1) a q) (_hb : Dvr b) (hi : i + b.length < La) {a' : List Nat} {e : Nat} (hl : a'.length = La) (ha : AllB a') (he : e < B9) (hlow : a'.take i = a.take i) (hv : gval (a'.drop i) + e * gval b = gval (a.drop i)) (hr : gval (a'.drop i) < gval b) : KnAt A0 b La i a' (q.set i e) := by
  have hla := h.la
  have hlq := h.lq
  have hq : i < q.length := by omega
  refine ⟨hl, ha, by rw [List.length_set]; exact hlq, h.allq.set _ _ he, ?_, hr⟩
  have h1 := gval_split a i (by omega)
  have h2 := gval_split a' i (by omega)
  rw [hlow] at h2
  rw [gval_drop _ i (by rw [List.length_set]; exact hq), at0_set hq, if_pos rfl, List.drop_set_of_lt (by omega), h.val, h1, h2, ← hv, Nat.pow_succ]
  generalize gval (q.drop (i + 1)) = Q at *
  generalize gval b = y at *
  generalize gval (a.take i) = L at *
  generalize gval (a'.drop i) = W' at *
  generalize B9 ^ i = p at *
  have e1 : (e + B9 * Q) * y * p = p * (e * y) + Q * y * (p * B9) := by
    rw [Nat.add_mul, Nat.add_mul, Nat.mul_comm (e * y) p]
    congr 1
    rw [Nat.mul_comm B9 Q, Nat.mul_assoc, Nat.mul_assoc, Nat.mul_assoc, Nat.mul_left_comm B9 y p, Nat.mul_comm B9 p]
  rw [e1, Nat.mul_add]; omega
end
theorem pow_cancel {p x y : Nat} (hp : 0 < p) {L : Nat} (h : L + p * x = L + p * y) : x = y := Nat.eq_of_mul_eq_mul_left hp (by omega)
/-- the digit was right -/
theorem KnAt.right {A0 La i : Nat} {b a q a1 : List Nat} {g bo : Nat} (h : KnAt A0 b La (i + 1) a q) (hb : Dvr b) (hi : i + b.length < La) (hs : SubIn g b a i b.length bo a1) (hg : g < B9) (hge : gval (a.drop i) / gval b ≤ g) (ht : bo ≤ at0 a (i + b.length)) :
    KnAt A0 b La i (a1.set (i + b.length) (at0 a (i + b.length) - bo)) (q.set i g) ∧ at0 a1 (i + b.length) = at0 a (i + b.length) := by
  have hla := h.la
  have hl1 : i + b.length < a1.length := by rw [hs.len, hla]; exact hi
  have hat : at0 a1 (i + b.length) = at0 a (i + b.length) := by
    have h1 := at0_drop a1 (i + b.length) 0
    have h2 := at0_drop a (i + b.length) 0
    rw [hs.high] at h1
    rw [Nat.add_zero] at h1 h2; rw [← h1, ← h2]
  have hb0 := hb.pos
  have e1 := gval_set (R := a1) (j := i + b.length) (at0 a (i + b.length) - bo) hl1
  have e2 := hs.val
  rw [List.take_length] at e2
  rw [hat] at e1
  have hlow : (a1.set (i + b.length) (at0 a (i + b.length) - bo)).take i = a.take i := by rw [List.take_set_of_le (by omega)]; exact hs.low
  have s1 := gval_split a i (by omega)
  have s2 := gval_split (a1.set (i + b.length) (at0 a (i + b.length) - bo)) i (by rw [List.length_set]; omega)
  rw [hlow] at s2
  have key : gval ((a1.set (i + b.length) (at0 a (i + b.length) - bo)).drop i) + g * gval b = gval (a.drop i) := by
    apply pow_cancel (pow_pos9 i) (L := gval (a.take i))
    rw [Nat.mul_add]
    have c1 : (at0 a (i + b.length) - bo) * B9 ^ (i + b.length) + bo * B9 ^ (i + b.length) = at0 a (i + b.length) * B9 ^ (i + b.length) := by rw [← Nat.add_mul, Nat.sub_add_cancel ht]
    have c2 : B9 ^ i * (g * gval b) = g * gval b * B9 ^ i := Nat.mul_comm _ _
    rw [c2]
    generalize g * gval b * B9 ^ i = u1 at *
    generalize at0 a (i + b.length) * B9 ^ (i + b.length) = u2 at *
    generalize (at0 a (i + b.length) - bo) * B9 ^ (i + b.length) = u3 at *
    generalize bo * B9 ^ (i + b.length) = u4 at *
    generalize gval (a1.set (i + b.length) (at0 a (i + b.length) - bo)) = u5 at *
    generalize B9 ^ i * gval ((a1.set (i + b.length) (at0 a (i + b.length) - bo)).drop i) = u6 at *
    omega
  have hq : g = gval (a.drop i) / gval b := by
    apply Nat.le_antisymm
    · exact (Nat.le_div_iff_mul_le hb0).2 (by omega)
    · exact hge
  refine ⟨h.put hb hi (by rw [List.length_set, hs.len, hla]) (hs.all.set _ _ (by have := h.alla.at0 (i + b.length); omega)) hg hlow key ?_, hat⟩
  have hm := Nat.mod_lt (gval (a.drop i)) hb0
  have hd := Nat.div_add_mod (gval (a.drop i)) (gval b)
  rw [← hq, Nat.mul_comm] at hd
  omega
/-- the digit was one too many: the divisor is put back -/
theorem KnAt.wrong {A0 La i : Nat} {b a q a1 a2 : List Nat} {g bo ca : Nat} (h : KnAt A0 b La (i + 1) a q) (hb : Dvr b) (hi : i + b.length < La) (hs : SubIn g b a i b.length bo a1) (hd : AddIn b a1 i b.length ca a2) (hg : g < B9) (hle : g ≤ gval (a.drop i) / gval b + 1) (ht : at0 a (i + b.length) < bo) :
    0 < g ∧ at0 a (i + b.length) + ca = bo ∧ at0 a2 (i + b.length) = at0 a (i + b.length) ∧ KnAt A0 b La i (a2.set (i + b.length) 0) (q.set i (g - 1)) := by
  have hla := h.la
  have hl1 : i + b.length < a1.length := by rw [hs.len, hla]; exact hi
  have hl2 : i + b.length < a2.length := by rw [hd.len]; exact hl1
  have hb0 := hb.pos
  have hbl := hb.lt
  have hP := pow_pos9 b.length
  have hz := win_high h.alla (by rw [hla]; exact hi) hb.lt (h.win hi)
  have hhigh : a2.drop (i + b.length) = a.drop (i + b.length) := hd.high.trans hs.high
  have at1 : at0 a1 (i + b.length) = at0 a (i + b.length) := by
    have h1 := at0_drop a1 (i + b.length) 0
    have h2 := at0_drop a (i + b.length) 0
    rw [hs.high] at h1
    rw [Nat.add_zero] at h1 h2; rw [← h1, ← h2]
  have at2 : at0 a2 (i + b.length) = at0 a (i + b.length) := by
    have h1 := at0_drop a2 (i + b.length) 0
    have h2 := at0_drop a (i + b.length) 0
    rw [hhigh] at h1
    rw [Nat.add_zero] at h1 h2; rw [← h1, ← h2]
  have hz1 : gval (a1.drop (i + b.length + 1)) = 0 := by rw [drop_succ hs.high]; exact hz
  have hz2 : gval (a2.drop (i + b.length + 1)) = 0 := by rw [drop_succ hhigh]; exact hz
  have t0 := win_top (a := a) (i := i) (k := b.length) (by omega) hz
  have t1 := win_top (a := a1) (i := i) (k := b.length) hl1 hz1
  have t2 := win_top (a := a2) (i := i) (k := b.length) hl2 hz2
  rw [at1] at t1
  rw [at2] at t2
  have v1 : gval ((a1.drop i).take b.length) < B9 ^ b.length := gval_take_lt (hs.all.drop i) (by rw [List.length_drop]; omega)
  have v2 : gval ((a2.drop i).take b.length) < B9 ^ b.length := gval_take_lt (hd.all.drop i) (by rw [List.length_drop]; omega)
  -- the two equations, by windows
  have E1 : gval (a1.drop i) + g * gval b = gval (a.drop i) + bo * B9 ^ b.length := by
    apply pow_cancel (pow_pos9 i) (L := gval (a.take i))
    have s0 := gval_split a i (by omega)
    have s1 := gval_split a1 i (by omega)
    have e2 := hs.val
    rw [List.take_length, Nat.pow_add] at e2
    rw [hs.low] at s1
    rw [Nat.mul_add, Nat.mul_add]
    have c2 : B9 ^ i * (g * gval b) = g * gval b * B9 ^ i := Nat.mul_comm _ _
    have c3 : B9 ^ i * (bo * B9 ^ b.length) = bo * (B9 ^ i * B9 ^ b.length) := Nat.mul_left_comm _ _ _
    rw [c2, c3]; omega
  have E2 : gval (a2.drop i) + ca * B9 ^ b.length = gval (a1.drop i) + gval b := by
    apply pow_cancel (pow_pos9 i) (L := gval (a.take i))
    have s1 := gval_split a1 i (by omega)
    have s2 := gval_split a2 i (by omega)
    have e2 := hd.val
    rw [List.take_length, Nat.pow_add] at e2
    rw [hs.low] at s1
    rw [hd.low, hs.low] at s2
    rw [Nat.mul_add, Nat.mul_add]
    have c2 : B9 ^ i * gval b = gval b * B9 ^ i := Nat.mul_comm _ _
    have c3 : B9 ^ i * (ca * B9 ^ b.length) = ca * (B9 ^ i * B9 ^ b.length) := Nat.mul_left_comm _ _ _
    rw [c2, c3]; omega
  -- more was taken than there was
  have hbo : (at0 a (i + b.length) + 1) * B9 ^ b.length ≤ bo * B9 ^ b.length := Nat.mul_le_mul_right _ ht
  rw [Nat.add_mul, Nat.one_mul] at hbo
  have hgt : gval (a.drop i) < g * gval b := by
    rw [t0]; rw [t0, t1] at E1; omega
  have hg1 : g = gval (a.drop i) / gval b + 1 := by
    apply Nat.le_antisymm hle
    have : gval (a.drop i) / gval b < g := (Nat.div_lt_iff_lt_mul hb0).2 hgt
    exact this
  have hg0 : 0 < g := by rw [hg1]; exact Nat.succ_pos _
  obtain ⟨z, rfl⟩ : ∃ z, g = z + 1 := ⟨g - 1, by omega⟩
  have hz3 : z = gval (a.drop i) / gval b := Nat.succ.inj hg1
  have hm := Nat.mod_lt (gval (a.drop i)) hb0
  have hdm := Nat.div_add_mod (gval (a.drop i)) (gval b)
  rw [← hz3, Nat.mul_comm] at hdm
  rw [Nat.add_mul, Nat.one_mul] at E1
  generalize hr : gval (a.drop i) % gval b = r at *
  have E3 : gval ((a2.drop i).take b.length) + (at0 a (i + b.length) + ca) * B9 ^ b.length = r + bo * B9 ^ b.length := by
    rw [Nat.add_mul]; omega
  have htc : at0 a (i + b.length) + ca = bo := by
    have d1 : (gval ((a2.drop i).take b.length) + (at0 a (i + b.length) + ca) * B9 ^ b.length) / B9 ^ b.length = at0 a (i + b.length) + ca := by
      rw [Nat.add_mul_div_right _ _ hP, Nat.div_eq_of_lt v2, Nat.zero_add]
    have d2 : (r + bo * B9 ^ b.length) / B9 ^ b.length = bo := by
      rw [Nat.add_mul_div_right _ _ hP, Nat.div_eq_of_lt (by omega), Nat.zero_add]
    rw [← d1, E3, d2]
  have hv2 : gval ((a2.drop i).take b.length) = r := by rw [htc] at E3; omega
  have hl3 : (a2.set (i + b.length) 0).length = La := by rw [List.length_set, hd.len, hs.len, hla]
  have hdr : (a2.set (i + b.length) 0).drop i = (a2.drop i).set b.length 0 := by
    rw [List.drop_set, if_neg (by omega), show i + b.length - i = b.length by omega]
  have hwn : gval ((a2.set (i + b.length) 0).drop i) = r := by
    have hz4 : gval ((a2.set (i + b.length) 0).drop (i + b.length + 1)) = 0 := by rw [List.drop_set_of_lt (by omega)]; exact hz2
    rw [win_top (a := a2.set (i + b.length) 0) (i := i) (k := b.length) (by rw [List.length_set]; exact hl2) hz4, at0_set hl2, if_pos rfl, Nat.zero_mul, Nat.add_zero, hdr, List.take_set_of_le (Nat.le_refl _), hv2]
  refine ⟨hg0, htc, at2, h.put hb hi hl3 (hd.all.set _ _ (by decide)) (by omega) (by rw [List.take_set_of_le (by omega), hd.low, hs.low]) ?_ (by rw [hwn]; exact hm)⟩
  rw [hwn, Nat.add_sub_cancel]; omega
theorem KnAt.start {A0 La : Nat} {b a q : List Nat} (hb : Dvr b) (hl : a.length = La) (ha : AllB a) (hq : q.length = La - b.length) (hqa : AllB q) (hv : gval a = A0) (_hLa : b.length ≤ La) (hr : gval (a.drop (La - b.length)) < gval b) : KnAt A0 b La (La - b.length) a q := by
  have := hb.two
  exact ⟨hl, ha, hq, hqa, by rw [List.drop_of_length_le (by omega), hv]; simp [gval], hr⟩
theorem KnAt.fin {A0 La : Nat} {b a q : List Nat} (h : KnAt A0 b La 0 a q) (hb : Dvr b) (hLa : b.length ≤ La) : A0 / gval b = gval q ∧ A0 % gval b = gval a ∧ gval (a.take b.length) = gval a := by
  have hv : A0 = gval q * gval b + gval a := by simpa using h.val
  have hr : gval a < gval b := by simpa using h.rest
  have hb0 := hb.pos
  refine ⟨?_, ?_, ?_⟩
  · rw [hv, Nat.mul_comm, Nat.mul_add_div hb0, Nat.div_eq_of_lt hr]; rfl
  · rw [hv, Nat.mul_comm, Nat.mul_add_mod, Nat.mod_eq_of_lt hr]
  · have hs := gval_split a b.length (by rw [h.la]; exact hLa)
    have hbl := hb.lt
    rcases Nat.eq_zero_or_pos (gval (a.drop b.length)) with h0 | h0
    · rw [h0] at hs; omega
    · exfalso
      have : B9 ^ b.length * 1 ≤ B9 ^ b.length * gval (a.drop b.length) := Nat.mul_le_mul_left _ h0
      omega
end Go.Proofs.YtikehdbkiplleaaGreatDoor

/- The walk over the program's product of magnitudes. -/
namespace Go.Proofs.YtikehdbkiplleaaGreatDoor
open Go.RowKit
attribute [local go_sem] size_bs toList_bs

def OwnMag (n : Nat) (w : World) (e : Ending) (w' : World) : Prop :=
  ∃ A c, e = .returned (.slice A (gr n).length c) ∧ w'.ownsRow w.heap.size 114 1 (.slice A (gr n).length c) (gr n).length (ucells (gr n)) ∧ Ext w w'
theorem OwnMag.mag {n : Nat} {w : World} {e : Ending} {w' : World} (h : OwnMag n w e w') : MagEnds n w e w' := by
  obtain ⟨A, c, rfl, ho, hx⟩ := h
  exact ⟨A, c, rfl, Reads.own ho, hx, (own_cap ho).1, (own_cap ho).2⟩
theorem ucells_rep (n : Nat) : ucells (List.replicate n 0) = List.replicate n (.int .u64 0) := by simp [ucells]
/-- a new slice of n groups, all 0 -/
theorem makeU (n c : Nat) (w : World) (hc : n = c) (hn : n ≤ 3000000) : ∃ W, (Instr.makeSlice 79 (.int .i64 (n : Int)) (.int .i64 (n : Int))).run Tryz.prog w = .ok (.slice (some ⟨w.heap.size, 0, none⟩) n n) W ∧ RowU W w.heap.size n (List.replicate n 0) ∧ Ext w W := by
  obtain ⟨i0, hI, hz0, hz1, hz2⟩ := info_parts u64Info
  have h := run_make (P := Tryz.prog) w 79 114 i0 _ Tryz.underlying79 hI hz0 .i64 .i64 (n : Int) (n : Int) (by omega) (by omega) (by rw [hz2]; omega) (by omega)
  rw [hz1, Int.toNat_natCast, Nat.mul_one] at h
  refine ⟨_, h, ⟨List.replicate n (.int .u64 0), ?_, by rw [ucells_rep]; simp, by simp, by unfold maxLen; simp; omega, by simp, by rw [ucells_rep]; simp⟩, Ext.new _ _⟩
  have hb := Blk.new w 114 (madeCells #[.int .u64 0] n)
  have e : madeCells (Value.int .u64 0).cells n = (List.replicate n (Value.int .u64 0)).toArray := by
    rw [← toList_madeCells_one]; rfl
  rw [e]; exact Blk.new _ _ _
/-- the front of a row, cut -/
theorem RowU.cutOwn {w : World} {g cap : Nat} {R : List Nat} {base : Nat} (h : RowU w g cap R) (hb : base ≤ g) : w.ownsRow base 114 1 (.slice (some ⟨g, 0, none⟩) (cutL R).length cap) (cutL R).length (ucells (cutL R)) := by
  obtain ⟨cur, h⟩ := h
  have hp := cutL_prefix R
  have hl := cutL_le R
  refine ⟨by simp [ucells], .inr ⟨g, cap, cur.toArray, rfl, hb, h.blk, by have := h.le; omega, h.big, by simpa using h.full, ?_⟩⟩
  have ht := h.take
  rw [Nat.mul_one] at ht ⊢
  have : (cur.take R.length).take (cutL R).length = (ucells R).take (cutL R).length := by rw [ht]
  rw [List.take_take, Nat.min_eq_left hl] at this
  show cur.take _ = _
  rw [this]
  conv => rhs; rw [hp]
  simp [ucells, List.map_take]
theorem RowU.at0 {w : World} {g cap : Nat} {R : List Nat} (h : RowU w g cap R) {k : Nat} (hk : k < R.length) : w.cell? ⟨g, k, none⟩ = some (.int .u64 (at0 R k : Nat)) := by
  rw [at0_lt hk]; exact h.cell (List.getElem?_eq_getElem hk)
theorem mulI {x y : Nat} (hx : x < B9) (hy : y < B9) : 0 ≤ (x : Int) * (y : Int) ∧ (x : Int) * (y : Int) ≤ 999999998000000001 := by
  have h1 : x * y ≤ 999999999 * 999999999 := Nat.mul_le_mul (by have e : B9 = 1000000000 := rfl; omega) (by have e : B9 = 1000000000 := rfl; omega)
  rw [← Int.natCast_mul]; omega
theorem mulQ (c o x y : Nat) : ((c : Int) + ((o : Int) + (x : Int) * (y : Int))) / 1000000000 = (((c + o + x * y) / B9 : Nat) : Int) ∧ ((c : Int) + ((o : Int) + (x : Int) * (y : Int))) % 1000000000 = (((c + o + x * y) % B9 : Nat) : Int) := by
  have e : B9 = 1000000000 := rfl
  rw [← Int.natCast_mul, e]
  generalize x * y = z
  omega
set_option maxRecDepth 100000 in
set_option maxHeartbeats 1000000 in
theorem intTimes (x y : Nat) (A A' : Option Addr) (c c' : Nat) (w : World) (hA : RdU w A (gr x)) (hA' : RdU w A' (gr y)) (hn : (gr x).length ≤ 1000000) (hn' : (gr y).length ≤ 1000000) :
    Calls Tryz.prog 140 #[.slice A (gr x).length c, .slice A' (gr y).length c'] w (OwnMag (x * y) w) := by
  have HA := Lib.hid hA
  have HA' := Lib.hid hA'
  have HBX : Hid (AllB (gr x)) := Lib.hid (gr_lt x)
  have HBY : Hid (AllB (gr y)) := Lib.hid (gr_lt y)
  have HVX := Lib.hid (gval_gr x)
  have HVY := Lib.hid (gval_gr y)
  generalize gr x = gx at *
  generalize gr y = gy at *
  clear hA hA'
  obtain ⟨W, hmk, hrow, hxW⟩ := makeU (gx.length + gy.length) _ w rfl (by omega)
  rw [Int.natCast_add] at hmk
  have HROW := Lib.hid hrow
  have HXW := Lib.hid hxW
  clear hrow hxW
  go_enter Tryz.func140, Tryz.ntmps140
  go_wp2_with fail
  clear hmk
  go_loopw [19, 6, 7, 8, 9, 10] (fun i _ _ _ _ _ wr => ∃ (k : Nat) (R : List Nat), k ≤ gx.length ∧ i = .int .i64 k ∧ RowU wr w.heap.size (gx.length + gy.length) R ∧ MulOut gx gy (gx.length + gy.length) k R ∧ Ext w wr) (fun i _ _ _ _ _ _ => gx.length - (intOf i).toNat)
  case atStart => exact ⟨0, _, by omega, rfl, HROW.out, MulOut.start _ _ _, HXW.out⟩
  case round =>
    clear HROW HXW
    obtain ⟨i, R, hi, rfl, hrow, hmo, hx⟩ := hrel
    have HR := Lib.hid hrow
    have HM := Lib.hid hmo
    have HX := Lib.hid hx
    clear hrow hmo hx
    by_cases hlt : i < gx.length
    · obtain ⟨b, o, rfl, hb, hcx⟩ := (HA.out.ext HX.out).at_ hlt
      rw [← at0_lt hlt] at hcx
      have hbx := HBX.out.at0 i
      have HIN := Lib.hid (HM.out.in_ (at0 gx i))
      have HNX := Lib.hid (fun R' => MulOut.next (m := gx) (n := gy) (R := R') (L := gx.length + gy.length) (i := i))
      generalize at0 gx i = xi at *
      obtain ⟨wo, rfl⟩ : ∃ wo : World, wo = wr := ⟨_, rfl⟩
      go_wp2_with fail
      clear hcx
      go_loopw [26, 8, 9, 10] (fun vk vc _ _ wr => ∃ (k ca : Nat) (R : List Nat), k ≤ gy.length ∧ vk = .int .i64 k ∧ vc = .int .u64 ca ∧ RowU wr w.heap.size (gx.length + gy.length) R ∧ MulIn xi gy (gval (gx.take i) * gval gy) (gx.length + gy.length) i k ca R ∧ Ext w wr) (fun vk _ _ _ _ => gy.length - (intOf vk).toNat)
      case atStart => exact ⟨0, 0, R, by omega, rfl, rfl, HR.out, HIN.out, HX.out⟩
      case round =>
        clear HR HM HX HIN
        obtain ⟨k, ca, R, hk, rfl, rfl, hrow, hmi, hx⟩ := hrel
        have HR := Lib.hid hrow
        have HM := Lib.hid hmi
        have HX := Lib.hid hx
        have hRl := hmi.len
        have hcb := hmi.cb
        clear hrow hmi hx
        by_cases hltk : k < gy.length
        · obtain ⟨b', o', rfl, hb', hcy⟩ := (HA'.out.ext HX.out).at_ hltk
          rw [← at0_lt hltk] at hcy
          have hby := HBY.out.at0 k
          have hcr := HR.out.at0 (k := i + k) (by omega)
          have hfr := HR.out.frozen (i + k)
          have hor := HM.out.all.at0 (i + k)
          have HST := Lib.hid (HM.out.step hbx HBY.out hltk (by omega))
          have HRS := Lib.hid (fun v z hz => HR.out.put (i + k) z v (by omega) hz)
          generalize at0 gy k = yk at *
          generalize at0 R (i + k) = ok at *
          obtain ⟨hm0, hm1⟩ := mulI hbx hby
          have e9 : B9 = 1000000000 := rfl
          rw [e9] at hcb hor
          clear e9
          have hik : ((i : Int) + (k : Int)).toNat = i + k := by omega
          go_wp2_with fail
          obtain ⟨hq, hr⟩ := mulQ ca ok xi yk
          exact ⟨⟨k + 1, _, _, by omega, by go_num, by rw [hq], HRS.out _ _ hr, HST.out, HX.out.setCell (p := ⟨w.heap.size, i + k, none⟩) (Nat.le_refl _) _⟩, by simp [intOf]; omega⟩
        · have hkl : k = gy.length := by omega
          subst hkl
          clear hltk hk
          rcases Nat.eq_zero_or_pos gy.length with h0 | h0
          · have HNR : Hid (MulOut gx gy (gx.length + gy.length) (i + 1) R) := Lib.hid (HNX.out R hRl HM.out.all (by
              have hgy : gy = [] := List.length_eq_zero_iff.1 h0
              have hv := HM.out.val
              rw [hgy] at hv ⊢
              simp only [List.take_nil, show gval [] = 0 from rfl, Nat.mul_zero, Nat.zero_mul, Nat.add_zero] at hv ⊢
              omega) (fun j hj => HM.out.tail j (by omega)))
            have hz : ¬ ((0 : Int) < (gy.length : Int)) := by omega
            have hz2 : ¬ (0 < gy.length) := by omega
            clear h0
            go_wp2_with fail
            exact ⟨⟨i + 1, R, by omega, by go_num, HR.out, HNR.out, HX.out⟩, by simp [intOf]; omega⟩
          · have hcr := HR.out.at0 (k := i + gy.length) (by omega)
            have hfr := HR.out.frozen (i + gy.length)
            have hor := HM.out.all.at0 (i + gy.length)
            obtain ⟨d1, d2, d3, d4⟩ := HM.out.done (by omega)
            have HNR := Lib.hid (HNX.out _ d1 d2 d3 d4)
            have HRS := Lib.hid (fun v z hz => HR.out.put (i + gy.length) z v (by omega) hz)
            clear d1 d2 d3 d4
            generalize at0 R (i + gy.length) = ok at *
            have e9 : B9 = 1000000000 := rfl
            rw [e9] at hcb hor
            clear e9
            have hik : ((i : Int) + (gy.length : Int)).toNat = i + gy.length := by omega
            go_wp2_with fail
            exact ⟨⟨i + 1, _, by omega, by go_num, HRS.out _ _ (by omega), HNR.out, HX.out.setCell (p := ⟨w.heap.size, i + gy.length, none⟩) (Nat.le_refl _) _⟩, by simp [intOf]; omega⟩
    · have hil : i = gx.length := by omega
      subst hil
      have HCF : Hid (cutL R = gr (x * y)) := Lib.hid (by rw [HM.out.fin (Nat.le_refl _), HVX.out, HVY.out])
      have hRl := HM.out.len
      have HCP := Lib.hid (HR.out.caps)
      have HCUT := Lib.hid (intCut R (some ⟨w.heap.size, 0, none⟩) (gx.length + gy.length) wr HR.out.reads HCP.out.1 HCP.out.2 HM.out.all)
      have HOW := Lib.hid (HR.out.cutOwn (base := w.heap.size) (Nat.le_refl _))
      rw [HCF.out] at HCUT HOW
      rw [hRl] at HCUT
      clear hlt
      go_wp2_with fail
      refine HCUT.out.mono ?_
      rintro e w9 ⟨rfl, rfl⟩
      go_wp2_with fail
      go_ret
      exact ⟨_, _, rfl, HOW.out, HX.out⟩
end Go.Proofs.YtikehdbkiplleaaGreatDoor
