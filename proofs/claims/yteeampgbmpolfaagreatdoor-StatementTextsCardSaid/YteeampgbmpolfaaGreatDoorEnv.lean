/- What the walks take of the library's variables ('Env'), and the shelf's contracts in the words 'bs', 'Ext'. -/
import Derived.Test.YteeampgbmpolfaaGreatDoorIntP
import Derived.Test.YteeampgbmpolfaaGreatDoorMem
import Derived.Test.YteeampgbmpolfaaGreatDoorShelf
import Derived.Lib.AppendIntMem
namespace Go.Proofs.YteeampgbmpolfaaGreatDoor
open Go.RowKit Go.Shelf

structure Env (w : World) : Prop where
  tab : Lib.TabIs Tryz.prog w "internal/strconv.uint64pow10" .u64 Lib.pow10Tab
  len : ∃ m : Int, w.cell? ⟨0, 0, none⟩ = some (.int .i64 m)
  big : 5 < w.heap.size ∧ 0 < w.heap.size
theorem Env.ext {w w' : World} (h : Env w) (he : Ext w w') : Env w' := by
  refine ⟨?_, ?_, ⟨Nat.lt_of_lt_of_le h.big.1 he.size, Nat.lt_of_lt_of_le h.big.2 he.size⟩⟩
  · exact var?_below he (g := 5) (by kernel_rfl) h.big.1 h.tab
  · obtain ⟨m, hm⟩ := h.len
    exact ⟨m, (he.cell (p := ⟨0, 0, none⟩) h.big.2).trans hm⟩

theorem itoa_any (n : Int) (w : World) (h0 : -9223372036854775808 ≤ n) (h1 : n ≤ 9223372036854775807) (hE : Env w) :
    Calls Tryz.prog 118 #[.int .i64 n] w fun e w' => e = .returned (.string (bs (Lib.itoa n))) ∧ Ext w w' := by
  refine (Tryz.strconv_Itoa n h0 h1 w hE.tab).mono ?_
  rintro e w' ⟨rfl, k, os, rfl⟩
  exact ⟨rfl, Lib.below_grow _ w (Nat.le_refl _) k os⟩
theorem repeat_any (l : Bs) (c : Int) (w : World) (h0 : 0 ≤ c) (hc : c ≤ 1000) (hl : l.length ≤ 1000) :
    Calls Tryz.prog 114 #[.string (bs l), .int .i64 c] w fun e w' => e = .returned (.string (bs (Lib.repeatL l c.toNat))) ∧ Ext w w' := by
  obtain ⟨n, rfl⟩ := Int.eq_ofNat_of_zero_le h0
  refine (Tryz.strings_Repeat (bs l) n w (by omega) (by rw [size_bs]; exact Nat.le_trans (Nat.mul_le_mul hl (show n ≤ 1000 by omega)) (by decide))).mono ?_
  rintro e w' ⟨rfl, hb⟩
  exact ⟨by rw [data_bs, Int.toNat_natCast]; rfl, hb⟩
end Go.Proofs.YteeampgbmpolfaaGreatDoor
