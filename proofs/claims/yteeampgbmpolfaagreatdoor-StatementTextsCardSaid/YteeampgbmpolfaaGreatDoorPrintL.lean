/- The walk over the closure of the program's statement.Print: a line into the Builder. -/
import Derived.Test.YteeampgbmpolfaaGreatDoorTextP
import Derived.Test.YteeampgbmpolfaaGreatDoorCheckS
import Derived.Test.YteeampgbmpolfaaGreatDoorShelfB
import Derived.Test.YteeampgbmpolfaaGreatDoorDate3
import Derived.Test.YteeampgbmpolfaaGreatDoorMem2
import Derived.Lib.OthersKept
namespace Go.Proofs.YteeampgbmpolfaaGreatDoor
open Go.RowKit Go.Shelf
attribute [local go_sem] size_bs toList_bs extract_bs get_bs append_bs lit_append append_lit

/-- the Builder in block b holds l -/
def Bld (B b : Nat) (l : Bs) (w : World) : Prop := Lib.IsBuilderF 69 5 B b (Lib.byteCells l) w
theorem Bld.ext {B b : Nat} {l : Bs} {w w' : World} (h : Bld B b l w) (hx : Ext w w') : Bld B b l w' := by
  have key : ∀ p, Lib.BuilderAtF 69 5 B b p (Lib.byteCells l) w → Lib.BuilderAtF 69 5 B b p (Lib.byteCells l) w' := by
    rintro p ⟨hB, v, hb, hown, hne⟩
    have hlt : b < w.heap.size := by
      rcases Nat.lt_or_ge b w.heap.size with h | h
      · exact h
      · rw [Array.getElem?_eq_none h] at hb; cases hb
    exact ⟨hB, v, (hx.block b hlt).trans hb, hown.kept (row := none) ⟨hx.os, hx.tape, hx.output, hx.size, fun i hi _ => hx.block i hi⟩ (by cases v.ownBlock <;> simp), hne⟩
  rcases h with h | h
  · exact .inl (key _ h)
  · exact .inr (key _ h)
theorem Bld.new (w : World) : Bld w.heap.size w.heap.size [] (w.alloc (.cells #[.pointer none, .slice none 0 0] 69)) :=
  .inl ⟨Nat.le_refl _, .slice none 0 0, heap_alloc_new w _, World.ownsRowF_nil _ _ _ _, by simp [Value.ownBlock]⟩
theorem Bld.lt {B b : Nat} {l : Bs} {w : World} (h : Bld B b l w) : b < w.heap.size := by
  rcases h with h | h <;> exact h.lt
theorem Bld.draws {B b : Nat} {l : Bs} {w : World} (h : Bld B b l w) (n : Nat) : Bld B b l (w.drewN n) := h.ext ((Ext.refl w).drewN n)

theorem others_ext {e : TypeId} {b : Option Nat} {w w' : World} (h : Ext w w') : Lib.OthersKept e b w w' := fun k o hk _ _ => by
  have hlt : k < w.heap.size := by
    rcases Nat.lt_or_ge k w.heap.size with h | h
    · exact h
    · rw [Array.getElem?_eq_none h] at hk; cases hk
  exact (h.block k hlt).trans hk
theorem Blk.others {e : TypeId} {b g : Nat} {t : TypeId} {cs : Array Value} {w w' : World} (h : Blk w g t cs) (hk : Lib.OthersKept e (some b) w w') (hg : g ≠ b) (ht : t ≠ e) : Blk w' g t cs :=
  hk g _ h (fun x => hg (by injection x)) (fun c fz x => by injection x with _ h2; exact ht h2)
theorem join_any (ls : List Bs) (A : Option Addr) (c : Nat) (w : World) (hr : RdS w A ls) (h0 : 0 < ls.length) (hc : ls.length ≤ c) (hn : ls.length ≤ 1000) (hl : (joinSp ls).length ≤ 1000000000) :
    Calls Tryz.prog 19 #[.slice A ls.length c, .string ⟨#[32]⟩] w fun e w' => e = .returned (.string (bs (joinSp ls))) ∧ Ext w w' := by
  obtain ⟨b, o, rfl, hb⟩ := Reads.at_ hr h0
  have hm : (ls.map bs).map (fun x => x.data.toList) = ls := by
    rw [List.map_map]; conv => rhs; rw [← List.map_id ls]
    apply List.map_congr_left; intro a _; exact data_bs a
  have hlen : (ls.map bs).length = ls.length := by simp
  have hJ := Tryz.strings_Join b o c (ls.map bs) ⟨#[32]⟩ w (fun j x hx => Reads.cell hr (by
      simp only [List.getElem?_map, Option.map_eq_some_iff] at hx
      obtain ⟨a, ha, rfl⟩ := hx
      simp [scells, ha])) hb (by rw [hlen]; omega) (by rw [hlen]; exact hc) (by rw [hm]; show (joinSp ls).length ≤ _; omega)
  rw [hm, hlen] at hJ
  refine hJ.mono ?_
  rintro e w' ⟨rfl, hbl⟩
  exact ⟨rfl, hbl⟩

set_option maxHeartbeats 400000 in
theorem stLine (ls : List Bs) (A : Option Addr) (c B b : Nat) (cur : Bs) (w : World) (hr : RdS w A ls) (h0 : 0 < ls.length) (hc : ls.length ≤ c) (hn : ls.length ≤ 1000) (hl : (joinSp ls).length ≤ 1000000) (hcl : cur.length ≤ 1000000000)
    (hB : Bld B b cur w) (hBw : B ≤ w.heap.size) :
    Calls Tryz.prog 40 #[.slice A ls.length c, .pointer (some ⟨b, 0, none⟩)] w fun e w' => e = .returned (.tuple #[]) ∧ Bld B b (cur ++ (joinSp ls ++ [10])) w' ∧ Below B w w' ∧ Lib.OthersKept 5 (some b) w w' := by
  have HR := Lib.hid hr
  have HB := Lib.hid hB
  clear hr hB
  go_enter Tryz.func40, Tryz.ntmps40
  go_wp2_with fail
  refine (join_any ls A c _ HR.out h0 hc hn (by omega)).mono ?_
  rintro e w1 ⟨rfl, hx1⟩
  generalize hj : joinSp ls = j at *
  have HJ := Lib.hid hj
  clear hj
  go_wp2_with fail
  have hW := Tryz.Builder_WriteString_k B b (Lib.byteCells cur) (bs (j ++ [10])) w1 (HB.out.ext hx1) (by rw [Lib.byteCells_length, size_bs, List.length_append, List.length_singleton]; omega) (Nat.le_trans hBw hx1.size)
  refine hW.mono ?_
  rintro e w2 ⟨rfl, hB2, hb2, hk2⟩
  clear hW
  go_wp2_with fail
  go_end0
  refine ⟨rfl, ?_, (Below.mono hx1 hBw).trans hb2, (others_ext hx1).trans hk2⟩
  have e : Lib.byteCells cur ++ Lib.strCells (bs (j ++ [10])) = Lib.byteCells (cur ++ (j ++ [10])) := by
    unfold Lib.strCells Lib.byteCells; rw [data_bs]; exact List.map_append.symm
  rw [e] at hB2
  rw [HJ.out]; exact .inr hB2
end Go.Proofs.YteeampgbmpolfaaGreatDoor
