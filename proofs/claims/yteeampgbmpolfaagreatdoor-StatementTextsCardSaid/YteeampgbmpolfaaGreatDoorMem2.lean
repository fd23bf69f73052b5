/- More words for memory: a block that is known whole ('Blk'); 'Only g w w2': w2 is w with new blocks and writes into block g alone. -/
import Derived.Test.YteeampgbmpolfaaGreatDoorMem
import Derived.Laws.Rows
namespace Go.Proofs.YteeampgbmpolfaaGreatDoor
open Go.RowKit
def Blk (w : World) (g : Nat) (t : TypeId) (cs : Array Value) : Prop := w.heap[g]? = some (.cells cs t (0, 0))
section
variable {w w' : World} {g : Nat} {t : TypeId} {cs : Array Value}
theorem Blk.lt (h : Blk w g t cs) : g < w.heap.size := by
  rcases Nat.lt_or_ge g w.heap.size with hlt | hge
  · exact hlt
  · unfold Blk at h; rw [Array.getElem?_eq_none hge] at h; cases h
theorem Blk.cell (h : Blk w g t cs) (i : Nat) : w.cell? ⟨g, i, none⟩ = cs[i]? := cell_of_row w g i cs t (0, 0) h
theorem Blk.frozen (h : Blk w g t cs) (i : Nat) : w.frozen? ⟨g, i, none⟩ = false := by
  unfold Blk at h
  simp [World.frozen?, h]
theorem Blk.new (w : World) (t : TypeId) (cs : Array Value) : Blk (w.alloc (.cells cs t)) w.heap.size t cs := heap_alloc_new w _
theorem Blk.drew (h : Blk w g t cs) : Blk w.drew g t cs := h
theorem Blk.drewN (h : Blk w g t cs) (n : Nat) : Blk (w.drewN n) g t cs := h
theorem Blk.alloc (h : Blk w g t cs) (o : Obj) : Blk (w.alloc o) g t cs := (Below.heap_alloc w o g h.lt).trans h
theorem Blk.set_ (h : Blk w g t cs) (i : Nat) (u : Value) : Blk (w.setCell ⟨g, i, none⟩ u) g t (cs.setIfInBounds i u) := by
  unfold Blk at h ⊢
  simp [World.setCell, Array.getElem?_modify, h]
theorem Blk.far (h : Blk w g t cs) {p : Addr} (hp : g ≠ p.block) (u : Value) : Blk (w.setCell p u) g t cs := (Below.heap_setCell w p u g hp).trans h
theorem Blk.ext (h : Blk w g t cs) (he : Ext w w') : Blk w' g t cs := (he.block g h.lt).trans h
end
/-- w' is w with new blocks and writes into block g alone -/
def Only (g : Nat) (w w' : World) : Prop := w.grownBy w' (some g)
section
variable {a w w' : World} {g : Nat}
theorem Only.refl (g : Nat) (w : World) : Only g w w := World.grownBy.refl w _
theorem Only.size (h : Only g w w') : w.heap.size ≤ w'.heap.size := World.grownBy.size h
theorem Only.trans {b c : World} (h : Only g a b) (k : Only g b c) : Only g a c :=
  ⟨k.os.trans h.os, k.tape.trans h.tape, k.output.trans h.output, Nat.le_trans h.size k.size, fun i hi hne => (World.grownBy.block k i (Nat.lt_of_lt_of_le hi h.size) hne).trans (World.grownBy.block h i hi hne)⟩
theorem Only.of_ext (h : Ext w w') : Only g w w' := ⟨h.os, h.tape, h.output, h.size, fun i hi _ => h.block i hi⟩
theorem Only.ext {b : World} (h : Only g a w) (k : Ext w b) : Only g a b := h.trans (Only.of_ext k)
theorem Only.setCell (h : Only g a w) (i : Nat) (u : Value) : Only g a (w.setCell ⟨g, i, none⟩ u) :=
  ⟨h.os, h.tape, h.output, by simpa [World.setCell] using h.size, fun i hi hne => (Below.heap_setCell w _ u i (by
    rintro rfl; exact hne rfl)).trans (World.grownBy.block h i hi hne)⟩
theorem Only.alloc (h : Only g a w) (o : Obj) : Only g a (w.alloc o) := h.ext (Ext.new w o)
theorem Only.drew (h : Only g a w) : Only g a w.drew := ⟨h.os, h.tape, h.output, h.size, h.block⟩
theorem Only.drewN (h : Only g a w) (n : Nat) : Only g a (w.drewN n) := ⟨h.os, h.tape, h.output, h.size, h.block⟩
theorem Only.cell (h : Only g w w') {p : Addr} (hp : p.block < w.heap.size) (hne : p.block ≠ g) : w'.cell? p = w.cell? p :=
  World.cell?_of_block (w := w) (World.grownBy.block h p.block hp (fun e => hne (by injection e)))
/-- the block g is new since a: then all of a lies unturned -/
theorem Only.toExt {b : World} (h : Only g w w') (k : Ext b w) (hg : b.heap.size ≤ g) : Ext b w' :=
  Below.trans k ⟨h.os, h.tape, h.output, h.size, fun i hi => World.grownBy.block h i (Nat.lt_of_lt_of_le hi k.size) (fun e => by injection e with e; omega)⟩
end
end Go.Proofs.YteeampgbmpolfaaGreatDoor
