/- A statement that a reader builds up in memory. -/
import Derived.Test.YteeampgbmpolfaaGreatDoorCells
import Derived.Test.YteeampgbmpolfaaGreatDoorMem2
import Derived.Test.YteeampgbmpolfaaGreatDoorRefCut
import Derived.Deep.AppendLies
import Derived.Deep.RegionLaw
namespace Go.Proofs.YteeampgbmpolfaaGreatDoor
open Go.RowKit

/-- w' is w but for block g and what lies from block 'base' on -/
structure BelG (base g : Nat) (w w' : World) : Prop where
  os : w'.os = w.os
  tape : w'.tape = w.tape
  output : w'.output = w.output
  size : w.heap.size ≤ w'.heap.size
  block : ∀ i, i < base → i ≠ g → w'.heap[i]? = w.heap[i]?
section
variable {base g : Nat} {w w' : World}
theorem BelG.of (h : Below base w w') : BelG base g w w' := ⟨h.os, h.tape, h.output, h.size, fun i hi _ => h.block i hi⟩
theorem BelG.setCell (h : BelG base g w w') (i : Nat) (u : Value) : BelG base g w (w'.setCell ⟨g, i, none⟩ u) :=
  ⟨h.os, h.tape, h.output, by have := h.size; simpa using this, fun k hk hne => (Below.heap_setCell w' ⟨g, i, none⟩ u k hne).trans (h.block k hk hne)⟩
theorem BelG.below (h : BelG base g w w') (hg : base ≤ g) : Below base w w' := ⟨h.os, h.tape, h.output, h.size, fun i hi => h.block i hi (by omega)⟩
theorem BelG.trans {w'' : World} (h : BelG base g w w') (k : BelG base g w' w'') : BelG base g w w'' :=
  ⟨k.os.trans h.os, k.tape.trans h.tape, k.output.trans h.output, Nat.le_trans h.size k.size, fun i hi hne => (k.block i hi hne).trans (h.block i hi hne)⟩
end
/-- block g (of type t) holds the statement s, and then the cells 'more'; its rows are the call's own, from block 'base' on -/
def StAtV (w : World) (base g : Nat) (t : TypeId) (more : List Value) (s : St) (vA vB : Value) : Prop :=
  Blk w g t (Value.int .i64 s.day :: vA :: vB :: more).toArray ∧ True ∧ w.ownsRow base 45 2 vA s.hs.length (hcells s.hs) ∧ w.ownsRow base 50 5 vB s.ms.length (mcells s.ms)
def StAt (w : World) (base g : Nat) (t : TypeId) (more : List Value) (s : St) : Prop := ∃ vA vB, StAtV w base g t more s vA vB
theorem own_ext {w w' : World} {base : Nat} {e : TypeId} {size : Nat} {v : Value} {n : Nat} {xs : List Value} (h : w.ownsRow base e size v n xs) (hx : Ext w w') : w'.ownsRow base e size v n xs :=
  h.kept (row := none) ⟨hx.os, hx.tape, hx.output, hx.size, fun i hi _ => hx.block i hi⟩ (by cases v.ownBlock <;> simp)
theorem StAtV.ext {w w' : World} {base g : Nat} {t : TypeId} {more : List Value} {s : St} {vA vB : Value} (h : StAtV w base g t more s vA vB) (hx : Ext w w') : StAtV w' base g t more s vA vB :=
  ⟨h.1.ext hx, h.2.1, own_ext h.2.2.1 hx, own_ext h.2.2.2 hx⟩
theorem StAt.ext {w w' : World} {base g : Nat} {t : TypeId} {more : List Value} {s : St} (h : StAt w base g t more s) (hx : Ext w w') : StAt w' base g t more s := by
  obtain ⟨vA, vB, h⟩ := h
  exact ⟨vA, vB, h.ext hx⟩
theorem own_ne {w : World} {base : Nat} {e : TypeId} {size n : Nat} {v : Value} {xs : List Value} {g : Nat} {t : TypeId} {cs : Array Value} (h : w.ownsRow base e size v n xs) (hg : Blk w g t cs) (hne : e ≠ t) : v.ownBlock ≠ some g := by
  rcases h.2 with ⟨rfl, _⟩ | ⟨g', cap, cur, rfl, _, hh, _⟩
  · simp [Value.ownBlock]
  · intro he
    have : g' = g := by simpa [Value.ownBlock] using he
    subst this
    unfold Blk at hg; rw [hg] at hh; injection hh with hh; injection hh with _ ht; exact hne ht.symm
theorem own_own_ne {w : World} {base base' : Nat} {e e' : TypeId} {size size' n n' : Nat} {v v' : Value} {xs xs' : List Value} (h : w.ownsRow base e size v n xs) (h' : w.ownsRow base' e' size' v' n' xs') (hne : e ≠ e') : v.ownBlock = none ∨ v.ownBlock ≠ v'.ownBlock := by
  rcases h.2 with ⟨rfl, _⟩ | ⟨g, cap, cur, rfl, _, hh, _⟩
  · left; rfl
  · right
    rcases h'.2 with ⟨rfl, _⟩ | ⟨g', cap', cur', rfl, _, hh', _⟩
    · simp [Value.ownBlock]
    · intro he
      have : g = g' := by simpa [Value.ownBlock] using he
      subst this
      rw [hh] at hh'; injection hh' with hh'; injection hh' with _ ht; exact hne ht
theorem own_set {w : World} {base : Nat} {e : TypeId} {size n : Nat} {v : Value} {xs : List Value} {g i : Nat} (h : w.ownsRow base e size v n xs) (hne : v.ownBlock ≠ some g) (u : Value) : (w.setCell ⟨g, i, none⟩ u).ownsRow base e size v n xs :=
  h.kept (row := some g) (Only.setCell (Only.refl g w) i u) (.inr hne)
section
variable {w w' : World} {base g : Nat} {t : TypeId} {more : List Value} {s : St} {vA vB : Value}
theorem StAtV.set_ (h : StAtV w base g t more s vA vB) (hA : 45 ≠ t) (hB : 50 ≠ t) (d : Int) (more' : List Value) (i : Nat) (u : Value) (hi : (Value.int .i64 s.day :: vA :: vB :: more).set i u = Value.int .i64 d :: vA :: vB :: more') :
    StAtV (w.setCell ⟨g, i, none⟩ u) base g t more' { s with day := d } vA vB := by
  refine ⟨?_, h.2.1, own_set h.2.2.1 (own_ne h.2.2.1 h.1 hA) u, own_set h.2.2.2 (own_ne h.2.2.2 h.1 hB) u⟩
  have := h.1.set_ i u
  rw [List.setIfInBounds_toArray, hi] at this
  exact this
theorem StAtV.growA (h : StAtV w base g t more s vA vB) (hA : 45 ≠ t) (hg : w.grownBy w' vA.ownBlock) : Blk w' g t (Value.int .i64 s.day :: vA :: vB :: more).toArray :=
  (hg.block g h.1.lt (fun he => own_ne h.2.2.1 h.1 hA he.symm)).trans h.1
theorem StAtV.growB (h : StAtV w base g t more s vA vB) (hB : 50 ≠ t) (hg : w.grownBy w' vB.ownBlock) : Blk w' g t (Value.int .i64 s.day :: vA :: vB :: more).toArray :=
  (hg.block g h.1.lt (fun he => own_ne h.2.2.2 h.1 hB he.symm)).trans h.1
theorem StAtV.addH (h : StAtV w base g t more s vA vB) (hA : 45 ≠ t) (hB : 50 ≠ t) (hg : w.grownBy w' vA.ownBlock) {v' : Value} {x : Hd}
    (ho : w'.ownsRow base 45 2 v' (s.hs.length + 1) (hcells s.hs ++ [.string (bs x.ins), .string (bs x.qty)])) :
    StAt (w'.setCell ⟨g, 1, none⟩ v') base g t more { s with hs := s.hs ++ [x] } := by
  have hb := h.growA hA hg
  have hB' := h.2.2.2.kept hg (own_own_ne h.2.2.2 h.2.2.1 (by decide))
  have h1 := own_ne ho hb hA
  have h2 := own_ne hB' hb hB
  refine ⟨v', vB, ?_, h.2.1, ?_, own_set hB' h2 v'⟩
  · have := hb.set_ 1 v'
    rw [List.setIfInBounds_toArray] at this
    exact this
  · have := own_set (i := 1) ho h1 v'
    simpa [hcells] using this
theorem StAtV.addM (h : StAtV w base g t more s vA vB) (hA : 45 ≠ t) (hB : 50 ≠ t) (hg : w.grownBy w' vB.ownBlock) {v' : Value} {x : Mv}
    (ho : w'.ownsRow base 50 5 v' (s.ms.length + 1) (mcells s.ms ++ [.string (bs x.ref), .int .i64 x.day, .string (bs x.ins), .string (bs x.qty), .string (bs x.amt)])) :
    StAt (w'.setCell ⟨g, 2, none⟩ v') base g t more { s with ms := s.ms ++ [x] } := by
  have hb := h.growB hB hg
  have hA' := h.2.2.1.kept hg (own_own_ne h.2.2.1 h.2.2.2 (by decide))
  have h1 := own_ne ho hb hB
  have h2 := own_ne hA' hb hA
  refine ⟨vA, v', ?_, h.2.1, own_set hA' h2 v', ?_⟩
  · have := hb.set_ 2 v'
    rw [List.setIfInBounds_toArray] at this
    exact this
  · have := own_set (i := 2) ho h1 v'
    simpa [mcells] using this
theorem own_len {e : TypeId} {size n : Nat} {v : Value} {xs : List Value} (h : w.ownsRow base e size v n xs) : ∃ A c, v = .slice A n c := by
  rcases h.2 with ⟨rfl, rfl⟩ | ⟨g, cap, cur, rfl, _⟩
  · exact ⟨_, _, rfl⟩
  · exact ⟨_, _, rfl⟩
end
theorem holdInfo : (Tryz.prog.info? 45).map (fun i => (i.zero, i.size, i.bytes)) = some (some (.agg #[.string ⟨#[]⟩, .string ⟨#[]⟩]), 2, 32) := by kernel_rfl
theorem movInfo : (Tryz.prog.info? 50).map (fun i => (i.zero, i.size, i.bytes)) = some (some (.agg #[.string ⟨#[]⟩, .int .i64 0, .string ⟨#[]⟩, .string ⟨#[]⟩, .string ⟨#[]⟩]), 5, 72) := by kernel_rfl
end Go.Proofs.YteeampgbmpolfaaGreatDoor
