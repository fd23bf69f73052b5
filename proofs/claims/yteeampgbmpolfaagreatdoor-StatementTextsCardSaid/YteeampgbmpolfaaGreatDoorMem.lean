/- Words for memory: 'Ext w w2': all that lay in w lies unturned in w2 (new blocks may have come); 'Reads': a slice that reads as a list of cells. -/
import Derived.Test.YteeampgbmpolfaaGreatDoorBase
import Derived.Deep.Draws
import Derived.Deep.AppendLies
import Derived.WalkSmall
import Derived.Lib.ConvBytes
import Derived.Laws.BytesArg
namespace Go.Proofs.YteeampgbmpolfaaGreatDoor
open Go.RowKit

def Ext (w w' : World) : Prop := Below w.heap.size w w'
theorem Ext.refl (w : World) : Ext w w := Below.refl _ _
theorem Ext.trans {a b c : World} (h : Ext a b) (k : Ext b c) : Ext a c := Below.trans h (k.mono h.size)
theorem Ext.size {a b : World} (h : Ext a b) : a.heap.size ≤ b.heap.size := Below.size h
theorem Ext.alloc {a b : World} (h : Ext a b) (o : Obj) : Ext a (b.alloc o) := Below.alloc h h.size o
theorem Ext.new (w : World) (o : Obj) : Ext w (w.alloc o) := (Ext.refl w).alloc o
theorem Ext.drew {a b : World} (h : Ext a b) : Ext a b.drew := Below.drew h
theorem Ext.drewN {a b : World} (h : Ext a b) (n : Nat) : Ext a (b.drewN n) := ⟨h.os, h.tape, h.output, h.size, h.block⟩
theorem Ext.setCell {a b : World} (h : Ext a b) {p : Addr} (hp : a.heap.size ≤ p.block) (u : Value) : Ext a (b.setCell p u) := Below.setCell h hp u
theorem Ext.of_alloc {w w' : World} {o : Obj} (h : Ext (w.alloc o) w') : Ext w w' := (Ext.new w o).trans h
theorem Ext.cell {w w' : World} (h : Ext w w') {p : Addr} (hp : p.block < w.heap.size) : w'.cell? p = w.cell? p := Below.cell h hp
theorem Ext.frozen {w w' : World} (h : Ext w w') {p : Addr} (hp : p.block < w.heap.size) : w'.frozen? p = w.frozen? p := Below.frozen h hp
/-- Laid into the context behind a call: the walk reads older cells by these two rules. -/
theorem Ext.rules {w w' : World} (h : Ext w w') : (∀ b o, b < w.heap.size → w'.cell? ⟨b, o, none⟩ = w.cell? ⟨b, o, none⟩) ∧ (∀ b o, b < w.heap.size → w'.frozen? ⟨b, o, none⟩ = w.frozen? ⟨b, o, none⟩) :=
  ⟨fun b o hb => h.cell (p := ⟨b, o, none⟩) hb, fun b o hb => h.frozen (p := ⟨b, o, none⟩) hb⟩

/-- The slice with the address A and n elements of 'size' cells holds the cells xs, and lies in w. -/
def Reads (w : World) (size : Nat) (A : Option Addr) (n : Nat) (xs : List Value) : Prop :=
  xs.length = n * size ∧ (0 < n → ∃ b o, A = some ⟨b, o, none⟩ ∧ b < w.heap.size ∧ ∀ j u, xs[j]? = some u → w.cell? ⟨b, o + j, none⟩ = some u)
theorem Reads.nil {w : World} {size : Nat} {A : Option Addr} : Reads w size A 0 [] := ⟨by simp, fun h => absurd h (by omega)⟩
theorem Reads.ext {w w' : World} {size n : Nat} {A : Option Addr} {xs : List Value} (h : Reads w size A n xs) (he : Ext w w') : Reads w' size A n xs :=
  ⟨h.1, fun hn => by
    obtain ⟨b, o, e, hb, hc⟩ := h.2 hn
    exact ⟨b, o, e, Nat.lt_of_lt_of_le hb he.size, fun j u hu => (he.cell (p := ⟨b, o + j, none⟩) hb).trans (hc j u hu)⟩⟩
theorem Reads.cell {w : World} {size n : Nat} {b o : Nat} {xs : List Value} (h : Reads w size (some ⟨b, o, none⟩) n xs) {j : Nat} {u : Value} (hu : xs[j]? = some u) : w.cell? ⟨b, o + j, none⟩ = some u := by
  have hj : j < xs.length := (List.getElem?_eq_some_iff.1 hu).1
  have hn : 0 < n := by
    rcases Nat.eq_zero_or_pos n with h0 | h0
    · have := h.1; rw [h0] at this; omega
    · exact h0
  obtain ⟨b', o', e, _, hc⟩ := h.2 hn
  injection e with e; injection e with e1 e2; subst e1; subst e2
  exact hc j u hu
theorem Reads.at_ {w : World} {size n : Nat} {A : Option Addr} {xs : List Value} (h : Reads w size A n xs) (hn : 0 < n) : ∃ b o, A = some ⟨b, o, none⟩ ∧ b < w.heap.size := by
  obtain ⟨b, o, e, hb, _⟩ := h.2 hn; exact ⟨b, o, e, hb⟩
theorem Reads.own {w : World} {base : Nat} {e : TypeId} {size n c : Nat} {A : Option Addr} {xs : List Value} (h : w.ownsRow base e size (.slice A n c) n xs) : Reads w size A n xs := by
  refine ⟨h.1, fun hn => ?_⟩
  obtain ⟨g, cap, hv, _, hlt⟩ := h.form hn
  have hA : A = some ⟨g, 0, none⟩ := by injection hv
  subst hA
  refine ⟨g, 0, rfl, hlt, fun j u hu => ?_⟩
  have := h.cells (g := g) rfl j u hu
  unfold Addr.add at this
  rcases Nat.eq_zero_or_pos j with h0 | h0
  · subst h0; simpa using this
  · rw [if_neg (by omega)] at this; exact this
/-- the call has made a slice of a literal's elements -/
theorem Reads.lit {w : World} {t : TypeId} {size n : Nat} {xs : List Value} (hl : xs.length = n * size) : Reads (w.alloc (.cells xs.toArray t)) size (some ⟨w.heap.size, 0, none⟩) n xs :=
  ⟨hl, fun _ => ⟨w.heap.size, 0, rfl, by simp, fun j u hu => by
    have := World.cell?_alloc_new w xs.toArray t j
    simp only [Nat.zero_add]
    rw [this]; simpa using hu⟩⟩
/-- '[]byte(s)': a new block with the bytes. -/
theorem conv_bytes {P : Program} (w : World) (src dst e : TypeId) (l : Bs) {u : TypeDesc} (hs : P.underlying src = some u) (hd : P.underlying dst = some (.slice e)) (he : P.underlying e = some (.int .u8)) :
    ∃ cap w1, (convert src dst (.string (bs l))).run P w = .ok (.slice (some ⟨w.heap.size, 0, none⟩) l.length cap) w1 ∧ Ext w w1 ∧ w1.heap.size = w.heap.size + 1 ∧
      ∀ (j : Nat) (h : j < l.length), w1.cell? ⟨w.heap.size, j, none⟩ = some (.int .u8 (l[j]'h).toNat) := by
  refine ⟨grownCap w (bs l).size 0 e, Lib.bytesWorld w e (bs l), ?_, ?_, Lib.bytesWorld_size w e (bs l), fun j h => ?_⟩
  · have := Lib.run_convert_string_bytes (P := P) w src dst e (bs l) hs hd he
    rw [this, size_bs]
  · exact ⟨rfl, rfl, rfl, by rw [Lib.bytesWorld_size]; omega, fun k hk => Lib.bytesWorld_at_old w e (bs l) k hk⟩
  · rw [Lib.bytesWorld_cell w e (bs l) j (by rw [size_bs]; exact h), data_bs, List.getD_eq_getElem?_getD, List.getElem?_eq_getElem h]; rfl
/-- 'string([]byte{x})' -/
theorem conv_one {P : Program} (w : World) (src dst e : TypeId) (x : Int) (hs : P.underlying src = some (.slice e)) (he : P.underlying e = some (.int .u8)) (hd : P.underlying dst = some .string) :
    (convert src dst (.slice (some ⟨w.heap.size, 0, none⟩) 1 1)).run P (w.alloc (.cells #[.int .u8 x] e)) = .ok (.string (bs [UInt8.ofNat x.toNat])) (w.alloc (.cells #[.int .u8 x] e)) := by
  have hc : ∀ i, i < 1 → (w.alloc (.cells #[.int .u8 x] e)).cell? ⟨w.heap.size, 0 + i, none⟩ = some (.int .u8 (([x] : List Int).getD i 0)) := by
    intro i hi
    obtain rfl : i = 0 := by omega
    rw [World.cell?_alloc_new]; rfl
  rw [run_convert_bytes_arg (P := P) _ src e hs he w.heap.size 0 1 1 [x] rfl hc dst hd]; rfl
end Go.Proofs.YteeampgbmpolfaaGreatDoor
