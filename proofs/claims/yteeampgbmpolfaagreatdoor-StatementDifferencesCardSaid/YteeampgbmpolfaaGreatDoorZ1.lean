/- The seat's texts, part 1 of 5. -/
import Derived.Test.YteeampgbmpolfaaGreatDoorZ0
import Derived.WalkKit
import Derived.WalkSpells
import Derived.WalkLawsBesides
import Derived.Lib.Hide
import Derived.Lib.Strings
import Derived.Deep.DeepCutAuto
import Derived.Deep.CutBlock
import Derived.Deep.QuietTactic
import Derived.BigQuiet
import Derived.RegionTactic
import Derived.Deep.DeepFit
import Derived.Deep.LoopGhost
import Derived.Outline
import Derived.Deep.Draws
import Derived.Deep.AppendLies
import Derived.WalkSmall
import Derived.Lib.ConvBytes
import Derived.Laws.BytesArg
import Derived.Laws.Rows
import Derived.Lib.ItoaNum
import Derived.Lib.AppendIntMem
import Derived.Shelf.Strings.SlTrimAscii
import Derived.Test.YteeampgbmpolfaaGreatDoorProg

/- Plain ground: strings as lists of bytes ('bs'), and the small laws by which a walk reads them. No program in sight. -/
namespace Go.Proofs.YteeampgbmpolfaaGreatDoor
open Go.RowKit

abbrev Bs := List UInt8
/-- The string with the bytes l. -/
def bs (l : Bs) : ByteArray := ⟨l.toArray⟩
def L (s : ByteArray) : Bs := s.data.toList
theorem bs_L (s : ByteArray) : bs (L s) = s := Lib.mk_data s
theorem L_bs (l : Bs) : L (bs l) = l := by simp [L, bs]
theorem data_bs (l : Bs) : (bs l).data.toList = l := by simp [bs]
theorem size_bs (l : Bs) : (bs l).size = l.length := by rw [Lib.size_eq, data_bs]
theorem toList_bs (l : Bs) : (bs l).toList = l := by rw [Lib.toList_data, data_bs]
theorem bs_inj {a b : Bs} (h : bs a = bs b) : a = b := by rw [← L_bs a, h, L_bs]
theorem extract_bs (l : Bs) (a b : Nat) : (bs l).extract a b = bs ((l.drop a).take (b - a)) := by rw [Lib.extract_eq, data_bs]; rfl
theorem get_bs (l : Bs) (i : Nat) (h : i < (bs l).size) : (bs l)[i] = l[i]'(by rw [size_bs] at h; exact h) := by
  simp [bs]; rfl
theorem append_bs (a b : Bs) : bs a ++ bs b = bs (a ++ b) := by
  apply ByteArray.ext; simp [bs]
theorem lit_append (a : Array UInt8) (l : Bs) : (⟨a⟩ : ByteArray) ++ bs l = bs (a.toList ++ l) := by
  apply ByteArray.ext; simp [bs]
theorem append_lit (a : Array UInt8) (l : Bs) : bs l ++ (⟨a⟩ : ByteArray) = bs (l ++ a.toList) := by
  apply ByteArray.ext; simp [bs]
theorem empty_bs : (⟨#[]⟩ : ByteArray) = bs [] := rfl
theorem lit_bs (l : Bs) : (⟨l.toArray⟩ : ByteArray) = bs l := rfl
theorem byte_ne {c d : UInt8} (h : c ≠ d) : ((c.toNat : Int) == (d.toNat : Int)) = false := by
  rw [beq_eq_false_iff_ne]; intro e; exact h (UInt8.toNat_inj.1 (by omega))
theorem byte_eq {c d : UInt8} (h : c = d) : ((c.toNat : Int) == (d.toNat : Int)) = true := by rw [h]; exact beq_self_eq_true _
end Go.Proofs.YteeampgbmpolfaaGreatDoor

/- Plain: what 'digits', 'Canonical', 'Check', 'Print' and 'Parse' of the integers compute, on lists of bytes. No program in sight. -/
namespace Go.Proofs.YteeampgbmpolfaaGreatDoor
open Go.RowKit

def isD (c : UInt8) : Bool := decide (48 ≤ c.toNat) && decide (c.toNat ≤ 57)
def isMin (l : Bs) : Bool := match l with | [] => false | c :: _ => c == 45
/-- without a leading minus sign -/
def strip (l : Bs) : Bs := if isMin l then l.tail else l
def noZeros : Bs → Bs | [] => [] | c :: r => if c == 48 then noZeros r else c :: r
/-- the significant digits -/
def magT (t : Bs) : Bs := if t.all isD then noZeros t else []
def negT (b : Bool) (t : Bs) : Bool := b && !(magT t).isEmpty
def mag (l : Bs) : Bs := magT (strip l)
def neg (l : Bs) : Bool := negT (isMin l) (strip l)
def canon (l : Bs) : Bs := if neg l then 45 :: mag l else mag l
def checkI (l : Bs) : Int := if canon l = l then 0 else 1
def printI (l : Bs) : Bs := if canon l = [] then [48] else canon l
def parseIV (l : Bs) : Bs := if l.length > 65536 then [] else if printI l ≠ l then [] else canon l
def parseIE (l : Bs) : Int := if l.length > 65536 then 4 else if printI l ≠ l then 3 else 0

theorem noZeros_le (l : Bs) : (noZeros l).length ≤ l.length := by
  induction l with
  | nil => simp [noZeros]
  | cons c r ih => unfold noZeros; split <;> simp <;> omega
theorem strip_le (l : Bs) : (strip l).length ≤ l.length := by unfold strip; split <;> simp
theorem mag_le (l : Bs) : (mag l).length ≤ l.length := by
  unfold mag magT; split
  · exact Nat.le_trans (noZeros_le _) (strip_le _)
  · simp
theorem mag_le_of_min (l : Bs) (h : isMin l = true) : (mag l).length + 1 ≤ l.length := by
  cases l with
  | nil => simp [isMin] at h
  | cons c r =>
    have : strip (c :: r) = r := by simp [strip, h]
    unfold mag magT; rw [this]; split
    · have := noZeros_le r; simp; omega
    · simp
theorem canon_le (l : Bs) : (canon l).length ≤ l.length := by
  unfold canon neg negT
  by_cases h : isMin l = true
  · have := mag_le_of_min l h
    have := mag_le l
    split <;> simp <;> omega
  · have := mag_le l
    simp [h]; exact this
/-- how long the string in a slot is (for a loop's measure) -/
def strLen : Value → Nat | .string s => s.size | _ => 0
theorem isD_bad {c : UInt8} (h : c.toNat < 48 ∨ 57 < c.toNat) : isD c = false := by
  unfold isD; rcases h with h | h
  · rw [Bool.and_eq_false_iff]; left; simp; omega
  · rw [Bool.and_eq_false_iff]; right; simp; omega
theorem isD_good {c : UInt8} (h : 48 ≤ c.toNat) (h' : c.toNat ≤ 57) : isD c = true := by simp [isD, h, h']
theorem all_bad (t : Bs) (k : Nat) (hk : k < t.length) (h : (t[k]'hk).toNat < 48 ∨ 57 < (t[k]'hk).toNat) : t.all isD = false := by
  rw [List.all_eq_false]; exact ⟨_, List.getElem_mem hk, by simp [isD_bad h]⟩
theorem magT_bad (t : Bs) (k : Nat) (hk : k < t.length) (h : (t[k]'hk).toNat < 48 ∨ 57 < (t[k]'hk).toNat) : magT t = [] := by
  unfold magT; rw [all_bad t k hk h]; rfl
theorem negT_bad (b : Bool) (t : Bs) (k : Nat) (hk : k < t.length) (h : (t[k]'hk).toNat < 48 ∨ 57 < (t[k]'hk).toNat) : negT b t = false := by
  unfold negT; rw [magT_bad t k hk h]; simp
theorem take_all_succ (t : Bs) (k : Nat) (hk : k < t.length) (h : (t.take k).all isD = true) (h1 : ¬ ((t[k]'hk).toNat : Int) < 48) (h2 : ¬ 57 < ((t[k]'hk).toNat : Int)) : (t.take (k + 1)).all isD = true := by
  rw [List.take_succ_eq_append_getElem hk, List.all_append, h]
  simp only [List.all_cons, List.all_nil, Bool.and_true, Bool.true_and]
  exact isD_good (by omega) (by omega)
theorem take_all_end (t : Bs) (k : Nat) (hk : ¬ k < t.length) (h : (t.take k).all isD = true) : t.all isD = true := by
  rw [List.take_of_length_le (by omega)] at h; exact h
theorem magT_good (t : Bs) (h : t.all isD = true) : magT t = noZeros t := by unfold magT; rw [if_pos h]
theorem negT_good (b : Bool) (t : Bs) (h : t.all isD = true) : negT b t = (b && !(noZeros t).isEmpty) := by unfold negT; rw [magT_good t h]
end Go.Proofs.YteeampgbmpolfaaGreatDoor

/- Words for memory: 'Ext w w2': all that lay in w lies unturned in w2 (new blocks may have come); 'Reads': a slice that reads as a list of cells. -/
namespace Go.Proofs.YteeampgbmpolfaaGreatDoor
open Go.RowKit

def Ext (w w' : World) : Prop := Below w.heap.size w w'
theorem Ext.refl (w : World) : Ext w w := Below.refl _ _
theorem Ext.trans {a b c : World} (h : Ext a b) (k : Ext b c) : Ext a c := Below.trans h (k.mono h.size)
theorem Ext.size {a b : World} (h : Ext a b) : a.heap.size ≤ b.heap.size := Below.size h
theorem Ext.alloc {a b : World} (h : Ext a b) (o : Obj) : Ext a (b.alloc o) := Below.alloc h h.size o
theorem Ext.new (w : World) (o : Obj) : Ext w (w.alloc o) := (Ext.refl w).alloc o
theorem Ext.drew {a b : World} (h : Ext a b) : Ext a b.drew := Below.drew h
theorem Ext.drewN {a b : World} (h : Ext a b) (n : Nat) : Ext a (b.drewN n) := ⟨h.os, h.tape, h.output, h.size, h.block⟩
theorem Ext.setCell {a b : World} (h : Ext a b) {p : Addr} (hp : a.heap.size ≤ p.block) (u : Value) : Ext a (b.setCell p u) := Below.setCell h hp u
theorem Ext.of_alloc {w w' : World} {o : Obj} (h : Ext (w.alloc o) w') : Ext w w' := (Ext.new w o).trans h
theorem Ext.cell {w w' : World} (h : Ext w w') {p : Addr} (hp : p.block < w.heap.size) : w'.cell? p = w.cell? p := Below.cell h hp
theorem Ext.frozen {w w' : World} (h : Ext w w') {p : Addr} (hp : p.block < w.heap.size) : w'.frozen? p = w.frozen? p := Below.frozen h hp
/-- Laid into the context behind a call: the walk reads older cells by these two rules. -/
theorem Ext.rules {w w' : World} (h : Ext w w') : (∀ b o, b < w.heap.size → w'.cell? ⟨b, o, none⟩ = w.cell? ⟨b, o, none⟩) ∧ (∀ b o, b < w.heap.size → w'.frozen? ⟨b, o, none⟩ = w.frozen? ⟨b, o, none⟩) :=
  ⟨fun b o hb => h.cell (p := ⟨b, o, none⟩) hb, fun b o hb => h.frozen (p := ⟨b, o, none⟩) hb⟩

/-- The slice with the address A and n elements of 'size' cells holds the cells xs, and lies in w. -/
def Reads (w : World) (size : Nat) (A : Option Addr) (n : Nat) (xs : List Value) : Prop :=
  xs.length = n * size ∧ (0 < n → ∃ b o, A = some ⟨b, o, none⟩ ∧ b < w.heap.size ∧ ∀ j u, xs[j]? = some u → w.cell? ⟨b, o + j, none⟩ = some u)
theorem Reads.nil {w : World} {size : Nat} {A : Option Addr} : Reads w size A 0 [] := ⟨by simp, fun h => absurd h (by omega)⟩
theorem Reads.ext {w w' : World} {size n : Nat} {A : Option Addr} {xs : List Value} (h : Reads w size A n xs) (he : Ext w w') : Reads w' size A n xs :=
  ⟨h.1, fun hn => by
    obtain ⟨b, o, e, hb, hc⟩ := h.2 hn
    exact ⟨b, o, e, Nat.lt_of_lt_of_le hb he.size, fun j u hu => (he.cell (p := ⟨b, o + j, none⟩) hb).trans (hc j u hu)⟩⟩
theorem Reads.cell {w : World} {size n : Nat} {b o : Nat} {xs : List Value} (h : Reads w size (some ⟨b, o, none⟩) n xs) {j : Nat} {u : Value} (hu : xs[j]? = some u) : w.cell? ⟨b, o + j, none⟩ = some u := by
  have hj : j < xs.length := (List.getElem?_eq_some_iff.1 hu).1
  have hn : 0 < n := by
    rcases Nat.eq_zero_or_pos n with h0 | h0
    · have := h.1; rw [h0] at this; omega
    · exact h0
  obtain ⟨b', o', e, _, hc⟩ := h.2 hn
  injection e with e; injection e with e1 e2; subst e1; subst e2
  exact hc j u hu
theorem Reads.at_ {w : World} {size n : Nat} {A : Option Addr} {xs : List Value} (h : Reads w size A n xs) (hn : 0 < n) : ∃ b o, A = some ⟨b, o, none⟩ ∧ b < w.heap.size := by
  obtain ⟨b, o, e, hb, _⟩ := h.2 hn; exact ⟨b, o, e, hb⟩
theorem Reads.own {w : World} {base : Nat} {e : TypeId} {size n c : Nat} {A : Option Addr} {xs : List Value} (h : w.ownsRow base e size (.slice A n c) n xs) : Reads w size A n xs := by
  refine ⟨h.1, fun hn => ?_⟩
  obtain ⟨g, cap, hv, _, hlt⟩ := h.form hn
  have hA : A = some ⟨g, 0, none⟩ := by injection hv
  subst hA
  refine ⟨g, 0, rfl, hlt, fun j u hu => ?_⟩
  have := h.cells (g := g) rfl j u hu
  unfold Addr.add at this
  rcases Nat.eq_zero_or_pos j with h0 | h0
  · subst h0; simpa using this
  · rw [if_neg (by omega)] at this; exact this
/-- the call has made a slice of a literal's elements -/
theorem Reads.lit {w : World} {t : TypeId} {size n : Nat} {xs : List Value} (hl : xs.length = n * size) : Reads (w.alloc (.cells xs.toArray t)) size (some ⟨w.heap.size, 0, none⟩) n xs :=
  ⟨hl, fun _ => ⟨w.heap.size, 0, rfl, by simp, fun j u hu => by
    have := World.cell?_alloc_new w xs.toArray t j
    simp only [Nat.zero_add]
    rw [this]; simpa using hu⟩⟩
/-- '[]byte(s)': a new block with the bytes. -/
theorem conv_bytes {P : Program} (w : World) (src dst e : TypeId) (l : Bs) {u : TypeDesc} (hs : P.underlying src = some u) (hd : P.underlying dst = some (.slice e)) (he : P.underlying e = some (.int .u8)) :
    ∃ cap w1, (convert src dst (.string (bs l))).run P w = .ok (.slice (some ⟨w.heap.size, 0, none⟩) l.length cap) w1 ∧ Ext w w1 ∧ w1.heap.size = w.heap.size + 1 ∧
      ∀ (j : Nat) (h : j < l.length), w1.cell? ⟨w.heap.size, j, none⟩ = some (.int .u8 (l[j]'h).toNat) := by
  refine ⟨grownCap w (bs l).size 0 e, Lib.bytesWorld w e (bs l), ?_, ?_, Lib.bytesWorld_size w e (bs l), fun j h => ?_⟩
  · have := Lib.run_convert_string_bytes (P := P) w src dst e (bs l) hs hd he
    rw [this, size_bs]
  · exact ⟨rfl, rfl, rfl, by rw [Lib.bytesWorld_size]; omega, fun k hk => Lib.bytesWorld_at_old w e (bs l) k hk⟩
  · rw [Lib.bytesWorld_cell w e (bs l) j (by rw [size_bs]; exact h), data_bs, List.getD_eq_getElem?_getD, List.getElem?_eq_getElem h]; rfl
/-- 'string([]byte{x})' -/
theorem conv_one {P : Program} (w : World) (src dst e : TypeId) (x : Int) (hs : P.underlying src = some (.slice e)) (he : P.underlying e = some (.int .u8)) (hd : P.underlying dst = some .string) :
    (convert src dst (.slice (some ⟨w.heap.size, 0, none⟩) 1 1)).run P (w.alloc (.cells #[.int .u8 x] e)) = .ok (.string (bs [UInt8.ofNat x.toNat])) (w.alloc (.cells #[.int .u8 x] e)) := by
  have hc : ∀ i, i < 1 → (w.alloc (.cells #[.int .u8 x] e)).cell? ⟨w.heap.size, 0 + i, none⟩ = some (.int .u8 (([x] : List Int).getD i 0)) := by
    intro i hi
    obtain rfl : i = 0 := by omega
    rw [World.cell?_alloc_new]; rfl
  rw [run_convert_bytes_arg (P := P) _ src e hs he w.heap.size 0 1 1 [x] rfl hc dst hd]; rfl
end Go.Proofs.YteeampgbmpolfaaGreatDoor

/- More words for memory: a block that is known whole ('Blk'); 'Only g w w2': w2 is w with new blocks and writes into block g alone. -/
namespace Go.Proofs.YteeampgbmpolfaaGreatDoor
open Go.RowKit
def Blk (w : World) (g : Nat) (t : TypeId) (cs : Array Value) : Prop := w.heap[g]? = some (.cells cs t (0, 0))
section
variable {w w' : World} {g : Nat} {t : TypeId} {cs : Array Value}
theorem Blk.lt (h : Blk w g t cs) : g < w.heap.size := by
  rcases Nat.lt_or_ge g w.heap.size with hlt | hge
  · exact hlt
  · unfold Blk at h; rw [Array.getElem?_eq_none hge] at h; cases h
theorem Blk.cell (h : Blk w g t cs) (i : Nat) : w.cell? ⟨g, i, none⟩ = cs[i]? := cell_of_row w g i cs t (0, 0) h
theorem Blk.frozen (h : Blk w g t cs) (i : Nat) : w.frozen? ⟨g, i, none⟩ = false := by
  unfold Blk at h
  simp [World.frozen?, h]
theorem Blk.new (w : World) (t : TypeId) (cs : Array Value) : Blk (w.alloc (.cells cs t)) w.heap.size t cs := heap_alloc_new w _
theorem Blk.drew (h : Blk w g t cs) : Blk w.drew g t cs := h
theorem Blk.drewN (h : Blk w g t cs) (n : Nat) : Blk (w.drewN n) g t cs := h
theorem Blk.alloc (h : Blk w g t cs) (o : Obj) : Blk (w.alloc o) g t cs := (Below.heap_alloc w o g h.lt).trans h
theorem Blk.set_ (h : Blk w g t cs) (i : Nat) (u : Value) : Blk (w.setCell ⟨g, i, none⟩ u) g t (cs.setIfInBounds i u) := by
  unfold Blk at h ⊢
  simp [World.setCell, Array.getElem?_modify, h]
theorem Blk.far (h : Blk w g t cs) {p : Addr} (hp : g ≠ p.block) (u : Value) : Blk (w.setCell p u) g t cs := (Below.heap_setCell w p u g hp).trans h
theorem Blk.ext (h : Blk w g t cs) (he : Ext w w') : Blk w' g t cs := (he.block g h.lt).trans h
end
/-- w' is w with new blocks and writes into block g alone -/
def Only (g : Nat) (w w' : World) : Prop := w.grownBy w' (some g)
section
variable {a w w' : World} {g : Nat}
theorem Only.refl (g : Nat) (w : World) : Only g w w := World.grownBy.refl w _
theorem Only.size (h : Only g w w') : w.heap.size ≤ w'.heap.size := World.grownBy.size h
theorem Only.trans {b c : World} (h : Only g a b) (k : Only g b c) : Only g a c :=
  ⟨k.os.trans h.os, k.tape.trans h.tape, k.output.trans h.output, Nat.le_trans h.size k.size, fun i hi hne => (World.grownBy.block k i (Nat.lt_of_lt_of_le hi h.size) hne).trans (World.grownBy.block h i hi hne)⟩
theorem Only.of_ext (h : Ext w w') : Only g w w' := ⟨h.os, h.tape, h.output, h.size, fun i hi _ => h.block i hi⟩
theorem Only.ext {b : World} (h : Only g a w) (k : Ext w b) : Only g a b := h.trans (Only.of_ext k)
theorem Only.setCell (h : Only g a w) (i : Nat) (u : Value) : Only g a (w.setCell ⟨g, i, none⟩ u) :=
  ⟨h.os, h.tape, h.output, by simpa [World.setCell] using h.size, fun i hi hne => (Below.heap_setCell w _ u i (by
    rintro rfl; exact hne rfl)).trans (World.grownBy.block h i hi hne)⟩
theorem Only.alloc (h : Only g a w) (o : Obj) : Only g a (w.alloc o) := h.ext (Ext.new w o)
theorem Only.drew (h : Only g a w) : Only g a w.drew := ⟨h.os, h.tape, h.output, h.size, h.block⟩
theorem Only.drewN (h : Only g a w) (n : Nat) : Only g a (w.drewN n) := ⟨h.os, h.tape, h.output, h.size, h.block⟩
theorem Only.cell (h : Only g w w') {p : Addr} (hp : p.block < w.heap.size) (hne : p.block ≠ g) : w'.cell? p = w.cell? p :=
  World.cell?_of_block (w := w) (World.grownBy.block h p.block hp (fun e => hne (by injection e)))
/-- the block g is new since a: then all of a lies unturned -/
theorem Only.toExt {b : World} (h : Only g w w') (k : Ext b w) (hg : b.heap.size ≤ g) : Ext b w' :=
  Below.trans k ⟨h.os, h.tape, h.output, h.size, fun i hi => World.grownBy.block h i (Nat.lt_of_lt_of_le hi k.size) (fun e => by injection e with e; omega)⟩
end
end Go.Proofs.YteeampgbmpolfaaGreatDoor

/- Plain: names, and the number of digits. -/
namespace Go.Proofs.YteeampgbmpolfaaGreatDoor
open Go.RowKit
/-- a byte that a name may have -/
def isN (c : UInt8) : Bool := (decide (97 ≤ c.toNat) && decide (c.toNat ≤ 122)) || (decide (48 ≤ c.toNat) && decide (c.toNat ≤ 57)) || decide (c.toNat = 95)
def isName (l : Bs) : Bool := decide (1 ≤ l.length) && decide (l.length ≤ 16) && l.all isN
def digs (l : Bs) : Int := (strip l).length
/-- the walk's test: the byte is none of a name -/
def badN (c : Int) : Bool := ((decide (c < 97) || decide (122 < c)) && (decide (c < 48) || decide (57 < c))) && !(c == 95)
theorem badN_iff (c : UInt8) : badN (c.toNat : Int) = !isN c := by
  have h : ∀ n : Fin 256, badN ((UInt8.ofNat n.val).toNat : Int) = !isN (UInt8.ofNat n.val) := by decide +kernel
  have hc := h ⟨c.toNat, c.toNat_lt⟩
  simpa using hc
theorem isName_bad (l : Bs) (k : Nat) (hk : k < l.length) (h : isN (l[k]'hk) = false) : isName l = false := by
  have : l.all isN = false := by rw [List.all_eq_false]; exact ⟨_, List.getElem_mem hk, by simp [h]⟩
  simp [isName, this]
theorem takeN_succ (l : Bs) (k : Nat) (hk : k < l.length) (h : (l.take k).all isN = true) (hc : isN (l[k]'hk) = true) : (l.take (k + 1)).all isN = true := by
  rw [List.take_succ_eq_append_getElem hk, List.all_append, h]; simp [hc]
theorem isName_good (l : Bs) (k : Nat) (hk : ¬ k < l.length) (h : (l.take k).all isN = true) (h1 : 1 ≤ l.length) (h2 : l.length ≤ 16) : isName l = true := by
  rw [List.take_of_length_le (by omega)] at h
  unfold isName; rw [h]; simp [h1, h2]
theorem isN_good {c : UInt8} (h : ((97 ≤ (c.toNat : Int) ∧ (c.toNat : Int) ≤ 122) ∨ (48 ≤ (c.toNat : Int) ∧ (c.toNat : Int) ≤ 57)) ∨ (95 ≤ (c.toNat : Int) ∧ (c.toNat : Int) ≤ 95)) : isN c = true := by
  unfold isN; rcases h with (h | h) | h
  · have h1 : 97 ≤ c.toNat := by omega
    have h2 : c.toNat ≤ 122 := by omega
    simp [h1, h2]
  · have h1 : 48 ≤ c.toNat := by omega
    have h2 : c.toNat ≤ 57 := by omega
    simp [h1, h2]
  · have h1 : c.toNat = 95 := by omega
    simp [h1]
theorem isN_bad {c : UInt8} (h : ¬ (((97 ≤ (c.toNat : Int) ∧ (c.toNat : Int) ≤ 122) ∨ (48 ≤ (c.toNat : Int) ∧ (c.toNat : Int) ≤ 57)) ∨ (95 ≤ (c.toNat : Int) ∧ (c.toNat : Int) ≤ 95))) : isN c = false := by
  cases hn : isN c with
  | false => rfl
  | true =>
    exfalso; apply h; unfold isN at hn
    simp only [Bool.or_eq_true, Bool.and_eq_true, decide_eq_true_eq] at hn
    omega
theorem takeN_end (l : Bs) (k : Nat) (hk : ¬ k < l.length) (h : (l.take k).all isN = true) : l.all isN = true := by
  rw [List.take_of_length_le (by omega)] at h; exact h
theorem isName_all (l : Bs) (h : l.all isN = true) : isName l = (decide (1 ≤ l.length) && decide (l.length ≤ 16)) := by
  unfold isName; rw [h, Bool.and_true]
end Go.Proofs.YteeampgbmpolfaaGreatDoor

/- Plain: the calendar from 1900 to 2199. No program in sight. -/
namespace Go.Proofs.YteeampgbmpolfaaGreatDoor
open Go.RowKit
def leap (y : Int) : Bool := (y % 4 == 0 && y % 100 != 0) || y % 400 == 0
def lp (y : Int) : Int := if leap y then 1 else 0
def mlen (y m : Int) : Int := if m = 2 then 28 + lp y else if m = 4 ∨ m = 6 ∨ m = 9 ∨ m = 11 then 30 else 31
/-- days from January 1, 1900 to the beginning of a year -/
def beg (y : Int) : Int := 365 * (y - 1900) + ((y - 1) / 4 - (y - 1) / 100 + (y - 1) / 400) - 460
/-- days from the beginning of the year to the beginning of a month -/
def cum (y m : Int) : Int :=
  if m ≤ 1 then 0 else if m = 2 then 31 else lp y + (if m = 3 then 59 else if m = 4 then 90 else if m = 5 then 120 else if m = 6 then 151 else if m = 7 then 181 else if m = 8 then 212 else if m = 9 then 243 else if m = 10 then 273 else if m = 11 then 304 else if m = 12 then 334 else 365)
theorem leap_iff (y : Int) : leap y = true ↔ (y % 4 = 0 ∧ y % 100 ≠ 0) ∨ y % 400 = 0 := by simp [leap]
theorem lp_01 (y : Int) : lp y = 0 ∨ lp y = 1 := by unfold lp; split <;> simp
theorem lp_of (y : Int) : (lp y = 1 ∧ ((y % 4 = 0 ∧ y % 100 ≠ 0) ∨ y % 400 = 0)) ∨ (lp y = 0 ∧ ¬ ((y % 4 = 0 ∧ y % 100 ≠ 0) ∨ y % 400 = 0)) := by
  unfold lp; by_cases h : leap y = true
  · left; exact ⟨by rw [if_pos h], (leap_iff y).1 h⟩
  · right; exact ⟨by rw [if_neg h], fun hh => h ((leap_iff y).2 hh)⟩
theorem beg_succ (y : Int) : beg (y + 1) = beg y + 365 + lp y := by
  have := lp_of y; unfold beg; omega
theorem beg_1900 : beg 1900 = 0 := by decide
theorem beg_2200 : beg 2200 = 109573 := by decide
theorem beg_mono {a b : Int} (h : a ≤ b) : beg a ≤ beg b := by unfold beg; omega
theorem beg_lt {a b : Int} (h : beg a < beg b) : a < b := by
  rcases Int.lt_or_le a b with h' | h'
  · exact h'
  · have := beg_mono h'; omega
theorem mlen_cum (y m : Int) (h1 : 1 ≤ m) (h2 : m ≤ 12) : cum y (m + 1) = cum y m + mlen y m := by
  have h := lp_01 y
  have hm : m = 1 ∨ m = 2 ∨ m = 3 ∨ m = 4 ∨ m = 5 ∨ m = 6 ∨ m = 7 ∨ m = 8 ∨ m = 9 ∨ m = 10 ∨ m = 11 ∨ m = 12 := by omega
  rcases hm with rfl | rfl | rfl | rfl | rfl | rfl | rfl | rfl | rfl | rfl | rfl | rfl <;> simp [cum, mlen] <;> omega
theorem cum_1 (y : Int) : cum y 1 = 0 := by simp [cum]
theorem cum_13 (y : Int) : cum y 13 = 365 + lp y := by simp [cum]; omega
theorem mlen_bd (y m : Int) : 28 ≤ mlen y m ∧ mlen y m ≤ 31 := by
  have := lp_01 y; unfold mlen; split <;> (try split) <;> omega
theorem cum_mono (y : Int) {a b : Int} (h : a ≤ b) : cum y a ≤ cum y b := by
  have := lp_01 y
  unfold cum
  repeat (first | omega | split)
theorem cum_bd (y m : Int) : 0 ≤ cum y m ∧ cum y m ≤ 366 := by
  have := lp_01 y
  unfold cum
  constructor <;> repeat (first | omega | split)
/-- the year of the n-th day from January 1, 1900 on -/
def yr (n : Int) : Int := 1900 + (((List.range 300).find? (fun k : Nat => decide (n < beg (1901 + (k : Int))))).getD 0 : Nat)
/-- the month of the r-th day of a year -/
def mo (y r : Int) : Int := 1 + (((List.range 12).find? (fun k : Nat => decide (r < cum y (2 + (k : Int))))).getD 0 : Nat)
theorem yr_eq {n y : Int} (h1 : 1900 ≤ y) (h2 : y ≤ 2199) (h3 : beg y ≤ n) (h4 : n < beg (y + 1)) : yr n = y := by
  have : (List.range 300).find? (fun k : Nat => decide (n < beg (1901 + (k : Int)))) = some (y - 1900).toNat := by
    rw [List.find?_range_eq_some]
    refine ⟨?_, by rw [List.mem_range]; omega, fun j hj => ?_⟩
    · rw [decide_eq_true_eq, show (1901 + ((y - 1900).toNat : Int)) = y + 1 by omega]; exact h4
    · rw [Bool.not_eq_true', decide_eq_false_iff_not]
      have := beg_mono (show (1901 + (j : Int)) ≤ y by omega); omega
  unfold yr; rw [this]; simp only [Option.getD_some]; omega
theorem mo_eq {y r m : Int} (h1 : 1 ≤ m) (h2 : m ≤ 12) (h3 : cum y m ≤ r) (h4 : r < cum y (m + 1)) : mo y r = m := by
  have : (List.range 12).find? (fun k : Nat => decide (r < cum y (2 + (k : Int)))) = some (m - 1).toNat := by
    rw [List.find?_range_eq_some]
    refine ⟨?_, by rw [List.mem_range]; omega, fun j hj => ?_⟩
    · rw [decide_eq_true_eq, show (2 + ((m - 1).toNat : Int)) = m + 1 by omega]; exact h4
    · rw [Bool.not_eq_true', decide_eq_false_iff_not]
      have := cum_mono y (show (2 + (j : Int)) ≤ m by omega); omega
  unfold mo; rw [this]; simp only [Option.getD_some]; omega
/-- whether d is a day -/
def okDay (d : Int) : Bool := decide (-25567 ≤ d) && decide (d ≤ 84005)
def dYear (d : Int) : Int := yr (d + 25567)
def dRest (d : Int) : Int := d + 25567 - beg (dYear d)
def dMonth (d : Int) : Int := mo (dYear d) (dRest d)
def dDay (d : Int) : Int := dRest d - cum (dYear d) (dMonth d) + 1
theorem yr_ex {n : Int} (h1 : 0 ≤ n) (h2 : n ≤ 109572) : ∃ y, 1900 ≤ y ∧ y ≤ 2199 ∧ beg y ≤ n ∧ n < beg (y + 1) := by
  have key : ∀ k : Nat, k ≤ 300 → n < beg (1900 + (k : Int)) → ∃ y, 1900 ≤ y ∧ y < 1900 + (k : Int) ∧ beg y ≤ n ∧ n < beg (y + 1) := by
    intro k
    induction k with
    | zero => intro _ h; have := beg_1900; simp only [Int.natCast_zero, Int.add_zero] at h; omega
    | succ k ih =>
      intro hk h
      by_cases hlt : n < beg (1900 + (k : Int))
      · obtain ⟨y, a, b, c, d⟩ := ih (by omega) hlt; exact ⟨y, a, by omega, c, d⟩
      · exact ⟨1900 + (k : Int), by omega, by omega, by omega, by rw [show (1900 + (k : Int)) + 1 = 1900 + ((k + 1 : Nat) : Int) by omega]; exact h⟩
  obtain ⟨y, a, b, c, d⟩ := key 300 (by omega) (by have := beg_2200; simp only [show (1900 + ((300 : Nat) : Int)) = 2200 by decide]; omega)
  exact ⟨y, a, by omega, c, d⟩
theorem mo_ex {y r : Int} (h1 : 0 ≤ r) (h2 : r < 365 + lp y) : ∃ m, 1 ≤ m ∧ m ≤ 12 ∧ cum y m ≤ r ∧ r < cum y (m + 1) := by
  have key : ∀ k : Nat, k ≤ 12 → r < cum y (1 + (k : Int)) → ∃ m, 1 ≤ m ∧ m < 1 + (k : Int) ∧ cum y m ≤ r ∧ r < cum y (m + 1) := by
    intro k
    induction k with
    | zero => intro _ h; have := cum_1 y; simp only [Int.natCast_zero, Int.add_zero] at h; omega
    | succ k ih =>
      intro hk h
      by_cases hlt : r < cum y (1 + (k : Int))
      · obtain ⟨y, a, b, c, d⟩ := ih (by omega) hlt; exact ⟨y, a, by omega, c, d⟩
      · exact ⟨1 + (k : Int), by omega, by omega, by omega, by rw [show (1 + (k : Int)) + 1 = 1 + ((k + 1 : Nat) : Int) by omega]; exact h⟩
  obtain ⟨m, a, b, c, d⟩ := key 12 (by omega) (by have := cum_13 y; simp only [show (1 + ((12 : Nat) : Int)) = 13 by decide]; omega)
  exact ⟨m, a, by omega, c, d⟩
theorem okDay_iff (d : Int) : okDay d = true ↔ -25567 ≤ d ∧ d ≤ 84005 := by simp [okDay]
theorem dYear_spec {d : Int} (h : okDay d = true) : 1900 ≤ dYear d ∧ dYear d ≤ 2199 ∧ 0 ≤ dRest d ∧ dRest d < 365 + lp (dYear d) := by
  rw [okDay_iff] at h
  obtain ⟨y, a, b, c, e⟩ := yr_ex (n := d + 25567) (by omega) (by omega)
  have hy : dYear d = y := yr_eq a b c e
  have hr : dRest d = d + 25567 - beg y := by unfold dRest; rw [hy]
  rw [hr, hy]
  rw [beg_succ] at e; omega
theorem dMonth_spec {d : Int} (h : okDay d = true) : 1 ≤ dMonth d ∧ dMonth d ≤ 12 ∧ 1 ≤ dDay d ∧ dDay d ≤ mlen (dYear d) (dMonth d) := by
  obtain ⟨_, _, h1, h2⟩ := dYear_spec h
  obtain ⟨m, a, b, c, e⟩ := mo_ex h1 h2
  have hm : dMonth d = m := mo_eq a b c e
  have hd : dDay d = dRest d - cum (dYear d) m + 1 := by unfold dDay; rw [hm]
  rw [hd, hm]
  rw [mlen_cum _ _ a b] at e; omega
theorem parts_eq {d y m k : Int} (h1 : 1900 ≤ y) (h2 : y ≤ 2199) (h3 : 1 ≤ m) (h4 : m ≤ 12) (h5 : 1 ≤ k) (h6 : k ≤ mlen y m) (h : d + 25567 = beg y + cum y m + k - 1) :
    dYear d = y ∧ dMonth d = m ∧ dDay d = k := by
  have hc := cum_bd y m
  have hs := mlen_cum y m h3 h4
  have hm := cum_mono y (show m + 1 ≤ 13 by omega)
  have h13 := cum_13 y
  have hb := beg_succ y
  have hc1 := cum_mono y (show 1 ≤ m by omega)
  have c1 := cum_1 y
  have hy : dYear d = y := yr_eq h1 h2 (by omega) (by omega)
  have hr : dRest d = cum y m + k - 1 := by unfold dRest; rw [hy]; omega
  have hmo : dMonth d = m := by unfold dMonth; rw [hy, hr]; exact mo_eq h3 h4 (by omega) (by omega)
  refine ⟨hy, hmo, ?_⟩
  unfold dDay; rw [hmo, hy, hr]; omega
/-- the day of a date -/
def ofDate (y m k : Int) : Int := beg y + cum y m + k - 1 - 25567
def okDate (y m k : Int) : Bool := decide (1900 ≤ y) && decide (y ≤ 2199) && decide (1 ≤ m) && decide (m ≤ 12) && decide (1 ≤ k) && decide (k ≤ mlen y m)
theorem okDate_iff (y m k : Int) : okDate y m k = true ↔ (((((1900 ≤ y ∧ y ≤ 2199) ∧ 1 ≤ m) ∧ m ≤ 12) ∧ 1 ≤ k) ∧ k ≤ mlen y m) := by simp [okDate]
theorem ofDate_ok {y m k : Int} (h : okDate y m k = true) : okDay (ofDate y m k) = true := by
  rw [okDate_iff] at h
  have a := beg_mono (show 1900 ≤ y by omega)
  have b := beg_mono (show y + 1 ≤ 2200 by omega)
  have c := beg_1900
  have e := beg_2200
  have f := beg_succ y
  have g := cum_mono y (show 1 ≤ m by omega)
  have i := cum_mono y (show m + 1 ≤ 13 by omega)
  have j := mlen_cum y m (by omega) (by omega)
  have k1 := cum_1 y
  have k2 := cum_13 y
  rw [okDay_iff]; unfold ofDate; omega
/-- two digits -/
def two (n : Int) : Bs := [UInt8.ofNat (48 + n.toNat / 10 % 10), UInt8.ofNat (48 + n.toNat % 10)]
def four (n : Int) : Bs := [UInt8.ofNat (48 + n.toNat / 1000 % 10), UInt8.ofNat (48 + n.toNat / 100 % 10), UInt8.ofNat (48 + n.toNat / 10 % 10), UInt8.ofNat (48 + n.toNat % 10)]
def dateText (d : Int) : Bs := if okDay d then four (dYear d) ++ [45] ++ two (dMonth d) ++ [45] ++ two (dDay d) else []
def dateErr (d : Int) : Int := if okDay d then 0 else 13
end Go.Proofs.YteeampgbmpolfaaGreatDoor

/- What the walks take of the library's variables ('Env'), and the shelf's contracts in the words 'bs', 'Ext'. -/
namespace Go.Proofs.YteeampgbmpolfaaGreatDoor
open Go.RowKit Go.Shelf

structure Env (w : World) : Prop where
  tab : Lib.TabIs Tryz.prog w "internal/strconv.uint64pow10" .u64 Lib.pow10Tab
  len : ∃ m : Int, w.cell? ⟨0, 0, none⟩ = some (.int .i64 m)
  big : 5 < w.heap.size ∧ 0 < w.heap.size
theorem Env.ext {w w' : World} (h : Env w) (he : Ext w w') : Env w' := by
  refine ⟨?_, ?_, ⟨Nat.lt_of_lt_of_le h.big.1 he.size, Nat.lt_of_lt_of_le h.big.2 he.size⟩⟩
  · exact var?_below he (g := 5) (by kernel_rfl) h.big.1 h.tab
  · obtain ⟨m, hm⟩ := h.len
    exact ⟨m, (he.cell (p := ⟨0, 0, none⟩) h.big.2).trans hm⟩

theorem itoa_any (n : Int) (w : World) (h0 : -9223372036854775808 ≤ n) (h1 : n ≤ 9223372036854775807) (hE : Env w) :
    Calls Tryz.prog 118 #[.int .i64 n] w fun e w' => e = .returned (.string (bs (Lib.itoa n))) ∧ Ext w w' := by
  refine (Tryz.strconv_Itoa n h0 h1 w hE.tab).mono ?_
  rintro e w' ⟨rfl, k, os, rfl⟩
  exact ⟨rfl, Lib.below_grow _ w (Nat.le_refl _) k os⟩
theorem repeat_any (l : Bs) (c : Int) (w : World) (h0 : 0 ≤ c) (hc : c ≤ 1000) (hl : l.length ≤ 1000) :
    Calls Tryz.prog 114 #[.string (bs l), .int .i64 c] w fun e w' => e = .returned (.string (bs (Lib.repeatL l c.toNat))) ∧ Ext w w' := by
  obtain ⟨n, rfl⟩ := Int.eq_ofNat_of_zero_le h0
  refine (Tryz.strings_Repeat (bs l) n w (by omega) (by rw [size_bs]; exact Nat.le_trans (Nat.mul_le_mul hl (show n ≤ 1000 by omega)) (by decide))).mono ?_
  rintro e w' ⟨rfl, hb⟩
  exact ⟨by rw [data_bs, Int.toNat_natCast]; rfl, hb⟩
end Go.Proofs.YteeampgbmpolfaaGreatDoor

/- The walks over the program's integer functions on texts: digits, Canonical, Check, Print, Parse. -/
namespace Go.Proofs.YteeampgbmpolfaaGreatDoor
open Go.RowKit Go.Shelf
attribute [local go_sem] size_bs toList_bs extract_bs get_bs append_bs lit_append append_lit

theorem noZeros_drop (l : Bs) : l.dropWhile (· == 48) = noZeros l := by
  induction l with
  | nil => rfl
  | cons c r ih =>
    unfold noZeros; rw [List.dropWhile_cons]
    by_cases h : c = 48
    · simp [h]; exact ih
    · simp [h]

def trimD (l : Bs) : Bs := Lib.trimS l [48, 49, 50, 51, 52, 53, 54, 55, 56, 57]
theorem isD_mem (c : UInt8) : ([48, 49, 50, 51, 52, 53, 54, 55, 56, 57] : Bs).contains c = isD c := by
  have h : ∀ n : Fin 256, ([48, 49, 50, 51, 52, 53, 54, 55, 56, 57] : Bs).contains (UInt8.ofNat n.val) = isD (UInt8.ofNat n.val) := by decide +kernel
  have hc := h ⟨c.toNat, c.toNat_lt⟩
  simpa using hc
theorem dropWhile_nil_iff (p : UInt8 → Bool) (l : Bs) : l.dropWhile p = [] ↔ l.all p = true := by
  induction l with
  | nil => simp
  | cons c r ih =>
    rw [List.dropWhile_cons]
    by_cases h : p c = true
    · simp only [h, if_true, List.all_cons, Bool.true_and]; exact ih
    · simp [h]
theorem trimD_nil (l : Bs) : trimD l = [] ↔ l.all isD = true := by
  unfold trimD Lib.trimS Lib.trimLeftS Lib.trimRightS
  have he : (fun x => ([48, 49, 50, 51, 52, 53, 54, 55, 56, 57] : Bs).contains x) = isD := funext isD_mem
  rw [he, dropWhile_nil_iff, List.all_reverse]
  constructor
  · intro h
    by_cases hn : l.reverse.dropWhile isD = []
    · rw [dropWhile_nil_iff, List.all_reverse] at hn; exact hn
    · exfalso
      obtain ⟨c, r, hcr⟩ := List.exists_cons_of_ne_nil hn
      have hd := List.head_dropWhile_not isD hn
      rw [hcr] at h
      simp only [List.all_cons, Bool.and_eq_true] at h
      simp only [hcr, List.head_cons] at hd
      rw [h.1] at hd; simp at hd
  · intro h
    have hn : l.reverse.dropWhile isD = [] := by rw [dropWhile_nil_iff, List.all_reverse]; exact h
    rw [hn]; rfl

theorem cutMinus (l : Bs) (w : World) :
    Calls Tryz.prog 153 #[.string (bs l), .string ⟨#[45]⟩] w fun e w' => e = .returned (.tuple #[.string (bs (strip l)), .bool (isMin l)]) ∧ w = w' := by
  refine (Tryz.strings_CutPrefix (bs l) ⟨#[45]⟩ w).mono ?_
  rintro e w' ⟨rfl, rfl⟩
  refine ⟨?_, rfl⟩
  rw [data_bs]
  have h1 : Lib.hasPrefix l [45] = isMin l := by
    unfold Lib.hasPrefix isMin
    cases l with
    | nil => rfl
    | cons c r => show (45 == c && true) = (c == 45); rw [Bool.and_true]; exact BEq.comm
  have h2 : Lib.trimPrefix l [45] = strip l := by
    unfold Lib.trimPrefix strip; rw [h1]
    by_cases h : isMin l = true
    · simp [h]
    · simp [h]
  show Ending.returned (.tuple #[.string ⟨(Lib.trimPrefix l [45]).toArray⟩, .bool (Lib.hasPrefix l [45])]) = _
  rw [h1, h2]; rfl

theorem trimDigits (l : Bs) (w : World) (hs : l.length ≤ 1000000000) :
    Calls Tryz.prog 154 #[.string (bs l), .string ⟨#[48, 49, 50, 51, 52, 53, 54, 55, 56, 57]⟩] w fun e w' => e = .returned (.string (bs (trimD l))) ∧ Ext w w' := by
  refine (Any.strings_Trim_laid Tryz.lays160 (by kernel_rfl) (bs l) ⟨#[48, 49, 50, 51, 52, 53, 54, 55, 56, 57]⟩ w (by rw [size_bs]; omega) (by decide) (ascii_of_all (by decide))).mono ?_
  rintro e w' ⟨rfl, hb⟩
  exact ⟨by rw [data_bs]; rfl, hb⟩

theorem trimZeros (l : Bs) (w : World) :
    Calls Tryz.prog 155 #[.string (bs l), .string ⟨#[48]⟩] w fun e w' => e = .returned (.string (bs (noZeros l))) ∧ w = w' := by
  refine (Tryz.strings_TrimLeft_one (bs l) 48 (by decide) w).mono ?_
  rintro e w' ⟨rfl, rfl⟩
  exact ⟨by rw [data_bs, Lib.trimLeftB, noZeros_drop]; rfl, rfl⟩

theorem mag_of_good {l : Bs} (h : trimD (strip l) = []) : mag l = noZeros (strip l) := magT_good _ ((trimD_nil _).1 h)
theorem mag_of_bad {l : Bs} (h : trimD (strip l) ≠ []) : mag l = [] := by
  unfold mag magT; rw [if_neg (fun hh => h ((trimD_nil _).2 hh))]
theorem neg_of_bad {l : Bs} (h : trimD (strip l) ≠ []) : neg l = false := by
  have := mag_of_bad h; unfold mag at this; unfold neg negT; rw [this]; simp
theorem neg_of_mag (l : Bs) : neg l = (isMin l && !(mag l).isEmpty) := rfl

set_option maxHeartbeats 400000 in
theorem intDigits (l : Bs) (w : World) (hs : l.length ≤ 1000000000) :
    Calls Tryz.prog 109 #[.string (bs l)] w fun e w' => e = .returned (.tuple #[.string (bs (mag l)), .bool (neg l)]) ∧ Ext w w' := by
  have hl := strip_le l
  have HS := Lib.hid (Nat.le_trans hl hs)
  clear hs hl
  go_enter Tryz.func109, Tryz.ntmps109
  go_wp2_with fail
  refine (cutMinus l _).mono ?_
  rintro e w1 ⟨rfl, rfl⟩
  go_wp2_with fail
  refine (trimDigits _ _ HS.out).mono ?_
  rintro e w1 ⟨rfl, hx⟩
  by_cases ht : trimD (strip l) = []
  · have hb : (!(trimD (strip l)).isEmpty) = false := by rw [ht]; rfl
    have HT := Lib.hid ht
    clear ht
    go_wp2_with fail
    refine (trimZeros _ _).mono ?_
    rintro e w2 ⟨rfl, rfl⟩
    go_wp2_with fail
    all_goals
      go_ret2
      refine ⟨?_, hx⟩
      rw [neg_of_mag, mag_of_good HT.out]
      simp [*]
  · have hb : (!(trimD (strip l)).isEmpty) = true := by simp [ht]
    have HT := Lib.hid ht
    clear ht
    go_wp2_with fail
    go_ret2
    exact ⟨by rw [mag_of_bad HT.out, neg_of_bad HT.out]; rfl, hx⟩

set_option maxHeartbeats 400000 in
theorem intCanonical (l : Bs) (w : World) (hs : l.length ≤ 1000000000) :
    Calls Tryz.prog 83 #[.string (bs l)] w fun e w' => e = .returned (.string (bs (canon l))) ∧ Ext w w' := by
  have hm := mag_le l
  go_enter Tryz.func83, Tryz.ntmps83
  go_wp2_with fail
  refine (intDigits l _ hs).mono ?_
  rintro e w1 ⟨rfl, hx⟩
  by_cases hn : neg l = true
  · go_wp2_with fail
    go_ret
    exact ⟨by unfold canon; rw [if_pos hn]; rfl, hx⟩
  · have hnb : neg l = false := by simpa using hn
    go_wp2_with fail
    go_ret
    exact ⟨by unfold canon; rw [if_neg hn]; rfl, hx⟩

set_option maxHeartbeats 400000 in
theorem intCheck (l : Bs) (w : World) (hs : l.length ≤ 1000000000) :
    Calls Tryz.prog 132 #[.string (bs l)] w fun e w' => e = .returned (.int .i64 (checkI l)) ∧ Ext w w' := by
  have HS := Lib.hid hs
  clear hs
  go_enter Tryz.func132, Tryz.ntmps132
  go_wp2_with fail
  refine (intCanonical l _ HS.out).mono ?_
  rintro e w1 ⟨rfl, hx⟩
  by_cases hn : canon l = l
  · have hb : (l == canon l) = true := beq_iff_eq.2 hn.symm
    have HN := Lib.hid hn
    clear hn
    go_wp2_with fail
    go_ret
    exact ⟨by unfold checkI; rw [if_pos HN.out]; rfl, hx⟩
  · have hb : (l == canon l) = false := beq_eq_false_iff_ne.2 (fun h => hn h.symm)
    have HN := Lib.hid hn
    clear hn
    go_wp2_with fail
    go_ret
    exact ⟨by unfold checkI; rw [if_neg HN.out]; rfl, hx⟩

set_option maxHeartbeats 400000 in
theorem intPrint (l : Bs) (w : World) (hs : l.length ≤ 1000000000) :
    Calls Tryz.prog 43 #[.string (bs l)] w fun e w' => e = .returned (.string (bs (printI l))) ∧ Ext w w' := by
  have HS := Lib.hid hs
  clear hs
  go_enter Tryz.func43, Tryz.ntmps43
  go_wp2_with fail
  refine (intCanonical l _ HS.out).mono ?_
  rintro e w1 ⟨rfl, hx⟩
  by_cases hn : canon l = []
  · have hb : (!(canon l).isEmpty) = false := by simp [hn]
    have HN := Lib.hid hn
    clear hn
    go_wp2_with fail
    go_ret
    exact ⟨by unfold printI; rw [if_pos HN.out]; rfl, hx⟩
  · have hb : (!(canon l).isEmpty) = true := by simpa using hn
    have HN := Lib.hid hn
    clear hn
    go_wp2_with fail
    go_ret
    exact ⟨by unfold printI; rw [if_neg HN.out]; rfl, hx⟩

set_option maxHeartbeats 400000 in
theorem intParse (l : Bs) (w : World) (hs : l.length ≤ 1000000000) :
    Calls Tryz.prog 166 #[.string (bs l)] w fun e w' => e = .returned (.tuple #[.string (bs (parseIV l)), .int .i64 (parseIE l)]) ∧ Ext w w' := by
  have HS := Lib.hid hs
  clear hs
  by_cases hl : 65536 < l.length
  · have hlb : decide (65536 < (l.length : Int)) = true := by simp; omega
    go_enter Tryz.func166, Tryz.ntmps166
    go_wp2_with fail
    go_ret2
    exact ⟨by unfold parseIV parseIE; rw [if_pos hl, if_pos hl]; rfl, Ext.refl _⟩
  · have hlb : decide (65536 < (l.length : Int)) = false := by simp; omega
    have HL := Lib.hid hl
    clear hl
    go_enter Tryz.func166, Tryz.ntmps166
    go_wp2_with fail
    refine (intPrint l _ HS.out).mono ?_
    rintro e w1 ⟨rfl, hx⟩
    by_cases hn : printI l = l
    · have hb : (printI l == l) = true := beq_iff_eq.2 hn
      have HN := Lib.hid hn
      clear hn
      go_wp2_with fail
      refine (intCanonical l _ HS.out).mono ?_
      rintro e w2 ⟨rfl, hx2⟩
      go_wp2_with fail
      go_ret2
      exact ⟨by unfold parseIV parseIE; rw [if_neg HL.out, if_neg HL.out, if_neg (fun h => h HN.out), if_neg (fun h => h HN.out)]; rfl, hx.trans hx2⟩
    · have hb : (printI l == l) = false := by simpa using hn
      have HN := Lib.hid hn
      clear hn
      go_wp2_with fail
      go_ret2
      exact ⟨by unfold parseIV parseIE; rw [if_neg HL.out, if_neg HL.out, if_pos HN.out, if_pos HN.out]; rfl, hx⟩
end Go.Proofs.YteeampgbmpolfaaGreatDoor

/- The walks over the reference's integer functions that read no memory: digits, Canonical, Check, Print, Parse. -/
namespace Go.Proofs.YteeampgbmpolfaaGreatDoor
open Go.RowKit
attribute [local go_sem] size_bs toList_bs extract_bs get_bs append_bs lit_append append_lit

set_option maxHeartbeats 1000000 in
theorem refDigits_core (l t : Bs) (b : Bool) (w : World) (hs : (t.length : Int) ≤ 1000000000000) (hcase : (l = 45 :: t ∧ b = true) ∨ (t = l ∧ b = false ∧ isMin t = false)) :
    Calls Tryz.prog 121 #[.string (bs l)] w fun e w' => e = .returned (.tuple #[.string (bs (magT t)), .bool (negT b t)]) ∧ w = w' := by
  have key : (l = 45 :: t ∧ b = true) ∨ (t = l ∧ b = false ∧ ∃ h0 : 0 < t.length, ((t[0].toNat : Int) == 45) = false) ∨ (t = l ∧ b = false ∧ ¬ 0 < t.length) := by
    rcases hcase with h | ⟨rfl, rfl, hm⟩
    · exact .inl h
    · cases t with
      | nil => exact .inr (.inr ⟨rfl, rfl, by simp⟩)
      | cons c r => exact .inr (.inl ⟨rfl, rfl, by simp, by have := byte_ne (c := c) (d := 45) (by simpa [isMin] using hm); simpa using this⟩)
  clear hcase
  rcases key with ⟨rfl, rfl⟩ | ⟨rfl, rfl, h0, h1⟩ | ⟨rfl, rfl, h0⟩
  all_goals
    go_enter Tryz.func121, Tryz.ntmps121
    go_wp2
    go_loop [6] (fun i => ∃ k : Nat, k ≤ t.length ∧ i = .int .i64 k ∧ (t.take k).all isD = true) (fun i => t.length - (intOf i).toNat)
    case atStart => exact ⟨0, Nat.zero_le _, rfl, rfl⟩
    case round =>
      obtain ⟨k, hk, rfl, hd⟩ := hrel
      have HD := Lib.hid hd
      clear hd
      by_cases hlt : k < t.length
      · by_cases hA : (t[k].toNat : Int) < 48
        · go_wp2
          go_ret2
          exact ⟨by rw [magT_bad t k hlt (by left; exact_mod_cast hA), negT_bad _ t k hlt (by left; exact_mod_cast hA)]; rfl, rfl⟩
        · by_cases hB : 57 < (t[k].toNat : Int)
          · go_wp2
            go_ret2
            exact ⟨by rw [magT_bad t k hlt (by right; exact_mod_cast hB), negT_bad _ t k hlt (by right; exact_mod_cast hB)]; rfl, rfl⟩
          · go_wp2
            go_round
            case rel => exact ⟨k + 1, by omega, by go_num, take_all_succ t k hlt HD.out (by omega) (by omega)⟩
            case measure => simp [intOf]; omega
      · have hall := Lib.hid (take_all_end t k hlt HD.out)
        go_wp2
        go_loop [4] (fun v => ∃ r : Bs, v = .string (bs r) ∧ r.length ≤ t.length ∧ noZeros r = noZeros t) (fun v => strLen v)
        case atStart => exact ⟨t, rfl, Nat.le_refl _, rfl⟩
        case round =>
          obtain ⟨r, rfl, hrl, hz⟩ := hrel
          have HZ := Lib.hid hz
          clear hz
          cases r with
          | nil =>
            go_wp2
            go_ret2
            exact ⟨by rw [magT_good t hall.out, negT_good _ t hall.out, ← HZ.out]; simp [noZeros], rfl⟩
          | cons c q =>
            by_cases hc : c = 48
            · subst hc
              go_wp2
              go_round
              case rel => exact ⟨q, rfl, by simp at hrl; omega, HZ.out⟩
              case measure => simp [strLen, size_bs]
            · have hcb : ((c.toNat : Int) == 48) = false := by have := byte_ne (c := c) (d := 48) hc; simpa using this
              go_wp2
              go_ret2
              exact ⟨by rw [magT_good t hall.out, negT_good _ t hall.out, ← HZ.out]; simp [noZeros, hc], rfl⟩

theorem refDigits (l : Bs) (w : World) (hs : l.length ≤ 1000000000) :
    Calls Tryz.prog 121 #[.string (bs l)] w fun e w' => e = .returned (.tuple #[.string (bs (mag l)), .bool (neg l)]) ∧ w = w' := by
  have hl := strip_le l
  refine refDigits_core l (strip l) (isMin l) w (by omega) ?_
  unfold strip
  cases l with
  | nil => exact .inr ⟨rfl, rfl, rfl⟩
  | cons c r =>
    by_cases h : c = 45
    · left; simp [isMin, h]
    · right; simp [isMin, h]

set_option maxHeartbeats 400000 in
theorem refCanonical (l : Bs) (w : World) (hs : l.length ≤ 1000000000) :
    Calls Tryz.prog 86 #[.string (bs l)] w fun e w' => e = .returned (.string (bs (canon l))) ∧ w = w' := by
  have hm := mag_le l
  go_enter Tryz.func86, Tryz.ntmps86
  go_wp2_with fail
  refine (refDigits l _ hs).mono ?_
  rintro e w1 ⟨rfl, rfl⟩
  by_cases hn : neg l = true
  · go_wp2_with fail
    go_ret
    exact ⟨by unfold canon; rw [if_pos hn]; rfl, rfl⟩
  · have hnb : neg l = false := by simpa using hn
    go_wp2_with fail
    go_ret
    exact ⟨by unfold canon; rw [if_neg hn]; rfl, rfl⟩

set_option maxHeartbeats 400000 in
theorem refCheckI (l : Bs) (w : World) (hs : l.length ≤ 1000000000) :
    Calls Tryz.prog 74 #[.string (bs l)] w fun e w' => e = .returned (.int .i64 (checkI l)) ∧ w = w' := by
  have HS := Lib.hid hs
  clear hs
  go_enter Tryz.func74, Tryz.ntmps74
  go_wp2_with fail
  refine (refCanonical l _ HS.out).mono ?_
  rintro e w1 ⟨rfl, rfl⟩
  by_cases hn : canon l = l
  · have hb : (canon l == l) = true := beq_iff_eq.2 hn
    have HN := Lib.hid hn
    clear hn
    go_wp2_with fail
    go_ret
    exact ⟨by unfold checkI; rw [if_pos HN.out]; rfl, rfl⟩
  · have hb : (canon l == l) = false := beq_eq_false_iff_ne.2 hn
    have HN := Lib.hid hn
    clear hn
    go_wp2_with fail
    go_ret
    exact ⟨by unfold checkI; rw [if_neg HN.out]; rfl, rfl⟩

set_option maxHeartbeats 400000 in
theorem refPrintI (l : Bs) (w : World) (hs : l.length ≤ 1000000000) :
    Calls Tryz.prog 47 #[.string (bs l)] w fun e w' => e = .returned (.string (bs (printI l))) ∧ w = w' := by
  have HS := Lib.hid hs
  clear hs
  go_enter Tryz.func47, Tryz.ntmps47
  go_wp2_with fail
  refine (refCanonical l _ HS.out).mono ?_
  rintro e w1 ⟨rfl, rfl⟩
  by_cases hn : canon l = []
  · have hb : (canon l).isEmpty = true := by simp [hn]
    have HN := Lib.hid hn
    clear hn
    go_wp2_with fail
    go_ret
    exact ⟨by unfold printI; rw [if_pos HN.out]; rfl, rfl⟩
  · have hb : (canon l).isEmpty = false := by simpa using hn
    have HN := Lib.hid hn
    clear hn
    go_wp2_with fail
    go_ret
    exact ⟨by unfold printI; rw [if_neg HN.out]; rfl, rfl⟩

set_option maxHeartbeats 400000 in
theorem refParseI (l : Bs) (w : World) (hs : l.length ≤ 1000000000) :
    Calls Tryz.prog 94 #[.string (bs l)] w fun e w' => e = .returned (.tuple #[.string (bs (parseIV l)), .int .i64 (parseIE l)]) ∧ w = w' := by
  have HS := Lib.hid hs
  clear hs
  by_cases hl : 65536 < l.length
  · have hlb : decide (65536 < (l.length : Int)) = true := by simp; omega
    go_enter Tryz.func94, Tryz.ntmps94
    go_wp2_with fail
    go_ret2
    exact ⟨by unfold parseIV parseIE; rw [if_pos hl, if_pos hl]; rfl, rfl⟩
  · have hlb : decide (65536 < (l.length : Int)) = false := by simp; omega
    have HL := Lib.hid hl
    clear hl
    by_cases he : l = []
    · subst he
      go_enter Tryz.func94, Tryz.ntmps94
      go_wp2_with fail
      go_ret2
      exact ⟨rfl, rfl⟩
    · have heb : l.isEmpty = false := by simpa using he
      clear he
      go_enter Tryz.func94, Tryz.ntmps94
      go_wp2_with fail
      refine (refPrintI l _ HS.out).mono ?_
      rintro e w1 ⟨rfl, rfl⟩
      by_cases hn : printI l = l
      · have hb : (printI l == l) = true := beq_iff_eq.2 hn
        have HN := Lib.hid hn
        clear hn
        go_wp2_with fail
        refine (refCanonical l _ HS.out).mono ?_
        rintro e w2 ⟨rfl, rfl⟩
        go_wp2_with fail
        go_ret2
        exact ⟨by unfold parseIV parseIE; rw [if_neg HL.out, if_neg HL.out, if_neg (fun h => h HN.out), if_neg (fun h => h HN.out)]; rfl, rfl⟩
      · have hb : (printI l == l) = false := by simpa using hn
        have HN := Lib.hid hn
        clear hn
        go_wp2_with fail
        go_ret2
        exact ⟨by unfold parseIV parseIE; rw [if_neg HL.out, if_neg HL.out, if_pos HN.out, if_pos HN.out]; rfl, rfl⟩

theorem refGreatI (l : Bs) (w : World) :
    Calls Tryz.prog 38 #[.string (bs l)] w fun e w' => e = .returned (.bool (decide (60 < (l.length : Int)))) ∧ w = w' := by
  go_enter Tryz.func38, Tryz.ntmps38
  go_wp2_with fail
  go_ret
  exact ⟨rfl, rfl⟩
end Go.Proofs.YteeampgbmpolfaaGreatDoor

/- The walks: names (program and reference), numbers of digits. -/
namespace Go.Proofs.YteeampgbmpolfaaGreatDoor
open Go.RowKit
attribute [local go_sem] size_bs toList_bs extract_bs get_bs append_bs lit_append append_lit

set_option maxHeartbeats 400000 in
theorem insName (l : Bs) (w : World) (hs : l.length ≤ 1000000000) :
    Calls Tryz.prog 98 #[.string (bs l)] w fun e w' => e = .returned (.bool (isName l)) ∧ Ext w w' := by
  by_cases h0 : l.length = 0
  · obtain rfl : l = [] := List.eq_nil_of_length_eq_zero h0
    go_enter Tryz.func98, Tryz.ntmps98
    go_wp2_with fail
    go_ret
    exact ⟨rfl, Ext.refl _⟩
  have h0b : ((l.length : Int) == 0) = false := by rw [beq_eq_false_iff_ne]; omega
  by_cases h1 : 16 < l.length
  · have h1b : decide (16 < (l.length : Int)) = true := by simp; omega
    clear h0
    go_enter Tryz.func98, Tryz.ntmps98
    go_wp2_with fail
    go_ret
    exact ⟨by simp [isName]; omega, Ext.refl _⟩
  have h1b : decide (16 < (l.length : Int)) = false := by simp; omega
  obtain ⟨cap, w1, hrun, hx, hsz, hcell⟩ := conv_bytes (P := Tryz.prog) w 9 67 5 l Tryz.underlying9 Tryz.underlying67 Tryz.underlying5
  have HC := Lib.hid hcell
  have HN : Hid (1 ≤ l.length) := Lib.hid (by omega)
  clear hcell hsz h0
  go_enter Tryz.func98, Tryz.ntmps98
  go_wp2_with fail
  go_loop [16] (fun i => ∃ k : Nat, k ≤ l.length ∧ i = .int .i64 k ∧ (l.take k).all isN = true) (fun i => l.length - (intOf i).toNat)
  case atStart => exact ⟨0, Nat.zero_le _, rfl, rfl⟩
  case round =>
    obtain ⟨k, hk, rfl, hd⟩ := hrel
    have HD := Lib.hid hd
    clear hd hrun
    by_cases hlt : k < l.length
    · have hc := HC.out k hlt
      by_cases h95 : ((l[k]'hlt).toNat : Int) = 95
      · have h95a : ((l[k]'hlt).toNat : Int) ≤ 95 := by omega
        have h95c : 95 ≤ ((l[k]'hlt).toNat : Int) := by omega
        have h95b : (((l[k]'hlt).toNat : Int) != 95) = false := by rw [bne_eq_false_iff_eq]; exact h95
        clear h95
        go_wp2_with fail
        all_goals
          go_round
          case rel => exact ⟨k + 1, by omega, by go_num, takeN_succ l k hlt HD.out (isN_good (by omega))⟩
          case measure => simp [intOf]; omega
      · have h95b : (((l[k]'hlt).toNat : Int) != 95) = true := by rw [bne_iff_ne]; exact h95
        go_wp2_with fail
        all_goals first
          | (go_ret
             exact ⟨by rw [isName_bad l k hlt (isN_bad (by omega))]; rfl, hx⟩)
          | (go_round
             case rel => exact ⟨k + 1, by omega, by go_num, takeN_succ l k hlt HD.out (isN_good (by omega))⟩
             case measure => simp [intOf]; omega)
    · go_wp2_with fail
      go_ret
      exact ⟨by rw [isName_good l k hlt HD.out HN.out (by omega)]; rfl, hx⟩

set_option maxHeartbeats 400000 in
theorem refName (l : Bs) (w : World) (hs : l.length ≤ 1000000000) :
    Calls Tryz.prog 73 #[.string (bs l)] w fun e w' => e = .returned (.bool (isName l)) ∧ w = w' := by
  go_enter Tryz.func73, Tryz.ntmps73
  go_wp2_with fail
  go_loop [3] (fun i => ∃ k : Nat, k ≤ l.length ∧ i = .int .i64 k ∧ (l.take k).all isN = true) (fun i => l.length - (intOf i).toNat)
  case atStart => exact ⟨0, Nat.zero_le _, rfl, rfl⟩
  case round =>
    obtain ⟨k, hk, rfl, hd⟩ := hrel
    have HD := Lib.hid hd
    clear hd
    by_cases hlt : k < l.length
    · by_cases h95 : ((l[k]'hlt).toNat : Int) = 95
      · have h95a : ((l[k]'hlt).toNat : Int) ≤ 95 := by omega
        have h95c : 95 ≤ ((l[k]'hlt).toNat : Int) := by omega
        have h95b : (((l[k]'hlt).toNat : Int) != 95) = false := by rw [bne_eq_false_iff_eq]; exact h95
        clear h95
        go_wp2_with fail
        all_goals
          go_round
          case rel => exact ⟨k + 1, by omega, by go_num, takeN_succ l k hlt HD.out (isN_good (by omega))⟩
          case measure => simp [intOf]; omega
      · have h95b : (((l[k]'hlt).toNat : Int) != 95) = true := by rw [bne_iff_ne]; exact h95
        go_wp2_with fail
        all_goals first
          | (go_ret
             exact ⟨by rw [isName_bad l k hlt (isN_bad (by omega))]; rfl, rfl⟩)
          | (go_round
             case rel => exact ⟨k + 1, by omega, by go_num, takeN_succ l k hlt HD.out (isN_good (by omega))⟩
             case measure => simp [intOf]; omega)
    · have hall := Lib.hid (takeN_end l k hlt HD.out)
      by_cases h1 : 1 ≤ l.length
      · by_cases h2 : l.length ≤ 16
        · have h1b : decide (1 ≤ (l.length : Int)) = true := by simp; omega
          have h2b : decide ((l.length : Int) ≤ 16) = true := by simp; omega
          go_wp2_with fail
          go_ret
          exact ⟨by rw [isName_all l hall.out]; simp [h1, h2], rfl⟩
        · have h1b : decide (1 ≤ (l.length : Int)) = true := by simp; omega
          have h2b : decide ((l.length : Int) ≤ 16) = false := by simp; omega
          go_wp2_with fail
          go_ret
          exact ⟨by rw [isName_all l hall.out]; simp [h2], rfl⟩
      · have h1b : decide (1 ≤ (l.length : Int)) = false := by simp; omega
        go_wp2_with fail
        go_ret
        exact ⟨by rw [isName_all l hall.out]; simp [h1], rfl⟩

set_option maxHeartbeats 400000 in
theorem refDigs (l : Bs) (w : World) (hs : l.length ≤ 1000000000) :
    Calls Tryz.prog 75 #[.string (bs l)] w fun e w' => e = .returned (.int .i64 (digs l)) ∧ w = w' := by
  cases l with
  | nil =>
    go_enter Tryz.func75, Tryz.ntmps75
    go_wp2_with fail
    go_ret
    exact ⟨rfl, rfl⟩
  | cons c r =>
    by_cases hc : c = 45
    · subst hc
      have hr : r.length ≤ 1000000000 := by simp at hs; omega
      go_enter Tryz.func75, Tryz.ntmps75
      go_wp2_with fail
      go_ret
      exact ⟨by simp [digs, strip, isMin], rfl⟩
    · have hcb : ((c.toNat : Int) == 45) = false := by have := byte_ne (c := c) (d := 45) hc; simpa using this
      go_enter Tryz.func75, Tryz.ntmps75
      go_wp2_with fail
      go_ret
      exact ⟨by simp [digs, strip, isMin, hc], rfl⟩
end Go.Proofs.YteeampgbmpolfaaGreatDoor

/- The walks over the program's dates. -/
namespace Go.Proofs.YteeampgbmpolfaaGreatDoor
open Go.RowKit
attribute [local go_sem] size_bs toList_bs extract_bs get_bs append_bs lit_append append_lit

theorem results_tmp4 {fn : Func} {t u v x : Tmp} (h : fn.results = #[.tmp t, .tmp u, .tmp v, .tmp x]) (tmps : Array Value) (P : Program) (w : World) :
    (results fn tmps).run P w = .ok (.tuple #[tmps.getD t undef, tmps.getD u undef, tmps.getD v undef, tmps.getD x undef]) w := by simp [results, h]

theorem datLeap (y : Int) (w : World) (h0 : 0 ≤ y) (h1 : y ≤ 100000) :
    Calls Tryz.prog 201 #[.int .i64 y] w fun e w' => e = .returned (.bool (leap y)) ∧ w = w' := by
  by_cases a : y % 4 = 0
  · have ab : (y % 4 == 0) = true := by simp [a]
    by_cases b : y % 100 = 0
    · have bb : (y % 100 != 0) = false := by simp [b]
      clear a b
      go_enter Tryz.func201, Tryz.ntmps201
      go_wp2_with fail
      go_ret
      exact ⟨by simp [leap, ab, bb], rfl⟩
    · have bb : (y % 100 != 0) = true := by simp [b]
      clear a b
      go_enter Tryz.func201, Tryz.ntmps201
      go_wp2_with fail
      go_ret
      exact ⟨by simp [leap, ab, bb], rfl⟩
  · have ab : (y % 4 == 0) = false := by simp [a]
    clear a
    go_enter Tryz.func201, Tryz.ntmps201
    go_wp2_with fail
    go_ret
    exact ⟨by simp [leap, ab], rfl⟩

theorem datBegin (y : Int) (w : World) (h0 : 1 ≤ y) (h1 : y ≤ 100000) :
    Calls Tryz.prog 162 #[.int .i64 y] w fun e w' => e = .returned (.int .i64 (beg y)) ∧ w = w' := by
  go_enter Tryz.func162, Tryz.ntmps162
  go_wp2_with fail
  go_ret
  exact ⟨rfl, rfl⟩

set_option maxHeartbeats 2000000 in
theorem datLength (y m : Int) (w : World) (h0 : 0 ≤ y) (h1 : y ≤ 100000) (h2 : 1 ≤ m) (h3 : m ≤ 12) :
    Calls Tryz.prog 163 #[.int .i64 y, .int .i64 m] w fun e w' => e = .returned (.int .i64 (mlen y m)) ∧ Ext w w' := by
  by_cases hm : m = 2
  · subst hm
    cases hl : leap y with
    | true =>
      have HL := Lib.hid hl
      clear hl
      go_enter Tryz.func163, Tryz.ntmps163
      go_wp2_with fail
      refine (datLeap y _ h0 h1).mono ?_
      rintro e w1 ⟨rfl, rfl⟩
      rw [HL.out]
      go_wp2_with fail
      go_ret
      exact ⟨by simp [mlen, lp, HL.out], Ext.new _ _⟩
    | false =>
      have HL := Lib.hid hl
      clear hl
      go_enter Tryz.func163, Tryz.ntmps163
      go_wp2_with fail
      refine (datLeap y _ h0 h1).mono ?_
      rintro e w1 ⟨rfl, rfl⟩
      rw [HL.out]
      go_wp2_with fail
      go_ret
      exact ⟨by simp [mlen, lp, HL.out], Ext.new _ _⟩
  · have hmm : m = 1 ∨ m = 3 ∨ m = 4 ∨ m = 5 ∨ m = 6 ∨ m = 7 ∨ m = 8 ∨ m = 9 ∨ m = 10 ∨ m = 11 ∨ m = 12 := by omega
    rcases hmm with rfl | rfl | rfl | rfl | rfl | rfl | rfl | rfl | rfl | rfl | rfl
    all_goals
      go_enter Tryz.func163, Tryz.ntmps163
      go_wp2_with fail
      go_ret
      exact ⟨rfl, Ext.new _ _⟩
end Go.Proofs.YteeampgbmpolfaaGreatDoor

/- The walks over the program's dates: Parts, Print. -/
namespace Go.Proofs.YteeampgbmpolfaaGreatDoor
open Go.RowKit
attribute [local go_sem] size_bs toList_bs extract_bs get_bs append_bs lit_append append_lit

theorem datValid (d : Int) (w : World) :
    Calls Tryz.prog 161 #[.int .i64 d] w fun e w' => e = .returned (.bool (okDay d)) ∧ w = w' := by
  by_cases a : -25567 ≤ d
  · have ab : decide (-25567 ≤ d) = true := by simp [a]
    go_enter Tryz.func161, Tryz.ntmps161
    go_wp2_with fail
    go_ret
    exact ⟨by simp [okDay, a], rfl⟩
  · have ab : decide (-25567 ≤ d) = false := by simp [a]
    go_enter Tryz.func161, Tryz.ntmps161
    go_wp2_with fail
    go_ret
    exact ⟨by simp [okDay]; omega, rfl⟩

theorem beg_guess {n : Int} (h0 : 0 ≤ n) (h1 : n ≤ 109572) : beg (1900 + n / 366) ≤ n ∧ 1900 + n / 366 ≤ 2199 := by unfold beg; omega
theorem beg_bd {y : Int} (h0 : 1900 ≤ y) (h1 : y ≤ 2200) : 0 ≤ beg y ∧ beg y ≤ 109573 := by
  have a := beg_mono h0; have b := beg_mono h1; rw [beg_1900] at a; rw [beg_2200] at b; exact ⟨a, b⟩

set_option maxHeartbeats 400000 in
theorem datParts_no (d : Int) (w : World) (h : okDay d = false) :
    Calls Tryz.prog 116 #[.int .i64 d] w fun e w' => e = .returned (.tuple #[.int .i64 0, .int .i64 0, .int .i64 0, .int .i64 13]) ∧ w = w' := by
  have H := Lib.hid h
  clear h
  go_enter Tryz.func116, Tryz.ntmps116
  go_wp2_with fail
  refine (datValid d _).mono ?_
  rintro e w1 ⟨rfl, rfl⟩
  rw [H.out]
  go_wp2_with fail
  refine bodyPost_ret (results_tmp4 rfl _ _ _) rfl ?_
  exact ⟨rfl, rfl⟩

set_option maxHeartbeats 1000000 in
theorem datParts_yes (d : Int) (w : World) (h : okDay d = true) :
    Calls Tryz.prog 116 #[.int .i64 d] w fun e w' => e = .returned (.tuple #[.int .i64 (dYear d), .int .i64 (dMonth d), .int .i64 (dDay d), .int .i64 0]) ∧ Ext w w' := by
  have hd := (okDay_iff d).1 h
  obtain ⟨hd1, hd2⟩ := hd
  have H := Lib.hid h
  clear h
  go_enter Tryz.func116, Tryz.ntmps116
  go_wp2_with fail
  refine (datValid d _).mono ?_
  rintro e w1 ⟨rfl, rfl⟩
  rw [H.out]
  go_wp2_with fail
  go_loop [7] (fun v => ∃ y : Int, 1900 ≤ y ∧ y ≤ 2199 ∧ beg y ≤ d + 25567 ∧ v = .int .i64 y) (fun v => (2200 - intOf v).toNat)
  case atStart =>
    have := beg_guess (n := d + 25567) (by omega) (by omega)
    exact ⟨_, by omega, this.2, this.1, rfl⟩
  case round =>
    obtain ⟨y, hy1, hy2, hy3, rfl⟩ := hrel
    have hb1 := beg_bd hy1 (by omega)
    have hb2 := beg_bd (show 1900 ≤ y + 1 by omega) (by omega)
    go_wp2_with fail
    refine (datBegin (y + 1) _ (by omega) (by omega)).mono ?_
    rintro e w1 ⟨rfl, rfl⟩
    by_cases hc : beg (y + 1) ≤ d + 25567
    · go_wp2_with fail
      go_round
      case rel =>
        refine ⟨y + 1, by omega, ?_, hc, rfl⟩
        rcases Int.lt_or_le y 2199 with h | h
        · omega
        · obtain rfl : y = 2199 := by omega
          have := beg_2200; simp only [show (2199 : Int) + 1 = 2200 by decide] at hc; omega
      case measure => simp [intOf]; omega
    · have HC := Lib.hid hc
      have hs := beg_succ y
      have hl := lp_01 y
      have hr1 : d + 25567 - beg y < 365 + lp y := by omega
      have HS := Lib.hid hs
      clear hs
      go_wp2_with fail
      refine (datBegin y _ (by omega) (by omega)).mono ?_
      rintro e w1 ⟨rfl, rfl⟩
      go_wp2_with fail
      go_loopw [6, 8] (fun v k wr => ∃ m : Int, 1 ≤ m ∧ m ≤ 12 ∧ cum y m ≤ d + 25567 - beg y ∧ v = .int .i64 (d + 25567 - beg y - cum y m) ∧ k = .int .i64 m ∧ Ext w wr) (fun _ k _ => (13 - intOf k).toNat)
      case atStart => exact ⟨1, by omega, by omega, by rw [cum_1]; omega, by rw [cum_1, Int.sub_zero], rfl, Ext.refl _⟩
      case round =>
        obtain ⟨m, hm1, hm2, hm3, rfl, rfl, hx⟩ := hrel
        have hml := mlen_bd y m
        have hcb := cum_bd y m
        go_wp2_with fail
        refine (datLength y m _ (by omega) (by omega) (by omega) (by omega)).mono ?_
        rintro e w1 ⟨rfl, hx1⟩
        by_cases hg : mlen y m ≤ d + 25567 - beg y - cum y m
        · go_wp2_with fail
          refine (datLength y m _ (by omega) (by omega) (by omega) (by omega)).mono ?_
          rintro e w2 ⟨rfl, hx2⟩
          go_wp2_with fail
          have hs2 := mlen_cum y m hm1 hm2
          go_roundw
          case rel =>
            refine ⟨m + 1, by omega, ?_, by rw [hs2]; omega, by rw [hs2]; congr 1; omega, rfl, (hx.trans hx1).trans hx2⟩
            rcases Int.lt_or_le m 12 with h | h
            · omega
            · obtain rfl : m = 12 := by omega
              have := cum_13 y; simp only [show (12 : Int) + 1 = 13 by decide] at hs2; omega
          case measure => simp [intOf]; omega
        · go_wp2_with fail
          refine bodyPost_ret (results_tmp4 rfl _ _ _) rfl ?_
          obtain ⟨e1, e2, e3⟩ := parts_eq (d := d) (y := y) (m := m) (k := d + 25567 - beg y - cum y m + 1) hy1 hy2 hm1 hm2 (by omega) (by omega) (by omega)
          rw [e1, e2, e3]
          exact ⟨rfl, hx.trans hx1⟩
end Go.Proofs.YteeampgbmpolfaaGreatDoor

/- The walks over the program's dates: Print, dayText. -/
namespace Go.Proofs.YteeampgbmpolfaaGreatDoor
open Go.RowKit
attribute [local go_sem] size_bs toList_bs extract_bs get_bs append_bs lit_append append_lit

theorem dec1 (u : Nat) (h : u < 10) : Lib.decDigits u = [UInt8.ofNat (48 + u)] := by rw [Lib.decDigits, dif_pos h]
theorem decS (u : Nat) (h : ¬ u < 10) : Lib.decDigits u = Lib.decDigits (u / 10) ++ [UInt8.ofNat (48 + u % 10)] := by rw [Lib.decDigits, dif_neg h]
theorem two_dec (u : Nat) (h : u < 100) : Lib.repeatL [48] (2 - (Lib.decDigits u).length) ++ Lib.decDigits u = two (u : Int) := by
  unfold two; rw [Int.toNat_natCast]
  by_cases h1 : u < 10
  · rw [dec1 u h1]
    have : u / 10 = 0 := by omega
    simp [Lib.repeatL, this, Nat.mod_eq_of_lt h1]
  · rw [decS u h1, dec1 (u / 10) (by omega)]
    simp [Lib.repeatL, Nat.mod_eq_of_lt (show u / 10 < 10 by omega)]
theorem dec_len (u : Nat) (h : u < 100) : 1 ≤ (Lib.decDigits u).length ∧ (Lib.decDigits u).length ≤ 2 := by
  by_cases h1 : u < 10
  · rw [dec1 u h1]; simp
  · rw [decS u h1, dec1 (u / 10) (by omega)]; simp
theorem itoa_four (y : Int) (h0 : 1000 ≤ y) (h1 : y ≤ 9999) : Lib.itoa y = four y := by
  obtain ⟨u, rfl⟩ := Int.eq_ofNat_of_zero_le (show 0 ≤ y by omega)
  unfold Lib.itoa four; rw [if_neg (by omega), Int.toNat_natCast]
  rw [decS u (by omega), decS (u / 10) (by omega), decS (u / 10 / 10) (by omega), dec1 (u / 10 / 10 / 10) (by omega)]
  have e1 : u / 1000 % 10 = u / 10 / 10 / 10 := by omega
  have e2 : u / 100 % 10 = u / 10 / 10 % 10 := by omega
  rw [e1, e2]; rfl

theorem itoa_small (i : Nat) (w : World) (hi : i < 100) :
    Calls Tryz.prog 118 #[.int .i64 i] w fun e w' => e = .returned (.string (bs (Lib.decDigits i))) ∧ w = w' :=
  (Tryz.strconv_Itoa_small i hi w).mono fun _ _ h => ⟨h.1, h.2.symm⟩

theorem two_eq (n : Nat) (d : Bs) (hd : Lib.decDigits n = d) (h : n < 100) : Lib.repeatL [48] (2 - (d.length : Int)).toNat ++ d = two (n : Int) := by
  subst hd
  have := dec_len n h
  rw [← two_dec n h, show (2 - ((Lib.decDigits n).length : Int)).toNat = 2 - (Lib.decDigits n).length by omega]

set_option maxHeartbeats 400000 in
theorem datTwo (n : Int) (w : World) (h0 : 0 ≤ n) (h1 : n < 100) :
    Calls Tryz.prog 117 #[.int .i64 n] w fun e w' => e = .returned (.string (bs (two n))) ∧ Ext w w' := by
  obtain ⟨i, rfl⟩ := Int.eq_ofNat_of_zero_le h0
  have hl := dec_len i (by omega)
  have H2 := fun d hd => Lib.hid (two_eq i d hd (by omega))
  have hI := fun W => Lib.hid (itoa_small i W (by omega))
  generalize hd : Lib.decDigits i = d at *
  have HH := H2 d rfl
  have HD := Lib.hid hd
  clear hd H2
  have HI := Lib.hid hI
  clear hI
  go_enter Tryz.func117, Tryz.ntmps117
  go_wp2_with fail
  refine (HI.out _).out.mono ?_
  rintro e w1 ⟨rfl, rfl⟩
  go_wp2_with fail
  refine (repeat_any [48] (2 - (d.length : Int)) _ (by omega) (by omega) (by simp)).mono ?_
  rintro e w1 ⟨rfl, hx⟩
  have hrl := Lib.repeatL_length [48] (2 - (d.length : Int)).toNat
  have hrb : (Lib.repeatL [48] (2 - (d.length : Int)).toNat).length ≤ 2 := by rw [hrl]; simp
  clear hrl
  have HH2 := HH.out
  generalize hz : Lib.repeatL [48] (2 - (d.length : Int)).toNat = z at *
  have HZ := Lib.hid hz
  have HH3 := Lib.hid HH2
  clear hz HH2
  go_wp2_with fail
  refine (HI.out _).out.mono ?_
  rintro e w2 ⟨rfl, rfl⟩
  go_wp2_with fail
  go_ret
  exact ⟨by rw [← HH3.out]; rfl, hx⟩

set_option maxHeartbeats 400000 in
theorem datPrint (d : Int) (w : World) (hE : Env w) :
    Calls Tryz.prog 82 #[.int .i64 d] w fun e w' => e = .returned (.tuple #[.string (bs (dateText d)), .int .i64 (dateErr d)]) ∧ Ext w w' := by
  cases h : okDay d with
  | false =>
    have H := Lib.hid h
    clear h
    go_enter Tryz.func82, Tryz.ntmps82
    go_wp2_with fail
    refine (datParts_no d _ H.out).mono ?_
    rintro e w1 ⟨rfl, rfl⟩
    go_wp2_with fail
    go_ret2
    exact ⟨by unfold dateText dateErr; rw [H.out]; rfl, Ext.refl _⟩
  | true =>
    obtain ⟨a1, a2, _, _⟩ := dYear_spec h
    obtain ⟨b1, b2, b3, b4⟩ := dMonth_spec h
    have hml := mlen_bd (dYear d) (dMonth d)
    have H := Lib.hid h
    clear h
    have hI4 := itoa_four (dYear d) (by omega) (by omega)
    have HI4 := Lib.hid hI4
    clear hI4
    go_enter Tryz.func82, Tryz.ntmps82
    go_wp2_with fail
    refine (datParts_yes d _ H.out).mono ?_
    rintro e w1 ⟨rfl, hx1⟩
    go_wp2_with fail
    refine (itoa_any (dYear d) _ (by omega) (by omega) (hE.ext hx1)).mono ?_
    rintro e w2 ⟨rfl, hx2⟩
    rw [HI4.out]
    have hf4 : (four (dYear d)).length ≤ 4 := by simp [four]
    go_wp2_with fail
    refine (datTwo (dMonth d) _ (by omega) (by omega)).mono ?_
    rintro e w3 ⟨rfl, hx3⟩
    have hf2 : (two (dMonth d)).length ≤ 2 := by simp [two]
    go_wp2_with fail
    refine (datTwo (dDay d) _ (by omega) (by omega)).mono ?_
    rintro e w4 ⟨rfl, hx4⟩
    have hf3 : (two (dDay d)).length ≤ 2 := by simp [two]
    go_wp2_with fail
    go_ret2
    exact ⟨by unfold dateText dateErr; rw [if_pos H.out, if_pos H.out]; simp, ((hx1.trans hx2).trans hx3).trans hx4⟩

theorem stDayText (d : Int) (w : World) (hE : Env w) :
    Calls Tryz.prog 42 #[.int .i64 d] w fun e w' => e = .returned (.string (bs (dateText d))) ∧ Ext w w' := by
  go_enter Tryz.func42, Tryz.ntmps42
  go_wp2_with fail
  refine (datPrint d _ hE).mono ?_
  rintro e w1 ⟨rfl, hx1⟩
  go_wp2_with fail
  go_ret
  exact ⟨rfl, hx1⟩
end Go.Proofs.YteeampgbmpolfaaGreatDoor

/- The walks over the reference's dates: Leap, Length, Check, Parts, Print. -/
namespace Go.Proofs.YteeampgbmpolfaaGreatDoor
open Go.RowKit
attribute [local go_sem] size_bs toList_bs extract_bs get_bs append_bs lit_append append_lit

theorem refLeap (y : Int) (w : World) (h0 : 0 ≤ y) (h1 : y ≤ 100000) :
    Calls Tryz.prog 119 #[.int .i64 y] w fun e w' => e = .returned (.bool (leap y)) ∧ w = w' := by
  by_cases a : y % 4 = 0
  · have ab : (y % 4 == 0) = true := by simp [a]
    by_cases b : y % 100 = 0
    · have bb : (y % 100 != 0) = false := by simp [b]
      clear a b
      go_enter Tryz.func119, Tryz.ntmps119
      go_wp2_with fail
      go_ret
      exact ⟨by simp [leap, ab, bb], rfl⟩
    · have bb : (y % 100 != 0) = true := by simp [b]
      clear a b
      go_enter Tryz.func119, Tryz.ntmps119
      go_wp2_with fail
      go_ret
      exact ⟨by simp [leap, ab, bb], rfl⟩
  · have ab : (y % 4 == 0) = false := by simp [a]
    have H : Hid (leap y = false) := Lib.hid (by simp [leap]; omega)
    clear a
    go_enter Tryz.func119, Tryz.ntmps119
    go_wp2_with fail
    go_ret
    exact ⟨by rw [H.out]; rfl, rfl⟩

set_option maxHeartbeats 1000000 in
theorem refLength (y m : Int) (w : World) (h0 : 0 ≤ y) (h1 : y ≤ 100000) (h2 : 1 ≤ m) (h3 : m ≤ 12) :
    Calls Tryz.prog 120 #[.int .i64 y, .int .i64 m] w fun e w' => e = .returned (.int .i64 (mlen y m)) ∧ w = w' := by
  by_cases hm : m = 2
  · subst hm
    go_enter Tryz.func120, Tryz.ntmps120
    go_wp2_with fail
    refine (refLeap y _ h0 h1).mono ?_
    rintro e w1 ⟨rfl, rfl⟩
    cases hl : leap y with
    | true =>
      have HL := Lib.hid hl
      clear hl
      go_wp2_with fail
      go_ret
      exact ⟨by simp [mlen, lp, HL.out], rfl⟩
    | false =>
      have HL := Lib.hid hl
      clear hl
      go_wp2_with fail
      go_ret
      exact ⟨by simp [mlen, lp, HL.out], rfl⟩
  · have hmm : m = 1 ∨ m = 3 ∨ m = 4 ∨ m = 5 ∨ m = 6 ∨ m = 7 ∨ m = 8 ∨ m = 9 ∨ m = 10 ∨ m = 11 ∨ m = 12 := by omega
    rcases hmm with rfl | rfl | rfl | rfl | rfl | rfl | rfl | rfl | rfl | rfl | rfl
    all_goals
      go_enter Tryz.func120, Tryz.ntmps120
      go_wp2_with fail
      go_ret
      exact ⟨rfl, rfl⟩

theorem refCheckD (d : Int) (w : World) :
    Calls Tryz.prog 72 #[.int .i64 d] w fun e w' => e = .returned (.int .i64 (dateErr d)) ∧ w = w' := by
  by_cases a : d < -25567
  · have H : Hid (dateErr d = 13) := Lib.hid (by unfold dateErr; rw [if_neg]; rw [okDay_iff]; omega)
    go_enter Tryz.func72, Tryz.ntmps72
    go_wp2_with fail
    go_ret
    exact ⟨by rw [H.out]; rfl, rfl⟩
  · by_cases b : 84005 < d
    · have H : Hid (dateErr d = 13) := Lib.hid (by unfold dateErr; rw [if_neg]; rw [okDay_iff]; omega)
      go_enter Tryz.func72, Tryz.ntmps72
      go_wp2_with fail
      go_ret
      exact ⟨by rw [H.out]; rfl, rfl⟩
    · have H : Hid (dateErr d = 0) := Lib.hid (by unfold dateErr; rw [if_pos]; rw [okDay_iff]; omega)
      go_enter Tryz.func72, Tryz.ntmps72
      go_wp2_with fail
      go_ret
      exact ⟨by rw [H.out]; rfl, rfl⟩

set_option maxHeartbeats 400000 in
theorem refParts_no (d : Int) (w : World) (h : okDay d = false) :
    Calls Tryz.prog 84 #[.int .i64 d] w fun e w' => e = .returned (.tuple #[.int .i64 0, .int .i64 0, .int .i64 0, .int .i64 13]) ∧ w = w' := by
  have H : Hid (dateErr d = 13) := Lib.hid (by unfold dateErr; rw [h]; rfl)
  clear h
  go_enter Tryz.func84, Tryz.ntmps84
  go_wp2_with fail
  refine (refCheckD d _).mono ?_
  rintro e w1 ⟨rfl, rfl⟩
  rw [H.out]
  go_wp2_with fail
  refine bodyPost_ret (results_tmp4 rfl _ _ _) rfl ?_
  exact ⟨rfl, rfl⟩

set_option maxHeartbeats 1000000 in
theorem refParts_yes (d : Int) (w : World) (h : okDay d = true) :
    Calls Tryz.prog 84 #[.int .i64 d] w fun e w' => e = .returned (.tuple #[.int .i64 (dYear d), .int .i64 (dMonth d), .int .i64 (dDay d), .int .i64 0]) ∧ w = w' := by
  have hd := (okDay_iff d).1 h
  obtain ⟨hd1, hd2⟩ := hd
  have H : Hid (dateErr d = 0) := Lib.hid (by unfold dateErr; rw [h]; rfl)
  clear h
  go_enter Tryz.func84, Tryz.ntmps84
  go_wp2_with fail
  refine (refCheckD d _).mono ?_
  rintro e w1 ⟨rfl, rfl⟩
  rw [H.out]
  go_wp2_with fail
  go_loop [6, 7] (fun v u => ∃ y : Int, 1900 ≤ y ∧ y ≤ 2199 ∧ beg y ≤ d + 25567 ∧ v = .int .i64 (d + 25567 - beg y) ∧ u = .int .i64 y) (fun _ u => (2200 - intOf u).toNat)
  case atStart => exact ⟨1900, by omega, by omega, by rw [beg_1900]; omega, by rw [beg_1900, Int.sub_zero], rfl⟩
  case round =>
    obtain ⟨y, hy1, hy2, hy3, rfl, rfl⟩ := hrel
    have hb1 := beg_bd hy1 (by omega)
    have hb2 := beg_bd (show 1900 ≤ y + 1 by omega) (by omega)
    have hs := beg_succ y
    have h2200 := beg_2200
    have hlast : 365 + lp y ≤ d + 25567 - beg y → y < 2199 := by
      intro hle
      rcases Int.lt_or_le y 2199 with h | h
      · exact h
      · obtain rfl : y = 2199 := by omega
        simp only [show (2199 : Int) + 1 = 2200 by decide] at hs; omega
    have HS := Lib.hid hs
    clear hs h2200
    go_wp2_with fail
    refine (refLeap y _ (by omega) (by omega)).mono ?_
    rintro e w1 ⟨rfl, rfl⟩
    have hcases : (leap y = true ∧ lp y = 1) ∨ (leap y = false ∧ lp y = 0) := by
      unfold lp; cases leap y <;> simp
    rcases hcases with ⟨hl, hlp⟩ | ⟨hl, hlp⟩
    all_goals
      rw [hl]
      rw [hlp] at hlast
      have HS2 := HS.out
      rw [hlp] at HS2
      have HLP := Lib.hid hlp
      have HS3 := Lib.hid HS2
      clear hl hlp HS HS2
    · by_cases hc : d + 25567 - beg y < 366
      · go_wp2_with fail
        go_loop [6, 8] (fun v k => ∃ m : Int, 1 ≤ m ∧ m ≤ 12 ∧ cum y m ≤ d + 25567 - beg y ∧ v = .int .i64 (d + 25567 - beg y - cum y m) ∧ k = .int .i64 m) (fun _ k => (13 - intOf k).toNat)
        case atStart => exact ⟨1, by omega, by omega, by rw [cum_1]; omega, by rw [cum_1, Int.sub_zero], rfl⟩
        case round =>
          obtain ⟨m, hm1, hm2, hm3, rfl, rfl⟩ := hrel
          have hml := mlen_bd y m
          have hcb := cum_bd y m
          go_wp2_with fail
          refine (refLength y m _ (by omega) (by omega) (by omega) (by omega)).mono ?_
          rintro e w1 ⟨rfl, rfl⟩
          by_cases hg : mlen y m ≤ d + 25567 - beg y - cum y m
          · go_wp2_with fail
            refine (refLength y m _ (by omega) (by omega) (by omega) (by omega)).mono ?_
            rintro e w2 ⟨rfl, rfl⟩
            go_wp2_with fail
            have hs2 := mlen_cum y m hm1 hm2
            go_round
            case rel =>
              refine ⟨m + 1, by omega, ?_, by rw [hs2]; omega, by rw [hs2]; congr 1; omega, rfl⟩
              rcases Int.lt_or_le m 12 with h | h
              · omega
              · obtain rfl : m = 12 := by omega
                have := cum_13 y; rw [HLP.out] at this; simp only [show (12 : Int) + 1 = 13 by decide] at hs2; omega
            case measure => simp [intOf]; omega
          · go_wp2_with fail
            refine bodyPost_ret (results_tmp4 rfl _ _ _) rfl ?_
            obtain ⟨e1, e2, e3⟩ := parts_eq (d := d) (y := y) (m := m) (k := d + 25567 - beg y - cum y m + 1) hy1 hy2 hm1 hm2 (by omega) (by omega) (by omega)
            rw [e1, e2, e3]
            exact ⟨rfl, rfl⟩
      · have := hlast (by omega)
        clear hlast
        go_wp2_with fail
        go_round
        case rel => exact ⟨y + 1, by omega, by omega, by rw [HS3.out]; omega, by rw [HS3.out]; congr 1; omega, rfl⟩
        case measure => simp [intOf]; omega
    · by_cases hc : d + 25567 - beg y < 365
      · go_wp2_with fail
        go_loop [6, 8] (fun v k => ∃ m : Int, 1 ≤ m ∧ m ≤ 12 ∧ cum y m ≤ d + 25567 - beg y ∧ v = .int .i64 (d + 25567 - beg y - cum y m) ∧ k = .int .i64 m) (fun _ k => (13 - intOf k).toNat)
        case atStart => exact ⟨1, by omega, by omega, by rw [cum_1]; omega, by rw [cum_1, Int.sub_zero], rfl⟩
        case round =>
          obtain ⟨m, hm1, hm2, hm3, rfl, rfl⟩ := hrel
          have hml := mlen_bd y m
          have hcb := cum_bd y m
          go_wp2_with fail
          refine (refLength y m _ (by omega) (by omega) (by omega) (by omega)).mono ?_
          rintro e w1 ⟨rfl, rfl⟩
          by_cases hg : mlen y m ≤ d + 25567 - beg y - cum y m
          · go_wp2_with fail
            refine (refLength y m _ (by omega) (by omega) (by omega) (by omega)).mono ?_
            rintro e w2 ⟨rfl, rfl⟩
            go_wp2_with fail
            have hs2 := mlen_cum y m hm1 hm2
            go_round
            case rel =>
              refine ⟨m + 1, by omega, ?_, by rw [hs2]; omega, by rw [hs2]; congr 1; omega, rfl⟩
              rcases Int.lt_or_le m 12 with h | h
              · omega
              · obtain rfl : m = 12 := by omega
                have := cum_13 y; rw [HLP.out] at this; simp only [show (12 : Int) + 1 = 13 by decide] at hs2; omega
            case measure => simp [intOf]; omega
          · go_wp2_with fail
            refine bodyPost_ret (results_tmp4 rfl _ _ _) rfl ?_
            obtain ⟨e1, e2, e3⟩ := parts_eq (d := d) (y := y) (m := m) (k := d + 25567 - beg y - cum y m + 1) hy1 hy2 hm1 hm2 (by omega) (by omega) (by omega)
            rw [e1, e2, e3]
            exact ⟨rfl, rfl⟩
      · have := hlast (by omega)
        clear hlast
        go_wp2_with fail
        go_round
        case rel => exact ⟨y + 1, by omega, by omega, by rw [HS3.out]; omega, by rw [HS3.out]; congr 1; omega, rfl⟩
        case measure => simp [intOf]; omega
end Go.Proofs.YteeampgbmpolfaaGreatDoor

/- The walks over the reference's dates: digits, Print. -/
namespace Go.Proofs.YteeampgbmpolfaaGreatDoor
open Go.RowKit
attribute [local go_sem] size_bs toList_bs extract_bs get_bs append_bs lit_append append_lit

def tx (n : Int) : Nat → Bs | 0 => [] | k + 1 => UInt8.ofNat (48 + n.toNat / 10 ^ k % 10) :: tx n k
theorem tx_two (n : Int) : tx n 2 = two n := by simp [tx, two]
theorem tx_four (n : Int) : tx n 4 = four n := by simp [tx, four]
theorem tx_len (n : Int) (k : Nat) : (tx n k).length = k := by induction k with | zero => rfl | succ k ih => simp [tx, ih]

set_option maxHeartbeats 400000 in
theorem refDigitsD (n c : Int) (w : World) (h0 : 0 ≤ n) (h1 : n ≤ 9999) (hc0 : 0 ≤ c) (hc1 : c ≤ 4) :
    Calls Tryz.prog 85 #[.int .i64 n, .int .i64 c] w fun e w' => e = .returned (.string (bs (tx n c.toNat))) ∧ Ext w w' := by
  go_enter Tryz.func85, Tryz.ntmps85
  go_wp2_with fail
  go_loopw [0, 5, 6] (fun v s i wr => ∃ (k : Nat) (u : Int), (k : Int) ≤ c ∧ 0 ≤ u ∧ u ≤ n ∧ u.toNat = n.toNat / 10 ^ k ∧ v = .int .i64 u ∧ s = .string (bs (tx n k)) ∧ i = .int .i64 k ∧ Ext w wr) (fun _ _ i _ => (c - intOf i).toNat)
  case atStart => exact ⟨0, n, by omega, h0, Int.le_refl _, by simp, rfl, rfl, rfl, Ext.refl _⟩
  case round =>
    obtain ⟨k, u, hk, hu0, hu1, hue, rfl, rfl, rfl, hx⟩ := hrel
    have HU := Lib.hid hue
    have htl := tx_len n k
    have htb : (tx n k).length ≤ 4 := by omega
    clear hue htl
    by_cases hlt : (k : Int) < c
    · have hcv := fun (x : Int) => conv_one (P := Tryz.prog) wr 67 9 5 x Tryz.underlying67 Tryz.underlying5 Tryz.underlying9
      go_wp2_with fail
      go_roundw
      case rel =>
        refine ⟨k + 1, u / 10, by omega, by omega, by omega, ?_, rfl, ?_, by go_num, hx.alloc _⟩
        · rw [Nat.pow_succ, ← Nat.div_div_eq_div_mul, ← HU.out]; omega
        · have e : (48 + u % 10).toNat = 48 + n.toNat / 10 ^ k % 10 := by rw [← HU.out]; omega
          rw [e]; rfl
      case measure => simp [intOf]; omega
    · go_wp2_with fail
      go_ret
      have e : c.toNat = k := by omega
      exact ⟨by rw [e]; rfl, hx⟩

set_option maxHeartbeats 400000 in
theorem refPrintD (d : Int) (w : World) :
    Calls Tryz.prog 46 #[.int .i64 d] w fun e w' => e = .returned (.tuple #[.string (bs (dateText d)), .int .i64 (dateErr d)]) ∧ Ext w w' := by
  cases h : okDay d with
  | false =>
    have H := Lib.hid h
    clear h
    go_enter Tryz.func46, Tryz.ntmps46
    go_wp2_with fail
    refine (refParts_no d _ H.out).mono ?_
    rintro e w1 ⟨rfl, rfl⟩
    go_wp2_with fail
    go_ret2
    exact ⟨by unfold dateText dateErr; rw [H.out]; rfl, Ext.refl _⟩
  | true =>
    obtain ⟨a1, a2, _, _⟩ := dYear_spec h
    obtain ⟨b1, b2, b3, b4⟩ := dMonth_spec h
    have hml := mlen_bd (dYear d) (dMonth d)
    have H := Lib.hid h
    clear h
    go_enter Tryz.func46, Tryz.ntmps46
    go_wp2_with fail
    refine (refParts_yes d _ H.out).mono ?_
    rintro e w1 ⟨rfl, rfl⟩
    go_wp2_with fail
    refine (refDigitsD (dYear d) 4 _ (by omega) (by omega) (by omega) (by omega)).mono ?_
    rintro e w2 ⟨rfl, hx2⟩
    rw [show (4 : Int).toNat = 4 from rfl, tx_four]
    have hf4 : (four (dYear d)).length ≤ 4 := by simp [four]
    go_wp2_with fail
    refine (refDigitsD (dMonth d) 2 _ (by omega) (by omega) (by omega) (by omega)).mono ?_
    rintro e w3 ⟨rfl, hx3⟩
    rw [show (2 : Int).toNat = 2 from rfl, tx_two]
    have hf2 : (two (dMonth d)).length ≤ 2 := by simp [two]
    go_wp2_with fail
    refine (refDigitsD (dDay d) 2 _ (by omega) (by omega) (by omega) (by omega)).mono ?_
    rintro e w4 ⟨rfl, hx4⟩
    rw [show (2 : Int).toNat = 2 from rfl, tx_two]
    have hf3 : (two (dDay d)).length ≤ 2 := by simp [two]
    go_wp2_with fail
    go_ret2
    exact ⟨by unfold dateText dateErr; rw [if_pos H.out, if_pos H.out]; simp, (hx2.trans hx3).trans hx4⟩

def ofE (y m k : Int) : Int := if okDate y m k then 0 else 13
def ofV (y m k : Int) : Int := if okDate y m k then ofDate y m k else 0

set_option maxHeartbeats 1000000 in
theorem refOf (y m k : Int) (w : World) :
    Calls Tryz.prog 125 #[.int .i64 y, .int .i64 m, .int .i64 k] w fun e w' => e = .returned (.tuple #[.int .i64 (ofV y m k), .int .i64 (ofE y m k)]) ∧ w = w' := by
  have hno : okDate y m k = false → Hid (ofV y m k = 0 ∧ ofE y m k = 13) := fun h => Lib.hid (by unfold ofV ofE; rw [h]; simp)
  by_cases c1 : y < 1900
  · have HN := hno (by rw [← Bool.not_eq_true, okDate_iff]; omega)
    clear hno
    go_enter Tryz.func125, Tryz.ntmps125
    go_wp2_with fail
    go_ret2
    exact ⟨by rw [HN.out.1, HN.out.2]; rfl, rfl⟩
  by_cases c2 : 2199 < y
  · have HN := hno (by rw [← Bool.not_eq_true, okDate_iff]; omega)
    clear hno
    go_enter Tryz.func125, Tryz.ntmps125
    go_wp2_with fail
    go_ret2
    exact ⟨by rw [HN.out.1, HN.out.2]; rfl, rfl⟩
  by_cases c3 : m < 1
  · have HN := hno (by rw [← Bool.not_eq_true, okDate_iff]; omega)
    clear hno
    go_enter Tryz.func125, Tryz.ntmps125
    go_wp2_with fail
    go_ret2
    exact ⟨by rw [HN.out.1, HN.out.2]; rfl, rfl⟩
  by_cases c4 : 12 < m
  · have HN := hno (by rw [← Bool.not_eq_true, okDate_iff]; omega)
    clear hno
    go_enter Tryz.func125, Tryz.ntmps125
    go_wp2_with fail
    go_ret2
    exact ⟨by rw [HN.out.1, HN.out.2]; rfl, rfl⟩
  by_cases c5 : k < 1
  · have HN := hno (by rw [← Bool.not_eq_true, okDate_iff]; omega)
    clear hno
    go_enter Tryz.func125, Tryz.ntmps125
    go_wp2_with fail
    go_ret2
    exact ⟨by rw [HN.out.1, HN.out.2]; rfl, rfl⟩
  have hml := mlen_bd y m
  by_cases c6 : mlen y m < k
  · have HN := hno (by rw [← Bool.not_eq_true, okDate_iff]; omega)
    clear hno
    go_enter Tryz.func125, Tryz.ntmps125
    go_wp2_with fail
    refine (refLength y m _ (by omega) (by omega) (by omega) (by omega)).mono ?_
    rintro e w1 ⟨rfl, rfl⟩
    go_wp2_with fail
    go_ret2
    exact ⟨by rw [HN.out.1, HN.out.2]; rfl, rfl⟩
  have HY : Hid (ofV y m k = ofDate y m k ∧ ofE y m k = 0) := Lib.hid (by
    have : okDate y m k = true := by rw [okDate_iff]; omega
    unfold ofV ofE; rw [this]; simp)
  clear hno
  go_enter Tryz.func125, Tryz.ntmps125
  go_wp2_with fail
  refine (refLength y m _ (by omega) (by omega) (by omega) (by omega)).mono ?_
  rintro e w1 ⟨rfl, rfl⟩
  go_wp2_with fail
  go_loop [8, 9] (fun v i => ∃ z : Int, 1900 ≤ z ∧ z ≤ y ∧ v = .int .i64 (-25567 + k - 1 + beg z) ∧ i = .int .i64 z) (fun _ i => (y - intOf i).toNat)
  case atStart => exact ⟨1900, by omega, by omega, by rw [beg_1900, Int.add_zero], rfl⟩
  case round =>
    obtain ⟨z, hz1, hz2, rfl, rfl⟩ := hrel
    have hb1 := beg_bd hz1 (by omega)
    by_cases hlt : z < y
    · have hs := beg_succ z
      have HS := Lib.hid hs
      clear hs
      go_wp2_with fail
      refine (refLeap z _ (by omega) (by omega)).mono ?_
      rintro e w1 ⟨rfl, rfl⟩
      have hcases : (leap z = true ∧ lp z = 1) ∨ (leap z = false ∧ lp z = 0) := by
        unfold lp; cases leap z <;> simp
      rcases hcases with ⟨hl, hlp⟩ | ⟨hl, hlp⟩
      all_goals
        rw [hl]
        have HLP := Lib.hid hlp
        clear hl hlp
        go_wp2_with fail
        go_round
        case rel => exact ⟨z + 1, by omega, by omega, by rw [HS.out, HLP.out]; congr 1; omega, rfl⟩
        case measure => simp [intOf]; omega
    · obtain rfl : z = y := by omega
      go_wp2_with fail
      go_loop [8, 10] (fun v i => ∃ j : Int, 1 ≤ j ∧ j ≤ m ∧ v = .int .i64 (-25567 + k - 1 + beg z + cum z j) ∧ i = .int .i64 j) (fun _ i => (m - intOf i).toNat)
      case atStart => exact ⟨1, by omega, by omega, by rw [cum_1, Int.add_zero], rfl⟩
      case round =>
        obtain ⟨j, hj1, hj2, rfl, rfl⟩ := hrel
        have hcb := cum_bd z j
        by_cases hjl : j < m
        · have hml2 := mlen_bd z j
          have hs2 := mlen_cum z j (by omega) (by omega)
          have HS2 := Lib.hid hs2
          clear hs2
          go_wp2_with fail
          refine (refLength z j _ (by omega) (by omega) (by omega) (by omega)).mono ?_
          rintro e w1 ⟨rfl, rfl⟩
          go_wp2_with fail
          go_round
          case rel => exact ⟨j + 1, by omega, by omega, by rw [HS2.out]; congr 1; omega, rfl⟩
          case measure => simp [intOf]; omega
        · obtain rfl : j = m := by omega
          go_wp2_with fail
          go_ret2
          refine ⟨?_, rfl⟩
          rw [HY.out.1, HY.out.2]
          have e : ofDate z j k = -25567 + k - 1 + beg z + cum z j := by unfold ofDate; omega
          rw [e]; rfl
end Go.Proofs.YteeampgbmpolfaaGreatDoor

/- The walks over the program's dates: Of. -/
namespace Go.Proofs.YteeampgbmpolfaaGreatDoor
open Go.RowKit
attribute [local go_sem] size_bs toList_bs extract_bs get_bs append_bs lit_append append_lit

set_option maxHeartbeats 1000000 in
theorem datOf (y m k : Int) (w : World) :
    Calls Tryz.prog 204 #[.int .i64 y, .int .i64 m, .int .i64 k] w fun e w' => e = .returned (.tuple #[.int .i64 (ofV y m k), .int .i64 (ofE y m k)]) ∧ Ext w w' := by
  have hno : okDate y m k = false → Hid (ofV y m k = 0 ∧ ofE y m k = 13) := fun h => Lib.hid (by unfold ofV ofE; rw [h]; simp)
  by_cases c1 : y < 1900
  · have HN := hno (by rw [← Bool.not_eq_true, okDate_iff]; omega)
    clear hno
    go_enter Tryz.func204, Tryz.ntmps204
    go_wp2_with fail
    go_ret2
    exact ⟨by rw [HN.out.1, HN.out.2]; rfl, Ext.refl _⟩
  by_cases c2 : 2199 < y
  · have HN := hno (by rw [← Bool.not_eq_true, okDate_iff]; omega)
    clear hno
    go_enter Tryz.func204, Tryz.ntmps204
    go_wp2_with fail
    go_ret2
    exact ⟨by rw [HN.out.1, HN.out.2]; rfl, Ext.refl _⟩
  by_cases c3 : m < 1
  · have HN := hno (by rw [← Bool.not_eq_true, okDate_iff]; omega)
    clear hno
    go_enter Tryz.func204, Tryz.ntmps204
    go_wp2_with fail
    go_ret2
    exact ⟨by rw [HN.out.1, HN.out.2]; rfl, Ext.refl _⟩
  by_cases c4 : 12 < m
  · have HN := hno (by rw [← Bool.not_eq_true, okDate_iff]; omega)
    clear hno
    go_enter Tryz.func204, Tryz.ntmps204
    go_wp2_with fail
    go_ret2
    exact ⟨by rw [HN.out.1, HN.out.2]; rfl, Ext.refl _⟩
  by_cases c5 : k < 1
  · have HN := hno (by rw [← Bool.not_eq_true, okDate_iff]; omega)
    clear hno
    go_enter Tryz.func204, Tryz.ntmps204
    go_wp2_with fail
    go_ret2
    exact ⟨by rw [HN.out.1, HN.out.2]; rfl, Ext.refl _⟩
  have hml := mlen_bd y m
  by_cases c6 : mlen y m < k
  · have HN := hno (by rw [← Bool.not_eq_true, okDate_iff]; omega)
    clear hno
    go_enter Tryz.func204, Tryz.ntmps204
    go_wp2_with fail
    refine (datLength y m _ (by omega) (by omega) (by omega) (by omega)).mono ?_
    rintro e w1 ⟨rfl, hx⟩
    go_wp2_with fail
    go_ret2
    exact ⟨by rw [HN.out.1, HN.out.2]; rfl, hx⟩
  have HY : Hid (ofV y m k = ofDate y m k ∧ ofE y m k = 0) := Lib.hid (by
    have : okDate y m k = true := by rw [okDate_iff]; omega
    unfold ofV ofE; rw [this]; simp)
  clear hno
  have hb1 := beg_bd (show 1900 ≤ y by omega) (by omega)
  go_enter Tryz.func204, Tryz.ntmps204
  go_wp2_with fail
  refine (datLength y m _ (by omega) (by omega) (by omega) (by omega)).mono ?_
  rintro e w1 ⟨rfl, hx⟩
  go_wp2_with fail
  refine (datBegin y _ (by omega) (by omega)).mono ?_
  rintro e w2 ⟨rfl, rfl⟩
  go_wp2_with fail
  go_loopw [8, 9] (fun v i wr => ∃ j : Int, 1 ≤ j ∧ j ≤ m ∧ v = .int .i64 (beg y + k - 1 + cum y j) ∧ i = .int .i64 j ∧ Ext w wr) (fun _ i _ => (m - intOf i).toNat)
  case atStart => exact ⟨1, by omega, by omega, by rw [cum_1, Int.add_zero], rfl, hx⟩
  case round =>
    obtain ⟨j, hj1, hj2, rfl, rfl, hxr⟩ := hrel
    have hcb := cum_bd y j
    by_cases hjl : j < m
    · have hml2 := mlen_bd y j
      have hs2 := mlen_cum y j (by omega) (by omega)
      have HS2 := Lib.hid hs2
      clear hs2
      go_wp2_with fail
      refine (datLength y j _ (by omega) (by omega) (by omega) (by omega)).mono ?_
      rintro e w3 ⟨rfl, hx3⟩
      go_wp2_with fail
      go_roundw
      case rel => exact ⟨j + 1, by omega, by omega, by rw [HS2.out]; congr 1; omega, rfl, hxr.trans hx3⟩
      case measure => simp [intOf]; omega
    · obtain rfl : j = m := by omega
      go_wp2_with fail
      go_ret2
      refine ⟨?_, hxr⟩
      rw [HY.out.1, HY.out.2]
      have e : ofDate y j k = -25567 + (beg y + k - 1 + cum y j) := by unfold ofDate; omega
      rw [e]; rfl

def gb (c : UInt8) : Int := if 48 ≤ c.toNat then (c.toNat : Int) - 48 else (c.toNat : Int) + 208
def numG (l : Bs) : Int := l.foldl (fun n c => 10 * n + gb c) 0
theorem gb_bd (c : UInt8) : 0 ≤ gb c ∧ gb c ≤ 255 := by
  have := c.toNat_lt; unfold gb; split <;> omega
theorem numG_snoc (l : Bs) (c : UInt8) : numG (l ++ [c]) = 10 * numG l + gb c := by simp [numG]
theorem numG_bd (l : Bs) (h : l.length ≤ 4) : 0 ≤ numG l ∧ numG l ≤ 300000 := by
  match l, h with
  | [], _ => simp [numG]
  | [a], _ => have := gb_bd a; simp [numG]; omega
  | [a, b], _ => have := gb_bd a; have := gb_bd b; simp [numG]; omega
  | [a, b, c], _ => have := gb_bd a; have := gb_bd b; have := gb_bd c; simp [numG]; omega
  | [a, b, c, d], _ => have := gb_bd a; have := gb_bd b; have := gb_bd c; have := gb_bd d; simp [numG]; omega
  | _ :: _ :: _ :: _ :: _ :: _, h => simp at h
/-- 's[i]-'0'' on bytes -/
theorem gb_wrap (c : UInt8) : IntKind.u8.wrap ((c.toNat : Int) - 48) = gb c := by
  have := c.toNat_lt; unfold gb; rw [IntKind.wrap_u8]; split <;> omega
end Go.Proofs.YteeampgbmpolfaaGreatDoor

/- The walks over the program's dates: Parse. -/
namespace Go.Proofs.YteeampgbmpolfaaGreatDoor
open Go.RowKit
attribute [local go_sem] size_bs toList_bs extract_bs get_bs append_bs lit_append append_lit

theorem snocD (t : Bs) (k : Nat) (h : k < t.length) : (t.take (k + 1)).all isD = ((t.take k).all isD && isD (t[k]'h)) := by
  rw [List.take_succ_eq_append_getElem h, List.all_append]; simp
theorem Blk.set1 {w : World} {g : Nat} {t : TypeId} {a : Value} (h : Blk w g t #[a]) (u : Value) : Blk (w.setCell ⟨g, 0, none⟩ u) g t #[u] := by
  have := h.set_ 0 u; simpa using this
theorem notD (c : UInt8) (h : (48 : Int) ≤ c.toNat) : (false || !isD c) = decide ((57 : Int) < c.toNat) := by
  have h1 : 48 ≤ c.toNat := by omega
  unfold isD; rw [decide_eq_true h1, Bool.true_and, Bool.false_or]
  by_cases h2 : c.toNat ≤ 57
  · rw [decide_eq_true h2, decide_eq_false (by omega)]; rfl
  · rw [decide_eq_false h2, decide_eq_true (by omega)]; rfl
theorem isD_int (c : UInt8) : isD c = (decide (48 ≤ (c.toNat : Int)) && decide ((c.toNat : Int) ≤ 57)) := by
  unfold isD; congr 1 <;> simp <;> omega

set_option maxHeartbeats 1000000 in
theorem datNumY (c0 c1 c2 c3 c4 c5 c6 c7 c8 c9 : UInt8) (g1 g : Nat) (wrong : Bool) (w : World) (hc1 : w.cell? ⟨g1, 0, none⟩ = some (.string (bs [c0, c1, c2, c3, c4, c5, c6, c7, c8, c9]))) (hB : Blk w g 4 #[.bool wrong]) :
    Calls Tryz.prog 203 #[.int .i64 0, .int .i64 4, .pointer (some ⟨g1, 0, none⟩), .pointer (some ⟨g, 0, none⟩)] w fun e w' => e = .returned (.int .i64 (numG [c0, c1, c2, c3])) ∧ Blk w' g 4 #[.bool (wrong || !(([c0, c1, c2, c3] : Bs).all isD))] ∧ Only g w w' := by
  obtain ⟨cap, w1, hrun, hx, hsz, hcell⟩ := conv_bytes (P := Tryz.prog) w 9 67 5 [c0, c1, c2, c3] Tryz.underlying9 Tryz.underlying67 Tryz.underlying5
  have HC := Lib.hid hcell
  have hB1 := hB.ext hx
  have hglt := hB.lt
  have hsz' : w.heap.size < w1.heap.size := by omega
  have HX := Lib.hid hx
  have HB := Lib.hid hB1
  clear hcell hsz hB hx hB1
  go_enter Tryz.func203, Tryz.ntmps203
  go_wp2_with fail
  clear hrun hc1
  obtain ⟨t, ht⟩ : ∃ t : Bs, t = [c0, c1, c2, c3] := ⟨_, rfl⟩
  have htl : t.length = 4 := by rw [ht]; rfl
  have HC2 : Hid (∀ (j : Nat) (h : j < t.length), w1.cell? ⟨w.heap.size, j, none⟩ = some (.int .u8 (t[j]'h).toNat)) := by subst ht; exact HC.out
  have HT := Lib.hid ht
  rw [show ([c0, c1, c2, c3] : Bs) = t from ht.symm]
  clear ht HC
  have htl2 : t.length ≤ 4 := by omega
  have htl3 : 4 ≤ t.length := by omega
  clear htl
  go_loopw [7, 16] (fun v i wr => ∃ k : Nat, k ≤ t.length ∧ i = .int .i64 k ∧ v = .int .i64 (numG (t.take k)) ∧ Blk wr g 4 #[.bool (wrong || !((t.take k).all isD))] ∧ Only g w1 wr) (fun _ i _ => 4 - (intOf i).toNat)
  case atStart => exact ⟨0, Nat.zero_le _, rfl, rfl, by simpa using HB.out, Only.refl _ _⟩
  case round =>
    obtain ⟨k, hk, rfl, rfl, hBr, hO⟩ := hrel
    by_cases hlt : k < 4
    · have hkt : k < t.length := by omega
      have hcr : wr.cell? ⟨w.heap.size, k, none⟩ = some (.int .u8 (t[k]'hkt).toNat) := (hO.cell (p := ⟨w.heap.size, k, none⟩) hsz' (by simp; omega)).trans (HC2.out k hkt)
      have hcb := hBr.cell 0
      have hfb := hBr.frozen 0
      simp only [List.getElem?_toArray, List.getElem?_cons_zero] at hcb
      have hnb := numG_bd (t.take k) (by rw [List.length_take]; omega)
      have hsn := numG_snoc (t.take k) (t[k]'hkt)
      rw [← List.take_succ_eq_append_getElem hkt] at hsn
      have HSN := Lib.hid hsn
      have hgw := gb_wrap (t[k]'hkt)
      have hgb := gb_bd (t[k]'hkt)
      have HO := Lib.hid hO
      have HBR := Lib.hid hBr
      have hD := snocD t k hkt
      have HD := Lib.hid hD
      have HIS := Lib.hid (isD_int (t[k]'hkt))
      clear hsn hO hBr hD
      generalize (t.take k).all isD = q at *
      generalize numG (t.take k) = n at *
      have hnew : ∀ z, (wrong || !(q && z)) = ((wrong || !q) || !z) := by intro z; cases wrong <;> cases q <;> cases z <;> rfl
      have HN := Lib.hid hnew
      clear hnew
      generalize (wrong || !q) = x at *
      cases x with
      | true =>
        go_wp2_with fail
        go_roundw
        case rel =>
          refine ⟨k + 1, by omega, by go_num, by rw [HSN.out], ?_, HO.out.setCell 0 _⟩
          rw [HD.out, HN.out]
          exact HBR.out.set1 _
        case measure => simp [intOf]; omega
      | false =>
        by_cases h48 : (48 : Int) ≤ (t[k]'hkt).toNat
        · have HV : Hid ((false || !isD (t[k]'hkt)) = (decide (((t[k]'hkt).toNat : Int) < 48) || decide ((57 : Int) < (t[k]'hkt).toNat))) := Lib.hid (by rw [notD _ h48, decide_eq_false (Int.not_lt.2 h48), Bool.false_or])
          go_wp2_with fail
          go_roundw
          case rel =>
            refine ⟨k + 1, by omega, by go_num, by rw [HSN.out], ?_, HO.out.setCell 0 _⟩
            rw [HD.out, HN.out, HV.out]
            exact HBR.out.set1 _
          case measure => simp [intOf]; omega
        · have HV : Hid ((false || !isD (t[k]'hkt)) = true) := Lib.hid (by rw [HIS.out, decide_eq_false h48]; rfl)
          go_wp2_with fail
          go_roundw
          case rel =>
            refine ⟨k + 1, by omega, by go_num, by rw [HSN.out], ?_, HO.out.setCell 0 _⟩
            rw [HD.out, HN.out, HV.out]
            exact HBR.out.set1 _
          case measure => simp [intOf]; omega
    · go_wp2_with fail
      have e : t.take k = t := List.take_of_length_le (by omega)
      rw [e] at hBr
      rw [e]
      go_ret
      exact ⟨by rw [← HT.out]; rfl, by rw [← HT.out]; exact hBr, (Only.of_ext HX.out).trans hO⟩
set_option maxHeartbeats 1000000 in
theorem datNumM (c0 c1 c2 c3 c4 c5 c6 c7 c8 c9 : UInt8) (g1 g : Nat) (wrong : Bool) (w : World) (hc1 : w.cell? ⟨g1, 0, none⟩ = some (.string (bs [c0, c1, c2, c3, c4, c5, c6, c7, c8, c9]))) (hB : Blk w g 4 #[.bool wrong]) :
    Calls Tryz.prog 203 #[.int .i64 5, .int .i64 7, .pointer (some ⟨g1, 0, none⟩), .pointer (some ⟨g, 0, none⟩)] w fun e w' => e = .returned (.int .i64 (numG [c5, c6])) ∧ Blk w' g 4 #[.bool (wrong || !(([c5, c6] : Bs).all isD))] ∧ Only g w w' := by
  obtain ⟨cap, w1, hrun, hx, hsz, hcell⟩ := conv_bytes (P := Tryz.prog) w 9 67 5 [c5, c6] Tryz.underlying9 Tryz.underlying67 Tryz.underlying5
  have HC := Lib.hid hcell
  have hB1 := hB.ext hx
  have hglt := hB.lt
  have hsz' : w.heap.size < w1.heap.size := by omega
  have HX := Lib.hid hx
  have HB := Lib.hid hB1
  clear hcell hsz hB hx hB1
  go_enter Tryz.func203, Tryz.ntmps203
  go_wp2_with fail
  clear hrun hc1
  obtain ⟨t, ht⟩ : ∃ t : Bs, t = [c5, c6] := ⟨_, rfl⟩
  have htl : t.length = 2 := by rw [ht]; rfl
  have HC2 : Hid (∀ (j : Nat) (h : j < t.length), w1.cell? ⟨w.heap.size, j, none⟩ = some (.int .u8 (t[j]'h).toNat)) := by subst ht; exact HC.out
  have HT := Lib.hid ht
  rw [show ([c5, c6] : Bs) = t from ht.symm]
  clear ht HC
  have htl2 : t.length ≤ 2 := by omega
  have htl3 : 2 ≤ t.length := by omega
  clear htl
  go_loopw [7, 16] (fun v i wr => ∃ k : Nat, k ≤ t.length ∧ i = .int .i64 k ∧ v = .int .i64 (numG (t.take k)) ∧ Blk wr g 4 #[.bool (wrong || !((t.take k).all isD))] ∧ Only g w1 wr) (fun _ i _ => 2 - (intOf i).toNat)
  case atStart => exact ⟨0, Nat.zero_le _, rfl, rfl, by simpa using HB.out, Only.refl _ _⟩
  case round =>
    obtain ⟨k, hk, rfl, rfl, hBr, hO⟩ := hrel
    by_cases hlt : k < 2
    · have hkt : k < t.length := by omega
      have hcr : wr.cell? ⟨w.heap.size, k, none⟩ = some (.int .u8 (t[k]'hkt).toNat) := (hO.cell (p := ⟨w.heap.size, k, none⟩) hsz' (by simp; omega)).trans (HC2.out k hkt)
      have hcb := hBr.cell 0
      have hfb := hBr.frozen 0
      simp only [List.getElem?_toArray, List.getElem?_cons_zero] at hcb
      have hnb := numG_bd (t.take k) (by rw [List.length_take]; omega)
      have hsn := numG_snoc (t.take k) (t[k]'hkt)
      rw [← List.take_succ_eq_append_getElem hkt] at hsn
      have HSN := Lib.hid hsn
      have hgw := gb_wrap (t[k]'hkt)
      have hgb := gb_bd (t[k]'hkt)
      have HO := Lib.hid hO
      have HBR := Lib.hid hBr
      have hD := snocD t k hkt
      have HD := Lib.hid hD
      have HIS := Lib.hid (isD_int (t[k]'hkt))
      clear hsn hO hBr hD
      generalize (t.take k).all isD = q at *
      generalize numG (t.take k) = n at *
      have hnew : ∀ z, (wrong || !(q && z)) = ((wrong || !q) || !z) := by intro z; cases wrong <;> cases q <;> cases z <;> rfl
      have HN := Lib.hid hnew
      clear hnew
      generalize (wrong || !q) = x at *
      cases x with
      | true =>
        go_wp2_with fail
        go_roundw
        case rel =>
          refine ⟨k + 1, by omega, by go_num, by rw [HSN.out], ?_, HO.out.setCell 0 _⟩
          rw [HD.out, HN.out]
          exact HBR.out.set1 _
        case measure => simp [intOf]; omega
      | false =>
        by_cases h48 : (48 : Int) ≤ (t[k]'hkt).toNat
        · have HV : Hid ((false || !isD (t[k]'hkt)) = (decide (((t[k]'hkt).toNat : Int) < 48) || decide ((57 : Int) < (t[k]'hkt).toNat))) := Lib.hid (by rw [notD _ h48, decide_eq_false (Int.not_lt.2 h48), Bool.false_or])
          go_wp2_with fail
          go_roundw
          case rel =>
            refine ⟨k + 1, by omega, by go_num, by rw [HSN.out], ?_, HO.out.setCell 0 _⟩
            rw [HD.out, HN.out, HV.out]
            exact HBR.out.set1 _
          case measure => simp [intOf]; omega
        · have HV : Hid ((false || !isD (t[k]'hkt)) = true) := Lib.hid (by rw [HIS.out, decide_eq_false h48]; rfl)
          go_wp2_with fail
          go_roundw
          case rel =>
            refine ⟨k + 1, by omega, by go_num, by rw [HSN.out], ?_, HO.out.setCell 0 _⟩
            rw [HD.out, HN.out, HV.out]
            exact HBR.out.set1 _
          case measure => simp [intOf]; omega
    · go_wp2_with fail
      have e : t.take k = t := List.take_of_length_le (by omega)
      rw [e] at hBr
      rw [e]
      go_ret
      exact ⟨by rw [← HT.out]; rfl, by rw [← HT.out]; exact hBr, (Only.of_ext HX.out).trans hO⟩
set_option maxHeartbeats 1000000 in
theorem datNumD (c0 c1 c2 c3 c4 c5 c6 c7 c8 c9 : UInt8) (g1 g : Nat) (wrong : Bool) (w : World) (hc1 : w.cell? ⟨g1, 0, none⟩ = some (.string (bs [c0, c1, c2, c3, c4, c5, c6, c7, c8, c9]))) (hB : Blk w g 4 #[.bool wrong]) :
    Calls Tryz.prog 203 #[.int .i64 8, .int .i64 10, .pointer (some ⟨g1, 0, none⟩), .pointer (some ⟨g, 0, none⟩)] w fun e w' => e = .returned (.int .i64 (numG [c8, c9])) ∧ Blk w' g 4 #[.bool (wrong || !(([c8, c9] : Bs).all isD))] ∧ Only g w w' := by
  obtain ⟨cap, w1, hrun, hx, hsz, hcell⟩ := conv_bytes (P := Tryz.prog) w 9 67 5 [c8, c9] Tryz.underlying9 Tryz.underlying67 Tryz.underlying5
  have HC := Lib.hid hcell
  have hB1 := hB.ext hx
  have hglt := hB.lt
  have hsz' : w.heap.size < w1.heap.size := by omega
  have HX := Lib.hid hx
  have HB := Lib.hid hB1
  clear hcell hsz hB hx hB1
  go_enter Tryz.func203, Tryz.ntmps203
  go_wp2_with fail
  clear hrun hc1
  obtain ⟨t, ht⟩ : ∃ t : Bs, t = [c8, c9] := ⟨_, rfl⟩
  have htl : t.length = 2 := by rw [ht]; rfl
  have HC2 : Hid (∀ (j : Nat) (h : j < t.length), w1.cell? ⟨w.heap.size, j, none⟩ = some (.int .u8 (t[j]'h).toNat)) := by subst ht; exact HC.out
  have HT := Lib.hid ht
  rw [show ([c8, c9] : Bs) = t from ht.symm]
  clear ht HC
  have htl2 : t.length ≤ 2 := by omega
  have htl3 : 2 ≤ t.length := by omega
  clear htl
  go_loopw [7, 16] (fun v i wr => ∃ k : Nat, k ≤ t.length ∧ i = .int .i64 k ∧ v = .int .i64 (numG (t.take k)) ∧ Blk wr g 4 #[.bool (wrong || !((t.take k).all isD))] ∧ Only g w1 wr) (fun _ i _ => 2 - (intOf i).toNat)
  case atStart => exact ⟨0, Nat.zero_le _, rfl, rfl, by simpa using HB.out, Only.refl _ _⟩
  case round =>
    obtain ⟨k, hk, rfl, rfl, hBr, hO⟩ := hrel
    by_cases hlt : k < 2
    · have hkt : k < t.length := by omega
      have hcr : wr.cell? ⟨w.heap.size, k, none⟩ = some (.int .u8 (t[k]'hkt).toNat) := (hO.cell (p := ⟨w.heap.size, k, none⟩) hsz' (by simp; omega)).trans (HC2.out k hkt)
      have hcb := hBr.cell 0
      have hfb := hBr.frozen 0
      simp only [List.getElem?_toArray, List.getElem?_cons_zero] at hcb
      have hnb := numG_bd (t.take k) (by rw [List.length_take]; omega)
      have hsn := numG_snoc (t.take k) (t[k]'hkt)
      rw [← List.take_succ_eq_append_getElem hkt] at hsn
      have HSN := Lib.hid hsn
      have hgw := gb_wrap (t[k]'hkt)
      have hgb := gb_bd (t[k]'hkt)
      have HO := Lib.hid hO
      have HBR := Lib.hid hBr
      have hD := snocD t k hkt
      have HD := Lib.hid hD
      have HIS := Lib.hid (isD_int (t[k]'hkt))
      clear hsn hO hBr hD
      generalize (t.take k).all isD = q at *
      generalize numG (t.take k) = n at *
      have hnew : ∀ z, (wrong || !(q && z)) = ((wrong || !q) || !z) := by intro z; cases wrong <;> cases q <;> cases z <;> rfl
      have HN := Lib.hid hnew
      clear hnew
      generalize (wrong || !q) = x at *
      cases x with
      | true =>
        go_wp2_with fail
        go_roundw
        case rel =>
          refine ⟨k + 1, by omega, by go_num, by rw [HSN.out], ?_, HO.out.setCell 0 _⟩
          rw [HD.out, HN.out]
          exact HBR.out.set1 _
        case measure => simp [intOf]; omega
      | false =>
        by_cases h48 : (48 : Int) ≤ (t[k]'hkt).toNat
        · have HV : Hid ((false || !isD (t[k]'hkt)) = (decide (((t[k]'hkt).toNat : Int) < 48) || decide ((57 : Int) < (t[k]'hkt).toNat))) := Lib.hid (by rw [notD _ h48, decide_eq_false (Int.not_lt.2 h48), Bool.false_or])
          go_wp2_with fail
          go_roundw
          case rel =>
            refine ⟨k + 1, by omega, by go_num, by rw [HSN.out], ?_, HO.out.setCell 0 _⟩
            rw [HD.out, HN.out, HV.out]
            exact HBR.out.set1 _
          case measure => simp [intOf]; omega
        · have HV : Hid ((false || !isD (t[k]'hkt)) = true) := Lib.hid (by rw [HIS.out, decide_eq_false h48]; rfl)
          go_wp2_with fail
          go_roundw
          case rel =>
            refine ⟨k + 1, by omega, by go_num, by rw [HSN.out], ?_, HO.out.setCell 0 _⟩
            rw [HD.out, HN.out, HV.out]
            exact HBR.out.set1 _
          case measure => simp [intOf]; omega
    · go_wp2_with fail
      have e : t.take k = t := List.take_of_length_le (by omega)
      rw [e] at hBr
      rw [e]
      go_ret
      exact ⟨by rw [← HT.out]; rfl, by rw [← HT.out]; exact hBr, (Only.of_ext HX.out).trans hO⟩
end Go.Proofs.YteeampgbmpolfaaGreatDoor

/- The walks over the program's dates: Parse. -/
namespace Go.Proofs.YteeampgbmpolfaaGreatDoor
open Go.RowKit
attribute [local go_sem] size_bs toList_bs extract_bs get_bs append_bs lit_append append_lit

theorem Blk.new1 (w : World) (o : Obj) (t : TypeId) (cs : Array Value) : Blk ((w.alloc o).alloc (.cells cs t)) (w.heap.size + 1) t cs := by
  have := Blk.new (w.alloc o) t cs; rwa [World.size_alloc] at this

def dashes (l : Bs) : Bool := l[4]? == some 45 && l[7]? == some 45
def digitsIn (l : Bs) : Bool := (l.take 4).all isD && ((l.drop 5).take 2).all isD && ((l.drop 8).take 2).all isD
def okText (l : Bs) : Bool := decide (l.length = 10) && dashes l && digitsIn l
def pY (l : Bs) : Int := numG (l.take 4)
def pM (l : Bs) : Int := numG ((l.drop 5).take 2)
def pD (l : Bs) : Int := numG ((l.drop 8).take 2)
def parseDV (l : Bs) : Int := if okText l then ofV (pY l) (pM l) (pD l) else 0
def parseDE (l : Bs) : Int := if okText l then ofE (pY l) (pM l) (pD l) else 3
theorem len10 (l : Bs) (h : l.length = 10) : ∃ c0 c1 c2 c3 c4 c5 c6 c7 c8 c9, l = [c0, c1, c2, c3, c4, c5, c6, c7, c8, c9] := by
  match l, h with
  | [c0, c1, c2, c3, c4, c5, c6, c7, c8, c9], _ => exact ⟨c0, c1, c2, c3, c4, c5, c6, c7, c8, c9, rfl⟩

theorem okText_10 (c0 c1 c2 c3 c4 c5 c6 c7 c8 c9 : UInt8) : okText [c0, c1, c2, c3, c4, c5, c6, c7, c8, c9] = ((c4 == 45 && c7 == 45) && ((([c0, c1, c2, c3] : Bs).all isD && ([c5, c6] : Bs).all isD) && ([c8, c9] : Bs).all isD)) := by
  simp [okText, dashes, digitsIn]

set_option maxHeartbeats 1000000 in
theorem datParse (l : Bs) (w : World) (hl : l.length ≤ 1000000000) :
    Calls Tryz.prog 165 #[.string (bs l)] w fun e w' => e = .returned (.tuple #[.int .i64 (parseDV l), .int .i64 (parseDE l)]) ∧ Ext w w' := by
  have hno : okText l = false → Hid (parseDV l = 0 ∧ parseDE l = 3) := fun h => Lib.hid (by unfold parseDV parseDE; rw [h]; simp)
  by_cases h10 : l.length = 10
  · obtain ⟨c0, c1, c2, c3, c4, c5, c6, c7, c8, c9, rfl⟩ := len10 l h10
    clear hl h10
    have hok := okText_10 c0 c1 c2 c3 c4 c5 c6 c7 c8 c9
    by_cases h4 : c4 = 45
    · by_cases h7 : c7 = 45
      · subst h4; subst h7
        have hok2 : okText [c0, c1, c2, c3, 45, c5, c6, 45, c8, c9] = ((([c0, c1, c2, c3] : Bs).all isD && ([c5, c6] : Bs).all isD) && ([c8, c9] : Bs).all isD) := by rw [hok]; rfl
        have HOK := Lib.hid hok2
        have HNO := Lib.hid hno
        clear hok hok2 hno
        go_enter Tryz.func165, Tryz.ntmps165
        go_wp2_with fail
        have hs0 : ((w.alloc (.cells #[.string (bs [c0, c1, c2, c3, 45, c5, c6, 45, c8, c9])] 9)).alloc (.cells #[.bool false] 4)).cell? ⟨w.heap.size, 0, none⟩ = some (.string (bs [c0, c1, c2, c3, 45, c5, c6, 45, c8, c9])) := by simp
        have hz0 : w.heap.size + 1 < ((w.alloc (.cells #[.string (bs [c0, c1, c2, c3, 45, c5, c6, 45, c8, c9])] 9)).alloc (.cells #[.bool false] 4)).heap.size := by simp
        have hx0 : Ext w ((w.alloc (.cells #[.string (bs [c0, c1, c2, c3, 45, c5, c6, 45, c8, c9])] 9)).alloc (.cells #[.bool false] 4)) := (Ext.new _ _).alloc _
        refine (datNumY c0 c1 c2 c3 45 c5 c6 45 c8 c9 _ _ false _ hs0 (Blk.new1 _ _ _ _)).mono ?_
        rintro e w1 ⟨rfl, hB1, hO1⟩
        have hs1 := (hO1.cell (p := ⟨w.heap.size, 0, none⟩) (by simp only; omega) (by simp)).trans hs0
        have hz1 := Nat.lt_of_lt_of_le hz0 hO1.size
        have hx1 := hO1.toExt hx0 (by omega)
        have HB1 := Lib.hid hB1
        clear hs0 hz0 hx0 hO1 hB1
        go_wp2_with fail
        refine (datNumM c0 c1 c2 c3 45 c5 c6 45 c8 c9 _ _ _ _ hs1 HB1.out).mono ?_
        rintro e w2 ⟨rfl, hB2, hO2⟩
        have hs2 := (hO2.cell (p := ⟨w.heap.size, 0, none⟩) (by simp only; omega) (by simp)).trans hs1
        have hz2 := Nat.lt_of_lt_of_le hz1 hO2.size
        have hx2 := hO2.toExt hx1 (by omega)
        have HB2 := Lib.hid hB2
        clear hs1 hz1 hx1 hO2 hB2 HB1
        go_wp2_with fail
        refine (datNumD c0 c1 c2 c3 45 c5 c6 45 c8 c9 _ _ _ _ hs2 HB2.out).mono ?_
        rintro e w3 ⟨rfl, hB3, hO3⟩
        have hx3 := hO3.toExt hx2 (by omega)
        have hB4 : Blk w3 (w.heap.size + 1) 4 #[.bool (!okText [c0, c1, c2, c3, 45, c5, c6, 45, c8, c9])] := by
          rw [HOK.out, Bool.not_and, Bool.not_and]; simpa [Bool.or_assoc] using hB3
        have hc4 := hB4.cell 0
        simp only [List.getElem?_toArray, List.getElem?_cons_zero] at hc4
        clear hs2 hz2 hx2 hO3 hB3 HB2 hB4
        have HPY := Lib.hid (show pY [c0, c1, c2, c3, 45, c5, c6, 45, c8, c9] = numG [c0, c1, c2, c3] from rfl)
        have HPM := Lib.hid (show pM [c0, c1, c2, c3, 45, c5, c6, 45, c8, c9] = numG [c5, c6] from rfl)
        have HPD := Lib.hid (show pD [c0, c1, c2, c3, 45, c5, c6, 45, c8, c9] = numG [c8, c9] from rfl)
        cases hk : okText [c0, c1, c2, c3, 45, c5, c6, 45, c8, c9] with
        | false =>
          rw [hk] at hc4
          have HN := HNO.out hk
          clear hk
          go_wp2_with fail
          go_ret2
          exact ⟨by rw [HN.out.1, HN.out.2]; rfl, hx3⟩
        | true =>
          rw [hk] at hc4
          have HK := Lib.hid hk
          clear hk
          go_wp2_with fail
          refine (datOf _ _ _ _).mono ?_
          rintro e w4 ⟨rfl, hx4⟩
          go_wp2_with fail
          go_ret2
          exact ⟨by unfold parseDV parseDE; rw [if_pos HK.out, if_pos HK.out, HPY.out, HPM.out, HPD.out]; rfl, hx3.trans hx4⟩
      · have h7b : ((c7.toNat : Int) != 45) = true := by have := byte_ne (c := c7) (d := 45) h7; simpa using this
        have HN := hno (by rw [hok]; simp [h7])
        subst h4
        clear hno hok h7
        go_enter Tryz.func165, Tryz.ntmps165
        go_wp2_with fail
        go_ret2
        exact ⟨by rw [HN.out.1, HN.out.2]; rfl, Ext.new _ _⟩
    · have h4b : ((c4.toNat : Int) != 45) = true := by have := byte_ne (c := c4) (d := 45) h4; simpa using this
      have HN := hno (by rw [hok]; simp [h4])
      clear hno hok h4
      go_enter Tryz.func165, Tryz.ntmps165
      go_wp2_with fail
      go_ret2
      exact ⟨by rw [HN.out.1, HN.out.2]; rfl, Ext.new _ _⟩
  · have hb : ((l.length : Int) != 10) = true := by rw [bne_iff_ne]; omega
    have HN := hno (by unfold okText; rw [decide_eq_false h10]; rfl)
    clear hno h10
    go_enter Tryz.func165, Tryz.ntmps165
    go_wp2_with fail
    go_ret2
    exact ⟨by rw [HN.out.1, HN.out.2]; rfl, Ext.new _ _⟩
end Go.Proofs.YteeampgbmpolfaaGreatDoor
