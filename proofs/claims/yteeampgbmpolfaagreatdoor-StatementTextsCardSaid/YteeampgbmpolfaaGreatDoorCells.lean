/- How statements lie in memory. -/
import Derived.Test.YteeampgbmpolfaaGreatDoorStP
import Derived.Test.YteeampgbmpolfaaGreatDoorMem
namespace Go.Proofs.YteeampgbmpolfaaGreatDoor
open Go.RowKit

def scells (ls : List Bs) : List Value := ls.map fun l => .string (bs l)
def hcells (hs : List Hd) : List Value := hs.flatMap fun h => [.string (bs h.ins), .string (bs h.qty)]
def mcells (ms : List Mv) : List Value := ms.flatMap fun m => [.string (bs m.ref), .int .i64 m.day, .string (bs m.ins), .string (bs m.qty), .string (bs m.amt)]
theorem flat_at {α : Type} (f : α → List Value) (n : Nat) (hf : ∀ a, (f a).length = n) : ∀ (l : List α) (k j : Nat) (h : k < l.length), j < n → (l.flatMap f)[k * n + j]? = (f (l[k]'h))[j]? := by
  intro l; induction l with
  | nil => intro k j h; simp at h
  | cons a r ih =>
    intro k j h hj
    rw [List.flatMap_cons]
    cases k with
    | zero => rw [Nat.zero_mul, Nat.zero_add, List.getElem?_append_left (by rw [hf]; exact hj)]; rfl
    | succ k =>
      rw [List.getElem?_append_right (by rw [hf, Nat.succ_mul]; omega), hf, show (k + 1) * n + j - n = k * n + j by rw [Nat.succ_mul]; omega]
      exact ih k j (by simpa using h) hj
theorem flat_len {α : Type} (f : α → List Value) (n : Nat) (hf : ∀ a, (f a).length = n) : ∀ (l : List α), (l.flatMap f).length = l.length * n := by
  intro l; induction l with
  | nil => simp
  | cons a r ih => rw [List.flatMap_cons, List.length_append, hf, ih, List.length_cons, Nat.succ_mul]; omega
theorem hcells_len (hs : List Hd) : (hcells hs).length = hs.length * 2 := flat_len _ 2 (fun _ => rfl) hs
theorem mcells_len (ms : List Mv) : (mcells ms).length = ms.length * 5 := flat_len _ 5 (fun _ => rfl) ms
def RdS (w : World) (A : Option Addr) (ls : List Bs) : Prop := Reads w 1 A ls.length (scells ls)
def RdH (w : World) (A : Option Addr) (hs : List Hd) : Prop := Reads w 2 A hs.length (hcells hs)
def RdM (w : World) (A : Option Addr) (ms : List Mv) : Prop := Reads w 5 A ms.length (mcells ms)
theorem RdS.ext {w w' : World} {A : Option Addr} {ls : List Bs} (h : RdS w A ls) (he : Ext w w') : RdS w' A ls := Reads.ext h he
theorem RdH.ext {w w' : World} {A : Option Addr} {hs : List Hd} (h : RdH w A hs) (he : Ext w w') : RdH w' A hs := Reads.ext h he
theorem RdM.ext {w w' : World} {A : Option Addr} {ms : List Mv} (h : RdM w A ms) (he : Ext w w') : RdM w' A ms := Reads.ext h he
theorem RdS.at_ {w : World} {A : Option Addr} {ls : List Bs} (h : RdS w A ls) {k : Nat} (hk : k < ls.length) :
    ∃ b o, A = some ⟨b, o, none⟩ ∧ b < w.heap.size ∧ w.cell? ⟨b, o + k, none⟩ = some (.string (bs (ls[k]'hk))) := by
  obtain ⟨b, o, rfl, hb⟩ := Reads.at_ h (by omega)
  exact ⟨b, o, rfl, hb, Reads.cell h (by simp [scells, hk])⟩
theorem RdH.at_ {w : World} {A : Option Addr} {hs : List Hd} (h : RdH w A hs) {k : Nat} (hk : k < hs.length) :
    ∃ b o, A = some ⟨b, o, none⟩ ∧ b < w.heap.size ∧ w.cell? ⟨b, o + k * 2, none⟩ = some (.string (bs (hs[k]'hk).ins)) ∧ w.cell? ⟨b, o + k * 2 + 1, none⟩ = some (.string (bs (hs[k]'hk).qty)) := by
  obtain ⟨b, o, rfl, hb⟩ := Reads.at_ h (by omega)
  refine ⟨b, o, rfl, hb, Reads.cell h (j := k * 2) ?_, ?_⟩
  · exact flat_at _ 2 (fun _ => rfl) hs k 0 hk (by omega)
  · have := Reads.cell h (j := k * 2 + 1) (flat_at _ 2 (fun _ => rfl) hs k 1 hk (by omega)); rw [← Nat.add_assoc] at this; exact this
theorem RdM.at_ {w : World} {A : Option Addr} {ms : List Mv} (h : RdM w A ms) {k : Nat} (hk : k < ms.length) :
    ∃ b o, A = some ⟨b, o, none⟩ ∧ b < w.heap.size ∧ w.cell? ⟨b, o + k * 5, none⟩ = some (.string (bs (ms[k]'hk).ref)) ∧ w.cell? ⟨b, o + k * 5 + 1, none⟩ = some (.int .i64 (ms[k]'hk).day) ∧
      w.cell? ⟨b, o + k * 5 + 2, none⟩ = some (.string (bs (ms[k]'hk).ins)) ∧ w.cell? ⟨b, o + k * 5 + 3, none⟩ = some (.string (bs (ms[k]'hk).qty)) ∧ w.cell? ⟨b, o + k * 5 + 4, none⟩ = some (.string (bs (ms[k]'hk).amt)) := by
  obtain ⟨b, o, rfl, hb⟩ := Reads.at_ h (by omega)
  refine ⟨b, o, rfl, hb, Reads.cell h (j := k * 5) ?_, ?_, ?_, ?_, ?_⟩
  · exact flat_at _ 5 (fun _ => rfl) ms k 0 hk (by omega)
  · have := Reads.cell h (j := k * 5 + 1) (flat_at _ 5 (fun _ => rfl) ms k 1 hk (by omega)); rw [← Nat.add_assoc] at this; exact this
  · have := Reads.cell h (j := k * 5 + 2) (flat_at _ 5 (fun _ => rfl) ms k 2 hk (by omega)); rw [← Nat.add_assoc] at this; exact this
  · have := Reads.cell h (j := k * 5 + 3) (flat_at _ 5 (fun _ => rfl) ms k 3 hk (by omega)); rw [← Nat.add_assoc] at this; exact this
  · have := Reads.cell h (j := k * 5 + 4) (flat_at _ 5 (fun _ => rfl) ms k 4 hk (by omega)); rw [← Nat.add_assoc] at this; exact this
/-- the sizes that the walks ask of the strings -/
def SmallH (h : Hd) : Prop := h.ins.length ≤ 1000000 ∧ h.qty.length ≤ 1000000
def SmallM (m : Mv) : Prop := m.ref.length ≤ 1000000 ∧ m.ins.length ≤ 1000000 ∧ m.qty.length ≤ 1000000 ∧ m.amt.length ≤ 1000000
end Go.Proofs.YteeampgbmpolfaaGreatDoor
