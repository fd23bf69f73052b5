/- The seat's texts, part 1 of 5. -/
import Derived.Test.YtikehdbkiplleaaGreatDoorZ0
import Derived.WalkKit
import Derived.WalkSpells
import Derived.WalkLawsBesides
import Derived.Lib.Hide
import Derived.Lib.Strings
import Derived.Deep.DeepCutAuto
import Derived.Deep.CutBlock
import Derived.Deep.QuietTactic
import Derived.BigQuiet
import Derived.RegionTactic
import Derived.Deep.DeepFit
import Derived.Deep.LoopGhost
import Derived.Outline
import Derived.Deep.Draws
import Derived.Deep.AppendLies
import Derived.WalkSmall
import Derived.Lib.ConvBytes
import Derived.Laws.BytesArg
import Derived.Test.YtikehdbkiplleaaGreatDoorRows
import Derived.ProofKit
import Derived.OpenShut
import Derived.Deep.Slices
import Derived.Deep.Fields
import Derived.Lib.SmallJoins
import Derived.ChangeSame
import Derived.WideKeyArgs
import Derived.Stop.LaidErr
import Derived.Lib.ParseIntB
import Derived.Lib.ItoaNum
import Derived.Lib.AtoiAll
import Derived.Shelf.Strings.SlTrimAscii
import Derived.Laws.Rows
import Derived.Shelf.Spec.SlicesInsertGrow
import Derived.Deep.RegionLaw
import Derived.Laws.OwnMore
import Derived.IntWalk
import Derived.Laws.MakeOwn
import Derived.Laws.IdiomCopy
import Derived.Deep.RegionHeld3

/- Plain ground: strings as lists of bytes ('bs'), and the small laws by which a walk reads them. No program in sight. -/
namespace Go.Proofs.YtikehdbkiplleaaGreatDoor
open Go.RowKit

abbrev Bs := List UInt8
/-- The string with the bytes l. -/
def bs (l : Bs) : ByteArray := ⟨l.toArray⟩
def L (s : ByteArray) : Bs := s.data.toList
theorem bs_L (s : ByteArray) : bs (L s) = s := Lib.mk_data s
theorem L_bs (l : Bs) : L (bs l) = l := by simp [L, bs]
theorem data_bs (l : Bs) : (bs l).data.toList = l := by simp [bs]
theorem size_bs (l : Bs) : (bs l).size = l.length := by rw [Lib.size_eq, data_bs]
theorem toList_bs (l : Bs) : (bs l).toList = l := by rw [Lib.toList_data, data_bs]
theorem bs_inj {a b : Bs} (h : bs a = bs b) : a = b := by rw [← L_bs a, h, L_bs]
theorem extract_bs (l : Bs) (a b : Nat) : (bs l).extract a b = bs ((l.drop a).take (b - a)) := by rw [Lib.extract_eq, data_bs]; rfl
theorem get_bs (l : Bs) (i : Nat) (h : i < (bs l).size) : (bs l)[i] = l[i]'(by rw [size_bs] at h; exact h) := by
  simp [bs]; rfl
theorem append_bs (a b : Bs) : bs a ++ bs b = bs (a ++ b) := by
  apply ByteArray.ext; simp [bs]
theorem lit_append (a : Array UInt8) (l : Bs) : (⟨a⟩ : ByteArray) ++ bs l = bs (a.toList ++ l) := by
  apply ByteArray.ext; simp [bs]
theorem append_lit (a : Array UInt8) (l : Bs) : bs l ++ (⟨a⟩ : ByteArray) = bs (l ++ a.toList) := by
  apply ByteArray.ext; simp [bs]
theorem empty_bs : (⟨#[]⟩ : ByteArray) = bs [] := rfl
theorem lit_bs (l : Bs) : (⟨l.toArray⟩ : ByteArray) = bs l := rfl
theorem byte_ne {c d : UInt8} (h : c ≠ d) : ((c.toNat : Int) == (d.toNat : Int)) = false := by
  rw [beq_eq_false_iff_ne]; intro e; exact h (UInt8.toNat_inj.1 (by omega))
theorem byte_eq {c d : UInt8} (h : c = d) : ((c.toNat : Int) == (d.toNat : Int)) = true := by rw [h]; exact beq_self_eq_true _
end Go.Proofs.YtikehdbkiplleaaGreatDoor

/- Words for memory: 'Ext w w2': all that lay in w lies unturned in w2 (new blocks may have come); 'Reads': a slice that reads as a list of cells. -/
namespace Go.Proofs.YtikehdbkiplleaaGreatDoor
open Go.RowKit

def Ext (w w' : World) : Prop := Below w.heap.size w w'
theorem Ext.refl (w : World) : Ext w w := Below.refl _ _
theorem Ext.trans {a b c : World} (h : Ext a b) (k : Ext b c) : Ext a c := Below.trans h (k.mono h.size)
theorem Ext.size {a b : World} (h : Ext a b) : a.heap.size ≤ b.heap.size := Below.size h
theorem Ext.alloc {a b : World} (h : Ext a b) (o : Obj) : Ext a (b.alloc o) := Below.alloc h h.size o
theorem Ext.new (w : World) (o : Obj) : Ext w (w.alloc o) := (Ext.refl w).alloc o
theorem Ext.drew {a b : World} (h : Ext a b) : Ext a b.drew := Below.drew h
theorem Ext.drewN {a b : World} (h : Ext a b) (n : Nat) : Ext a (b.drewN n) := ⟨h.os, h.tape, h.output, h.size, h.block⟩
theorem Ext.setCell {a b : World} (h : Ext a b) {p : Addr} (hp : a.heap.size ≤ p.block) (u : Value) : Ext a (b.setCell p u) := Below.setCell h hp u
theorem Ext.of_alloc {w w' : World} {o : Obj} (h : Ext (w.alloc o) w') : Ext w w' := (Ext.new w o).trans h
theorem Ext.cell {w w' : World} (h : Ext w w') {p : Addr} (hp : p.block < w.heap.size) : w'.cell? p = w.cell? p := Below.cell h hp
theorem Ext.frozen {w w' : World} (h : Ext w w') {p : Addr} (hp : p.block < w.heap.size) : w'.frozen? p = w.frozen? p := Below.frozen h hp
/-- Laid into the context behind a call: the walk reads older cells by these two rules. -/
theorem Ext.rules {w w' : World} (h : Ext w w') : (∀ b o, b < w.heap.size → w'.cell? ⟨b, o, none⟩ = w.cell? ⟨b, o, none⟩) ∧ (∀ b o, b < w.heap.size → w'.frozen? ⟨b, o, none⟩ = w.frozen? ⟨b, o, none⟩) :=
  ⟨fun b o hb => h.cell (p := ⟨b, o, none⟩) hb, fun b o hb => h.frozen (p := ⟨b, o, none⟩) hb⟩

/-- The slice with the address A and n elements of 'size' cells holds the cells xs, and lies in w. -/
def Reads (w : World) (size : Nat) (A : Option Addr) (n : Nat) (xs : List Value) : Prop :=
  xs.length = n * size ∧ (0 < n → ∃ b o, A = some ⟨b, o, none⟩ ∧ b < w.heap.size ∧ ∀ j u, xs[j]? = some u → w.cell? ⟨b, o + j, none⟩ = some u)
theorem Reads.nil {w : World} {size : Nat} {A : Option Addr} : Reads w size A 0 [] := ⟨by simp, fun h => absurd h (by omega)⟩
theorem Reads.ext {w w' : World} {size n : Nat} {A : Option Addr} {xs : List Value} (h : Reads w size A n xs) (he : Ext w w') : Reads w' size A n xs :=
  ⟨h.1, fun hn => by
    obtain ⟨b, o, e, hb, hc⟩ := h.2 hn
    exact ⟨b, o, e, Nat.lt_of_lt_of_le hb he.size, fun j u hu => (he.cell (p := ⟨b, o + j, none⟩) hb).trans (hc j u hu)⟩⟩
theorem Reads.cell {w : World} {size n : Nat} {b o : Nat} {xs : List Value} (h : Reads w size (some ⟨b, o, none⟩) n xs) {j : Nat} {u : Value} (hu : xs[j]? = some u) : w.cell? ⟨b, o + j, none⟩ = some u := by
  have hj : j < xs.length := (List.getElem?_eq_some_iff.1 hu).1
  have hn : 0 < n := by
    rcases Nat.eq_zero_or_pos n with h0 | h0
    · have := h.1; rw [h0] at this; omega
    · exact h0
  obtain ⟨b', o', e, _, hc⟩ := h.2 hn
  injection e with e; injection e with e1 e2; subst e1; subst e2
  exact hc j u hu
theorem Reads.at_ {w : World} {size n : Nat} {A : Option Addr} {xs : List Value} (h : Reads w size A n xs) (hn : 0 < n) : ∃ b o, A = some ⟨b, o, none⟩ ∧ b < w.heap.size := by
  obtain ⟨b, o, e, hb, _⟩ := h.2 hn; exact ⟨b, o, e, hb⟩
theorem Reads.own {w : World} {base : Nat} {e : TypeId} {size n c : Nat} {A : Option Addr} {xs : List Value} (h : w.ownsRow base e size (.slice A n c) n xs) : Reads w size A n xs := by
  refine ⟨h.1, fun hn => ?_⟩
  obtain ⟨g, cap, hv, _, hlt⟩ := h.form hn
  have hA : A = some ⟨g, 0, none⟩ := by injection hv
  subst hA
  refine ⟨g, 0, rfl, hlt, fun j u hu => ?_⟩
  have := h.cells (g := g) rfl j u hu
  unfold Addr.add at this
  rcases Nat.eq_zero_or_pos j with h0 | h0
  · subst h0; simpa using this
  · rw [if_neg (by omega)] at this; exact this
/-- the call has made a slice of a literal's elements -/
theorem Reads.lit {w : World} {t : TypeId} {size n : Nat} {xs : List Value} (hl : xs.length = n * size) : Reads (w.alloc (.cells xs.toArray t)) size (some ⟨w.heap.size, 0, none⟩) n xs :=
  ⟨hl, fun _ => ⟨w.heap.size, 0, rfl, by simp, fun j u hu => by
    have := World.cell?_alloc_new w xs.toArray t j
    simp only [Nat.zero_add]
    rw [this]; simpa using hu⟩⟩
/-- '[]byte(s)': a new block with the bytes. -/
theorem conv_bytes {P : Program} (w : World) (src dst e : TypeId) (l : Bs) {u : TypeDesc} (hs : P.underlying src = some u) (hd : P.underlying dst = some (.slice e)) (he : P.underlying e = some (.int .u8)) :
    ∃ cap w1, (convert src dst (.string (bs l))).run P w = .ok (.slice (some ⟨w.heap.size, 0, none⟩) l.length cap) w1 ∧ Ext w w1 ∧ w1.heap.size = w.heap.size + 1 ∧
      ∀ (j : Nat) (h : j < l.length), w1.cell? ⟨w.heap.size, j, none⟩ = some (.int .u8 (l[j]'h).toNat) := by
  refine ⟨grownCap w (bs l).size 0 e, Lib.bytesWorld w e (bs l), ?_, ?_, Lib.bytesWorld_size w e (bs l), fun j h => ?_⟩
  · have := Lib.run_convert_string_bytes (P := P) w src dst e (bs l) hs hd he
    rw [this, size_bs]
  · exact ⟨rfl, rfl, rfl, by rw [Lib.bytesWorld_size]; omega, fun k hk => Lib.bytesWorld_at_old w e (bs l) k hk⟩
  · rw [Lib.bytesWorld_cell w e (bs l) j (by rw [size_bs]; exact h), data_bs, List.getD_eq_getElem?_getD, List.getElem?_eq_getElem h]; rfl
/-- 'string([]byte{x})' -/
theorem conv_one {P : Program} (w : World) (src dst e : TypeId) (x : Int) (hs : P.underlying src = some (.slice e)) (he : P.underlying e = some (.int .u8)) (hd : P.underlying dst = some .string) :
    (convert src dst (.slice (some ⟨w.heap.size, 0, none⟩) 1 1)).run P (w.alloc (.cells #[.int .u8 x] e)) = .ok (.string (bs [UInt8.ofNat x.toNat])) (w.alloc (.cells #[.int .u8 x] e)) := by
  have hc : ∀ i, i < 1 → (w.alloc (.cells #[.int .u8 x] e)).cell? ⟨w.heap.size, 0 + i, none⟩ = some (.int .u8 (([x] : List Int).getD i 0)) := by
    intro i hi
    obtain rfl : i = 0 := by omega
    rw [World.cell?_alloc_new]; rfl
  rw [run_convert_bytes_arg (P := P) _ src e hs he w.heap.size 0 1 1 [x] rfl hc dst hd]; rfl
end Go.Proofs.YtikehdbkiplleaaGreatDoor

/- How lists lie in memory. -/
namespace Go.Proofs.YtikehdbkiplleaaGreatDoor
open Go.RowKit

def scells (ls : List Bs) : List Value := ls.map fun l => .string (bs l)
theorem flat_at {α : Type} (f : α → List Value) (n : Nat) (hf : ∀ a, (f a).length = n) : ∀ (l : List α) (k j : Nat) (h : k < l.length), j < n → (l.flatMap f)[k * n + j]? = (f (l[k]'h))[j]? := by
  intro l; induction l with
  | nil => intro k j h; simp at h
  | cons a r ih =>
    intro k j h hj
    rw [List.flatMap_cons]
    cases k with
    | zero => rw [Nat.zero_mul, Nat.zero_add, List.getElem?_append_left (by rw [hf]; exact hj)]; rfl
    | succ k =>
      rw [List.getElem?_append_right (by rw [hf, Nat.succ_mul]; omega), hf, show (k + 1) * n + j - n = k * n + j by rw [Nat.succ_mul]; omega]
      exact ih k j (by simpa using h) hj
theorem flat_len {α : Type} (f : α → List Value) (n : Nat) (hf : ∀ a, (f a).length = n) : ∀ (l : List α), (l.flatMap f).length = l.length * n := by
  intro l; induction l with
  | nil => simp
  | cons a r ih => rw [List.flatMap_cons, List.length_append, hf, ih, List.length_cons, Nat.succ_mul]; omega
def RdS (w : World) (A : Option Addr) (ls : List Bs) : Prop := Reads w 1 A ls.length (scells ls)
theorem RdS.ext {w w' : World} {A : Option Addr} {ls : List Bs} (h : RdS w A ls) (he : Ext w w') : RdS w' A ls := Reads.ext h he
theorem RdS.at_ {w : World} {A : Option Addr} {ls : List Bs} (h : RdS w A ls) {k : Nat} (hk : k < ls.length) :
    ∃ b o, A = some ⟨b, o, none⟩ ∧ b < w.heap.size ∧ w.cell? ⟨b, o + k, none⟩ = some (.string (bs (ls[k]'hk))) := by
  obtain ⟨b, o, rfl, hb⟩ := Reads.at_ h (by omega)
  exact ⟨b, o, rfl, hb, Reads.cell h (by simp [scells, hk])⟩
end Go.Proofs.YtikehdbkiplleaaGreatDoor

/- From a row's reading to what the walks take: statements as arguments, the library's variables, and the row's last step. -/
namespace Go.Proofs.YtikehdbkiplleaaGreatDoor
open Go.ChangeShapes Go.WideShapes Go.ChangeAt Go.RowKit Go.Deep Go.Joins

theorem list_of {α : Type} [Inhabited α] (n : Nat) (Q : Nat → α → Prop) (h : ∀ i, i < n → ∃ a, Q i a) : ∃ xs : List α, xs.length = n ∧ ∀ (i : Nat) (hi : i < xs.length), Q i (xs[i]'hi) := by
  induction n with
  | zero => exact ⟨[], rfl, fun i hi => absurd hi (by simp)⟩
  | succ n ih =>
    obtain ⟨xs, hl, hx⟩ := ih (fun i hi => h i (by omega))
    obtain ⟨a, ha⟩ := h n (by omega)
    refine ⟨xs ++ [a], by simp [hl], fun i hi => ?_⟩
    rcases Nat.lt_or_ge i xs.length with h1 | h1
    · rw [List.getElem_append_left h1]; exact hx i h1
    · have : i = n := by simp at hi; omega
      subst this
      rw [List.getElem_append_right h1]
      simpa [hl] using ha
section
variable {H : Type} {enc : TypeId × Value → H} {P : Program} {w : World} {base : Nat} {spare : Nat → Bool} {held : Bool}
/-- a slice that came in, element by element, whatever its elements are -/
theorem open_list {α : Type} [Inhabited α] (f : α → List Value) (k : Nat) (hk : 0 < k) (hf : ∀ a, (f a).length = k) {t e : TypeId} {fuel : Nat} {cs : List Value} {x : DataW H × List MemPlace} (ht : P.underlying t = some (.slice e)) (hC : P.cellsOf e = k)
    (ho : ∀ n cs' y, DataW.trod enc P w base spare held n e cs' = some y → ∃ a, cs' = f a) (h : DataW.trod enc P w base spare held fuel t cs = some x) :
    ∃ (A : Option Addr) (c : Nat) (xs : List α), cs = [.slice A xs.length c] ∧ Reads w k A xs.length (xs.flatMap f) ∧ xs.length ≤ c ∧ (xs = [] ∨ ∃ el sp, x.1 = .slice el sp ∧ el.length = xs.length) := by
  rcases open_slice ht h with ⟨rfl, _⟩ | ⟨a, len, cap, m, n, D, Pl, rfl, _, hlc, _, hm, hx, hi⟩
  · exact ⟨none, 0, [], rfl, Reads.nil, Nat.le_refl _, .inl rfl⟩
  · have hml : len ≤ m := by rw [hm]; split <;> omega
    obtain ⟨xs, hl, hq⟩ := list_of len (fun i b => ∀ j, j < k → w.cell? (a.add (i * k + j)) = (f b)[j]?) (fun i hlt => by
      obtain ⟨cs', hc, ht'⟩ := hi i (by omega)
      obtain ⟨b, rfl⟩ := ho _ _ _ ht'
      obtain ⟨_, hcl, hat⟩ := World.cells?_some hc
      rw [hC] at hat
      exact ⟨b, fun j hj => by rw [← hat j hj, Go.Deep.add_add]⟩)
    subst hl
    refine ⟨some a, cap, xs, rfl, ⟨flat_len f k hf xs, fun hn => ?_⟩, hlc, .inr ⟨_, _, by rw [hx], by simp⟩⟩
    have h00 := hq 0 hn 0 hk
    rw [Nat.zero_mul, Nat.zero_add] at h00
    have h0 : w.cell? a = (f (xs[0]'hn))[0]? := h00
    have hl0 : 0 < (f (xs[0]'hn)).length := by rw [hf]; exact hk
    rw [List.getElem?_eq_getElem hl0] at h0
    obtain ⟨b, o, sp⟩ := a
    have hsp : sp = none ∧ b < w.heap.size := by
      unfold World.cell? at h0
      cases hb : w.heap[b]? with
      | none => simp [hb] at h0
      | some ob =>
        have hlt := (Array.getElem?_eq_some_iff.1 hb).1
        cases sp with
        | none => exact ⟨rfl, hlt⟩
        | some q =>
          exfalso
          simp only [hb] at h0
          cases ob <;> simp at h0
    obtain ⟨rfl, hlt⟩ := hsp
    refine ⟨b, o, rfl, hlt, fun j u hu => ?_⟩
    have hj : j < xs.length * k := by
      have := (List.getElem?_eq_some_iff.1 hu).1; rw [flat_len f k hf xs] at this; exact this
    have hjk : j / k < xs.length := (Nat.div_lt_iff_lt_mul hk).2 hj
    have he : j = (j / k) * k + j % k := by have := Nat.div_add_mod j k; rw [Nat.mul_comm] at this; omega
    have h1 := flat_at f k hf xs (j / k) (j % k) hjk (Nat.mod_lt _ hk)
    rw [← he, hu] at h1
    have h2 := hq (j / k) hjk (j % k) (Nat.mod_lt _ hk)
    rw [← he, ← h1] at h2
    rw [← h2]
    unfold Addr.add
    rcases Nat.eq_zero_or_pos j with h0 | h0
    · subst h0; rfl
    · rw [if_neg (by omega)]
end
/-- below the heap's old size nothing has turned: all arguments read as they did -/
theorem trodAll_stays {H : Type} {enc : TypeId × Value → H} {P : Program} (hl : laidOutB P = true) {W W' : World} (hb : Below W.heap.size W W') {sp : Nat → Bool} :
    ∀ {ts : List TypeId} {vs : List Value} {ds : List (DataW H)} {ps : List MemPlace}, (ts.all fun t => P.readableRec t && decide (t < P.types.size)) = true → DataW.TrodAll enc P W 0 (fun _ => true) true ts vs ds ps → (∀ p ∈ ps, p.block < W.heap.size) → (∀ p ∈ ps, sp p.block = true) →
      DataW.TrodAll enc P W' 0 sp true ts vs ds ps
  | [], vs, ds, ps, _, h, _, _ => by
    obtain ⟨rfl, rfl, rfl⟩ := trodAll_nil h
    exact trodAll_mk0
  | t :: ts, vs, ds, ps, hr, h, h1, h2 => by
    obtain ⟨v0, vs0, d0, ds0, p0, q0, rfl, rfl, rfl, h0, r0⟩ := trodAll_cons h
    simp only [List.all_cons, Bool.and_eq_true, decide_eq_true_eq] at hr
    refine trodAll_cons_mk (WideElems.Trod_stays hl hr.1.1 hr.1.2 h0 (fun x hx => hb.same (h1 x (by simp [hx]))) (fun x hx => h2 x (by simp [hx]))) ?_
    exact trodAll_stays hl hb (by simpa using hr.2) r0 (fun p hp => h1 p (by simp [hp])) (fun p hp => h2 p (by simp [hp]))
/-- THE ROW's LAST STEP OF A LAW: it has returned true, and what lay in memory lies as it did -/
theorem post_law {H : Type} {enc : TypeId × Value → H} {P : Program} {f : Func} {s : ChangeSpec} {apart fresh handsOn again : Bool} {W W' : World} {args : Array Value} {tb : TypeId} {ds gs : List (DataW H)} {before : List MemPlace}
    (hl : laidOutB P = true) (hts : (f.params.toList.all fun t => P.readableRec t && decide (t < P.types.size)) = true) (hrt : f.resultTypes = #[tb]) (hbt : P.underlying tb = some .bool) (hvs : s.vars = [])
    (hW : DataW.Whole enc P f.params.toList s.vars apart W args.toList ds gs before) (hsr : (s.fn H (ds ++ gs)).results = [.lit (.bool true)]) (hsa : (s.fn H (ds ++ gs)).args = ds) (hsv : (s.fn H (ds ++ gs)).vars = []) (hb : Below W.heap.size W W') :
    s.post enc P f apart fresh handsOn again W args (.bool true) W' := by
  have hlt : ∀ p ∈ before, p.block < W.heap.size := fun p hp => hW.lt p hp
  have hold : ∀ p ∈ before, (fun b => decide (b < W.heap.size)) p.block = true := fun p hp => by simpa using hlt p hp
  have hW0 := hW
  obtain ⟨pa, pv, hA, hV, hpp, hz, hn⟩ := hW0
  rw [hvs] at hV
  obtain ⟨rfl, rfl⟩ := trodVars_none hV
  rw [List.append_nil] at hpp
  subst hpp
  have hres : ∀ (b : Nat) (sp : Nat → Bool) (hd : Bool), DataW.TrodAll enc P W' b sp hd f.resultTypes.toList ((Value.bool true).resultList f.resultTypes.size) (s.fn H (ds ++ [])).results [] := by
    intro b sp hd; rw [hrt, hsr]; exact trodAll_cons_mk (shut_bool hbt _) trodAll_mk0
  have hargs : ∀ sp : Nat → Bool, (∀ p ∈ before, sp p.block = true) → DataW.TrodAll enc P W' 0 sp true f.params.toList args.toList (s.fn H (ds ++ [])).args before := by
    intro sp hsp; rw [hsa]; exact trodAll_stays hl hb hts hA hlt hsp
  have hvars : ∀ sp : Nat → Bool, DataW.TrodVars enc P W' sp s.vars (s.fn H (ds ++ [])).vars [] := by
    intro sp; rw [hvs, hsv]; exact rfl
  have hok : ∀ (j : Nat) (t : TypeId) (r : Value), f.resultTypes[j]? = some t → ((Value.bool true).resultList f.resultTypes.size)[j]? = some r → Value.okWide P W' .any 0 t r :=
    ok_one hrt rfl (okWide_bool_mk hbt _)
  refine ⟨ds, [], before, [], before, [], hW, hres _ _ _, hargs _ hold, hvars _, World.keptBut_mono (fun p hp => ⟨hp, Or.inr (by simpa using hp)⟩) (hb.frame (· ∈ before)), fun _ => ⟨hok, _, _, ([] ++ before) ++ [], ⟨[] ++ before, [], trodAll_append (hargs _ (fun _ _ => rfl)) (hres _ _ _), hvars _, rfl, ?_, ?_⟩, ?_⟩⟩
  · intro b off hp
    have hin : MemPlace.cell b off ∈ before := by simpa using hp
    rw [hb.frozen (hlt _ hin)]
    exact hz b off hin
  · intro ha
    simpa using hn ha
  · intro p hp _
    simpa using hp
end Go.Proofs.YtikehdbkiplleaaGreatDoor

/- Plain: what 'digits', 'Canonical', 'Check', 'Print' and 'Parse' of the integers compute, on lists of bytes. No program in sight. -/
namespace Go.Proofs.YtikehdbkiplleaaGreatDoor
open Go.RowKit

def isD (c : UInt8) : Bool := decide (48 ≤ c.toNat) && decide (c.toNat ≤ 57)
def isMin (l : Bs) : Bool := match l with | [] => false | c :: _ => c == 45
/-- without a leading minus sign -/
def strip (l : Bs) : Bs := if isMin l then l.tail else l
def noZeros : Bs → Bs | [] => [] | c :: r => if c == 48 then noZeros r else c :: r
/-- the significant digits -/
def magT (t : Bs) : Bs := if t.all isD then noZeros t else []
def negT (b : Bool) (t : Bs) : Bool := b && !(magT t).isEmpty
def mag (l : Bs) : Bs := magT (strip l)
def neg (l : Bs) : Bool := negT (isMin l) (strip l)
def canon (l : Bs) : Bs := if neg l then 45 :: mag l else mag l
def checkI (l : Bs) : Int := if canon l = l then 0 else 1
def printI (l : Bs) : Bs := if canon l = [] then [48] else canon l
def parseIV (l : Bs) : Bs := if l.length > 65536 then [] else if printI l ≠ l then [] else canon l
def parseIE (l : Bs) : Int := if l.length > 65536 then 4 else if printI l ≠ l then 3 else 0

theorem noZeros_le (l : Bs) : (noZeros l).length ≤ l.length := by
  induction l with
  | nil => simp [noZeros]
  | cons c r ih => unfold noZeros; split <;> simp <;> omega
theorem strip_le (l : Bs) : (strip l).length ≤ l.length := by unfold strip; split <;> simp
theorem mag_le (l : Bs) : (mag l).length ≤ l.length := by
  unfold mag magT; split
  · exact Nat.le_trans (noZeros_le _) (strip_le _)
  · simp
theorem mag_le_of_min (l : Bs) (h : isMin l = true) : (mag l).length + 1 ≤ l.length := by
  cases l with
  | nil => simp [isMin] at h
  | cons c r =>
    have : strip (c :: r) = r := by simp [strip, h]
    unfold mag magT; rw [this]; split
    · have := noZeros_le r; simp; omega
    · simp
theorem canon_le (l : Bs) : (canon l).length ≤ l.length := by
  unfold canon neg negT
  by_cases h : isMin l = true
  · have := mag_le_of_min l h
    have := mag_le l
    split <;> simp <;> omega
  · have := mag_le l
    simp [h]; exact this
/-- how long the string in a slot is (for a loop's measure) -/
def strLen : Value → Nat | .string s => s.size | _ => 0
theorem isD_bad {c : UInt8} (h : c.toNat < 48 ∨ 57 < c.toNat) : isD c = false := by
  unfold isD; rcases h with h | h
  · rw [Bool.and_eq_false_iff]; left; simp; omega
  · rw [Bool.and_eq_false_iff]; right; simp; omega
theorem isD_good {c : UInt8} (h : 48 ≤ c.toNat) (h' : c.toNat ≤ 57) : isD c = true := by simp [isD, h, h']
theorem all_bad (t : Bs) (k : Nat) (hk : k < t.length) (h : (t[k]'hk).toNat < 48 ∨ 57 < (t[k]'hk).toNat) : t.all isD = false := by
  rw [List.all_eq_false]; exact ⟨_, List.getElem_mem hk, by simp [isD_bad h]⟩
theorem magT_bad (t : Bs) (k : Nat) (hk : k < t.length) (h : (t[k]'hk).toNat < 48 ∨ 57 < (t[k]'hk).toNat) : magT t = [] := by
  unfold magT; rw [all_bad t k hk h]; rfl
theorem negT_bad (b : Bool) (t : Bs) (k : Nat) (hk : k < t.length) (h : (t[k]'hk).toNat < 48 ∨ 57 < (t[k]'hk).toNat) : negT b t = false := by
  unfold negT; rw [magT_bad t k hk h]; simp
theorem take_all_succ (t : Bs) (k : Nat) (hk : k < t.length) (h : (t.take k).all isD = true) (h1 : ¬ ((t[k]'hk).toNat : Int) < 48) (h2 : ¬ 57 < ((t[k]'hk).toNat : Int)) : (t.take (k + 1)).all isD = true := by
  rw [List.take_succ_eq_append_getElem hk, List.all_append, h]
  simp only [List.all_cons, List.all_nil, Bool.and_true, Bool.true_and]
  exact isD_good (by omega) (by omega)
theorem take_all_end (t : Bs) (k : Nat) (hk : ¬ k < t.length) (h : (t.take k).all isD = true) : t.all isD = true := by
  rw [List.take_of_length_le (by omega)] at h; exact h
theorem magT_good (t : Bs) (h : t.all isD = true) : magT t = noZeros t := by unfold magT; rw [if_pos h]
theorem negT_good (b : Bool) (t : Bs) (h : t.all isD = true) : negT b t = (b && !(noZeros t).isEmpty) := by unfold negT; rw [magT_good t h]
end Go.Proofs.YtikehdbkiplleaaGreatDoor

/- Plain: names, and the number of digits. -/
namespace Go.Proofs.YtikehdbkiplleaaGreatDoor
open Go.RowKit
/-- a byte that a name may have -/
def isN (c : UInt8) : Bool := (decide (97 ≤ c.toNat) && decide (c.toNat ≤ 122)) || (decide (48 ≤ c.toNat) && decide (c.toNat ≤ 57)) || decide (c.toNat = 95)
def isName (l : Bs) : Bool := decide (1 ≤ l.length) && decide (l.length ≤ 16) && l.all isN
def digs (l : Bs) : Int := (strip l).length
/-- the walk's test: the byte is none of a name -/
def badN (c : Int) : Bool := ((decide (c < 97) || decide (122 < c)) && (decide (c < 48) || decide (57 < c))) && !(c == 95)
theorem badN_iff (c : UInt8) : badN (c.toNat : Int) = !isN c := by
  have h : ∀ n : Fin 256, badN ((UInt8.ofNat n.val).toNat : Int) = !isN (UInt8.ofNat n.val) := by decide +kernel
  have hc := h ⟨c.toNat, c.toNat_lt⟩
  simpa using hc
theorem isName_bad (l : Bs) (k : Nat) (hk : k < l.length) (h : isN (l[k]'hk) = false) : isName l = false := by
  have : l.all isN = false := by rw [List.all_eq_false]; exact ⟨_, List.getElem_mem hk, by simp [h]⟩
  simp [isName, this]
theorem takeN_succ (l : Bs) (k : Nat) (hk : k < l.length) (h : (l.take k).all isN = true) (hc : isN (l[k]'hk) = true) : (l.take (k + 1)).all isN = true := by
  rw [List.take_succ_eq_append_getElem hk, List.all_append, h]; simp [hc]
theorem isName_good (l : Bs) (k : Nat) (hk : ¬ k < l.length) (h : (l.take k).all isN = true) (h1 : 1 ≤ l.length) (h2 : l.length ≤ 16) : isName l = true := by
  rw [List.take_of_length_le (by omega)] at h
  unfold isName; rw [h]; simp [h1, h2]
theorem isN_good {c : UInt8} (h : ((97 ≤ (c.toNat : Int) ∧ (c.toNat : Int) ≤ 122) ∨ (48 ≤ (c.toNat : Int) ∧ (c.toNat : Int) ≤ 57)) ∨ (95 ≤ (c.toNat : Int) ∧ (c.toNat : Int) ≤ 95)) : isN c = true := by
  unfold isN; rcases h with (h | h) | h
  · have h1 : 97 ≤ c.toNat := by omega
    have h2 : c.toNat ≤ 122 := by omega
    simp [h1, h2]
  · have h1 : 48 ≤ c.toNat := by omega
    have h2 : c.toNat ≤ 57 := by omega
    simp [h1, h2]
  · have h1 : c.toNat = 95 := by omega
    simp [h1]
theorem isN_bad {c : UInt8} (h : ¬ (((97 ≤ (c.toNat : Int) ∧ (c.toNat : Int) ≤ 122) ∨ (48 ≤ (c.toNat : Int) ∧ (c.toNat : Int) ≤ 57)) ∨ (95 ≤ (c.toNat : Int) ∧ (c.toNat : Int) ≤ 95))) : isN c = false := by
  cases hn : isN c with
  | false => rfl
  | true =>
    exfalso; apply h; unfold isN at hn
    simp only [Bool.or_eq_true, Bool.and_eq_true, decide_eq_true_eq] at hn
    omega
theorem takeN_end (l : Bs) (k : Nat) (hk : ¬ k < l.length) (h : (l.take k).all isN = true) : l.all isN = true := by
  rw [List.take_of_length_le (by omega)] at h; exact h
theorem isName_all (l : Bs) (h : l.all isN = true) : isName l = (decide (1 ≤ l.length) && decide (l.length ≤ 16)) := by
  unfold isName; rw [h, Bool.and_true]
end Go.Proofs.YtikehdbkiplleaaGreatDoor

/- Plain: the values of numbers: decimal digits, groups of nine digits. No program in sight. -/
namespace Go.Proofs.YtikehdbkiplleaaGreatDoor
open Go.RowKit

def gb (c : UInt8) : Int := if 48 ≤ c.toNat then (c.toNat : Int) - 48 else (c.toNat : Int) + 208
theorem isD_iff (c : UInt8) : isD c = true ↔ 48 ≤ c.toNat ∧ c.toNat ≤ 57 := by simp [isD]
theorem noZeros_all {l : Bs} (h : l.all isD = true) : (noZeros l).all isD = true := by
  induction l with
  | nil => rfl
  | cons c r ih =>
    unfold noZeros; split
    · exact ih (by simp only [List.all_cons, Bool.and_eq_true] at h; exact h.2)
    · exact h
theorem magT_all (l : Bs) : (magT l).all isD = true := by
  unfold magT; split
  · exact noZeros_all (by assumption)
  · rfl
theorem dig_of (n : Nat) (h : n < 10) : isD (UInt8.ofNat (48 + n)) = true ∧ gb (UInt8.ofNat (48 + n)) = n := by
  have e : (UInt8.ofNat (48 + n)).toNat = 48 + n := UInt8.toNat_ofNat_of_lt' (by show _ < 256; omega)
  refine ⟨(isD_iff _).2 (by omega), ?_⟩
  unfold gb; rw [if_pos (by omega)]; omega
theorem snocInd {α : Type} {P : List α → Prop} (h0 : P []) (h1 : ∀ l a, P l → P (l ++ [a])) (l : List α) : P l := by
  have key : ∀ q : List α, P q.reverse := by
    intro q; induction q with
    | nil => exact h0
    | cons a r ih => rw [List.reverse_cons]; exact h1 _ _ ih
  have := key l.reverse; rwa [List.reverse_reverse] at this
def dval (c : UInt8) : Nat := c.toNat - 48
/-- the value of digits -/
def natOf (l : Bs) : Nat := l.foldl (fun n c => 10 * n + dval c) 0
theorem natOf_nil : natOf [] = 0 := rfl
theorem natOf_snoc (l : Bs) (c : UInt8) : natOf (l ++ [c]) = 10 * natOf l + dval c := by simp [natOf]
theorem natOf_append (a b : Bs) : natOf (a ++ b) = natOf a * 10 ^ b.length + natOf b := by
  induction b using snocInd with
  | h0 => simp [natOf]
  | h1 b c ih =>
    rw [← List.append_assoc, natOf_snoc, ih, natOf_snoc, List.length_append, List.length_singleton, Nat.pow_succ]
    generalize 10 ^ b.length = q
    generalize natOf a = x
    generalize natOf b = y
    rw [Nat.mul_add, ← Nat.mul_assoc, Nat.mul_comm 10 x, Nat.mul_assoc x 10 q, Nat.mul_comm 10 q]; omega
theorem dval_lt {c : UInt8} (h : isD c = true) : dval c < 10 := by have := (isD_iff c).1 h; unfold dval; omega
theorem natOf_lt {l : Bs} (h : l.all isD = true) : natOf l < 10 ^ l.length := by
  induction l using snocInd with
  | h0 => simp [natOf]
  | h1 l c ih =>
    rw [List.all_append, Bool.and_eq_true] at h
    have h1 := ih h.1
    have h2 := dval_lt (c := c) (by simpa using h.2)
    rw [natOf_snoc, List.length_append, List.length_singleton, Nat.pow_succ]; omega
/-- the digits of a number, none for 0 -/
def dig10 (n : Nat) : Bs := if _h : n = 0 then [] else dig10 (n / 10) ++ [UInt8.ofNat (48 + n % 10)]
termination_by n
decreasing_by omega
theorem dig10_zero : dig10 0 = [] := by rw [dig10]; rfl
theorem dig10_pos {n : Nat} (h : n ≠ 0) : dig10 n = dig10 (n / 10) ++ [UInt8.ofNat (48 + n % 10)] := by rw [dig10, dif_neg h]
theorem dval_dig {n : Nat} (h : n < 10) : dval (UInt8.ofNat (48 + n)) = n := by
  unfold dval; rw [UInt8.toNat_ofNat_of_lt' (by show _ < 256; omega)]; omega
theorem natOf_dig10 (n : Nat) : natOf (dig10 n) = n := by
  induction n using Nat.strongRecOn with
  | ind n ih =>
    by_cases h : n = 0
    · subst h; rw [dig10_zero]; rfl
    · rw [dig10_pos h, natOf_snoc, ih (n / 10) (by omega), dval_dig (Nat.mod_lt _ (by decide))]; omega
theorem dig10_all (n : Nat) : (dig10 n).all isD = true := by
  induction n using Nat.strongRecOn with
  | ind n ih =>
    by_cases h : n = 0
    · subst h; rw [dig10_zero]; rfl
    · rw [dig10_pos h, List.all_append, ih (n / 10) (by omega)]
      simp only [List.all_cons, List.all_nil, Bool.and_true, Bool.true_and]
      exact (dig_of _ (Nat.mod_lt _ (by decide))).1
theorem dig10_ne {n : Nat} (h : n ≠ 0) : dig10 n ≠ [] := by rw [dig10_pos h]; simp
/-- no digit 0 ahead -/
def Lead (l : Bs) : Prop := ∀ c r, l = c :: r → c ≠ 48
theorem noZeros_lead (l : Bs) : Lead (noZeros l) := by
  induction l with
  | nil => intro c r h; cases h
  | cons x q ih =>
    by_cases hx : (x == 48) = true
    · have e : noZeros (x :: q) = noZeros q := by simp only [noZeros]; rw [if_pos hx]
      rw [e]; exact ih
    · have e : noZeros (x :: q) = x :: q := by simp only [noZeros]; rw [if_neg hx]
      rw [e]; intro c r h; injection h with h1 h2; subst h1; simpa using hx
theorem lead_noZeros {l : Bs} (h : Lead l) : noZeros l = l := by
  cases l with
  | nil => rfl
  | cons c r => simp only [noZeros]; rw [if_neg (by simpa using h c r rfl)]
theorem mag_lead (l : Bs) : Lead (mag l) := by
  show Lead (magT (strip l))
  unfold magT; split
  · exact noZeros_lead _
  · intro c r h; cases h
theorem mag_all (l : Bs) : (mag l).all isD = true := magT_all _
theorem lead_pos {c : UInt8} {r : Bs} (hd : (c :: r).all isD = true) (h : Lead (c :: r)) : 10 ^ r.length ≤ natOf (c :: r) := by
  have hc := h c r rfl
  have h1 : isD c = true := by simp only [List.all_cons, Bool.and_eq_true] at hd; exact hd.1
  have h2 := (isD_iff c).1 h1
  have h3 : 1 ≤ dval c := by
    unfold dval
    have : c.toNat ≠ 48 := fun e => hc (UInt8.toNat_inj.1 (by rw [e]; rfl))
    omega
  have e : natOf (c :: r) = natOf [c] * 10 ^ r.length + natOf r := natOf_append [c] r
  have e2 : natOf [c] = dval c := by simp [natOf]
  rw [e, e2]
  have : 1 * 10 ^ r.length ≤ dval c * 10 ^ r.length := Nat.mul_le_mul_right _ h3
  omega
theorem natOf_zero {l : Bs} (hd : l.all isD = true) (h : Lead l) : natOf l = 0 ↔ l = [] := by
  constructor
  · intro h0
    cases l with
    | nil => rfl
    | cons c r =>
      have := lead_pos hd h
      have hp : 0 < 10 ^ r.length := Nat.pow_pos (by decide)
      omega
  · rintro rfl; rfl
theorem lead_init {l : Bs} {c : UInt8} (h : Lead (l ++ [c])) (hl : l ≠ []) : Lead l := by
  intro x r e; subst e; exact h x (r ++ [c]) rfl
theorem dig10_natOf {l : Bs} (hd : l.all isD = true) (h : Lead l) : dig10 (natOf l) = l := by
  induction l using snocInd with
  | h0 => rw [natOf_nil, dig10_zero]
  | h1 l c ih =>
    have hd' := hd
    rw [List.all_append, Bool.and_eq_true] at hd
    have hc : isD c = true := by simpa using hd.2
    have hc2 := dval_lt hc
    have hz : natOf (l ++ [c]) ≠ 0 := by
      rw [Ne, natOf_zero hd' h]; simp
    have e : UInt8.ofNat (48 + dval c) = c := by
      have := (isD_iff c).1 hc
      apply UInt8.toNat_inj.1
      rw [UInt8.toNat_ofNat_of_lt' (by show _ < 256; unfold dval; omega)]; unfold dval; omega
    rw [dig10_pos hz, natOf_snoc, show (10 * natOf l + dval c) / 10 = natOf l by omega, show (10 * natOf l + dval c) % 10 = dval c by omega, e]
    congr 1
    by_cases hl : l = []
    · subst hl; rw [natOf_nil, dig10_zero]
    · exact ih hd.1 (lead_init h hl)
/-- the value of a string -/
def valI (l : Bs) : Int := if neg l then -(natOf (mag l) : Int) else natOf (mag l)
/-- the canonical string of a value -/
def ofI (z : Int) : Bs := if z < 0 then 45 :: dig10 z.natAbs else dig10 z.natAbs
theorem neg_mag {l : Bs} (h : neg l = true) : natOf (mag l) ≠ 0 := by
  rw [Ne, natOf_zero (mag_all l) (mag_lead l)]
  intro e
  have : neg l = (isMin l && !(mag l).isEmpty) := rfl
  rw [this, e] at h; simp at h
theorem canon_ofI (l : Bs) : canon l = ofI (valI l) := by
  unfold canon ofI valI
  by_cases h : neg l = true
  · have h0 := neg_mag h
    rw [if_pos h, if_pos h, if_pos (by omega), show (-(natOf (mag l) : Int)).natAbs = natOf (mag l) by omega, dig10_natOf (mag_all l) (mag_lead l)]
  · rw [if_neg h, if_neg h, if_neg (by omega), show ((natOf (mag l) : Int)).natAbs = natOf (mag l) by omega, dig10_natOf (mag_all l) (mag_lead l)]

/-- groups of nine digits, the lowest one first -/
def B9 : Nat := 1000000000
def gr (n : Nat) : List Nat := if _h : n = 0 then [] else (n % B9) :: gr (n / B9)
termination_by n
decreasing_by exact Nat.div_lt_self (by omega) (by decide)
theorem gr_zero : gr 0 = [] := by rw [gr]; rfl
theorem gr_pos {n : Nat} (h : n ≠ 0) : gr n = (n % B9) :: gr (n / B9) := by rw [gr, dif_neg h]
def gval : List Nat → Nat | [] => 0 | g :: r => g + B9 * gval r
theorem gval_gr (n : Nat) : gval (gr n) = n := by
  induction n using Nat.strongRecOn with
  | ind n ih =>
    by_cases h : n = 0
    · subst h; rw [gr_zero]; rfl
    · rw [gr_pos h]; unfold gval; rw [ih (n / B9) (Nat.div_lt_self (by omega) (by decide))]; exact Nat.mod_add_div n B9
theorem gr_lt (n : Nat) : ∀ g ∈ gr n, g < B9 := by
  induction n using Nat.strongRecOn with
  | ind n ih =>
    by_cases h : n = 0
    · subst h; rw [gr_zero]; simp
    · rw [gr_pos h]; intro g hg
      rcases List.mem_cons.1 hg with rfl | hg
      · exact Nat.mod_lt _ (by decide)
      · exact ih (n / B9) (Nat.div_lt_self (by omega) (by decide)) g hg
/-- groups without zeros at the end -/
def Top (l : List Nat) : Prop := ∀ r g, l = r ++ [g] → g ≠ 0
theorem gr_gval {l : List Nat} (hb : ∀ g ∈ l, g < B9) (ht : Top l) : gr (gval l) = l := by
  induction l with
  | nil => exact gr_zero
  | cons g r ih =>
    have hg := hb g (by simp)
    have hne : gval (g :: r) ≠ 0 := by
      intro e
      have : ∀ (q : List Nat), gval q = 0 → ∀ x ∈ q, x = 0 := by
        intro q; induction q with
        | nil => intro _ x hx; cases hx
        | cons y s ihs =>
          intro h x hx
          have h1 : y = 0 := by unfold gval at h; omega
          have h2 : gval s = 0 := by
            unfold gval at h
            have : B9 * gval s = 0 := by omega
            rcases Nat.mul_eq_zero.1 this with h | h
            · exact absurd h (by decide)
            · exact h
          rcases List.mem_cons.1 hx with rfl | hx
          · exact h1
          · exact ihs h2 x hx
      have hall := this _ e
      obtain ⟨q, x, hq⟩ : ∃ q x, g :: r = q ++ [x] := by
        rcases List.eq_nil_or_concat (g :: r) with h | ⟨q, x, h⟩
        · cases h
        · exact ⟨q, x, by simpa using h⟩
      exact ht q x hq (hall x (by rw [hq]; simp))
    rw [gr_pos hne]
    have eg : gval (g :: r) = g + B9 * gval r := rfl
    have e1 : gval (g :: r) % B9 = g := by rw [eg]; rw [Nat.add_mul_mod_self_left]; exact Nat.mod_eq_of_lt hg
    have e2 : gval (g :: r) / B9 = gval r := by rw [eg]; rw [Nat.add_mul_div_left _ _ (by decide), Nat.div_eq_of_lt hg, Nat.zero_add]
    rw [e1, e2, ih (fun x hx => hb x (by simp [hx])) (fun q x hq => ht (g :: q) x (by rw [hq]; rfl))]
theorem gr_top (n : Nat) : Top (gr n) := by
  induction n using Nat.strongRecOn with
  | ind n ih =>
    by_cases h : n = 0
    · subst h; rw [gr_zero]; intro r g e; simp at e
    · rw [gr_pos h]; intro r g e
      cases r with
      | nil =>
        simp only [List.nil_append, List.cons.injEq] at e
        have hz : n / B9 = 0 := by
          by_cases h0 : n / B9 = 0
          · exact h0
          · rw [gr_pos h0] at e; cases e.2
        have := Nat.mod_add_div n B9
        rw [hz] at this; rw [← e.1]; omega
      | cons y q =>
        simp only [List.cons_append, List.cons.injEq] at e
        exact ih (n / B9) (Nat.div_lt_self (by omega) (by decide)) q g e.2
end Go.Proofs.YtikehdbkiplleaaGreatDoor

/- Plain: sums, differences and order of numbers in groups of nine digits. No program in sight. -/
namespace Go.Proofs.YtikehdbkiplleaaGreatDoor
open Go.RowKit

/-- the k-th group, 0 beyond the end -/
def at0 (l : List Nat) (k : Nat) : Nat := l.getD k 0
theorem at0_lt {l : List Nat} {k : Nat} (h : k < l.length) : at0 l k = l[k] := by simp [at0, h]
theorem at0_ge {l : List Nat} {k : Nat} (h : l.length ≤ k) : at0 l k = 0 := by simp [at0, List.getElem?_eq_none h]
theorem at0_bd {l : List Nat} (hb : ∀ g ∈ l, g < B9) (k : Nat) : at0 l k < B9 := by
  rcases Nat.lt_or_ge k l.length with h | h
  · rw [at0_lt h]; exact hb _ (List.getElem_mem h)
  · rw [at0_ge h]; decide
def gsum (f : Nat → Nat) : Nat → Nat | 0 => 0 | L + 1 => gsum f L + f L * B9 ^ L
theorem gsum_shift (f : Nat → Nat) (L : Nat) : gsum f (L + 1) = f 0 + B9 * gsum (fun k => f (k + 1)) L := by
  induction L with
  | zero => simp [gsum]
  | succ L ih =>
    rw [show gsum f (L + 1 + 1) = gsum f (L + 1) + f (L + 1) * B9 ^ (L + 1) from rfl, ih, show gsum (fun k => f (k + 1)) (L + 1) = gsum (fun k => f (k + 1)) L + f (L + 1) * B9 ^ L from rfl, Nat.mul_add, Nat.pow_succ, Nat.add_assoc]
    congr 2
    rw [← Nat.mul_assoc, Nat.mul_comm (f (L + 1) * B9 ^ L) B9]
theorem gval_gsum : ∀ (l : List Nat) (L : Nat), l.length ≤ L → gval l = gsum (at0 l) L
  | [], L, _ => by
    have : ∀ L, gsum (at0 []) L = 0 := by
      intro L; induction L with
      | zero => rfl
      | succ L ih => unfold gsum; rw [ih, at0_ge (by simp)]; simp
    rw [this]; rfl
  | g :: r, 0, h => by simp at h
  | g :: r, L + 1, h => by
    rw [gsum_shift]
    have e : (fun k => at0 (g :: r) (k + 1)) = at0 r := by funext k; simp [at0]
    rw [e, ← gval_gsum r L (by simpa using h)]; rfl
theorem gsum_congr {f g : Nat → Nat} {L : Nat} (h : ∀ k, k < L → f k = g k) : gsum f L = gsum g L := by
  induction L with
  | zero => rfl
  | succ L ih => unfold gsum; rw [ih (fun k hk => h k (by omega)), h L (by omega)]
theorem gsum_lt {f : Nat → Nat} (hb : ∀ k, f k < B9) (L : Nat) : gsum f L < B9 ^ L := by
  induction L with
  | zero => simp [gsum]
  | succ L ih =>
    unfold gsum; rw [Nat.pow_succ]
    have h1 : f L * B9 ^ L ≤ (B9 - 1) * B9 ^ L := Nat.mul_le_mul_right _ (by have := hb L; omega)
    generalize B9 ^ L = q at *
    have h2 : q * B9 = q + (B9 - 1) * q := by
      have e : B9 = 1000000000 := rfl
      rw [e]; omega
    omega
/-- a list told by its groups -/
theorem gval_range (f : Nat → Nat) (L : Nat) : gval ((List.range L).map f) = gsum f L := by
  rw [gval_gsum _ L (by simp)]
  apply gsum_congr; intro k hk
  rw [at0_lt (by simpa using hk)]; simp

/-- the carry into the k-th group of a sum, and the group -/
def cy (a b : Nat → Nat) : Nat → Nat | 0 => 0 | k + 1 => (a k + b k + cy a b k) / B9
def pl (a b : Nat → Nat) (k : Nat) : Nat := (a k + b k + cy a b k) % B9
theorem pl_lt (a b : Nat → Nat) (k : Nat) : pl a b k < B9 := Nat.mod_lt _ (by decide)
theorem cy_le {a b : Nat → Nat} (ha : ∀ k, a k < B9) (hb : ∀ k, b k < B9) (k : Nat) : cy a b k ≤ 1 := by
  induction k with
  | zero => simp [cy]
  | succ k ih =>
    unfold cy
    have h1 := ha k; have h2 := hb k
    have e : B9 = 1000000000 := rfl
    rw [e] at h1 h2 ⊢; omega
theorem plus_sum (a b : Nat → Nat) (L : Nat) : gsum (pl a b) L + cy a b L * B9 ^ L = gsum a L + gsum b L := by
  induction L with
  | zero => simp [gsum, cy]
  | succ L ih =>
    have e1 : gsum (pl a b) (L + 1) = gsum (pl a b) L + pl a b L * B9 ^ L := rfl
    have e2 : gsum a (L + 1) = gsum a L + a L * B9 ^ L := rfl
    have e3 : gsum b (L + 1) = gsum b L + b L * B9 ^ L := rfl
    have e4 : cy a b (L + 1) = (a L + b L + cy a b L) / B9 := rfl
    have e5 : pl a b L = (a L + b L + cy a b L) % B9 := rfl
    have h := Nat.mod_add_div (a L + b L + cy a b L) B9
    rw [← e4, ← e5] at h
    rw [e1, e2, e3, Nat.pow_succ]
    generalize cy a b (L + 1) = c' at *
    generalize cy a b L = c at *
    generalize pl a b L = p at *
    generalize B9 ^ L = q at *
    have h2 : (p + B9 * c') * q = (a L + b L + c) * q := by rw [h]
    rw [Nat.add_mul, Nat.add_mul, Nat.add_mul] at h2
    have h3 : B9 * c' * q = c' * (q * B9) := by rw [Nat.mul_comm B9 c', Nat.mul_assoc, Nat.mul_comm B9 q]
    rw [h3] at h2
    omega
/-- what is borrowed from the k-th group of a difference, and the group -/
def bw (a b : Nat → Nat) : Nat → Nat | 0 => 0 | k + 1 => if a k < b k + bw a b k then 1 else 0
def mi (a b : Nat → Nat) (k : Nat) : Nat := if a k < b k + bw a b k then a k + B9 - (b k + bw a b k) else a k - (b k + bw a b k)
theorem bw_le (a b : Nat → Nat) (k : Nat) : bw a b k ≤ 1 := by
  cases k with
  | zero => simp [bw]
  | succ k => unfold bw; split <;> omega
theorem mi_lt {a b : Nat → Nat} (ha : ∀ k, a k < B9) (hb : ∀ k, b k < B9) (k : Nat) : mi a b k < B9 := by
  have h1 := ha k; have h2 := hb k; have h3 := bw_le a b k
  unfold mi; split <;> omega
theorem minus_sum {a b : Nat → Nat} (ha : ∀ k, a k < B9) (hb : ∀ k, b k < B9) (L : Nat) : gsum (mi a b) L + gsum b L = gsum a L + bw a b L * B9 ^ L := by
  induction L with
  | zero => simp [gsum, bw]
  | succ L ih =>
    have e1 : gsum (mi a b) (L + 1) = gsum (mi a b) L + mi a b L * B9 ^ L := rfl
    have e2 : gsum a (L + 1) = gsum a L + a L * B9 ^ L := rfl
    have e3 : gsum b (L + 1) = gsum b L + b L * B9 ^ L := rfl
    have h1 := ha L; have h2 := hb L; have h3 := bw_le a b L
    have key : mi a b L + (b L + bw a b L) = a L + bw a b (L + 1) * B9 := by
      have e4 : bw a b (L + 1) = if a L < b L + bw a b L then 1 else 0 := rfl
      rw [e4]; unfold mi
      split
      · omega
      · omega
    rw [e1, e2, e3, Nat.pow_succ]
    generalize bw a b (L + 1) = c' at *
    generalize bw a b L = c at *
    generalize mi a b L = p at *
    generalize B9 ^ L = q at *
    have h4 : (p + (b L + c)) * q = (a L + c' * B9) * q := by rw [key]
    rw [Nat.add_mul, Nat.add_mul, Nat.add_mul] at h4
    have h5 : c' * B9 * q = c' * (q * B9) := by rw [Nat.mul_assoc, Nat.mul_comm B9 q]
    rw [h5] at h4
    omega
theorem bw_zero {a b : Nat → Nat} (ha : ∀ k, a k < B9) (hb : ∀ k, b k < B9) {L : Nat} (h : gsum b L ≤ gsum a L) : bw a b L = 0 := by
  have h1 := minus_sum ha hb L
  have h2 := gsum_lt (mi_lt ha hb) L
  have h3 := bw_le a b L
  rcases Nat.eq_zero_or_pos (bw a b L) with h0 | h0
  · exact h0
  · have : bw a b L = 1 := by omega
    rw [this, Nat.one_mul] at h1; omega
theorem minus_val {a b : Nat → Nat} (ha : ∀ k, a k < B9) (hb : ∀ k, b k < B9) {L : Nat} (h : gsum b L ≤ gsum a L) : gsum (mi a b) L = gsum a L - gsum b L := by
  have h1 := minus_sum ha hb L
  rw [bw_zero ha hb h] at h1; omega
/-- the highest group that differs decides -/
theorem gsum_less {a b : Nat → Nat} (ha : ∀ k, a k < B9) (k : Nat) (h : a k < b k) : ∀ (L : Nat), k < L → (∀ j, k < j → j < L → a j = b j) → gsum a L < gsum b L
  | 0, hk, _ => by omega
  | L + 1, hk, he => by
    unfold gsum
    rcases Nat.lt_or_ge k L with h1 | h1
    · have := gsum_less ha k h L h1 (fun j hj hl => he j hj (by omega))
      rw [he L h1 (by omega)]; omega
    · obtain rfl : k = L := by omega
      have h2 := gsum_lt ha k
      have h3 : (a k + 1) * B9 ^ k ≤ b k * B9 ^ k := Nat.mul_le_mul_right _ h
      rw [Nat.add_mul, Nat.one_mul] at h3
      omega
/-- without the zeros at the end -/
def cutL (l : List Nat) : List Nat := (l.reverse.dropWhile (· == 0)).reverse
theorem cutL_snoc_zero (l : List Nat) : cutL (l ++ [0]) = cutL l := by simp [cutL]
theorem cutL_snoc (l : List Nat) {g : Nat} (h : g ≠ 0) : cutL (l ++ [g]) = l ++ [g] := by simp [cutL, h]
theorem gval_snoc (l : List Nat) (g : Nat) : gval (l ++ [g]) = gval l + g * B9 ^ l.length := by
  induction l with
  | nil => simp [gval]
  | cons a r ih =>
    have e1 : gval ((a :: r) ++ [g]) = a + B9 * gval (r ++ [g]) := rfl
    have e2 : gval (a :: r) = a + B9 * gval r := rfl
    rw [e1, e2, ih, Nat.mul_add, List.length_cons, Nat.pow_succ, Nat.add_assoc]
    congr 2
    rw [Nat.mul_left_comm, Nat.mul_comm (B9 ^ r.length) B9]
theorem cutL_gr {l : List Nat} (hb : ∀ g ∈ l, g < B9) : cutL l = gr (gval l) := by
  induction l using snocInd with
  | h0 => rw [show gval [] = 0 from rfl, gr_zero]; rfl
  | h1 l g ih =>
    by_cases h : g = 0
    · subst h
      rw [cutL_snoc_zero, gval_snoc, Nat.zero_mul, Nat.add_zero]
      exact ih (fun x hx => hb x (by simp [hx]))
    · rw [cutL_snoc l h, gr_gval hb]
      intro r x e
      have := List.append_inj' e rfl
      simp at this; rw [← this.2]; exact h
theorem gr_len_le {n L : Nat} (h : n < B9 ^ L) : (gr n).length ≤ L := by
  induction L generalizing n with
  | zero => have : n = 0 := by simpa using h
            subst this; rw [gr_zero]; simp
  | succ L ih =>
    by_cases h0 : n = 0
    · subst h0; rw [gr_zero]; simp
    · rw [gr_pos h0, List.length_cons]
      have : n / B9 < B9 ^ L := by
        rw [Nat.div_lt_iff_lt_mul (by decide)]; rw [Nat.pow_succ] at h; exact h
      have := ih this; omega
end Go.Proofs.YtikehdbkiplleaaGreatDoor

/- Plain: a number read in groups of nine digits. No program in sight. -/
namespace Go.Proofs.YtikehdbkiplleaaGreatDoor
open Go.RowKit

/-- the groups of a text of digits, the lowest one first -/
def groupsOf (s : Bs) : List Nat := if h : s = [] then [] else natOf (s.drop (s.length - 9)) :: groupsOf (s.take (s.length - 9))
termination_by s.length
decreasing_by
  have : 0 < s.length := List.length_pos_iff.2 h
  rw [List.length_take]; omega
theorem groupsOf_nil : groupsOf [] = [] := by rw [groupsOf]; rfl
theorem groupsOf_pos {s : Bs} (h : s ≠ []) : groupsOf s = natOf (s.drop (s.length - 9)) :: groupsOf (s.take (s.length - 9)) := by rw [groupsOf, dif_neg h]
theorem groupsOf_len (s : Bs) : (groupsOf s).length ≤ s.length := by
  induction hn : s.length using Nat.strongRecOn generalizing s with
  | ind n ih =>
    subst hn
    by_cases h : s = []
    · subst h; rw [groupsOf_nil]; simp
    · have hp : 0 < s.length := List.length_pos_iff.2 h
      have := ih (s.take (s.length - 9)).length (by rw [List.length_take]; omega) (s.take (s.length - 9)) rfl
      rw [List.length_take] at this
      rw [groupsOf_pos h, List.length_cons]; omega
theorem lead_take {s : Bs} (h : Lead s) (n : Nat) : Lead (s.take n) := by
  intro c r e
  cases s with
  | nil => simp at e
  | cons x q =>
    cases n with
    | zero => simp at e
    | succ n => rw [List.take_succ_cons] at e; injection e with e1 e2; subst e1; exact h x q rfl
theorem all_take {s : Bs} (h : s.all isD = true) (n : Nat) : (s.take n).all isD = true := by
  rw [List.all_eq_true] at h ⊢; exact fun x hx => h x (List.mem_of_mem_take hx)
theorem all_drop {s : Bs} (h : s.all isD = true) (n : Nat) : (s.drop n).all isD = true := by
  rw [List.all_eq_true] at h ⊢; exact fun x hx => h x (List.mem_of_mem_drop hx)
theorem last9_lt {s : Bs} (h : s.all isD = true) : natOf (s.drop (s.length - 9)) < B9 := by
  have h1 := natOf_lt (all_drop h (s.length - 9))
  have h2 : (s.drop (s.length - 9)).length ≤ 9 := by rw [List.length_drop]; omega
  have h3 : 10 ^ (s.drop (s.length - 9)).length ≤ 10 ^ 9 := Nat.pow_le_pow_right (by decide) h2
  exact Nat.lt_of_lt_of_le h1 h3
theorem natOf_split (s : Bs) : natOf s = natOf (s.take (s.length - 9)) * B9 + natOf (s.drop (s.length - 9)) := by
  conv => lhs; rw [← List.take_append_drop (s.length - 9) s, natOf_append]
  by_cases h : 9 ≤ s.length
  · rw [show (s.drop (s.length - 9)).length = 9 by rw [List.length_drop]; omega]; rfl
  · rw [show s.length - 9 = 0 by omega, List.take_zero, natOf_nil]; simp
theorem groupsOf_gr (s : Bs) (hd : s.all isD = true) (hl : Lead s) : groupsOf s = gr (natOf s) := by
  induction hn : s.length using Nat.strongRecOn generalizing s with
  | ind n ih =>
    subst hn
    by_cases h : s = []
    · subst h; rw [groupsOf_nil, natOf_nil, gr_zero]
    · have hp : 0 < s.length := List.length_pos_iff.2 h
      have hz : natOf s ≠ 0 := fun e => h ((natOf_zero hd hl).1 e)
      have h9 := last9_lt hd
      have hs := natOf_split s
      rw [groupsOf_pos h, gr_pos hz, ih _ (by rw [List.length_take]; omega) (s.take (s.length - 9)) (all_take hd _) (lead_take hl _) rfl]
      congr 1
      · rw [hs, Nat.add_comm, Nat.add_mul_mod_self_right, Nat.mod_eq_of_lt h9]
      · rw [hs, Nat.add_comm, Nat.add_mul_div_right _ _ (by decide), Nat.div_eq_of_lt h9, Nat.zero_add]
/-- the state of the loop that reads: what is read, and how many digits are left -/
theorem groups_step {s : Bs} {e : Nat} (h0 : 0 < e) (he : e ≤ s.length) : groupsOf (s.take e) = natOf ((s.take e).drop (e - 9)) :: groupsOf (s.take (e - 9)) := by
  have hl : (s.take e).length = e := by rw [List.length_take]; omega
  have hne : s.take e ≠ [] := by intro h; rw [h] at hl; simp at hl; omega
  rw [groupsOf_pos hne, hl, List.take_take, Nat.min_eq_left (by omega)]
theorem parse_small (l : Bs) (hd : l.all isD = true) (h0 : l ≠ []) (hl : l.length ≤ 9) : Lib.parseUintB 64 l = .ok (natOf l) := by
  have key : ∀ (l : Bs) (acc : Nat), l.all isD = true → acc * 10 ^ l.length + 10 ^ l.length ≤ 1000000000 → Lib.parseUintM (2 ^ 64 - 1) acc l = .ok (acc * 10 ^ l.length + natOf l) := by
    intro l; induction l with
    | nil => intro acc _ _; simp [Lib.parseUintM, natOf]
    | cons c r ih =>
      intro acc hd hb
      simp only [List.all_cons, Bool.and_eq_true] at hd
      have hc := (isD_iff c).1 hd.1
      rw [List.length_cons, Nat.pow_succ] at hb
      have hp : 1 ≤ 10 ^ r.length := Nat.pow_pos (by decide)
      have hb2 : (acc * 10 + (c.toNat - 48)) * 10 ^ r.length + 10 ^ r.length ≤ 1000000000 := by
        have h1 : (c.toNat - 48 + 1) * 10 ^ r.length ≤ 10 * 10 ^ r.length := Nat.mul_le_mul_right _ (by omega)
        rw [Nat.add_mul, Nat.one_mul] at h1
        rw [Nat.add_mul, Nat.mul_assoc]
        rw [Nat.mul_comm (10 ^ r.length) 10] at hb
        generalize 10 ^ r.length = q at *
        generalize acc * (10 * q) = u at *
        generalize (c.toNat - 48) * q = v at *
        omega
      have ha : acc ≤ 1000000000 := by
        have : acc * 1 ≤ acc * (10 ^ r.length * 10) := Nat.mul_le_mul_left _ (by omega)
        omega
      have e : natOf (c :: r) = (c.toNat - 48) * 10 ^ r.length + natOf r := by
        have := natOf_append [c] r
        rw [show natOf [c] = c.toNat - 48 by simp [natOf, dval]] at this
        exact this
      unfold Lib.parseUintM
      rw [if_pos hc, if_neg (by omega), if_neg (by omega), ih _ hd.2 hb2, e, List.length_cons, Nat.pow_succ]
      congr 1
      rw [Nat.add_mul, Nat.mul_assoc, Nat.mul_comm 10 (10 ^ r.length)]; omega
  unfold Lib.parseUintB
  rw [if_neg h0, key l 0 hd (by
    have : 10 ^ l.length ≤ 10 ^ 9 := Nat.pow_le_pow_right (by decide) hl
    omega)]
  simp
end Go.Proofs.YtikehdbkiplleaaGreatDoor

/- Plain: cutting and comparing groups. No program in sight. -/
namespace Go.Proofs.YtikehdbkiplleaaGreatDoor
open Go.RowKit
theorem cutL_nil : cutL [] = [] := rfl
theorem cutL_prefix (l : List Nat) : cutL l = l.take (cutL l).length := by
  induction l using snocInd with
  | h0 => rfl
  | h1 l g ih =>
    by_cases h : g = 0
    · subst h
      rw [cutL_snoc_zero]
      have hle : (cutL l).length ≤ l.length := by rw [ih, List.length_take]; omega
      rw [List.take_append_of_le_length hle]; exact ih
    · rw [cutL_snoc l h, List.take_length]
theorem cutL_le (l : List Nat) : (cutL l).length ≤ l.length := by
  have := congrArg List.length (cutL_prefix l); rw [List.length_take] at this; omega
theorem cutL_gr_self (n : Nat) : cutL (gr n) = gr n := by rw [cutL_gr (gr_lt n), gval_gr]
theorem gr_pow {n : Nat} (h : n ≠ 0) : B9 ^ ((gr n).length - 1) ≤ n := by
  induction n using Nat.strongRecOn with
  | ind n ih =>
    rw [gr_pos h, List.length_cons, Nat.add_sub_cancel]
    by_cases h0 : n / B9 = 0
    · rw [h0, gr_zero]; simp; omega
    · have h1 := ih (n / B9) (Nat.div_lt_self (by omega) (by decide)) h0
      have hl : (gr (n / B9)).length = (gr (n / B9)).length - 1 + 1 := by
        rw [gr_pos h0, List.length_cons]; omega
      rw [hl, Nat.pow_succ]
      have h2 := Nat.mul_le_mul_right B9 h1
      have h3 := Nat.div_mul_le_self n B9
      omega
theorem gr_lt_pow (n : Nat) : n < B9 ^ (gr n).length := by
  have h := gsum_lt (at0_bd (gr_lt n)) (gr n).length
  rw [← gval_gsum _ _ (Nat.le_refl _), gval_gr] at h; exact h
theorem gr_shorter {x y : Nat} (h : (gr x).length < (gr y).length) : x < y := by
  have h0 : y ≠ 0 := by intro e; subst e; rw [gr_zero] at h; simp at h
  have h1 := gr_lt_pow x
  have h2 := gr_pow h0
  have h3 : B9 ^ (gr x).length ≤ B9 ^ ((gr y).length - 1) := Nat.pow_le_pow_right (by decide) (by omega)
  omega
theorem gr_inj {x y : Nat} (h : gr x = gr y) : x = y := by rw [← gval_gr x, h, gval_gr]
/-- the highest group that differs decides -/
theorem gr_less {x y k : Nat} (hl : (gr x).length = (gr y).length) (hk : k < (gr x).length) (hk' : k < (gr y).length) (he : ∀ (j : Nat) (h1 : j < (gr x).length) (h2 : j < (gr y).length), k < j → (gr x)[j] = (gr y)[j]) (h : (gr x)[k] < (gr y)[k]) : x < y := by
  have := gsum_less (a := at0 (gr x)) (b := at0 (gr y)) (at0_bd (gr_lt x)) k (by rw [at0_lt hk, at0_lt hk']; exact h) (gr x).length hk (fun j hj hjl => by rw [at0_lt hjl, at0_lt (by omega)]; exact he j hjl (by omega) hj)
  rw [← gval_gsum _ _ (Nat.le_refl _), ← gval_gsum _ _ (by omega), gval_gr, gval_gr] at this
  exact this
end Go.Proofs.YtikehdbkiplleaaGreatDoor

/- Plain: the digits of a number out of its groups. No program in sight. -/
namespace Go.Proofs.YtikehdbkiplleaaGreatDoor
open Go.RowKit
/-- what a machine number's text is: 0 has one digit -/
def fmtU (g : Nat) : Bs := if g = 0 then [48] else dig10 g
def pad9 (g : Nat) : Bs := List.replicate (9 - (fmtU g).length) 48 ++ fmtU g
theorem dig10_len {g L : Nat} (h : g < 10 ^ L) : (dig10 g).length ≤ L := by
  induction L generalizing g with
  | zero => have : g = 0 := by simpa using h
            subst this; rw [dig10_zero]; simp
  | succ L ih =>
    by_cases h0 : g = 0
    · subst h0; rw [dig10_zero]; simp
    · rw [dig10_pos h0, List.length_append, List.length_singleton]
      have : g / 10 < 10 ^ L := by rw [Nat.div_lt_iff_lt_mul (by decide)]; rw [Nat.pow_succ] at h; exact h
      have := ih this; omega
theorem fmtU_all (g : Nat) : (fmtU g).all isD = true := by unfold fmtU; split; rfl; exact dig10_all g
theorem fmtU_val (g : Nat) : natOf (fmtU g) = g := by
  unfold fmtU; split
  · rename_i h; rw [h]; rfl
  · exact natOf_dig10 g
theorem fmtU_len {g : Nat} (h : g < B9) : (fmtU g).length ≤ 9 := by
  unfold fmtU; split
  · simp
  · exact dig10_len (L := 9) h
theorem fmtU_pos (g : Nat) : 1 ≤ (fmtU g).length := by
  unfold fmtU; split
  · simp
  · rename_i h; have := dig10_ne h; cases hh : dig10 g with
    | nil => exact absurd hh this
    | cons => simp
theorem natOf_zeros (k : Nat) (l : Bs) : natOf (List.replicate k 48 ++ l) = natOf l := by
  rw [natOf_append]
  have : natOf (List.replicate k 48) = 0 := by
    induction k with
    | zero => rfl
    | succ k ih => rw [List.replicate_succ', natOf_snoc, ih]; decide
  rw [this]; simp
theorem pad9_val (g : Nat) : natOf (pad9 g) = g := by unfold pad9; rw [natOf_zeros, fmtU_val]
theorem pad9_len {g : Nat} (h : g < B9) : (pad9 g).length = 9 := by
  have := fmtU_len h; unfold pad9; rw [List.length_append, List.length_replicate]; omega
theorem pad9_all (g : Nat) : (pad9 g).all isD = true := by
  unfold pad9; rw [List.all_append, fmtU_all, Bool.and_true, List.all_eq_true]
  intro x hx; rw [List.eq_of_mem_replicate hx]; decide
/-- the lower groups, written behind the highest one -/
def lowT (r : List Nat) : Bs := r.reverse.flatMap pad9
theorem lowT_snoc (r : List Nat) (g : Nat) : lowT (r ++ [g]) = pad9 g ++ lowT r := by unfold lowT; simp
theorem lowT_cons (g : Nat) (r : List Nat) : lowT (g :: r) = lowT r ++ pad9 g := by unfold lowT; simp
theorem lowT_all (r : List Nat) : (lowT r).all isD = true := by
  induction r with
  | nil => rfl
  | cons g r ih => rw [lowT_cons, List.all_append, ih, pad9_all]; rfl
theorem top_val (top : Nat) : ∀ (r : List Nat), (∀ g ∈ r, g < B9) → natOf (fmtU top ++ lowT r) = gval (r ++ [top])
  | [], _ => by simp [lowT, gval, fmtU_val]
  | g :: r, h => by
    have hg := h g (by simp)
    rw [lowT_cons, ← List.append_assoc, natOf_append, pad9_len hg, pad9_val, top_val top r (fun x hx => h x (by simp [hx]))]
    show _ = g + B9 * gval (r ++ [top])
    rw [show (10 : Nat) ^ 9 = B9 from rfl, Nat.mul_comm]; omega
/-- THE TEXT OF THE GROUPS IS THE NUMBER's -/
theorem text_gr {n top : Nat} {r : List Nat} (h : gr n = r ++ [top]) : fmtU top ++ lowT r = dig10 n := by
  have hb := gr_lt n
  rw [h] at hb
  have ht : top ≠ 0 := gr_top n r top h
  have hv := top_val top r (fun g hg => hb g (by simp [hg]))
  rw [← h, gval_gr] at hv
  rw [← hv, dig10_natOf]
  · rw [List.all_append, fmtU_all, lowT_all]; rfl
  · intro c q e
    have hf : fmtU top = dig10 top := by unfold fmtU; rw [if_neg ht]
    rw [hf] at e
    have hne := dig10_ne ht
    cases hd : dig10 top with
    | nil => exact absurd hd hne
    | cons x s =>
      rw [hd] at e; injection e with e1 e2; subst e1
      intro hx; subst hx
      have h1 := natOf_dig10 top
      have h2 : natOf (48 :: s) = natOf s := natOf_zeros 1 s
      rw [hd, h2] at h1
      have h3 : (dig10 top).length ≤ s.length := dig10_len (by rw [← h1]; exact natOf_lt (by have := dig10_all top; rw [hd] at this; simp only [List.all_cons, Bool.and_eq_true] at this; exact this.2))
      rw [hd] at h3; simp at h3; omega
end Go.Proofs.YtikehdbkiplleaaGreatDoor

/- Plain: the values of strings that are written digit by digit. No program in sight. -/
namespace Go.Proofs.YtikehdbkiplleaaGreatDoor
open Go.RowKit

theorem natOf_noZeros (t : Bs) : natOf (noZeros t) = natOf t := by
  induction t with
  | nil => rfl
  | cons c r ih =>
    by_cases hc : (c == 48) = true
    · have e : noZeros (c :: r) = noZeros r := by simp only [noZeros]; rw [if_pos hc]
      obtain rfl : c = 48 := by simpa using hc
      rw [e, ih]; exact (natOf_zeros 1 r).symm
    · have e : noZeros (c :: r) = c :: r := by simp only [noZeros]; rw [if_neg hc]
      rw [e]
theorem isMin_dig {t : Bs} (h : t.all isD = true) : isMin t = false := by
  cases t with
  | nil => rfl
  | cons c r =>
    simp only [List.all_cons, Bool.and_eq_true] at h
    have := (isD_iff c).1 h.1
    simp only [isMin, beq_eq_false_iff_ne]
    rintro rfl; revert this; decide
theorem valI_dig {t : Bs} (h : t.all isD = true) : valI t = (natOf t : Int) := by
  have hm : mag t = noZeros t := by
    show magT (strip t) = _
    unfold strip; rw [isMin_dig h]; exact magT_good t h
  have hn : neg t = false := by show negT (isMin t) (strip t) = false; rw [isMin_dig h]; rfl
  unfold valI; rw [hn, hm, natOf_noZeros]; rfl
theorem valI_min {t : Bs} (h : t.all isD = true) : valI (45 :: t) = -(natOf t : Int) := by
  have hm : mag (45 :: t) = noZeros t := magT_good t h
  have hn : neg (45 :: t) = !(noZeros t).isEmpty := by
    show negT true t = _
    unfold negT; rw [magT_good t h]; rfl
  unfold valI; rw [hn, hm, natOf_noZeros]
  cases hz : noZeros t with
  | nil =>
    have := natOf_noZeros t
    rw [hz, natOf_nil] at this
    rw [← this]; rfl
  | cons c r => rfl
theorem valI_ofI (z : Int) : valI (ofI z) = z := by
  unfold ofI; split
  · rw [valI_min (dig10_all _), natOf_dig10]; omega
  · rw [valI_dig (dig10_all _), natOf_dig10]; omega
theorem lowT_val : ∀ (r : List Nat), (∀ g ∈ r, g < B9) → natOf (lowT r) = gval r
  | [], _ => rfl
  | g :: r, h => by
    rw [lowT_cons, natOf_append, pad9_len (h g (by simp)), pad9_val, lowT_val r (fun x hx => h x (by simp [hx]))]
    show _ = g + B9 * gval r
    rw [show (10 : Nat) ^ 9 = B9 from rfl, Nat.mul_comm]; omega
/-- the canonical text of a sign and groups -/
theorem canon_low (b : Bool) (gs : List Nat) (h : ∀ g ∈ gs, g < B9) : canon (if b then 45 :: lowT gs else lowT gs) = ofI (if b then -(gval gs : Int) else gval gs) := by
  rw [canon_ofI]
  cases b
  · rw [if_neg (by decide), if_neg (by decide), valI_dig (lowT_all gs), lowT_val gs h]
  · rw [if_pos rfl, if_pos rfl, valI_min (lowT_all gs), lowT_val gs h]
theorem ofI_nil_iff (z : Int) : ofI z = [] ↔ z = 0 := by
  constructor
  · intro h
    have := valI_ofI z
    rw [h] at this; rw [← this]; decide
  · rintro rfl; unfold ofI; rw [if_neg (by decide)]; exact dig10_zero
/-- the digits from below: the text of the last j digits of n, nine of them are pad9 -/
def lastT (n : Nat) : Nat → Bs | 0 => [] | j + 1 => UInt8.ofNat (48 + n / 10 ^ j % 10) :: lastT n j
theorem lastT_len (n j : Nat) : (lastT n j).length = j := by induction j with | zero => rfl | succ j ih => simp [lastT, ih]
theorem dig_isD (n : Nat) : isD (UInt8.ofNat (48 + n % 10)) = true := (dig_of _ (Nat.mod_lt _ (by decide))).1
theorem lastT_all (n j : Nat) : (lastT n j).all isD = true := by
  induction j with
  | zero => rfl
  | succ j ih => rw [lastT, List.all_cons, ih, Bool.and_true]; exact dig_isD _
theorem lastT_val (n j : Nat) : natOf (lastT n j) = n % 10 ^ j := by
  induction j with
  | zero => simp [lastT, natOf, Nat.mod_one]
  | succ j ih =>
    have e : natOf (lastT n (j + 1)) = natOf [UInt8.ofNat (48 + n / 10 ^ j % 10)] * 10 ^ (lastT n j).length + natOf (lastT n j) := natOf_append [_] (lastT n j)
    have e2 : natOf [UInt8.ofNat (48 + n / 10 ^ j % 10)] = n / 10 ^ j % 10 := by
      show 10 * 0 + dval _ = _
      rw [dval_dig (Nat.mod_lt _ (by decide))]; omega
    rw [e, e2, lastT_len, ih, Nat.pow_succ, Nat.mod_mul, Nat.mul_comm]; omega
theorem dig_inj : ∀ {a b : Bs}, a.all isD = true → b.all isD = true → a.length = b.length → natOf a = natOf b → a = b := by
  intro a
  induction a using snocInd with
  | h0 => intro b _ _ hl _; exact (List.length_eq_zero_iff.1 hl.symm).symm
  | h1 a x ih =>
    intro b ha hb hl hv
    have hne : b ≠ [] := by intro h; subst h; simp at hl
    obtain ⟨b', y, rfl⟩ : ∃ b' y, b = b' ++ [y] := ⟨b.dropLast, b.getLast hne, (List.dropLast_concat_getLast hne).symm⟩
    rw [List.all_append, Bool.and_eq_true] at ha hb
    rw [natOf_snoc, natOf_snoc] at hv
    have hx : isD x = true := by simpa using ha.2
    have hy : isD y = true := by simpa using hb.2
    have h1 := dval_lt hx
    have h2 := dval_lt hy
    have h3 : dval x = dval y := by omega
    have h4 : natOf a = natOf b' := by omega
    rw [ih ha.1 hb.1 (by simpa using hl) h4]
    have hx' := (isD_iff x).1 hx
    have hy' := (isD_iff y).1 hy
    have : x = y := UInt8.toNat_inj.1 (by unfold dval at h3; omega)
    rw [this]
theorem lastT_nine {g : Nat} (h : g < B9) : lastT g 9 = pad9 g := by
  refine dig_inj (lastT_all g 9) (pad9_all g) (by rw [lastT_len, pad9_len h]) ?_
  rw [lastT_val, pad9_val]; exact Nat.mod_eq_of_lt h
theorem natOf_take_succ (m : Bs) (k : Nat) (h : k < m.length) : natOf (m.take (k + 1)) = 10 * natOf (m.take k) + dval (m[k]'h) := by
  rw [List.take_succ_eq_append_getElem h, natOf_snoc]
theorem lowT_len (r : List Nat) (h : ∀ g ∈ r, g < B9) : (lowT r).length = 9 * r.length := by
  induction r with
  | nil => rfl
  | cons g r ih => rw [lowT_cons, List.length_append, ih (fun x hx => h x (by simp [hx])), pad9_len (h g (by simp)), List.length_cons]; omega
end Go.Proofs.YtikehdbkiplleaaGreatDoor

/- Plain: lots: their ids, when they are valid, finding one, totals. No program in sight. -/
namespace Go.Proofs.YtikehdbkiplleaaGreatDoor
open Go.RowKit

/-- a lot -/
structure LotV where
  id : Bs
  ins : Bs
  acq : Int
  opn : Int
  q : Bs
  c : Bs
  u : Bs
instance : Inhabited LotV := ⟨⟨[], [], 0, 0, [], [], []⟩⟩
def lotCells (x : LotV) : List Value := [.string (bs x.id), .string (bs x.ins), .int .i64 x.acq, .int .i64 x.opn, .string (bs x.q), .string (bs x.c), .string (bs x.u)]
/-- the first slash -/
def cut47 : Bs → Bs × Bs
  | [] => ([], [])
  | x :: r => if x = 47 then ([], r) else (x :: (cut47 r).1, (cut47 r).2)
/-- a number from 1 to 9999 -/
def numOK (t : Bs) : Bool := decide (1 ≤ t.length) && decide (t.length ≤ 4) && !(t.headD 48 == 48) && t.all isD
def isId (l : Bs) : Bool := isName (cut47 l).1 && numOK (cut47 l).2
theorem lead_of_head {t : Bs} (h : (!(t.headD 48 == 48)) = true) : Lead t := by
  intro c r e; subst e; simpa using h
theorem numOK_iff {t : Bs} : numOK t = true ↔ ∃ n : Nat, 1 ≤ n ∧ n ≤ 9999 ∧ t = dig10 n := by
  constructor
  · intro h
    simp only [numOK, Bool.and_eq_true, decide_eq_true_eq] at h
    obtain ⟨⟨⟨h1, h2⟩, h3⟩, h4⟩ := h
    have hl := lead_of_head h3
    have hlt := natOf_lt h4
    have hp : 10 ^ t.length ≤ 10 ^ 4 := Nat.pow_le_pow_right (by decide) h2
    refine ⟨natOf t, ?_, by omega, (dig10_natOf h4 hl).symm⟩
    rcases Nat.eq_zero_or_pos (natOf t) with h0 | h0
    · have := (natOf_zero h4 hl).1 h0
      subst this; simp at h1
    · exact h0
  · rintro ⟨n, h1, h2, rfl⟩
    have hlen := dig10_len (g := n) (L := 4) (by omega)
    have hne := dig10_ne (n := n) (by omega)
    have hlead : Lead (dig10 n) := by
      have : ∀ m, m ≠ 0 → Lead (dig10 m) := by
        intro m
        induction m using Nat.strongRecOn with
        | ind m ih =>
          intro hm
          rw [dig10_pos hm]
          by_cases h10 : m / 10 = 0
          · rw [h10, dig10_zero]
            intro c r e
            simp only [List.nil_append, List.cons.injEq] at e
            rw [← e.1]
            intro e2
            have := congrArg UInt8.toNat e2
            rw [UInt8.toNat_ofNat_of_lt' (by show _ < 256; omega)] at this
            have h48 : (48 : UInt8).toNat = 48 := rfl
            omega
          · have hl := ih (m / 10) (by omega) h10
            have hn := dig10_ne h10
            intro c r e
            obtain ⟨c', r', e'⟩ := List.exists_cons_of_ne_nil hn
            rw [e'] at e
            simp only [List.cons_append, List.cons.injEq] at e
            rw [← e.1]
            exact hl c' r' e'
      exact this n (by omega)
    obtain ⟨c, r, e⟩ := List.exists_cons_of_ne_nil hne
    have hc := hlead c r e
    simp only [numOK, Bool.and_eq_true, decide_eq_true_eq]
    refine ⟨⟨⟨by rw [e]; simp, hlen⟩, ?_⟩, dig10_all n⟩
    rw [e]; simpa using hc
theorem decDigits_dig10 (n : Nat) (h : 1 ≤ n) : Lib.decDigits n = dig10 n := by
  induction n using Nat.strongRecOn with
  | ind n ih =>
    rw [Lib.decDigits, dig10_pos (by omega)]
    split
    · rename_i h10
      rw [show n / 10 = 0 by omega, dig10_zero, show n % 10 = n by omega]; rfl
    · rw [ih (n / 10) (by omega) (by omega)]
theorem parse_dig : ∀ (l : Bs) (acc : Nat), l.all isD = true → acc * 10 ^ l.length + natOf l < 1000000000000 → Lib.parseUint10 acc l = .ok (acc * 10 ^ l.length + natOf l)
  | [], acc, _, _ => by simp [Lib.parseUint10, natOf]
  | c :: r, acc, h, hb => by
    simp only [List.all_cons, Bool.and_eq_true] at h
    have hc := (isD_iff c).1 h.1
    have e : natOf (c :: r) = dval c * 10 ^ r.length + natOf r := by
      have := natOf_append [c] r
      rw [show natOf [c] = dval c by show 10 * 0 + dval c = _; omega] at this
      exact this
    have hd : dval c = c.toNat - 48 := rfl
    have e2 : acc * 10 ^ (c :: r).length + natOf (c :: r) = (acc * 10 + (c.toNat - 48)) * 10 ^ r.length + natOf r := by
      rw [List.length_cons, Nat.pow_succ, e, hd, Nat.add_mul, Nat.mul_comm (10 ^ r.length) 10, ← Nat.mul_assoc]; omega
    have hp : 0 < 10 ^ r.length := Nat.pow_pos (by decide)
    have hle : acc * 10 + (c.toNat - 48) ≤ (acc * 10 + (c.toNat - 48)) * 10 ^ r.length := Nat.le_mul_of_pos_right _ hp
    rw [e2] at hb ⊢
    have ih := parse_dig r (acc * 10 + (c.toNat - 48)) h.2 hb
    rw [Lib.parseUint10, if_pos hc, if_neg (by omega), if_neg (by omega), ih]
theorem atoi_num {t : Bs} (h : numOK t = true) : ∃ n : Nat, 1 ≤ n ∧ n ≤ 9999 ∧ t = dig10 n ∧ Lib.atoiAll t = .ok (n : Int) := by
  obtain ⟨n, h1, h2, rfl⟩ := numOK_iff.1 h
  refine ⟨n, h1, h2, rfl, ?_⟩
  have hne := dig10_ne (n := n) (by omega)
  have hall := dig10_all n
  have hval := natOf_dig10 n
  generalize dig10 n = t at *
  obtain ⟨c, r, rfl⟩ := List.exists_cons_of_ne_nil hne
  have hc : isD c = true := by simp only [List.all_cons, Bool.and_eq_true] at hall; exact hall.1
  have hc2 := (isD_iff c).1 hc
  have hp := parse_dig (c :: r) 0 hall (by omega)
  rw [Nat.zero_mul, Nat.zero_add, hval] at hp
  unfold Lib.atoiAll
  simp only
  rw [if_neg (by omega), Lib.parseMag, if_neg (by simp), hp]
  simp only
  rw [if_neg (by omega), if_neg (by omega), if_neg (by omega)]
/-- the program's test of a number -/
theorem numOK_prog {t : Bs} {v : Int} (h : Lib.atoiAll t = .ok v) : numOK t = (decide (1 ≤ v) && decide (v ≤ 9999) && (Lib.itoa v == t)) := by
  rw [Bool.eq_iff_iff]
  constructor
  · intro k
    obtain ⟨n, h1, h2, rfl, h3⟩ := atoi_num k
    rw [h] at h3
    injection h3 with h3
    subst h3
    simp only [Bool.and_eq_true, decide_eq_true_eq, beq_iff_eq]
    refine ⟨⟨by omega, by omega⟩, ?_⟩
    unfold Lib.itoa
    rw [if_neg (by omega), Int.toNat_natCast, decDigits_dig10 n h1]
  · intro k
    simp only [Bool.and_eq_true, decide_eq_true_eq, beq_iff_eq] at k
    refine numOK_iff.2 ⟨v.toNat, by omega, by omega, ?_⟩
    rw [← k.2]
    unfold Lib.itoa
    rw [if_neg (by omega), decDigits_dig10 _ (by omega)]
theorem numOK_bad {t : Bs} (h : ∀ v, Lib.atoiAll t ≠ .ok v) : numOK t = false := by
  cases k : numOK t with
  | false => rfl
  | true => obtain ⟨n, _, _, _, h3⟩ := atoi_num k; exact absurd h3 (h _)
/-- why a lot is not valid -/
def dayOK (d : Int) : Bool := decide (-25567 ≤ d) && decide (d ≤ 84005)
def checkL (x : LotV) : Int :=
  if !(isId x.id) || !(isName x.ins) then 23 else if !(dayOK x.acq) || !(dayOK x.opn) then 13 else if x.opn < x.acq then 8
  else if checkI x.q ≠ 0 ∨ checkI x.c ≠ 0 ∨ checkI x.u ≠ 0 then 1
  else if valI x.q ≤ 0 ∨ valI x.c < 0 ∨ (x.u ≠ [] ∧ x.u ≠ x.q) then 2 else 0
def goAll (seen : List Bs) : List LotV → Int
  | [] => 0
  | x :: r => if checkL x ≠ 0 then checkL x else if x.id ∈ seen then 5 else goAll (seen ++ [x.id]) r
def checkAllL (ls : List LotV) : Int := if 1000 < ls.length then 4 else goAll [] ls
/-- the first lot with an id -/
def findL : List LotV → Bs → Option Nat
  | [], _ => none
  | x :: r, id => if x.id = id then some 0 else (findL r id).map (· + 1)
/-- a lot with short strings -/
def SmallL (x : LotV) : Prop := x.id.length ≤ 1000 ∧ x.ins.length ≤ 1000 ∧ x.q.length ≤ 1000 ∧ x.c.length ≤ 1000 ∧ x.u.length ≤ 1000
/-- the values of the lots of an instrument -/
def ofL (ls : List LotV) (ins : Bs) : List LotV := ls.filter (fun x => decide (x.ins = ins))
def totQ (ls : List LotV) (ins : Bs) : Int := ((ofL ls ins).map (fun x => valI x.q)).sum
def totC (ls : List LotV) (ins : Bs) : Int := ((ofL ls ins).map (fun x => valI x.c)).sum
end Go.Proofs.YtikehdbkiplleaaGreatDoor

/- The walks over the program's integer functions on texts: digits, Canonical, Check, Print, Parse. -/
namespace Go.Proofs.YtikehdbkiplleaaGreatDoor
open Go.RowKit Go.Shelf
attribute [local go_sem] size_bs toList_bs extract_bs get_bs append_bs lit_append append_lit

theorem noZeros_drop (l : Bs) : l.dropWhile (· == 48) = noZeros l := by
  induction l with
  | nil => rfl
  | cons c r ih =>
    unfold noZeros; rw [List.dropWhile_cons]
    by_cases h : c = 48
    · simp [h]; exact ih
    · simp [h]

def trimD (l : Bs) : Bs := Lib.trimS l [48, 49, 50, 51, 52, 53, 54, 55, 56, 57]
theorem isD_mem (c : UInt8) : ([48, 49, 50, 51, 52, 53, 54, 55, 56, 57] : Bs).contains c = isD c := by
  have h : ∀ n : Fin 256, ([48, 49, 50, 51, 52, 53, 54, 55, 56, 57] : Bs).contains (UInt8.ofNat n.val) = isD (UInt8.ofNat n.val) := by decide +kernel
  have hc := h ⟨c.toNat, c.toNat_lt⟩
  simpa using hc
theorem dropWhile_nil_iff (p : UInt8 → Bool) (l : Bs) : l.dropWhile p = [] ↔ l.all p = true := by
  induction l with
  | nil => simp
  | cons c r ih =>
    rw [List.dropWhile_cons]
    by_cases h : p c = true
    · simp only [h, if_true, List.all_cons, Bool.true_and]; exact ih
    · simp [h]
theorem trimD_nil (l : Bs) : trimD l = [] ↔ l.all isD = true := by
  unfold trimD Lib.trimS Lib.trimLeftS Lib.trimRightS
  have he : (fun x => ([48, 49, 50, 51, 52, 53, 54, 55, 56, 57] : Bs).contains x) = isD := funext isD_mem
  rw [he, dropWhile_nil_iff, List.all_reverse]
  constructor
  · intro h
    by_cases hn : l.reverse.dropWhile isD = []
    · rw [dropWhile_nil_iff, List.all_reverse] at hn; exact hn
    · exfalso
      obtain ⟨c, r, hcr⟩ := List.exists_cons_of_ne_nil hn
      have hd := List.head_dropWhile_not isD hn
      rw [hcr] at h
      simp only [List.all_cons, Bool.and_eq_true] at h
      simp only [hcr, List.head_cons] at hd
      rw [h.1] at hd; simp at hd
  · intro h
    have hn : l.reverse.dropWhile isD = [] := by rw [dropWhile_nil_iff, List.all_reverse]; exact h
    rw [hn]; rfl

theorem cutMinus (l : Bs) (w : World) :
    Calls Tryz.prog 153 #[.string (bs l), .string ⟨#[45]⟩] w fun e w' => e = .returned (.tuple #[.string (bs (strip l)), .bool (isMin l)]) ∧ w = w' := by
  refine (Tryz.strings_CutPrefix (bs l) ⟨#[45]⟩ w).mono ?_
  rintro e w' ⟨rfl, rfl⟩
  refine ⟨?_, rfl⟩
  rw [data_bs]
  have h1 : Lib.hasPrefix l [45] = isMin l := by
    unfold Lib.hasPrefix isMin
    cases l with
    | nil => rfl
    | cons c r => show (45 == c && true) = (c == 45); rw [Bool.and_true]; exact BEq.comm
  have h2 : Lib.trimPrefix l [45] = strip l := by
    unfold Lib.trimPrefix strip; rw [h1]
    by_cases h : isMin l = true
    · simp [h]
    · simp [h]
  show Ending.returned (.tuple #[.string ⟨(Lib.trimPrefix l [45]).toArray⟩, .bool (Lib.hasPrefix l [45])]) = _
  rw [h1, h2]; rfl

theorem trimDigits (l : Bs) (w : World) (hs : l.length ≤ 1000000000) :
    Calls Tryz.prog 154 #[.string (bs l), .string ⟨#[48, 49, 50, 51, 52, 53, 54, 55, 56, 57]⟩] w fun e w' => e = .returned (.string (bs (trimD l))) ∧ Ext w w' := by
  refine (Any.strings_Trim_laid Tryz.lays160 (by kernel_rfl) (bs l) ⟨#[48, 49, 50, 51, 52, 53, 54, 55, 56, 57]⟩ w (by rw [size_bs]; omega) (by decide) (ascii_of_all (by decide))).mono ?_
  rintro e w' ⟨rfl, hb⟩
  exact ⟨by rw [data_bs]; rfl, hb⟩

theorem trimZeros (l : Bs) (w : World) :
    Calls Tryz.prog 155 #[.string (bs l), .string ⟨#[48]⟩] w fun e w' => e = .returned (.string (bs (noZeros l))) ∧ w = w' := by
  refine (Tryz.strings_TrimLeft_one (bs l) 48 (by decide) w).mono ?_
  rintro e w' ⟨rfl, rfl⟩
  exact ⟨by rw [data_bs, Lib.trimLeftB, noZeros_drop]; rfl, rfl⟩

theorem mag_of_good {l : Bs} (h : trimD (strip l) = []) : mag l = noZeros (strip l) := magT_good _ ((trimD_nil _).1 h)
theorem mag_of_bad {l : Bs} (h : trimD (strip l) ≠ []) : mag l = [] := by
  unfold mag magT; rw [if_neg (fun hh => h ((trimD_nil _).2 hh))]
theorem neg_of_bad {l : Bs} (h : trimD (strip l) ≠ []) : neg l = false := by
  have := mag_of_bad h; unfold mag at this; unfold neg negT; rw [this]; simp
theorem neg_of_mag (l : Bs) : neg l = (isMin l && !(mag l).isEmpty) := rfl

set_option maxHeartbeats 400000 in
theorem intDigits (l : Bs) (w : World) (hs : l.length ≤ 1000000000) :
    Calls Tryz.prog 109 #[.string (bs l)] w fun e w' => e = .returned (.tuple #[.string (bs (mag l)), .bool (neg l)]) ∧ Ext w w' := by
  have hl := strip_le l
  have HS := Lib.hid (Nat.le_trans hl hs)
  clear hs hl
  go_enter Tryz.func109, Tryz.ntmps109
  go_wp2_with fail
  refine (cutMinus l _).mono ?_
  rintro e w1 ⟨rfl, rfl⟩
  go_wp2_with fail
  refine (trimDigits _ _ HS.out).mono ?_
  rintro e w1 ⟨rfl, hx⟩
  by_cases ht : trimD (strip l) = []
  · have hb : (!(trimD (strip l)).isEmpty) = false := by rw [ht]; rfl
    have HT := Lib.hid ht
    clear ht
    go_wp2_with fail
    refine (trimZeros _ _).mono ?_
    rintro e w2 ⟨rfl, rfl⟩
    go_wp2_with fail
    all_goals
      go_ret2
      refine ⟨?_, hx⟩
      rw [neg_of_mag, mag_of_good HT.out]
      simp [*]
  · have hb : (!(trimD (strip l)).isEmpty) = true := by simp [ht]
    have HT := Lib.hid ht
    clear ht
    go_wp2_with fail
    go_ret2
    exact ⟨by rw [mag_of_bad HT.out, neg_of_bad HT.out]; rfl, hx⟩

set_option maxHeartbeats 400000 in
theorem intCanonical (l : Bs) (w : World) (hs : l.length ≤ 1000000000) :
    Calls Tryz.prog 133 #[.string (bs l)] w fun e w' => e = .returned (.string (bs (canon l))) ∧ Ext w w' := by
  have hm := mag_le l
  go_enter Tryz.func133, Tryz.ntmps133
  go_wp2_with fail
  refine (intDigits l _ hs).mono ?_
  rintro e w1 ⟨rfl, hx⟩
  by_cases hn : neg l = true
  · go_wp2_with fail
    go_ret
    exact ⟨by unfold canon; rw [if_pos hn]; rfl, hx⟩
  · have hnb : neg l = false := by simpa using hn
    go_wp2_with fail
    go_ret
    exact ⟨by unfold canon; rw [if_neg hn]; rfl, hx⟩

set_option maxHeartbeats 400000 in
theorem intCheck (l : Bs) (w : World) (hs : l.length ≤ 1000000000) :
    Calls Tryz.prog 78 #[.string (bs l)] w fun e w' => e = .returned (.int .i64 (checkI l)) ∧ Ext w w' := by
  have HS := Lib.hid hs
  clear hs
  go_enter Tryz.func78, Tryz.ntmps78
  go_wp2_with fail
  refine (intCanonical l _ HS.out).mono ?_
  rintro e w1 ⟨rfl, hx⟩
  by_cases hn : canon l = l
  · have hb : (l == canon l) = true := beq_iff_eq.2 hn.symm
    have HN := Lib.hid hn
    clear hn
    go_wp2_with fail
    go_ret
    exact ⟨by unfold checkI; rw [if_pos HN.out]; rfl, hx⟩
  · have hb : (l == canon l) = false := beq_eq_false_iff_ne.2 (fun h => hn h.symm)
    have HN := Lib.hid hn
    clear hn
    go_wp2_with fail
    go_ret
    exact ⟨by unfold checkI; rw [if_neg HN.out]; rfl, hx⟩

set_option maxHeartbeats 400000 in
theorem intPrint (l : Bs) (w : World) (hs : l.length ≤ 1000000000) :
    Calls Tryz.prog 246 #[.string (bs l)] w fun e w' => e = .returned (.string (bs (printI l))) ∧ Ext w w' := by
  have HS := Lib.hid hs
  clear hs
  go_enter Tryz.func246, Tryz.ntmps246
  go_wp2_with fail
  refine (intCanonical l _ HS.out).mono ?_
  rintro e w1 ⟨rfl, hx⟩
  by_cases hn : canon l = []
  · have hb : (!(canon l).isEmpty) = false := by simp [hn]
    have HN := Lib.hid hn
    clear hn
    go_wp2_with fail
    go_ret
    exact ⟨by unfold printI; rw [if_pos HN.out]; rfl, hx⟩
  · have hb : (!(canon l).isEmpty) = true := by simpa using hn
    have HN := Lib.hid hn
    clear hn
    go_wp2_with fail
    go_ret
    exact ⟨by unfold printI; rw [if_neg HN.out]; rfl, hx⟩
end Go.Proofs.YtikehdbkiplleaaGreatDoor

/- More words for memory: a block that is known whole ('Blk'); 'Only g w w2': w2 is w with new blocks and writes into block g alone. -/
namespace Go.Proofs.YtikehdbkiplleaaGreatDoor
open Go.RowKit
def Blk (w : World) (g : Nat) (t : TypeId) (cs : Array Value) : Prop := w.heap[g]? = some (.cells cs t (0, 0))
section
variable {w w' : World} {g : Nat} {t : TypeId} {cs : Array Value}
theorem Blk.lt (h : Blk w g t cs) : g < w.heap.size := by
  rcases Nat.lt_or_ge g w.heap.size with hlt | hge
  · exact hlt
  · unfold Blk at h; rw [Array.getElem?_eq_none hge] at h; cases h
theorem Blk.cell (h : Blk w g t cs) (i : Nat) : w.cell? ⟨g, i, none⟩ = cs[i]? := cell_of_row w g i cs t (0, 0) h
theorem Blk.frozen (h : Blk w g t cs) (i : Nat) : w.frozen? ⟨g, i, none⟩ = false := by
  unfold Blk at h
  simp [World.frozen?, h]
theorem Blk.new (w : World) (t : TypeId) (cs : Array Value) : Blk (w.alloc (.cells cs t)) w.heap.size t cs := heap_alloc_new w _
theorem Blk.drew (h : Blk w g t cs) : Blk w.drew g t cs := h
theorem Blk.drewN (h : Blk w g t cs) (n : Nat) : Blk (w.drewN n) g t cs := h
theorem Blk.alloc (h : Blk w g t cs) (o : Obj) : Blk (w.alloc o) g t cs := (Below.heap_alloc w o g h.lt).trans h
theorem Blk.set_ (h : Blk w g t cs) (i : Nat) (u : Value) : Blk (w.setCell ⟨g, i, none⟩ u) g t (cs.setIfInBounds i u) := by
  unfold Blk at h ⊢
  simp [World.setCell, Array.getElem?_modify, h]
theorem Blk.far (h : Blk w g t cs) {p : Addr} (hp : g ≠ p.block) (u : Value) : Blk (w.setCell p u) g t cs := (Below.heap_setCell w p u g hp).trans h
theorem Blk.ext (h : Blk w g t cs) (he : Ext w w') : Blk w' g t cs := (he.block g h.lt).trans h
end
/-- w' is w with new blocks and writes into block g alone -/
def Only (g : Nat) (w w' : World) : Prop := w.grownBy w' (some g)
section
variable {a w w' : World} {g : Nat}
theorem Only.refl (g : Nat) (w : World) : Only g w w := World.grownBy.refl w _
theorem Only.size (h : Only g w w') : w.heap.size ≤ w'.heap.size := World.grownBy.size h
theorem Only.trans {b c : World} (h : Only g a b) (k : Only g b c) : Only g a c :=
  ⟨k.os.trans h.os, k.tape.trans h.tape, k.output.trans h.output, Nat.le_trans h.size k.size, fun i hi hne => (World.grownBy.block k i (Nat.lt_of_lt_of_le hi h.size) hne).trans (World.grownBy.block h i hi hne)⟩
theorem Only.of_ext (h : Ext w w') : Only g w w' := ⟨h.os, h.tape, h.output, h.size, fun i hi _ => h.block i hi⟩
theorem Only.ext {b : World} (h : Only g a w) (k : Ext w b) : Only g a b := h.trans (Only.of_ext k)
theorem Only.setCell (h : Only g a w) (i : Nat) (u : Value) : Only g a (w.setCell ⟨g, i, none⟩ u) :=
  ⟨h.os, h.tape, h.output, by simpa [World.setCell] using h.size, fun i hi hne => (Below.heap_setCell w _ u i (by
    rintro rfl; exact hne rfl)).trans (World.grownBy.block h i hi hne)⟩
theorem Only.alloc (h : Only g a w) (o : Obj) : Only g a (w.alloc o) := h.ext (Ext.new w o)
theorem Only.drew (h : Only g a w) : Only g a w.drew := ⟨h.os, h.tape, h.output, h.size, h.block⟩
theorem Only.drewN (h : Only g a w) (n : Nat) : Only g a (w.drewN n) := ⟨h.os, h.tape, h.output, h.size, h.block⟩
theorem Only.cell (h : Only g w w') {p : Addr} (hp : p.block < w.heap.size) (hne : p.block ≠ g) : w'.cell? p = w.cell? p :=
  World.cell?_of_block (w := w) (World.grownBy.block h p.block hp (fun e => hne (by injection e)))
/-- the block g is new since a: then all of a lies unturned -/
theorem Only.toExt {b : World} (h : Only g w w') (k : Ext b w) (hg : b.heap.size ≤ g) : Ext b w' :=
  Below.trans k ⟨h.os, h.tape, h.output, h.size, fun i hi => World.grownBy.block h i (Nat.lt_of_lt_of_le hi k.size) (fun e => by injection e with e; omega)⟩
end
end Go.Proofs.YtikehdbkiplleaaGreatDoor

/- Slices of elements of several cells: copy, clear, and blocks written in part. No program in sight. -/
namespace Go.Proofs.YtikehdbkiplleaaGreatDoor
open Go.RowKit Go.Lib

/-- 'vs' written over l from o on -/
def lsplice (l : List Value) (o : Nat) (vs : List Value) : List Value := l.take o ++ vs ++ l.drop (o + vs.length)
theorem lsplice_len (l : List Value) (o : Nat) (vs : List Value) (h : o + vs.length ≤ l.length) : (lsplice l o vs).length = l.length := by
  simp [lsplice]; omega
theorem lsplice_nil (l : List Value) (o : Nat) : lsplice l o [] = l := by simp [lsplice]
theorem lsplice_cons (l : List Value) (o : Nat) (v : Value) (vs : List Value) (h : o < l.length) : lsplice (l.set o v) (o + 1) vs = lsplice l o (v :: vs) := by
  unfold lsplice
  rw [List.length_cons, show o + 1 + vs.length = o + (vs.length + 1) by omega]
  have h1 : (l.set o v).take (o + 1) = l.take o ++ [v] := by
    rw [List.take_succ_eq_append_getElem (by simpa using h), List.getElem_set_self, List.take_set_of_le (Nat.le_refl _)]
  have h2 : (l.set o v).drop (o + (vs.length + 1)) = l.drop (o + (vs.length + 1)) := List.drop_set_of_lt (by omega)
  rw [h1, h2]; simp
theorem Blk.sets {g : Nat} {t : TypeId} : ∀ (vs : List Value) (o : Nat) (w : World) (cs : List Value), Blk w g t cs.toArray → o + vs.length ≤ cs.length → Blk (w.setCells g o vs) g t (lsplice cs o vs).toArray
  | [], o, w, cs, h, _ => by rw [lsplice_nil]; exact h
  | v :: r, o, w, cs, h, hl => by
    rw [List.length_cons] at hl
    have h1 := h.set_ o v
    rw [List.setIfInBounds_toArray] at h1
    have := Blk.sets r (o + 1) (w.setCell ⟨g, o, none⟩ v) (cs.set o v) h1 (by simp; omega)
    rw [lsplice_cons cs o v r (by omega)] at this
    exact this
theorem Only.sets {g : Nat} : ∀ (vs : List Value) (o : Nat) (a w : World), Only g a w → Only g a (w.setCells g o vs)
  | [], _, _, _, h => h
  | v :: r, o, a, w, h => Only.sets r (o + 1) a (w.setCell ⟨g, o, none⟩ v) (h.setCell o v)
theorem size_sets (g : Nat) : ∀ (vs : List Value) (o : Nat) (w : World), (w.setCells g o vs).heap.size = w.heap.size
  | [], _, _ => rfl
  | v :: r, o, w => by
    show ((w.setCell ⟨g, o, none⟩ v).setCells g (o + 1) r).heap.size = _
    rw [size_sets g r]; simp [World.setCell]
theorem Blk.shape {w : World} {g : Nat} {t : TypeId} {cs : Array Value} (h : Blk w g t cs) : w.shape? g = some (t, cs.size) := by
  unfold Blk at h; simp [World.shape?, h]
theorem Blk.sets_far {w : World} {g g' : Nat} {t : TypeId} {cs : Array Value} (h : Blk w g t cs) (hne : g ≠ g') : ∀ (vs : List Value) (o : Nat), Blk (w.setCells g' o vs) g t cs
  | [], _ => h
  | v :: r, o => Blk.sets_far (h.far (p := ⟨g', o, none⟩) hne v) hne r (o + 1)
section
variable {P : Program}
/-- copy, elements of 'size' cells -/
theorem run_copy_k (w : World) (dT sT ty elem : TypeId) (size b o dLen dCap : Nat) (a : Addr) (sLen sCap : Nat) (cs : List Value)
    (hu : P.underlying dT = some (.slice elem)) (hs : (P.info? elem).map (·.size) = some size) (n : Nat) (hmin : Nat.min sLen dLen = n) (hn : cs.length = n * size)
    (hsrc : ∀ j v, cs[j]? = some v → w.cell? (a.add j) = some v) (hc : ∀ j, j < cs.length → (w.cell? ⟨b, o + j, none⟩).isSome = true) (hf : ∀ j, j < cs.length → w.frozen? ⟨b, o + j, none⟩ = false) (h1 : ∀ v ∈ cs, v.oneCell' = true) :
    (Builtin.copy_ #[dT, sT] ty #[.slice (some ⟨b, o, none⟩) dLen dCap, .slice (some a) sLen sCap]).run P w = .ok (goInt n) (w.setCells b o cs) := by
  have hl := run_loadCells_list (P := P) w a cs hsrc
  have hst := run_storeCells_cells (P := P) b o cs 0 w (by simpa using hc) (by simpa using hf) h1
  cases hq : P.info? elem with
  | none => simp [hq] at hs
  | some i =>
    have hi : i.size = size := by simpa [hq] using hs
    rw [hn] at hl
    simp [Builtin.copy_, run_underlying hu, Builtin.lenOf, Builtin.firstCells, sizeOf, typeInfo, hq, hi, hmin, hl, hst]
/-- clear, elements of several cells -/
theorem run_clear_k (w : World) (t e ty : TypeId) (z : Value) (zs : List Value) (ht : P.underlying t = some (.slice e)) (hv : ∀ w, (zeroValue e).run P w = .ok z w) (b o n c : Nat) (hn : 0 < n) (hz : (Builtin.zeroCells z.cells n).toList = zs) (h1 : ∀ u ∈ zs, u.oneCell' = true)
    (hc : ∀ j, j < zs.length → (w.cell? ⟨b, o + j, none⟩).isSome = true) (hf : ∀ j, j < zs.length → w.frozen? ⟨b, o + j, none⟩ = false) :
    (Builtin.clear_ #[t] ty #[.slice (some ⟨b, o, none⟩) n c]).run P w = .ok (.tuple #[]) (w.setCells b o zs) := by
  have hst := run_storeCells_cells (P := P) b o zs 0 w (by simpa using hc) (by simpa using hf) h1
  simp only [Nat.add_zero] at hst
  obtain ⟨m, rfl⟩ : ∃ m, n = m + 1 := ⟨n - 1, by omega⟩
  simp [Builtin.clear_, run_underlying ht, hv, hz, hst]
end
/-- a slice of n elements at the head of a block of its own that is known whole: 'cur' are all its cells -/
structure Row (w : World) (g : Nat) (e : TypeId) (size n cap : Nat) (xs cur : List Value) : Prop where
  blk : Blk w g e cur.toArray
  len : xs.length = n * size
  le : n ≤ cap
  big : cap ≤ maxLen
  full : cur.length = cap * size
  take : cur.take (n * size) = xs
theorem Row.own {w : World} {g : Nat} {e : TypeId} {size n cap : Nat} {xs cur : List Value} (h : Row w g e size n cap xs cur) {base : Nat} (hb : base ≤ g) : w.ownsRow base e size (.slice (some ⟨g, 0, none⟩) n cap) n xs :=
  ⟨h.len, .inr ⟨g, cap, cur.toArray, rfl, hb, h.blk, h.le, h.big, by simpa using h.full, by simpa using h.take⟩⟩
theorem Row.of_own {w : World} {g : Nat} {e : TypeId} {size n cap base : Nat} {xs : List Value} (h : w.ownsRow base e size (.slice (some ⟨g, 0, none⟩) n cap) n xs) : base ≤ g ∧ ∃ cur, Row w g e size n cap xs cur := by
  obtain ⟨hl, ⟨h, _⟩ | ⟨g', cap', cur, hv, hb, hh, hle, hbig, hsz, ht⟩⟩ := h
  · cases h
  · injection hv with h1 h2 h3
    injection h1 with h1
    injection h1 with h1
    subst h1; subst h3
    exact ⟨hb, cur.toList, hh, hl, hle, hbig, by simpa using hsz, ht⟩
section
variable {w : World} {g : Nat} {e : TypeId} {size n cap : Nat} {xs cur : List Value}
theorem Row.cell (h : Row w g e size n cap xs cur) {j : Nat} {u : Value} (hu : xs[j]? = some u) : w.cell? ⟨g, j, none⟩ = some u := by
  have hj := (List.getElem?_eq_some_iff.1 hu).1
  rw [h.blk.cell j, List.getElem?_toArray, ← hu, ← h.take, List.getElem?_take, if_pos (by rw [← h.len]; exact hj)]
theorem Row.isSome_ (h : Row w g e size n cap xs cur) {j : Nat} (hj : j < cap * size) : (w.cell? ⟨g, j, none⟩).isSome = true := by
  rw [h.blk.cell j, List.getElem?_toArray, List.getElem?_eq_getElem (by rw [h.full]; exact hj)]; rfl
theorem Row.frozen (h : Row w g e size n cap xs cur) (j : Nat) : w.frozen? ⟨g, j, none⟩ = false := h.blk.frozen j
theorem Row.drew (h : Row w g e size n cap xs cur) : Row w.drew g e size n cap xs cur := { h with blk := h.blk.drew }
theorem Row.ext {w' : World} (h : Row w g e size n cap xs cur) (hx : Ext w w') : Row w' g e size n cap xs cur := { h with blk := h.blk.ext hx }
/-- cells written into the block: it is a row of as many elements as fit -/
theorem Row.put (h : Row w g e size n cap xs cur) (vs : List Value) (o : Nat) (ho : o + vs.length ≤ cap * size) {n' : Nat} {xs' : List Value} (hn' : n' ≤ cap) (hl' : xs'.length = n' * size) (hx : (lsplice cur o vs).take (n' * size) = xs') : Row (w.setCells g o vs) g e size n' cap xs' (lsplice cur o vs) :=
  ⟨Blk.sets vs o w cur h.blk (by rw [h.full]; exact ho), hl', hn', h.big, by rw [lsplice_len _ _ _ (by rw [h.full]; exact ho)]; exact h.full, hx⟩
theorem Row.reads (h : Row w g e size n cap xs cur) : Reads w size (some ⟨g, 0, none⟩) n xs :=
  ⟨h.len, fun _ => ⟨g, 0, rfl, h.blk.lt, fun j u hu => by rw [Nat.zero_add]; exact h.cell hu⟩⟩
end
theorem Ext.only {a w w' : World} {g : Nat} (h : Ext a w) (ho : Only g w w') (hg : a.heap.size ≤ g) : Ext a w' :=
  ⟨ho.os.trans h.os, ho.tape.trans h.tape, ho.output.trans h.output, Nat.le_trans h.size ho.size, fun i hi => (ho.block i (Nat.lt_of_lt_of_le hi h.size) (by intro e; injection e with e; omega)).trans (h.block i hi)⟩
theorem take_le {l : List Value} {m j : Nat} {xs : List Value} (h : l.take m = xs) (hj : j ≤ m) : l.take j = xs.take j := by
  rw [← h, List.take_take, Nat.min_eq_left hj]
/-- what stands behind one element, moved over it -/
theorem splice_del (cur xs : List Value) (k i p : Nat) (hx : cur.take ((p + 1) * k) = xs) (hl : xs.length = (p + 1) * k) (hi : i ≤ p) :
    (lsplice cur (i * k) (xs.drop ((i + 1) * k))).take (p * k) = xs.take (i * k) ++ xs.drop ((i + 1) * k) := by
  have h1 : i * k ≤ (p + 1) * k := Nat.mul_le_mul_right _ (by omega)
  have h2 : (xs.drop ((i + 1) * k)).length = (p - i) * k := by rw [List.length_drop, hl, ← Nat.sub_mul, show p + 1 - (i + 1) = p - i by omega]
  have h3 : (xs.take (i * k)).length = i * k := by rw [List.length_take, hl]; omega
  unfold lsplice
  rw [take_le hx h1, List.take_left' (by rw [List.length_append, h3, h2, ← Nat.add_mul, show i + (p - i) = p by omega])]
theorem splice_tail (cur : List Value) (o : Nat) (zs : List Value) (n : Nat) (h : n ≤ o) (ho : o ≤ cur.length) : (lsplice cur o zs).take n = cur.take n := by
  unfold lsplice
  rw [List.append_assoc, List.take_append_of_le_length (by rw [List.length_take]; omega), List.take_take, Nat.min_eq_left h]
/-- an element put before another one -/
theorem splice_ins (cur xs vs : List Value) (k i n : Nat) (hx : cur.take (n * k) = xs) (hl : xs.length = n * k) (hi : i ≤ n) (hv : vs.length = k) (hc : (n + 1) * k ≤ cur.length) :
    (lsplice (lsplice cur ((i + 1) * k) (xs.drop (i * k))) (i * k) vs).take ((n + 1) * k) = xs.take (i * k) ++ vs ++ xs.drop (i * k) := by
  have h1 : i * k ≤ n * k := Nat.mul_le_mul_right _ hi
  have h2 : (xs.drop (i * k)).length = n * k - i * k := by rw [List.length_drop, hl]
  have h3 : (xs.take (i * k)).length = i * k := by rw [List.length_take, hl]; omega
  have e1 : (i + 1) * k = i * k + k := by rw [Nat.succ_mul]
  have e2 : (n + 1) * k = n * k + k := by rw [Nat.succ_mul]
  have hc' : n * k + k ≤ cur.length := by rw [← e2]; exact hc
  rw [e1, e2]
  clear e1 e2 hc
  generalize i * k = a at *
  generalize n * k = m at *
  have h4 : (cur.take (a + k)).length = a + k := by rw [List.length_take]; omega
  have t1 : (lsplice cur (a + k) (xs.drop a)).take a = xs.take a := by
    rw [splice_tail _ _ _ _ (by omega) (by omega), take_le hx h1]
  have t2 : (lsplice cur (a + k) (xs.drop a)).drop (a + vs.length) = xs.drop a ++ cur.drop (a + k + (xs.drop a).length) := by
    unfold lsplice
    rw [hv, List.append_assoc, List.drop_left' h4]
  rw [show lsplice (lsplice cur (a + k) (xs.drop a)) a vs = (lsplice cur (a + k) (xs.drop a)).take a ++ vs ++ (lsplice cur (a + k) (xs.drop a)).drop (a + vs.length) from rfl, t1, t2, ← List.append_assoc,
    List.take_left' (by simp only [List.length_append, h3, hv, h2]; omega)]
/-- the same into a new block -/
theorem splice_new (R xs vs : List Value) (k i n : Nat) (hx : R.take (i * k) = xs.take (i * k)) (hl : xs.length = n * k) (hi : i ≤ n) (hv : vs.length = k) (hc : (n + 1) * k ≤ R.length) :
    (lsplice (lsplice R (i * k) vs) ((i + 1) * k) (xs.drop (i * k))).take ((n + 1) * k) = xs.take (i * k) ++ vs ++ xs.drop (i * k) := by
  have h1 : i * k ≤ n * k := Nat.mul_le_mul_right _ hi
  have h2 : (xs.drop (i * k)).length = n * k - i * k := by rw [List.length_drop, hl]
  have h3 : (xs.take (i * k)).length = i * k := by rw [List.length_take, hl]; omega
  have e1 : (i + 1) * k = i * k + k := by rw [Nat.succ_mul]
  have e2 : (n + 1) * k = n * k + k := by rw [Nat.succ_mul]
  have hc' : n * k + k ≤ R.length := by rw [← e2]; exact hc
  rw [e1, e2]
  clear e1 e2 hc
  generalize i * k = a at *
  generalize n * k = m at *
  have t1 : (lsplice R a vs).take (a + k) = xs.take a ++ vs := by
    unfold lsplice
    rw [hx, List.take_left' (by rw [List.length_append, h3, hv])]
  unfold lsplice at t1 ⊢
  rw [t1, List.take_left' (by simp only [List.length_append, h3, hv, h2]; omega)]
theorem ext_sets {a : World} {g : Nat} : ∀ (vs : List Value) (o : Nat) (w : World) (_ : Unit) (_ : Ext a w), a.heap.size ≤ g → Ext a (w.setCells g o vs)
  | [], _, _, _, h, _ => h
  | v :: r, o, w, _, h, hg => ext_sets r (o + 1) (w.setCell ⟨g, o, none⟩ v) () (h.setCell hg v) hg
end Go.Proofs.YtikehdbkiplleaaGreatDoor

/- Rows of the call's own: words for memory. -/
namespace Go.Proofs.YtikehdbkiplleaaGreatDoor
open Go.RowKit

theorem own_ext {w w' : World} {base : Nat} {e : TypeId} {size : Nat} {v : Value} {n : Nat} {xs : List Value} (h : w.ownsRow base e size v n xs) (hx : Ext w w') : w'.ownsRow base e size v n xs :=
  h.kept (row := none) ⟨hx.os, hx.tape, hx.output, hx.size, fun i hi _ => hx.block i hi⟩ (by cases v.ownBlock <;> simp)
theorem own_ne {w : World} {base : Nat} {e : TypeId} {size n : Nat} {v : Value} {xs : List Value} {g : Nat} {t : TypeId} {cs : Array Value} (h : w.ownsRow base e size v n xs) (hg : Blk w g t cs) (hne : e ≠ t) : v.ownBlock ≠ some g := by
  rcases h.2 with ⟨rfl, _⟩ | ⟨g', cap, cur, rfl, _, hh, _⟩
  · simp [Value.ownBlock]
  · intro he
    have : g' = g := by simpa [Value.ownBlock] using he
    subst this
    unfold Blk at hg; rw [hg] at hh; injection hh with hh; injection hh with _ ht; exact hne ht.symm
theorem own_own_ne {w : World} {base base' : Nat} {e e' : TypeId} {size size' n n' : Nat} {v v' : Value} {xs xs' : List Value} (h : w.ownsRow base e size v n xs) (h' : w.ownsRow base' e' size' v' n' xs') (hne : e ≠ e') : v.ownBlock = none ∨ v.ownBlock ≠ v'.ownBlock := by
  rcases h.2 with ⟨rfl, _⟩ | ⟨g, cap, cur, rfl, _, hh, _⟩
  · left; rfl
  · right
    rcases h'.2 with ⟨rfl, _⟩ | ⟨g', cap', cur', rfl, _, hh', _⟩
    · simp [Value.ownBlock]
    · intro he
      have : g = g' := by simpa [Value.ownBlock] using he
      subst this
      rw [hh] at hh'; injection hh' with hh'; injection hh' with _ ht; exact hne ht
theorem own_set {w : World} {base : Nat} {e : TypeId} {size n : Nat} {v : Value} {xs : List Value} {g i : Nat} (h : w.ownsRow base e size v n xs) (hne : v.ownBlock ≠ some g) (u : Value) : (w.setCell ⟨g, i, none⟩ u).ownsRow base e size v n xs :=
  h.kept (row := some g) (Only.setCell (Only.refl g w) i u) (.inr hne)
theorem own_len {w : World} {base : Nat} {e : TypeId} {size n : Nat} {v : Value} {xs : List Value} (h : w.ownsRow base e size v n xs) : ∃ A c, v = .slice A n c := by
  rcases h.2 with ⟨rfl, rfl⟩ | ⟨g, cap, cur, rfl, _⟩
  · exact ⟨_, _, rfl⟩
  · exact ⟨_, _, rfl⟩
theorem own_ge {w : World} {base : Nat} {e : TypeId} {size : Nat} {v : Value} {n : Nat} {xs : List Value} (h : w.ownsRow base e size v n xs) : ∀ k, v.ownBlock = some k → base ≤ k := by
  intro k hk
  rcases h.2 with ⟨rfl, _⟩ | ⟨g, cap, cur, rfl, hb, _⟩
  · simp [Value.ownBlock] at hk
  · simp [Value.ownBlock] at hk; omega
end Go.Proofs.YtikehdbkiplleaaGreatDoor

/- The walks over the program's integers: reading the groups of nine digits. -/
namespace Go.Proofs.YtikehdbkiplleaaGreatDoor
open Go.RowKit Go.Shelf
attribute [local go_sem] size_bs toList_bs extract_bs get_bs append_bs lit_append append_lit

def ucells (gs : List Nat) : List Value := gs.map fun g : Nat => Value.int .u64 (g : Int)
def RdU (w : World) (A : Option Addr) (gs : List Nat) : Prop := Reads w 1 A gs.length (ucells gs)
theorem RdU.ext {w w' : World} {A : Option Addr} {gs : List Nat} (h : RdU w A gs) (he : Ext w w') : RdU w' A gs := Reads.ext h he
theorem RdU.at_ {w : World} {A : Option Addr} {gs : List Nat} (h : RdU w A gs) {k : Nat} (hk : k < gs.length) :
    ∃ b o, A = some ⟨b, o, none⟩ ∧ b < w.heap.size ∧ w.cell? ⟨b, o + k, none⟩ = some (.int .u64 (gs[k]'hk)) := by
  obtain ⟨b, o, rfl, hb⟩ := Reads.at_ h (by omega)
  exact ⟨b, o, rfl, hb, Reads.cell h (by simp [ucells, hk])⟩
theorem u64Info : (Tryz.prog.info? 114).map (fun i => (i.zero, i.size, i.bytes)) = some (some (.int .u64 0), 1, 8) := by kernel_rfl
theorem parseU (l : Bs) (w : World) (hd : l.all isD = true) (h0 : l ≠ []) (hl : l.length ≤ 9) :
    Calls Tryz.prog 110 #[.string (bs l), .int .i64 10, .int .i64 64] w fun e w' => e = .returned (.tuple #[.int .u64 (natOf l), .nilIface]) ∧ Ext w w' := by
  refine (Tryz.strconv_ParseUint_10_at64_ok (bs l) (by rw [size_bs]; omega) (natOf l) (by rw [data_bs]; exact parse_small l hd h0 hl) w).mono ?_
  rintro e w' ⟨rfl, rfl | rfl⟩
  · exact ⟨rfl, Ext.refl _⟩
  · exact ⟨rfl, rfl, rfl, rfl, by rw [Lib.bytesWorld_size]; omega, fun k hk => Lib.bytesWorld_at_old w _ (bs l) k hk⟩
theorem results_num {fn : Func} {a : Tmp} (h : fn.results = #[.cell a 81]) (tmps : Array Value) (w : World) (g : Nat) (x y : Value) (ha : tmps.getD a undef = .pointer (some ⟨g, 0, none⟩)) (hb : Blk w g 81 #[x, y]) :
    (results fn tmps).run Tryz.prog w = .ok (.agg #[x, y]) w := by
  have h0 := hb.cell 0
  have h1 := hb.cell 1
  simp only [List.getElem?_toArray, List.getElem?_cons_zero, List.getElem?_cons_succ] at h0 h1
  unfold results
  rw [h]
  simp only [List.mapM_toArray, List.mapM_cons, List.mapM_nil, ha]
  go_simp
/-- a number: its sign, and its groups in memory -/
def NumEnds (neg : Bool) (gs : List Nat) (w : World) (e : Ending) (w' : World) : Prop :=
  ∃ A c, e = .returned (.agg #[.bool neg, .slice A gs.length c]) ∧ RdU w' A gs ∧ Ext w w' ∧ gs.length ≤ c ∧ c ≤ maxLen
theorem own_slice {w : World} {base : Nat} {e : TypeId} {size n : Nat} {v : Value} {xs : List Value} (h : w.ownsRow base e size v n xs) : ∃ A c, v = .slice A n c := by
  rcases h.2 with ⟨rfl, rfl⟩ | ⟨g, cap, cur, rfl, _⟩
  · exact ⟨none, 0, rfl⟩
  · exact ⟨_, _, rfl⟩
theorem own_cap {w : World} {base : Nat} {e : TypeId} {size n c : Nat} {A : Option Addr} {xs : List Value} (h : w.ownsRow base e size (.slice A n c) n xs) : n ≤ c ∧ c ≤ maxLen := by
  rcases h.2 with ⟨h1, h2⟩ | ⟨g, cap, cur, h1, _, _, h4, h5, _⟩
  · injection h1 with _ h3 h4; subst h3; subst h4; exact ⟨Nat.le_refl _, by unfold maxLen; omega⟩
  · injection h1 with _ _ h3; subst h3; exact ⟨h4, h5⟩
theorem own_ext2 {w w' : World} {base : Nat} {e : TypeId} {size n : Nat} {v : Value} {xs : List Value} (h : w.ownsRow base e size v n xs) (hx : Ext w w') : w'.ownsRow base e size v n xs := by
  rcases h.2 with ⟨h1, h2⟩ | ⟨g, cap, cur, h1, h2, h3, h4⟩
  · exact ⟨h.1, .inl ⟨h1, h2⟩⟩
  · have hlt : g < w.heap.size := (Array.getElem?_eq_some_iff.1 h3).1
    exact ⟨h.1, .inr ⟨g, cap, cur, h1, h2, (hx.block g hlt).trans h3, h4⟩⟩
theorem own_base {w : World} {base : Nat} {e : TypeId} {size n : Nat} {v : Value} {xs : List Value} (h : w.ownsRow base e size v n xs) : ∀ k, v.ownBlock = some k → base ≤ k := by
  rcases h.2 with ⟨rfl, _⟩ | ⟨g, cap, cur, rfl, h2, _⟩
  · intro k hk; cases hk
  · intro k hk; injection hk with hk; subst hk; exact h2
theorem Ext.grown {a w w' : World} {row : Option Nat} (h : Ext a w) (hg : w.grownBy w' row) (hr : ∀ k, row = some k → a.heap.size ≤ k) : Ext a w' :=
  ⟨hg.os.trans h.os, hg.tape.trans h.tape, hg.output.trans h.output, Nat.le_trans h.size hg.size, fun i hi => (hg.block i (Nat.lt_of_lt_of_le hi h.size) (fun e => by have := hr i e.symm; omega)).trans (h.block i hi)⟩
/-- how the loop of read stands -/
def ReadAt (m : Bs) (N : Nat) (w : World) (v z : Value) (wr : World) : Prop :=
  ∃ (y : Int) (done : List Nat), z = .int .i64 y ∧ -9 < y ∧ y ≤ m.length ∧ wr.ownsRow (w.heap.size + 1) 114 1 v done.length (ucells done) ∧ done ++ groupsOf (m.take y.toNat) = gr N ∧ Ext w wr ∧ Blk wr w.heap.size 81 #[.bool false, .slice none 0 0]
set_option maxRecDepth 100000 in
set_option maxHeartbeats 1000000 in
theorem intRead (l : Bs) (w : World) (hs : l.length ≤ 1000000) :
    Calls Tryz.prog 65 #[.string (bs l)] w (NumEnds (neg l) (gr (natOf (mag l))) w) := by
  obtain ⟨i0, hI, hz0, hz1, hz2⟩ := info_parts u64Info
  have hml := mag_le l
  have HG := Lib.hid (groupsOf_gr (mag l) (mag_all l) (mag_lead l))
  have HD := Lib.hid (mag_all l)
  have HGL : Hid ((gr (natOf (mag l))).length ≤ 1000000) := Lib.hid (by rw [← groupsOf_gr (mag l) (mag_all l) (mag_lead l)]; have := groupsOf_len (mag l); omega)
  have HI := Lib.hid hI
  have HS := Lib.hid (Nat.le_trans hml hs)
  have hls : l.length ≤ 1000000000 := by omega
  have HDIG := Lib.hid (fun w => intDigits l w hls)
  clear hI hml
  generalize hm : mag l = m at *
  generalize hN : natOf m = N at *
  generalize hng : neg l = ng at *
  clear hm hng hls hs hN
  go_enter Tryz.func65, Tryz.ntmps65
  go_wp2_with fail
  refine (HDIG.out _).mono ?_
  rintro e w1 ⟨rfl, hx1⟩
  have HBX := Lib.hid ((Blk.new w 81 #[.bool false, .slice none 0 0]).ext hx1)
  have HX1 := Lib.hid (Ext.of_alloc hx1)
  clear hx1 HDIG
  have hsm := HS.out
  go_wp2_with fail
  go_loopw [5, 6, 7, 8] (fun v z _ _ wr => ReadAt m N w v z wr) (fun _ z _ _ _ => (intOf z).toNat)
  case atStart => exact ⟨m.length, [], rfl, by omega, by omega, ⟨rfl, .inl ⟨rfl, rfl⟩⟩, by rw [Int.toNat_natCast, List.take_of_length_le (Nat.le_refl _), List.nil_append]; exact HG.out, HX1.out, HBX.out⟩
  case round =>
    obtain ⟨z, done, rfl, hz1', hz2', hown, hsum, hx, hbx⟩ := hrel
    have HOWN := Lib.hid hown
    have HSUM := Lib.hid hsum
    have HX := Lib.hid hx
    have HBXr := Lib.hid hbx
    clear hown hsum hx hbx
    by_cases hpos : 0 < z
    · obtain ⟨e, rfl⟩ : ∃ e : Nat, z = (e : Int) := ⟨z.toNat, by omega⟩
      have hel : e ≤ m.length := by omega
      have he0 : 0 < e := by omega
      have hck : ((m.take e).drop (e - 9)).length ≤ 9 := by rw [List.length_drop, List.length_take]; omega
      have HCK := Lib.hid hck
      have HCN : Hid ((m.take e).drop (e - 9) ≠ []) := Lib.hid (by intro h; have := congrArg List.length h; rw [List.length_drop, List.length_take] at this; simp at this; omega)
      have HCD : Hid (((m.take e).drop (e - 9)).all isD = true) := Lib.hid (all_drop (all_take HD.out e) _)
      have HST := Lib.hid (groups_step he0 hel)
      have hcc : List.take (e - (e - 9)) (List.drop (e - 9) m) = (m.take e).drop (e - 9) := List.drop_take.symm
      have hcc2 : (e : Int) < 9 → List.take e m = (m.take e).drop (e - 9) := by intro h; rw [show e - 9 = 0 by omega, List.drop_zero]
      have HLN : Hid (done.length ≤ 1000000) := Lib.hid (by
        have h1 := congrArg List.length HSUM.out
        rw [List.length_append] at h1
        have h2 := HGL.out; omega)
      clear hck
      have HNX : Hid (∀ (x : Nat), natOf ((m.take e).drop (e - 9)) = x → done ++ [x] ++ groupsOf (m.take (e - 9)) = gr N) := Lib.hid (fun x hx => by
        rw [← HSUM.out, Int.toNat_natCast, HST.out, hx]; simp)
      generalize (m.take e).drop (e - 9) = ch at *
      by_cases h9 : 9 ≤ (e : Int)
      · have hmx : max (0 : Int) ((e : Int) - 9) = (e : Int) - 9 := by omega
        go_wp2_with fail
        refine (parseU ch _ HCD.out HCN.out HCK.out).mono ?_
        generalize hx0 : natOf ch = x at *
        rintro e' w2 ⟨rfl, hx2⟩
        have HX2 := Lib.hid (HX.out.trans hx2)
        have HOW2 := Lib.hid (own_ext2 HOWN.out hx2)
        have HBX2 := Lib.hid (HBXr.out.ext hx2)
        have hln := HLN.out
        clear hx2 hcc hcc2
        go_wp2_with (at_builtin; refine wpList_append_lies _ rfl (.tmp 30) (.tmp 32) 79 rfl (w.heap.size + 1) 114 i0 _ 1 8 Tryz.underlying79 HI.out hz0 hz1 hz2 rfl (by decide) _ done.length (ucells done) rfl (own_ext2 HOW2.out (Ext.new _ _)) ⟨w2.heap.size, 0, none⟩ 1 1 [.int .u64 x] rfl rfl (World.news_of_block (heap_alloc_new w2 _)) (by simp [Value.oneCell']) (by omega) (by simp only [maxLen]; omega) (by omega) (by have := HX2.out.size; have := HBX2.out.lt; simp; omega) _ rfl ?_; intro g' cap' w' hown hgrow hat hlt')
        refine ⟨⟨(e : Int) - 9, done ++ [x], rfl, by omega, by omega, by simpa [ucells] using hown, by rw [show ((e : Int) - 9).toNat = e - 9 by omega]; exact HNX.out x rfl, Ext.grown (HX2.out.trans (Ext.new _ _)) hgrow (fun k hk => by have := own_base HOW2.out k hk; omega), (hgrow.block w.heap.size (by have := HBX2.out.lt; simp; omega) (fun e => by have := own_base HOW2.out w.heap.size e.symm; omega)).trans (HBX2.out.alloc _)⟩, by simp [intOf]; omega⟩
      · have hmx : max (0 : Int) ((e : Int) - 9) = 0 := by omega
        have hcd := hcc2 (by omega)
        clear hcc hcc2
        go_wp2_with fail
        refine (parseU ch _ HCD.out HCN.out HCK.out).mono ?_
        generalize hx0 : natOf ch = x at *
        rintro e' w2 ⟨rfl, hx2⟩
        have HX2 := Lib.hid (HX.out.trans hx2)
        have HOW2 := Lib.hid (own_ext2 HOWN.out hx2)
        have HBX2 := Lib.hid (HBXr.out.ext hx2)
        have hln := HLN.out
        clear hx2
        go_wp2_with (at_builtin; refine wpList_append_lies _ rfl (.tmp 30) (.tmp 32) 79 rfl (w.heap.size + 1) 114 i0 _ 1 8 Tryz.underlying79 HI.out hz0 hz1 hz2 rfl (by decide) _ done.length (ucells done) rfl (own_ext2 HOW2.out (Ext.new _ _)) ⟨w2.heap.size, 0, none⟩ 1 1 [.int .u64 x] rfl rfl (World.news_of_block (heap_alloc_new w2 _)) (by simp [Value.oneCell']) (by omega) (by simp only [maxLen]; omega) (by omega) (by have := HX2.out.size; have := HBX2.out.lt; simp; omega) _ rfl ?_; intro g' cap' w' hown hgrow hat hlt')
        refine ⟨⟨(e : Int) - 9, done ++ [x], rfl, by omega, by omega, by simpa [ucells] using hown, by rw [show ((e : Int) - 9).toNat = e - 9 by omega]; exact HNX.out x rfl, Ext.grown (HX2.out.trans (Ext.new _ _)) hgrow (fun k hk => by have := own_base HOW2.out k hk; omega), (hgrow.block w.heap.size (by have := HBX2.out.lt; simp; omega) (fun e => by have := own_base HOW2.out w.heap.size e.symm; omega)).trans (HBX2.out.alloc _)⟩, by simp [intOf]; omega⟩
    · have HDN : Hid (done = gr N) := Lib.hid (by have := HSUM.out; rw [show z.toNat = 0 by omega, List.take_zero, groupsOf_nil, List.append_nil] at this; exact this)
      obtain ⟨A, c, rfl⟩ := own_slice HOWN.out
      have q0 := HBXr.out.cell 0
      have q1 := HBXr.out.cell 1
      have f0 := HBXr.out.frozen 0
      have f1 := HBXr.out.frozen 1
      simp only [List.getElem?_toArray, List.getElem?_cons_zero, List.getElem?_cons_succ] at q0 q1
      go_wp2_with fail
      have hnb : (Value.slice A done.length c).ownBlock ≠ some w.heap.size := fun h => by have := own_base HOWN.out _ h; omega
      have hfin := own_set (own_set HOWN.out hnb (i := 0) (.bool ng)) hnb (i := 1) (.slice A done.length c)
      refine bodyPost_ret (results_num rfl _ _ w.heap.size (.bool ng) (.slice A done.length c) rfl ((HBXr.out.set_ 0 (.bool ng)).set_ 1 (.slice A done.length c))) rfl ?_
      have hcp := own_cap hfin
      rw [HDN.out] at hfin hcp ⊢
      exact ⟨A, c, rfl, Reads.own hfin, (HX.out.setCell (p := ⟨w.heap.size, 0, none⟩) (Nat.le_refl _) _).setCell (p := ⟨w.heap.size, 1, none⟩) (Nat.le_refl _) _, hcp.1, hcp.2⟩
end Go.Proofs.YtikehdbkiplleaaGreatDoor

/- The walks over the program's integers: cutting and comparing magnitudes. -/
namespace Go.Proofs.YtikehdbkiplleaaGreatDoor
open Go.RowKit
attribute [local go_sem] size_bs toList_bs

def slLen : Value → Nat | .slice _ n _ => n | _ => 0
theorem RdU.take {w : World} {A : Option Addr} {gs : List Nat} (h : RdU w A gs) (n : Nat) : RdU w A (gs.take n) := by
  refine ⟨by simp [ucells], fun hn => ?_⟩
  have h0 : 0 < gs.length := by rw [List.length_take] at hn; omega
  obtain ⟨b, o, rfl, hb, hc⟩ := h.2 h0
  refine ⟨b, o, rfl, hb, fun j u hu => hc j u ?_⟩
  unfold ucells at hu ⊢
  rw [List.map_take, List.getElem?_take] at hu
  split at hu
  · exact hu
  · cases hu
set_option maxHeartbeats 1000000 in
theorem intCut (gs : List Nat) (A : Option Addr) (c : Nat) (w : World) (hA : RdU w A gs) (hc : gs.length ≤ c) (hm : c ≤ maxLen) (hb : ∀ g ∈ gs, g < B9) :
    Calls Tryz.prog 119 #[.slice A gs.length c] w fun e w' => e = .returned (.slice A (cutL gs).length c) ∧ w = w' := by
  have HA := Lib.hid hA
  have HB := Lib.hid hb
  unfold maxLen at hm
  clear hA hb
  go_enter Tryz.func119, Tryz.ntmps119
  go_wp2_with fail
  go_loop [0] (fun v => ∃ k : Nat, k ≤ gs.length ∧ v = .slice A k c ∧ cutL (gs.take k) = cutL gs) (fun v => slLen v)
  case atStart => exact ⟨gs.length, Nat.le_refl _, rfl, by rw [List.take_length]⟩
  case round =>
    obtain ⟨k, hk, rfl, hz⟩ := hrel
    have HZ := Lib.hid hz
    clear hz
    rcases Nat.eq_zero_or_pos k with h0 | h0
    · subst h0
      have HL : Hid ((cutL gs).length = 0) := Lib.hid (by rw [← HZ.out]; rfl)
      go_wp2_with fail
      go_ret
      exact ⟨by rw [HL.out]; rfl, rfl⟩
    · obtain ⟨j, rfl⟩ : ∃ j, k = j + 1 := ⟨k - 1, by omega⟩
      have hj : j < gs.length := by omega
      obtain ⟨b, o, rfl, hbw, hcell⟩ := HA.out.at_ hj
      have hts : gs.take (j + 1) = gs.take j ++ [gs[j]] := List.take_succ_eq_append_getElem hj
      have HTS := Lib.hid hts
      clear hts
      by_cases hg : gs[j] = 0
      · have HN : Hid (cutL (gs.take j) = cutL gs) := Lib.hid (by rw [← HZ.out, HTS.out, hg, cutL_snoc_zero])
        rw [hg] at hcell
        clear hg
        go_wp2_with fail
        go_round
        case rel => exact ⟨j, by omega, rfl, HN.out⟩
        case measure => simp [slLen]
      · have HL : Hid ((cutL gs).length = j + 1) := Lib.hid (by rw [← HZ.out, HTS.out, cutL_snoc _ hg]; simp; omega)
        have hgb : ((gs[j] : Int) == 0) = false := by rw [beq_eq_false_iff_ne]; omega
        clear hg
        generalize (gs[j]'hj) = g at *
        go_wp2_with fail
        go_ret
        exact ⟨by rw [HL.out]; rfl, rfl⟩

def CmpEnds (x y : Nat) (w : World) (e : Ending) (w' : World) : Prop := Ext w w' ∧ ∃ r : Int, e = .returned (.int .i64 r) ∧ ((r < 0 ∧ x < y) ∨ (r = 0 ∧ x = y) ∨ (0 < r ∧ y < x))
/-- the same, with bounds of the answer -/
def CmpEndsB (x y : Nat) (w : World) (e : Ending) (w' : World) : Prop := Ext w w' ∧ ∃ r : Int, e = .returned (.int .i64 r) ∧ ((r < 0 ∧ x < y) ∨ (r = 0 ∧ x = y) ∨ (0 < r ∧ y < x)) ∧ -1000000 ≤ r ∧ r ≤ 1000000
set_option maxRecDepth 100000 in
set_option maxHeartbeats 1000000 in
theorem intCompareB (x y : Nat) (A A' : Option Addr) (c c' : Nat) (w : World) (hA : RdU w A (gr x)) (hA' : RdU w A' (gr y)) (hn : (gr x).length ≤ 1000000) (hn' : (gr y).length ≤ 1000000) :
    Calls Tryz.prog 66 #[.slice A (gr x).length c, .slice A' (gr y).length c'] w (CmpEndsB x y w) := by
  have HA := Lib.hid hA
  have HA' := Lib.hid hA'
  clear hA hA'
  by_cases hl : (gr x).length = (gr y).length
  · have HLL := Lib.hid hl
    have hbl : (((gr x).length : Int) != ((gr y).length : Int)) = false := by rw [bne_eq_false_iff_eq]; omega
    have HLS := Lib.hid (fun k (a : k < (gr x).length) (b : k < (gr y).length) he h => gr_less (x := x) (y := y) (k := k) hl a b he h)
    have HGT := Lib.hid (fun k (a : k < (gr y).length) (b : k < (gr x).length) he h => gr_less (x := y) (y := x) (k := k) hl.symm a b he h)
    have HEQ : Hid (gr x = gr y → x = y) := Lib.hid gr_inj
    generalize gr x = gx at *
    generalize gr y = gy at *
    clear hl
    go_enter Tryz.func66, Tryz.ntmps66
    go_wp2_with fail
    go_loopw [5, 23, 33] (fun z _ _ wr => ∃ k : Nat, k ≤ gx.length ∧ z = .int .i64 ((k : Int) - 1) ∧ (∀ (j : Nat) (h1 : j < gx.length) (h2 : j < gy.length), k ≤ j → gx[j] = gy[j]) ∧ Ext w wr) (fun z _ _ _ => (intOf z + 1).toNat)
    case atStart => exact ⟨gx.length, Nat.le_refl _, rfl, fun j h1 _ hj => absurd h1 (by omega), Ext.refl _⟩
    case round =>
      obtain ⟨k, hk, rfl, hz, hx⟩ := hrel
      have HZ := Lib.hid hz
      have HX := Lib.hid hx
      clear hz hx
      rcases Nat.eq_zero_or_pos k with h0 | h0
      · subst h0
        have HY : Hid (x = y) := Lib.hid (HEQ.out (List.ext_getElem HLL.out (fun j h1 h2 => HZ.out j h1 h2 (by omega))))
        go_wp2_with fail
        go_ret
        exact ⟨HX.out, 0, rfl, .inr (.inl ⟨rfl, HY.out⟩), by decide, by decide⟩
      · obtain ⟨j, rfl⟩ : ∃ j, k = j + 1 := ⟨k - 1, by omega⟩
        have hj : j < gx.length := by omega
        have hj' : j < gy.length := by have := HLL.out; omega
        obtain ⟨b, o, rfl, hbw, hcell⟩ := (HA.out.ext HX.out).at_ hj
        obtain ⟨b', o', rfl, hbw', hcell'⟩ := (HA'.out.ext HX.out).at_ hj'
        have e0 : ((j + 1 : Nat) : Int) - 1 = (j : Int) := by omega
        rw [e0]
        clear e0
        rcases Nat.lt_trichotomy (gx[j]'hj) (gy[j]'hj') with h | h | h
        · have HY : Hid (x < y) := Lib.hid (HLS.out j hj hj' (fun i h1 h2 hi => HZ.out i h1 h2 (by omega)) h)
          generalize (gx[j]'hj) = p at *
          generalize (gy[j]'hj') = q at *
          go_wp2_with fail
          go_quiet (fail)
          go_wp2_with fail
          go_ret
          exact ⟨HX.out.drewN _, -1, rfl, .inl ⟨by decide, HY.out⟩, by decide, by decide⟩
        · have HNX := Lib.hid (fun i (h1 : i < gx.length) (h2 : i < gy.length) (hi : j ≤ i) => (by
            rcases Nat.lt_or_ge j i with h' | h'
            · exact HZ.out i h1 h2 (by omega)
            · obtain rfl : i = j := by omega
              exact h : gx[i] = gy[i]))
          rw [← h] at hcell'
          generalize (gx[j]'hj) = p at *
          clear h
          go_wp2_with fail
          go_quiet (fail)
          go_wp2_with fail
          go_quiet (fail)
          go_wp2_with fail
          go_roundw
          case rel => exact ⟨j, by omega, rfl, HNX.out, HX.out.drewN _⟩
          case measure => simp [intOf]
        · have HY : Hid (y < x) := Lib.hid (HGT.out j hj' hj (fun i h1 h2 hi => (HZ.out i h2 h1 (by omega)).symm) h)
          have hb1 : ¬ (gx[j]'hj) < (gy[j]'hj') := by omega
          generalize (gx[j]'hj) = p at *
          generalize (gy[j]'hj') = q at *
          go_wp2_with fail
          go_quiet (fail)
          go_wp2_with fail
          go_quiet (fail)
          go_wp2_with fail
          go_ret
          exact ⟨(HX.out.drewN _).drewN _, 1, rfl, .inr (.inr ⟨by decide, HY.out⟩), by decide, by decide⟩
  · have hbl : (((gr x).length : Int) != ((gr y).length : Int)) = true := by rw [bne_iff_ne]; omega
    have HY : Hid (((((gr x).length : Int) - (gr y).length < 0) ∧ x < y) ∨ ((((gr x).length : Int) - (gr y).length = 0) ∧ x = y) ∨ ((0 < ((gr x).length : Int) - (gr y).length) ∧ y < x)) := Lib.hid (by
      rcases Nat.lt_or_ge (gr x).length (gr y).length with h | h
      · exact .inl ⟨by omega, gr_shorter h⟩
      · exact .inr (.inr ⟨by omega, gr_shorter (by omega)⟩))
    generalize gr x = gx at *
    generalize gr y = gy at *
    clear hl
    go_enter Tryz.func66, Tryz.ntmps66
    go_wp2_with fail
    go_ret
    exact ⟨Ext.refl _, _, rfl, HY.out, by omega, by omega⟩
theorem intCompare (x y : Nat) (A A' : Option Addr) (c c' : Nat) (w : World) (hA : RdU w A (gr x)) (hA' : RdU w A' (gr y)) (hn : (gr x).length ≤ 1000000) (hn' : (gr y).length ≤ 1000000) :
    Calls Tryz.prog 66 #[.slice A (gr x).length c, .slice A' (gr y).length c'] w (CmpEnds x y w) :=
  (intCompareB x y A A' c c' w hA hA' hn hn').mono (fun _ _ ⟨h1, r, h2, h3, _⟩ => ⟨h1, r, h2, h3⟩)
end Go.Proofs.YtikehdbkiplleaaGreatDoor

/- The walks over the program's integers: the difference of magnitudes. -/
namespace Go.Proofs.YtikehdbkiplleaaGreatDoor
open Go.RowKit
attribute [local go_sem] size_bs toList_bs

theorem oneU (gs : List Nat) : ∀ u ∈ ucells gs, u.oneCell' = true := by
  intro u hu; obtain ⟨g, _, rfl⟩ := List.mem_map.1 hu; rfl
def CloneU (gs : List Nat) (w : World) (e : Ending) (w' : World) : Prop :=
  ∃ A c, e = .returned (.slice A gs.length c) ∧ w'.ownsRow w.heap.size 114 1 (.slice A gs.length c) gs.length (ucells gs) ∧ Ext w w'
set_option maxRecDepth 100000 in
set_option maxHeartbeats 1000000 in
theorem cloneU (gs : List Nat) (A : Option Addr) (c : Nat) (w : World) (hA : RdU w A gs) (hn : gs.length ≤ 1000000) :
    Calls Tryz.prog 159 #[.slice A gs.length c] w (CloneU gs w) := by
  obtain ⟨i0, hI, hz0, hz1, hz2⟩ := info_parts u64Info
  have HI := Lib.hid hI
  clear hI
  cases A with
  | none =>
    have h0 : gs = [] := by
      rcases Nat.eq_zero_or_pos gs.length with h | h
      · exact List.length_eq_zero_iff.1 h
      · obtain ⟨b, o, e, _⟩ := hA.2 h; cases e
    subst h0
    clear hA
    have hnil : ∀ W : World, (binOp .eql 79 (.slice none 0 c) (.slice none 0 0)).run Tryz.prog W = .ok (.bool true) W := fun W => Lib.run_eql_slice_nil W _ _ _ _ _ _ _ Tryz.underlying79
    go_enter Tryz.func159, Tryz.ntmps159
    go_wp2_with fail
    go_ret
    exact ⟨none, 0, rfl, ⟨rfl, .inl ⟨rfl, rfl⟩⟩, Ext.refl _⟩
  | some a =>
    have hnil : ∀ W : World, (binOp .eql 79 (.slice (some a) gs.length c) (.slice none 0 0)).run Tryz.prog W = .ok (.bool false) W := fun W => Lib.run_eql_slice_nil W _ _ _ _ _ _ _ Tryz.underlying79
    rcases Nat.eq_zero_or_pos gs.length with h0 | h0
    · have h1 : gs = [] := List.length_eq_zero_iff.1 h0
      subst h1
      simp only [List.length_nil] at hnil
      clear hA h0
      go_enter Tryz.func159, Tryz.ntmps159
      have hr : ∀ ty, (Builtin.append_ #[79, 79] ty #[.slice (some ⟨w.heap.size, 0, none⟩) 0 0, .slice (some a) 0 c]).run Tryz.prog (w.alloc (.cells #[] 114)) = .ok (.slice (some ⟨w.heap.size, 0, none⟩) 0 0) (w.alloc (.cells #[] 114)) := fun ty =>
        run_append_room_cells _ _ ty 114 i0 Tryz.underlying79 HI.out w.heap.size 0 0 0 a 0 c [] (by simp) (by simp) (by simp) (Nat.le_refl _) (by simp) (by simp)
      go_wp2_with (at_builtin; refine Lib.wpList_append_run _ rfl (.tmp 5) (.tmp 6) _ _ rfl _ _ rfl rfl _ _ (hr _) ?_)
      go_ret
      exact ⟨some ⟨w.heap.size, 0, none⟩, 0, rfl, ⟨rfl, .inr ⟨w.heap.size, 0, #[], rfl, Nat.le_refl _, heap_alloc_new w _, Nat.le_refl _, by decide, rfl, rfl⟩⟩, Ext.new _ _⟩
    · obtain ⟨b, o, e, hb, hc⟩ := hA.2 h0
      injection e with e
      subst e
      have HC : Hid (∀ j u, (ucells gs)[j]? = some u → (w.alloc (.cells #[] 114)).cell? ((⟨b, o, none⟩ : Addr).add j) = some u) := Lib.hid (fun j u hu => by
        rw [Addr.add_lit]; exact ((Ext.new w _).cell (p := ⟨b, o + j, none⟩) hb).trans (hc j u hu))
      have HL : Hid ((ucells gs).length = gs.length * 1) := Lib.hid (by simp [ucells])
      clear hc hA
      go_enter Tryz.func159, Tryz.ntmps159
      go_wp2_with (at_builtin; refine wpList_append_lies _ rfl (.tmp 5) (.tmp 6) 79 rfl w.heap.size 114 i0 _ 1 8 Tryz.underlying79 HI.out hz0 hz1 hz2 rfl (by decide) _ 0 [] rfl ⟨rfl, .inr ⟨w.heap.size, 0, #[], rfl, Nat.le_refl _, heap_alloc_new w _, Nat.le_refl _, by decide, rfl, rfl⟩⟩ ⟨b, o, none⟩ gs.length c (ucells gs) rfl HL.out HC.out (oneU gs) h0 (by simp only [maxLen]; omega) (by omega) (by simp) _ rfl ?_; intro g cap w' hown hgrow hat hlt)
      go_ret
      simp only [Nat.zero_add, List.nil_append] at hown
      exact ⟨some ⟨g, 0, none⟩, cap, rfl, hown, Ext.only (Ext.new w (.cells #[] 114)) hgrow (Nat.le_refl _)⟩
/-- the groups of a difference, the first k of them done -/
def mixed (f : Nat → Nat) (gs : List Nat) (k : Nat) : List Nat := (List.range k).map f ++ gs.drop k
theorem mixed_len (f : Nat → Nat) (gs : List Nat) (k : Nat) (h : k ≤ gs.length) : (mixed f gs k).length = gs.length := by simp [mixed]; omega
theorem mixed_zero (f : Nat → Nat) (gs : List Nat) : mixed f gs 0 = gs := by simp [mixed]
theorem mixed_at (f : Nat → Nat) (gs : List Nat) (k : Nat) (h : k < gs.length) : (mixed f gs k)[k]? = some (gs[k]) := by
  unfold mixed; rw [List.getElem?_append_right (by simp)]; simp [h]
theorem mixed_set (f : Nat → Nat) (gs : List Nat) (k : Nat) (h : k < gs.length) : (mixed f gs k).set k (f k) = mixed f gs (k + 1) := by
  unfold mixed
  rw [List.set_append_right _ _ (by simp), List.range_succ, List.map_append]
  simp only [List.length_map, List.length_range, Nat.sub_self]
  rw [List.drop_eq_getElem_cons h, List.set_cons_zero, List.append_assoc]; rfl
theorem mixed_end (f : Nat → Nat) (gs : List Nat) : mixed f gs gs.length = (List.range gs.length).map f := by simp [mixed]
/-- a row of uint64 groups in a block of its own -/
def RowU (w : World) (g cap : Nat) (gs : List Nat) : Prop := ∃ cur, Row w g 114 1 gs.length cap (ucells gs) cur
theorem RowU.cell {w : World} {g cap : Nat} {gs : List Nat} (h : RowU w g cap gs) {k x : Nat} (hk : gs[k]? = some x) : w.cell? ⟨g, k, none⟩ = some (.int .u64 x) := by
  obtain ⟨cur, h⟩ := h; exact h.cell (by simp [ucells, hk])
theorem RowU.frozen {w : World} {g cap : Nat} {gs : List Nat} (h : RowU w g cap gs) (k : Nat) : w.frozen? ⟨g, k, none⟩ = false := by
  obtain ⟨cur, h⟩ := h; exact h.frozen k
theorem RowU.lt {w : World} {g cap : Nat} {gs : List Nat} (h : RowU w g cap gs) : g < w.heap.size := by obtain ⟨cur, h⟩ := h; exact h.blk.lt
theorem RowU.reads {w : World} {g cap : Nat} {gs : List Nat} (h : RowU w g cap gs) : RdU w (some ⟨g, 0, none⟩) gs := by obtain ⟨cur, h⟩ := h; exact h.reads
theorem RowU.caps {w : World} {g cap : Nat} {gs : List Nat} (h : RowU w g cap gs) : gs.length ≤ cap ∧ cap ≤ maxLen := by obtain ⟨cur, h⟩ := h; exact ⟨h.le, h.big⟩
theorem RowU.ext {w w' : World} {g cap : Nat} {gs : List Nat} (h : RowU w g cap gs) (hx : Ext w w') : RowU w' g cap gs := by obtain ⟨cur, h⟩ := h; exact ⟨cur, h.ext hx⟩
theorem RowU.set_ {w : World} {g cap : Nat} {gs : List Nat} (h : RowU w g cap gs) (k x : Nat) (_hk : k < gs.length) : RowU (w.setCell ⟨g, k, none⟩ (.int .u64 x)) g cap (gs.set k x) := by
  obtain ⟨cur, h⟩ := h
  have h1 := h.blk.set_ k (.int .u64 x)
  rw [List.setIfInBounds_toArray] at h1
  refine ⟨cur.set k (.int .u64 x), h1, by simp [ucells], by simpa using h.le, h.big, by simpa using h.full, ?_⟩
  rw [List.length_set, List.take_set, h.take]; simp [ucells, List.map_set]
end Go.Proofs.YtikehdbkiplleaaGreatDoor

/- The walk over the program's difference of magnitudes. -/
namespace Go.Proofs.YtikehdbkiplleaaGreatDoor
open Go.RowKit
attribute [local go_sem] size_bs toList_bs

def MagEnds (n : Nat) (w : World) (e : Ending) (w' : World) : Prop :=
  ∃ A c, e = .returned (.slice A (gr n).length c) ∧ RdU w' A (gr n) ∧ Ext w w' ∧ (gr n).length ≤ c ∧ c ≤ maxLen
theorem cut_mixed {x y : Nat} (h : y ≤ x) : cutL ((List.range (gr x).length).map (mi (at0 (gr x)) (at0 (gr y)))) = gr (x - y) := by
  have hl : (gr y).length ≤ (gr x).length := by
    rcases Nat.lt_or_ge (gr x).length (gr y).length with h1 | h1
    · have := gr_shorter h1; omega
    · exact h1
  have ha := at0_bd (gr_lt x)
  have hb := at0_bd (gr_lt y)
  have e1 : gsum (at0 (gr x)) (gr x).length = x := by rw [← gval_gsum _ _ (Nat.le_refl _), gval_gr]
  have e2 : gsum (at0 (gr y)) (gr x).length = y := by rw [← gval_gsum _ _ hl, gval_gr]
  rw [cutL_gr (by intro g hg; obtain ⟨k, _, rfl⟩ := List.mem_map.1 hg; exact mi_lt ha hb k), gval_range, minus_val ha hb (by rw [e1, e2]; exact h), e1, e2]
theorem RowU.put {w : World} {g cap : Nat} {gs : List Nat} (h : RowU w g cap gs) (k : Nat) (z : Int) (x : Nat) (hk : k < gs.length) (hz : z = (x : Int)) : RowU (w.setCell ⟨g, k, none⟩ (.int .u64 z)) g cap (gs.set k x) := by
  subst hz; exact h.set_ k x hk
theorem RowU.step1 {w : World} {g cap : Nat} {gs : List Nat} {f : Nat → Nat} {k : Nat} (h : RowU w g cap (mixed f gs k)) (hk : k < gs.length) (z : Int) (hz : z = (f k : Nat)) : RowU (w.setCell ⟨g, k, none⟩ (.int .u64 z)) g cap (mixed f gs (k + 1)) := by
  rw [← mixed_set f gs k hk]; exact h.put k z (f k) (by rw [mixed_len f gs k (by omega)]; exact hk) hz
theorem RowU.step2 {w : World} {g cap : Nat} {gs : List Nat} {f : Nat → Nat} {k : Nat} (h : RowU w g cap (mixed f gs k)) (hk : k < gs.length) (z1 z : Int) (u : Nat) (h1 : z1 = (u : Int)) (hz : z = (f k : Nat)) : RowU ((w.setCell ⟨g, k, none⟩ (.int .u64 z1)).setCell ⟨g, k, none⟩ (.int .u64 z)) g cap (mixed f gs (k + 1)) := by
  have hl : k < (mixed f gs k).length := by rw [mixed_len f gs k (by omega)]; exact hk
  have := (h.put k z1 u hl h1).put k z (f k) (by rw [List.length_set]; exact hl) hz
  rw [List.set_set, mixed_set f gs k hk] at this; exact this
set_option maxRecDepth 100000 in
set_option maxHeartbeats 2000000 in
theorem intMinus (x y : Nat) (hle : y ≤ x) (A A' : Option Addr) (c c' : Nat) (w : World) (hA : RdU w A (gr x)) (hA' : RdU w A' (gr y)) (hn : (gr x).length ≤ 1000000) (_hn' : (gr y).length ≤ 1000000) :
    Calls Tryz.prog 118 #[.slice A (gr x).length c, .slice A' (gr y).length c'] w (MagEnds (x - y) w) := by
  have HA := Lib.hid hA
  have HA' := Lib.hid hA'
  have HCM := Lib.hid (cut_mixed hle)
  have HBX := Lib.hid (at0_bd (gr_lt x))
  have HBY := Lib.hid (at0_bd (gr_lt y))
  have HZX : Hid (gr x = [] → x - y = 0) := Lib.hid (fun h => by have : x = 0 := gr_inj (by rw [h, gr_zero]); omega)
  generalize x - y = d at *
  generalize gr x = gx at *
  generalize gr y = gy at *
  clear hA hA' hle
  go_enter Tryz.func118, Tryz.ntmps118
  go_wp2_with fail
  refine (cloneU gx A c _ HA.out hn).mono ?_
  rintro e w1 ⟨A1, c1, rfl, hown, hx1⟩
  rcases Nat.eq_zero_or_pos gx.length with h0 | h0
  · have h1 : gx = [] := List.length_eq_zero_iff.1 h0
    subst h1
    have HD : Hid (gr d = []) := Lib.hid (by rw [HZX.out rfl, gr_zero])
    have HOW := Lib.hid (own_cap hown)
    have HX1 := Lib.hid hx1
    have HRD := Lib.hid (show RdU w1 A1 [] from Reads.own hown)
    clear hown hx1 h0
    simp only [List.length_nil] at *
    go_wp2_with fail
    go_loopw [13, 6, 7, 8] (fun i _ _ _ wr => i = .int .i64 0 ∧ wr = w1) (fun _ _ _ _ _ => 0)
    case atStart => exact ⟨rfl, rfl⟩
    case round =>
      obtain ⟨rfl, rfl⟩ := hrel
      go_wp2_with fail
      refine (intCut [] A1 c1 _ HRD.out HOW.out.1 HOW.out.2 (by simp)).mono ?_
      rintro e w9 ⟨rfl, rfl⟩
      go_wp2_with fail
      go_ret
      exact ⟨A1, c1, by rw [HD.out]; rfl, by rw [HD.out]; exact HRD.out, HX1.out, by rw [HD.out]; simp, HOW.out.2⟩
  · obtain ⟨g, cap, e1, hg, hlt⟩ := hown.form h0
    injection e1 with e1 _ e3
    subst e1; subst e3
    obtain ⟨hgb, cur, hrow⟩ := Row.of_own hown
    have HROW : Hid (RowU w1 g c1 (mixed (mi (at0 gx) (at0 gy)) gx 0)) := Lib.hid (by rw [mixed_zero]; exact ⟨cur, hrow⟩)
    have HX1 := Lib.hid hx1
    clear hrow hown hx1
    go_wp2_with fail
    go_loopw [13, 6, 7, 8] (fun i bo _ _ wr => ∃ k : Nat, k ≤ gx.length ∧ i = .int .i64 k ∧ bo = .int .u64 (bw (at0 gx) (at0 gy) k : Nat) ∧ RowU wr g c1 (mixed (mi (at0 gx) (at0 gy)) gx k) ∧ Ext w wr) (fun i _ _ _ _ => gx.length - (intOf i).toNat)
    case atStart => exact ⟨0, by omega, rfl, rfl, HROW.out, HX1.out⟩
    case round =>
      obtain ⟨k, hk, rfl, rfl, hrow, hx⟩ := hrel
      have HR := Lib.hid hrow
      have HX := Lib.hid hx
      clear hrow hx
      by_cases hlt2 : k < gx.length
      · have hcell := HR.out.cell (mixed_at (mi (at0 gx) (at0 gy)) gx k hlt2)
        have hfz := HR.out.frozen k
        have hax := HBX.out k
        have hby := HBY.out k
        have hbw := bw_le (at0 gx) (at0 gy) k
        have HST := Lib.hid (mixed_set (mi (at0 gx) (at0 gy)) gx k hlt2)
        have HMI : Hid (mi (at0 gx) (at0 gy) k = if at0 gx k < at0 gy k + bw (at0 gx) (at0 gy) k then at0 gx k + B9 - (at0 gy k + bw (at0 gx) (at0 gy) k) else at0 gx k - (at0 gy k + bw (at0 gx) (at0 gy) k)) := Lib.hid rfl
        have HBW : Hid (bw (at0 gx) (at0 gy) (k + 1) = if at0 gx k < at0 gy k + bw (at0 gx) (at0 gy) k then 1 else 0) := Lib.hid rfl
        rw [← at0_lt hlt2] at hcell
        have e9 : B9 = 1000000000 := rfl
        rw [e9] at hax hby
        clear e9
        by_cases hk2 : k < gy.length
        · obtain ⟨b, o, rfl, hbb, hcy⟩ := (HA'.out.ext HX.out).at_ hk2
          rw [← at0_lt hk2] at hcy
          generalize hpa : at0 gx k = p at *
          generalize hqa : at0 gy k = q at *
          generalize hra : bw (at0 gx) (at0 gy) k = r at *
          clear hpa hqa hra
          by_cases hlt3 : (p : Int) < (r : Int) + (q : Int)
          · have HZ : Hid ((p : Int) + 1000000000 - ((r : Int) + (q : Int)) = (mi (at0 gx) (at0 gy) k : Nat)) := Lib.hid (by rw [HMI.out, if_pos (by omega), show B9 = 1000000000 from rfl]; omega)
            have HB1 : Hid (bw (at0 gx) (at0 gy) (k + 1) = 1) := Lib.hid (by rw [HBW.out, if_pos (by omega)])
            go_wp2_with fail
            exact ⟨⟨k + 1, by omega, by go_num, by rw [HB1.out]; rfl, RowU.step2 HR.out hlt2 _ _ (p + 1000000000) (by omega) HZ.out, (HX.out.setCell (p := ⟨g, k, none⟩) hgb _).setCell (p := ⟨g, k, none⟩) hgb _⟩, by simp [intOf]; omega⟩
          · have HZ : Hid ((p : Int) - ((r : Int) + (q : Int)) = (mi (at0 gx) (at0 gy) k : Nat)) := Lib.hid (by rw [HMI.out, if_neg (by omega)]; omega)
            have HB1 : Hid (bw (at0 gx) (at0 gy) (k + 1) = 0) := Lib.hid (by rw [HBW.out, if_neg (by omega)])
            go_wp2_with fail
            exact ⟨⟨k + 1, by omega, by go_num, by rw [HB1.out]; rfl, RowU.step1 HR.out hlt2 _ HZ.out, HX.out.setCell (p := ⟨g, k, none⟩) hgb _⟩, by simp [intOf]; omega⟩
        · have hq0 : at0 gy k = 0 := at0_ge (by omega)
          rw [hq0] at HMI HBW hby
          generalize hpa : at0 gx k = p at *
          generalize hra : bw (at0 gx) (at0 gy) k = r at *
          clear hpa hra hq0
          by_cases hlt3 : (p : Int) < (r : Int)
          · have HZ : Hid ((p : Int) + 1000000000 - ((r : Int)) = (mi (at0 gx) (at0 gy) k : Nat)) := Lib.hid (by rw [HMI.out, if_pos (by omega), show B9 = 1000000000 from rfl]; omega)
            have HB1 : Hid (bw (at0 gx) (at0 gy) (k + 1) = 1) := Lib.hid (by rw [HBW.out, if_pos (by omega)])
            go_wp2_with fail
            exact ⟨⟨k + 1, by omega, by go_num, by rw [HB1.out]; rfl, RowU.step2 HR.out hlt2 _ _ (p + 1000000000) (by omega) HZ.out, (HX.out.setCell (p := ⟨g, k, none⟩) hgb _).setCell (p := ⟨g, k, none⟩) hgb _⟩, by simp [intOf]; omega⟩
          · have HZ : Hid ((p : Int) - ((r : Int)) = (mi (at0 gx) (at0 gy) k : Nat)) := Lib.hid (by rw [HMI.out, if_neg (by omega)]; omega)
            have HB1 : Hid (bw (at0 gx) (at0 gy) (k + 1) = 0) := Lib.hid (by rw [HBW.out, if_neg (by omega)])
            go_wp2_with fail
            exact ⟨⟨k + 1, by omega, by go_num, by rw [HB1.out]; rfl, RowU.step1 HR.out hlt2 _ HZ.out, HX.out.setCell (p := ⟨g, k, none⟩) hgb _⟩, by simp [intOf]; omega⟩
      · have hkl : k = gx.length := by omega
        have HRD := Lib.hid (show RdU wr (some ⟨g, 0, none⟩) ((List.range gx.length).map (mi (at0 gx) (at0 gy))) by have := HR.out.reads; rw [hkl, mixed_end] at this; exact this)
        have HCP := Lib.hid (show ((List.range gx.length).map (mi (at0 gx) (at0 gy))).length ≤ c1 ∧ c1 ≤ maxLen by have := HR.out.caps; rw [hkl, mixed_end] at this; exact this)
        have HML : Hid (∀ z ∈ (List.range gx.length).map (mi (at0 gx) (at0 gy)), z < B9) := Lib.hid (by intro z hz; obtain ⟨j, _, rfl⟩ := List.mem_map.1 hz; exact mi_lt HBX.out HBY.out j)
        have hll : ((List.range gx.length).map (mi (at0 gx) (at0 gy))).length = gx.length := by simp
        have HCUT := Lib.hid (fun W (hW : RdU W (some ⟨g, 0, none⟩) _) => intCut ((List.range gx.length).map (mi (at0 gx) (at0 gy))) (some ⟨g, 0, none⟩) c1 W hW HCP.out.1 HCP.out.2 HML.out)
        rw [hll, HCM.out] at HCUT
        have HPR := Lib.hid (cutL_prefix ((List.range gx.length).map (mi (at0 gx) (at0 gy))))
        have HLE := Lib.hid (cutL_le ((List.range gx.length).map (mi (at0 gx) (at0 gy))))
        rw [HCM.out] at HPR HLE
        clear hll hkl
        generalize (List.range gx.length).map (mi (at0 gx) (at0 gy)) = fin at *
        go_wp2_with fail
        refine (HCUT.out _ HRD.out).mono ?_
        rintro e w9 ⟨rfl, rfl⟩
        go_wp2_with fail
        go_ret
        exact ⟨some ⟨g, 0, none⟩, c1, rfl, by rw [HPR.out]; exact HRD.out.take _, HX.out, by have := HCP.out.1; have := HLE.out; omega, HCP.out.2⟩
end Go.Proofs.YtikehdbkiplleaaGreatDoor

/- The walk over the program's sum of magnitudes. -/
namespace Go.Proofs.YtikehdbkiplleaaGreatDoor
open Go.RowKit
attribute [local go_sem] size_bs toList_bs

theorem gr_len_mono {x y : Nat} (h : x ≤ y) : (gr x).length ≤ (gr y).length := by
  rcases Nat.lt_or_ge (gr y).length (gr x).length with h1 | h1
  · have := gr_shorter h1; omega
  · exact h1
theorem plus_no {x y : Nat} (hl : (gr y).length ≤ (gr x).length) (hc : cy (at0 (gr x)) (at0 (gr y)) (gr x).length = 0) : (List.range (gr x).length).map (pl (at0 (gr x)) (at0 (gr y))) = gr (x + y) := by
  have e1 : gsum (at0 (gr x)) (gr x).length = x := by rw [← gval_gsum _ _ (Nat.le_refl _), gval_gr]
  have e2 : gsum (at0 (gr y)) (gr x).length = y := by rw [← gval_gsum _ _ hl, gval_gr]
  have hs := plus_sum (at0 (gr x)) (at0 (gr y)) (gr x).length
  rw [hc, e1, e2, Nat.zero_mul, Nat.add_zero] at hs
  have hcut : cutL ((List.range (gr x).length).map (pl (at0 (gr x)) (at0 (gr y)))) = gr (x + y) := by
    rw [cutL_gr (by intro g hg; obtain ⟨k, _, rfl⟩ := List.mem_map.1 hg; exact pl_lt _ _ k), gval_range, hs]
  have hp := cutL_prefix ((List.range (gr x).length).map (pl (at0 (gr x)) (at0 (gr y))))
  rw [hcut] at hp
  have hlen := gr_len_mono (show x ≤ x + y by omega)
  rw [List.take_of_length_le (by simp; exact hlen)] at hp
  exact hp.symm
theorem plus_yes {x y : Nat} (hl : (gr y).length ≤ (gr x).length) (hc : cy (at0 (gr x)) (at0 (gr y)) (gr x).length ≠ 0) : (List.range (gr x).length).map (pl (at0 (gr x)) (at0 (gr y))) ++ [cy (at0 (gr x)) (at0 (gr y)) (gr x).length] = gr (x + y) := by
  have e1 : gsum (at0 (gr x)) (gr x).length = x := by rw [← gval_gsum _ _ (Nat.le_refl _), gval_gr]
  have e2 : gsum (at0 (gr y)) (gr x).length = y := by rw [← gval_gsum _ _ hl, gval_gr]
  have hs := plus_sum (at0 (gr x)) (at0 (gr y)) (gr x).length
  rw [e1, e2] at hs
  have hb := cy_le (at0_bd (gr_lt x)) (at0_bd (gr_lt y)) (gr x).length
  have hg : gval ((List.range (gr x).length).map (pl (at0 (gr x)) (at0 (gr y))) ++ [cy (at0 (gr x)) (at0 (gr y)) (gr x).length]) = x + y := by
    rw [gval_snoc, gval_range, List.length_map, List.length_range, hs]
  rw [← hg]; symm
  apply gr_gval
  · intro g hg
    rcases List.mem_append.1 hg with h | h
    · obtain ⟨k, _, rfl⟩ := List.mem_map.1 h; exact pl_lt _ _ k
    · simp at h; subst h; have : (1 : Nat) < B9 := by decide
      omega
  · intro r g e
    have := List.append_inj' e rfl
    simp at this; rw [← this.2]; exact hc
theorem RowU.drew {w : World} {g cap : Nat} {gs : List Nat} (h : RowU w g cap gs) : RowU w.drew g cap gs := by obtain ⟨cur, h⟩ := h; exact ⟨cur, h.drew⟩
theorem RowU.step3 {w : World} {g cap : Nat} {gs : List Nat} {f : Nat → Nat} {k : Nat} (h : RowU w g cap (mixed f gs k)) (hk : k < gs.length) (z1 z2 z : Int) (u1 u2 : Nat) (h1 : z1 = (u1 : Int)) (h2 : z2 = (u2 : Int)) (hz : z = (f k : Nat)) :
    RowU ((((w.setCell ⟨g, k, none⟩ (.int .u64 z1)).setCell ⟨g, k, none⟩ (.int .u64 z2)).setCell ⟨g, k, none⟩ (.int .u64 z)).drew) g cap (mixed f gs (k + 1)) := by
  have hl : k < (mixed f gs k).length := by rw [mixed_len f gs k (by omega)]; exact hk
  have := ((h.put k z1 u1 hl h1).put k z2 u2 (by rw [List.length_set]; exact hl) h2).put k z (f k) (by rw [List.length_set, List.length_set]; exact hl) hz
  rw [List.set_set, List.set_set, mixed_set f gs k hk] at this; exact this.drew
set_option maxRecDepth 100000 in
set_option maxHeartbeats 2000000 in
theorem intPlusGe (x y : Nat) (A A' : Option Addr) (c c' : Nat) (w : World) (hl : (gr y).length ≤ (gr x).length) (hA : RdU w A (gr x)) (hA' : RdU w A' (gr y)) (hn : (gr x).length ≤ 1000000) :
    Calls Tryz.prog 117 #[.slice A (gr x).length c, .slice A' (gr y).length c'] w (MagEnds (x + y) w) := by
  have HA := Lib.hid hA
  have HA' := Lib.hid hA'
  have HN := Lib.hid (fun h => plus_no (x := x) (y := y) hl h)
  have HY := Lib.hid (fun h => plus_yes (x := x) (y := y) hl h)
  have HBX := Lib.hid (at0_bd (gr_lt x))
  have HBY := Lib.hid (at0_bd (gr_lt y))
  generalize x + y = d at *
  generalize gr x = gx at *
  generalize gr y = gy at *
  clear hA hA'
  obtain ⟨i0, hI, hz0, hz1, hz2⟩ := info_parts u64Info
  have hsz : (Tryz.prog.info? 114).map (·.size) = some 1 := by rw [hI]; simp [hz1]
  have hlt : ¬ gx.length < gy.length := by omega
  obtain ⟨ROW, hRW, hmk⟩ : ∃ ROW : List Value, ROW.length = gx.length + 1 ∧ (Instr.makeSlice 79 (.int .i64 (gx.length : Int)) (.int .i64 ((gx.length : Int) + 1))).run Tryz.prog w = .ok (.slice (some ⟨w.heap.size, 0, none⟩) gx.length (gx.length + 1)) (w.alloc (.cells ROW.toArray 114)) := by
    have h := run_make (P := Tryz.prog) w 79 114 i0 _ Tryz.underlying79 hI hz0 .i64 .i64 (gx.length : Int) ((gx.length : Int) + 1) (by omega) (by omega) (by rw [hz2]; omega) (by omega)
    rw [hz1, show ((gx.length : Int) + 1).toNat = gx.length + 1 by omega, Int.toNat_natCast] at h
    exact ⟨(madeCells (Value.int .u64 0).cells ((gx.length + 1) * 1)).toList, by rw [Array.length_toList, size_madeCells]; simp, by rw [Array.toArray_toList]; exact h⟩
  have hR0 : Row (w.alloc (.cells ROW.toArray 114)) w.heap.size 114 1 0 (gx.length + 1) [] ROW := ⟨Blk.new w _ _, rfl, Nat.zero_le _, by unfold maxLen; omega, by rw [hRW]; simp, by simp⟩
  have hul : (ucells gx).length = gx.length := by simp [ucells]
  have hR1 : Row ((w.alloc (.cells ROW.toArray 114)).setCells w.heap.size 0 (ucells gx)) w.heap.size 114 1 gx.length (gx.length + 1) (ucells gx) (lsplice ROW 0 (ucells gx)) := hR0.put _ _ (by rw [hul]; omega) (by omega) (by rw [hul]; simp) (by unfold lsplice; simp [ucells])
  have hcp : ∀ ty, (Builtin.copy_ #[79, 79] ty #[.slice (some ⟨w.heap.size, 0, none⟩) gx.length (gx.length + 1), .slice A gx.length c]).run Tryz.prog (w.alloc (.cells ROW.toArray 114)) = .ok (goInt (gx.length : Nat)) ((w.alloc (.cells ROW.toArray 114)).setCells w.heap.size 0 (ucells gx)) := fun ty => by
    rcases Nat.eq_zero_or_pos gx.length with h0 | h0
    · have h1 : gx = [] := List.length_eq_zero_iff.1 h0
      subst h1
      exact run_copy_none _ _ _ ty 114 _ _ _ _ _ _ Tryz.underlying79 hsz rfl
    · obtain ⟨b, o, rfl, hb, hc⟩ := HA.out.2 h0
      exact run_copy_k _ _ _ ty 114 1 w.heap.size 0 gx.length (gx.length + 1) ⟨b, o, none⟩ gx.length c (ucells gx) Tryz.underlying79 hsz gx.length (Nat.min_self _) (by rw [hul]; simp)
        (fun j v hj => by rw [Addr.add_lit]; exact ((Ext.new w _).cell (p := ⟨b, o + j, none⟩) hb).trans (hc j v hj))
        (fun j hj => hR0.isSome_ (by rw [hul] at hj; omega)) (fun j _ => hR0.frozen _) (oneU gx)
  have HROW : Hid (RowU ((w.alloc (.cells ROW.toArray 114)).setCells w.heap.size 0 (ucells gx)) w.heap.size (gx.length + 1) (mixed (pl (at0 gx) (at0 gy)) gx 0)) := Lib.hid (by rw [mixed_zero]; exact ⟨_, hR1⟩)
  have HX1 : Hid (Ext w ((w.alloc (.cells ROW.toArray 114)).setCells w.heap.size 0 (ucells gx))) := Lib.hid (ext_sets _ _ _ () (Ext.new _ _) (Nat.le_refl _))
  have HI := Lib.hid hI
  clear hR0 hR1 hRW hul hsz hI
  generalize ucells gx = ucs at *
  go_enter Tryz.func117, Tryz.ntmps117
  go_wp2_with fail
  generalize (w.alloc (.cells ROW.toArray 114)).setCells w.heap.size 0 ucs = W0 at *
  clear hcp hmk
  go_loopw [26, 6, 7] (fun i ca _ wr => ∃ k : Nat, k ≤ gx.length ∧ i = .int .i64 k ∧ ca = .int .u64 (cy (at0 gx) (at0 gy) k : Nat) ∧ RowU wr w.heap.size (gx.length + 1) (mixed (pl (at0 gx) (at0 gy)) gx k) ∧ Ext w wr) (fun i _ _ _ => gx.length - (intOf i).toNat)
  case atStart => exact ⟨0, by omega, rfl, rfl, HROW.out, HX1.out⟩
  case round =>
    obtain ⟨k, hk, rfl, rfl, hrow, hx⟩ := hrel
    have HR := Lib.hid hrow
    have HX := Lib.hid hx
    clear hrow hx
    by_cases hlt2 : k < gx.length
    · have hcell := HR.out.cell (mixed_at (pl (at0 gx) (at0 gy)) gx k hlt2)
      have hfz := HR.out.frozen k
      have hgl := HR.out.lt
      have hax := HBX.out k
      have hby := HBY.out k
      have hcy := cy_le HBX.out HBY.out k
      have HPL : Hid (pl (at0 gx) (at0 gy) k = (at0 gx k + at0 gy k + cy (at0 gx) (at0 gy) k) % B9) := Lib.hid rfl
      have HCY : Hid (cy (at0 gx) (at0 gy) (k + 1) = (at0 gx k + at0 gy k + cy (at0 gx) (at0 gy) k) / B9) := Lib.hid rfl
      rw [← at0_lt hlt2] at hcell
      have e9 : B9 = 1000000000 := rfl
      rw [e9] at hax hby HPL HCY
      clear e9
      by_cases hk2 : k < gy.length
      · obtain ⟨b, o, rfl, hb0, hcy1⟩ := HA'.out.at_ hk2
        have hcb := (HX.out.cell (p := ⟨b, o + k, none⟩) hb0).trans hcy1
        have hbg : b ≠ w.heap.size := by omega
        have hbg' : w.heap.size ≠ b := by omega
        rw [← at0_lt hk2] at hcb
        generalize hpa : at0 gx k = p at *
        generalize hqa : at0 gy k = q at *
        generalize hra : cy (at0 gx) (at0 gy) k = r at *
        clear hpa hqa hra hcy1
        have HC1 : Hid (((p : Int) + (r : Int) + (q : Int)) / 1000000000 = (cy (at0 gx) (at0 gy) (k + 1) : Nat)) := Lib.hid (by rw [HCY.out]; omega)
        have HP1 : Hid (((p : Int) + (r : Int) + (q : Int)) % 1000000000 = (pl (at0 gx) (at0 gy) k : Nat)) := Lib.hid (by rw [HPL.out]; omega)
        go_wp2_with fail
        go_region
        go_wp2_with fail
        refine ⟨⟨k + 1, by omega, by go_num, by rw [HC1.out], ?_, ?_⟩, by simp [intOf]; omega⟩
        · exact RowU.step3 HR.out hlt2 _ _ _ (p + r) (p + r + q) (by omega) (by omega) HP1.out
        · exact (((HX.out.setCell (p := ⟨w.heap.size, k, none⟩) (Nat.le_refl _) _).setCell (p := ⟨w.heap.size, k, none⟩) (Nat.le_refl _) _).setCell (p := ⟨w.heap.size, k, none⟩) (Nat.le_refl _) _).drew
      · have hq0 : at0 gy k = 0 := at0_ge (by omega)
        rw [hq0] at HPL HCY hby
        generalize hpa : at0 gx k = p at *
        generalize hra : cy (at0 gx) (at0 gy) k = r at *
        clear hpa hra hq0
        have HC1 : Hid (((p : Int) + (r : Int)) / 1000000000 = (cy (at0 gx) (at0 gy) (k + 1) : Nat)) := Lib.hid (by rw [HCY.out]; omega)
        have HP1 : Hid (((p : Int) + (r : Int)) % 1000000000 = (pl (at0 gx) (at0 gy) k : Nat)) := Lib.hid (by rw [HPL.out]; omega)
        go_wp2_with fail
        exact ⟨⟨k + 1, by omega, by go_num, by rw [HC1.out], RowU.step2 HR.out hlt2 _ _ (p + r) (by omega) HP1.out, (HX.out.setCell (p := ⟨w.heap.size, k, none⟩) (Nat.le_refl _) _).setCell (p := ⟨w.heap.size, k, none⟩) (Nat.le_refl _) _⟩, by simp [intOf]; omega⟩
    · have hkl : k = gx.length := by omega
      have HRF : Hid (RowU wr w.heap.size (gx.length + 1) ((List.range gx.length).map (pl (at0 gx) (at0 gy)))) := Lib.hid (by have := HR.out; rw [hkl, mixed_end] at this; exact this)
      subst hkl
      by_cases hc0 : cy (at0 gx) (at0 gy) gx.length = 0
      · have HG := Lib.hid (HN.out hc0)
        rw [hc0]
        have hll : ((List.range gx.length).map (pl (at0 gx) (at0 gy))).length = gx.length := by simp
        have HGL : Hid ((gr d).length = gx.length) := Lib.hid (by rw [← HG.out]; exact hll)
        clear hc0 hll
        go_wp2_with fail
        go_ret
        exact ⟨some ⟨w.heap.size, 0, none⟩, gx.length + 1, by rw [HGL.out]; rfl, by rw [← HG.out]; exact HRF.out.reads, HX.out, by rw [HGL.out]; omega, by unfold maxLen; omega⟩
      · have HG := Lib.hid (HY.out hc0)
        obtain ⟨cur, hrw⟩ := HRF.out
        have hll : ((List.range gx.length).map (pl (at0 gx) (at0 gy))).length = gx.length := by simp
        rw [hll] at hrw
        have HOW := Lib.hid (hrw.own (base := w.heap.size) (Nat.le_refl _))
        have hgl := hrw.blk.lt
        generalize (List.range gx.length).map (pl (at0 gx) (at0 gy)) = fin at *
        generalize cy (at0 gx) (at0 gy) gx.length = r at *
        have hr0 : 0 < r := by omega
        have HFL : Hid (fin.length = gx.length) := Lib.hid hll
        clear hrw hll hc0
        go_wp2_with (at_builtin; refine wpList_append_lies _ rfl (.tmp 64) (.tmp 66) 79 rfl w.heap.size 114 i0 _ 1 8 Tryz.underlying79 HI.out hz0 hz1 hz2 rfl (by decide) _ gx.length (ucells fin) rfl (own_ext2 HOW.out (Ext.new _ _)) ⟨wr.heap.size, 0, none⟩ 1 1 [.int .u64 r] rfl rfl (World.news_of_block (heap_alloc_new wr _)) (by simp [Value.oneCell']) (by omega) (by simp only [maxLen]; omega) (by omega) (by simp; omega) _ rfl ?_; intro g' cap' w' hown hgrow hat hlt')
        go_ret
        have hcp := own_cap hown
        have hrd : RdU w' (some ⟨g', 0, none⟩) (fin ++ [r]) := by
          have := Reads.own hown
          unfold RdU; rw [List.length_append, HFL.out]; simpa [ucells] using this
        rw [HG.out] at hrd
        have hgd : (gr d).length = gx.length + 1 := by rw [← HG.out, List.length_append, HFL.out]; rfl
        exact ⟨some ⟨g', 0, none⟩, cap', by rw [hgd]; rfl, hrd, Ext.grown (HX.out.trans (Ext.new _ _)) hgrow (fun k hk => by have := own_base HOW.out k hk; omega), by rw [hgd]; exact hcp.1, hcp.2⟩
set_option maxRecDepth 100000 in
set_option maxHeartbeats 2000000 in
theorem intPlusLt (x y : Nat) (A A' : Option Addr) (c c' : Nat) (w : World) (hl' : (gr y).length < (gr x).length) (hA : RdU w A (gr x)) (hA' : RdU w A' (gr y)) (hn : (gr x).length ≤ 1000000) :
    Calls Tryz.prog 117 #[.slice A' (gr y).length c', .slice A (gr x).length c] w (MagEnds (x + y) w) := by
  have hl : (gr y).length ≤ (gr x).length := by omega
  have HA := Lib.hid hA
  have HA' := Lib.hid hA'
  have HN := Lib.hid (fun h => plus_no (x := x) (y := y) hl h)
  have HY := Lib.hid (fun h => plus_yes (x := x) (y := y) hl h)
  have HBX := Lib.hid (at0_bd (gr_lt x))
  have HBY := Lib.hid (at0_bd (gr_lt y))
  generalize x + y = d at *
  generalize gr x = gx at *
  generalize gr y = gy at *
  clear hA hA'
  obtain ⟨i0, hI, hz0, hz1, hz2⟩ := info_parts u64Info
  have hsz : (Tryz.prog.info? 114).map (·.size) = some 1 := by rw [hI]; simp [hz1]
  have hlt : gy.length < gx.length := by omega
  obtain ⟨ROW, hRW, hmk⟩ : ∃ ROW : List Value, ROW.length = gx.length + 1 ∧ (Instr.makeSlice 79 (.int .i64 (gx.length : Int)) (.int .i64 ((gx.length : Int) + 1))).run Tryz.prog w = .ok (.slice (some ⟨w.heap.size, 0, none⟩) gx.length (gx.length + 1)) (w.alloc (.cells ROW.toArray 114)) := by
    have h := run_make (P := Tryz.prog) w 79 114 i0 _ Tryz.underlying79 hI hz0 .i64 .i64 (gx.length : Int) ((gx.length : Int) + 1) (by omega) (by omega) (by rw [hz2]; omega) (by omega)
    rw [hz1, show ((gx.length : Int) + 1).toNat = gx.length + 1 by omega, Int.toNat_natCast] at h
    exact ⟨(madeCells (Value.int .u64 0).cells ((gx.length + 1) * 1)).toList, by rw [Array.length_toList, size_madeCells]; simp, by rw [Array.toArray_toList]; exact h⟩
  have hR0 : Row (w.alloc (.cells ROW.toArray 114)) w.heap.size 114 1 0 (gx.length + 1) [] ROW := ⟨Blk.new w _ _, rfl, Nat.zero_le _, by unfold maxLen; omega, by rw [hRW]; simp, by simp⟩
  have hul : (ucells gx).length = gx.length := by simp [ucells]
  have hR1 : Row ((w.alloc (.cells ROW.toArray 114)).setCells w.heap.size 0 (ucells gx)) w.heap.size 114 1 gx.length (gx.length + 1) (ucells gx) (lsplice ROW 0 (ucells gx)) := hR0.put _ _ (by rw [hul]; omega) (by omega) (by rw [hul]; simp) (by unfold lsplice; simp [ucells])
  have hcp : ∀ ty, (Builtin.copy_ #[79, 79] ty #[.slice (some ⟨w.heap.size, 0, none⟩) gx.length (gx.length + 1), .slice A gx.length c]).run Tryz.prog (w.alloc (.cells ROW.toArray 114)) = .ok (goInt (gx.length : Nat)) ((w.alloc (.cells ROW.toArray 114)).setCells w.heap.size 0 (ucells gx)) := fun ty => by
    rcases Nat.eq_zero_or_pos gx.length with h0 | h0
    · have h1 : gx = [] := List.length_eq_zero_iff.1 h0
      subst h1
      exact run_copy_none _ _ _ ty 114 _ _ _ _ _ _ Tryz.underlying79 hsz rfl
    · obtain ⟨b, o, rfl, hb, hc⟩ := HA.out.2 h0
      exact run_copy_k _ _ _ ty 114 1 w.heap.size 0 gx.length (gx.length + 1) ⟨b, o, none⟩ gx.length c (ucells gx) Tryz.underlying79 hsz gx.length (Nat.min_self _) (by rw [hul]; simp)
        (fun j v hj => by rw [Addr.add_lit]; exact ((Ext.new w _).cell (p := ⟨b, o + j, none⟩) hb).trans (hc j v hj))
        (fun j hj => hR0.isSome_ (by rw [hul] at hj; omega)) (fun j _ => hR0.frozen _) (oneU gx)
  have HROW : Hid (RowU ((w.alloc (.cells ROW.toArray 114)).setCells w.heap.size 0 (ucells gx)) w.heap.size (gx.length + 1) (mixed (pl (at0 gx) (at0 gy)) gx 0)) := Lib.hid (by rw [mixed_zero]; exact ⟨_, hR1⟩)
  have HX1 : Hid (Ext w ((w.alloc (.cells ROW.toArray 114)).setCells w.heap.size 0 (ucells gx))) := Lib.hid (ext_sets _ _ _ () (Ext.new _ _) (Nat.le_refl _))
  have HI := Lib.hid hI
  clear hR0 hR1 hRW hul hsz hI
  generalize ucells gx = ucs at *
  go_enter Tryz.func117, Tryz.ntmps117
  go_wp2_with fail
  generalize (w.alloc (.cells ROW.toArray 114)).setCells w.heap.size 0 ucs = W0 at *
  clear hcp hmk
  go_loopw [26, 6, 7] (fun i ca _ wr => ∃ k : Nat, k ≤ gx.length ∧ i = .int .i64 k ∧ ca = .int .u64 (cy (at0 gx) (at0 gy) k : Nat) ∧ RowU wr w.heap.size (gx.length + 1) (mixed (pl (at0 gx) (at0 gy)) gx k) ∧ Ext w wr) (fun i _ _ _ => gx.length - (intOf i).toNat)
  case atStart => exact ⟨0, by omega, rfl, rfl, HROW.out, HX1.out⟩
  case round =>
    obtain ⟨k, hk, rfl, rfl, hrow, hx⟩ := hrel
    have HR := Lib.hid hrow
    have HX := Lib.hid hx
    clear hrow hx
    by_cases hlt2 : k < gx.length
    · have hcell := HR.out.cell (mixed_at (pl (at0 gx) (at0 gy)) gx k hlt2)
      have hfz := HR.out.frozen k
      have hgl := HR.out.lt
      have hax := HBX.out k
      have hby := HBY.out k
      have hcy := cy_le HBX.out HBY.out k
      have HPL : Hid (pl (at0 gx) (at0 gy) k = (at0 gx k + at0 gy k + cy (at0 gx) (at0 gy) k) % B9) := Lib.hid rfl
      have HCY : Hid (cy (at0 gx) (at0 gy) (k + 1) = (at0 gx k + at0 gy k + cy (at0 gx) (at0 gy) k) / B9) := Lib.hid rfl
      rw [← at0_lt hlt2] at hcell
      have e9 : B9 = 1000000000 := rfl
      rw [e9] at hax hby HPL HCY
      clear e9
      by_cases hk2 : k < gy.length
      · obtain ⟨b, o, rfl, hb0, hcy1⟩ := HA'.out.at_ hk2
        have hcb := (HX.out.cell (p := ⟨b, o + k, none⟩) hb0).trans hcy1
        have hbg : b ≠ w.heap.size := by omega
        have hbg' : w.heap.size ≠ b := by omega
        rw [← at0_lt hk2] at hcb
        generalize hpa : at0 gx k = p at *
        generalize hqa : at0 gy k = q at *
        generalize hra : cy (at0 gx) (at0 gy) k = r at *
        clear hpa hqa hra hcy1
        have HC1 : Hid (((p : Int) + (r : Int) + (q : Int)) / 1000000000 = (cy (at0 gx) (at0 gy) (k + 1) : Nat)) := Lib.hid (by rw [HCY.out]; omega)
        have HP1 : Hid (((p : Int) + (r : Int) + (q : Int)) % 1000000000 = (pl (at0 gx) (at0 gy) k : Nat)) := Lib.hid (by rw [HPL.out]; omega)
        go_wp2_with fail
        go_region
        go_wp2_with fail
        refine ⟨⟨k + 1, by omega, by go_num, by rw [HC1.out], ?_, ?_⟩, by simp [intOf]; omega⟩
        · exact RowU.step3 HR.out hlt2 _ _ _ (p + r) (p + r + q) (by omega) (by omega) HP1.out
        · exact (((HX.out.setCell (p := ⟨w.heap.size, k, none⟩) (Nat.le_refl _) _).setCell (p := ⟨w.heap.size, k, none⟩) (Nat.le_refl _) _).setCell (p := ⟨w.heap.size, k, none⟩) (Nat.le_refl _) _).drew
      · have hq0 : at0 gy k = 0 := at0_ge (by omega)
        rw [hq0] at HPL HCY hby
        generalize hpa : at0 gx k = p at *
        generalize hra : cy (at0 gx) (at0 gy) k = r at *
        clear hpa hra hq0
        have HC1 : Hid (((p : Int) + (r : Int)) / 1000000000 = (cy (at0 gx) (at0 gy) (k + 1) : Nat)) := Lib.hid (by rw [HCY.out]; omega)
        have HP1 : Hid (((p : Int) + (r : Int)) % 1000000000 = (pl (at0 gx) (at0 gy) k : Nat)) := Lib.hid (by rw [HPL.out]; omega)
        go_wp2_with fail
        exact ⟨⟨k + 1, by omega, by go_num, by rw [HC1.out], RowU.step2 HR.out hlt2 _ _ (p + r) (by omega) HP1.out, (HX.out.setCell (p := ⟨w.heap.size, k, none⟩) (Nat.le_refl _) _).setCell (p := ⟨w.heap.size, k, none⟩) (Nat.le_refl _) _⟩, by simp [intOf]; omega⟩
    · have hkl : k = gx.length := by omega
      have HRF : Hid (RowU wr w.heap.size (gx.length + 1) ((List.range gx.length).map (pl (at0 gx) (at0 gy)))) := Lib.hid (by have := HR.out; rw [hkl, mixed_end] at this; exact this)
      subst hkl
      by_cases hc0 : cy (at0 gx) (at0 gy) gx.length = 0
      · have HG := Lib.hid (HN.out hc0)
        rw [hc0]
        have hll : ((List.range gx.length).map (pl (at0 gx) (at0 gy))).length = gx.length := by simp
        have HGL : Hid ((gr d).length = gx.length) := Lib.hid (by rw [← HG.out]; exact hll)
        clear hc0 hll
        go_wp2_with fail
        go_ret
        exact ⟨some ⟨w.heap.size, 0, none⟩, gx.length + 1, by rw [HGL.out]; rfl, by rw [← HG.out]; exact HRF.out.reads, HX.out, by rw [HGL.out]; omega, by unfold maxLen; omega⟩
      · have HG := Lib.hid (HY.out hc0)
        obtain ⟨cur, hrw⟩ := HRF.out
        have hll : ((List.range gx.length).map (pl (at0 gx) (at0 gy))).length = gx.length := by simp
        rw [hll] at hrw
        have HOW := Lib.hid (hrw.own (base := w.heap.size) (Nat.le_refl _))
        have hgl := hrw.blk.lt
        generalize (List.range gx.length).map (pl (at0 gx) (at0 gy)) = fin at *
        generalize cy (at0 gx) (at0 gy) gx.length = r at *
        have hr0 : 0 < r := by omega
        have HFL : Hid (fin.length = gx.length) := Lib.hid hll
        clear hrw hll hc0
        go_wp2_with (at_builtin; refine wpList_append_lies _ rfl (.tmp 64) (.tmp 66) 79 rfl w.heap.size 114 i0 _ 1 8 Tryz.underlying79 HI.out hz0 hz1 hz2 rfl (by decide) _ gx.length (ucells fin) rfl (own_ext2 HOW.out (Ext.new _ _)) ⟨wr.heap.size, 0, none⟩ 1 1 [.int .u64 r] rfl rfl (World.news_of_block (heap_alloc_new wr _)) (by simp [Value.oneCell']) (by omega) (by simp only [maxLen]; omega) (by omega) (by simp; omega) _ rfl ?_; intro g' cap' w' hown hgrow hat hlt')
        go_ret
        have hcp := own_cap hown
        have hrd : RdU w' (some ⟨g', 0, none⟩) (fin ++ [r]) := by
          have := Reads.own hown
          unfold RdU; rw [List.length_append, HFL.out]; simpa [ucells] using this
        rw [HG.out] at hrd
        have hgd : (gr d).length = gx.length + 1 := by rw [← HG.out, List.length_append, HFL.out]; rfl
        exact ⟨some ⟨g', 0, none⟩, cap', by rw [hgd]; rfl, hrd, Ext.grown (HX.out.trans (Ext.new _ _)) hgrow (fun k hk => by have := own_base HOW.out k hk; omega), by rw [hgd]; exact hcp.1, hcp.2⟩
theorem intPlus (x y : Nat) (A A' : Option Addr) (c c' : Nat) (w : World) (hA : RdU w A (gr x)) (hA' : RdU w A' (gr y)) (hn : (gr x).length ≤ 1000000) (hn' : (gr y).length ≤ 1000000) :
    Calls Tryz.prog 117 #[.slice A (gr x).length c, .slice A' (gr y).length c'] w (MagEnds (x + y) w) := by
  rcases Nat.lt_or_ge (gr x).length (gr y).length with h | h
  · rw [Nat.add_comm]; exact intPlusLt y x A' A c' c w h hA' hA hn'
  · exact intPlusGe x y A A' c c' w h hA hA' hn
end Go.Proofs.YtikehdbkiplleaaGreatDoor

/- The walk over the program's sum of numbers. -/
namespace Go.Proofs.YtikehdbkiplleaaGreatDoor
open Go.RowKit
attribute [local go_sem] size_bs toList_bs

theorem blk_at (w : World) (t : TypeId) (cs : Array Value) (g : Nat) (hg : w.heap.size = g) : Blk (w.alloc (.cells cs t)) g t cs := by subst hg; exact Blk.new w t cs
theorem RdU.far {w : World} {A : Option Addr} {gs : List Nat} (h : RdU w A gs) {g i : Nat} (u : Value) (hne : 0 < gs.length → ∀ b o, A = some ⟨b, o, none⟩ → b ≠ g) : RdU (w.setCell ⟨g, i, none⟩ u) A gs := by
  refine ⟨h.1, fun hn => ?_⟩
  obtain ⟨b, o, rfl, hb, hc⟩ := h.2 hn
  have hbg := hne hn b o rfl
  refine ⟨b, o, rfl, by simpa [World.setCell] using hb, fun j v hv => ?_⟩
  rw [← hc j v hv]
  unfold World.cell?
  rw [Below.heap_setCell w ⟨g, i, none⟩ u b hbg]
/-- groups don't lie in a box that holds a number -/
theorem RdU.box {w : World} {A : Option Addr} {gs : List Nat} (h : RdU w A gs) {g : Nat} {t : TypeId} {x : Bool} {B : Option Addr} {n c : Nat} (hb : Blk w g t #[.bool x, .slice B n c]) : 0 < gs.length → ∀ b o, A = some ⟨b, o, none⟩ → b ≠ g := by
  intro hn b o e hbg
  subst e; subst hbg
  have h0 := Reads.cell h (j := 0) (u := .int .u64 (gs[0]'hn)) (by simp [ucells, hn])
  rw [Nat.add_zero, hb.cell o] at h0
  match o, h0 with
  | 0, h0 => simp at h0
  | 1, h0 => simp at h0
  | o + 2, h0 => simp at h0
def sgn (b : Bool) (n : Nat) : Int := if b then -(n : Int) else n
def AddEnds (z : Int) (w : World) (e : Ending) (w' : World) : Prop :=
  ∃ b n A c, e = .returned (.agg #[.bool b, .slice A (gr n).length c]) ∧ sgn b n = z ∧ RdU w' A (gr n) ∧ Ext w w' ∧ (gr n).length ≤ c ∧ c ≤ maxLen
set_option maxRecDepth 100000 in
set_option maxHeartbeats 2000000 in
theorem intAdd_same (b : Bool) (x y : Nat) (A A' : Option Addr) (c c' : Nat) (w : World) (hA : RdU w A (gr x)) (hA' : RdU w A' (gr y)) (hn : (gr x).length ≤ 1000000) (hn' : (gr y).length ≤ 1000000) :
    Calls Tryz.prog 71 #[.agg #[.bool b, .slice A (gr x).length c], .agg #[.bool b, .slice A' (gr y).length c']] w (AddEnds (sgn b x + sgn b y) w) := by
  have HA := Lib.hid hA
  have HA' := Lib.hid hA'
  have HPL := Lib.hid (fun W h1 h2 => intPlus x y A A' c c' W h1 h2 hn hn')
  have HS : Hid (sgn b (x + y) = sgn b x + sgn b y) := Lib.hid (by unfold sgn; cases b <;> simp; omega)
  generalize gr x = gx at *
  generalize gr y = gy at *
  clear hA hA'
  have HX0 : Hid (Ext w (((w.alloc (.cells #[.bool b, .slice A gx.length c] 81)).alloc (.cells #[.bool b, .slice A' gy.length c'] 81)).alloc (.cells #[.bool false, .slice none 0 0] 81))) := Lib.hid (((Ext.new _ _).alloc _).alloc _)
  have HBR := Lib.hid (blk_at ((w.alloc (.cells #[.bool b, .slice A gx.length c] 81)).alloc (.cells #[.bool b, .slice A' gy.length c'] 81)) 81 #[.bool false, .slice none 0 0] (w.heap.size + 1 + 1) (by simp))
  have hn1 : w.heap.size ≠ w.heap.size + 1 + 1 := by omega
  have hn2 : w.heap.size + 1 + 1 ≠ w.heap.size := by omega
  have hn3 : ¬ (w.heap.size = w.heap.size + 1 + 1) := by omega
  go_enter Tryz.func71, Tryz.ntmps71
  go_wp2_with fail
  go_region_held3 (fun w' => w'.cell? ⟨w.heap.size, 0, none⟩ = some (.bool b) ∧ w'.cell? ⟨w.heap.size, 1, none⟩ = some (.slice A gx.length c) ∧ w'.cell? ⟨w.heap.size + 1, 1, none⟩ = some (.slice A' gy.length c'))
    (go_keep)
    (first
      | (go_at_call 117; refine (HPL.out _ (HA.out.ext HX0.out.drew) (HA'.out.ext HX0.out.drew)).mono ?_; rintro e w1 ⟨A1, c1, rfl, hrd, hx1, hc1, hc2⟩; have hbr := HBR.out.drew.ext hx1; have hq0 := hbr.cell 0; have hq1 := hbr.cell 1; have hf0 := hbr.frozen 0; have hf1 := hbr.frozen 1; have hbx := ((((blk_at w 81 #[.bool b, .slice A gx.length c] w.heap.size rfl).alloc (.cells #[.bool b, .slice A' gy.length c'] 81)).alloc (.cells #[.bool false, .slice none 0 0] 81)).drew).ext hx1; have hy0 := hbx.cell 0; have hy1 := hbx.cell 1; have hby := (((blk_at (w.alloc (.cells #[.bool b, .slice A gx.length c] 81)) 81 #[.bool b, .slice A' gy.length c'] (w.heap.size + 1) (by simp)).alloc (.cells #[.bool false, .slice none 0 0] 81)).drew).ext hx1; have hz1 := hby.cell 1; simp only [List.getElem?_toArray, List.getElem?_cons_zero, List.getElem?_cons_succ] at hq0 hq1 hy0 hy1 hz1; have HBR1 := Lib.hid hbr; have HX1 := Lib.hid (HX0.out.drew.trans hx1); have HRD := Lib.hid hrd; have HC := Lib.hid (And.intro hc1 hc2); clear hbr hbx hby hx1 hrd hc1 hc2))
  all_goals
    go_wp2_with fail
    refine bodyPost_ret (results_num rfl _ _ (w.heap.size + 1 + 1) (.bool b) (.slice A1 (gr (x + y)).length c1) rfl ((HBR1.out.set_ 0 (.bool b)).set_ 1 (.slice A1 (gr (x + y)).length c1))) rfl ?_
    have hne := HRD.out.box HBR1.out
    exact ⟨b, x + y, A1, c1, rfl, HS.out, (HRD.out.far (.bool b) hne).far _ hne, (HX1.out.setCell (p := ⟨w.heap.size + 1 + 1, 0, none⟩) (by show w.heap.size ≤ w.heap.size + 1 + 1; omega) _).setCell (p := ⟨w.heap.size + 1 + 1, 1, none⟩) (by show w.heap.size ≤ w.heap.size + 1 + 1; omega) _, HC.out.1, HC.out.2⟩
end Go.Proofs.YtikehdbkiplleaaGreatDoor

/- The walk over the program's sum of numbers of different signs. -/
namespace Go.Proofs.YtikehdbkiplleaaGreatDoor
open Go.RowKit
attribute [local go_sem] size_bs toList_bs

set_option maxRecDepth 100000 in
set_option maxHeartbeats 2000000 in
theorem intAdd_diff (b : Bool) (x y : Nat) (A A' : Option Addr) (c c' : Nat) (w : World) (hA : RdU w A (gr x)) (hA' : RdU w A' (gr y)) (hn : (gr x).length ≤ 1000000) (hn' : (gr y).length ≤ 1000000) :
    Calls Tryz.prog 71 #[.agg #[.bool b, .slice A (gr x).length c], .agg #[.bool (!b), .slice A' (gr y).length c']] w (AddEnds (sgn b x + sgn (!b) y) w) := by
  have HA := Lib.hid hA
  have HA' := Lib.hid hA'
  have HCP := Lib.hid (fun W h1 h2 => intCompare x y A A' c c' W h1 h2 hn hn')
  have HM1 := Lib.hid (fun h W h1 h2 => intMinus x y h A A' c c' W h1 h2 hn hn')
  have HM2 := Lib.hid (fun h W h1 h2 => intMinus y x h A' A c' c W h1 h2 hn' hn)
  have HS1 : Hid (y ≤ x → sgn b (x - y) = sgn b x + sgn (!b) y) := Lib.hid (by intro h; unfold sgn; cases b <;> simp <;> omega)
  have HS2 : Hid (x ≤ y → sgn (!b) (y - x) = sgn b x + sgn (!b) y) := Lib.hid (by intro h; unfold sgn; cases b <;> simp <;> omega)
  generalize gr x = gx at *
  generalize gr y = gy at *
  clear hA hA'
  have hbb : (b == !b) = false := by cases b <;> rfl
  generalize hnb : (!b) = nb at *
  clear hnb
  have HX0 : Hid (Ext w (((w.alloc (.cells #[.bool b, .slice A gx.length c] 81)).alloc (.cells #[.bool nb, .slice A' gy.length c'] 81)).alloc (.cells #[.bool false, .slice none 0 0] 81))) := Lib.hid (((Ext.new _ _).alloc _).alloc _)
  have HBR := Lib.hid (blk_at ((w.alloc (.cells #[.bool b, .slice A gx.length c] 81)).alloc (.cells #[.bool nb, .slice A' gy.length c'] 81)) 81 #[.bool false, .slice none 0 0] (w.heap.size + 1 + 1) (by simp))
  have HBX := Lib.hid (((blk_at w 81 #[.bool b, .slice A gx.length c] w.heap.size rfl).alloc (.cells #[.bool nb, .slice A' gy.length c'] 81)).alloc (.cells #[.bool false, .slice none 0 0] 81))
  have HBY := Lib.hid ((blk_at (w.alloc (.cells #[.bool b, .slice A gx.length c] 81)) 81 #[.bool nb, .slice A' gy.length c'] (w.heap.size + 1) (by simp)).alloc (.cells #[.bool false, .slice none 0 0] 81))
  have hn1 : w.heap.size ≠ w.heap.size + 1 + 1 := by omega
  have hn2 : w.heap.size + 1 + 1 ≠ w.heap.size := by omega
  have hn3 : ¬ (w.heap.size = w.heap.size + 1 + 1) := by omega
  go_enter Tryz.func71, Tryz.ntmps71
  go_wp2_with fail
  refine (HCP.out _ (HA.out.ext HX0.out) (HA'.out.ext HX0.out)).mono ?_
  rintro e w1 ⟨hx1, r, rfl, hcase⟩
  have hbx := HBX.out.ext hx1
  have hby := HBY.out.ext hx1
  have hbr := HBR.out.ext hx1
  have x0 := hbx.cell 0
  have x1 := hbx.cell 1
  have y0 := hby.cell 0
  have y1 := hby.cell 1
  have xf0 := hbx.frozen 0
  have xf1 := hbx.frozen 1
  have yf0 := hby.frozen 0
  have yf1 := hby.frozen 1
  simp only [List.getElem?_toArray, List.getElem?_cons_zero, List.getElem?_cons_succ] at x0 x1 y0 y1
  have HX1 := Lib.hid (HX0.out.trans hx1)
  have HBX1 := Lib.hid hbx
  have HBY1 := Lib.hid hby
  have HBR1 := Lib.hid hbr
  clear hbx hby hbr hx1 HX0 HBX HBY HBR
  by_cases hr : r < 0
  · have hle : x ≤ y := by omega
    have HM := Lib.hid (HM2.out hle)
    have HS := Lib.hid (HS2.out hle)
    clear hcase hle
    have HBXW : Hid (Blk ((((w1.setCell ⟨w.heap.size, 0, none⟩ (.bool nb)).setCell ⟨w.heap.size, 1, none⟩ (.slice A' gy.length c')).setCell ⟨w.heap.size + 1, 0, none⟩ (.bool b)).setCell ⟨w.heap.size + 1, 1, none⟩ (.slice A gx.length c)) w.heap.size 81 #[.bool nb, .slice A' gy.length c']) := Lib.hid ((((HBX1.out.set_ 0 (.bool nb)).set_ 1 (.slice A' gy.length c')).far (p := ⟨w.heap.size + 1, 0, none⟩) (by show w.heap.size ≠ w.heap.size + 1; omega) _).far (p := ⟨w.heap.size + 1, 1, none⟩) (by show w.heap.size ≠ w.heap.size + 1; omega) _)
    have HBYW : Hid (Blk ((((w1.setCell ⟨w.heap.size, 0, none⟩ (.bool nb)).setCell ⟨w.heap.size, 1, none⟩ (.slice A' gy.length c')).setCell ⟨w.heap.size + 1, 0, none⟩ (.bool b)).setCell ⟨w.heap.size + 1, 1, none⟩ (.slice A gx.length c)) (w.heap.size + 1) 81 #[.bool b, .slice A gx.length c]) := Lib.hid ((((HBY1.out.far (p := ⟨w.heap.size, 0, none⟩) (by show w.heap.size + 1 ≠ w.heap.size; omega) (.bool nb)).far (p := ⟨w.heap.size, 1, none⟩) (by show w.heap.size + 1 ≠ w.heap.size; omega) (.slice A' gy.length c')).set_ 0 (.bool b)).set_ 1 (.slice A gx.length c))
    have HBRW : Hid (Blk ((((w1.setCell ⟨w.heap.size, 0, none⟩ (.bool nb)).setCell ⟨w.heap.size, 1, none⟩ (.slice A' gy.length c')).setCell ⟨w.heap.size + 1, 0, none⟩ (.bool b)).setCell ⟨w.heap.size + 1, 1, none⟩ (.slice A gx.length c)) (w.heap.size + 1 + 1) 81 #[.bool false, .slice none 0 0]) := Lib.hid ((((HBR1.out.far (p := ⟨w.heap.size, 0, none⟩) (by show w.heap.size + 1 + 1 ≠ w.heap.size; omega) _).far (p := ⟨w.heap.size, 1, none⟩) (by show w.heap.size + 1 + 1 ≠ w.heap.size; omega) _).far (p := ⟨w.heap.size + 1, 0, none⟩) (by show w.heap.size + 1 + 1 ≠ w.heap.size + 1; omega) _).far (p := ⟨w.heap.size + 1, 1, none⟩) (by show w.heap.size + 1 + 1 ≠ w.heap.size + 1; omega) _)
    have HXW : Hid (Ext w ((((w1.setCell ⟨w.heap.size, 0, none⟩ (.bool nb)).setCell ⟨w.heap.size, 1, none⟩ (.slice A' gy.length c')).setCell ⟨w.heap.size + 1, 0, none⟩ (.bool b)).setCell ⟨w.heap.size + 1, 1, none⟩ (.slice A gx.length c))) := Lib.hid ((((HX1.out.setCell (p := ⟨w.heap.size, 0, none⟩) (Nat.le_refl _) _).setCell (p := ⟨w.heap.size, 1, none⟩) (Nat.le_refl _) _).setCell (p := ⟨w.heap.size + 1, 0, none⟩) (Nat.le_succ _) _).setCell (p := ⟨w.heap.size + 1, 1, none⟩) (Nat.le_succ _) _)
    go_wp2_with fail
    generalize ((((w1.setCell ⟨w.heap.size, 0, none⟩ (.bool nb)).setCell ⟨w.heap.size, 1, none⟩ (.slice A' gy.length c')).setCell ⟨w.heap.size + 1, 0, none⟩ (.bool b)).setCell ⟨w.heap.size + 1, 1, none⟩ (.slice A gx.length c)) = W at *
    have x0' := HBXW.out.cell 0
    have x1' := HBXW.out.cell 1
    have y1' := HBYW.out.cell 1
    simp only [List.getElem?_toArray, List.getElem?_cons_zero, List.getElem?_cons_succ] at x0' x1' y1'
    go_region_held3 (fun w' => w'.cell? ⟨w.heap.size, 0, none⟩ = some (.bool nb) ∧ w'.cell? ⟨w.heap.size, 1, none⟩ = some (.slice A' gy.length c') ∧ w'.cell? ⟨w.heap.size + 1, 1, none⟩ = some (.slice A gx.length c))
      (go_keep)
      (first
        | (go_at_call 118; refine (HM.out _ (HA'.out.ext HXW.out.drew) (HA.out.ext HXW.out.drew)).mono ?_; rintro e w2 ⟨A1, c1, rfl, hrd, hx2, hc1, hc2⟩; have hbr := HBRW.out.drew.ext hx2; have q0 := hbr.cell 0; have q1 := hbr.cell 1; have f0 := hbr.frozen 0; have f1 := hbr.frozen 1; have hbx := HBXW.out.drew.ext hx2; have u0 := hbx.cell 0; have u1 := hbx.cell 1; have hby := HBYW.out.drew.ext hx2; have v1 := hby.cell 1; simp only [List.getElem?_toArray, List.getElem?_cons_zero, List.getElem?_cons_succ] at q0 q1 u0 u1 v1; have HBR2 := Lib.hid hbr; have HX2 := Lib.hid (HXW.out.drew.trans hx2); have HRD := Lib.hid hrd; have HC := Lib.hid (And.intro hc1 hc2); clear hbr hbx hby hx2 hrd hc1 hc2))
    all_goals
      go_wp2_with fail
      refine bodyPost_ret (results_num rfl _ _ (w.heap.size + 1 + 1) (.bool nb) (.slice A1 (gr (y - x)).length c1) rfl ((HBR2.out.set_ 0 (.bool nb)).set_ 1 (.slice A1 (gr (y - x)).length c1))) rfl ?_
      have hne := HRD.out.box HBR2.out
      exact ⟨nb, y - x, A1, c1, rfl, HS.out, (HRD.out.far (.bool nb) hne).far _ hne, (HX2.out.setCell (p := ⟨w.heap.size + 1 + 1, 0, none⟩) (by show w.heap.size ≤ w.heap.size + 1 + 1; omega) _).setCell (p := ⟨w.heap.size + 1 + 1, 1, none⟩) (by show w.heap.size ≤ w.heap.size + 1 + 1; omega) _, HC.out.1, HC.out.2⟩
  · have hle : y ≤ x := by omega
    have HM := Lib.hid (HM1.out hle)
    have HS := Lib.hid (HS1.out hle)
    clear hcase hle
    go_wp2_with fail
    have HBXW := HBX1
    have HBYW := HBY1
    have HBRW := HBR1
    have HXW := HX1
    go_region_held3 (fun w' => w'.cell? ⟨w.heap.size, 0, none⟩ = some (.bool b) ∧ w'.cell? ⟨w.heap.size, 1, none⟩ = some (.slice A gx.length c) ∧ w'.cell? ⟨w.heap.size + 1, 1, none⟩ = some (.slice A' gy.length c'))
      (go_keep)
      (first
        | (go_at_call 118; refine (HM.out _ (HA.out.ext HXW.out.drew) (HA'.out.ext HXW.out.drew)).mono ?_; rintro e w2 ⟨A1, c1, rfl, hrd, hx2, hc1, hc2⟩; have hbr := HBRW.out.drew.ext hx2; have q0 := hbr.cell 0; have q1 := hbr.cell 1; have f0 := hbr.frozen 0; have f1 := hbr.frozen 1; have hbx := HBXW.out.drew.ext hx2; have u0 := hbx.cell 0; have u1 := hbx.cell 1; have hby := HBYW.out.drew.ext hx2; have v1 := hby.cell 1; simp only [List.getElem?_toArray, List.getElem?_cons_zero, List.getElem?_cons_succ] at q0 q1 u0 u1 v1; have HBR2 := Lib.hid hbr; have HX2 := Lib.hid (HXW.out.drew.trans hx2); have HRD := Lib.hid hrd; have HC := Lib.hid (And.intro hc1 hc2); clear hbr hbx hby hx2 hrd hc1 hc2))
    all_goals
      go_wp2_with fail
      refine bodyPost_ret (results_num rfl _ _ (w.heap.size + 1 + 1) (.bool b) (.slice A1 (gr (x - y)).length c1) rfl ((HBR2.out.set_ 0 (.bool b)).set_ 1 (.slice A1 (gr (x - y)).length c1))) rfl ?_
      have hne := HRD.out.box HBR2.out
      exact ⟨b, x - y, A1, c1, rfl, HS.out, (HRD.out.far (.bool b) hne).far _ hne, (HX2.out.setCell (p := ⟨w.heap.size + 1 + 1, 0, none⟩) (by show w.heap.size ≤ w.heap.size + 1 + 1; omega) _).setCell (p := ⟨w.heap.size + 1 + 1, 1, none⟩) (by show w.heap.size ≤ w.heap.size + 1 + 1; omega) _, HC.out.1, HC.out.2⟩
theorem intAdd (b b' : Bool) (x y : Nat) (A A' : Option Addr) (c c' : Nat) (w : World) (hA : RdU w A (gr x)) (hA' : RdU w A' (gr y)) (hn : (gr x).length ≤ 1000000) (hn' : (gr y).length ≤ 1000000) :
    Calls Tryz.prog 71 #[.agg #[.bool b, .slice A (gr x).length c], .agg #[.bool b', .slice A' (gr y).length c']] w (AddEnds (sgn b x + sgn b' y) w) := by
  by_cases h : b' = b
  · subst h; exact intAdd_same b' x y A A' c c' w hA hA' hn hn'
  · have e : b' = !b := by cases b <;> cases b' <;> simp_all
    subst e; exact intAdd_diff b x y A A' c c' w hA hA' hn hn'
end Go.Proofs.YtikehdbkiplleaaGreatDoor
