/- AveragePool (P22.1): for all lots and every instrument the law returns true, that is: Pool and Pooled return the results of the reference implementation (within the sizes that the law checks itself; beyond them it answers by its example); every argument reads afterwards as it did. Condition: the library's tables and sentinel errors hold what their initialisers lay (the card ties them). -/
import Derived.Test.YtikehdbkiplleaaGreatDoorZ6
import Derived.BigRegion
import Derived.Deep.RegionLaw
import Derived.Deep.RegionHeld3
import Derived.Test.YtikehdbkiplleaaGreatDoorCards
import Derived.Test.YtikehdbkiplleaaGreatDoorTie
import Derived.Deep.DeepHandedRow
import Derived.ProofKit
/- Plain: the greatest rests one after the other are the beginning of the sorted ones. No program in sight. -/
namespace Go.Proofs.YtikehdbkiplleaaGreatDoor
open Go.RowKit

theorem ordR_strict (r : List Int) : (ordR r).Pairwise (fun x y => ltR r x y = true) := by
  have h := List.pairwise_mergeSort (le := fun x y => !ltR r y x) (by
    intro a b c h1 h2
    simp only [Bool.not_eq_true', ← Bool.not_eq_true, ltR_iff] at *
    omega) (by
    intro a b
    simp only [Bool.or_eq_true, Bool.not_eq_true', ← Bool.not_eq_true, ltR_iff]
    omega) (List.finRange r.length)
  refine List.Pairwise.imp ?_ (List.pairwise_and_iff.2 ⟨h, ordR_nodup r⟩)
  rintro a b ⟨hab, hne⟩
  have hv : a.val ≠ b.val := fun e => hne (Fin.ext e)
  simp only [Bool.not_eq_true', ← Bool.not_eq_true, ltR_iff] at hab
  rw [ltR_iff]
  omega
/-- less S at each of the indexes -/
def dropAll (S : Int) (p : List Int) (is : List Nat) : List Int := is.foldl (fun l i => l.modify i (· - S)) p
theorem dropAll_len (S : Int) (p : List Int) (is : List Nat) : (dropAll S p is).length = p.length := by
  unfold dropAll
  induction is generalizing p with
  | nil => rfl
  | cons i r ih => rw [List.foldl_cons, ih, List.length_modify]
theorem dropAll_get (S : Int) (p : List Int) (is : List Nat) (hn : is.Nodup) (k : Nat) (hk : k < p.length) : (dropAll S p is)[k]? = some (p[k] - if k ∈ is then S else 0) := by
  unfold dropAll
  induction is generalizing p with
  | nil => simp [hk]
  | cons i r ih =>
    rw [List.nodup_cons] at hn
    rw [List.foldl_cons, ih _ hn.2 (by rw [List.length_modify]; exact hk), List.getElem_modify]
    congr 1
    by_cases e : i = k
    · subst e
      rw [if_pos rfl, if_neg hn.1, if_pos (by simp)]; omega
    · rw [if_neg e]
      by_cases hr : k ∈ r
      · rw [if_pos hr, if_pos (by simp [hr])]
      · rw [if_neg hr, if_neg (by simp [hr]; omega)]
theorem dropAll_snoc (S : Int) (p : List Int) (is : List Nat) (i : Nat) : dropAll S p (is ++ [i]) = (dropAll S p is).modify i (· - S) := by
  unfold dropAll; rw [List.foldl_append]; rfl
theorem bumpAll_snoc (p : List Int) (is : List Nat) (i : Nat) : bumpAll p (is ++ [i]) = (bumpAll p is).modify i (· + 1) := by
  unfold bumpAll; rw [List.foldl_append]; rfl
/-- b is the first greatest of the first m -/
def FM (g : Nat → Int) (m b : Nat) : Prop := b < m ∧ (∀ i, i < m → g i ≤ g b) ∧ ∀ i, i < b → g i < g b
theorem FM_start (g : Nat → Int) : FM g 1 0 := by
  refine ⟨by omega, fun i h => ?_, fun i h => by omega⟩
  obtain rfl : i = 0 := by omega
  exact Int.le_refl _
theorem FM_up {g : Nat → Int} {m b : Nat} (h : FM g m b) (hl : g b < g m) : FM g (m + 1) m := by
  refine ⟨by omega, fun i hi => ?_, fun i hi => ?_⟩
  · by_cases e : i = m
    · subst e; exact Int.le_refl _
    · have := h.2.1 i (by omega); omega
  · have := h.2.1 i (by omega); omega
theorem FM_stay {g : Nat → Int} {m b : Nat} (h : FM g m b) (hl : ¬ g b < g m) : FM g (m + 1) b := by
  refine ⟨by have := h.1; omega, fun i hi => ?_, h.2.2⟩
  by_cases e : i = m
  · subst e; omega
  · exact h.2.1 i (by omega)
theorem FM_unique {g : Nat → Int} {m b c : Nat} (h : FM g m b) (k : FM g m c) : b = c := by
  rcases Nat.lt_trichotomy b c with e | e | e
  · have h1 := h.2.1 c k.1
    have h2 := k.2.2 b e
    omega
  · exact e
  · have h1 := k.2.1 b h.1
    have h2 := h.2.2 c e
    omega
def ords (T : Int) (ws : List Int) : List Nat := (ordR (rstL T ws)).map (·.val)
theorem ords_len (T : Int) (ws : List Int) : (ords T ws).length = ws.length := by unfold ords; rw [List.length_map, ordR_len, rstL_len]
theorem ords_nodup (T : Int) (ws : List Int) : (ords T ws).Nodup := by
  unfold ords
  refine List.pairwise_map.2 (List.Pairwise.imp ?_ (ordR_nodup _))
  intro a b hab he; exact hab (Fin.ext he)
theorem ords_lt {T : Int} {ws : List Int} : ∀ i ∈ ords T ws, i < ws.length := by
  intro i hi
  obtain ⟨k, _, rfl⟩ := List.mem_map.1 hi
  exact Nat.lt_of_lt_of_eq k.isLt (rstL_len T ws)
/-- parts and rests after k rounds -/
def prtK (T : Int) (ws : List Int) (k : Nat) : List Int := bumpAll (prtL T ws) ((ords T ws).take k)
def rstK (T : Int) (ws : List Int) (k : Nat) : List Int := dropAll ws.sum (rstL T ws) ((ords T ws).take k)
theorem prtK_len (T : Int) (ws : List Int) (k : Nat) : (prtK T ws k).length = ws.length := by unfold prtK; rw [bumpAll_len, prtL_len]
theorem rstK_len (T : Int) (ws : List Int) (k : Nat) : (rstK T ws k).length = ws.length := by unfold rstK; rw [dropAll_len, rstL_len]
theorem prtK_zero (T : Int) (ws : List Int) : prtK T ws 0 = prtL T ws := rfl
theorem rstK_zero (T : Int) (ws : List Int) : rstK T ws 0 = rstL T ws := rfl
theorem prtK_end (T : Int) (ws : List Int) : prtK T ws (missN T ws).toNat = splitP T ws := by
  unfold prtK splitP topL ords; rw [List.map_take]
/-- where the k-th more goes -/
theorem prtK_next {T : Int} {ws : List Int} {k : Nat} (hk : k < (ords T ws).length) : prtK T ws (k + 1) = (prtK T ws k).modify ((ords T ws)[k]'hk) (· + 1) := by
  unfold prtK; rw [List.take_succ_eq_append_getElem hk, bumpAll_snoc]
theorem rstK_next {T : Int} {ws : List Int} {k : Nat} (hk : k < (ords T ws).length) : rstK T ws (k + 1) = (rstK T ws k).modify ((ords T ws)[k]'hk) (· - ws.sum) := by
  unfold rstK; rw [List.take_succ_eq_append_getElem hk, dropAll_snoc]
theorem take_nodup {l : List Nat} (h : l.Nodup) (k : Nat) : (l.take k).Nodup := h.sublist (List.take_sublist _ _)
theorem mem_take_iff {l : List Nat} (h : l.Nodup) {k m : Nat} (hm : m < l.length) : l[m] ∈ l.take k ↔ m < k := by
  constructor
  · intro hi
    obtain ⟨j, hj, he⟩ := List.mem_iff_getElem.1 hi
    rw [List.length_take] at hj
    rw [List.getElem_take] at he
    have hp := List.pairwise_iff_getElem.1 h
    rcases Nat.lt_trichotomy j m with e | e | e
    · exact absurd he (hp j m (by omega) hm e)
    · omega
    · exact absurd he.symm (hp m j hm (by omega) e)
  · intro hk
    exact List.mem_iff_getElem.2 ⟨m, by rw [List.length_take]; omega, by rw [List.getElem_take]⟩
theorem rstK_at {T : Int} {ws : List Int} {k m : Nat} (hm : m < (ords T ws).length) (hi : (ords T ws)[m]'hm < (rstL T ws).length) :
    (rstK T ws k).getD ((ords T ws)[m]'hm) 0 = (rstL T ws)[(ords T ws)[m]'hm]'hi - if m < k then ws.sum else 0 := by
  unfold rstK
  rw [List.getD_eq_getElem?_getD, dropAll_get _ _ _ (take_nodup (ords_nodup T ws) k) _ hi, Option.getD_some]
  congr 1
  simp only [mem_take_iff (ords_nodup T ws) hm]
theorem ords_next {T : Int} {ws : List Int} (hS : 0 < ws.sum) {k : Nat} (hk : k < (ords T ws).length) : FM (fun i => (rstK T ws k).getD i 0) ws.length ((ords T ws)[k]'hk) := by
  have hr := rstL_bounds (T := T) hS
  have hol : (ordR (rstL T ws)).length = ws.length := by rw [ordR_len, rstL_len]
  have hlk : k < (ordR (rstL T ws)).length := by rw [hol, ← ords_len T ws]; exact hk
  have hb : (ords T ws)[k]'hk < (rstL T ws).length := by rw [rstL_len]; exact ords_lt _ (List.getElem_mem _)
  have ek : (ords T ws)[k]'hk = ((ordR (rstL T ws))[k]'hlk).val := by simp [ords]
  have key : ∀ i, i < ws.length → ∃ m, ∃ hm : m < (ords T ws).length, i = (ords T ws)[m]'hm := by
    intro i hi
    have : (⟨i, by rw [rstL_len]; exact hi⟩ : Fin (rstL T ws).length) ∈ ordR (rstL T ws) := (ordR_perm _).mem_iff.2 (List.mem_finRange _)
    obtain ⟨m, hm, he⟩ := List.mem_iff_getElem.1 this
    exact ⟨m, by unfold ords; rw [List.length_map]; exact hm, by simp [ords, he]⟩
  have cmp : ∀ m (hm : m < (ords T ws).length), (rstK T ws k).getD ((ords T ws)[m]'hm) 0 < (rstK T ws k).getD ((ords T ws)[k]'hk) 0 ∨ ((rstK T ws k).getD ((ords T ws)[m]'hm) 0 = (rstK T ws k).getD ((ords T ws)[k]'hk) 0 ∧ (ords T ws)[k]'hk ≤ (ords T ws)[m]'hm) := by
    intro m hm
    have hi : (ords T ws)[m]'hm < (rstL T ws).length := by rw [rstL_len]; exact ords_lt _ (List.getElem_mem _)
    have hlm : m < (ordR (rstL T ws)).length := by rw [hol, ← ords_len T ws]; exact hm
    have em : (ords T ws)[m]'hm = ((ordR (rstL T ws))[m]'hlm).val := by simp [ords]
    rw [rstK_at hm hi, rstK_at hk hb, if_neg (Nat.lt_irrefl k)]
    rcases Nat.lt_trichotomy m k with h | h | h
    · rw [if_pos h]
      have h1 := hr _ (List.getElem_mem hi)
      have h2 := hr _ (List.getElem_mem hb)
      left; omega
    · subst h
      rw [if_neg (Nat.lt_irrefl _)]
      exact .inr ⟨rfl, Nat.le_refl _⟩
    · rw [if_neg (by omega)]
      have hs := List.pairwise_iff_getElem.1 (ordR_strict (rstL T ws)) k m hlk hlm h
      rw [ltR_iff] at hs
      simp only [Fin.getElem_fin] at hs
      simp only [em, ek] at *
      omega
  refine ⟨ords_lt _ (List.getElem_mem _), fun i hi => ?_, fun i hi => ?_⟩
  · obtain ⟨m, hm, rfl⟩ := key i hi
    have := cmp m hm
    show (rstK T ws k).getD ((ords T ws)[m]'hm) 0 ≤ (rstK T ws k).getD ((ords T ws)[k]'hk) 0
    omega
  · obtain ⟨m, hm, rfl⟩ := key i (Nat.lt_trans hi (ords_lt _ (List.getElem_mem _)))
    have := cmp m hm
    show (rstK T ws k).getD ((ords T ws)[m]'hm) 0 < (rstK T ws k).getD ((ords T ws)[k]'hk) 0
    omega
theorem same_den {a b S : Int} (hS : 0 < S) : (Rat.divInt a S < Rat.divInt b S ↔ a < b) ∧ (Rat.divInt a S = Rat.divInt b S ↔ a = b) := by
  have k1 : (0 : Rat) < (S : Rat) := Rat.intCast_pos.2 hS
  have m1 : Rat.divInt a S * (S : Rat) = (a : Rat) := by
    rw [Rat.divInt_eq_div]
    exact Rat.div_mul_cancel (by grind)
  have m2 : Rat.divInt b S * (S : Rat) = (b : Rat) := by
    rw [Rat.divInt_eq_div]
    exact Rat.div_mul_cancel (by grind)
  constructor
  · constructor
    · intro h
      have := Rat.mul_lt_mul_of_pos_right h k1
      rw [m1, m2] at this
      exact Rat.intCast_lt_intCast.1 this
    · intro h
      have := Rat.intCast_lt_intCast.2 h
      rw [← m1, ← m2] at this
      exact Rat.lt_of_mul_lt_mul_right this (Rat.le_of_lt k1)
  · constructor
    · intro h
      rw [h, m2] at m1
      exact (Rat.intCast_inj.1 m1).symm
    · rintro rfl; rfl
theorem cmp_den {a b S : Int} (hS : 0 < S) : cmpQ (Rat.divInt a S) (Rat.divInt b S) = cmpI a b := by
  obtain ⟨h1, h2⟩ := same_den (a := a) (b := b) hS
  unfold cmpQ cmpI
  simp only [h1, h2]
theorem divInt_cast {S : Int} (hS : 0 < S) (z : Int) : (z : Rat) = Rat.divInt (z * S) S := by
  have k1 : (0 : Rat) < (S : Rat) := Rat.intCast_pos.2 hS
  rw [Rat.divInt_eq_div]
  simp only [Rat.intCast_mul]
  grind
theorem sub_den {S : Int} (hS : 0 < S) (a b : Int) : Rat.divInt a S - Rat.divInt b S = Rat.divInt (a - b) S := by
  have k1 : (0 : Rat) < (S : Rat) := Rat.intCast_pos.2 hS
  simp only [Rat.divInt_eq_div, Rat.intCast_sub]
  grind
theorem rest_den {S : Int} (hS : 0 < S) (n : Int) : Rat.divInt n S - ((n / S : Int) : Rat) = Rat.divInt (n % S) S := by
  rw [divInt_cast hS (n / S), sub_den hS, Int.emod_def, Int.mul_comm]
theorem less_den {S : Int} (hS : 0 < S) (n : Int) : Rat.divInt n S - 1 = Rat.divInt (n - S) S := by
  have := divInt_cast hS 1
  rw [Int.one_mul] at this
  have h1 : (1 : Rat) = ((1 : Int) : Rat) := rfl
  rw [h1, this, sub_den hS]
theorem abs_den {S : Int} (hS : 0 < S) (n : Int) : cmpQ (Rat.divInt n S) 0 = cmpI n 0 := by
  have := cmp_den (a := n) (b := 0) hS
  rwa [Rat.zero_divInt] at this
end Go.Proofs.YtikehdbkiplleaaGreatDoor
/- Slices of fractions in memory: read, rewritten in place, made. -/
namespace Go.Proofs.YtikehdbkiplleaaGreatDoor
open Go.RowKit
attribute [local go_sem] size_bs toList_bs

def frCells (f : Fr) : List Value := [.string (bs f.num), .string (bs f.den)]
theorem frCells_len (f : Fr) : (frCells f).length = 2 := rfl
def fcells (fs : List Fr) : List Value := fs.flatMap frCells
theorem fcells_len (fs : List Fr) : (fcells fs).length = fs.length * 2 := by
  induction fs with
  | nil => rfl
  | cons x r ih => simp only [fcells, List.flatMap_cons, List.length_append, List.length_cons, frCells_len] at ih ⊢; omega
theorem oneF (fs : List Fr) : ∀ u ∈ fcells fs, u.oneCell' = true := by
  intro u hu
  unfold fcells at hu
  obtain ⟨h, _, hh⟩ := List.mem_flatMap.1 hu
  unfold frCells at hh
  simp only [List.mem_cons, List.not_mem_nil, or_false] at hh
  rcases hh with rfl | rfl <;> rfl
def RdF (w : World) (A : Option Addr) (fs : List Fr) : Prop := Reads w 2 A fs.length (fcells fs)
theorem RdF.ext {w w' : World} {A : Option Addr} {fs : List Fr} (h : RdF w A fs) (he : Ext w w') : RdF w' A fs := Reads.ext h he
theorem RdF.at_ {w : World} {A : Option Addr} {fs : List Fr} (h : RdF w A fs) {k : Nat} (hk : k < fs.length) :
    ∃ b o, A = some ⟨b, o, none⟩ ∧ b < w.heap.size ∧ w.cell? ⟨b, o + k * 2, none⟩ = some (.string (bs (fs[k]'hk).num)) ∧ w.cell? ⟨b, o + k * 2 + 1, none⟩ = some (.string (bs (fs[k]'hk).den)) := by
  obtain ⟨b, o, rfl, hb⟩ := Reads.at_ h (by omega)
  have key : ∀ j (_ : j < 2), w.cell? ⟨b, o + k * 2 + j, none⟩ = (frCells (fs[k]'hk))[j]? := fun j hj => by
    have h1 := flat_at frCells 2 frCells_len fs k j hk hj
    have hl : j < (frCells (fs[k]'hk)).length := by rw [frCells_len]; exact hj
    rw [List.getElem?_eq_getElem hl] at h1 ⊢
    have h2 := Reads.cell h h1
    rw [← Nat.add_assoc] at h2
    exact h2
  exact ⟨b, o, rfl, hb, key 0 (by decide), key 1 (by decide)⟩
def RowF (w : World) (g cap : Nat) (fs : List Fr) : Prop := ∃ cur, Row w g 28 2 fs.length cap (fcells fs) cur
theorem fcells_set (fs : List Fr) (k : Nat) (x : Fr) (h : k < fs.length) : fcells (fs.set k x) = ((fcells fs).set (k * 2) (.string (bs x.num))).set (k * 2 + 1) (.string (bs x.den)) := by
  induction fs generalizing k with
  | nil => simp at h
  | cons z r ih =>
    cases k with
    | zero => simp [fcells, frCells]
    | succ k =>
      have := ih k (by simpa using h)
      simp only [fcells, List.set_cons_succ, List.flatMap_cons] at this ⊢
      rw [this, show (k + 1) * 2 = (frCells z).length + k * 2 by rw [frCells_len]; omega, List.set_append_right _ _ (by omega), Nat.add_sub_cancel_left, List.set_append_right _ _ (by omega), Nat.add_assoc, Nat.add_sub_cancel_left]
section
variable {w w' : World} {g cap : Nat} {fs : List Fr}
theorem RowF.lt (h : RowF w g cap fs) : g < w.heap.size := by obtain ⟨cur, h⟩ := h; exact h.blk.lt
theorem RowF.reads (h : RowF w g cap fs) : RdF w (some ⟨g, 0, none⟩) fs := by obtain ⟨cur, h⟩ := h; exact h.reads
theorem RowF.frozen (h : RowF w g cap fs) (k : Nat) : w.frozen? ⟨g, k, none⟩ = false := by obtain ⟨cur, h⟩ := h; exact h.frozen k
theorem RowF.ext (h : RowF w g cap fs) (hx : Ext w w') : RowF w' g cap fs := by obtain ⟨cur, h⟩ := h; exact ⟨cur, h.ext hx⟩
theorem RowF.drew (h : RowF w g cap fs) : RowF w.drew g cap fs := by obtain ⟨cur, h⟩ := h; exact ⟨cur, h.drew⟩
theorem RowF.far (h : RowF w g cap fs) {g' : Nat} (hne : g ≠ g') (k : Nat) (u : Value) : RowF (w.setCell ⟨g', k, none⟩ u) g cap fs := by
  obtain ⟨cur, h⟩ := h
  exact ⟨cur, { h with blk := h.blk.far (p := ⟨g', k, none⟩) hne u }⟩
theorem RowF.set_ (h : RowF w g cap fs) {k : Nat} (hk : k < fs.length) (x : Fr) : RowF ((w.setCell ⟨g, k * 2, none⟩ (.string (bs x.num))).setCell ⟨g, k * 2 + 1, none⟩ (.string (bs x.den))) g cap (fs.set k x) := by
  obtain ⟨cur, h⟩ := h
  have h1 := (h.blk.set_ (k * 2) (.string (bs x.num))).set_ (k * 2 + 1) (.string (bs x.den))
  rw [List.setIfInBounds_toArray, List.setIfInBounds_toArray] at h1
  refine ⟨(cur.set (k * 2) (.string (bs x.num))).set (k * 2 + 1) (.string (bs x.den)), h1, by rw [fcells_len], by simpa using h.le, h.big, by simpa using h.full, ?_⟩
  rw [List.length_set, List.take_set, List.take_set, h.take, fcells_set fs k x hk]
theorem RowF.new {n : Nat} (hn : n ≤ 1000000) (h : Blk w g 28 (fcells (List.replicate n ⟨[], []⟩)).toArray) : RowF w g n (List.replicate n ⟨[], []⟩) := by
  have hl : (fcells (List.replicate n (⟨[], []⟩ : Fr))).length = n * 2 := by rw [fcells_len, List.length_replicate]
  refine ⟨_, h, by rw [fcells_len], by simp, by unfold maxLen; omega, hl, ?_⟩
  rw [List.length_replicate, List.take_of_length_le (by omega)]
end
theorem fcells_rep (n : Nat) : fcells (List.replicate n ⟨[], []⟩) = List.replicate (n * 2) (.string ⟨#[]⟩) := by
  induction n with
  | zero => rfl
  | succ n ih =>
    rw [List.replicate_succ, show (n + 1) * 2 = n * 2 + 1 + 1 by omega, List.replicate_succ, List.replicate_succ, ← ih]
    rfl
theorem fracInfo : (Tryz.prog.info? 28).map (fun i => (i.zero, i.size, i.bytes)) = some (some (.agg #[.string ⟨#[]⟩, .string ⟨#[]⟩]), 2, 32) := by kernel_rfl
theorem makeF (n : Nat) (hn : n ≤ 1000000) (w : World) : (Instr.makeSlice 156 (.int .i64 (n : Int)) (.int .i64 (n : Int))).run Tryz.prog w = .ok (.slice (some ⟨w.heap.size, 0, none⟩) n n) (w.alloc (.cells (fcells (List.replicate n ⟨[], []⟩)).toArray 28)) := by
  obtain ⟨i0, hI, hz0, hz1, hz2⟩ := info_parts fracInfo
  have h := run_make (P := Tryz.prog) w 156 28 i0 _ Tryz.underlying156 hI hz0 .i64 .i64 (n : Int) (n : Int) (by omega) (by omega) (by rw [hz2]; omega) (by omega)
  rw [hz1, Int.toNat_natCast] at h
  have e : madeCells (Value.agg #[.string ⟨#[]⟩, .string ⟨#[]⟩]).cells (n * 2) = (fcells (List.replicate n ⟨[], []⟩)).toArray := by
    rw [fcells_rep]
    apply Array.ext
    · simp [madeCells]
    · intro i h1 h2
      rcases Nat.mod_two_eq_zero_or_one i with h | h <;> simp [madeCells, Value.cells, h]
  rw [e] at h
  exact h
end Go.Proofs.YtikehdbkiplleaaGreatDoor
/- The reference's allocation, the smaller functions: negative, Sum, check, absolute, Small. -/
namespace Go.Proofs.YtikehdbkiplleaaGreatDoor
open Go.RowKit
attribute [local go_sem] size_bs toList_bs

set_option maxRecDepth 100000 in
theorem refNegT (a : Bs) (ha : a.length ≤ 90000) : PureR 92 #[.string (bs a)] (.bool (decide (valI a < 0))) := by
  intro w
  have c1 := cmpR a [] (by omega) (by simp)
  rw [valI_nil] at c1
  have HC := Lib.hid c1
  have HQ : Hid (decide (valI a < 0) = decide (cmpI (valI a) 0 < 0)) := Lib.hid (by rw [Bool.eq_iff_iff, decide_eq_true_iff, decide_eq_true_iff, cmpI_neg])
  rw [HQ.out]
  generalize cmpI (valI a) 0 = cc at *
  clear HQ c1
  have HX : Hid (Ext w w) := Lib.hid (Ext.refl w)
  go_enter Tryz.func92, Tryz.ntmps92
  go_wp2_with fail
  refine (HC.out _).mono ?_
  rintro e v1 ⟨rfl, hx1⟩
  replace HX := Lib.hid (HX.out.trans hx1)
  clear hx1
  go_wp2_with fail
  go_ret
  exact ⟨rfl, HX.out⟩
set_option maxRecDepth 100000 in
set_option maxHeartbeats 2000000 in
theorem refSum (ls : List Bs) (A : Option Addr) (c : Nat) (w : World) (hA : RdS w A ls) (L : Nat) (hL : L ≤ 80000) (hs : ∀ x ∈ ls, x.length ≤ L) (hn : ls.length ≤ 100000) :
    Calls Tryz.prog 172 #[.slice A ls.length c] w fun e w' => e = .returned (.string (bs (ofI (sumV ls)))) ∧ Ext w w' := by
  have HA := Lib.hid hA
  have HS := Lib.hid hs
  have HSL : Hid (∀ k, (ofI (sumV (ls.take k))).length ≤ L + 7) := Lib.hid (fun k => sumV_lenL L _ (fun x hx => hs x (List.mem_of_mem_take hx)) (Nat.le_trans (by rw [List.length_take]; exact Nat.min_le_right _ _) hn))
  clear hA hs
  have h0 : (Value.string ⟨#[]⟩) = .string (bs (ofI (sumV (ls.take 0)))) := by rw [show ofI (sumV (ls.take 0)) = [] from ofI_nil.2 rfl]; rfl
  have H0 := Lib.hid h0
  clear h0
  go_enter Tryz.func172, Tryz.ntmps172
  go_wp2_with fail
  go_loopw [3, 4] (fun s i wr => ∃ k : Nat, k ≤ ls.length ∧ i = .int .i64 k ∧ s = .string (bs (ofI (sumV (ls.take k)))) ∧ Ext w wr) (fun _ i _ => ls.length - (intOf i).toNat)
  case atStart => exact ⟨0, by omega, rfl, H0.out, Ext.refl _⟩
  case round =>
    obtain ⟨k, hk, rfl, rfl, hx⟩ := hrel
    have HX := Lib.hid hx
    clear hx
    by_cases hlt : k < ls.length
    · obtain ⟨b, o, rfl, hb, c0⟩ := (HA.out.ext HX.out).at_ hlt
      have ha := addR (ofI (sumV (ls.take k))) (ls[k]'hlt) (by have := HSL.out k; omega) (by have := HS.out _ (List.getElem_mem hlt); omega)
      rw [valI_ofI, ← sumV_snoc, ← List.take_succ_eq_append_getElem hlt] at ha
      have HAD := Lib.hid ha
      have hki : (k : Int) < (ls.length : Int) := by omega
      have hk0 : (0 : Int) ≤ (k : Int) := by omega
      clear ha
      generalize (ls[k]'hlt) = x at *
      generalize hz : ofI (sumV (ls.take (k + 1))) = z at *
      have HZ := Lib.hid hz
      generalize ofI (sumV (ls.take k)) = y at *
      clear hz
      go_wp2_with fail
      refine (HAD.out _).mono ?_
      rintro e v3 ⟨rfl, hx1⟩
      replace HX := Lib.hid (HX.out.trans hx1)
      clear hx1
      go_wp2_with fail
      go_roundw
      case rel => exact ⟨k + 1, by omega, by go_num, by rw [HZ.out], HX.out⟩
      case measure => simp [intOf]; omega
    · have HF : Hid (ls.take k = ls) := Lib.hid (List.take_of_length_le (by omega))
      go_wp2_with fail
      go_ret
      exact ⟨by rw [HF.out]; rfl, HX.out⟩
set_option maxRecDepth 100000 in
set_option maxHeartbeats 4000000 in
theorem refCheckW (t : Bs) (ls : List Bs) (A : Option Addr) (c : Nat) (w : World) (hA : RdS w A ls) (ht : t.length ≤ 4000) (htc : checkI t = 0) (hW : WtOK ls) :
    Calls Tryz.prog 210 #[.string (bs t), .slice A ls.length c] w fun e w' => e = .returned (.int .i64 0) ∧ Ext w w' := by
  have k1 := fun W => still (refCheckI t W (by omega))
  rw [htc] at k1
  have K1 := Lib.hid k1
  have HA := Lib.hid hA
  have HWH := Lib.hid (fun W hx => refSum ls A c W (hA.ext hx) 4000 (by omega) hW.sm (by have := hW.le; omega))
  have hle := hW.le
  have g1 : ((ls.length : Int) == 0) = false := by rw [beq_eq_false_iff_ne]; have := hW.pos; omega
  have g2 : decide (1000 < (ls.length : Int)) = false := by rw [decide_eq_false_iff_not]; have := hW.le; omega
  have g3 : (ofI (sumV ls)).isEmpty = false := by
    cases hh : ofI (sumV ls) with
    | nil => have := ofI_nil.1 hh; have := hW.sum; omega
    | cons _ _ => rfl
  have HW := Lib.hid hW
  clear hA k1 hW ht htc
  generalize ofI (sumV ls) = z at *
  have HX : Hid (Ext w w) := Lib.hid (Ext.refl w)
  go_enter Tryz.func210, Tryz.ntmps210
  go_wp2_with fail
  refine (K1.out _).mono ?_
  rintro e v4 ⟨rfl, hx1⟩
  replace HX := Lib.hid (HX.out.trans hx1)
  clear hx1
  go_wp2_with fail
  go_loopw [5] (fun i wr => ∃ k : Nat, k ≤ ls.length ∧ i = .int .i64 k ∧ Ext w wr) (fun i _ => ls.length - (intOf i).toNat)
  case atStart => exact ⟨0, by omega, rfl, HX.out⟩
  case round =>
    clear HX
    obtain ⟨k, hk, rfl, hx⟩ := hrel
    have HX := Lib.hid hx
    clear hx
    by_cases hlt : k < ls.length
    · obtain ⟨b, o, rfl, hb, c0⟩ := (HA.out.ext HX.out).at_ hlt
      have hm := List.getElem_mem hlt
      have hsm := HW.out.sm _ hm
      have k1 := fun W => still (refCheckI (ls[k]'hlt) W (by omega))
      rw [HW.out.ok _ hm] at k1
      have n1 := refNegT (ls[k]'hlt) (by omega)
      rw [show decide (valI (ls[k]'hlt) < 0) = false by rw [decide_eq_false_iff_not]; have := HW.out.nn _ hm; omega] at n1
      have K2 := Lib.hid k1
      have N2 := Lib.hid n1
      have hki : (k : Int) < (ls.length : Int) := by omega
      have hk0 : (0 : Int) ≤ (k : Int) := by omega
      have HC : Hid (∀ W, Ext wr W → W.cell? ⟨b, o + k, none⟩ = some (.string (bs (ls[k]'hlt)))) := Lib.hid (fun W hx => (hx.cell (p := ⟨b, o + k, none⟩) hb).trans c0)
      clear k1 n1 hsm hm
      generalize (ls[k]'hlt) = x at *
      go_wp2_with fail
      refine (K2.out _).mono ?_
      rintro e w2 ⟨rfl, hx1⟩
      have c1 := HC.out _ hx1
      replace HX := Lib.hid (HX.out.trans hx1)
      clear hx1 c0
      go_wp2_with fail
      refine (N2.out _).mono ?_
      rintro e v5 ⟨rfl, hx1⟩
      replace HX := Lib.hid (HX.out.trans hx1)
      clear hx1
      go_wp2_with fail
      go_roundw
      case rel => exact ⟨k + 1, by omega, by go_num, HX.out⟩
      case measure => simp [intOf]; omega
    · have hkl : k = ls.length := by omega
      go_wp2_with fail
      refine (HWH.out _ HX.out).mono ?_
      rintro e v6 ⟨rfl, hx1⟩
      replace HX := Lib.hid (HX.out.trans hx1)
      clear hx1
      go_wp2_with fail
      go_ret
      exact ⟨rfl, HX.out⟩
set_option maxRecDepth 100000 in
set_option maxHeartbeats 1000000 in
theorem refSmall (l : Bs) (w : World) (hng : neg l = false) (hl : (mag l).length ≤ 17) (hs : l.length ≤ 1000000000) :
    Calls Tryz.prog 171 #[.string (bs l)] w fun e w' => e = .returned (.tuple #[.int .i64 (valI l), .bool true]) ∧ w = w' := by
  have HDIG := Lib.hid (fun w => refDigits l w hs)
  have HD := Lib.hid (mag_all l)
  have HV : Hid (valI l = (natOf (mag l) : Int)) := Lib.hid (by unfold valI; rw [hng]; rfl)
  rw [hng] at HDIG
  generalize valI l = z at *
  generalize mag l = m at *
  clear hs hng
  have HL := Lib.hid hl
  have hlb : ¬ (19 < (m.length : Int)) := by omega
  have hlc : ((m.length : Int) == 19) = false := by rw [beq_eq_false_iff_ne]; omega
  clear hl
  go_enter Tryz.func171, Tryz.ntmps171
  go_wp2_with fail
  refine (HDIG.out _).mono ?_
  rintro e w1 ⟨rfl, rfl⟩
  go_wp2_with fail
  go_loop [7, 8] (fun v i => ∃ k : Nat, k ≤ m.length ∧ i = .int .i64 k ∧ v = .int .i64 (-((natOf (m.take k) : Nat) : Int))) (fun _ i => m.length - (intOf i).toNat)
  case atStart => exact ⟨0, Nat.zero_le _, rfl, rfl⟩
  case round =>
    obtain ⟨k, hk, rfl, rfl⟩ := hrel
    by_cases hlt : k < m.length
    · have hv := natOf_take_lt HD.out HL.out k
      have HS := Lib.hid (natOf_take_succ m k hlt)
      obtain ⟨hc1, hc2, hc3⟩ := dval_u8 (all_at HD.out hlt)
      have HC := Lib.hid hc3
      clear hc3
      generalize natOf (m.take k) = p at *
      go_wp2_with fail
      go_round
      case rel => exact ⟨k + 1, by omega, by go_num, by rw [HS.out]; have := HC.out; simp only [get_bs]; congr 1; omega⟩
      case measure => simp [intOf]; omega
    · have hv := natOf_take_lt HD.out HL.out k
      have HT : Hid (natOf (m.take k) = natOf m) := Lib.hid (by rw [List.take_of_length_le (by omega)])
      generalize natOf (m.take k) = p at *
      go_wp2_with fail
      go_ret2
      exact ⟨by rw [HV.out, ← HT.out]; simp, rfl⟩
theorem neg_ofI_nat (n : Nat) : neg (ofI (n : Int)) = false := by
  rcases Nat.eq_zero_or_pos n with h | h
  · subst h; decide +kernel
  · cases hn : neg (ofI (n : Int)) with
    | false => rfl
    | true =>
      have := valI_ofI (n : Int)
      unfold valI at this
      rw [hn, if_pos rfl] at this
      omega
theorem refSmallN (n : Nat) (h : n ≤ 100000000) (w : World) : Calls Tryz.prog 171 #[.string (bs (ofI (n : Int)))] w fun e w' => e = .returned (.tuple #[.int .i64 (n : Int), .bool true]) ∧ w = w' := by
  have hl : (ofI (n : Int)).length ≤ 10 := ofI_lt10 (L := 9) (by omega)
  have hv := valI_ofI (n : Int)
  have hm : (mag (ofI (n : Int))).length ≤ 10 := Nat.le_trans (mag_le _) hl
  have := refSmall (ofI (n : Int)) w (neg_ofI_nat n) (by omega) (by omega)
  rwa [hv] at this
/-- a fraction that is not negative is its absolute value -/
theorem refAbsT (f : Fr) (h1 : f.num.length ≤ 19000) (h2 : f.den.length ≤ 19000) (h0 : 0 ≤ frQ f) : PureR 169 #[fv f] (fv f) := by
  intro w
  have hc := refCmpF f ⟨[], []⟩ (by omega) (by omega) (by simp) (by simp)
  have g : decide (cmpQ (frQ f) (frQ ⟨[], []⟩) < 0) = false := by
    rw [decide_eq_false_iff_not, cmpQ_neg, frQ_nil]
    exact Rat.not_lt.2 h0
  have HC := Lib.hid hc
  generalize cmpQ (frQ f) (frQ ⟨[], []⟩) = cc at *
  obtain ⟨n1, e1⟩ := f
  clear hc h0 h1 h2
  have HB1 := Lib.hid ((Blk.new w 28 #[.string (bs n1), .string (bs e1)]).alloc (.cells #[.string ⟨#[]⟩, .string ⟨#[]⟩] 28))
  have HB := Lib.hid (Blk.newAt (w.alloc (.cells #[.string (bs n1), .string (bs e1)] 28)) 28 #[.string ⟨#[]⟩, .string ⟨#[]⟩] (w.heap.size + 1) (by simp))
  have HX : Hid (Ext w ((w.alloc (.cells #[.string (bs n1), .string (bs e1)] 28)).alloc (.cells #[.string ⟨#[]⟩, .string ⟨#[]⟩] 28))) := Lib.hid ((Ext.new _ _).alloc _)
  go_enter Tryz.func169, Tryz.ntmps169
  obtain ⟨r0, r1, _, _⟩ := frBlk HB1.out (Ext.refl _)
  go_wp2_with fail
  refine (HC.out _).mono ?_
  rintro e w3 ⟨rfl, hx1⟩
  replace HB := Lib.hid (HB.out.ext hx1)
  replace HB1 := Lib.hid (HB1.out.ext hx1)
  replace HX := Lib.hid (HX.out.trans hx1)
  clear hx1
  obtain ⟨r0, r1, _, _⟩ := frBlk HB1.out (Ext.refl _)
  obtain ⟨q0, q1, f0, f1⟩ := frBlk HB.out (Ext.refl _)
  go_wp2_with fail
  refine bodyPost_ret (results_fr rfl _ _ (w.heap.size + 1) (.string (bs n1)) (.string (bs e1)) rfl ((HB.out.set_ 0 _).set_ 1 _)) rfl ?_
  exact ⟨rfl, (HX.out.setCell (p := ⟨w.heap.size + 1, 0, none⟩) (by show w.heap.size ≤ w.heap.size + 1; omega) _).setCell (p := ⟨w.heap.size + 1, 1, none⟩) (by show w.heap.size ≤ w.heap.size + 1; omega) _⟩
end Go.Proofs.YtikehdbkiplleaaGreatDoor
/- The reference's Ideal, for valid weights. -/
namespace Go.Proofs.YtikehdbkiplleaaGreatDoor
open Go.RowKit
attribute [local go_sem] size_bs toList_bs

/-- the exact parts -/
def idl (T : Int) (ls : List Bs) : List Fr := ls.map (fun x => ofQ (Rat.divInt (T * valI x) (sumV ls)))
theorem idl_len (T : Int) (ls : List Bs) : (idl T ls).length = ls.length := List.length_map ..
theorem idl_at (T : Int) (ls : List Bs) {k : Nat} (hk : k < ls.length) (h : k < (idl T ls).length) : (idl T ls)[k]'h = ofQ (Rat.divInt (T * valI (ls[k]'hk)) (sumV ls)) := by simp [idl]
def OwnF (w : World) (base : Nat) (v : Value) (fs : List Fr) : Prop := w.ownsRow base 28 2 v fs.length (fcells fs)
theorem OwnF.ext {w w' : World} {base : Nat} {v : Value} {fs : List Fr} (h : OwnF w base v fs) (hx : Ext w w') : OwnF w' base v fs := own_ext2 h hx
theorem fcells_snoc (fs : List Fr) {k : Nat} (hk : k < fs.length) : fcells (fs.take k) ++ frCells (fs[k]'hk) = fcells (fs.take (k + 1)) := by
  rw [List.take_succ_eq_append_getElem hk]
  simp only [fcells, List.flatMap_append, List.flatMap_cons, List.flatMap_nil, List.append_nil]
theorem oneFr (f : Fr) : ∀ u ∈ frCells f, u.oneCell' = true := by
  intro u hu
  unfold frCells at hu
  simp only [List.mem_cons, List.not_mem_nil, or_false] at hu
  rcases hu with rfl | rfl <;> rfl
def IdealEnds (T : Int) (ls : List Bs) (w : World) (e : Ending) (w' : World) : Prop :=
  ∃ A c, e = .returned (.tuple #[.slice A ls.length c, .int .i64 0]) ∧ RdF w' A (idl T ls) ∧ Ext w w'
set_option maxRecDepth 100000 in
set_option maxHeartbeats 4000000 in
theorem refIdeal (t : Bs) (ls : List Bs) (A : Option Addr) (c : Nat) (w : World) (hA : RdS w A ls) (ht : t.length ≤ 4000) (htc : checkI t = 0) (hW : WtOK ls) :
    Calls Tryz.prog 168 #[.string (bs t), .slice A ls.length c] w (IdealEnds (valI t) ls w) := by
  have HA := Lib.hid hA
  have HCK := Lib.hid (fun W hx => refCheckW t ls A c W (hA.ext hx) ht htc hW)
  have HSM := Lib.hid (fun W hx => refSum ls A c W (hA.ext hx) 4000 (by omega) hW.sm (by have := hW.le; omega))
  have hle := hW.le
  have sl := sumV_lenL 4000 ls hW.sm (by omega)
  have key : ∀ k (hk : k < ls.length), PureR 93 #[.string (bs t), .string (bs (ls[k]'hk))] (.string (bs (ofI (valI t * valI (ls[k]'hk))))) ∧ PureR 87 #[.string (bs (ofI (valI t * valI (ls[k]'hk)))), .string (bs (ofI (sumV ls)))] (.tuple #[fv (ofQ (Rat.divInt (valI t * valI (ls[k]'hk)) (sumV ls))), .int .i64 0]) := fun k hk => by
    have hx := hW.sm _ (List.getElem_mem hk)
    have ml := mul_len ht hx
    have n1 := refNew (ofI (valI t * valI (ls[k]'hk))) (ofI (sumV ls)) (by omega) (by omega) (by rw [valI_ofI]; have := hW.sum; omega)
    rw [valI_ofI, valI_ofI] at n1
    exact ⟨mulR t (ls[k]'hk) (by omega) (by omega), n1⟩
  have KEY := Lib.hid key
  obtain ⟨i0, hI, hz0, hz1, hz2⟩ := info_parts fracInfo
  have HI := Lib.hid hI
  have HX : Hid (Ext w w) := Lib.hid (Ext.refl w)
  have HO : Hid (OwnF w w.heap.size (.slice none 0 0) ((idl (valI t) ls).take 0)) := Lib.hid ⟨rfl, .inl ⟨rfl, rfl⟩⟩
  clear hA key hI sl
  generalize hz : ofI (sumV ls) = z at *
  clear hz
  go_enter Tryz.func168, Tryz.ntmps168
  go_wp2_with fail
  refine (HCK.out _ HX.out).mono ?_
  rintro e v1 ⟨rfl, hx1⟩
  replace HO := Lib.hid (HO.out.ext hx1)
  replace HX := Lib.hid (HX.out.trans hx1)
  clear hx1
  go_wp2_with fail
  refine (HSM.out _ HX.out).mono ?_
  rintro e v2 ⟨rfl, hx1⟩
  replace HO := Lib.hid (HO.out.ext hx1)
  replace HX := Lib.hid (HX.out.trans hx1)
  clear hx1
  go_wp2_with fail
  go_loopw [9, 8, 10, 11] (fun i v _ _ wr => ∃ k : Nat, k ≤ ls.length ∧ i = .int .i64 k ∧ OwnF wr w.heap.size v ((idl (valI t) ls).take k) ∧ Ext w wr) (fun i _ _ _ _ => ls.length - (intOf i).toNat)
  case atStart => exact ⟨0, by omega, rfl, HO.out, HX.out⟩
  case round =>
    clear HX HO
    obtain ⟨k, hk, rfl, hown, hx⟩ := hrel
    have HX := Lib.hid hx
    have HO := Lib.hid hown
    have hlk : ((idl (valI t) ls).take k).length = k := by rw [List.length_take, idl_len]; omega
    clear hx
    by_cases hlt : k < ls.length
    · obtain ⟨b, o, rfl, hbl, c0⟩ := (HA.out.ext HX.out).at_ hlt
      have hki : (k : Int) < (ls.length : Int) := by omega
      have hk0 : (0 : Int) ≤ (k : Int) := by omega
      obtain ⟨m1, n1⟩ := KEY.out k hlt
      have M1 := Lib.hid m1
      have N1 := Lib.hid n1
      have hil : k < (idl (valI t) ls).length := by rw [idl_len]; exact hlt
      have SN := Lib.hid (fcells_snoc (idl (valI t) ls) hil)
      have hln : ((idl (valI t) ls).take (k + 1)).length = k + 1 := by rw [List.length_take, idl_len]; omega
      rw [idl_at _ _ hlt hil] at SN
      unfold OwnF at hown
      rw [hlk] at hown
      obtain ⟨A', c', rfl⟩ := own_slice hown
      clear m1 n1 hown
      generalize ofQ (Rat.divInt (valI t * valI (ls[k]'hlt)) (sumV ls)) = f at *
      generalize ofI (valI t * valI (ls[k]'hlt)) = zm at *
      generalize ls[k]'hlt = x at *
      go_wp2_with fail
      refine (M1.out _).mono ?_
      rintro e v3 ⟨rfl, hx1⟩
      replace HO := Lib.hid (HO.out.ext hx1)
      replace HX := Lib.hid (HX.out.trans hx1)
      clear hx1
      go_wp2_with fail
      refine (N1.out _).mono ?_
      rintro e w2 ⟨rfl, hx1⟩
      replace HO := Lib.hid (HO.out.ext hx1)
      replace HX := Lib.hid (HX.out.trans hx1)
      clear hx1
      have HO2 := Lib.hid ((HO.out.ext (Ext.new w2 (.cells #[.string (bs f.num), .string (bs f.den)] 28))).ext (Ext.new _ (.cells #[.string (bs f.num), .string (bs f.den)] 28)))
      have HX2 := Lib.hid ((HX.out.alloc (.cells #[.string (bs f.num), .string (bs f.den)] 28)).alloc (.cells #[.string (bs f.num), .string (bs f.den)] 28))
      have hsz := HX2.out.size
      unfold OwnF at HO2
      rw [hlk] at HO2
      go_wp2_with (at_builtin; go_loud (refine wpList_append_lies _ rfl (.tmp 37) (.tmp 39) 156 rfl w.heap.size 28 i0 _ 2 32 Tryz.underlying156 HI.out hz0 hz1 hz2 rfl (by decide) (.slice A' k c') k (fcells ((idl (valI t) ls).take k)) rfl HO2.out ⟨w2.heap.size + 1, 0, none⟩ 1 1 (frCells f) (by simp [Act.eval]) rfl (fun j u hu => by rw [Addr.add_lit, Nat.zero_add, (blk_at (w2.alloc (.cells #[.string (bs f.num), .string (bs f.den)] 28)) 28 #[.string (bs f.num), .string (bs f.den)] (w2.heap.size + 1) (by simp)).cell]; show (frCells f).toArray[j]? = some u; rw [List.getElem?_toArray]; exact hu) (oneFr f) (by decide) (by simp only [maxLen]; omega) (by omega) hsz _ rfl ?_); intro g cap w' hown' hgrow hat hlt')
      have HW' := Lib.hid hown'
      have HGR := Lib.hid hgrow
      clear hown' hgrow hat hlt'
      go_wp2_with fail
      go_roundw
      case rel =>
        refine ⟨k + 1, by omega, by go_num, ?_, Ext.grown HX2.out HGR.out (own_base HO2.out)⟩
        unfold OwnF
        rw [hln, ← SN.out]
        exact HW'.out
      case measure => simp [intOf]; omega
    · have hkl : k = ls.length := by omega
      unfold OwnF at hown HO
      rw [hlk] at hown
      obtain ⟨A', c', rfl⟩ := own_slice hown
      have HR : Hid (RdF wr A' (idl (valI t) ls)) := Lib.hid (by
        have h := Reads.own hown
        unfold RdF
        have e : (idl (valI t) ls).take k = idl (valI t) ls := List.take_of_length_le (by rw [idl_len]; omega)
        rw [e] at h
        rw [idl_len, ← hkl]
        exact h)
      clear hown
      subst hkl
      go_wp2_with fail
      go_ret2
      exact ⟨A', c', rfl, HR.out, HX.out⟩
end Go.Proofs.YtikehdbkiplleaaGreatDoor
/- The reference's division in proportion: what its steps compute for valid weights. -/
namespace Go.Proofs.YtikehdbkiplleaaGreatDoor
open Go.RowKit

theorem divInt_leR {a b c d : Int} (hb : 0 < b) (hd : 0 < d) (h : a * d ≤ c * b) : Rat.divInt a b ≤ Rat.divInt c d := by
  have k1 : (0 : Rat) < (b : Rat) := Rat.intCast_pos.2 hb
  have k2 : (0 : Rat) < (d : Rat) := Rat.intCast_pos.2 hd
  have k3 : (a : Rat) * (d : Rat) ≤ (c : Rat) * (b : Rat) := by
    have := Rat.intCast_le_intCast.2 h
    simpa using this
  have m1 : Rat.divInt a b * (b : Rat) = (a : Rat) := by
    rw [Rat.divInt_eq_div]
    exact Rat.div_mul_cancel (by grind)
  have m2 : Rat.divInt c d * (d : Rat) = (c : Rat) := by
    rw [Rat.divInt_eq_div]
    exact Rat.div_mul_cancel (by grind)
  generalize Rat.divInt a b = p at *
  generalize Rat.divInt c d = r at *
  generalize (a : Rat) = a at *
  generalize (b : Rat) = b at *
  generalize (c : Rat) = c at *
  generalize (d : Rat) = d at *
  subst m1 m2
  refine Rat.not_lt.1 (fun hlt => ?_)
  have h1 := Rat.mul_pos k1 k2
  have h2 := Rat.mul_lt_mul_of_pos_right hlt h1
  grind
/-- a rest -/
def frZ (S z : Int) : Fr := ofQ (Rat.divInt z S)
theorem frQ_frZ (S z : Int) : frQ (frZ S z) = Rat.divInt z S := frQ_ofQ _
theorem frZ_len {S z : Int} {L : Nat} (h0 : 0 < L) (hz : z.natAbs < 10 ^ L) (hS : S.natAbs < 10 ^ L) : (frZ S z).num.length ≤ L + 1 ∧ (frZ S z).den.length ≤ L + 1 := by
  have h := qb_divInt h0 hz hS
  exact ⟨h.num_len, h.den_len⟩
def rstF (T : Int) (ls : List Bs) : List Fr := (rstL T (ls.map valI)).map (frZ (sumV ls))
def prtSK (T : Int) (ls : List Bs) (j : Nat) : List Bs := (prtK T (ls.map valI) j).map ofI
def rstFK (T : Int) (ls : List Bs) (j : Nat) : List Fr := (rstK T (ls.map valI) j).map (frZ (sumV ls))
theorem rstF_len (T : Int) (ls : List Bs) : (rstF T ls).length = ls.length := by simp [rstF, rstL]
theorem rstF_at (T : Int) (ls : List Bs) {k : Nat} (hk : k < ls.length) (h : k < (rstF T ls).length) : (rstF T ls)[k]'h = frZ (sumV ls) (T * valI (ls[k]'hk) % sumV ls) := by simp [rstF, rstL, sumV]
theorem prtSK_len (T : Int) (ls : List Bs) (j : Nat) : (prtSK T ls j).length = ls.length := by simp [prtSK, prtK_len]
theorem rstFK_len (T : Int) (ls : List Bs) (j : Nat) : (rstFK T ls j).length = ls.length := by simp [rstFK, rstK_len]
theorem map_modF (S : Int) (l : List Int) (i : Nat) (v : Int) (h : l[i]? = some v) : (l.map (frZ S)).set i (frZ S (v - S)) = (l.modify i (· - S)).map (frZ S) := by
  apply List.ext_getElem?
  intro k
  rw [List.getElem?_set, List.getElem?_map, List.getElem?_map, List.getElem?_modify]
  have hi := (List.getElem?_eq_some_iff.1 h).1
  by_cases e : i = k
  · subst e; rw [if_pos rfl, if_pos (by simpa using hi), h]; simp
  · rw [if_neg e]; simp [e]
theorem lt10_mono {a L M : Nat} (h : a < 10 ^ L) (hm : L ≤ M) : a < 10 ^ M := Nat.lt_of_lt_of_le h (Nat.pow_le_pow_right (by decide) hm)
section
variable {L : Nat} {t : Bs} {ls : List Bs}
theorem sum_lt (hs : ∀ x ∈ ls, x.length ≤ L) (hW : WtOK ls) : (sumV ls).natAbs < 10 ^ (L + 7) := by
  have h := valI_lt10 (sumV_lenL L ls hs (by have := hW.le; omega))
  rwa [valI_ofI] at h
theorem prod_lt (ht : t.length ≤ L) (hs : ∀ x ∈ ls, x.length ≤ L) {k : Nat} (hk : k < ls.length) : (valI t * valI (ls[k]'hk)).natAbs < 10 ^ (L + L) := by
  rw [Int.natAbs_mul]
  exact mul_lt10 (valI_lt10 ht) (valI_lt10 (hs _ (List.getElem_mem hk)))
theorem part_lt (ht : t.length ≤ L) (hs : ∀ x ∈ ls, x.length ≤ L) {k : Nat} (hk : k < ls.length) : (valI t * valI (ls[k]'hk) / sumV ls).natAbs < 10 ^ (L + L) :=
  Nat.lt_of_le_of_lt (Int.natAbs_ediv_le_natAbs _ _) (prod_lt ht hs hk)
theorem rest_lt (hs : ∀ x ∈ ls, x.length ≤ L) (hW : WtOK ls) (n : Int) : (n % sumV ls).natAbs < 10 ^ (L + 7) := by
  have h1 := Int.emod_nonneg n (show sumV ls ≠ 0 by have := hW.sum; omega)
  have h2 := Int.emod_lt_of_pos n hW.sum
  have h3 := sum_lt hs hW
  omega
end
/-- what is done with one of the exact parts -/
structure SplOne (S n : Int) : Prop where
  ab : PureR 169 #[fv (frZ S n)] (fv (frZ S n))
  fl : PureR 170 #[fv (frZ S n)] (.string (bs (ofI (n / S))))
  of_ : PureR 61 #[.string (bs (ofI (n / S)))] (fv (ofQ ((n / S : Int) : Rat)))
  sb : PureR 62 #[fv (frZ S n), fv (ofQ ((n / S : Int) : Rat))] (fv (frZ S (n % S)))
theorem splOne {L : Nat} {S n : Int} (h0 : 0 < L) (hL : L ≤ 17000) (hS : 0 < S) (hS1 : S.natAbs < 10 ^ L) (hn : 0 ≤ n) (hn1 : n.natAbs < 10 ^ L) : SplOne S n := by
  obtain ⟨l1, l2⟩ := frZ_len h0 hn1 hS1
  have hq : (n / S).natAbs < 10 ^ L := Nat.lt_of_le_of_lt (Int.natAbs_ediv_le_natAbs _ _) hn1
  have l3 := ofI_lt10 hq
  have qb := qb_int h0 hq
  have l4 := qb.num_len
  have l5 := qb.den_len
  have hd : (0 : Rat) ≤ Rat.divInt n S := by
    have := divInt_leR (a := 0) (b := S) (c := n) (d := S) hS hS (by rw [Int.zero_mul]; exact Int.mul_nonneg hn (Int.le_of_lt hS))
    rwa [Rat.zero_divInt] at this
  have f1 := refFloorF (frZ S n) (by omega) (by omega)
  rw [frQ_frZ, ← floor_div hS] at f1
  have o1 := refOfF (ofI (n / S)) (by omega)
  rw [valI_ofI] at o1
  have s1 := refSubF (frZ S n) (ofQ ((n / S : Int) : Rat)) (by omega) (by omega) (by omega) (by omega)
  rw [frQ_frZ, frQ_ofQ, rest_den hS] at s1
  exact ⟨refAbsT (frZ S n) (by omega) (by omega) (by rw [frQ_frZ]; exact hd), f1, o1, s1⟩
theorem splCmp {L : Nat} {S a b : Int} (h0 : 0 < L) (hL : L ≤ 17000) (hS : 0 < S) (hS1 : S.natAbs < 10 ^ L) (ha : a.natAbs < 10 ^ L) (hb : b.natAbs < 10 ^ L) : PureR 173 #[fv (frZ S a), fv (frZ S b)] (.int .i64 (cmpI a b)) := by
  obtain ⟨l1, l2⟩ := frZ_len h0 ha hS1
  obtain ⟨l3, l4⟩ := frZ_len h0 hb hS1
  have := refCmpF (frZ S a) (frZ S b) (by omega) (by omega) (by omega) (by omega)
  rwa [frQ_frZ, frQ_frZ, cmp_den hS] at this
theorem oneFr_of : PureR 61 #[.string ⟨#[49]⟩] (fv (ofQ ((1 : Int) : Rat))) := by
  have := refOfF [49] (by simp)
  rwa [valI_one] at this
theorem splLess {L : Nat} {S a : Int} (h0 : 0 < L) (hL : L ≤ 17000) (hS : 0 < S) (hS1 : S.natAbs < 10 ^ L) (ha : a.natAbs < 10 ^ L) : PureR 62 #[fv (frZ S a), fv (ofQ ((1 : Int) : Rat))] (fv (frZ S (a - S))) := by
  obtain ⟨l1, l2⟩ := frZ_len h0 ha hS1
  have qb := qb_int (L := 1) (z := 1) (by decide) (by decide)
  have l3 := qb.num_len
  have l4 := qb.den_len
  have s1 := refSubF (frZ S a) (ofQ ((1 : Int) : Rat)) (by omega) (by omega) (by omega) (by omega)
  rw [frQ_frZ, frQ_ofQ] at s1
  rw [show (((1 : Int)) : Rat) = 1 from rfl, less_den hS] at s1
  exact s1
/-- how many are missing -/
structure SplMiss (t : Bs) (T sp : Int) (m : Nat) : Prop where
  o : PureR 61 #[.string (bs t)] (fv (ofQ (T : Rat)))
  a : PureR 169 #[fv (ofQ (T : Rat))] (fv (ofQ (T : Rat)))
  f : PureR 170 #[fv (ofQ (T : Rat))] (.string (bs (ofI T)))
  s : PureR 95 #[.string (bs (ofI T)), .string (bs (ofI sp))] (.string (bs (ofI (m : Int))))
  m : ∀ W, Calls Tryz.prog 171 #[.string (bs (ofI (m : Int)))] W fun e w' => e = .returned (.tuple #[.int .i64 (m : Int), .bool true]) ∧ W = w'
theorem floorQ_int (z : Int) : floorQ (z : Rat) = z := by unfold floorQ; simp
theorem splMiss {L : Nat} {t : Bs} {sp : Int} {m : Nat} (h0 : 0 < L) (hL : L ≤ 17000) (ht : t.length ≤ L) (hT : 0 ≤ valI t) (hsp : sp.natAbs < 10 ^ L) (hm : valI t - sp = (m : Int)) (hm1 : m ≤ 100000000) : SplMiss t (valI t) sp m := by
  have hlt := valI_lt10 ht
  have qb := qb_int h0 hlt
  have l1 := qb.num_len
  have l2 := qb.den_len
  have l3 := ofI_lt10 hlt
  have l4 := ofI_lt10 hsp
  have f1 := refFloorF (ofQ ((valI t : Int) : Rat)) (by omega) (by omega)
  rw [frQ_ofQ, floorQ_int] at f1
  have s1 := subR (ofI (valI t)) (ofI sp) (by omega) (by omega)
  rw [valI_ofI, valI_ofI, hm] at s1
  exact ⟨refOfF t (by omega), refAbsT _ (by omega) (by omega) (by rw [frQ_ofQ]; exact Rat.intCast_nonneg.2 hT), f1, s1, fun W => refSmallN m hm1 W⟩
theorem rstK_bounds {T : Int} {ws : List Int} (hS : 0 < ws.sum) (k : Nat) : ∀ v ∈ rstK T ws k, -ws.sum ≤ v ∧ v < ws.sum := by
  intro v hv
  obtain ⟨i, hi, rfl⟩ := List.mem_iff_getElem.1 hv
  have hl : i < (rstL T ws).length := by rw [rstL_len]; rw [rstK_len] at hi; exact hi
  have hb := rstL_bounds (T := T) hS _ (List.getElem_mem hl)
  have hg := dropAll_get ws.sum (rstL T ws) ((ords T ws).take k) (take_nodup (ords_nodup T ws) k) i hl
  have he : (rstK T ws k)[i]? = some ((rstK T ws k)[i]'hi) := List.getElem?_eq_getElem hi
  unfold rstK at he hg ⊢
  rw [hg] at he
  injection he with he
  rw [← he]
  split <;> omega
section
variable {L : Nat} {t : Bs} {ls : List Bs}
theorem split_one (h0L : 0 < L) (hL : L ≤ 8000) (ht : t.length ≤ L) (hs : ∀ x ∈ ls, x.length ≤ L) (h0 : 0 ≤ valI t) (hW : WtOK ls) (k : Nat) (hk : k < ls.length) : SplOne (sumV ls) (valI t * valI (ls[k]'hk)) :=
  splOne (L := L + L + 7) (by omega) (by omega) hW.sum (lt10_mono (sum_lt hs hW) (by omega)) (Int.mul_nonneg h0 (hW.nn _ (List.getElem_mem hk))) (lt10_mono (prod_lt ht hs hk) (by omega))
theorem split_in (hs : ∀ x ∈ ls, x.length ≤ L) (hW : WtOK ls) {a : Int} (h1 : -(sumV ls) ≤ a) (h2 : a < sumV ls) : a.natAbs < 10 ^ (L + 7) := by
  have := sum_lt hs hW
  omega
theorem split_cmp (hL : L ≤ 8000) (hs : ∀ x ∈ ls, x.length ≤ L) (hW : WtOK ls) {a b : Int} (h1 : -(sumV ls) ≤ a) (h2 : a < sumV ls) (h3 : -(sumV ls) ≤ b) (h4 : b < sumV ls) : PureR 173 #[fv (frZ (sumV ls) a), fv (frZ (sumV ls) b)] (.int .i64 (cmpI a b)) :=
  splCmp (L := L + 7) (by omega) (by omega) hW.sum (sum_lt hs hW) (split_in hs hW h1 h2) (split_in hs hW h3 h4)
theorem split_less (hL : L ≤ 8000) (hs : ∀ x ∈ ls, x.length ≤ L) (hW : WtOK ls) {a : Int} (h1 : -(sumV ls) ≤ a) (h2 : a < sumV ls) : PureR 62 #[fv (frZ (sumV ls) a), fv (ofQ ((1 : Int) : Rat))] (fv (frZ (sumV ls) (a - sumV ls))) :=
  splLess (L := L + 7) (by omega) (by omega) hW.sum (sum_lt hs hW) (split_in hs hW h1 h2)
theorem split_miss (h0L : 0 < L) (hL : L ≤ 8000) (ht : t.length ≤ L) (h0 : 0 ≤ valI t) (hW : WtOK ls) : SplMiss t (valI t) (prtL (valI t) (ls.map valI)).sum (missN (valI t) (ls.map valI)).toNat := by
  have h1 := miss_bounds (T := valI t) (ws := ls.map valI) hW.sum
  have hle := hW.le
  rw [List.length_map] at h1
  have hd : (prtL (valI t) (ls.map valI)).sum = valI t - missN (valI t) (ls.map valI) := by unfold missN; omega
  have hp := sum_nonneg _ (prt_nonneg h0 hW)
  have hlt := valI_lt10 ht
  exact splMiss (L := L) h0L (by omega) ht h0 (by omega) (by omega) (by omega)
theorem split_partlen (ht : t.length ≤ L) (hs : ∀ x ∈ ls, x.length ≤ L) (h0 : 0 ≤ valI t) (hW : WtOK ls) : ∀ x ∈ prtS (valI t) ls, x.length ≤ L + L + 1 := by
  intro x hx
  obtain ⟨v, hv, rfl⟩ := List.mem_map.1 hx
  have := prt_le ht hs h0 hW v hv
  exact ofI_lt10 (by omega)
theorem prtS_vals (T : Int) (ls : List Bs) : sumV (prtS T ls) = (prtL T (ls.map valI)).sum := by
  unfold sumV prtS
  rw [List.map_map]
  congr 1
  conv => rhs; rw [← List.map_id (prtL T (ls.map valI))]
  apply List.map_congr_left
  intro x _
  exact valI_ofI x
end
section
variable {T : Int} {ls : List Bs} {j : Nat}
theorem getD_some {l : List Int} {i : Nat} (h : i < l.length) : l[i]? = some (l.getD i 0) := by
  rw [List.getD_eq_getElem?_getD, List.getElem?_eq_getElem h]; rfl
theorem rst_val (T : Int) (ls : List Bs) (j : Nat) {i : Nat} (h : i < ls.length) : (rstFK T ls j)[i]? = some (frZ (sumV ls) ((rstK T (ls.map valI) j).getD i 0)) := by
  unfold rstFK
  rw [List.getElem?_map, getD_some (by rw [rstK_len, List.length_map]; exact h)]; rfl
theorem prt_val (T : Int) (ls : List Bs) (j : Nat) {i : Nat} (h : i < ls.length) : (prtSK T ls j)[i]? = some (ofI ((prtK T (ls.map valI) j).getD i 0)) := by
  unfold prtSK
  rw [List.getElem?_map, getD_some (by rw [prtK_len, List.length_map]; exact h)]; rfl
theorem rst_in (T : Int) {ls : List Bs} (j : Nat) (hW : WtOK ls) {i : Nat} (h : i < ls.length) : -(sumV ls) ≤ (rstK T (ls.map valI) j).getD i 0 ∧ (rstK T (ls.map valI) j).getD i 0 < sumV ls := by
  have hl : i < (rstK T (ls.map valI) j).length := by rw [rstK_len, List.length_map]; exact h
  have hm := rstK_bounds (T := T) (ws := ls.map valI) hW.sum j ((rstK T (ls.map valI) j)[i]'hl) (List.getElem_mem hl)
  have he := getD_some hl
  rw [List.getElem?_eq_getElem hl] at he
  injection he with he
  rw [← he]
  exact hm
theorem prt_next (T : Int) (ls : List Bs) (j : Nat) {b : Nat} (hj : j < (ords T (ls.map valI)).length) (hb : (ords T (ls.map valI))[j]'hj = b) : (prtSK T ls j).set b (ofI ((prtK T (ls.map valI) j).getD b 0 + 1)) = prtSK T ls (j + 1) := by
  have hl : b < (prtK T (ls.map valI) j).length := by rw [prtK_len, ← hb]; exact ords_lt _ (List.getElem_mem _)
  unfold prtSK
  rw [map_modify _ _ _ (getD_some hl), prtK_next hj, hb]
theorem rst_next (T : Int) (ls : List Bs) (j : Nat) {b : Nat} (hj : j < (ords T (ls.map valI)).length) (hb : (ords T (ls.map valI))[j]'hj = b) : (rstFK T ls j).set b (frZ (sumV ls) ((rstK T (ls.map valI) j).getD b 0 - sumV ls)) = rstFK T ls (j + 1) := by
  have hl : b < (rstK T (ls.map valI) j).length := by rw [rstK_len, ← hb]; exact ords_lt _ (List.getElem_mem _)
  unfold rstFK
  rw [map_modF _ _ _ _ (getD_some hl), rstK_next hj, hb]
  rfl
theorem prtK_len10 {L : Nat} {t : Bs} {ls : List Bs} (ht : t.length ≤ L) (hs : ∀ x ∈ ls, x.length ≤ L) (h0 : 0 ≤ valI t) (hW : WtOK ls) (j : Nat) {i : Nat} (h : i < ls.length) : (ofI ((prtK (valI t) (ls.map valI) j).getD i 0)).length ≤ L + L + 2 := by
  have hl : i < (prtL (valI t) (ls.map valI)).length := by rw [prtL_len, List.length_map]; exact h
  have hi : i < (prtK (valI t) (ls.map valI) j).length := by rw [prtK_len, List.length_map]; exact h
  have hg := bumpAll_get (prtL (valI t) (ls.map valI)) ((ords (valI t) (ls.map valI)).take j) (take_nodup (ords_nodup _ _) j) i hl
  have he := getD_some hi
  unfold prtK at he ⊢
  rw [hg] at he
  injection he with he
  rw [← he]
  have h1 := prt_le ht hs h0 hW _ (List.getElem_mem hl)
  have h2 : 10 ^ (L + L + 1) = 10 * 10 ^ (L + L) := by rw [Nat.pow_succ, Nat.mul_comm]
  have h3 : 0 < 10 ^ (L + L) := Nat.pow_pos (by decide)
  refine ofI_lt10 (L := L + L + 1) ?_
  split <;> omega
end
end Go.Proofs.YtikehdbkiplleaaGreatDoor
/- The reference's Split, for valid weights and a total that is not negative. -/
namespace Go.Proofs.YtikehdbkiplleaaGreatDoor
open Go.RowKit
attribute [local go_sem] size_bs toList_bs

/-- parts and rests as they lie in memory -/
structure SpAt (w : World) (P R : Nat) (ps : List Bs) (rs : List Fr) (W : World) : Prop where
  ext : Ext w W
  p : RowS W P ps.length ps
  r : RowF W R rs.length rs
structure SpLt (w : World) (P R : Nat) : Prop where
  pr : P ≠ R
  p : w.heap.size ≤ P
  r : w.heap.size ≤ R
section
variable {w W W' : World} {P R : Nat} {ps : List Bs} {rs : List Fr}
theorem SpAt.on (h : SpAt w P R ps rs W) (hx : Ext W W') : SpAt w P R ps rs W' := ⟨h.ext.trans hx, h.p.ext hx, h.r.ext hx⟩
theorem SpAt.putP (h : SpAt w P R ps rs W) (hl : SpLt w P R) (k : Nat) (x : Bs) : SpAt w P R (ps.set k x) rs (W.setCell ⟨P, k, none⟩ (.string (bs x))) :=
  ⟨h.ext.setCell (p := ⟨P, k, none⟩) hl.p _, by rw [List.length_set]; exact h.p.set_ k x, h.r.far (Ne.symm hl.pr) _ _⟩
theorem SpAt.putR (h : SpAt w P R ps rs W) (hl : SpLt w P R) {k : Nat} (hk : k < rs.length) (f : Fr) : SpAt w P R ps (rs.set k f) ((W.setCell ⟨R, k * 2, none⟩ (.string (bs f.num))).setCell ⟨R, k * 2 + 1, none⟩ (.string (bs f.den))) :=
  ⟨(h.ext.setCell (p := ⟨R, k * 2, none⟩) hl.r _).setCell (p := ⟨R, k * 2 + 1, none⟩) hl.r _, (h.p.far hl.pr _ _).far hl.pr _ _, by rw [List.length_set]; exact h.r.set_ hk f⟩
theorem SpAt.cells (h : SpAt w P R ps rs W) {k : Nat} {x : Bs} {f : Fr} (hx : ps[k]? = some x) (hf : rs[k]? = some f) :
    W.cell? ⟨P, k, none⟩ = some (.string (bs x)) ∧ W.frozen? ⟨P, k, none⟩ = false ∧ W.cell? ⟨R, k * 2, none⟩ = some (.string (bs f.num)) ∧ W.cell? ⟨R, k * 2 + 1, none⟩ = some (.string (bs f.den)) ∧ W.frozen? ⟨R, k * 2, none⟩ = false ∧ W.frozen? ⟨R, k * 2 + 1, none⟩ = false := by
  obtain ⟨hk, rfl⟩ := List.getElem?_eq_some_iff.1 hf
  obtain ⟨b, o, e, _, c0, c1⟩ := h.r.reads.at_ hk
  injection e with e
  injection e with e1 e2 _
  subst e1 e2
  rw [Nat.zero_add] at c0 c1
  exact ⟨h.p.cell hx, h.p.frozen _, c0, c1, h.r.frozen _, h.r.frozen _⟩
end
theorem SpAt.rcells {w W : World} {P R : Nat} {ps : List Bs} {rs : List Fr} (h : SpAt w P R ps rs W) {k : Nat} {f : Fr} (hf : rs[k]? = some f) : W.cell? ⟨R, k * 2, none⟩ = some (.string (bs f.num)) ∧ W.cell? ⟨R, k * 2 + 1, none⟩ = some (.string (bs f.den)) := by
  obtain ⟨hk, rfl⟩ := List.getElem?_eq_some_iff.1 hf
  obtain ⟨b, o, e, _, c0, c1⟩ := h.r.reads.at_ hk
  injection e with e
  injection e with e1 e2 _
  subst e1 e2
  rw [Nat.zero_add] at c0 c1
  exact ⟨c0, c1⟩
theorem blkF {w w' : World} {g : Nat} {f : Fr} (h : Blk w g 28 #[.string (bs f.num), .string (bs f.den)]) (hx : Ext w w') : w'.cell? ⟨g, 0, none⟩ = some (.string (bs f.num)) ∧ w'.cell? ⟨g, 1, none⟩ = some (.string (bs f.den)) := by
  obtain ⟨a, b, _, _⟩ := frBlk h hx
  exact ⟨a, b⟩
def TwoAt (n : Nat) (w : World) (s9 s10 : Value) (wx : World) : Prop :=
  ∃ P R, s9 = .slice (some ⟨P, 0, none⟩) n n ∧ s10 = .slice (some ⟨R, 0, none⟩) n n ∧ P ≠ R ∧ w.heap.size ≤ P ∧ w.heap.size ≤ R ∧ RowS wx P n (List.replicate n []) ∧ RowF wx R n (List.replicate n ⟨[], []⟩) ∧ Ext w wx
set_option maxRecDepth 100000 in
set_option maxHeartbeats 8000000 in
theorem refSplit (t : Bs) (ls : List Bs) (A : Option Addr) (c : Nat) (w : World) (hA : RdS w A ls) (ht : t.length ≤ 3000) (htc : checkI t = 0) (h0 : 0 ≤ valI t) (hW : WtOK ls) :
    Calls Tryz.prog 129 #[.string (bs t), .slice A ls.length c] w fun e w' => ∃ P, e = .returned (.tuple #[.slice (some ⟨P, 0, none⟩) ls.length ls.length, .int .i64 0]) ∧ w.heap.size ≤ P ∧ RowS w' P ls.length ((splitP (valI t) (ls.map valI)).map ofI) ∧ Ext w w' := by
  have HID := Lib.hid (fun W hx => refIdeal t ls A c W (hA.ext hx) (by omega) htc hW)
  have hle := hW.le
  have hS : 0 < sumV ls := hW.sum
  have hone := split_one (L := 4000) (by omega) (by omega) (by omega) hW.sm h0 hW
  have HONE := Lib.hid hone
  have hmk := makeS ls.length (by omega)
  have hmf := makeF ls.length (by omega)
  have HW := Lib.hid hW
  have HX : Hid (Ext w w) := Lib.hid (Ext.refl w)
  clear hone hA htc
  go_enter Tryz.func129, Tryz.ntmps129
  go_wp2_with fail
  refine (HID.out _ HX.out).mono ?_
  rintro e w1 ⟨A1, c1, rfl, hrd, hx1⟩
  have HI := Lib.hid hrd
  replace HX := Lib.hid (HX.out.trans hx1)
  clear hrd hx1 HID
  go_upto_region 5 with fail
  go_cut [9, 10] (fun s9 s10 wx => TwoAt ls.length w1 s9 s10 wx)
  case first =>
    go_region
    all_goals (go_wp2_with fail; go_meet; clear HX hmk hmf; first | (refine ⟨w1.heap.size, (w1.heap.size + 1), rfl, rfl, by omega, by omega, by omega, RowS.new' ?_ ?_, RowF.new ?_ ?_, (((Ext.new _ _).alloc _).drew)⟩ <;> first | omega | ((repeat' first | (refine Blk.newAt _ _ _ _ ?_; solve | simp | (simp only [World.size_alloc]; omega)) | refine Blk.drew ?_ | refine Blk.alloc ?_ _); done)) | (refine ⟨(w1.heap.size + 1), w1.heap.size, rfl, rfl, by omega, by omega, by omega, RowS.new' ?_ ?_, RowF.new ?_ ?_, (((Ext.new _ _).alloc _).drew)⟩ <;> first | omega | ((repeat' first | (refine Blk.newAt _ _ _ _ ?_; solve | simp | (simp only [World.size_alloc]; omega)) | refine Blk.drew ?_ | refine Blk.alloc ?_ _); done)))
  case rest =>
    obtain ⟨P, R, rfl, rfl, hPR, hwP, hwR, hrp, hrr, hxw⟩ := hcut
    have HLT : Hid (SpLt w1 P R) := Lib.hid ⟨hPR, hwP, hwR⟩
    have HPW : Hid (w.heap.size ≤ P) := Lib.hid (Nat.le_trans HX.out.size hwP)
    have HS : Hid (SpAt w1 P R (mixL (prtS (valI t) ls) [] 0) (mixL (rstF (valI t) ls) ⟨[], []⟩ 0) wc) := Lib.hid (by
      refine ⟨hxw, ?_, ?_⟩
      · rw [mixL_zero, prtS_len, List.length_replicate]; exact hrp
      · rw [mixL_zero, rstF_len, List.length_replicate]; exact hrr)
    have hPR' := Ne.symm hPR
    clear hrp hrr hxw hwP hwR hmk hmf
    go_wp2_with fail
    go_loopw [11, 12] (fun i _ wr => ∃ k : Nat, k ≤ ls.length ∧ i = .int .i64 k ∧ SpAt w1 P R (mixL (prtS (valI t) ls) [] k) (mixL (rstF (valI t) ls) ⟨[], []⟩ k) wr) (fun i _ _ => ls.length - (intOf i).toNat)
    case atStart => exact ⟨0, by omega, rfl, HS.out⟩
    case round =>
      clear HS
      obtain ⟨k, hk, rfl, hs⟩ := hrel
      have HS := Lib.hid hs
      clear hs
      by_cases hlt : k < ls.length
      · have hil : k < (idl (valI t) ls).length := by rw [idl_len]; exact hlt
        obtain ⟨b, o, rfl, hbl, c0, c1⟩ := (HI.out.ext HS.out.ext).at_ hil
        rw [idl_at _ _ hlt hil] at c0 c1
        have O := Lib.hid (HONE.out k hlt)
        have hpl : k < (prtS (valI t) ls).length := by rw [prtS_len]; exact hlt
        have hrl : k < (rstF (valI t) ls).length := by rw [rstF_len]; exact hlt
        have HP1 : Hid (∀ W, SpAt w1 P R (mixL (prtS (valI t) ls) [] k) (mixL (rstF (valI t) ls) ⟨[], []⟩ k) W → SpAt w1 P R (mixL (prtS (valI t) ls) [] (k + 1)) (mixL (rstF (valI t) ls) ⟨[], []⟩ k) (W.setCell ⟨P, k, none⟩ (.string (bs (ofI (valI t * valI (ls[k]'hlt) / sumV ls)))))) := Lib.hid (fun W h => by
          have h2 := h.putP HLT.out k ((prtS (valI t) ls)[k]'hpl)
          rwa [mixL_set hpl, prtS_at _ _ hlt hpl] at h2)
        have HP2 : Hid (∀ W, SpAt w1 P R (mixL (prtS (valI t) ls) [] (k + 1)) (mixL (rstF (valI t) ls) ⟨[], []⟩ k) W → SpAt w1 P R (mixL (prtS (valI t) ls) [] (k + 1)) (mixL (rstF (valI t) ls) ⟨[], []⟩ (k + 1)) ((W.setCell ⟨R, k * 2, none⟩ (.string (bs (frZ (sumV ls) (valI t * valI (ls[k]'hlt) % sumV ls)).num))).setCell ⟨R, k * 2 + 1, none⟩ (.string (bs (frZ (sumV ls) (valI t * valI (ls[k]'hlt) % sumV ls)).den)))) := Lib.hid (fun W h => by
          have h2 := h.putR HLT.out (k := k) (by rw [mixL_len (by omega)]; exact hrl) ((rstF (valI t) ls)[k]'hrl)
          rwa [mixL_set hrl, rstF_at _ _ hlt hrl] at h2)
        have HC1 : Hid (∀ W, SpAt w1 P R (mixL (prtS (valI t) ls) [] k) (mixL (rstF (valI t) ls) ⟨[], []⟩ k) W → W.cell? ⟨P, k, none⟩ = some (.string (bs [])) ∧ W.frozen? ⟨P, k, none⟩ = false) := Lib.hid (fun W h => by
          obtain ⟨a1, a2, _⟩ := h.cells (mixL_at hpl) (mixL_at hrl)
          exact ⟨a1, a2⟩)
        have hmp : (mixL (prtS (valI t) ls) [] (k + 1))[k]? = some (ofI (valI t * valI (ls[k]'hlt) / sumV ls)) := by
          unfold mixL
          rw [List.getElem?_append_left (by rw [List.length_take]; omega), List.getElem?_take, if_pos (by omega), List.getElem?_eq_getElem hpl, prtS_at _ _ hlt hpl]
        have HC2 : Hid (∀ W, SpAt w1 P R (mixL (prtS (valI t) ls) [] (k + 1)) (mixL (rstF (valI t) ls) ⟨[], []⟩ k) W → W.cell? ⟨P, k, none⟩ = some (.string (bs (ofI (valI t * valI (ls[k]'hlt) / sumV ls)))) ∧ W.cell? ⟨R, k * 2, none⟩ = some (.string (bs [])) ∧ W.cell? ⟨R, k * 2 + 1, none⟩ = some (.string (bs [])) ∧ W.frozen? ⟨R, k * 2, none⟩ = false ∧ W.frozen? ⟨R, k * 2 + 1, none⟩ = false) := Lib.hid (fun W h => by
          obtain ⟨a1, _, a3, a4, a5, a6⟩ := h.cells hmp (mixL_at hrl)
          exact ⟨a1, a3, a4, a5, a6⟩)
        have hki : (k : Int) < (ls.length : Int) := by omega
        have hk0 : (0 : Int) ≤ (k : Int) := by omega
        clear hmp hpl hrl hil
        rw [show ofQ (Rat.divInt (valI t * valI (ls[k]'hlt)) (sumV ls)) = frZ (sumV ls) (valI t * valI (ls[k]'hlt)) from rfl] at c0 c1
        generalize hnn : valI t * valI (ls[k]'hlt) = n at *
        clear hnn
        obtain ⟨oa, ofl, oo, os⟩ := O.out
        clear O
        have OA := Lib.hid oa
        have OF := Lib.hid ofl
        have OO := Lib.hid oo
        have OS := Lib.hid os
        clear oa ofl oo os
        go_wp2_with fail
        refine (OA.out _).mono ?_
        rintro e w2 ⟨rfl, hx1⟩
        have BX := Lib.hid (Blk.new w2 28 #[.string (bs (frZ (sumV ls) n).num), .string (bs (frZ (sumV ls) n).den)])
        replace HS := Lib.hid (HS.out.on hx1)
        have hPX : P < w2.heap.size := HS.out.p.lt
        have hRX : R < w2.heap.size := HS.out.r.lt
        replace HS := Lib.hid (HS.out.on (Ext.new _ (.cells #[.string (bs (frZ (sumV ls) n).num), .string (bs (frZ (sumV ls) n).den)] 28)))
        clear hx1 c0 c1 OA
        go_wp2_with fail
        refine (OF.out _).mono ?_
        rintro e w3 ⟨rfl, hx1⟩
        replace HS := Lib.hid (HS.out.on hx1)
        replace BX := Lib.hid ((BX.out.ext hx1).far (p := ⟨P, k, none⟩) (by show w2.heap.size ≠ P; omega) (.string (bs (ofI (n / sumV ls)))))
        obtain ⟨a1, a2⟩ := HC1.out _ HS.out
        replace HS := Lib.hid (HP1.out _ HS.out)
        clear hx1 OF HC1 HP1
        go_upto_region 11 with fail
        clear a1 a2 hPX
        generalize w2.heap.size = X at *
        have hX1 : X ≠ R := by omega
        have hX2 : R ≠ X := by omega
        clear hRX
        generalize w3.setCell ⟨P, k, none⟩ (.string (bs (ofI (n / sumV ls)))) = W3 at *
        have HD : Hid (Ext W3 W3.drew) := Lib.hid (Ext.refl W3).drew
        have HCC : Hid (∀ W, Ext W3 W → W.cell? ⟨X, 0, none⟩ = some (.string (bs (frZ (sumV ls) n).num)) ∧ W.cell? ⟨X, 1, none⟩ = some (.string (bs (frZ (sumV ls) n).den)) ∧ W.cell? ⟨P, k, none⟩ = some (.string (bs (ofI (n / sumV ls)))) ∧ W.cell? ⟨R, k * 2, none⟩ = some (.string (bs [])) ∧ W.cell? ⟨R, k * 2 + 1, none⟩ = some (.string (bs [])) ∧ W.frozen? ⟨R, k * 2, none⟩ = false ∧ W.frozen? ⟨R, k * 2 + 1, none⟩ = false) := Lib.hid (fun W hx => by
          obtain ⟨x0, x1⟩ := blkF BX.out hx
          exact ⟨x0, x1, HC2.out _ (HS.out.on hx)⟩)
        obtain ⟨x0, x1, a1, a3, a4, a5, a6⟩ := HCC.out _ (Ext.refl _)
        go_region_held3 (fun w' => w'.cell? ⟨X, 0, none⟩ = some (.string (bs (frZ (sumV ls) n).num)) ∧ w'.cell? ⟨X, 1, none⟩ = some (.string (bs (frZ (sumV ls) n).den)) ∧ w'.cell? ⟨P, k, none⟩ = some (.string (bs (ofI (n / sumV ls)))))
          (go_keep)
          (first
            | (go_at_call 61; ((with_reducible refine (OO.out _).mono ?_); rintro e w4 ⟨rfl, hx⟩); (replace HD := Lib.hid (HD.out.trans hx)); (obtain ⟨y0, y1, y2, y3, y4, y5, y6⟩ := HCC.out _ HD.out); clear hx OO)
            | (go_at_call 62; ((with_reducible refine (OS.out _).mono ?_); rintro e w5 ⟨rfl, hx⟩); (replace HD := Lib.hid (HD.out.trans hx)); (obtain ⟨z0, z1, z2, z3, z4, z5, z6⟩ := HCC.out _ HD.out); clear hx OS))
        all_goals
          go_wp2_with fail
          go_roundw
          case rel => exact ⟨k + 1, by omega, by go_num, HP2.out _ (HS.out.on HD.out)⟩
          case measure => simp [intOf]; omega
      · have hkl : k = ls.length := by omega
        have HS0 : Hid (SpAt w1 P R (prtSK (valI t) ls 0) (rstFK (valI t) ls 0) wr) := Lib.hid (by
          have h := HS.out
          rw [hkl] at h
          have e1 := mixL_full (l := prtS (valI t) ls) (d := ([] : Bs))
          have e2 := mixL_full (l := rstF (valI t) ls) (d := (⟨[], []⟩ : Fr))
          rw [prtS_len] at e1
          rw [rstF_len] at e2
          rw [e1, e2] at h
          exact h)
        have hmiss := split_miss (L := 4000) (by omega) (by omega) (by omega) h0 HW.out
        have hsu : ∀ W, SpAt w1 P R (prtSK (valI t) ls 0) (rstFK (valI t) ls 0) W → Calls Tryz.prog 172 #[.slice (some ⟨P, 0, none⟩) ls.length ls.length] W fun e w' => e = .returned (.string (bs (ofI (prtL (valI t) (ls.map valI)).sum))) ∧ Ext W w' := fun W h => by
          have := refSum (prtSK (valI t) ls 0) (some ⟨P, 0, none⟩) ls.length W h.p.reads 8001 (by omega) (split_partlen (L := 4000) (by omega) HW.out.sm h0 HW.out) (by rw [prtSK_len]; omega)
          rw [prtSK_len, show prtSK (valI t) ls 0 = prtS (valI t) ls from rfl, prtS_vals] at this
          exact this
        have hml : (missN (valI t) (ls.map valI)).toNat ≤ ls.length := by
          have h1 := (miss_bounds (T := valI t) (ws := ls.map valI) HW.out.sum).2
          rw [List.length_map] at h1; omega
        have HEND : Hid (∀ W, SpAt w1 P R (prtSK (valI t) ls (missN (valI t) (ls.map valI)).toNat) (rstFK (valI t) ls (missN (valI t) (ls.map valI)).toNat) W → RowS W P ls.length ((splitP (valI t) (ls.map valI)).map ofI)) := Lib.hid (fun W h => by
          have := h.p
          rw [prtSK_len] at this
          unfold prtSK at this
          rwa [prtK_end] at this)
        have nt := refNegT t (by omega)
        rw [show decide (valI t < 0) = false by rw [decide_eq_false_iff_not]; omega] at nt
        have NT := Lib.hid nt
        generalize (missN (valI t) (ls.map valI)).toNat = m at *
        generalize (prtL (valI t) (ls.map valI)).sum = sp at *
        obtain ⟨mo, ma, mf, ms, mm⟩ := hmiss
        have MO := Lib.hid mo
        have MA := Lib.hid ma
        have MF := Lib.hid mf
        have MS := Lib.hid ms
        have MM := Lib.hid (fun W => still (mm W))
        have HSU := Lib.hid hsu
        clear mo ma mf ms mm hsu nt HS HONE
        subst hkl
        go_wp2_with fail
        refine (MO.out _).mono ?_
        rintro e w4 ⟨rfl, hx1⟩
        replace HS0 := Lib.hid (HS0.out.on hx1)
        clear hx1 MO
        go_wp2_with fail
        refine (MA.out _).mono ?_
        rintro e w5 ⟨rfl, hx1⟩
        replace HS0 := Lib.hid (HS0.out.on hx1)
        clear hx1 MA
        go_wp2_with fail
        refine (MF.out _).mono ?_
        rintro e w6 ⟨rfl, hx1⟩
        replace HS0 := Lib.hid (HS0.out.on hx1)
        clear hx1 MF
        go_wp2_with fail
        refine (HSU.out _ HS0.out).mono ?_
        rintro e w7 ⟨rfl, hx1⟩
        replace HS0 := Lib.hid (HS0.out.on hx1)
        clear hx1 HSU
        go_wp2_with fail
        refine (MS.out _).mono ?_
        rintro e w8 ⟨rfl, hx1⟩
        replace HS0 := Lib.hid (HS0.out.on hx1)
        clear hx1 MS
        go_wp2_with fail
        refine (MM.out _).mono ?_
        rintro e w9 ⟨rfl, hx1⟩
        replace HS0 := Lib.hid (HS0.out.on hx1)
        clear hx1 MM
        have hpos := HW.out.pos
        go_wp2_with fail
        go_loopw [13, 15, 16] (fun mi _ _ wr' => ∃ j : Nat, j ≤ m ∧ mi = .int .i64 ((m : Int) - (j : Int)) ∧ SpAt w1 P R (prtSK (valI t) ls j) (rstFK (valI t) ls j) wr') (fun mi _ _ _ => (intOf mi).toNat)
        case atStart => exact ⟨0, by omega, by simp, HS0.out⟩
        case round =>
          clear HS0
          obtain ⟨j, hj, rfl, hs⟩ := hrel
          have HS := Lib.hid hs
          clear hs
          by_cases hjm : j < m
          · have hm0 : (0 : Int) < (m : Int) - (j : Int) := by omega
            have hm1 : decide ((0 : Int) < (m : Int) - (j : Int)) = true := decide_eq_true hm0
            have hjo : j < (ords (valI t) (ls.map valI)).length := by rw [ords_len, List.length_map]; omega
            have hfm := ords_next (T := valI t) (ws := ls.map valI) HW.out.sum hjo
            rw [List.length_map] at hfm
            have HPN := Lib.hid (fun b hb => prt_next (valI t) ls j (b := b) hjo hb)
            have HRN := Lib.hid (fun b hb => rst_next (valI t) ls j (b := b) hjo hb)
            have HPV := Lib.hid (fun i (h : i < ls.length) => prt_val (valI t) ls j h)
            have HRV := Lib.hid (fun i (h : i < ls.length) => rst_val (valI t) ls j h)
            have HIN := Lib.hid (fun i (h : i < ls.length) => rst_in (valI t) j HW.out h)
            have HPL := Lib.hid (fun i (h : i < ls.length) => prtK_len10 (L := 4000) (by omega) HW.out.sm h0 HW.out j h)
            have hBn : (ords (valI t) (ls.map valI))[j]'hjo < ls.length := by
              have := ords_lt _ (List.getElem_mem hjo)
              rwa [List.length_map] at this
            generalize hB : (ords (valI t) (ls.map valI))[j]'hjo = B at *
            have HFM := Lib.hid hfm
            clear hfm
            have HPN2 := Lib.hid (HPN.out B rfl)
            have HRN2 := Lib.hid (HRN.out B rfl)
            clear HPN HRN hB
            generalize hrk : (rstK (valI t) (ls.map valI) j) = rk at *
            generalize hpk : (prtK (valI t) (ls.map valI) j) = pk at *
            clear hrk hpk
            go_wp2_with fail
            go_loopw [16, 15] (fun vi vb wr2 => ∃ k b : Nat, k ≤ ls.length ∧ vi = .int .i64 k ∧ vb = .int .i64 b ∧ FM (fun i => rk.getD i 0) k b ∧ SpAt w1 P R (prtSK (valI t) ls j) (rstFK (valI t) ls j) wr2) (fun vi _ _ => ls.length - (intOf vi).toNat)
            case atStart => exact ⟨1, 0, by omega, rfl, rfl, FM_start _, HS.out⟩
            case round =>
              clear HS
              obtain ⟨k, b, hk, rfl, rfl, hf, hs⟩ := hrel
              have HS := Lib.hid hs
              have hbk := hf.1
              have HF := Lib.hid hf
              clear hs hf
              by_cases hkl : k < ls.length
              · have hbl : b < ls.length := by omega
                obtain ⟨i1, i2⟩ := HIN.out k hkl
                obtain ⟨i3, i4⟩ := HIN.out b hbl
                have C := Lib.hid (split_cmp (L := 4000) (by omega) HW.out.sm HW.out i1 i2 i3 i4)
                obtain ⟨r0, r1⟩ := HS.out.rcells (HRV.out k hkl)
                obtain ⟨r2, r3⟩ := HS.out.rcells (HRV.out b hbl)
                have HUP : Hid (rk.getD b 0 < rk.getD k 0 → FM (fun i => rk.getD i 0) (k + 1) k) := Lib.hid (fun h => FM_up HF.out h)
                have HST : Hid (¬ rk.getD b 0 < rk.getD k 0 → FM (fun i => rk.getD i 0) (k + 1) b) := Lib.hid (fun h => FM_stay HF.out h)
                have HRC : Hid (∀ W, Ext wr W → W.cell? ⟨R, k * 2, none⟩ = some (.string (bs (frZ (sumV ls) (rk.getD k 0)).num)) ∧ W.cell? ⟨R, k * 2 + 1, none⟩ = some (.string (bs (frZ (sumV ls) (rk.getD k 0)).den)) ∧ W.cell? ⟨R, b * 2, none⟩ = some (.string (bs (frZ (sumV ls) (rk.getD b 0)).num)) ∧ W.cell? ⟨R, b * 2 + 1, none⟩ = some (.string (bs (frZ (sumV ls) (rk.getD b 0)).den))) := Lib.hid (fun W hx => by
                  obtain ⟨a0, a1⟩ := (HS.out.on hx).rcells (HRV.out k hkl)
                  obtain ⟨a2, a3⟩ := (HS.out.on hx).rcells (HRV.out b hbl)
                  exact ⟨a0, a1, a2, a3⟩)
                have hki : (k : Int) < (ls.length : Int) := by omega
                have hk0 : (0 : Int) ≤ (k : Int) := by omega
                have hbi : (b : Int) < (ls.length : Int) := by omega
                have hb0 : (0 : Int) ≤ (b : Int) := by omega
                clear i1 i2 i3 i4
                generalize rk.getD k 0 = va at *
                generalize rk.getD b 0 = vb at *
                go_upto_region 19 with fail
                go_cut [87] (fun p87 wx => p87 = .bool (decide (0 < cmpI va vb)) ∧ SpAt w1 P R (prtSK (valI t) ls j) (rstFK (valI t) ls j) wx)
                case first =>
                  have HD : Hid (Ext wr wr.drew) := Lib.hid (Ext.refl wr).drew
                  go_region_held3 (fun w' => w'.cell? ⟨R, k * 2, none⟩ = some (.string (bs (frZ (sumV ls) va).num)) ∧ w'.cell? ⟨R, k * 2 + 1, none⟩ = some (.string (bs (frZ (sumV ls) va).den)) ∧ w'.cell? ⟨R, b * 2, none⟩ = some (.string (bs (frZ (sumV ls) vb).num)) ∧ w'.cell? ⟨R, b * 2 + 1, none⟩ = some (.string (bs (frZ (sumV ls) vb).den)))
                    (go_keep)
                    (first
                      | (go_at_call 173; ((with_reducible refine (C.out _).mono ?_); rintro e w10 ⟨rfl, hx⟩); (replace HD := Lib.hid (HD.out.trans hx)); (obtain ⟨y0, y1, y2, y3⟩ := HRC.out _ HD.out); clear hx C)
                      | fail)
                  all_goals (go_wp2_with fail; go_meet; exact ⟨rfl, HS.out.on HD.out⟩)
                case rest =>
                  obtain ⟨rfl, hs⟩ := hcut
                  have HS2 := Lib.hid hs
                  clear hs HS C r0 r1 r2 r3 HRC
                  by_cases hlt2 : vb < va
                  · have hc1 : 0 < cmpI va vb := cmpI_pos.2 hlt2
                    have g : decide (0 < cmpI va vb) = true := decide_eq_true hc1
                    have HN := Lib.hid (HUP.out hlt2)
                    clear hlt2 HUP HST
                    go_wp2_with fail
                    go_roundw
                    case rel => exact ⟨k + 1, k, by omega, by go_num, rfl, HN.out, HS2.out⟩
                    case measure => simp [intOf]; omega
                  · have hc1 : ¬ 0 < cmpI va vb := fun h => hlt2 (cmpI_pos.1 h)
                    have g : decide (0 < cmpI va vb) = false := decide_eq_false hc1
                    have HN := Lib.hid (HST.out hlt2)
                    clear hlt2 HUP HST
                    go_wp2_with fail
                    go_roundw
                    case rel => exact ⟨k + 1, b, by omega, by go_num, rfl, HN.out, HS2.out⟩
                    case measure => simp [intOf]; omega
              · have hkn : k = ls.length := by omega
                subst hkn
                have hbB : b = B := FM_unique HF.out HFM.out
                subst hbB
                obtain ⟨i3, i4⟩ := HIN.out b hBn
                have L := Lib.hid (split_less (L := 4000) (by omega) HW.out.sm HW.out i3 i4)
                have O1 := Lib.hid oneFr_of
                generalize ofQ ((1 : Int) : Rat) = one1 at O1 L
                have ad := addR (ofI (pk.getD b 0)) [49] (by have := HPL.out b hBn; omega) (by simp)
                rw [valI_ofI, valI_one] at ad
                have AD : Hid (PureR 57 #[.string (bs (ofI (pk.getD b 0))), .string ⟨#[49]⟩] (.string (bs (ofI (pk.getD b 0 + 1))))) := Lib.hid ad
                have HCE : Hid (∀ W, SpAt w1 P R (prtSK (valI t) ls j) (rstFK (valI t) ls j) W → W.cell? ⟨P, b, none⟩ = some (.string (bs (ofI (pk.getD b 0)))) ∧ W.frozen? ⟨P, b, none⟩ = false) := Lib.hid (fun W h => by
                  obtain ⟨a1, a2, _⟩ := h.cells (HPV.out b hBn) (HRV.out b hBn)
                  exact ⟨a1, a2⟩)
                have HPP : Hid (∀ W, SpAt w1 P R (prtSK (valI t) ls j) (rstFK (valI t) ls j) W → SpAt w1 P R (prtSK (valI t) ls (j + 1)) (rstFK (valI t) ls j) (W.setCell ⟨P, b, none⟩ (.string (bs (ofI (pk.getD b 0 + 1)))))) := Lib.hid (fun W h => by
                  have := h.putP HLT.out b (ofI (pk.getD b 0 + 1))
                  rwa [HPN2.out] at this)
                have HRR : Hid (∀ W, SpAt w1 P R (prtSK (valI t) ls (j + 1)) (rstFK (valI t) ls j) W → SpAt w1 P R (prtSK (valI t) ls (j + 1)) (rstFK (valI t) ls (j + 1)) ((W.setCell ⟨R, b * 2, none⟩ (.string (bs (frZ (sumV ls) (rk.getD b 0 - sumV ls)).num))).setCell ⟨R, b * 2 + 1, none⟩ (.string (bs (frZ (sumV ls) (rk.getD b 0 - sumV ls)).den)))) := Lib.hid (fun W h => by
                  have := h.putR HLT.out (k := b) (by rw [rstFK_len]; exact hBn) (frZ (sumV ls) (rk.getD b 0 - sumV ls))
                  rwa [HRN2.out] at this)
                have HRE : Hid (∀ W, SpAt w1 P R (prtSK (valI t) ls (j + 1)) (rstFK (valI t) ls j) W → W.cell? ⟨R, b * 2, none⟩ = some (.string (bs (frZ (sumV ls) (rk.getD b 0)).num)) ∧ W.cell? ⟨R, b * 2 + 1, none⟩ = some (.string (bs (frZ (sumV ls) (rk.getD b 0)).den)) ∧ W.frozen? ⟨R, b * 2, none⟩ = false ∧ W.frozen? ⟨R, b * 2 + 1, none⟩ = false) := Lib.hid (fun W h => by
                  obtain ⟨a0, a1⟩ := h.rcells (HRV.out b hBn)
                  exact ⟨a0, a1, h.r.frozen _, h.r.frozen _⟩)
                have hbi : (b : Int) < (ls.length : Int) := by omega
                have hb0 : (0 : Int) ≤ (b : Int) := by omega
                clear ad i3 i4 HF HFM HPN2 HRN2 HPV HRV HIN HPL
                generalize ofI (pk.getD b 0 + 1) = pv' at *
                generalize ofI (pk.getD b 0) = pv at *
                generalize frZ (sumV ls) (rk.getD b 0 - sumV ls) = fv' at *
                generalize frZ (sumV ls) (rk.getD b 0) = fv0 at *
                obtain ⟨c0, c1⟩ := HCE.out _ HS.out
                go_wp2_with fail
                refine (AD.out _).mono ?_
                rintro e w11 ⟨rfl, hx1⟩
                replace HS := Lib.hid (HS.out.on hx1)
                clear hx1 c0 c1 AD
                obtain ⟨c0, c1⟩ := HCE.out _ HS.out
                replace HS := Lib.hid (HPP.out _ HS.out)
                go_upto_region 22 with fail
                clear c0 c1 HCE HPP
                generalize w11.setCell ⟨P, b, none⟩ (.string (bs pv')) = W5 at *
                have HD : Hid (Ext W5 W5.drew) := Lib.hid (Ext.refl W5).drew
                obtain ⟨r0, r1, r2, r3⟩ := HRE.out _ HS.out
                go_region_law (first
                    | (go_simp; go_at_call 61; ((with_reducible refine (O1.out _).mono ?_); rintro e w12 ⟨rfl, hx⟩); (replace HD := Lib.hid (HD.out.trans hx)); (obtain ⟨y0, y1, y2, y3⟩ := HRE.out _ (HS.out.on HD.out)); clear hx O1)
                    | (go_simp; go_at_call 62; ((with_reducible refine (L.out _).mono ?_); rintro e w13 ⟨rfl, hx⟩); (replace HD := Lib.hid (HD.out.trans hx)); (obtain ⟨z0, z1, z2, z3⟩ := HRE.out _ (HS.out.on HD.out)); clear hx L))
                all_goals
                  go_wp2_with fail
                  go_roundw
                  case rel => exact ⟨j + 1, by omega, by first | go_num | (congr 1; omega), HRR.out _ (HS.out.on HD.out)⟩
                  case measure => simp [intOf]; omega
          · have hjm2 : j = m := by omega
            have hm1 : decide ((0 : Int) < (m : Int) - (j : Int)) = false := by rw [decide_eq_false_iff_not]; omega
            subst hjm2
            have hj0 : (j : Int) - (j : Int) = 0 := by omega
            have HR := Lib.hid (HEND.out _ HS.out)
            go_wp2_with fail
            refine (NT.out _).mono ?_
            rintro e w11 ⟨rfl, hx1⟩
            go_wp2_with fail
            go_ret2
            exact ⟨P, rfl, HPW.out, HR.out.ext hx1, HX.out.trans (HS.out.ext.trans hx1)⟩
end Go.Proofs.YtikehdbkiplleaaGreatDoor
/- The reference's Pooling, for valid lots. -/
namespace Go.Proofs.YtikehdbkiplleaaGreatDoor
open Go.RowKit
attribute [local go_sem] size_bs toList_bs

theorem qs_hit {ls : List LotV} {ins : Bs} {k : Nat} (hk : k < ls.length) (h : (ls[k]'hk).ins = ins) : qsL (ls.take (k + 1)) ins = qsL (ls.take k) ins ++ [(ls[k]'hk).q] := by
  unfold qsL; rw [ofL_take_hit hk h]; simp
theorem qs_skip {ls : List LotV} {ins : Bs} {k : Nat} (hk : k < ls.length) (h : ¬ (ls[k]'hk).ins = ins) : qsL (ls.take k) ins = qsL (ls.take (k + 1)) ins := by
  unfold qsL; rw [ofL_take_skip hk h]
theorem qs_le (ls : List LotV) (ins : Bs) : (qsL ls ins).length ≤ ls.length := by rw [qsL_len]; exact List.length_filter_le _ _
def OwnS (w : World) (base : Nat) (v : Value) (l : List Bs) : Prop := w.ownsRow base 23 1 v l.length (scells l)
theorem OwnS.ext {w w' : World} {base : Nat} {v : Value} {l : List Bs} (h : OwnS w base v l) (hx : Ext w w') : OwnS w' base v l := own_ext2 h hx
def PlEnds (ls : List LotV) (ins : Bs) (w : World) (e : Ending) (w' : World) : Prop :=
  ∃ A c, e = .returned (.slice A ls.length c) ∧ RdL w' A (poolV ls ins) ∧ Ext w w'
theorem scells_app (a : List Bs) (x : Bs) : scells a ++ [.string (bs x)] = scells (a ++ [x]) := by simp [scells]
set_option maxRecDepth 100000 in
set_option maxHeartbeats 8000000 in
theorem refPooling (ls : List LotV) (A : Option Addr) (c : Nat) (ins : Bs) (w : World) (hL : LotsAt w A ls) (hv : checkAllL ls = 0) :
    Calls Tryz.prog 75 #[.slice A ls.length c, .string (bs ins)] w (PlEnds ls ins w) := by
  have HL := Lib.hid hL
  have HV := Lib.hid hv
  have hle := hL.le
  have HLC := Lib.hid (fun k => totC_len ins k hL.sm hL.le)
  obtain ⟨i0, hI, hz0, hz1, hz2⟩ := info_parts strInfo
  have HI := Lib.hid hI
  obtain ⟨i1, hI1, hy0, hy1, hy2⟩ := info_parts lotInfo
  have HI1 := Lib.hid hI1
  clear hI hI1 hL hv
  go_enter Tryz.func75, Tryz.ntmps75
  go_wp2_with fail
  go_loopw [7, 5, 6] (fun i v s wr => ∃ k : Nat, k ≤ ls.length ∧ i = .int .i64 k ∧ OwnS wr w.heap.size v (qsL (ls.take k) ins) ∧ s = .string (bs (ofI (totC (ls.take k) ins))) ∧ Ext w wr) (fun i _ _ _ => ls.length - (intOf i).toNat)
  case atStart => exact ⟨0, by omega, rfl, ⟨rfl, .inr ⟨w.heap.size, 0, #[], rfl, Nat.le_refl _, heap_alloc_new w _, Nat.le_refl _, by decide, rfl, rfl⟩⟩, by simp [totC, ofL, ofI_nil.2 rfl]; rfl, Ext.new _ _⟩
  case round =>
    obtain ⟨k, hk, rfl, hown, rfl, hx⟩ := hrel
    have HX := Lib.hid hx
    have HO := Lib.hid hown
    clear hx
    by_cases hlt : k < ls.length
    · obtain ⟨b, o, rfl, hbl, c0, c1', c2', c3, c4, c5, c6⟩ := (HL.out.rd.ext HX.out).at_ hlt
      clear c0 c2' c3 c6
      have hki : (k : Int) < (ls.length : Int) := by omega
      have hk0 : (0 : Int) ≤ (k : Int) := by omega
      by_cases he : (ls[k]'hlt).ins = ins
      · have hcc := totC_hit hlt he
        have hqq := qs_hit hlt he
        have hsm := HL.out.sm _ (List.getElem_mem hlt)
        have l2 := HLC.out k
        have a2 := addR (ofI (totC (ls.take k) ins)) (ls[k]'hlt).c (by omega) (by have := hsm.2.2.2.1; omega)
        rw [valI_ofI, ← hcc] at a2
        have A2 := Lib.hid a2
        have g : ((ls[k]'hlt).ins == ins) = true := beq_iff_eq.2 he
        have HAT : Hid (∀ W, Ext w W → W.cell? ⟨b, o + k * 7 + 5, none⟩ = some (.string (bs (ls[k]'hlt).c))) := Lib.hid (fun W hx => by
          obtain ⟨b2, o2, e2, _, _, _, _, _, _, d5, _⟩ := (HL.out.rd.ext hx).at_ hlt
          injection e2 with e2
          injection e2 with e3 e4 _
          subst e3 e4
          exact d5)
        have hql : (qsL (ls.take k) ins).length ≤ 100000 := Nat.le_trans (qs_le _ _) (by rw [List.length_take]; omega)
        have HQQ := Lib.hid hqq
        unfold OwnS at hown
        obtain ⟨A', c', rfl⟩ := own_slice hown
        clear hcc hsm l2 a2 he hqq hown
        generalize hq1 : qsL (ls.take (k + 1)) ins = q1 at *
        generalize hq0 : qsL (ls.take k) ins = q0 at *
        generalize (ls[k]'hlt) = x at *
        generalize hc1 : ofI (totC (ls.take (k + 1)) ins) = cc1 at *
        generalize ofI (totC (ls.take k) ins) = cc0 at *
        have HE2 := Lib.hid (And.intro hq1 hc1)
        clear hq1 hq0 hc1
        have HO2 := Lib.hid (HO.out.ext (Ext.new wr (.cells #[.string (bs x.q)] 23)))
        have HX2 := Lib.hid (HX.out.alloc (.cells #[.string (bs x.q)] 23))
        have hsz := HX2.out.size
        unfold OwnS at HO2
        go_wp2_with (at_builtin; refine wpList_append_lies _ rfl (.tmp 27) (.tmp 33) 99 rfl w.heap.size 23 i0 _ 1 16 Tryz.underlying99 HI.out hz0 hz1 hz2 rfl (by decide) (.slice A' q0.length c') q0.length (scells q0) rfl HO2.out ⟨wr.heap.size, 0, none⟩ 1 1 [.string (bs x.q)] (by simp [Act.eval]) rfl (World.news_of_block (heap_alloc_new wr _)) (by simp [Value.oneCell']) (by decide) (by simp only [maxLen]; omega) (by omega) hsz _ rfl ?_; intro g' cap w' hown' hgrow hat hlt'; (have HX3 := Lib.hid (Ext.grown HX2.out hgrow (own_base HO2.out))); (have d5 := HAT.out _ HX3.out))
        have HO3 : Hid (OwnS w' w.heap.size (.slice (some ⟨g', 0, none⟩) q1.length cap) q1) := Lib.hid (by
          rw [HQQ.out]
          unfold OwnS
          rw [List.length_append, ← scells_app]
          exact hown')
        rw [show q0.length + 1 = q1.length by rw [HQQ.out, List.length_append]; rfl]
        clear hown' hgrow hat hlt' HO2 HX2 HO HX c1' c4 c5 HQQ
        refine (A2.out _).mono ?_
        rintro e w5 ⟨rfl, hx1⟩
        replace HX3 := Lib.hid (HX3.out.trans hx1)
        replace HO3 := Lib.hid (HO3.out.ext hx1)
        clear hx1 d5
        go_wp2_with fail
        go_roundw
        case rel => exact ⟨k + 1, by omega, by go_num, by rw [HE2.out.1]; exact HO3.out, by rw [HE2.out.2], HX3.out⟩
        case measure => simp [intOf]; omega
      · have hq : qsL (ls.take k) ins = qsL (ls.take (k + 1)) ins := qs_skip hlt he
        have hcc : totC (ls.take k) ins = totC (ls.take (k + 1)) ins := by unfold totC; rw [ofL_take_skip hlt he]
        have HQ := Lib.hid hq
        have HC := Lib.hid hcc
        have g := bs_ne he
        clear he hq hcc hown
        generalize (ls[k]'hlt) = x at *
        go_wp2_with fail
        go_roundw
        case rel => exact ⟨k + 1, by omega, by go_num, by rw [← HQ.out]; exact HO.out, by rw [← HC.out], HX.out⟩
        case measure => simp [intOf]; omega
    · have hkk : k = ls.length := by omega
      subst hkk
      rw [List.take_length] at *
      have hnn : 0 ≤ totC ls ins := totC_nonneg HV.out
      have HO2 := Lib.hid (HO.out.ext (Ext.new wr (.cells #[] 50)))
      have HX2 := Lib.hid (HX.out.alloc (.cells #[] 50))
      have hsz : w.heap.size ≤ wr.heap.size := HX.out.size
      have hsz2 := HX2.out.size
      have hql := qs_le ls ins
      unfold OwnS at hown
      obtain ⟨A', c', rfl⟩ := own_slice hown
      have HRD : Hid (RdS wr A' (qsL ls ins)) := Lib.hid (Reads.own hown)
      clear hown
      generalize htc : ofI (totC ls ins) = tc at *
      generalize hqs : qsL ls ins = qs at *
      have HTC := Lib.hid (And.intro htc hqs)
      clear htc hqs
      rcases Nat.eq_zero_or_pos qs.length with h0 | h0
      · have g0 : ((qs.length : Int) == 0) = true := by rw [beq_iff_eq]; omega
        have hpl : poolV ls ins = ls := poolV_zero (by have := qsL_len ls ins; rw [HTC.out.2] at this; omega)
        have HPL := Lib.hid hpl
        clear hpl h0
        go_wp2_with (at_builtin; refine wpList_append_any _ rfl (.tmp 42) (.tmp 43) 22 rfl w.heap.size 50 i1 _ 7 96 Tryz.underlying22 HI1.out hy0 hy1 hy2 rfl (by decide) (.slice (some ⟨wr.heap.size, 0, none⟩) 0 0) 0 [] (by simp [Act.eval]) ⟨rfl, .inr ⟨wr.heap.size, 0, #[], rfl, hsz, heap_alloc_new _ _, Nat.le_refl _, by decide, rfl, rfl⟩⟩ A ls.length c (lots ls) rfl (HL.out.rd.ext HX2.out) (oneL ls) (by simp only [maxLen]; omega) (by omega) hsz2 ?_; intro v' w' hown' hgrow hat)
        have hx2 : Ext w w' := Ext.grown HX2.out hgrow (fun k hk => by injection hk with hk; subst hk; exact hsz)
        have HXE := Lib.hid hx2
        rw [Nat.zero_add, List.nil_append] at hown'
        obtain ⟨A9, c9, rfl⟩ := own_slice hown'
        have HR9 : Hid (RdL w' A9 ls) := Lib.hid (Reads.own hown')
        clear hown' hgrow hat hx2
        go_ret
        exact ⟨A9, c9, rfl, by rw [HPL.out]; exact HR9.out, HXE.out⟩
      · have g0 : ((qs.length : Int) == 0) = false := by rw [beq_eq_false_iff_ne]; omega
        have hol : 0 < (ofL ls ins).length := by have := qsL_len ls ins; rw [HTC.out.2] at this; omega
        have hwt := wt_ok ins HL.out.sm HV.out hol
        have hvt : valI tc = totC ls ins := by rw [← HTC.out.1, valI_ofI]
        have htl : tc.length ≤ 3000 := by
          have := totC_le HL.out ins
          rw [HTC.out.1] at this; omega
        have htk : checkI tc = 0 := by rw [← HTC.out.1]; exact checkI_ofI _
        rw [HTC.out.2] at hwt
        have HSP := Lib.hid (fun W (hr : RdS W A' qs) => refSplit tc qs A' c' W hr htl htk (by omega) hwt)
        have hsh : (splitP (valI tc) (qs.map valI)).map ofI = shL ls ins := by
          unfold shL splitV
          rw [if_neg (by omega), hvt, HTC.out.2]
        rw [hsh] at HSP
        have hpl : poolV ls ins = chg (costed (shL ls ins)) ins 0 ls := poolV_pos (by omega)
        have HPL := Lib.hid hpl
        have hsl : (shL ls ins).length = qs.length := by rw [shL_len, ← HTC.out.2, qsL_len]
        have hlp : 0 < ls.length := by omega
        have hso : (ofL ls ins).length = qs.length := by rw [← HTC.out.2, qsL_len]
        have HSL := Lib.hid hsl
        clear hpl hsh htk htl hwt hvt HTC
        generalize shL ls ins = ss at *
        go_wp2_with (at_builtin; refine wpList_append_any _ rfl (.tmp 42) (.tmp 43) 22 rfl w.heap.size 50 i1 _ 7 96 Tryz.underlying22 HI1.out hy0 hy1 hy2 rfl (by decide) (.slice (some ⟨wr.heap.size, 0, none⟩) 0 0) 0 [] (by simp [Act.eval]) ⟨rfl, .inr ⟨wr.heap.size, 0, #[], rfl, hsz, heap_alloc_new _ _, Nat.le_refl _, by decide, rfl, rfl⟩⟩ A ls.length c (lots ls) rfl (HL.out.rd.ext HX2.out) (oneL ls) (by simp only [maxLen]; omega) (by omega) hsz2 ?_; intro v' w' hown' hgrow hat)
        have hx3 : Ext wr w' := Ext.grown (Ext.new wr _) hgrow (fun k hk => by injection hk with hk; subst hk; exact Nat.le_refl _)
        rw [Nat.zero_add, List.nil_append] at hown'
        have HR9 : Hid (∃ g cap, v' = .slice (some ⟨g, 0, none⟩) ls.length cap ∧ w.heap.size ≤ g ∧ RowL w' g cap ls) := Lib.hid (by
          rcases hown'.2 with ⟨_, h⟩ | ⟨g, cap, cur, rfl, _⟩
          · omega
          · obtain ⟨hb, cur', hr⟩ := Row.of_own hown'
            exact ⟨g, cap, rfl, hb, cur', hr⟩)
        have HRD2 := Lib.hid (HRD.out.ext hx3)
        have HXE := Lib.hid (HX.out.trans hx3)
        clear hown' hgrow hat hx3 HRD
        obtain ⟨g, cap, rfl, hwg, hrow⟩ := HR9.out
        clear HR9
        have HROW := Lib.hid hrow
        clear hrow
        go_wp2_with fail
        refine (HSP.out _ HRD2.out).mono ?_
        rintro e w5 ⟨P, rfl, hwP, hps, hx1⟩
        have hgP : g ≠ P := by have := HROW.out.lt; omega
        have HPS := Lib.hid hps
        replace HROW := Lib.hid (HROW.out.ext hx1)
        replace HXE := Lib.hid (HXE.out.trans hx1)
        clear hps hx1 HSP HRD2 hwP
        have HW1 : Hid (w.heap.size ≤ g) := Lib.hid hwg
        have HW2 : Hid (w.heap.size ≤ w5.heap.size) := Lib.hid HXE.out.size
        go_wp2_with fail
        go_loopw [12, 11] (fun i kk wr2 => ∃ k : Nat, k ≤ ls.length ∧ i = .int .i64 k ∧ kk = .int .i64 ((ofL (ls.take k) ins).length : Nat) ∧ RowL wr2 g cap (chgK (costed ss) ins ls k) ∧ RowS wr2 P qs.length ss ∧ Ext w wr2) (fun i _ _ => ls.length - (intOf i).toNat)
        case atStart => exact ⟨0, by omega, rfl, by simp [ofL], by rw [chgK_zero]; exact HROW.out, HPS.out, HXE.out⟩
        case round =>
          clear HROW HPS HXE
          obtain ⟨k, hk, rfl, rfl, hrow, hps, hx⟩ := hrel
          have HROW := Lib.hid hrow
          have HPS := Lib.hid hps
          have HX := Lib.hid hx
          clear hrow hps hx
          by_cases hlt : k < ls.length
          · have hcl : k < (chgK (costed ss) ins ls k).length := by rw [chgK_len]; exact hlt
            obtain ⟨b2, o2, e2, hbl, c0, c1, c2, c3, c4, c5, c6⟩ := HROW.out.reads.at_ hcl
            injection e2 with e2
            injection e2 with e3 e4 _
            subst e3 e4
            rw [chgK_at hlt hcl, Nat.zero_add] at c1 c5
            have hcv : (chgK (costed ss) ins ls k)[k]? = some (ls[k]'hlt) := by rw [List.getElem?_eq_getElem hcl, chgK_at hlt hcl]
            have hki : (k : Int) < (ls.length : Int) := by omega
            have hk0 : (0 : Int) ≤ (k : Int) := by omega
            have hkc : (k : Int) < (cap : Int) := by
              obtain ⟨cur, hr⟩ := HROW.out
              have := hr.le
              rw [chgK_len] at this
              omega
            have hfz := HROW.out.frozen (k * 7 + 5)
            clear c0 c2 c3 c4 c6
            by_cases he : (ls[k]'hlt).ins = ins
            · have hj := ofL_at hlt he
              have hjl : (ofL (ls.take k) ins).length < ss.length := by
                have h1 := (List.getElem?_eq_some_iff.1 hj).1
                have h2 := HSL.out
                omega
              have hn2 : (ofL (ls.take (k + 1)) ins).length = (ofL (ls.take k) ins).length + 1 := by rw [ofL_take_hit hlt he]; simp
              have hst := HROW.out.setc hcv (ss.getD (ofL (ls.take k) ins).length [])
              rw [show ({ ls[k]'hlt with c := ss.getD (ofL (ls.take k) ins).length [] } : LotV) = costed ss (ofL (ls.take k) ins).length (ls[k]'hlt) from rfl, chgK_hit hlt he] at hst
              have hsc := HPS.out.cell (k := (ofL (ls.take k) ins).length) (x := ss.getD (ofL (ls.take k) ins).length []) (by rw [List.getD_eq_getElem?_getD, List.getElem?_eq_getElem hjl]; rfl)
              have g1 : ((ls[k]'hlt).ins == ins) = true := beq_iff_eq.2 he
              have HST := Lib.hid hst
              have hji : ((ofL (ls.take k) ins).length : Int) < (qs.length : Int) := by omega
              have hj0 : (0 : Int) ≤ ((ofL (ls.take k) ins).length : Int) := by omega
              have HN2 := Lib.hid hn2
              have HPF := Lib.hid (HPS.out.far (Ne.symm hgP) (k * 7 + 5) (.string (bs (ss.getD (ofL (ls.take k) ins).length []))))
              have HXF := Lib.hid (HX.out.setCell (p := ⟨g, k * 7 + 5, none⟩) HW1.out (.string (bs (ss.getD (ofL (ls.take k) ins).length []))))
              clear hst hn2 hj hjl he hcv HROW HPS HX
              generalize ss.getD (ofL (ls.take k) ins).length [] = y at *
              generalize (ofL (ls.take k) ins).length = j at *
              generalize (ls[k]'hlt) = x at *
              go_wp2_with fail
              go_roundw
              case rel => exact ⟨k + 1, by omega, by go_num, by rw [HN2.out]; go_num, HST.out, HPF.out, HXF.out⟩
              case measure => simp [intOf]; omega
            · have hn2 : (ofL (ls.take k) ins).length = (ofL (ls.take (k + 1)) ins).length := by rw [ofL_take_skip hlt he]
              have hst := HROW.out
              rw [chgK_skip hlt he] at hst
              have HST := Lib.hid hst
              have g1 := bs_ne he
              have HN2 := Lib.hid hn2
              clear hst hn2 he hcv HROW
              generalize (ls[k]'hlt) = x at *
              go_wp2_with fail
              go_roundw
              case rel => exact ⟨k + 1, by omega, by go_num, by rw [← HN2.out], HST.out, HPS.out, HX.out⟩
              case measure => simp [intOf]; omega
          · have hkk : k = ls.length := by omega
            have HR : Hid (RdL wr (some ⟨g, 0, none⟩) (poolV ls ins)) := Lib.hid (by
              have := HROW.out.reads
              rw [chgK_full (by omega)] at this
              rw [HPL.out]
              exact this)
            have HCL : Hid ((chgK (costed ss) ins ls k).length = ls.length) := Lib.hid chgK_len
            subst hkk
            clear HROW
            go_wp2_with fail
            go_ret
            exact ⟨some ⟨g, 0, none⟩, cap, rfl, HR.out, HX.out⟩
end Go.Proofs.YtikehdbkiplleaaGreatDoor
/- The reference's Pool and Pooled of lots. -/
namespace Go.Proofs.YtikehdbkiplleaaGreatDoor
open Go.RowKit
attribute [local go_sem] size_bs toList_bs

def RPool (n : Nat) (k : Int) (vs : List LotV) (w : World) (e : Ending) (w' : World) : Prop :=
  ∃ A c, e = .returned (.tuple #[.slice A n c, .int .i64 k]) ∧ RdL w' A vs ∧ Ext w w'
set_option maxRecDepth 100000 in
set_option maxHeartbeats 2000000 in
theorem refPool_ok (ls : List LotV) (A : Option Addr) (c : Nat) (ins : Bs) (w : World) (hL : LotsAt w A ls) (hc : ls.length ≤ c) (hv : checkAllL ls = 0) :
    Calls Tryz.prog 33 #[.slice A ls.length c, .string (bs ins)] w (RPool ls.length 0 (poolV ls ins) w) := by
  have k1 := fun W hx => refCheckAll ls A c W (hL.rd.ext hx) hL.sm hL.le hc
  rw [hv] at k1
  have K1 := Lib.hid k1
  have PL := Lib.hid (fun W hx => refPooling ls A c ins W (hL.ext hx) hv)
  have HX : Hid (Ext w w) := Lib.hid (Ext.refl w)
  clear k1 hL hv
  go_enter Tryz.func33, Tryz.ntmps33
  go_wp2_with fail
  refine (K1.out _ HX.out).mono ?_
  rintro e v1 ⟨rfl, hx1⟩
  replace HX := Lib.hid (HX.out.trans hx1)
  clear hx1
  go_wp2_with fail
  refine (PL.out _ HX.out).mono ?_
  rintro e w5 ⟨A9, c9, rfl, hr, hx1⟩
  have HR := Lib.hid hr
  replace HX := Lib.hid (HX.out.trans hx1)
  clear hr hx1
  go_wp2_with fail
  go_ret2
  exact ⟨A9, c9, rfl, HR.out, HX.out⟩
set_option maxRecDepth 100000 in
set_option maxHeartbeats 2000000 in
theorem refPool_no (ls : List LotV) (A : Option Addr) (c : Nat) (ins : Bs) (w : World) (hL : LotsAt w A ls) (hc : ls.length ≤ c) (hv : checkAllL ls ≠ 0) :
    Calls Tryz.prog 33 #[.slice A ls.length c, .string (bs ins)] w (RPool 0 1 [] w) := by
  have K1 := Lib.hid (fun W hx => refCheckAll ls A c W (hL.rd.ext hx) hL.sm hL.le hc)
  have g : (checkAllL ls != 0) = true := by rw [bne_iff_ne]; exact hv
  have HX : Hid (Ext w w) := Lib.hid (Ext.refl w)
  clear hL hv
  generalize checkAllL ls = ck at *
  go_enter Tryz.func33, Tryz.ntmps33
  go_wp2_with fail
  refine (K1.out _ HX.out).mono ?_
  rintro e w5 ⟨rfl, hx1⟩
  replace HX := Lib.hid (HX.out.trans hx1)
  clear hx1
  go_wp2_with fail
  go_ret2
  exact ⟨_, _, rfl, Reads.nil, HX.out.alloc _⟩
set_option maxRecDepth 100000 in
set_option maxHeartbeats 2000000 in
theorem refPooled_ok (ls : List LotV) (A : Option Addr) (c : Nat) (ins : Bs) (w : World) (hL : LotsAt w A ls) (hc : ls.length ≤ c) (hv : checkAllL ls = 0) :
    Calls Tryz.prog 35 #[.slice A ls.length c, .string (bs ins)] w fun e w' => e = .returned (.tuple #[.bool (decide (poolV ls ins = ls)), .int .i64 0]) ∧ Ext w w' := by
  have k1 := fun W hx => refCheckAll ls A c W (hL.rd.ext hx) hL.sm hL.le hc
  rw [hv] at k1
  have K1 := Lib.hid k1
  have PL := Lib.hid (fun W hx => refPooling ls A c ins W (hL.ext hx) hv)
  have hle := hL.le
  have sm := fun A' c' W hx (hr : RdL W A' (poolV ls ins)) => refSame ls (poolV ls ins) A A' c c' W (hL.rd.ext hx) hr (by omega) (by rw [poolV_len]; omega)
  rw [poolV_len, show decide (ls = poolV ls ins) = decide (poolV ls ins = ls) by rw [decide_eq_decide]; exact eq_comm] at sm
  have SM := Lib.hid sm
  have HX : Hid (Ext w w) := Lib.hid (Ext.refl w)
  clear k1 hL hv sm
  generalize decide (poolV ls ins = ls) = d at *
  go_enter Tryz.func35, Tryz.ntmps35
  go_wp2_with fail
  refine (K1.out _ HX.out).mono ?_
  rintro e v3 ⟨rfl, hx1⟩
  replace HX := Lib.hid (HX.out.trans hx1)
  clear hx1
  go_wp2_with fail
  refine (PL.out _ HX.out).mono ?_
  rintro e w5 ⟨A9, c9, rfl, hr, hx1⟩
  have HR := Lib.hid hr
  replace HX := Lib.hid (HX.out.trans hx1)
  clear hr hx1
  go_wp2_with fail
  refine (SM.out _ _ _ HX.out HR.out).mono ?_
  rintro e v4 ⟨rfl, hx1⟩
  replace HX := Lib.hid (HX.out.trans hx1)
  clear hx1
  go_wp2_with fail
  go_ret2
  exact ⟨rfl, HX.out⟩
set_option maxRecDepth 100000 in
set_option maxHeartbeats 2000000 in
theorem refPooled_no (ls : List LotV) (A : Option Addr) (c : Nat) (ins : Bs) (w : World) (hL : LotsAt w A ls) (hc : ls.length ≤ c) (hv : checkAllL ls ≠ 0) :
    Calls Tryz.prog 35 #[.slice A ls.length c, .string (bs ins)] w fun e w' => e = .returned (.tuple #[.bool false, .int .i64 1]) ∧ Ext w w' := by
  have K1 := Lib.hid (fun W hx => refCheckAll ls A c W (hL.rd.ext hx) hL.sm hL.le hc)
  have g : (checkAllL ls != 0) = true := by rw [bne_iff_ne]; exact hv
  have HX : Hid (Ext w w) := Lib.hid (Ext.refl w)
  clear hL hv
  generalize checkAllL ls = ck at *
  go_enter Tryz.func35, Tryz.ntmps35
  go_wp2_with fail
  refine (K1.out _ HX.out).mono ?_
  rintro e v5 ⟨rfl, hx1⟩
  replace HX := Lib.hid (HX.out.trans hx1)
  clear hx1
  go_wp2_with fail
  go_ret2
  exact ⟨rfl, HX.out⟩
end Go.Proofs.YtikehdbkiplleaaGreatDoor
/- The walk over the law AveragePool. -/
namespace Go.Proofs.YtikehdbkiplleaaGreatDoor
open Go.RowKit
attribute [local go_sem] size_bs toList_bs

set_option maxRecDepth 100000 in
set_option maxHeartbeats 4000000 in
theorem lawPool (ls : List LotV) (A : Option Addr) (c : Nat) (ins : Bs) (w : World) (hA : RdL w A ls) (hc : ls.length ≤ c) (hn : ls.length ≤ 4611686018427387904) (hE : Env w) :
    Calls Tryz.prog 6 #[.slice A ls.length c, .string (bs ins)] w fun e w' => e = .returned (.bool true) ∧ Ext w w' := by
  have HE := Lib.hid hE
  have HG := Lib.hid (refGreat ls A c w hA hn)
  cases hg : greatAll ls
  rotate_left
  · rw [hg] at HG
    clear hE hA hg
    go_enter Tryz.func6, Tryz.ntmps6
    go_wp2_with fail
    refine HG.out.mono ?_
    rintro e w1 ⟨rfl, hx1⟩
    have HX := Lib.hid hx1
    clear hx1
    go_wp2_with fail
    refine (lawAwake _ (HE.out.ext HX.out)).mono ?_
    rintro e v3 ⟨rfl, hx1⟩
    replace HX := Lib.hid (HX.out.trans hx1)
    clear hx1
    go_wp2_with fail
    go_ret
    exact ⟨rfl, HX.out⟩
  rw [hg] at HG
  have hL : LotsAt w A ls := ⟨hA, great_small hg, by have := (greatAll_no hg).1; omega⟩
  have hle := hL.le
  clear hg
  cases h3 : decide (40 < (ins.length : Int))
  rotate_left
  · clear hE hA hL
    go_enter Tryz.func6, Tryz.ntmps6
    go_wp2_with fail
    refine HG.out.mono ?_
    rintro e w1 ⟨rfl, hx1⟩
    have HX := Lib.hid hx1
    clear hx1
    go_wp2_with fail
    refine (lawAwake _ (HE.out.ext HX.out)).mono ?_
    rintro e v7 ⟨rfl, hx1⟩
    replace HX := Lib.hid (HX.out.trans hx1)
    clear hx1
    go_wp2_with fail
    go_ret
    exact ⟨rfl, HX.out⟩
  by_cases hv : checkAllL ls = 0
  · have hwt : 0 < (ofL ls ins).length → WtOK (qsL ls ins) := wt_ok ins hL.sm hv
    have h0 : avgE ls [] = 0 := avgE_ok hv (by simp)
    have P1 := Lib.hid (fun W hx => avgPool_ok ls A c ins W (hE.ext hx) (hL.ext hx) h0 hwt)
    have P2 := Lib.hid (fun W hx => refPool_ok ls A c ins W (hL.ext hx) hc hv)
    have P3 := Lib.hid (fun W hx => avgPooled_ok ls A c ins W (hE.ext hx) (hL.ext hx) h0 hwt)
    have P4 := Lib.hid (fun W hx => refPooled_ok ls A c ins W (hL.ext hx) hc hv)
    have p5 := fun A1 A2 c1 c2 W (h1 : RdL W A1 (poolV ls ins)) (h2 : RdL W A2 (poolV ls ins)) => refSame (poolV ls ins) (poolV ls ins) A1 A2 c1 c2 W h1 h2 (by rw [poolV_len]; omega) (by rw [poolV_len]; omega)
    rw [poolV_len, show decide (poolV ls ins = poolV ls ins) = true by simp] at p5
    have P5 := Lib.hid p5
    clear hwt h0 hv hL hE hA p5
    generalize decide (poolV ls ins = ls) = d at *
    go_enter Tryz.func6, Tryz.ntmps6
    go_wp2_with fail
    refine HG.out.mono ?_
    rintro e w1 ⟨rfl, hx1⟩
    have HX := Lib.hid hx1
    clear hx1
    go_wp2_with fail
    refine (P1.out _ HX.out).mono ?_
    rintro e w2 ⟨A1, k1, rfl, hr, hx1⟩
    have HR1 := Lib.hid hr
    replace HX := Lib.hid (HX.out.trans hx1)
    clear hr hx1
    go_wp2_with fail
    refine (P2.out _ HX.out).mono ?_
    rintro e w3 ⟨A2, k2, rfl, hr, hx1⟩
    have HR2 := Lib.hid hr
    replace HR1 := Lib.hid (HR1.out.ext hx1)
    replace HX := Lib.hid (HX.out.trans hx1)
    clear hr hx1
    go_wp2_with fail
    refine (P3.out _ HX.out).mono ?_
    rintro e v10 ⟨rfl, hx1⟩
    replace HR1 := Lib.hid (HR1.out.ext hx1)
    replace HR2 := Lib.hid (HR2.out.ext hx1)
    replace HX := Lib.hid (HX.out.trans hx1)
    clear hx1
    go_wp2_with fail
    refine (P4.out _ HX.out).mono ?_
    rintro e v11 ⟨rfl, hx1⟩
    replace HR1 := Lib.hid (HR1.out.ext hx1)
    replace HR2 := Lib.hid (HR2.out.ext hx1)
    replace HX := Lib.hid (HX.out.trans hx1)
    clear hx1
    go_wp2_with fail
    refine (P5.out A1 A2 k1 k2 _ HR1.out HR2.out).mono ?_
    rintro e v12 ⟨rfl, hx1⟩
    replace HX := Lib.hid (HX.out.trans hx1)
    clear hx1
    clear P1 P2 P3 P4 P5 HR1 HR2 HG
    go_wp2_with fail
    refine (lawAwake _ (HE.out.ext HX.out)).mono ?_
    rintro e v14 ⟨rfl, hx1⟩
    replace HX := Lib.hid (HX.out.trans hx1)
    clear hx1
    go_wp2_with fail
    go_ret
    exact ⟨rfl, HX.out⟩
  · have h0 : avgE ls [] ≠ 0 := by unfold avgE; rw [if_pos hv]; decide
    have h1 : avgE ls [] = 1 := by unfold avgE; rw [if_pos hv]
    have p1 := fun W hx => avgPool_no ls A c ins W (hE.ext hx) (hL.ext hx) h0
    have p3 := fun W hx => avgPooled_no ls A c ins W (hE.ext hx) (hL.ext hx) h0
    rw [h1] at p1 p3
    have P1 := Lib.hid p1
    have P2 := Lib.hid (fun W hx => refPool_no ls A c ins W (hL.ext hx) hc hv)
    have P3 := Lib.hid p3
    have P4 := Lib.hid (fun W hx => refPooled_no ls A c ins W (hL.ext hx) hc hv)
    have P5 : Hid (∀ (A2 : Option Addr) (c2 : Nat) (W : World), Calls Tryz.prog 36 #[.slice none 0 0, .slice A2 0 c2] W fun e w' => e = .returned (.bool true) ∧ Ext W w') := Lib.hid (fun A2 c2 W => by
      have := refSame [] [] none A2 0 c2 W Reads.nil Reads.nil (by simp) (by simp)
      simpa using this)
    clear h0 h1 p1 p3 hv hL hE hA
    go_enter Tryz.func6, Tryz.ntmps6
    go_wp2_with fail
    refine HG.out.mono ?_
    rintro e w1 ⟨rfl, hx1⟩
    have HX := Lib.hid hx1
    clear hx1
    go_wp2_with fail
    refine (P1.out _ HX.out).mono ?_
    rintro e v17 ⟨rfl, hx1⟩
    replace HX := Lib.hid (HX.out.trans hx1)
    clear hx1
    go_wp2_with fail
    refine (P2.out _ HX.out).mono ?_
    rintro e w3 ⟨A2, k2, rfl, _, hx1⟩
    replace HX := Lib.hid (HX.out.trans hx1)
    clear hx1
    go_wp2_with fail
    refine (P3.out _ HX.out).mono ?_
    rintro e v18 ⟨rfl, hx1⟩
    replace HX := Lib.hid (HX.out.trans hx1)
    clear hx1
    go_wp2_with fail
    refine (P4.out _ HX.out).mono ?_
    rintro e v19 ⟨rfl, hx1⟩
    replace HX := Lib.hid (HX.out.trans hx1)
    clear hx1
    go_wp2_with fail
    refine (P5.out A2 k2 _).mono ?_
    rintro e v20 ⟨rfl, hx1⟩
    replace HX := Lib.hid (HX.out.trans hx1)
    clear hx1
    clear P1 P2 P3 P4 P5 HG
    go_wp2_with fail
    refine (lawAwake _ (HE.out.ext HX.out)).mono ?_
    rintro e v22 ⟨rfl, hx1⟩
    replace HX := Lib.hid (HX.out.trans hx1)
    clear hx1
    go_wp2_with fail
    go_ret
    exact ⟨rfl, HX.out⟩
end Go.Proofs.YtikehdbkiplleaaGreatDoor
namespace Go.Proofs.YtikehdbkiplleaaGreatDoor.averagePool
open Go.ChangeShapes Go.WideShapes Go.ChangeAt Go.RowKit Go.Deep Go.Joins

set_option maxRecDepth 100000 in
theorem contract (H : Type) (enc : TypeId × Value → H) (W : World) (base : Nat) (args : Array Value) (ds gs : List (DataW H)) (before : List MemPlace)
    (hval : ∀ (j : Nat) t v, Tryz.f6.params[j]? = some t → args[j]? = some v → Value.okWide Tryz.prog W .any base t v)
    (hW : DataW.Whole enc Tryz.prog Tryz.f6.params.toList Rows.averagePoolSpec.vars false W args.toList ds gs before) (hwt : (DataW.weightsEach Tryz.prog (Tryz.f6.params.toList ++ (OpenSpec.ofChange Rows.averagePoolSpec).bare.plain.varTypes Tryz.prog) (ds ++ gs)).all (· ≤ reachBytes) = true)
    (hL : laidMetH Tryz.prog Rows.averagePoolRow.laid W) (hsh : W.ShapedOpen Tryz.prog) :
    Calls Tryz.prog 6 args W fun e W' => ∃ v, e = .returned v ∧ Rows.averagePoolSpec.post enc Tryz.prog Tryz.f6 false true false false W args v W' := by
  have hE : Env W := env_of (show laidMet Tryz.prog _ W from hL) hsh
  have hW' := hW
  obtain ⟨p, q, hA0, hV, rfl, hfz, hnd⟩ := hW
  have hA : DataW.TrodAll enc Tryz.prog W 0 (fun _ => true) true Tryz.f6.params.toList args.toList ds p := hA0
  rw [Tryz.params6] at hA hval hwt
  obtain ⟨v0, vs0, d0, ds0, p0, q0, hargs, rfl, rfl, h0, r0⟩ := trodAll_cons hA
  obtain ⟨v1, vs1, d1, ds1, p1, q1, rfl, rfl, rfl, h1, r1⟩ := trodAll_cons r0
  obtain ⟨rfl, rfl, rfl⟩ := trodAll_nil r1
  obtain rfl : args = #[v0, v1] := by cases args; simp_all
  obtain ⟨rfl, rfl⟩ := trodVars_none hV
  simp only [List.append_nil, List.cons_append, List.nil_append, DataW.weightsEach, List.all_append, Bool.and_eq_true] at hwt
  obtain ⟨s0, A0, c0, rfl, hR0, hc0, hn0⟩ := open_lots (hval 0 22 v0 rfl rfl) h0 hwt.1
  obtain ⟨x1, rfl, rfl, rfl, hx1⟩ := ChangeMaps.open_string Tryz.underlying9 (hval 1 9 v1 rfl rfl) h1
  obtain ⟨t1, rfl⟩ : ∃ t, x1 = bs t := ⟨L x1, (bs_L x1).symm⟩
  refine (lawPool s0 A0 c0 t1 W hR0 hc0 hn0 hE).mono fun e W' ⟨he, hx⟩ => ?_
  subst he
  exact ⟨_, rfl, post_law laidOut (by kernel_rfl) (by kernel_rfl) Tryz.underlying4 rfl hW' rfl rfl rfl hx⟩

def flat1 : DataW Unit → List Value | .lit (.int k n) => [.int k n] | _ => []
def flat2 : DataW Unit → List Value | .agg ps => ps.flatMap flat1 | x => flat1 x
def flat3 : DataW Unit → List Value | .agg ps => ps.flatMap flat2 | x => flat1 x
def layIn (w : World) (g : Nat) (d : DataW Unit) : World := { w with heap := w.heap.modify g fun
  | .cells _ t frozen => .cells (flat3 d).toArray t frozen
  | o => o }
/-- A WORLD FOR THE WITNESS: the settled one, the library's tables holding what their initialisers lay. -/
noncomputable def low : Nat := (World.holding Tryz.prog default ⟨#[], #[], []⟩).heap.size
def layErr (w : World) (g b : Nat) : World := { w with heap := w.heap.modify g fun
  | .cells _ t frozen => .cells #[.iface 222 (.pointer (some ⟨b, 0, none⟩))] t frozen
  | o => o }
noncomputable def laidWorld (os : Os) : World :=
  layErr (layErr (layIn (layIn (layIn (layIn (layIn (World.holding Tryz.prog os ⟨#[.cells #[.string ⟨#[118, 97, 108, 117, 101, 32, 111, 117, 116, 32, 111, 102, 32, 114, 97, 110, 103, 101]⟩] 224, .cells #[.string ⟨#[105, 110, 118, 97, 108, 105, 100, 32, 115, 121, 110, 116, 97, 120]⟩] 224], #[], []⟩) 6 Rows.laid_math_bits_deBruijn32tab) 7 Rows.laid_math_bits_deBruijn64tab) 2 Rows.laid_internal_strconv_uint64pow10) 5 Rows.laid_unicode_utf8_acceptRanges) 4 Rows.laid_unicode_utf8_first) 1 low) 0 (low + 1)
theorem laid_met (os : Os) : laidMet Tryz.prog Rows.averagePoolRow.laid ((laidWorld os).forCall (fun _ _ => 0) ⟨#[], #[.slice none 0 0, .string ⟨#[]⟩], []⟩).memory :=
  laidMet_of_run' 8 (by kernel_rfl) (by kernel_rfl)
theorem reads (os : Os) {H : Type} (enc : TypeId × Value → H) : ∃ places, DataW.whole enc Tryz.prog ((laidWorld os).forCall (fun _ _ => 0) ⟨#[], #[.slice none 0 0, .string ⟨#[]⟩], []⟩).memory Tryz.f6.params.toList Rows.averagePoolSpec.vars false (#[.slice none 0 0, .string ⟨#[]⟩] : Array Value).toList 8 = some ([.nil, .lit (.string [])], [], places) :=
  ⟨[], by kernel_rfl⟩

set_option maxRecDepth 100000 in
theorem lifted (os : Os) (started : os.Started) (H : Type) (enc : TypeId × Value → H) (F : Stop.Interp) :
    ReturnsInHanded {} Tryz.checked os 6 .any ((OpenSpec.ofChange Rows.averagePoolSpec).preRow enc Tryz.prog Tryz.f6 Rows.averagePoolRow.domain false Rows.averagePoolRow.laid) (((OpenSpec.ofChange Rows.averagePoolSpec).at F).post enc Tryz.prog Tryz.f6 false true false false) := by
  obtain ⟨places, hx⟩ := reads os enc
  refine returnsInHanded_of_row (C := Tryz.checked) (s := OpenSpec.ofChange Rows.averagePoolSpec) own started (by kernel_rfl) Tryz.func6
    (witness_row_at (enc := enc) (C := Tryz.checked) false (laidWorld os) #[.slice none 0 0, .string ⟨#[]⟩] rfl (by kernel_rfl) (by kernel_rfl) (by kernel_rfl)
      (OpenSpec.preRow_of_cond 8 hx (by kernel_rfl) (fun k hk => by cases hk) (by kernel_rfl) (laid_met os))) ?_
  intro W base args ds gs before hval hW _ _ hwt hL hsh _
  exact contract H enc W base args ds gs before hval hW hwt hL hsh

theorem said : Rows.AveragePoolSaid :=
  OpenClaim.holds_of_cond 6 Tryz.f6 rfl rfl rfl rfl rfl rfl rfl ⟨rfl, rfl, rfl, rfl, rfl⟩ rfl rfl rfl rfl rfl (by kernel_rfl) Tryz.func6 (by kernel_rfl)
    (of_decide_eq_true (by kernel_rfl)) (by unfold Func.isWrapper; first | (rw [if_pos (by decide +kernel)]; kernel_rfl) | (rw [if_neg (by decide +kernel)]; exact ⟨rfl, rfl⟩))
    (fun os started H enc _ F => by rw [OpenClaim.pre_eq_preRow]; exact lifted os started H enc F)

theorem plain (f : FuncId) (fn : Func) (hf : Tryz.pinned.checked.prog.funcNamed "tranche/tranchelaw22.AveragePool" = some f) (hfn : Tryz.pinned.checked.prog.funcs[f]? = some fn) :
    true = Tryz.pinned.checked.prog.looks [] ∧ ∀ (j : Nat) t, fn.params[j]? = some t → Tryz.pinned.checked.prog.wantsStandIn t = false := by
  obtain rfl : f = 6 := Option.some.inj ((show Tryz.prog.funcNamed "tranche/tranchelaw22.AveragePool" = some 6 by kernel_rfl).symm.trans hf) |>.symm
  obtain rfl : fn = Tryz.f6 := (Option.some.inj (Tryz.func6.symm.trans hfn)).symm
  refine ⟨by kernel_rfl, fun j t ht => ?_⟩
  rw [Tryz.params6] at ht
  have hm := Array.mem_of_getElem? ht
  simp only [List.mem_toArray, List.mem_cons, List.not_mem_nil, or_false] at hm
  rcases hm with rfl | rfl
  · exact (show Tryz.prog.wantsStandIn 22 = false by kernel_rfl)
  · exact (show Tryz.prog.wantsStandIn 9 = false by kernel_rfl)

/-- THE CARD -/
theorem card : Rows.AveragePoolCardSaid :=
  Claim7.holds_tied_plain_at .later [] _ _ _ _ said (fun _ h => by cases h) (by kernel_rfl) (fun _ h => by cases h) averagePool_row_tie rfl ⟨rfl, rfl⟩ (by kernel_rfl) rfl plain (by kernel_rfl)
end Go.Proofs.YtikehdbkiplleaaGreatDoor.averagePool
