/- The seat's texts, part 6. -/
import Derived.Test.YteeampgbmpolfaaGreatDoorZ5
import Derived.Shelf.Spec.SlicesInsertGrow
import Derived.Deep.RegionLaw
import Derived.IntWalk
import Derived.BigQuiet
import Derived.Deep.RegionHeld3

/- Plain: a statement without one of its holdings or movements is valid; with one of its holdings twice it is not. No program in sight. -/
namespace Go.Proofs.YteeampgbmpolfaaGreatDoor
open Go.RowKit

theorem firstErr_at {f : Nat → Int} {n k : Nat} (hk : k < n) (h : ∀ j, j < k → f j = 0) (hf : f k ≠ 0) : firstErr f n = f k := firstErr_hit f n k hk h hf
/-- what is asked of one holding by itself -/
def OneH (h : Hd) : Prop := isName h.ins = true ∧ numE [h.qty] = 0 ∧ h.qty ≠ []
theorem chH_eq {hs : List Hd} {k : Nat} (hk : k < hs.length) (ho : OneH (hs[k]'hk)) : chH hs k = if 0 < k ∧ lt ((hs[k - 1]?.map (·.ins)).getD []) (hs[k]'hk).ins = false then 8 else 0 := by
  obtain ⟨a, b, c⟩ := ho
  unfold chH; rw [List.getElem?_eq_getElem hk]; simp only
  rw [if_neg (by rw [a]; decide), if_neg (fun h => h b), if_neg c]
theorem checkH_ok_iff {hs : List Hd} (hn : hs.length ≤ 64) (h1 : ∀ h ∈ hs, OneH h) (h2 : ∀ (k : Nat) (hk : k < hs.length) (h0 : 0 < k), lt ((hs[k - 1]'(by omega)).ins) (hs[k]'hk).ins = true) : checkH hs = 0 := by
  unfold checkH; rw [if_neg (by omega)]
  apply firstErr_none; intro k hk
  rw [chH_eq hk (h1 _ (List.getElem_mem hk)), if_neg]
  rintro ⟨h0, hh⟩
  have := h2 k hk h0
  rw [List.getElem?_eq_getElem (show k - 1 < hs.length by omega)] at hh
  simp only [Option.map_some, Option.getD_some] at hh
  rw [this] at hh; cases hh
def OneM (day : Int) (m : Mv) : Prop := isName m.ref = true ∧ okDay m.day = true ∧ m.day ≤ day ∧ isName m.ins = true ∧ numE [m.qty, m.amt] = 0 ∧ m.qty ≠ []
theorem chM_eq {day : Int} {ms : List Mv} {k : Nat} (hk : k < ms.length) (ho : OneM day (ms[k]'hk)) : chM day ms k = if 0 < k ∧ (ms[k]'hk).day < (ms[k - 1]?.map (·.day)).getD 0 then 8 else 0 := by
  obtain ⟨a, b, c, d, e, f⟩ := ho
  unfold chM; rw [List.getElem?_eq_getElem hk]; simp only
  rw [if_neg (by rw [a]; decide), if_neg (by rw [b]; rintro (h | h); cases h; omega), if_neg (by rw [d]; decide), if_neg (fun h => h e), if_neg f]
theorem checkM_ok_iff {day : Int} {ms : List Mv} (hn : ms.length ≤ 1000) (h1 : ∀ m ∈ ms, OneM day m) (h2 : ∀ (k : Nat) (hk : k < ms.length) (h0 : 0 < k), (ms[k - 1]'(by omega)).day ≤ (ms[k]'hk).day) : checkM day ms = 0 := by
  unfold checkM; rw [if_neg (by omega)]
  apply firstErr_none; intro k hk
  rw [chM_eq hk (h1 _ (List.getElem_mem hk)), if_neg]
  rintro ⟨h0, hh⟩
  have := h2 k hk h0
  rw [List.getElem?_eq_getElem (show k - 1 < ms.length by omega)] at hh
  simp only [Option.map_some, Option.getD_some] at hh
  omega
theorem checkH_zero {hs : List Hd} (h : checkH hs = 0) : hs.length ≤ 64 ∧ (∀ x ∈ hs, OneH x) ∧ (∀ (k : Nat) (hk : k < hs.length) (h0 : 0 < k), lt ((hs[k - 1]'(by omega)).ins) (hs[k]'hk).ins = true) := by
  unfold checkH at h
  by_cases h64 : 64 < hs.length
  · rw [if_pos h64] at h; cases h
  rw [if_neg h64] at h
  have hz := (firstErr_zero _ _).1 h
  refine ⟨by omega, fun x hx => ?_, fun k hk h0 => ?_⟩
  · obtain ⟨j, hj, rfl⟩ := List.mem_iff_getElem.1 hx
    obtain ⟨a, b, c, _⟩ := chH_ok hj (hz j hj)
    exact ⟨a, b, c⟩
  · obtain ⟨_, _, _, d⟩ := chH_ok hk (hz k hk)
    have := d h0
    rw [List.getElem?_eq_getElem (show k - 1 < hs.length by omega)] at this
    simpa using this
theorem checkM_zero {day : Int} {ms : List Mv} (h : checkM day ms = 0) : ms.length ≤ 1000 ∧ (∀ x ∈ ms, OneM day x) ∧ (∀ (k : Nat) (hk : k < ms.length) (h0 : 0 < k), (ms[k - 1]'(by omega)).day ≤ (ms[k]'hk).day) := by
  unfold checkM at h
  by_cases h64 : 1000 < ms.length
  · rw [if_pos h64] at h; cases h
  rw [if_neg h64] at h
  have hz := (firstErr_zero _ _).1 h
  refine ⟨by omega, fun x hx => ?_, fun k hk h0 => ?_⟩
  · obtain ⟨j, hj, rfl⟩ := List.mem_iff_getElem.1 hx
    obtain ⟨a, b, c, d, e, f, _⟩ := chM_ok hj (hz j hj)
    exact ⟨a, b, c, d, e, f⟩
  · obtain ⟨_, _, _, _, _, _, d⟩ := chM_ok hk (hz k hk)
    have := d h0
    rw [List.getElem?_eq_getElem (show k - 1 < ms.length by omega)] at this
    simpa using this
theorem checkS_zero {s : St} : checkS s = 0 ↔ okDay s.day = true ∧ checkH s.hs = 0 ∧ checkM s.day s.ms = 0 := by
  unfold checkS
  constructor
  · intro h
    by_cases h1 : okDay s.day = false
    · rw [if_pos h1] at h; cases h
    rw [if_neg h1] at h
    by_cases h2 : checkH s.hs = 0
    · rw [if_neg (fun e => e h2)] at h; exact ⟨by simpa using h1, h2, h⟩
    · rw [if_pos h2] at h; exact absurd h h2
  · rintro ⟨h1, h2, h3⟩
    rw [if_neg (by rw [h1]; decide), if_neg (fun e => e h2)]; exact h3
/-- without the k-th element -/
def less {α : Type} (l : List α) (k : Nat) : List α := l.take k ++ l.drop (k + 1)
/-- with the k-th element twice -/
def twice {α : Type} (l : List α) (k : Nat) (h : k < l.length) : List α := l.take k ++ [l[k]] ++ l.drop k
theorem less_len {α : Type} (l : List α) (k : Nat) (h : k < l.length) : (less l k).length = l.length - 1 := by simp [less]; omega
theorem twice_len {α : Type} (l : List α) (k : Nat) (h : k < l.length) : (twice l k h).length = l.length + 1 := by simp [twice]; omega
theorem less_get {α : Type} (l : List α) (k j : Nat) (hk : k < l.length) : (less l k)[j]? = if j < k then l[j]? else l[j + 1]? := by
  have hl : (l.take k).length = k := by simp; omega
  unfold less
  rw [List.getElem?_append, hl]
  by_cases h : j < k
  · rw [if_pos h, if_pos h, List.getElem?_take, if_pos h]
  · rw [if_neg h, if_neg h, List.getElem?_drop]; congr 1; omega
theorem less_at {α : Type} (l : List α) (k j : Nat) (h : j < (less l k).length) (hk : k < l.length) : (less l k)[j]'h = if hj : j < k then l[j]'(by omega) else l[j + 1]'(by rw [less_len l k hk] at h; omega) := by
  have hg := less_get l k j hk
  have hl := less_len l k hk
  rw [List.getElem?_eq_getElem h] at hg
  by_cases hj : j < k
  · rw [dif_pos hj]; rw [if_pos hj, List.getElem?_eq_getElem (by omega)] at hg; exact Option.some.inj hg
  · rw [dif_neg hj]; rw [if_neg hj, List.getElem?_eq_getElem (by omega)] at hg; exact Option.some.inj hg
theorem twice_get {α : Type} (l : List α) (k j : Nat) (hk : k < l.length) : (twice l k hk)[j]? = if j ≤ k then l[j]? else l[j - 1]? := by
  have hl : (l.take k).length = k := by simp; omega
  unfold twice
  rw [List.append_assoc, List.getElem?_append, hl]
  by_cases h : j < k
  · rw [if_pos h, if_pos (by omega), List.getElem?_take, if_pos h]
  · rw [if_neg h]
    by_cases h2 : j ≤ k
    · have e : j = k := by omega
      subst e
      rw [if_pos h2, Nat.sub_self, List.getElem?_eq_getElem hk]; rfl
    · rw [if_neg h2, show j - k = (j - k - 1) + 1 by omega, List.cons_append, List.nil_append, List.getElem?_cons_succ, List.getElem?_drop]; congr 1; omega
theorem twice_at {α : Type} (l : List α) (k j : Nat) (hk : k < l.length) (h : j < (twice l k hk).length) : (twice l k hk)[j]'h = if hj : j ≤ k then l[j]'(by omega) else l[j - 1]'(by rw [twice_len l k hk] at h; omega) := by
  have hg := twice_get l k j hk
  have hl := twice_len l k hk
  rw [List.getElem?_eq_getElem h] at hg
  by_cases hj : j ≤ k
  · rw [dif_pos hj]; rw [if_pos hj, List.getElem?_eq_getElem (by omega)] at hg; exact Option.some.inj hg
  · rw [dif_neg hj]; rw [if_neg hj, List.getElem?_eq_getElem (by omega)] at hg; exact Option.some.inj hg
theorem less_mem {α : Type} {l : List α} {k : Nat} {x : α} (h : x ∈ less l k) : x ∈ l := by
  unfold less at h; rcases List.mem_append.1 h with h | h
  · exact List.mem_of_mem_take h
  · exact List.mem_of_mem_drop h
theorem twice_mem {α : Type} {l : List α} {k : Nat} {hk : k < l.length} {x : α} (h : x ∈ twice l k hk) : x ∈ l := by
  unfold twice at h; rcases List.mem_append.1 h with h | h
  · rcases List.mem_append.1 h with h | h
    · exact List.mem_of_mem_take h
    · simp at h; subst h; exact List.getElem_mem hk
  · exact List.mem_of_mem_drop h
theorem lessH_ok {hs : List Hd} (h : checkH hs = 0) (k : Nat) (hk : k < hs.length) : checkH (less hs k) = 0 := by
  obtain ⟨h1, h2, h3⟩ := checkH_zero h
  refine checkH_ok_iff (by rw [less_len hs k hk]; omega) (fun x hx => h2 x (less_mem hx)) (fun j hj h0 => ?_)
  have hl := less_len hs k hk
  rw [less_at hs k j hj hk, less_at hs k (j - 1) (by omega) hk]
  by_cases a : j < k
  · rw [dif_pos a, dif_pos (by omega)]; exact h3 j (by omega) h0
  · rw [dif_neg a]
    have hs1 := h3 (j + 1) (by omega) (by omega)
    by_cases b : j - 1 < k
    · rw [dif_pos b]
      have e : j = k := by omega
      subst e
      have hs0 := h3 j (by omega) h0
      simp only [Nat.add_sub_cancel] at hs1
      exact lt_trans _ _ _ hs0 hs1
    · rw [dif_neg b]
      simp only [Nat.add_sub_cancel] at hs1
      have e : j - 1 + 1 = j := by omega
      simp only [e]; exact hs1
theorem twiceH_bad {hs : List Hd} (h : checkH hs = 0) (hn : hs.length ≤ 60) (k : Nat) (hk : k < hs.length) : checkH (twice hs k hk) = 8 := by
  obtain ⟨h1, h2, h3⟩ := checkH_zero h
  have hl := twice_len hs k hk
  unfold checkH; rw [if_neg (by omega)]
  have hall : ∀ x ∈ twice hs k hk, OneH x := fun x hx => h2 x (twice_mem hx)
  have hat : ∀ (j : Nat) (hj : j < (twice hs k hk).length), chH (twice hs k hk) j = if 0 < j ∧ lt (((twice hs k hk)[j - 1]?.map (·.ins)).getD []) ((twice hs k hk)[j]'hj).ins = false then 8 else 0 := fun j hj => chH_eq hj (hall _ (List.getElem_mem hj))
  have hbad : chH (twice hs k hk) (k + 1) = 8 := by
    rw [hat (k + 1) (by omega), if_pos]
    refine ⟨by omega, ?_⟩
    rw [List.getElem?_eq_getElem (show k + 1 - 1 < (twice hs k hk).length by omega)]
    simp only [Option.map_some, Option.getD_some, Nat.add_sub_cancel]
    rw [twice_at hs k k hk (by omega), twice_at hs k (k + 1) hk (by omega), dif_pos (Nat.le_refl _), dif_neg (by omega)]
    simp only [Nat.add_sub_cancel]
    exact lt_irrefl _
  rw [firstErr_at (k := k + 1) (by omega) (fun j hj => ?_) (by rw [hbad]; decide), hbad]
  rw [hat j (by omega), if_neg]
  rintro ⟨h0, hh⟩
  rw [List.getElem?_eq_getElem (show j - 1 < (twice hs k hk).length by omega)] at hh
  simp only [Option.map_some, Option.getD_some] at hh
  rw [twice_at hs k (j - 1) hk (by omega), twice_at hs k j hk (by omega), dif_pos (by omega), dif_pos (by omega), h3 j (by omega) h0] at hh
  cases hh
theorem lessM_ok {d : Int} {ms : List Mv} (h : checkM d ms = 0) (k : Nat) (hk : k < ms.length) : checkM d (less ms k) = 0 := by
  obtain ⟨h1, h2, h3⟩ := checkM_zero h
  refine checkM_ok_iff (by rw [less_len ms k hk]; omega) (fun x hx => h2 x (less_mem hx)) (fun j hj h0 => ?_)
  have hl := less_len ms k hk
  rw [less_at ms k j hj hk, less_at ms k (j - 1) (by omega) hk]
  by_cases a : j < k
  · rw [dif_pos a, dif_pos (by omega)]; exact h3 j (by omega) h0
  · rw [dif_neg a]
    have hs1 := h3 (j + 1) (by omega) (by omega)
    by_cases b : j - 1 < k
    · rw [dif_pos b]
      have e : j = k := by omega
      subst e
      have hs0 := h3 j (by omega) h0
      simp only [Nat.add_sub_cancel] at hs1
      omega
    · rw [dif_neg b]
      simp only [Nat.add_sub_cancel] at hs1
      have e : j - 1 + 1 = j := by omega
      simp only [e]; exact hs1
theorem twiceM_ok {d : Int} {ms : List Mv} (h : checkM d ms = 0) (hn : ms.length ≤ 900) (k : Nat) (hk : k < ms.length) : checkM d (twice ms k hk) = 0 := by
  obtain ⟨h1, h2, h3⟩ := checkM_zero h
  have hl := twice_len ms k hk
  refine checkM_ok_iff (by omega) (fun x hx => h2 x (twice_mem hx)) (fun j hj h0 => ?_)
  rw [twice_at ms k j hk hj, twice_at ms k (j - 1) hk (by omega)]
  by_cases a : j ≤ k
  · rw [dif_pos a, dif_pos (by omega)]; exact h3 j (by omega) h0
  · rw [dif_neg a]
    by_cases b : j - 1 ≤ k
    · rw [dif_pos b]; omega
    · rw [dif_neg b]; exact h3 (j - 1) (by omega) (by omega)
/-- THE HOLDINGS -/
theorem parts_h {s : St} (h : checkS s = 0) (hn : s.hs.length ≤ 8) (k : Nat) (hk : k < s.hs.length) : checkS { s with hs := less s.hs k } = 0 ∧ checkS { s with hs := twice s.hs k hk } = 8 := by
  obtain ⟨h1, h2, h3⟩ := checkS_zero.1 h
  refine ⟨checkS_zero.2 ⟨h1, lessH_ok h2 k hk, h3⟩, ?_⟩
  have hb := twiceH_bad h2 (by omega) k hk
  unfold checkS; simp only
  rw [if_neg (by rw [h1]; decide), hb]; rfl
/-- THE MOVEMENTS -/
theorem parts_m {s : St} (h : checkS s = 0) (hn : s.ms.length ≤ 8) (k : Nat) (hk : k < s.ms.length) : checkS { s with ms := less s.ms k } = 0 ∧ checkS { s with ms := twice s.ms k hk } = 0 := by
  obtain ⟨h1, h2, h3⟩ := checkS_zero.1 h
  exact ⟨checkS_zero.2 ⟨h1, h2, lessM_ok h3 k hk⟩, checkS_zero.2 ⟨h1, h2, twiceM_ok h3 (by omega) k hk⟩⟩
end Go.Proofs.YteeampgbmpolfaaGreatDoor

/- Slices of elements of several cells: copy, clear, and blocks written in part. No program in sight. -/
namespace Go.Proofs.YteeampgbmpolfaaGreatDoor
open Go.RowKit Go.Lib

/-- 'vs' written over l from o on -/
def lsplice (l : List Value) (o : Nat) (vs : List Value) : List Value := l.take o ++ vs ++ l.drop (o + vs.length)
theorem lsplice_len (l : List Value) (o : Nat) (vs : List Value) (h : o + vs.length ≤ l.length) : (lsplice l o vs).length = l.length := by
  simp [lsplice]; omega
theorem lsplice_nil (l : List Value) (o : Nat) : lsplice l o [] = l := by simp [lsplice]
theorem lsplice_cons (l : List Value) (o : Nat) (v : Value) (vs : List Value) (h : o < l.length) : lsplice (l.set o v) (o + 1) vs = lsplice l o (v :: vs) := by
  unfold lsplice
  rw [List.length_cons, show o + 1 + vs.length = o + (vs.length + 1) by omega]
  have h1 : (l.set o v).take (o + 1) = l.take o ++ [v] := by
    rw [List.take_succ_eq_append_getElem (by simpa using h), List.getElem_set_self, List.take_set_of_le (Nat.le_refl _)]
  have h2 : (l.set o v).drop (o + (vs.length + 1)) = l.drop (o + (vs.length + 1)) := List.drop_set_of_lt (by omega)
  rw [h1, h2]; simp
theorem Blk.sets {g : Nat} {t : TypeId} : ∀ (vs : List Value) (o : Nat) (w : World) (cs : List Value), Blk w g t cs.toArray → o + vs.length ≤ cs.length → Blk (w.setCells g o vs) g t (lsplice cs o vs).toArray
  | [], o, w, cs, h, _ => by rw [lsplice_nil]; exact h
  | v :: r, o, w, cs, h, hl => by
    rw [List.length_cons] at hl
    have h1 := h.set_ o v
    rw [List.setIfInBounds_toArray] at h1
    have := Blk.sets r (o + 1) (w.setCell ⟨g, o, none⟩ v) (cs.set o v) h1 (by simp; omega)
    rw [lsplice_cons cs o v r (by omega)] at this
    exact this
theorem Only.sets {g : Nat} : ∀ (vs : List Value) (o : Nat) (a w : World), Only g a w → Only g a (w.setCells g o vs)
  | [], _, _, _, h => h
  | v :: r, o, a, w, h => Only.sets r (o + 1) a (w.setCell ⟨g, o, none⟩ v) (h.setCell o v)
theorem size_sets (g : Nat) : ∀ (vs : List Value) (o : Nat) (w : World), (w.setCells g o vs).heap.size = w.heap.size
  | [], _, _ => rfl
  | v :: r, o, w => by
    show ((w.setCell ⟨g, o, none⟩ v).setCells g (o + 1) r).heap.size = _
    rw [size_sets g r]; simp [World.setCell]
theorem Blk.shape {w : World} {g : Nat} {t : TypeId} {cs : Array Value} (h : Blk w g t cs) : w.shape? g = some (t, cs.size) := by
  unfold Blk at h; simp [World.shape?, h]
theorem Blk.sets_far {w : World} {g g' : Nat} {t : TypeId} {cs : Array Value} (h : Blk w g t cs) (hne : g ≠ g') : ∀ (vs : List Value) (o : Nat), Blk (w.setCells g' o vs) g t cs
  | [], _ => h
  | v :: r, o => Blk.sets_far (h.far (p := ⟨g', o, none⟩) hne v) hne r (o + 1)
section
variable {P : Program}
/-- copy, elements of 'size' cells -/
theorem run_copy_k (w : World) (dT sT ty elem : TypeId) (size b o dLen dCap : Nat) (a : Addr) (sLen sCap : Nat) (cs : List Value)
    (hu : P.underlying dT = some (.slice elem)) (hs : (P.info? elem).map (·.size) = some size) (n : Nat) (hmin : Nat.min sLen dLen = n) (hn : cs.length = n * size)
    (hsrc : ∀ j v, cs[j]? = some v → w.cell? (a.add j) = some v) (hc : ∀ j, j < cs.length → (w.cell? ⟨b, o + j, none⟩).isSome = true) (hf : ∀ j, j < cs.length → w.frozen? ⟨b, o + j, none⟩ = false) (h1 : ∀ v ∈ cs, v.oneCell' = true) :
    (Builtin.copy_ #[dT, sT] ty #[.slice (some ⟨b, o, none⟩) dLen dCap, .slice (some a) sLen sCap]).run P w = .ok (goInt n) (w.setCells b o cs) := by
  have hl := run_loadCells_list (P := P) w a cs hsrc
  have hst := run_storeCells_cells (P := P) b o cs 0 w (by simpa using hc) (by simpa using hf) h1
  cases hq : P.info? elem with
  | none => simp [hq] at hs
  | some i =>
    have hi : i.size = size := by simpa [hq] using hs
    rw [hn] at hl
    simp [Builtin.copy_, run_underlying hu, Builtin.lenOf, Builtin.firstCells, sizeOf, typeInfo, hq, hi, hmin, hl, hst]
/-- clear, elements of several cells -/
theorem run_clear_k (w : World) (t e ty : TypeId) (z : Value) (zs : List Value) (ht : P.underlying t = some (.slice e)) (hv : ∀ w, (zeroValue e).run P w = .ok z w) (b o n c : Nat) (hn : 0 < n) (hz : (Builtin.zeroCells z.cells n).toList = zs) (h1 : ∀ u ∈ zs, u.oneCell' = true)
    (hc : ∀ j, j < zs.length → (w.cell? ⟨b, o + j, none⟩).isSome = true) (hf : ∀ j, j < zs.length → w.frozen? ⟨b, o + j, none⟩ = false) :
    (Builtin.clear_ #[t] ty #[.slice (some ⟨b, o, none⟩) n c]).run P w = .ok (.tuple #[]) (w.setCells b o zs) := by
  have hst := run_storeCells_cells (P := P) b o zs 0 w (by simpa using hc) (by simpa using hf) h1
  simp only [Nat.add_zero] at hst
  obtain ⟨m, rfl⟩ : ∃ m, n = m + 1 := ⟨n - 1, by omega⟩
  simp [Builtin.clear_, run_underlying ht, hv, hz, hst]
end
/-- a slice of n elements at the head of a block of its own that is known whole: 'cur' are all its cells -/
structure Row (w : World) (g : Nat) (e : TypeId) (size n cap : Nat) (xs cur : List Value) : Prop where
  blk : Blk w g e cur.toArray
  len : xs.length = n * size
  le : n ≤ cap
  big : cap ≤ maxLen
  full : cur.length = cap * size
  take : cur.take (n * size) = xs
theorem Row.own {w : World} {g : Nat} {e : TypeId} {size n cap : Nat} {xs cur : List Value} (h : Row w g e size n cap xs cur) {base : Nat} (hb : base ≤ g) : w.ownsRow base e size (.slice (some ⟨g, 0, none⟩) n cap) n xs :=
  ⟨h.len, .inr ⟨g, cap, cur.toArray, rfl, hb, h.blk, h.le, h.big, by simpa using h.full, by simpa using h.take⟩⟩
theorem Row.of_own {w : World} {g : Nat} {e : TypeId} {size n cap base : Nat} {xs : List Value} (h : w.ownsRow base e size (.slice (some ⟨g, 0, none⟩) n cap) n xs) : base ≤ g ∧ ∃ cur, Row w g e size n cap xs cur := by
  obtain ⟨hl, ⟨h, _⟩ | ⟨g', cap', cur, hv, hb, hh, hle, hbig, hsz, ht⟩⟩ := h
  · cases h
  · injection hv with h1 h2 h3
    injection h1 with h1
    injection h1 with h1
    subst h1; subst h3
    exact ⟨hb, cur.toList, hh, hl, hle, hbig, by simpa using hsz, ht⟩
section
variable {w : World} {g : Nat} {e : TypeId} {size n cap : Nat} {xs cur : List Value}
theorem Row.cell (h : Row w g e size n cap xs cur) {j : Nat} {u : Value} (hu : xs[j]? = some u) : w.cell? ⟨g, j, none⟩ = some u := by
  have hj := (List.getElem?_eq_some_iff.1 hu).1
  rw [h.blk.cell j, List.getElem?_toArray, ← hu, ← h.take, List.getElem?_take, if_pos (by rw [← h.len]; exact hj)]
theorem Row.isSome_ (h : Row w g e size n cap xs cur) {j : Nat} (hj : j < cap * size) : (w.cell? ⟨g, j, none⟩).isSome = true := by
  rw [h.blk.cell j, List.getElem?_toArray, List.getElem?_eq_getElem (by rw [h.full]; exact hj)]; rfl
theorem Row.frozen (h : Row w g e size n cap xs cur) (j : Nat) : w.frozen? ⟨g, j, none⟩ = false := h.blk.frozen j
theorem Row.drew (h : Row w g e size n cap xs cur) : Row w.drew g e size n cap xs cur := { h with blk := h.blk.drew }
theorem Row.ext {w' : World} (h : Row w g e size n cap xs cur) (hx : Ext w w') : Row w' g e size n cap xs cur := { h with blk := h.blk.ext hx }
/-- cells written into the block: it is a row of as many elements as fit -/
theorem Row.put (h : Row w g e size n cap xs cur) (vs : List Value) (o : Nat) (ho : o + vs.length ≤ cap * size) {n' : Nat} {xs' : List Value} (hn' : n' ≤ cap) (hl' : xs'.length = n' * size) (hx : (lsplice cur o vs).take (n' * size) = xs') : Row (w.setCells g o vs) g e size n' cap xs' (lsplice cur o vs) :=
  ⟨Blk.sets vs o w cur h.blk (by rw [h.full]; exact ho), hl', hn', h.big, by rw [lsplice_len _ _ _ (by rw [h.full]; exact ho)]; exact h.full, hx⟩
theorem Row.reads (h : Row w g e size n cap xs cur) : Reads w size (some ⟨g, 0, none⟩) n xs :=
  ⟨h.len, fun _ => ⟨g, 0, rfl, h.blk.lt, fun j u hu => by rw [Nat.zero_add]; exact h.cell hu⟩⟩
end
theorem Ext.only {a w w' : World} {g : Nat} (h : Ext a w) (ho : Only g w w') (hg : a.heap.size ≤ g) : Ext a w' :=
  ⟨ho.os.trans h.os, ho.tape.trans h.tape, ho.output.trans h.output, Nat.le_trans h.size ho.size, fun i hi => (ho.block i (Nat.lt_of_lt_of_le hi h.size) (by intro e; injection e with e; omega)).trans (h.block i hi)⟩
theorem take_le {l : List Value} {m j : Nat} {xs : List Value} (h : l.take m = xs) (hj : j ≤ m) : l.take j = xs.take j := by
  rw [← h, List.take_take, Nat.min_eq_left hj]
/-- what stands behind one element, moved over it -/
theorem splice_del (cur xs : List Value) (k i p : Nat) (hx : cur.take ((p + 1) * k) = xs) (hl : xs.length = (p + 1) * k) (hi : i ≤ p) :
    (lsplice cur (i * k) (xs.drop ((i + 1) * k))).take (p * k) = xs.take (i * k) ++ xs.drop ((i + 1) * k) := by
  have h1 : i * k ≤ (p + 1) * k := Nat.mul_le_mul_right _ (by omega)
  have h2 : (xs.drop ((i + 1) * k)).length = (p - i) * k := by rw [List.length_drop, hl, ← Nat.sub_mul, show p + 1 - (i + 1) = p - i by omega]
  have h3 : (xs.take (i * k)).length = i * k := by rw [List.length_take, hl]; omega
  unfold lsplice
  rw [take_le hx h1, List.take_left' (by rw [List.length_append, h3, h2, ← Nat.add_mul, show i + (p - i) = p by omega])]
theorem splice_tail (cur : List Value) (o : Nat) (zs : List Value) (n : Nat) (h : n ≤ o) (ho : o ≤ cur.length) : (lsplice cur o zs).take n = cur.take n := by
  unfold lsplice
  rw [List.append_assoc, List.take_append_of_le_length (by rw [List.length_take]; omega), List.take_take, Nat.min_eq_left h]
/-- an element put before another one -/
theorem splice_ins (cur xs vs : List Value) (k i n : Nat) (hx : cur.take (n * k) = xs) (hl : xs.length = n * k) (hi : i ≤ n) (hv : vs.length = k) (hc : (n + 1) * k ≤ cur.length) :
    (lsplice (lsplice cur ((i + 1) * k) (xs.drop (i * k))) (i * k) vs).take ((n + 1) * k) = xs.take (i * k) ++ vs ++ xs.drop (i * k) := by
  have h1 : i * k ≤ n * k := Nat.mul_le_mul_right _ hi
  have h2 : (xs.drop (i * k)).length = n * k - i * k := by rw [List.length_drop, hl]
  have h3 : (xs.take (i * k)).length = i * k := by rw [List.length_take, hl]; omega
  have e1 : (i + 1) * k = i * k + k := by rw [Nat.succ_mul]
  have e2 : (n + 1) * k = n * k + k := by rw [Nat.succ_mul]
  have hc' : n * k + k ≤ cur.length := by rw [← e2]; exact hc
  rw [e1, e2]
  clear e1 e2 hc
  generalize i * k = a at *
  generalize n * k = m at *
  have h4 : (cur.take (a + k)).length = a + k := by rw [List.length_take]; omega
  have t1 : (lsplice cur (a + k) (xs.drop a)).take a = xs.take a := by
    rw [splice_tail _ _ _ _ (by omega) (by omega), take_le hx h1]
  have t2 : (lsplice cur (a + k) (xs.drop a)).drop (a + vs.length) = xs.drop a ++ cur.drop (a + k + (xs.drop a).length) := by
    unfold lsplice
    rw [hv, List.append_assoc, List.drop_left' h4]
  rw [show lsplice (lsplice cur (a + k) (xs.drop a)) a vs = (lsplice cur (a + k) (xs.drop a)).take a ++ vs ++ (lsplice cur (a + k) (xs.drop a)).drop (a + vs.length) from rfl, t1, t2, ← List.append_assoc,
    List.take_left' (by simp only [List.length_append, h3, hv, h2]; omega)]
/-- the same into a new block -/
theorem splice_new (R xs vs : List Value) (k i n : Nat) (hx : R.take (i * k) = xs.take (i * k)) (hl : xs.length = n * k) (hi : i ≤ n) (hv : vs.length = k) (hc : (n + 1) * k ≤ R.length) :
    (lsplice (lsplice R (i * k) vs) ((i + 1) * k) (xs.drop (i * k))).take ((n + 1) * k) = xs.take (i * k) ++ vs ++ xs.drop (i * k) := by
  have h1 : i * k ≤ n * k := Nat.mul_le_mul_right _ hi
  have h2 : (xs.drop (i * k)).length = n * k - i * k := by rw [List.length_drop, hl]
  have h3 : (xs.take (i * k)).length = i * k := by rw [List.length_take, hl]; omega
  have e1 : (i + 1) * k = i * k + k := by rw [Nat.succ_mul]
  have e2 : (n + 1) * k = n * k + k := by rw [Nat.succ_mul]
  have hc' : n * k + k ≤ R.length := by rw [← e2]; exact hc
  rw [e1, e2]
  clear e1 e2 hc
  generalize i * k = a at *
  generalize n * k = m at *
  have t1 : (lsplice R a vs).take (a + k) = xs.take a ++ vs := by
    unfold lsplice
    rw [hx, List.take_left' (by rw [List.length_append, h3, hv])]
  unfold lsplice at t1 ⊢
  rw [t1, List.take_left' (by simp only [List.length_append, h3, hv, h2]; omega)]
theorem ext_sets {a : World} {g : Nat} : ∀ (vs : List Value) (o : Nat) (w : World) (_ : Unit) (_ : Ext a w), a.heap.size ≤ g → Ext a (w.setCells g o vs)
  | [], _, _, _, h, _ => h
  | v :: r, o, w, _, h, hg => ext_sets r (o + 1) (w.setCell ⟨g, o, none⟩ v) () (h.setCell hg v) hg
end Go.Proofs.YteeampgbmpolfaaGreatDoor

/- The library's slices.Clone, Delete, Insert at slices of holdings. -/
namespace Go.Proofs.YteeampgbmpolfaaGreatDoor
open Go.RowKit Go.Lib
attribute [local go_sem] size_bs toList_bs

def CloneEndsH (n : Nat) (xs : List Value) (w : World) (e : Ending) (w' : World) : Prop :=
  ∃ g cap cur, e = .returned (.slice (some ⟨g, 0, none⟩) n cap) ∧ w.heap.size ≤ g ∧ Row w' g 45 2 n cap xs cur ∧ Ext w w'
theorem Row.emptyH (w : World) : Row (w.alloc (.cells #[] 45)) w.heap.size 45 2 0 0 [] [] :=
  ⟨Blk.new w _ _, rfl, Nat.le_refl _, by decide, rfl, rfl⟩
set_option maxRecDepth 100000 in
set_option maxHeartbeats 1000000 in
theorem cloneH (A : Addr) (n c : Nat) (xs : List Value) (w : World) (hr : Reads w 2 (some A) n xs) (h1 : ∀ u ∈ xs, u.oneCell' = true) (h0 : 0 < n) (hn : n ≤ 1000000) :
    Calls Tryz.prog 22 #[.slice (some A) n c] w (CloneEndsH n xs w) := by
  obtain ⟨i0, hi, hz0, hz1, hz2⟩ := info_parts holdInfo
  obtain ⟨b, o, e, hb, hc⟩ := hr.2 h0
  injection e with e
  subst e
  have HI := Lib.hid hi
  have HC : Hid (∀ j u, xs[j]? = some u → (w.alloc (.cells #[] 45)).cell? ((⟨b, o, none⟩ : Addr).add j) = some u) := Lib.hid (fun j u hu => by
    rw [Addr.add_lit]; exact ((Ext.new w _).cell (p := ⟨b, o + j, none⟩) hb).trans (hc j u hu))
  have HL := Lib.hid hr.1
  have H1 := Lib.hid h1
  clear hi hc h1 hr
  have hnil : ∀ W : World, (binOp .eql 23 (.slice (some ⟨b, o, none⟩) n c) (.slice none 0 0)).run Tryz.prog W = .ok (.bool false) W := fun W => Lib.run_eql_slice_nil W _ _ _ _ _ _ _ Tryz.underlying23
  go_enter Tryz.func22, Tryz.ntmps22
  go_wp2_with (at_builtin; refine wpList_append_lies _ rfl (.tmp 5) (.tmp 6) 23 rfl w.heap.size 45 i0 _ 2 32 Tryz.underlying23 HI.out hz0 hz1 hz2 rfl (by decide) _ 0 [] rfl ((Row.emptyH w).own (Nat.le_refl _)) ⟨b, o, none⟩ n c xs rfl HL.out HC.out H1.out h0 (by simp only [maxLen]; omega) (by omega) (by simp) _ rfl ?_; intro g cap w' hown hgrow hat hlt)
  go_ret
  simp only [Nat.zero_add, List.nil_append] at hown
  obtain ⟨hg, cur, hrow⟩ := Row.of_own hown
  exact ⟨g, cap, cur, rfl, hg, hrow, Ext.only (Ext.new w (.cells #[] 45)) hgrow (Nat.le_refl _)⟩

def DelEndsH (g p cap : Nat) (xs : List Value) (w : World) (e : Ending) (w' : World) : Prop :=
  ∃ cur, e = .returned (.slice (some ⟨g, 0, none⟩) p cap) ∧ Row w' g 45 2 p cap xs cur ∧ Only g w w'
set_option maxRecDepth 100000 in
set_option maxHeartbeats 1000000 in
theorem deleteH (g cap p i : Nat) (xs cur : List Value) (w : World) (hr : Row w g 45 2 (p + 1) cap xs cur) (h1 : ∀ u ∈ xs, u.oneCell' = true) (hi : i ≤ p) (hn : cap ≤ 9223372036854775807) :
    Calls Tryz.prog 21 #[.slice (some ⟨g, 0, none⟩) (p + 1) cap, .int .i64 i, .int .i64 ((i : Int) + 1)] w (DelEndsH g p cap (xs.take (i * 2) ++ xs.drop ((i + 1) * 2)) w) := by
  obtain ⟨i0, hI, hz0, hz1, hz2⟩ := info_parts holdInfo
  have hle := hr.le
  have HR := Lib.hid hr
  have H1 := Lib.hid h1
  have HI := Lib.hid hI
  clear hr h1 hI
  have hne : ((i : Int) == (i : Int) + 1) = false := by rw [beq_eq_false_iff_ne]; omega
  go_enter Tryz.func21, Tryz.ntmps21
  go_wp2_with fail
  have hp0 : (0 : Int) ≤ (i : Int) + 1 := by omega
  have hp1 : (i : Int) + 1 ≤ (p : Int) + 1 := by omega
  have hp2 : ((i : Int) + 1).toNat = i + 1 := by omega
  have hic : i ≤ cap := by omega
  have hdl : (xs.drop ((i + 1) * 2)).length = (p - i) * 2 := by rw [List.length_drop, HR.out.len, ← Nat.sub_mul, show p + 1 - (i + 1) = p - i by omega]
  have HDL := Lib.hid hdl
  have HD1 : Hid (∀ u ∈ xs.drop ((i + 1) * 2), u.oneCell' = true) := Lib.hid (fun u hu => H1.out u (List.mem_of_mem_drop hu))
  have HSP : Hid (∀ j, j < (xs.drop ((i + 1) * 2)).length → (w.drew.cell? ⟨g, 0 + i * 2 + j, none⟩).isSome = true ∧ w.drew.frozen? ⟨g, 0 + i * 2 + j, none⟩ = false) := Lib.hid (fun j hj => by
    rw [hdl] at hj
    exact ⟨HR.out.drew.isSome_ (by omega), HR.out.drew.frozen _⟩)
  have HNW : Hid (∀ j u, (xs.drop ((i + 1) * 2))[j]? = some u → w.drew.cell? ((⟨g, (i + 1) * 2, none⟩ : Addr).add j) = some u) := Lib.hid (fun j u hu => by
    rw [Addr.add_lit]; exact HR.out.drew.cell (by rwa [List.getElem?_drop] at hu))
  clear hdl
  have hip : i + (p - i) = p := by omega
  have hW1 : Row (w.drew.setCells g (i * 2) (xs.drop ((i + 1) * 2))) g 45 2 p cap (xs.take (i * 2) ++ xs.drop ((i + 1) * 2)) (lsplice cur (i * 2) (xs.drop ((i + 1) * 2))) :=
    HR.out.drew.put _ _ (by rw [HDL.out]; omega) (by omega) (by rw [List.length_append, HDL.out, List.length_take, HR.out.len]; omega) (splice_del cur xs 2 i p HR.out.take HR.out.len hi)
  have hcl : ∀ ty, (Builtin.clear_ #[23] ty #[.slice (some ⟨g, p * 2, none⟩) 1 (cap - p)]).run Tryz.prog (w.drew.setCells g (i * 2) (xs.drop ((i + 1) * 2))) = .ok (.tuple #[]) ((w.drew.setCells g (i * 2) (xs.drop ((i + 1) * 2))).setCells g (p * 2) [.string ⟨#[]⟩, .string ⟨#[]⟩]) := fun ty =>
    run_clear_k _ _ _ ty _ _ Tryz.underlying23 Tryz.zeroValue45 g (p * 2) 1 (cap - p) (by decide) (by kernel_rfl) (by simp [Value.oneCell']) (fun j hj => hW1.isSome_ (by simp only [List.length_cons, List.length_nil] at hj; omega)) (fun j _ => hW1.frozen _)
  have HW2 := Lib.hid (hW1.put [.string ⟨#[]⟩, .string ⟨#[]⟩] (p * 2) (by simp only [List.length_cons, List.length_nil]; omega) (n' := p) (xs' := xs.take (i * 2) ++ xs.drop ((i + 1) * 2)) (by omega) hW1.len (by rw [splice_tail _ _ _ _ (Nat.le_refl _) (by rw [hW1.full]; exact Nat.mul_le_mul_right _ (by omega))]; exact hW1.take))
  have HON : Hid (Only g w ((w.drew.setCells g (i * 2) (xs.drop ((i + 1) * 2))).setCells g (p * 2) [.string ⟨#[]⟩, .string ⟨#[]⟩])) := Lib.hid (Only.sets _ _ _ _ (Only.sets _ _ _ _ (Only.of_ext (Ext.refl w).drew)))
  clear hW1
  by_cases hcap : cap = i + 1
  · obtain rfl : i = p := by omega
    subst hcap
    have hii : (i : Int) ≤ (i : Int) + 1 := by omega
    have HNW' : Hid (∀ j u, (xs.drop ((i + 1) * 2))[j]? = some u → w.drew.cell? ((⟨g, 0, none⟩ : Addr).add j) = some u) := Lib.hid (fun j u hu => by
      have h0 : (xs.drop ((i + 1) * 2)).length = 0 := by rw [HDL.out]; simp
      rw [List.length_eq_zero_iff.1 h0] at hu; simp at hu)
    have HDL' : Hid ((xs.drop ((i + 1) * 2)).length = 0 * 2) := Lib.hid (by rw [HDL.out]; simp)
    go_region_law ((refine step_append_room (by rfl) (.tmp 22) (.tmp 25) 23 (by rfl) 45 i0 2 Tryz.underlying23 HI.out hz1 g 0 i (i + 1) (by simp [Act.eval, Act.put]) ⟨g, 0, none⟩ 0 0 (xs.drop ((i + 1) * 2)) (by simp [Act.eval, Act.put]) HDL'.out HNW'.out HD1.out (by omega) HSP.out ?_))
    simp only [Nat.add_sub_cancel_left] at hcl
    have hcl1 : (i + 1 - i) = 1 := by omega
    go_wp2_with fail
    go_ret
    exact ⟨_, rfl, HW2.out, HON.out⟩
  · go_region_law ((refine step_append_room (by rfl) (.tmp 22) (.tmp 25) 23 (by rfl) 45 i0 2 Tryz.underlying23 HI.out hz1 g 0 i cap (by simp [Act.eval, Act.put]) ⟨g, (i + 1) * 2, none⟩ (p - i) (cap - (i + 1)) (xs.drop ((i + 1) * 2)) (by simp [Act.eval, Act.put]) HDL.out HNW.out HD1.out (by omega) HSP.out ?_))
    go_wp2_with fail
    go_ret
    exact ⟨_, rfl, HW2.out, HON.out⟩

def InsEndsH (g n : Nat) (xs : List Value) (w : World) (e : Ending) (w' : World) : Prop :=
  ∃ g' cap cur, e = .returned (.slice (some ⟨g', 0, none⟩) (n + 1) cap) ∧ (g' = g ∨ w.heap.size ≤ g') ∧ Row w' g' 45 2 (n + 1) cap xs cur ∧ Only g w w'
set_option maxRecDepth 100000 in
set_option maxHeartbeats 4000000 in
theorem insertShiftH (g cap n i vb : Nat) (xs cur vs : List Value) (w : World) (hr : Row w g 45 2 n cap xs cur) (h1 : ∀ u ∈ xs, u.oneCell' = true) (hvb : Blk w vb 45 vs.toArray) (hne : vb ≠ g) (hv : vs.length = 2) (h1v : ∀ u ∈ vs, u.oneCell' = true) (hi : i < n) (hroom : n + 1 ≤ cap) (hcap : cap ≤ 9223372036854775807) :
    Calls Tryz.prog 23 #[.slice (some ⟨g, 0, none⟩) n cap, .int .i64 i, .slice (some ⟨vb, 0, none⟩) 1 1] w (InsEndsH g n (xs.take (i * 2) ++ vs ++ xs.drop (i * 2)) w) := by
  have hsz : (Tryz.prog.info? 45).map (·.size) = some 2 := by
    obtain ⟨i0, hI, _, hz1, _⟩ := info_parts holdInfo
    rw [hI]; simp [hz1]
  have hov : ∀ lb cb, (callFunc 61 #[.slice (some ⟨vb, 0, none⟩) 1 1, .slice (some ⟨g, (i + 1) * 2, none⟩) lb cb]).run Tryz.prog w = .ok (.value (.bool false)) w := fun lb cb => by
    rw [run_callFunc_extern Tryz.func61 (by kernel_rfl) (by kernel_rfl) (by kernel_rfl) (e := Extern.SlicesOverlaps.overlaps #[23, 23] #[4]) (by kernel_rfl),
      Lib.run_overlaps_apart w 23 4 45 Tryz.underlying23 2 Tryz.sizeOf45 ⟨vb, 0, none⟩ ⟨g, (i + 1) * 2, none⟩ 1 1 lb cb hne 45 45 vs.toArray.size cur.toArray.size hvb.shape hr.blk.shape (by simp only [List.size_toArray, hr.full]; omega) (hvb.frozen 0) (hvb.frozen _)]
    rfl
  have hdl : (xs.drop (i * 2)).length = (n - i) * 2 := by rw [List.length_drop, hr.len, ← Nat.sub_mul]
  have hcp1 : ∀ ty dc sc, (Builtin.copy_ #[23, 23] ty #[.slice (some ⟨g, (i + 1) * 2, none⟩) (n - i) dc, .slice (some ⟨g, i * 2, none⟩) (n + 1 - i) sc]).run Tryz.prog w.drew = .ok (goInt (n - i : Nat)) (w.drew.setCells g ((i + 1) * 2) (xs.drop (i * 2))) := fun ty dc sc =>
    run_copy_k w.drew _ _ ty 45 2 g ((i + 1) * 2) (n - i) dc ⟨g, i * 2, none⟩ (n + 1 - i) sc (xs.drop (i * 2)) Tryz.underlying23 hsz (n - i) (by simp only [Nat.min_def]; split <;> omega) hdl
      (fun j v hj => by rw [Addr.add_lit]; exact hr.drew.cell (by rwa [List.getElem?_drop] at hj))
      (fun j hj => hr.drew.isSome_ (by omega)) (fun j _ => hr.drew.frozen _) (fun v hv => h1 v (List.mem_of_mem_drop hv))
  have hfull := hr.full
  have hrl := hr.len
  have hW1 : Row (w.drew.setCells g ((i + 1) * 2) (xs.drop (i * 2))) g 45 2 0 cap [] (lsplice cur ((i + 1) * 2) (xs.drop (i * 2))) :=
    hr.drew.put _ _ (by rw [hdl]; omega) (by omega) (by simp) (by simp)
  have hvb1 : Blk (w.drew.setCells g ((i + 1) * 2) (xs.drop (i * 2))) vb 45 vs.toArray := hvb.drew.sets_far hne _ _
  have hcp2 : ∀ ty dc, (Builtin.copy_ #[23, 23] ty #[.slice (some ⟨g, i * 2, none⟩) (n + 1 - i) dc, .slice (some ⟨vb, 0, none⟩) 1 1]).run Tryz.prog (w.drew.setCells g ((i + 1) * 2) (xs.drop (i * 2))) = .ok (goInt (1 : Nat)) ((w.drew.setCells g ((i + 1) * 2) (xs.drop (i * 2))).setCells g (i * 2) vs) := fun ty dc =>
    run_copy_k _ _ _ ty 45 2 g (i * 2) (n + 1 - i) dc ⟨vb, 0, none⟩ 1 1 vs Tryz.underlying23 hsz 1 (by simp only [Nat.min_def]; split <;> omega) (by omega)
      (fun j v hj => by rw [Addr.add_lit, hvb1.cell, List.getElem?_toArray, Nat.zero_add]; exact hj)
      (fun j hj => hW1.isSome_ (by rw [hv] at hj; omega)) (fun j _ => hW1.frozen _) h1v
  have HW2 := Lib.hid (hW1.put vs (i * 2) (by rw [hv]; omega) (n' := n + 1) (xs' := xs.take (i * 2) ++ vs ++ xs.drop (i * 2)) hroom (by rw [List.length_append, List.length_append, hdl, List.length_take, hrl, hv]; omega) (splice_ins cur xs vs 2 i n hr.take hr.len (by omega) hv (by rw [hfull]; exact Nat.mul_le_mul_right _ hroom)))
  have HON : Hid (Only g w ((w.drew.setCells g ((i + 1) * 2) (xs.drop (i * 2))).setCells g (i * 2) vs)) := Lib.hid (Only.sets _ _ _ _ (Only.sets _ _ _ _ (Only.of_ext (Ext.refl w).drew)))
  clear hW1 hvb1 hr h1 hvb h1v hdl hfull hrl hsz
  have hw1 : IntKind.i64.wrap ((i : Int) + 1) = (i : Int) + 1 := IntWalk.i64_in _ (by omega)
  have hb1 : (0 : Int) ≤ (i : Int) + 1 := by omega
  have hin : i ≤ n := by omega
  have htn : ((i : Int) + 1).toNat = i + 1 := by omega
  have hb2 : ¬ (cap = i + 1) := by omega
  have hb3 : (i : Int) ≤ (n : Int) + 1 := by omega
  have hb5 : (i : Int) + 1 ≤ (n : Int) + 1 := by omega
  have hb4 : ¬ (cap = i) := by omega
  have hz2 : ((i : Int) == (n : Int)) = false := by rw [beq_eq_false_iff_ne]; omega
  have hz3 : ¬ ((cap : Int) < (n : Int) + 1) := by omega
  go_enter Tryz.func23, Tryz.ntmps23
  go_wp2_with (simp only [hov])
  go_region_law ((refine step_copy_runI (by rfl) (.tmp 73) (.tmp 76) 23 23 (by rfl) (.slice (some ⟨g, (i + 1) * 2, none⟩) (n - i) (cap - (i + 1))) (.slice (some ⟨g, i * 2, none⟩) (n + 1 - i) (cap - i)) (by simp [Act.eval, Act.put]) (by simp [Act.eval, Act.put]) (hcp1 _ _ _) ?_))
  go_wp2_with (with_reducible refine wpList_copy_runI _ (by rfl) (.tmp 80) (.tmp 81) 23 23 (by rfl) (.slice (some ⟨g, i * 2, none⟩) (n + 1 - i) (cap - i)) (.slice (some ⟨vb, 0, none⟩) 1 1) (by rfl) (by rfl) (hcp2 _ _) ?_)
  go_ret
  exact ⟨g, cap, _, rfl, .inl rfl, HW2.out, HON.out⟩

set_option maxRecDepth 100000 in
set_option maxHeartbeats 4000000 in
theorem insertGrowH (g n i vb : Nat) (xs cur vs : List Value) (w : World) (hr : Row w g 45 2 n n xs cur) (h1 : ∀ u ∈ xs, u.oneCell' = true) (hvb : Blk w vb 45 vs.toArray) (hv : vs.length = 2) (h1v : ∀ u ∈ vs, u.oneCell' = true) (hi : i < n) (hn : n ≤ 1000000) :
    Calls Tryz.prog 23 #[.slice (some ⟨g, 0, none⟩) n n, .int .i64 i, .slice (some ⟨vb, 0, none⟩) 1 1] w (InsEndsH g n (xs.take (i * 2) ++ vs ++ xs.drop (i * 2)) w) := by
  obtain ⟨i0, hI, hz0, hz1, hz2⟩ := info_parts holdInfo
  have hsz : (Tryz.prog.info? 45).map (·.size) = some 2 := by rw [hI]; simp [hz1]
  have hkk : (n : Int) + 1 - (i : Int) = ((n + 1 - i : Nat) : Int) := by omega
  have hik : i + (n + 1 - i) = n + 1 := by omega
  have hold : (Builtin.firstCells i0.size i (.slice (some ⟨g, 0, none⟩) i n)).run Tryz.prog w.drew = .ok (xs.take (i * 2)).toArray w.drew := by
    rw [hz1]
    exact run_firstCells_some w.drew 2 i ⟨g, 0, none⟩ i n (xs.take (i * 2)) (by rw [List.length_take, hr.len]; omega) (fun j v hj => by
      rw [Addr.add_lit, Nat.zero_add]
      rw [List.getElem?_take] at hj
      split at hj
      · exact hr.drew.cell hj
      · cases hj)
  have hrz : ∀ ty, (Builtin.append_ #[23, 3] ty #[.slice (some ⟨g, 0, none⟩) i n, .int .i64 ((n : Int) + 1 - (i : Int))]).run Tryz.prog w =
      .ok (.slice (some ⟨w.heap.size, 0, none⟩) (n + 1) (grownCap w (n + 1) n 45)) (w.drew.alloc (.cells ((xs.take (i * 2)).toArray ++ Builtin.zeroCells (Value.agg #[.string ⟨#[]⟩, .string ⟨#[]⟩]).cells (n + 1 - i) ++ Builtin.zeroCells (Value.agg #[.string ⟨#[]⟩, .string ⟨#[]⟩]).cells (grownCap w (n + 1) n 45 - (n + 1))) 45)) := fun ty => by
    have h := Lib.run_append_grow_zeros w 23 3 ty 45 i0 _ .i64 .i64 Tryz.underlying23 Tryz.underlying3 hI hz0 (some ⟨g, 0, none⟩) i n (xs.take (i * 2)) hold (n + 1 - i) (by omega) (by omega) (by omega) (by omega) (by rw [hz2]; omega) (by rw [hz2, hik]; exact growslice_fits (by omega) (by omega))
    rw [hik] at h
    rw [hkk]
    exact h
  obtain ⟨G, hG⟩ : ∃ G, G = grownCap w (n + 1) n 45 := ⟨_, rfl⟩
  have hGn : n + 1 ≤ G := by rw [hG]; exact grownCap_ge w _ _ _
  have hG63 : G ≤ maxLen := by rw [hG]; exact grownCap_le_maxLen w (n + 1) n _ (by unfold maxLen; omega)
  obtain ⟨ROW, hROW⟩ : ∃ ROW : Array Value, ROW = (xs.take (i * 2)).toArray ++ Builtin.zeroCells (Value.agg #[.string ⟨#[]⟩, .string ⟨#[]⟩]).cells (n + 1 - i) ++ Builtin.zeroCells (Value.agg #[.string ⟨#[]⟩, .string ⟨#[]⟩]).cells (G - (n + 1)) := ⟨_, rfl⟩
  rw [← hG, ← hROW] at hrz
  have hRl : ROW.toList.length = G * 2 := by
    rw [hROW]
    simp [Builtin.zeroCells, Value.cells, hr.len]
    omega
  have hRt : ROW.toList.take (i * 2) = xs.take (i * 2) := by
    rw [hROW]
    simp only [Array.toList_append, List.append_assoc]
    rw [List.take_left' (by rw [List.length_take, hr.len]; omega)]
  have hgw := hr.blk.lt
  have hvw := hvb.lt
  have hA : Row ((w.alloc (.cells ROW 45)).drew) w.heap.size 45 2 0 G [] ROW.toList :=
    ⟨by rw [Array.toArray_toList]; exact (Blk.new w _ _).drew, rfl, Nat.zero_le _, hG63, hRl, by simp⟩
  have hdl : (xs.drop (i * 2)).length = (n - i) * 2 := by rw [List.length_drop, hr.len, ← Nat.sub_mul]
  have hvb1 : Blk ((w.alloc (.cells ROW 45)).drew) vb 45 vs.toArray := (hvb.alloc _).drew
  have hr1 : Row ((w.alloc (.cells ROW 45)).drew) g 45 2 n n xs cur := (hr.ext (Ext.new _ _)).drew
  have hcpA : ∀ ty dc, (Builtin.copy_ #[23, 23] ty #[.slice (some ⟨w.heap.size, i * 2, none⟩) (n + 1 - i) dc, .slice (some ⟨vb, 0, none⟩) 1 1]).run Tryz.prog ((w.alloc (.cells ROW 45)).drew) = .ok (goInt (1 : Nat)) (((w.alloc (.cells ROW 45)).drew).setCells w.heap.size (i * 2) vs) := fun ty dc =>
    run_copy_k _ _ _ ty 45 2 w.heap.size (i * 2) (n + 1 - i) dc ⟨vb, 0, none⟩ 1 1 vs Tryz.underlying23 hsz 1 (by simp only [Nat.min_def]; split <;> omega) (by omega)
      (fun j v hj => by rw [Addr.add_lit, hvb1.cell, List.getElem?_toArray, Nat.zero_add]; exact hj)
      (fun j hj => hA.isSome_ (by rw [hv] at hj; omega)) (fun j _ => hA.frozen _) h1v
  have hB := hA.put vs (i * 2) (by rw [hv]; omega) (n' := 0) (xs' := []) (Nat.zero_le _) rfl (by simp)
  have hr2 : Row (((w.alloc (.cells ROW 45)).drew).setCells w.heap.size (i * 2) vs) g 45 2 n n xs cur := { hr1 with blk := hr1.blk.sets_far (by omega) _ _ }
  have hcpB : ∀ ty dc sc, (Builtin.copy_ #[23, 23] ty #[.slice (some ⟨w.heap.size, (i + 1) * 2, none⟩) (n - i) dc, .slice (some ⟨g, i * 2, none⟩) (n - i) sc]).run Tryz.prog ((((w.alloc (.cells ROW 45)).drew).setCells w.heap.size (i * 2) vs).drew) = .ok (goInt (n - i : Nat)) ((((w.alloc (.cells ROW 45)).drew).setCells w.heap.size (i * 2) vs).drew.setCells w.heap.size ((i + 1) * 2) (xs.drop (i * 2))) := fun ty dc sc =>
    run_copy_k _ _ _ ty 45 2 w.heap.size ((i + 1) * 2) (n - i) dc ⟨g, i * 2, none⟩ (n - i) sc (xs.drop (i * 2)) Tryz.underlying23 hsz (n - i) (Nat.min_self _) hdl
      (fun j v hj => by rw [Addr.add_lit]; exact hr2.drew.cell (by rwa [List.getElem?_drop] at hj))
      (fun j hj => hB.drew.isSome_ (by omega)) (fun j _ => hB.drew.frozen _) (fun v hv => h1 v (List.mem_of_mem_drop hv))
  have HW2 := Lib.hid (hB.drew.put (xs.drop (i * 2)) ((i + 1) * 2) (by rw [hdl]; omega) (n' := n + 1) (xs' := xs.take (i * 2) ++ vs ++ xs.drop (i * 2)) hGn (by rw [List.length_append, List.length_append, hdl, List.length_take, hr.len, hv]; omega) (splice_new ROW.toList xs vs 2 i n hRt hr.len (by omega) hv (by rw [hRl]; exact Nat.mul_le_mul_right _ hGn)))
  have HON : Hid (Only g w ((((w.alloc (.cells ROW 45)).drew).setCells w.heap.size (i * 2) vs).drew.setCells w.heap.size ((i + 1) * 2) (xs.drop (i * 2)))) := Lib.hid (Only.of_ext (ext_sets _ _ _ () (ext_sets _ _ _ () ((Ext.new w _).drew) (Nat.le_refl _)).drew (Nat.le_refl _)))
  clear hA hB hr2 hr1 hvb1 hr h1 hvb h1v hdl hsz hold hkk hRl hRt hROW hG hI hz0 hz1 hz2 hik
  have hw1 : IntKind.i64.wrap ((i : Int) + 1) = (i : Int) + 1 := IntWalk.i64_in _ (by omega)
  have hb1 : (0 : Int) ≤ (i : Int) + 1 := by omega
  have hin : i ≤ n := by omega
  have htn : ((i : Int) + 1).toNat = i + 1 := by omega
  have hb2 : ¬ (G = i + 1) := by omega
  have hb6 : ¬ (G = i) := by omega
  have hb3 : (i : Int) ≤ (n : Int) + 1 := by omega
  have hb5 : (i : Int) + 1 ≤ (n : Int) + 1 := by omega
  have hb4 : ¬ (n = i) := by omega
  have hz9 : ((i : Int) == (n : Int)) = false := by rw [beq_eq_false_iff_ne]; omega
  have hz3 : (n : Int) < (n : Int) + 1 := by omega
  unfold maxLen at hG63
  go_enter Tryz.func23, Tryz.ntmps23
  go_wp2_with (at_builtin; refine Lib.wpList_append_run _ rfl (.tmp 34) (.tmp 39) _ _ rfl _ _ rfl rfl _ _ (hrz _) ?_)
  go_region_law ((refine step_copy_runI (by rfl) (.tmp 50) (.tmp 53) 23 23 (by rfl) (.slice (some ⟨w.heap.size, (i + 1) * 2, none⟩) (n - i) (G - (i + 1))) (.slice (some ⟨g, i * 2, none⟩) (n - i) (n - i)) (by simp [Act.eval, Act.put]) (by simp [Act.eval, Act.put]) (hcpB _ _ _) ?_))
  go_wp2_with fail
  go_ret
  exact ⟨w.heap.size, G, _, rfl, .inr (Nat.le_refl _), HW2.out, HON.out⟩
end Go.Proofs.YteeampgbmpolfaaGreatDoor

/- The library's slices.Clone, Delete, Insert at slices of movements. -/
namespace Go.Proofs.YteeampgbmpolfaaGreatDoor
open Go.RowKit Go.Lib
attribute [local go_sem] size_bs toList_bs

def CloneEndsM (n : Nat) (xs : List Value) (w : World) (e : Ending) (w' : World) : Prop :=
  ∃ g cap cur, e = .returned (.slice (some ⟨g, 0, none⟩) n cap) ∧ w.heap.size ≤ g ∧ Row w' g 50 5 n cap xs cur ∧ Ext w w'
theorem Row.emptyM (w : World) : Row (w.alloc (.cells #[] 50)) w.heap.size 50 5 0 0 [] [] :=
  ⟨Blk.new w _ _, rfl, Nat.le_refl _, by decide, rfl, rfl⟩
set_option maxRecDepth 100000 in
set_option maxHeartbeats 1000000 in
theorem cloneM (A : Addr) (n c : Nat) (xs : List Value) (w : World) (hr : Reads w 5 (some A) n xs) (h1 : ∀ u ∈ xs, u.oneCell' = true) (h0 : 0 < n) (hn : n ≤ 1000000) :
    Calls Tryz.prog 26 #[.slice (some A) n c] w (CloneEndsM n xs w) := by
  obtain ⟨i0, hi, hz0, hz1, hz2⟩ := info_parts movInfo
  obtain ⟨b, o, e, hb, hc⟩ := hr.2 h0
  injection e with e
  subst e
  have HI := Lib.hid hi
  have HC : Hid (∀ j u, xs[j]? = some u → (w.alloc (.cells #[] 50)).cell? ((⟨b, o, none⟩ : Addr).add j) = some u) := Lib.hid (fun j u hu => by
    rw [Addr.add_lit]; exact ((Ext.new w _).cell (p := ⟨b, o + j, none⟩) hb).trans (hc j u hu))
  have HL := Lib.hid hr.1
  have H1 := Lib.hid h1
  clear hi hc h1 hr
  have hnil : ∀ W : World, (binOp .eql 24 (.slice (some ⟨b, o, none⟩) n c) (.slice none 0 0)).run Tryz.prog W = .ok (.bool false) W := fun W => Lib.run_eql_slice_nil W _ _ _ _ _ _ _ Tryz.underlying24
  go_enter Tryz.func26, Tryz.ntmps26
  go_wp2_with (at_builtin; refine wpList_append_lies _ rfl (.tmp 5) (.tmp 6) 24 rfl w.heap.size 50 i0 _ 5 72 Tryz.underlying24 HI.out hz0 hz1 hz2 rfl (by decide) _ 0 [] rfl ((Row.emptyM w).own (Nat.le_refl _)) ⟨b, o, none⟩ n c xs rfl HL.out HC.out H1.out h0 (by simp only [maxLen]; omega) (by omega) (by simp) _ rfl ?_; intro g cap w' hown hgrow hat hlt)
  go_ret
  simp only [Nat.zero_add, List.nil_append] at hown
  obtain ⟨hg, cur, hrow⟩ := Row.of_own hown
  exact ⟨g, cap, cur, rfl, hg, hrow, Ext.only (Ext.new w (.cells #[] 50)) hgrow (Nat.le_refl _)⟩

def DelEndsM (g p cap : Nat) (xs : List Value) (w : World) (e : Ending) (w' : World) : Prop :=
  ∃ cur, e = .returned (.slice (some ⟨g, 0, none⟩) p cap) ∧ Row w' g 50 5 p cap xs cur ∧ Only g w w'
set_option maxRecDepth 100000 in
set_option maxHeartbeats 1000000 in
theorem deleteM (g cap p i : Nat) (xs cur : List Value) (w : World) (hr : Row w g 50 5 (p + 1) cap xs cur) (h1 : ∀ u ∈ xs, u.oneCell' = true) (hi : i ≤ p) (hn : cap ≤ 9223372036854775807) :
    Calls Tryz.prog 25 #[.slice (some ⟨g, 0, none⟩) (p + 1) cap, .int .i64 i, .int .i64 ((i : Int) + 1)] w (DelEndsM g p cap (xs.take (i * 5) ++ xs.drop ((i + 1) * 5)) w) := by
  obtain ⟨i0, hI, hz0, hz1, hz2⟩ := info_parts movInfo
  have hle := hr.le
  have HR := Lib.hid hr
  have H1 := Lib.hid h1
  have HI := Lib.hid hI
  clear hr h1 hI
  have hne : ((i : Int) == (i : Int) + 1) = false := by rw [beq_eq_false_iff_ne]; omega
  go_enter Tryz.func25, Tryz.ntmps25
  go_wp2_with fail
  have hp0 : (0 : Int) ≤ (i : Int) + 1 := by omega
  have hp1 : (i : Int) + 1 ≤ (p : Int) + 1 := by omega
  have hp2 : ((i : Int) + 1).toNat = i + 1 := by omega
  have hic : i ≤ cap := by omega
  have hdl : (xs.drop ((i + 1) * 5)).length = (p - i) * 5 := by rw [List.length_drop, HR.out.len, ← Nat.sub_mul, show p + 1 - (i + 1) = p - i by omega]
  have HDL := Lib.hid hdl
  have HD1 : Hid (∀ u ∈ xs.drop ((i + 1) * 5), u.oneCell' = true) := Lib.hid (fun u hu => H1.out u (List.mem_of_mem_drop hu))
  have HSP : Hid (∀ j, j < (xs.drop ((i + 1) * 5)).length → (w.drew.cell? ⟨g, 0 + i * 5 + j, none⟩).isSome = true ∧ w.drew.frozen? ⟨g, 0 + i * 5 + j, none⟩ = false) := Lib.hid (fun j hj => by
    rw [hdl] at hj
    exact ⟨HR.out.drew.isSome_ (by omega), HR.out.drew.frozen _⟩)
  have HNW : Hid (∀ j u, (xs.drop ((i + 1) * 5))[j]? = some u → w.drew.cell? ((⟨g, (i + 1) * 5, none⟩ : Addr).add j) = some u) := Lib.hid (fun j u hu => by
    rw [Addr.add_lit]; exact HR.out.drew.cell (by rwa [List.getElem?_drop] at hu))
  clear hdl
  have hip : i + (p - i) = p := by omega
  have hW1 : Row (w.drew.setCells g (i * 5) (xs.drop ((i + 1) * 5))) g 50 5 p cap (xs.take (i * 5) ++ xs.drop ((i + 1) * 5)) (lsplice cur (i * 5) (xs.drop ((i + 1) * 5))) :=
    HR.out.drew.put _ _ (by rw [HDL.out]; omega) (by omega) (by rw [List.length_append, HDL.out, List.length_take, HR.out.len]; omega) (splice_del cur xs 5 i p HR.out.take HR.out.len hi)
  have hcl : ∀ ty, (Builtin.clear_ #[24] ty #[.slice (some ⟨g, p * 5, none⟩) 1 (cap - p)]).run Tryz.prog (w.drew.setCells g (i * 5) (xs.drop ((i + 1) * 5))) = .ok (.tuple #[]) ((w.drew.setCells g (i * 5) (xs.drop ((i + 1) * 5))).setCells g (p * 5) [.string ⟨#[]⟩, .int .i64 0, .string ⟨#[]⟩, .string ⟨#[]⟩, .string ⟨#[]⟩]) := fun ty =>
    run_clear_k _ _ _ ty _ _ Tryz.underlying24 Tryz.zeroValue50 g (p * 5) 1 (cap - p) (by decide) (by kernel_rfl) (by simp [Value.oneCell']) (fun j hj => hW1.isSome_ (by simp only [List.length_cons, List.length_nil] at hj; omega)) (fun j _ => hW1.frozen _)
  have HW2 := Lib.hid (hW1.put [.string ⟨#[]⟩, .int .i64 0, .string ⟨#[]⟩, .string ⟨#[]⟩, .string ⟨#[]⟩] (p * 5) (by simp only [List.length_cons, List.length_nil]; omega) (n' := p) (xs' := xs.take (i * 5) ++ xs.drop ((i + 1) * 5)) (by omega) hW1.len (by rw [splice_tail _ _ _ _ (Nat.le_refl _) (by rw [hW1.full]; exact Nat.mul_le_mul_right _ (by omega))]; exact hW1.take))
  have HON : Hid (Only g w ((w.drew.setCells g (i * 5) (xs.drop ((i + 1) * 5))).setCells g (p * 5) [.string ⟨#[]⟩, .int .i64 0, .string ⟨#[]⟩, .string ⟨#[]⟩, .string ⟨#[]⟩])) := Lib.hid (Only.sets _ _ _ _ (Only.sets _ _ _ _ (Only.of_ext (Ext.refl w).drew)))
  clear hW1
  by_cases hcap : cap = i + 1
  · obtain rfl : i = p := by omega
    subst hcap
    have hii : (i : Int) ≤ (i : Int) + 1 := by omega
    have HNW' : Hid (∀ j u, (xs.drop ((i + 1) * 5))[j]? = some u → w.drew.cell? ((⟨g, 0, none⟩ : Addr).add j) = some u) := Lib.hid (fun j u hu => by
      have h0 : (xs.drop ((i + 1) * 5)).length = 0 := by rw [HDL.out]; simp
      rw [List.length_eq_zero_iff.1 h0] at hu; simp at hu)
    have HDL' : Hid ((xs.drop ((i + 1) * 5)).length = 0 * 5) := Lib.hid (by rw [HDL.out]; simp)
    go_region_law ((refine step_append_room (by rfl) (.tmp 22) (.tmp 25) 24 (by rfl) 50 i0 5 Tryz.underlying24 HI.out hz1 g 0 i (i + 1) (by simp [Act.eval, Act.put]) ⟨g, 0, none⟩ 0 0 (xs.drop ((i + 1) * 5)) (by simp [Act.eval, Act.put]) HDL'.out HNW'.out HD1.out (by omega) HSP.out ?_))
    simp only [Nat.add_sub_cancel_left] at hcl
    have hcl1 : (i + 1 - i) = 1 := by omega
    go_wp2_with fail
    go_ret
    exact ⟨_, rfl, HW2.out, HON.out⟩
  · go_region_law ((refine step_append_room (by rfl) (.tmp 22) (.tmp 25) 24 (by rfl) 50 i0 5 Tryz.underlying24 HI.out hz1 g 0 i cap (by simp [Act.eval, Act.put]) ⟨g, (i + 1) * 5, none⟩ (p - i) (cap - (i + 1)) (xs.drop ((i + 1) * 5)) (by simp [Act.eval, Act.put]) HDL.out HNW.out HD1.out (by omega) HSP.out ?_))
    go_wp2_with fail
    go_ret
    exact ⟨_, rfl, HW2.out, HON.out⟩

def InsEndsM (g n : Nat) (xs : List Value) (w : World) (e : Ending) (w' : World) : Prop :=
  ∃ g' cap cur, e = .returned (.slice (some ⟨g', 0, none⟩) (n + 1) cap) ∧ (g' = g ∨ w.heap.size ≤ g') ∧ Row w' g' 50 5 (n + 1) cap xs cur ∧ Only g w w'
set_option maxRecDepth 100000 in
set_option maxHeartbeats 4000000 in
theorem insertShiftM (g cap n i vb : Nat) (xs cur vs : List Value) (w : World) (hr : Row w g 50 5 n cap xs cur) (h1 : ∀ u ∈ xs, u.oneCell' = true) (hvb : Blk w vb 50 vs.toArray) (hne : vb ≠ g) (hv : vs.length = 5) (h1v : ∀ u ∈ vs, u.oneCell' = true) (hi : i < n) (hroom : n + 1 ≤ cap) (hcap : cap ≤ 9223372036854775807) :
    Calls Tryz.prog 27 #[.slice (some ⟨g, 0, none⟩) n cap, .int .i64 i, .slice (some ⟨vb, 0, none⟩) 1 1] w (InsEndsM g n (xs.take (i * 5) ++ vs ++ xs.drop (i * 5)) w) := by
  have hsz : (Tryz.prog.info? 50).map (·.size) = some 5 := by
    obtain ⟨i0, hI, _, hz1, _⟩ := info_parts movInfo
    rw [hI]; simp [hz1]
  have hov : ∀ lb cb, (callFunc 64 #[.slice (some ⟨vb, 0, none⟩) 1 1, .slice (some ⟨g, (i + 1) * 5, none⟩) lb cb]).run Tryz.prog w = .ok (.value (.bool false)) w := fun lb cb => by
    rw [run_callFunc_extern Tryz.func64 (by kernel_rfl) (by kernel_rfl) (by kernel_rfl) (e := Extern.SlicesOverlaps.overlaps #[24, 24] #[4]) (by kernel_rfl),
      Lib.run_overlaps_apart w 24 4 50 Tryz.underlying24 5 Tryz.sizeOf50 ⟨vb, 0, none⟩ ⟨g, (i + 1) * 5, none⟩ 1 1 lb cb hne 50 50 vs.toArray.size cur.toArray.size hvb.shape hr.blk.shape (by simp only [List.size_toArray, hr.full]; omega) (hvb.frozen 0) (hvb.frozen _)]
    rfl
  have hdl : (xs.drop (i * 5)).length = (n - i) * 5 := by rw [List.length_drop, hr.len, ← Nat.sub_mul]
  have hcp1 : ∀ ty dc sc, (Builtin.copy_ #[24, 24] ty #[.slice (some ⟨g, (i + 1) * 5, none⟩) (n - i) dc, .slice (some ⟨g, i * 5, none⟩) (n + 1 - i) sc]).run Tryz.prog w.drew = .ok (goInt (n - i : Nat)) (w.drew.setCells g ((i + 1) * 5) (xs.drop (i * 5))) := fun ty dc sc =>
    run_copy_k w.drew _ _ ty 50 5 g ((i + 1) * 5) (n - i) dc ⟨g, i * 5, none⟩ (n + 1 - i) sc (xs.drop (i * 5)) Tryz.underlying24 hsz (n - i) (by simp only [Nat.min_def]; split <;> omega) hdl
      (fun j v hj => by rw [Addr.add_lit]; exact hr.drew.cell (by rwa [List.getElem?_drop] at hj))
      (fun j hj => hr.drew.isSome_ (by omega)) (fun j _ => hr.drew.frozen _) (fun v hv => h1 v (List.mem_of_mem_drop hv))
  have hfull := hr.full
  have hrl := hr.len
  have hW1 : Row (w.drew.setCells g ((i + 1) * 5) (xs.drop (i * 5))) g 50 5 0 cap [] (lsplice cur ((i + 1) * 5) (xs.drop (i * 5))) :=
    hr.drew.put _ _ (by rw [hdl]; omega) (by omega) (by simp) (by simp)
  have hvb1 : Blk (w.drew.setCells g ((i + 1) * 5) (xs.drop (i * 5))) vb 50 vs.toArray := hvb.drew.sets_far hne _ _
  have hcp2 : ∀ ty dc, (Builtin.copy_ #[24, 24] ty #[.slice (some ⟨g, i * 5, none⟩) (n + 1 - i) dc, .slice (some ⟨vb, 0, none⟩) 1 1]).run Tryz.prog (w.drew.setCells g ((i + 1) * 5) (xs.drop (i * 5))) = .ok (goInt (1 : Nat)) ((w.drew.setCells g ((i + 1) * 5) (xs.drop (i * 5))).setCells g (i * 5) vs) := fun ty dc =>
    run_copy_k _ _ _ ty 50 5 g (i * 5) (n + 1 - i) dc ⟨vb, 0, none⟩ 1 1 vs Tryz.underlying24 hsz 1 (by simp only [Nat.min_def]; split <;> omega) (by omega)
      (fun j v hj => by rw [Addr.add_lit, hvb1.cell, List.getElem?_toArray, Nat.zero_add]; exact hj)
      (fun j hj => hW1.isSome_ (by rw [hv] at hj; omega)) (fun j _ => hW1.frozen _) h1v
  have HW2 := Lib.hid (hW1.put vs (i * 5) (by rw [hv]; omega) (n' := n + 1) (xs' := xs.take (i * 5) ++ vs ++ xs.drop (i * 5)) hroom (by rw [List.length_append, List.length_append, hdl, List.length_take, hrl, hv]; omega) (splice_ins cur xs vs 5 i n hr.take hr.len (by omega) hv (by rw [hfull]; exact Nat.mul_le_mul_right _ hroom)))
  have HON : Hid (Only g w ((w.drew.setCells g ((i + 1) * 5) (xs.drop (i * 5))).setCells g (i * 5) vs)) := Lib.hid (Only.sets _ _ _ _ (Only.sets _ _ _ _ (Only.of_ext (Ext.refl w).drew)))
  clear hW1 hvb1 hr h1 hvb h1v hdl hfull hrl hsz
  have hw1 : IntKind.i64.wrap ((i : Int) + 1) = (i : Int) + 1 := IntWalk.i64_in _ (by omega)
  have hb1 : (0 : Int) ≤ (i : Int) + 1 := by omega
  have hin : i ≤ n := by omega
  have htn : ((i : Int) + 1).toNat = i + 1 := by omega
  have hb2 : ¬ (cap = i + 1) := by omega
  have hb3 : (i : Int) ≤ (n : Int) + 1 := by omega
  have hb5 : (i : Int) + 1 ≤ (n : Int) + 1 := by omega
  have hb4 : ¬ (cap = i) := by omega
  have hz2 : ((i : Int) == (n : Int)) = false := by rw [beq_eq_false_iff_ne]; omega
  have hz3 : ¬ ((cap : Int) < (n : Int) + 1) := by omega
  go_enter Tryz.func27, Tryz.ntmps27
  go_wp2_with (simp only [hov])
  go_region_law ((refine step_copy_runI (by rfl) (.tmp 73) (.tmp 76) 24 24 (by rfl) (.slice (some ⟨g, (i + 1) * 5, none⟩) (n - i) (cap - (i + 1))) (.slice (some ⟨g, i * 5, none⟩) (n + 1 - i) (cap - i)) (by simp [Act.eval, Act.put]) (by simp [Act.eval, Act.put]) (hcp1 _ _ _) ?_))
  go_wp2_with (with_reducible refine wpList_copy_runI _ (by rfl) (.tmp 80) (.tmp 81) 24 24 (by rfl) (.slice (some ⟨g, i * 5, none⟩) (n + 1 - i) (cap - i)) (.slice (some ⟨vb, 0, none⟩) 1 1) (by rfl) (by rfl) (hcp2 _ _) ?_)
  go_ret
  exact ⟨g, cap, _, rfl, .inl rfl, HW2.out, HON.out⟩

set_option maxRecDepth 100000 in
set_option maxHeartbeats 4000000 in
theorem insertGrowM (g n i vb : Nat) (xs cur vs : List Value) (w : World) (hr : Row w g 50 5 n n xs cur) (h1 : ∀ u ∈ xs, u.oneCell' = true) (hvb : Blk w vb 50 vs.toArray) (hv : vs.length = 5) (h1v : ∀ u ∈ vs, u.oneCell' = true) (hi : i < n) (hn : n ≤ 1000000) :
    Calls Tryz.prog 27 #[.slice (some ⟨g, 0, none⟩) n n, .int .i64 i, .slice (some ⟨vb, 0, none⟩) 1 1] w (InsEndsM g n (xs.take (i * 5) ++ vs ++ xs.drop (i * 5)) w) := by
  obtain ⟨i0, hI, hz0, hz1, hz2⟩ := info_parts movInfo
  have hsz : (Tryz.prog.info? 50).map (·.size) = some 5 := by rw [hI]; simp [hz1]
  have hkk : (n : Int) + 1 - (i : Int) = ((n + 1 - i : Nat) : Int) := by omega
  have hik : i + (n + 1 - i) = n + 1 := by omega
  have hold : (Builtin.firstCells i0.size i (.slice (some ⟨g, 0, none⟩) i n)).run Tryz.prog w.drew = .ok (xs.take (i * 5)).toArray w.drew := by
    rw [hz1]
    exact run_firstCells_some w.drew 5 i ⟨g, 0, none⟩ i n (xs.take (i * 5)) (by rw [List.length_take, hr.len]; omega) (fun j v hj => by
      rw [Addr.add_lit, Nat.zero_add]
      rw [List.getElem?_take] at hj
      split at hj
      · exact hr.drew.cell hj
      · cases hj)
  have hrz : ∀ ty, (Builtin.append_ #[24, 3] ty #[.slice (some ⟨g, 0, none⟩) i n, .int .i64 ((n : Int) + 1 - (i : Int))]).run Tryz.prog w =
      .ok (.slice (some ⟨w.heap.size, 0, none⟩) (n + 1) (grownCap w (n + 1) n 50)) (w.drew.alloc (.cells ((xs.take (i * 5)).toArray ++ Builtin.zeroCells (Value.agg #[.string ⟨#[]⟩, .int .i64 0, .string ⟨#[]⟩, .string ⟨#[]⟩, .string ⟨#[]⟩]).cells (n + 1 - i) ++ Builtin.zeroCells (Value.agg #[.string ⟨#[]⟩, .int .i64 0, .string ⟨#[]⟩, .string ⟨#[]⟩, .string ⟨#[]⟩]).cells (grownCap w (n + 1) n 50 - (n + 1))) 50)) := fun ty => by
    have h := Lib.run_append_grow_zeros w 24 3 ty 50 i0 _ .i64 .i64 Tryz.underlying24 Tryz.underlying3 hI hz0 (some ⟨g, 0, none⟩) i n (xs.take (i * 5)) hold (n + 1 - i) (by omega) (by omega) (by omega) (by omega) (by rw [hz2]; omega) (by rw [hz2, hik]; exact growslice_fits (by omega) (by omega))
    rw [hik] at h
    rw [hkk]
    exact h
  obtain ⟨G, hG⟩ : ∃ G, G = grownCap w (n + 1) n 50 := ⟨_, rfl⟩
  have hGn : n + 1 ≤ G := by rw [hG]; exact grownCap_ge w _ _ _
  have hG63 : G ≤ maxLen := by rw [hG]; exact grownCap_le_maxLen w (n + 1) n _ (by unfold maxLen; omega)
  obtain ⟨ROW, hROW⟩ : ∃ ROW : Array Value, ROW = (xs.take (i * 5)).toArray ++ Builtin.zeroCells (Value.agg #[.string ⟨#[]⟩, .int .i64 0, .string ⟨#[]⟩, .string ⟨#[]⟩, .string ⟨#[]⟩]).cells (n + 1 - i) ++ Builtin.zeroCells (Value.agg #[.string ⟨#[]⟩, .int .i64 0, .string ⟨#[]⟩, .string ⟨#[]⟩, .string ⟨#[]⟩]).cells (G - (n + 1)) := ⟨_, rfl⟩
  rw [← hG, ← hROW] at hrz
  have hRl : ROW.toList.length = G * 5 := by
    rw [hROW]
    simp [Builtin.zeroCells, Value.cells, hr.len]
    omega
  have hRt : ROW.toList.take (i * 5) = xs.take (i * 5) := by
    rw [hROW]
    simp only [Array.toList_append, List.append_assoc]
    rw [List.take_left' (by rw [List.length_take, hr.len]; omega)]
  have hgw := hr.blk.lt
  have hvw := hvb.lt
  have hA : Row ((w.alloc (.cells ROW 50)).drew) w.heap.size 50 5 0 G [] ROW.toList :=
    ⟨by rw [Array.toArray_toList]; exact (Blk.new w _ _).drew, rfl, Nat.zero_le _, hG63, hRl, by simp⟩
  have hdl : (xs.drop (i * 5)).length = (n - i) * 5 := by rw [List.length_drop, hr.len, ← Nat.sub_mul]
  have hvb1 : Blk ((w.alloc (.cells ROW 50)).drew) vb 50 vs.toArray := (hvb.alloc _).drew
  have hr1 : Row ((w.alloc (.cells ROW 50)).drew) g 50 5 n n xs cur := (hr.ext (Ext.new _ _)).drew
  have hcpA : ∀ ty dc, (Builtin.copy_ #[24, 24] ty #[.slice (some ⟨w.heap.size, i * 5, none⟩) (n + 1 - i) dc, .slice (some ⟨vb, 0, none⟩) 1 1]).run Tryz.prog ((w.alloc (.cells ROW 50)).drew) = .ok (goInt (1 : Nat)) (((w.alloc (.cells ROW 50)).drew).setCells w.heap.size (i * 5) vs) := fun ty dc =>
    run_copy_k _ _ _ ty 50 5 w.heap.size (i * 5) (n + 1 - i) dc ⟨vb, 0, none⟩ 1 1 vs Tryz.underlying24 hsz 1 (by simp only [Nat.min_def]; split <;> omega) (by omega)
      (fun j v hj => by rw [Addr.add_lit, hvb1.cell, List.getElem?_toArray, Nat.zero_add]; exact hj)
      (fun j hj => hA.isSome_ (by rw [hv] at hj; omega)) (fun j _ => hA.frozen _) h1v
  have hB := hA.put vs (i * 5) (by rw [hv]; omega) (n' := 0) (xs' := []) (Nat.zero_le _) rfl (by simp)
  have hr2 : Row (((w.alloc (.cells ROW 50)).drew).setCells w.heap.size (i * 5) vs) g 50 5 n n xs cur := { hr1 with blk := hr1.blk.sets_far (by omega) _ _ }
  have hcpB : ∀ ty dc sc, (Builtin.copy_ #[24, 24] ty #[.slice (some ⟨w.heap.size, (i + 1) * 5, none⟩) (n - i) dc, .slice (some ⟨g, i * 5, none⟩) (n - i) sc]).run Tryz.prog ((((w.alloc (.cells ROW 50)).drew).setCells w.heap.size (i * 5) vs).drew) = .ok (goInt (n - i : Nat)) ((((w.alloc (.cells ROW 50)).drew).setCells w.heap.size (i * 5) vs).drew.setCells w.heap.size ((i + 1) * 5) (xs.drop (i * 5))) := fun ty dc sc =>
    run_copy_k _ _ _ ty 50 5 w.heap.size ((i + 1) * 5) (n - i) dc ⟨g, i * 5, none⟩ (n - i) sc (xs.drop (i * 5)) Tryz.underlying24 hsz (n - i) (Nat.min_self _) hdl
      (fun j v hj => by rw [Addr.add_lit]; exact hr2.drew.cell (by rwa [List.getElem?_drop] at hj))
      (fun j hj => hB.drew.isSome_ (by omega)) (fun j _ => hB.drew.frozen _) (fun v hv => h1 v (List.mem_of_mem_drop hv))
  have HW2 := Lib.hid (hB.drew.put (xs.drop (i * 5)) ((i + 1) * 5) (by rw [hdl]; omega) (n' := n + 1) (xs' := xs.take (i * 5) ++ vs ++ xs.drop (i * 5)) hGn (by rw [List.length_append, List.length_append, hdl, List.length_take, hr.len, hv]; omega) (splice_new ROW.toList xs vs 5 i n hRt hr.len (by omega) hv (by rw [hRl]; exact Nat.mul_le_mul_right _ hGn)))
  have HON : Hid (Only g w ((((w.alloc (.cells ROW 50)).drew).setCells w.heap.size (i * 5) vs).drew.setCells w.heap.size ((i + 1) * 5) (xs.drop (i * 5)))) := Lib.hid (Only.of_ext (ext_sets _ _ _ () (ext_sets _ _ _ () ((Ext.new w _).drew) (Nat.le_refl _)).drew (Nat.le_refl _)))
  clear hA hB hr2 hr1 hvb1 hr h1 hvb h1v hdl hsz hold hkk hRl hRt hROW hG hI hz0 hz1 hz2 hik
  have hw1 : IntKind.i64.wrap ((i : Int) + 1) = (i : Int) + 1 := IntWalk.i64_in _ (by omega)
  have hb1 : (0 : Int) ≤ (i : Int) + 1 := by omega
  have hin : i ≤ n := by omega
  have htn : ((i : Int) + 1).toNat = i + 1 := by omega
  have hb2 : ¬ (G = i + 1) := by omega
  have hb6 : ¬ (G = i) := by omega
  have hb3 : (i : Int) ≤ (n : Int) + 1 := by omega
  have hb5 : (i : Int) + 1 ≤ (n : Int) + 1 := by omega
  have hb4 : ¬ (n = i) := by omega
  have hz9 : ((i : Int) == (n : Int)) = false := by rw [beq_eq_false_iff_ne]; omega
  have hz3 : (n : Int) < (n : Int) + 1 := by omega
  unfold maxLen at hG63
  go_enter Tryz.func27, Tryz.ntmps27
  go_wp2_with (at_builtin; refine Lib.wpList_append_run _ rfl (.tmp 34) (.tmp 39) _ _ rfl _ _ rfl rfl _ _ (hrz _) ?_)
  go_region_law ((refine step_copy_runI (by rfl) (.tmp 50) (.tmp 53) 24 24 (by rfl) (.slice (some ⟨w.heap.size, (i + 1) * 5, none⟩) (n - i) (G - (i + 1))) (.slice (some ⟨g, i * 5, none⟩) (n - i) (n - i)) (by simp [Act.eval, Act.put]) (by simp [Act.eval, Act.put]) (hcpB _ _ _) ?_))
  go_wp2_with fail
  go_ret
  exact ⟨w.heap.size, G, _, rfl, .inr (Nat.le_refl _), HW2.out, HON.out⟩
end Go.Proofs.YteeampgbmpolfaaGreatDoor

/- slices.Clone, Delete, Insert in the words of lists of holdings and movements. -/
namespace Go.Proofs.YteeampgbmpolfaaGreatDoor
open Go.RowKit

theorem flat_take {α : Type} (f : α → List Value) (n : Nat) (hf : ∀ a, (f a).length = n) : ∀ (l : List α) (k : Nat), (l.take k).flatMap f = (l.flatMap f).take (k * n)
  | [], k => by simp
  | a :: r, 0 => by simp
  | a :: r, k + 1 => by
    rw [List.take_succ_cons, List.flatMap_cons, List.flatMap_cons, flat_take f n hf r k, Nat.succ_mul, Nat.add_comm (k * n) n, ← hf a, List.take_length_add_append, hf a]
theorem flat_drop {α : Type} (f : α → List Value) (n : Nat) (hf : ∀ a, (f a).length = n) : ∀ (l : List α) (k : Nat), (l.drop k).flatMap f = (l.flatMap f).drop (k * n)
  | [], k => by simp
  | a :: r, 0 => by simp
  | a :: r, k + 1 => by
    rw [List.drop_succ_cons, List.flatMap_cons, flat_drop f n hf r k, Nat.succ_mul, Nat.add_comm (k * n) n, ← hf a, List.drop_length_add_append, hf a]
theorem flat_less {α : Type} (f : α → List Value) (n : Nat) (hf : ∀ a, (f a).length = n) (l : List α) (k : Nat) : (less l k).flatMap f = (l.flatMap f).take (k * n) ++ (l.flatMap f).drop ((k + 1) * n) := by
  unfold less; rw [List.flatMap_append, flat_take f n hf, flat_drop f n hf]
theorem flat_twice {α : Type} (f : α → List Value) (n : Nat) (hf : ∀ a, (f a).length = n) (l : List α) (k : Nat) (hk : k < l.length) : (twice l k hk).flatMap f = (l.flatMap f).take (k * n) ++ f (l[k]'hk) ++ (l.flatMap f).drop (k * n) := by
  unfold twice; rw [List.flatMap_append, List.flatMap_append, flat_take f n hf, flat_drop f n hf]; simp

def RowH (w : World) (g cap : Nat) (hs : List Hd) : Prop := ∃ cur, Row w g 45 2 hs.length cap (hcells hs) cur
theorem RowH.reads {w : World} {g cap : Nat} {hs : List Hd} (h : RowH w g cap hs) : RdH w (some ⟨g, 0, none⟩) hs := by
  obtain ⟨cur, h⟩ := h; exact h.reads
theorem RowH.ext {w w' : World} {g cap : Nat} {hs : List Hd} (h : RowH w g cap hs) (hx : Ext w w') : RowH w' g cap hs := by
  obtain ⟨cur, h⟩ := h; exact ⟨cur, h.ext hx⟩
theorem RowH.far {w : World} {g cap : Nat} {hs : List Hd} (h : RowH w g cap hs) {p : Addr} (hp : g ≠ p.block) (u : Value) : RowH (w.setCell p u) g cap hs := by
  obtain ⟨cur, h⟩ := h; exact ⟨cur, { h with blk := h.blk.far hp u }⟩
theorem RowH.only {w w' : World} {g g' cap : Nat} {hs : List Hd} (h : RowH w g cap hs) (ho : Only g' w w') (hp : g ≠ g') : RowH w' g cap hs := by
  obtain ⟨cur, h⟩ := h; exact ⟨cur, { h with blk := (ho.block g h.blk.lt (by intro e; injection e with e; exact hp e)).trans h.blk }⟩
theorem oneH (hs : List Hd) : ∀ u ∈ hcells hs, u.oneCell' = true := by
  intro u hu
  unfold hcells at hu
  obtain ⟨h, _, hh⟩ := List.mem_flatMap.1 hu
  simp only [List.mem_cons, List.not_mem_nil, or_false] at hh
  rcases hh with rfl | rfl <;> rfl
def ClonedH (hs : List Hd) (w : World) (e : Ending) (w' : World) : Prop :=
  ∃ g cap, e = .returned (.slice (some ⟨g, 0, none⟩) hs.length cap) ∧ w.heap.size ≤ g ∧ RowH w' g cap hs ∧ Ext w w'
theorem clonedH (hs : List Hd) (A : Option Addr) (c : Nat) (w : World) (hr : RdH w A hs) (h0 : 0 < hs.length) (hn : hs.length ≤ 1000000) :
    Calls Tryz.prog 22 #[.slice A hs.length c] w (ClonedH hs w) := by
  obtain ⟨b, o, rfl, hb⟩ := Reads.at_ hr h0
  refine (cloneH ⟨b, o, none⟩ hs.length c (hcells hs) w hr (oneH hs) h0 hn).mono ?_
  rintro e w' ⟨g, cap, cur, rfl, hg, hrow, hx⟩
  exact ⟨g, cap, rfl, hg, ⟨cur, hrow⟩, hx⟩
def DeletedH (hs : List Hd) (k g cap : Nat) (w : World) (e : Ending) (w' : World) : Prop :=
  e = .returned (.slice (some ⟨g, 0, none⟩) (less hs k).length cap) ∧ RowH w' g cap (less hs k) ∧ Only g w w'
theorem deletedH (hs : List Hd) (k g cap : Nat) (w : World) (hr : RowH w g cap hs) (hk : k < hs.length) (hc : cap ≤ 9223372036854775807) :
    Calls Tryz.prog 21 #[.slice (some ⟨g, 0, none⟩) hs.length cap, .int .i64 k, .int .i64 ((k : Int) + 1)] w (DeletedH hs k g cap w) := by
  obtain ⟨cur, hr⟩ := hr
  obtain ⟨p, hp⟩ : ∃ p, hs.length = p + 1 := ⟨hs.length - 1, by omega⟩
  have hl : (less hs k).length = p := by rw [less_len hs k hk]; omega
  have hce : hcells (less hs k) = (hcells hs).take (k * 2) ++ (hcells hs).drop ((k + 1) * 2) := flat_less _ 2 (fun _ => rfl) hs k
  rw [hp] at hr ⊢
  refine (deleteH g cap p k (hcells hs) cur w hr (oneH hs) (by omega) hc).mono ?_
  rintro e w' ⟨cur', rfl, hrow, ho⟩
  exact ⟨by rw [hl], ⟨cur', by rw [hl, hce]; exact hrow⟩, ho⟩
def InsertedH (hs : List Hd) (k : Nat) (hk : k < hs.length) (g : Nat) (w : World) (e : Ending) (w' : World) : Prop :=
  ∃ g' cap, e = .returned (.slice (some ⟨g', 0, none⟩) (twice hs k hk).length cap) ∧ (g' = g ∨ w.heap.size ≤ g') ∧ RowH w' g' cap (twice hs k hk) ∧ Only g w w'
theorem insertedH (hs : List Hd) (k : Nat) (hk : k < hs.length) (g cap vb : Nat) (vs : Array Value) (w : World) (hr : RowH w g cap hs) (hvs : vs = #[.string (bs (hs[k]'hk).ins), .string (bs (hs[k]'hk).qty)]) (hvb : Blk w vb 45 vs) (hne : vb ≠ g) (hc : cap ≤ 9223372036854775807) (hn : hs.length ≤ 1000000) :
    Calls Tryz.prog 23 #[.slice (some ⟨g, 0, none⟩) hs.length cap, .int .i64 k, .slice (some ⟨vb, 0, none⟩) 1 1] w (InsertedH hs k hk g w) := by
  obtain ⟨cur, hr⟩ := hr
  subst hvs
  have hl := twice_len hs k hk
  have hce : hcells (twice hs k hk) = (hcells hs).take (k * 2) ++ [.string (bs (hs[k]'hk).ins), .string (bs (hs[k]'hk).qty)] ++ (hcells hs).drop (k * 2) := flat_twice _ 2 (fun _ => rfl) hs k hk
  have h1v : ∀ u ∈ ([.string (bs (hs[k]'hk).ins), .string (bs (hs[k]'hk).qty)] : List Value), u.oneCell' = true := by
    intro u hu
    simp only [List.mem_cons, List.not_mem_nil, or_false] at hu
    rcases hu with rfl | rfl <;> rfl
  by_cases hroom : hs.length + 1 ≤ cap
  · refine (insertShiftH g cap hs.length k vb (hcells hs) cur [.string (bs (hs[k]'hk).ins), .string (bs (hs[k]'hk).qty)] w hr (oneH hs) hvb hne rfl h1v hk hroom hc).mono ?_
    rintro e w' ⟨g', cap', cur', rfl, hg, hrow, ho⟩
    exact ⟨g', cap', by rw [hl], hg, ⟨cur', by rw [hl, hce]; exact hrow⟩, ho⟩
  · obtain rfl : cap = hs.length := by have := hr.le; omega
    refine (insertGrowH g hs.length k vb (hcells hs) cur [.string (bs (hs[k]'hk).ins), .string (bs (hs[k]'hk).qty)] w hr (oneH hs) hvb rfl h1v hk hn).mono ?_
    rintro e w' ⟨g', cap', cur', rfl, hg, hrow, ho⟩
    exact ⟨g', cap', by rw [hl], hg, ⟨cur', by rw [hl, hce]; exact hrow⟩, ho⟩
theorem RowH.lt {w : World} {g cap : Nat} {hs : List Hd} (h : RowH w g cap hs) : g < w.heap.size := by obtain ⟨_, h⟩ := h; exact h.blk.lt
theorem RowH.cap {w : World} {g cap : Nat} {hs : List Hd} (h : RowH w g cap hs) : cap ≤ maxLen := by obtain ⟨_, h⟩ := h; exact h.big

def RowM (w : World) (g cap : Nat) (hs : List Mv) : Prop := ∃ cur, Row w g 50 5 hs.length cap (mcells hs) cur
theorem RowM.reads {w : World} {g cap : Nat} {hs : List Mv} (h : RowM w g cap hs) : RdM w (some ⟨g, 0, none⟩) hs := by
  obtain ⟨cur, h⟩ := h; exact h.reads
theorem RowM.ext {w w' : World} {g cap : Nat} {hs : List Mv} (h : RowM w g cap hs) (hx : Ext w w') : RowM w' g cap hs := by
  obtain ⟨cur, h⟩ := h; exact ⟨cur, h.ext hx⟩
theorem RowM.far {w : World} {g cap : Nat} {hs : List Mv} (h : RowM w g cap hs) {p : Addr} (hp : g ≠ p.block) (u : Value) : RowM (w.setCell p u) g cap hs := by
  obtain ⟨cur, h⟩ := h; exact ⟨cur, { h with blk := h.blk.far hp u }⟩
theorem RowM.only {w w' : World} {g g' cap : Nat} {hs : List Mv} (h : RowM w g cap hs) (ho : Only g' w w') (hp : g ≠ g') : RowM w' g cap hs := by
  obtain ⟨cur, h⟩ := h; exact ⟨cur, { h with blk := (ho.block g h.blk.lt (by intro e; injection e with e; exact hp e)).trans h.blk }⟩
theorem oneM (hs : List Mv) : ∀ u ∈ mcells hs, u.oneCell' = true := by
  intro u hu
  unfold mcells at hu
  obtain ⟨h, _, hh⟩ := List.mem_flatMap.1 hu
  simp only [List.mem_cons, List.not_mem_nil, or_false] at hh
  rcases hh with rfl | rfl | rfl | rfl | rfl <;> rfl
def ClonedM (hs : List Mv) (w : World) (e : Ending) (w' : World) : Prop :=
  ∃ g cap, e = .returned (.slice (some ⟨g, 0, none⟩) hs.length cap) ∧ w.heap.size ≤ g ∧ RowM w' g cap hs ∧ Ext w w'
theorem clonedM (hs : List Mv) (A : Option Addr) (c : Nat) (w : World) (hr : RdM w A hs) (h0 : 0 < hs.length) (hn : hs.length ≤ 1000000) :
    Calls Tryz.prog 26 #[.slice A hs.length c] w (ClonedM hs w) := by
  obtain ⟨b, o, rfl, hb⟩ := Reads.at_ hr h0
  refine (cloneM ⟨b, o, none⟩ hs.length c (mcells hs) w hr (oneM hs) h0 hn).mono ?_
  rintro e w' ⟨g, cap, cur, rfl, hg, hrow, hx⟩
  exact ⟨g, cap, rfl, hg, ⟨cur, hrow⟩, hx⟩
def DeletedM (hs : List Mv) (k g cap : Nat) (w : World) (e : Ending) (w' : World) : Prop :=
  e = .returned (.slice (some ⟨g, 0, none⟩) (less hs k).length cap) ∧ RowM w' g cap (less hs k) ∧ Only g w w'
theorem deletedM (hs : List Mv) (k g cap : Nat) (w : World) (hr : RowM w g cap hs) (hk : k < hs.length) (hc : cap ≤ 9223372036854775807) :
    Calls Tryz.prog 25 #[.slice (some ⟨g, 0, none⟩) hs.length cap, .int .i64 k, .int .i64 ((k : Int) + 1)] w (DeletedM hs k g cap w) := by
  obtain ⟨cur, hr⟩ := hr
  obtain ⟨p, hp⟩ : ∃ p, hs.length = p + 1 := ⟨hs.length - 1, by omega⟩
  have hl : (less hs k).length = p := by rw [less_len hs k hk]; omega
  have hce : mcells (less hs k) = (mcells hs).take (k * 5) ++ (mcells hs).drop ((k + 1) * 5) := flat_less _ 5 (fun _ => rfl) hs k
  rw [hp] at hr ⊢
  refine (deleteM g cap p k (mcells hs) cur w hr (oneM hs) (by omega) hc).mono ?_
  rintro e w' ⟨cur', rfl, hrow, ho⟩
  exact ⟨by rw [hl], ⟨cur', by rw [hl, hce]; exact hrow⟩, ho⟩
def InsertedM (hs : List Mv) (k : Nat) (hk : k < hs.length) (g : Nat) (w : World) (e : Ending) (w' : World) : Prop :=
  ∃ g' cap, e = .returned (.slice (some ⟨g', 0, none⟩) (twice hs k hk).length cap) ∧ (g' = g ∨ w.heap.size ≤ g') ∧ RowM w' g' cap (twice hs k hk) ∧ Only g w w'
theorem insertedM (hs : List Mv) (k : Nat) (hk : k < hs.length) (g cap vb : Nat) (vs : Array Value) (w : World) (hr : RowM w g cap hs) (hvs : vs = #[.string (bs (hs[k]'hk).ref), .int .i64 (hs[k]'hk).day, .string (bs (hs[k]'hk).ins), .string (bs (hs[k]'hk).qty), .string (bs (hs[k]'hk).amt)]) (hvb : Blk w vb 50 vs) (hne : vb ≠ g) (hc : cap ≤ 9223372036854775807) (hn : hs.length ≤ 1000000) :
    Calls Tryz.prog 27 #[.slice (some ⟨g, 0, none⟩) hs.length cap, .int .i64 k, .slice (some ⟨vb, 0, none⟩) 1 1] w (InsertedM hs k hk g w) := by
  obtain ⟨cur, hr⟩ := hr
  subst hvs
  have hl := twice_len hs k hk
  have hce : mcells (twice hs k hk) = (mcells hs).take (k * 5) ++ [.string (bs (hs[k]'hk).ref), .int .i64 (hs[k]'hk).day, .string (bs (hs[k]'hk).ins), .string (bs (hs[k]'hk).qty), .string (bs (hs[k]'hk).amt)] ++ (mcells hs).drop (k * 5) := flat_twice _ 5 (fun _ => rfl) hs k hk
  have h1v : ∀ u ∈ ([.string (bs (hs[k]'hk).ref), .int .i64 (hs[k]'hk).day, .string (bs (hs[k]'hk).ins), .string (bs (hs[k]'hk).qty), .string (bs (hs[k]'hk).amt)] : List Value), u.oneCell' = true := by
    intro u hu
    simp only [List.mem_cons, List.not_mem_nil, or_false] at hu
    rcases hu with rfl | rfl | rfl | rfl | rfl <;> rfl
  by_cases hroom : hs.length + 1 ≤ cap
  · refine (insertShiftM g cap hs.length k vb (mcells hs) cur [.string (bs (hs[k]'hk).ref), .int .i64 (hs[k]'hk).day, .string (bs (hs[k]'hk).ins), .string (bs (hs[k]'hk).qty), .string (bs (hs[k]'hk).amt)] w hr (oneM hs) hvb hne rfl h1v hk hroom hc).mono ?_
    rintro e w' ⟨g', cap', cur', rfl, hg, hrow, ho⟩
    exact ⟨g', cap', by rw [hl], hg, ⟨cur', by rw [hl, hce]; exact hrow⟩, ho⟩
  · obtain rfl : cap = hs.length := by have := hr.le; omega
    refine (insertGrowM g hs.length k vb (mcells hs) cur [.string (bs (hs[k]'hk).ref), .int .i64 (hs[k]'hk).day, .string (bs (hs[k]'hk).ins), .string (bs (hs[k]'hk).qty), .string (bs (hs[k]'hk).amt)] w hr (oneM hs) hvb rfl h1v hk hn).mono ?_
    rintro e w' ⟨g', cap', cur', rfl, hg, hrow, ho⟩
    exact ⟨g', cap', by rw [hl], hg, ⟨cur', by rw [hl, hce]; exact hrow⟩, ho⟩
theorem RowM.lt {w : World} {g cap : Nat} {hs : List Mv} (h : RowM w g cap hs) : g < w.heap.size := by obtain ⟨_, h⟩ := h; exact h.blk.lt
theorem RowM.cap {w : World} {g cap : Nat} {hs : List Mv} (h : RowM w g cap hs) : cap ≤ maxLen := by obtain ⟨_, h⟩ := h; exact h.big
end Go.Proofs.YteeampgbmpolfaaGreatDoor

/- The walks over slices.Equal at holdings and movements, and over the program's Same. -/
namespace Go.Proofs.YteeampgbmpolfaaGreatDoor
open Go.RowKit
attribute [local go_sem] size_bs toList_bs

def EqEnds (p : Prop) (w : World) (e : Ending) (w' : World) : Prop := Ext w w' ∧ ((p ∧ e = .returned (.bool true)) ∨ (¬ p ∧ e = .returned (.bool false)))
theorem bs_ne {a b : Bs} (h : a ≠ b) : (a == b) = false := by rw [beq_eq_false_iff_ne]; exact h
theorem int_ne {a b : Int} (h : a ≠ b) : (a == b) = false := by rw [beq_eq_false_iff_ne]; exact h
theorem same_at {α : Type} {l l' : List α} (hl : l.length = l'.length) (h : ∀ (j : Nat) (h1 : j < l.length) (h2 : j < l'.length), l[j] = l'[j]) : l = l' := List.ext_getElem hl h
theorem step_at {α : Type} {l l' : List α} {k : Nat} (hz : ∀ (j : Nat) (h1 : j < l.length) (h2 : j < l'.length), j < k → l[j] = l'[j]) (h1 : k < l.length) (h2 : k < l'.length) (he : l[k] = l'[k]) : ∀ (j : Nat) (h1 : j < l.length) (h2 : j < l'.length), j < k + 1 → l[j] = l'[j] := by
  intro j a b hj
  rcases Nat.lt_or_ge j k with h | h
  · exact hz j a b h
  · obtain rfl : j = k := by omega
    exact he
theorem extH {a b : Hd} (h0 : a.ins = b.ins) (h1 : a.qty = b.qty) : a = b := by cases a; cases b; simp_all

set_option maxRecDepth 100000 in
set_option maxHeartbeats 1000000 in
theorem equalH (hs hs' : List Hd) (A A' : Option Addr) (c c' : Nat) (w : World) (hA : RdH w A hs) (hA' : RdH w A' hs') (hn : hs.length ≤ 4611686018427387904) (hn' : hs'.length ≤ 4611686018427387904) :
    Calls Tryz.prog 63 #[.slice A hs.length c, .slice A' hs'.length c'] w (EqEnds (hs = hs') w) := by
  have HA := Lib.hid hA
  have HA' := Lib.hid hA'
  clear hA hA'
  by_cases hl : hs.length = hs'.length
  · have HLL := Lib.hid hl
    have hbl : ((hs.length : Int) != (hs'.length : Int)) = false := by rw [bne_eq_false_iff_eq]; omega
    clear hl
    go_enter Tryz.func63, Tryz.ntmps63
    go_wp2_with fail
    go_loopw [13, 5] (fun i _ wr => ∃ k : Nat, k ≤ hs.length ∧ i = .int .i64 k ∧ (∀ (j : Nat) (h1 : j < hs.length) (h2 : j < hs'.length), j < k → hs[j] = hs'[j]) ∧ Ext w wr) (fun i _ _ => hs.length - (intOf i).toNat)
    case atStart => exact ⟨0, by omega, rfl, fun j _ _ hj => absurd hj (by omega), Ext.refl _⟩
    case round =>
      obtain ⟨k, hk, rfl, hz, hx⟩ := hrel
      have HZ := Lib.hid hz
      have HX := Lib.hid hx
      clear hz hx
      by_cases hlt : k < hs.length
      · have hlt' : k < hs'.length := by have := HLL.out; omega
        obtain ⟨b, o, rfl, hb, hc1, hc2⟩ := (HA.out.ext HX.out).at_ hlt
        obtain ⟨b', o', rfl, hb', hd1, hd2⟩ := (HA'.out.ext HX.out).at_ hlt'
        by_cases he : hs[k] = hs'[k]
        · have HST := Lib.hid (step_at HZ.out hlt hlt' he)
          rw [← he] at hd1 hd2
          generalize (hs[k]'hlt) = h at *
          clear he
          go_wp2_with fail
          go_quiet (fail)
          go_wp2_with fail
          go_roundw
          case rel => exact ⟨k + 1, by omega, by go_num, HST.out, HX.out.drewN _⟩
          case measure => simp [intOf]; omega
        · have HNE : Hid (¬ hs = hs') := Lib.hid (fun e => he (by subst e; rfl))
          have HNC : Hid (¬ ((hs[k]'hlt).ins = (hs'[k]'hlt').ins ∧ (hs[k]'hlt).qty = (hs'[k]'hlt').qty)) := Lib.hid (fun hh => he (by obtain ⟨a0, a1⟩ := hh; exact extH a0 a1))
          generalize (hs[k]'hlt) = h at *
          generalize (hs'[k]'hlt') = h' at *
          clear he
          by_cases e0 : h.ins = h'.ins
          rotate_left
          · have q := bs_ne e0
            clear e0
            go_wp2_with fail
            go_quiet (fail)
            go_wp2_with fail
            go_ret
            exact ⟨HX.out.drewN _, .inr ⟨HNE.out, rfl⟩⟩
          rw [← e0] at hd1
          have e1 : ¬ h.qty = h'.qty := fun e => HNC.out ⟨e0, e⟩
          have q := bs_ne e1
          clear HNC e0 e1
          go_wp2_with fail
          go_quiet (fail)
          go_wp2_with fail
          go_ret
          exact ⟨HX.out.drewN _, .inr ⟨HNE.out, rfl⟩⟩
      · have HEQ : Hid (hs = hs') := Lib.hid (same_at HLL.out (fun j h1 h2 => HZ.out j h1 h2 (by omega)))
        go_wp2_with fail
        go_ret
        exact ⟨HX.out, .inl ⟨HEQ.out, rfl⟩⟩
  · have HNE : Hid (¬ hs = hs') := Lib.hid (fun e => hl (by rw [e]))
    have hbl : ((hs.length : Int) != (hs'.length : Int)) = true := by rw [bne_iff_ne]; omega
    clear hl
    go_enter Tryz.func63, Tryz.ntmps63
    go_wp2_with fail
    go_ret
    exact ⟨Ext.refl _, .inr ⟨HNE.out, rfl⟩⟩
theorem extM {a b : Mv} (h0 : a.ref = b.ref) (h1 : a.day = b.day) (h2 : a.ins = b.ins) (h3 : a.qty = b.qty) (h4 : a.amt = b.amt) : a = b := by cases a; cases b; simp_all

set_option maxRecDepth 100000 in
set_option maxHeartbeats 1000000 in
theorem equalM (hs hs' : List Mv) (A A' : Option Addr) (c c' : Nat) (w : World) (hA : RdM w A hs) (hA' : RdM w A' hs') (hn : hs.length ≤ 4611686018427387904) (hn' : hs'.length ≤ 4611686018427387904) :
    Calls Tryz.prog 37 #[.slice A hs.length c, .slice A' hs'.length c'] w (EqEnds (hs = hs') w) := by
  have HA := Lib.hid hA
  have HA' := Lib.hid hA'
  clear hA hA'
  by_cases hl : hs.length = hs'.length
  · have HLL := Lib.hid hl
    have hbl : ((hs.length : Int) != (hs'.length : Int)) = false := by rw [bne_eq_false_iff_eq]; omega
    clear hl
    go_enter Tryz.func37, Tryz.ntmps37
    go_wp2_with fail
    go_loopw [13, 5] (fun i _ wr => ∃ k : Nat, k ≤ hs.length ∧ i = .int .i64 k ∧ (∀ (j : Nat) (h1 : j < hs.length) (h2 : j < hs'.length), j < k → hs[j] = hs'[j]) ∧ Ext w wr) (fun i _ _ => hs.length - (intOf i).toNat)
    case atStart => exact ⟨0, by omega, rfl, fun j _ _ hj => absurd hj (by omega), Ext.refl _⟩
    case round =>
      obtain ⟨k, hk, rfl, hz, hx⟩ := hrel
      have HZ := Lib.hid hz
      have HX := Lib.hid hx
      clear hz hx
      by_cases hlt : k < hs.length
      · have hlt' : k < hs'.length := by have := HLL.out; omega
        obtain ⟨b, o, rfl, hb, hc1, hc2, hc3, hc4, hc5⟩ := (HA.out.ext HX.out).at_ hlt
        obtain ⟨b', o', rfl, hb', hd1, hd2, hd3, hd4, hd5⟩ := (HA'.out.ext HX.out).at_ hlt'
        by_cases he : hs[k] = hs'[k]
        · have HST := Lib.hid (step_at HZ.out hlt hlt' he)
          rw [← he] at hd1 hd2 hd3 hd4 hd5
          generalize (hs[k]'hlt) = h at *
          clear he
          go_wp2_with fail
          go_quiet (fail)
          go_wp2_with fail
          go_roundw
          case rel => exact ⟨k + 1, by omega, by go_num, HST.out, HX.out.drewN _⟩
          case measure => simp [intOf]; omega
        · have HNE : Hid (¬ hs = hs') := Lib.hid (fun e => he (by subst e; rfl))
          have HNC : Hid (¬ ((hs[k]'hlt).ref = (hs'[k]'hlt').ref ∧ (hs[k]'hlt).day = (hs'[k]'hlt').day ∧ (hs[k]'hlt).ins = (hs'[k]'hlt').ins ∧ (hs[k]'hlt).qty = (hs'[k]'hlt').qty ∧ (hs[k]'hlt).amt = (hs'[k]'hlt').amt)) := Lib.hid (fun hh => he (by obtain ⟨a0, a1, a2, a3, a4⟩ := hh; exact extM a0 a1 a2 a3 a4))
          generalize (hs[k]'hlt) = h at *
          generalize (hs'[k]'hlt') = h' at *
          clear he
          by_cases e0 : h.ref = h'.ref
          rotate_left
          · have q := bs_ne e0
            clear e0
            go_wp2_with fail
            go_quiet (fail)
            go_wp2_with fail
            go_ret
            exact ⟨HX.out.drewN _, .inr ⟨HNE.out, rfl⟩⟩
          rw [← e0] at hd1
          by_cases e1 : h.day = h'.day
          rotate_left
          · have q := int_ne e1
            clear e1
            go_wp2_with fail
            go_quiet (fail)
            go_wp2_with fail
            go_ret
            exact ⟨HX.out.drewN _, .inr ⟨HNE.out, rfl⟩⟩
          rw [← e1] at hd2
          by_cases e2 : h.ins = h'.ins
          rotate_left
          · have q := bs_ne e2
            clear e2
            go_wp2_with fail
            go_quiet (fail)
            go_wp2_with fail
            go_ret
            exact ⟨HX.out.drewN _, .inr ⟨HNE.out, rfl⟩⟩
          rw [← e2] at hd3
          by_cases e3 : h.qty = h'.qty
          rotate_left
          · have q := bs_ne e3
            clear e3
            go_wp2_with fail
            go_quiet (fail)
            go_wp2_with fail
            go_ret
            exact ⟨HX.out.drewN _, .inr ⟨HNE.out, rfl⟩⟩
          rw [← e3] at hd4
          have e4 : ¬ h.amt = h'.amt := fun e => HNC.out ⟨e0, e1, e2, e3, e⟩
          have q := bs_ne e4
          clear HNC e0 e1 e2 e3 e4
          go_wp2_with fail
          go_quiet (fail)
          go_wp2_with fail
          go_ret
          exact ⟨HX.out.drewN _, .inr ⟨HNE.out, rfl⟩⟩
      · have HEQ : Hid (hs = hs') := Lib.hid (same_at HLL.out (fun j h1 h2 => HZ.out j h1 h2 (by omega)))
        go_wp2_with fail
        go_ret
        exact ⟨HX.out, .inl ⟨HEQ.out, rfl⟩⟩
  · have HNE : Hid (¬ hs = hs') := Lib.hid (fun e => hl (by rw [e]))
    have hbl : ((hs.length : Int) != (hs'.length : Int)) = true := by rw [bne_iff_ne]; omega
    clear hl
    go_enter Tryz.func37, Tryz.ntmps37
    go_wp2_with fail
    go_ret
    exact ⟨Ext.refl _, .inr ⟨HNE.out, rfl⟩⟩

set_option maxRecDepth 100000 in
set_option maxHeartbeats 1000000 in
theorem stSame (s s' : St) (A B : Option Addr) (c d : Nat) (A' B' : Option Addr) (c' d' : Nat) (w : World) (hA : RdH w A s.hs) (hB : RdM w B s.ms) (hA' : RdH w A' s'.hs) (hB' : RdM w B' s'.ms) (hn : s.hs.length ≤ 4611686018427387904) (hm : s.ms.length ≤ 4611686018427387904) (hn' : s'.hs.length ≤ 4611686018427387904) (hm' : s'.ms.length ≤ 4611686018427387904) :
    Calls Tryz.prog 24 #[.agg #[.int .i64 s.day, .slice A s.hs.length c, .slice B s.ms.length d], .agg #[.int .i64 s'.day, .slice A' s'.hs.length c', .slice B' s'.ms.length d']] w (EqEnds (s = s') w) := by
  obtain ⟨day, hs, ms⟩ := s
  obtain ⟨day', hs', ms'⟩ := s'
  simp only at hA hB hA' hB' hn hm hn' hm'
  have HE : Hid (((⟨day, hs, ms⟩ : St) = ⟨day', hs', ms'⟩) ↔ (day = day' ∧ hs = hs' ∧ ms = ms')) := Lib.hid (by constructor; (intro h; injection h with a b c; exact ⟨a, b, c⟩); (rintro ⟨rfl, rfl, rfl⟩; rfl))
  have HX0 : Hid (Ext w ((w.alloc (.cells #[.int .i64 day, .slice A hs.length c, .slice B ms.length d] 26)).alloc (.cells #[.int .i64 day', .slice A' hs'.length c', .slice B' ms'.length d'] 26))) := Lib.hid ((Ext.new _ _).alloc _)
  have HW0 := Lib.hid (((Blk.new w 26 #[.int .i64 day, .slice A hs.length c, .slice B ms.length d]).ext (Ext.new _ (.cells #[.int .i64 day', .slice A' hs'.length c', .slice B' ms'.length d'] 26))))
  have HW1 := Lib.hid (Blk.new (w.alloc (.cells #[.int .i64 day, .slice A hs.length c, .slice B ms.length d] 26)) 26 #[.int .i64 day', .slice A' hs'.length c', .slice B' ms'.length d'])
  have HA := Lib.hid hA
  have HB := Lib.hid hB
  have HA' := Lib.hid hA'
  have HB' := Lib.hid hB'
  clear hA hB hA' hB'
  by_cases hd : day = day'
  · subst hd
    go_enter Tryz.func24, Tryz.ntmps24
    go_wp2_with fail
    refine (equalH hs hs' A A' c c' _ (HA.out.ext HX0.out) (HA'.out.ext HX0.out) hn hn').mono ?_
    rintro e w1 ⟨hx1, (⟨hp, rfl⟩ | ⟨hp, rfl⟩)⟩
    · have HP := Lib.hid hp
      have q0 := (HW0.out.ext hx1).cell 2
      have q1 := (HW1.out.ext hx1).cell 2
      simp only [World.size_alloc, List.getElem?_toArray, List.getElem?_cons_zero, List.getElem?_cons_succ] at q0 q1
      have HX1 := Lib.hid (HX0.out.trans hx1)
      clear hp hx1
      go_wp2_with fail
      refine (equalM ms ms' B B' d d' _ (HB.out.ext HX1.out) (HB'.out.ext HX1.out) hm hm').mono ?_
      rintro e w2 ⟨hx2, (⟨hp2, rfl⟩ | ⟨hp2, rfl⟩)⟩
      · have HY : Hid ((⟨day, hs, ms⟩ : St) = ⟨day, hs', ms'⟩) := Lib.hid (HE.out.2 ⟨trivial, HP.out, hp2⟩)
        clear hp2
        go_wp2_with fail
        go_ret
        exact ⟨HX1.out.trans hx2, .inl ⟨HY.out, rfl⟩⟩
      · have HY : Hid (¬ (⟨day, hs, ms⟩ : St) = ⟨day, hs', ms'⟩) := Lib.hid (fun e => hp2 (HE.out.1 e).2.2)
        clear hp2
        go_wp2_with fail
        go_ret
        exact ⟨HX1.out.trans hx2, .inr ⟨HY.out, rfl⟩⟩
    · have HY : Hid (¬ (⟨day, hs, ms⟩ : St) = ⟨day, hs', ms'⟩) := Lib.hid (fun e => hp (HE.out.1 e).2.1)
      have HX1 := Lib.hid (HX0.out.trans hx1)
      clear hp hx1
      go_wp2_with fail
      go_ret
      exact ⟨HX1.out, .inr ⟨HY.out, rfl⟩⟩
  · have HY : Hid (¬ (⟨day, hs, ms⟩ : St) = ⟨day', hs', ms'⟩) := Lib.hid (fun e => hd (HE.out.1 e).1)
    have hdb := int_ne hd
    clear hd
    go_enter Tryz.func24, Tryz.ntmps24
    go_wp2_with fail
    go_ret
    exact ⟨HX0.out, .inr ⟨HY.out, rfl⟩⟩
end Go.Proofs.YteeampgbmpolfaaGreatDoor

/- The walk over the law StatementParts. -/
namespace Go.Proofs.YteeampgbmpolfaaGreatDoor
open Go.RowKit
attribute [local go_sem] size_bs toList_bs extract_bs get_bs append_bs lit_append append_lit

/-- two boxes that hold the same statement -/
def TwoAt (vals : Array Value) (w : World) (s7 s8 : Value) (wx : World) : Prop :=
  ∃ gL gT, s7 = .pointer (some ⟨gL, 0, none⟩) ∧ s8 = .pointer (some ⟨gT, 0, none⟩) ∧ gL ≠ gT ∧ w.heap.size ≤ gL ∧ w.heap.size ≤ gT ∧ Blk wx gL 26 vals ∧ Blk wx gT 26 vals ∧ Ext w wx
theorem twoAt_ab (vals : Array Value) (w : World) : TwoAt vals w (.pointer (some ⟨w.heap.size, 0, none⟩)) (.pointer (some ⟨w.heap.size + 1, 0, none⟩)) (((w.alloc (.cells vals 26)).alloc (.cells vals 26)).drew) :=
  ⟨_, _, rfl, rfl, by omega, by omega, by omega, ((Blk.new w _ _).alloc _).drew, (Blk.new1 w _ _ _).drew, ((Ext.new _ _).alloc _).drew⟩
theorem twoAt_ba (vals : Array Value) (w : World) : TwoAt vals w (.pointer (some ⟨w.heap.size + 1, 0, none⟩)) (.pointer (some ⟨w.heap.size, 0, none⟩)) (((w.alloc (.cells vals 26)).alloc (.cells vals 26)).drew) :=
  ⟨_, _, rfl, rfl, by omega, by omega, by omega, (Blk.new1 w _ _ _).drew, ((Blk.new w _ _).alloc _).drew, ((Ext.new _ _).alloc _).drew⟩
theorem Blk.only {w w' : World} {g g' : Nat} {t : TypeId} {cs : Array Value} (h : Blk w g t cs) (ho : Only g' w w') (hp : g ≠ g') : Blk w' g t cs := (ho.block g h.lt (by intro e; injection e with e; exact hp e)).trans h
theorem small_lessH {s : St} (h : SmallS s) (k : Nat) : SmallS { s with hs := less s.hs k } := by
  have hl : (less s.hs k).length ≤ s.hs.length := by unfold less; simp; omega
  refine ⟨?_, h.mn, fun x hx => h.h x (less_mem hx), h.m⟩
  have := h.hn; simp only; omega
theorem small_twiceH {s : St} (h : SmallS s) (k : Nat) (hk : k < s.hs.length) (hn : s.hs.length ≤ 8) : SmallS { s with hs := twice s.hs k hk } := by
  have hl := twice_len s.hs k hk
  refine ⟨?_, h.mn, fun x hx => h.h x (twice_mem hx), h.m⟩
  simp only; omega
theorem small_lessM {s : St} (h : SmallS s) (k : Nat) : SmallS { s with ms := less s.ms k } := by
  have hl : (less s.ms k).length ≤ s.ms.length := by unfold less; simp; omega
  refine ⟨h.hn, ?_, h.h, fun x hx => h.m x (less_mem hx)⟩
  have := h.mn; simp only; omega
theorem small_twiceM {s : St} (h : SmallS s) (k : Nat) (hk : k < s.ms.length) (hn : s.ms.length ≤ 8) : SmallS { s with ms := twice s.ms k hk } := by
  have hl := twice_len s.ms k hk
  refine ⟨h.hn, ?_, h.h, fun x hx => h.m x (twice_mem hx)⟩
  simp only; omega
/-- the second box holds the statement with one of its holdings twice -/
def TwiceAtH (s : St) (B : Option Addr) (d gT k : Nat) (hk : k < s.hs.length) (w : World) (wx : World) : Prop :=
  ∃ g cap, Blk wx gT 26 #[.int .i64 s.day, .slice (some ⟨g, 0, none⟩) (twice s.hs k hk).length cap, .slice B s.ms.length d] ∧ RowH wx g cap (twice s.hs k hk) ∧ Only gT w wx
def TwiceAtM (s : St) (A : Option Addr) (c gT k : Nat) (hk : k < s.ms.length) (w : World) (wx : World) : Prop :=
  ∃ g cap, Blk wx gT 26 #[.int .i64 s.day, .slice A s.hs.length c, .slice (some ⟨g, 0, none⟩) (twice s.ms k hk).length cap] ∧ RowM wx g cap (twice s.ms k hk) ∧ Only gT w wx

set_option maxRecDepth 100000 in
set_option maxHeartbeats 40000000 in
theorem lawParts (s : St) (A B : Option Addr) (c d : Nat) (n : Int) (w : World) (hA : RdH w A s.hs) (hB : RdM w B s.ms) (hn : s.hs.length ≤ 4611686018427387904) (hm : s.ms.length ≤ 4611686018427387904) (hn0 : 0 ≤ n) (hn1 : n ≤ 255) (hE : Env w) :
    Calls Tryz.prog 6 #[.agg #[.int .i64 s.day, .slice A s.hs.length c, .slice B s.ms.length d], .int .u8 n] w fun e w' => e = .returned (.bool true) ∧ Ext w w' := by
  have HE := Lib.hid hE
  have HA := Lib.hid hA
  have HB := Lib.hid hB
  clear hE hA hB
  have HBX := Lib.hid (Blk.new w 26 #[.int .i64 s.day, .slice A s.hs.length c, .slice B s.ms.length d])
  go_enter Tryz.func6, Tryz.ntmps6
  go_wp2_with fail
  refine (refGreat s A B c d _ (HA.out.ext (Ext.new _ _)) (HB.out.ext (Ext.new _ _)) hn hm).mono ?_
  rintro e w1 ⟨hx1, (⟨hg, rfl⟩ | ⟨hg, rfl⟩)⟩
  · have HX1 := Lib.hid (Ext.of_alloc hx1)
    clear hx1 hg
    go_wp2_with fail
    refine (lawAwake _ (HE.out.ext HX1.out)).mono ?_
    rintro e w2 ⟨rfl, hx2⟩
    go_wp2_with fail
    go_ret
    exact ⟨rfl, HX1.out.trans hx2⟩
  · have HX1 := Lib.hid (Ext.of_alloc hx1)
    have HS := Lib.hid (small_of_great hg)
    have hbx1 := HBX.out.ext hx1
    have hq0 := hbx1.cell 0
    have hq1 := hbx1.cell 1
    have hq2 := hbx1.cell 2
    simp only [List.getElem?_toArray, List.getElem?_cons_zero, List.getElem?_cons_succ] at hq0 hq1 hq2
    have HBX1 := Lib.hid hbx1
    clear hx1 hg HBX hbx1
    by_cases h1 : 8 < (s.hs.length : Int)
    · go_wp2_with fail
      refine (lawAwake _ (HE.out.ext HX1.out)).mono ?_
      rintro e w2 ⟨rfl, hx2⟩
      go_wp2_with fail
      go_ret
      exact ⟨rfl, HX1.out.trans hx2⟩
    by_cases h2 : 8 < (s.ms.length : Int)
    · go_wp2_with fail
      refine (lawAwake _ (HE.out.ext HX1.out)).mono ?_
      rintro e w2 ⟨rfl, hx2⟩
      go_wp2_with fail
      go_ret
      exact ⟨rfl, HX1.out.trans hx2⟩
    go_wp2_with fail
    refine (stCheck s A B c d _ (HA.out.ext HX1.out) (HB.out.ext HX1.out) HS.out).mono ?_
    rintro e w2 ⟨rfl, hx2⟩
    have HX2 := Lib.hid (HX1.out.trans hx2)
    have hbx2 := HBX1.out.ext hx2
    have hr0 := hbx2.cell 0
    have hr1 := hbx2.cell 1
    have hr2 := hbx2.cell 2
    simp only [List.getElem?_toArray, List.getElem?_cons_zero, List.getElem?_cons_succ] at hr0 hr1 hr2
    have hlt2 := hbx2.lt
    have HBX2 := Lib.hid hbx2
    clear hx2 hbx2 hq0 hq1 hq2 HX1 HBX1
    by_cases hck : checkS s = 0
    · rw [hck]
      have HCK := Lib.hid hck
      clear hck
      by_cases hhH : 0 < (s.hs.length : Int)
      · obtain ⟨k, hk⟩ : ∃ k : Nat, n % (s.hs.length : Int) = (k : Int) := ⟨(n % (s.hs.length : Int)).toNat, by have := Int.emod_nonneg n (show (s.hs.length : Int) ≠ 0 by omega); omega⟩
        have hkl : k < s.hs.length := by have := Int.emod_lt_of_pos n hhH; omega
        go_upto_region 6 with fail
        go_cut [7, 8] (fun s7 s8 wx => TwoAt #[.int .i64 s.day, .slice A s.hs.length c, .slice B s.ms.length d] w2 s7 s8 wx)
        case first =>
          go_region
          all_goals (go_wp2_with fail; go_meet; first | exact twoAt_ab _ _ | exact twoAt_ba _ _)
        case rest =>
          obtain ⟨gL, gT, rfl, rfl, hLT, hgL, hgT, hbL, hbT, hx3⟩ := hcut
          have hb3 := HBX2.out.ext hx3
          have hc1 := hb3.cell 1
          simp only [List.getElem?_toArray, List.getElem?_cons_zero, List.getElem?_cons_succ] at hc1
          have HBX3 := Lib.hid hb3
          have HBL := Lib.hid hbL
          have HBT := Lib.hid hbT
          have HX3 := Lib.hid (HX2.out.trans hx3)
          have HX3a := Lib.hid hx3
          clear hb3 hbL hbT hx3 hr0 hr1 hr2
          go_wp2_with fail
          refine (clonedH s.hs A c _ (HA.out.ext HX3.out) (by omega) (by omega)).mono ?_
          rintro e w4 ⟨g, cap, rfl, hg, hrow, hx4⟩
          have HROW := Lib.hid hrow
          have HCAP := Lib.hid hrow.cap
          have HX4 := Lib.hid hx4
          clear hrow hx4
          go_wp2_with fail
          refine (deletedH s.hs k g cap _ HROW.out hkl (by have := HCAP.out; unfold maxLen at this; omega)).mono ?_
          rintro e w5 ⟨rfl, hrow5, ho5⟩
          have hx5 := Ext.only HX4.out ho5 hg
          have hbL5 := HBL.out.ext hx5
          have hbT5 := HBT.out.ext hx5
          have hb5 := HBX3.out.ext hx5
          have hcl : (w5.cell? ⟨gL, 1, none⟩) = some (.slice A s.hs.length c) := by
            have := hbL5.cell 1
            simpa only [List.getElem?_toArray, List.getElem?_cons_zero, List.getElem?_cons_succ] using this
          have hfl := hbL5.frozen 1
          have hgl := hbL5.lt
          have hgw : gL ≠ w.heap.size := by omega
          have hgtw : gT ≠ w.heap.size := by omega
          have hgg : g ≠ gL := by have := HBL.out.lt; omega
          have hggt : g ≠ gT := by have := HBT.out.lt; omega
          have hgs : g ≠ w.heap.size := by have := HBX3.out.lt; omega
          have HLS := Lib.hid (hbL5.set_ 1 (.slice (some ⟨g, 0, none⟩) (less s.hs k).length cap))
          have HRL := Lib.hid (RowH.far hrow5 (p := ⟨gL, 1, none⟩) hgg (.slice (some ⟨g, 0, none⟩) (less s.hs k).length cap))
          have HBTS := Lib.hid (hbT5.far (p := ⟨gL, 1, none⟩) hLT.symm (.slice (some ⟨g, 0, none⟩) (less s.hs k).length cap))
          have HBS := Lib.hid (hb5.far (p := ⟨gL, 1, none⟩) hgw.symm (.slice (some ⟨g, 0, none⟩) (less s.hs k).length cap))
          have HX5 := Lib.hid ((HX3a.out.trans (Ext.only HX4.out ho5 hg)).setCell (p := ⟨gL, 1, none⟩) hgL (.slice (some ⟨g, 0, none⟩) (less s.hs k).length cap))
          clear hrow5 ho5 hx5 hbL5 hbT5 hb5 HX4 HROW HCAP HBL HBT HBX3 HX3 HX3a
          go_upto_region 8 with fail
          generalize hW5 : w5.setCell ⟨gL, 1, none⟩ (.slice (some ⟨g, 0, none⟩) (less s.hs k).length cap) = W5 at *
          clear hW5 hcl hfl hgl hc1
          obtain ⟨b, o, eA, hb0, f1, f2⟩ := HA.out.at_ hkl
          have hb : b < W5.heap.size := by have := (HX2.out.trans HX5.out).size; omega
          have hbt : b ≠ gT := by have := HX2.out.size; omega
          have hbt' : gT ≠ b := hbt.symm
          have he1 := ((HX2.out.trans HX5.out).cell (p := ⟨b, o + k * 2, none⟩) hb0).trans f1
          have he2 := ((HX2.out.trans HX5.out).cell (p := ⟨b, o + k * 2 + 1, none⟩) hb0).trans f2
          clear f1 f2
          have hs1 := HBS.out.cell 1
          have ht1 := HBTS.out.cell 1
          have htf := HBTS.out.frozen 1
          have htl := HBTS.out.lt
          simp only [List.getElem?_toArray, List.getElem?_cons_zero, List.getElem?_cons_succ] at hs1 ht1
          have HELT : Hid (∀ w', Ext W5 w' → True) := Lib.hid (fun _ _ => trivial)
          clear HELT
          go_cut [] (fun wx => TwiceAtH s B d gT k hkl W5 wx)
          case first =>
            subst eA
            go_region_held3 (fun w' => w'.cell? ⟨w.heap.size, 1, none⟩ = some (.slice (some ⟨b, o, none⟩) s.hs.length c) ∧ w'.cell? ⟨b, o + k * 2, none⟩ = some (.string (bs (s.hs[k]'hkl).ins)) ∧ w'.cell? ⟨b, o + k * 2 + 1, none⟩ = some (.string (bs (s.hs[k]'hkl).qty)))
              (go_keep)
              (first
                | (go_at_call 22; refine (clonedH s.hs (some ⟨b, o, none⟩) c _ (HA.out.ext (Ext.trans (HX2.out.trans HX5.out) (by first | exact (Ext.refl _).drew | exact (Ext.new _ _).drew))) (by omega) (by omega)).mono ?_; rintro e w6 ⟨g2, cap2, rfl, hg2, hrow2, hx6⟩; have hg2b : W5.heap.size ≤ g2 := Nat.le_trans (Ext.size (by first | exact (Ext.refl _).drew | exact (Ext.new _ _).drew)) hg2; have hg2c := hrow2.lt; have hx56 : Ext W5 w6 := Ext.trans (by first | exact (Ext.refl _).drew | exact (Ext.new _ _).drew) hx6; have hk1 := (HBS.out.ext hx56).cell 1; have hk2 := (HBTS.out.ext hx56).cell 1; have hk3 := (HBTS.out.ext hx56).frozen 1; have hk4 := (HBTS.out.ext hx56).lt; simp only [List.getElem?_toArray, List.getElem?_cons_zero, List.getElem?_cons_succ] at hk1 hk2; have hk5 := (hx56.cell (p := ⟨b, o + k * 2, none⟩) hb).trans he1; have hk6 := (hx56.cell (p := ⟨b, o + k * 2 + 1, none⟩) hb).trans he2; have HROW2 := Lib.hid hrow2; have HCAP2 := Lib.hid hrow2.cap; have HX56 := Lib.hid hx56; have HX6 := Lib.hid hx6; clear hrow2 hx6 hx56)
                | (go_at_call 23; (first | with_reducible refine (insertedH s.hs k hkl g2 cap2 w6.heap.size #[.string (bs (s.hs[k]'hkl).ins), .string (bs (s.hs[k]'hkl).qty)] _ (HROW2.out.ext (Ext.new _ _)) rfl (Blk.new w6 _ _) (by omega) (by have := HCAP2.out; unfold maxLen at this; omega) (by omega)).mono ?_ | with_reducible refine (insertedH s.hs k hkl g2 cap2 W5.heap.size #[.string (bs (s.hs[k]'hkl).ins), .string (bs (s.hs[k]'hkl).qty)] _ HROW2.out rfl ((Blk.new W5 _ _).drew.ext HX6.out) (by simp at hg2; omega) (by have := HCAP2.out; unfold maxLen at this; omega) (by omega)).mono ?_); rintro e w7 ⟨g3, cap3, rfl, hg3, hrow3, ho3⟩; have hx57 : Ext W5 w7 := Ext.only (by first | exact HX56.out.alloc _ | exact HX56.out) ho3 hg2b; have hg3b : W5.heap.size ≤ g3 := (by rcases hg3 with h | h; omega; have := HX56.out.size; (first | (simp at h; omega) | omega)); have hm1 := (HBS.out.ext hx57).cell 1; have hm2 := (HBTS.out.ext hx57).cell 1; have hm3 := (HBTS.out.ext hx57).frozen 1; have hm4 := (HBTS.out.ext hx57).lt; simp only [List.getElem?_toArray, List.getElem?_cons_zero, List.getElem?_cons_succ] at hm1 hm2; have hm5 := (hx57.cell (p := ⟨b, o + k * 2, none⟩) hb).trans he1; have hm6 := (hx57.cell (p := ⟨b, o + k * 2 + 1, none⟩) hb).trans he2; have HROW3 := Lib.hid hrow3; have HX57 := Lib.hid hx57; clear hrow3 hx57 ho3 hg3))
            all_goals (go_wp2_with fail; go_meet; exact ⟨g3, cap3, (HBTS.out.ext HX57.out).set_ 1 _, RowH.far HROW3.out (p := ⟨gT, 1, none⟩) (by show g3 ≠ gT; omega) _, (Only.of_ext HX57.out).setCell 1 _⟩)
          case rest =>
            clear eA
            obtain ⟨g3, cap3, hbT9, hrow9, ho9⟩ := hcut
            have hxW := Ext.only HX5.out ho9 hgT
            have hbL9 : Blk wc gL 26 #[.int .i64 s.day, .slice (some ⟨g, 0, none⟩) (less s.hs k).length cap, .slice B s.ms.length d] := Blk.only (show Blk W5 gL 26 #[.int .i64 s.day, .slice (some ⟨g, 0, none⟩) (less s.hs k).length cap, .slice B s.ms.length d] from HLS.out) ho9 hLT
            have hrl9 := RowH.only HRL.out ho9 hggt
            have hbs9 := Blk.only HBS.out ho9 hgtw.symm
            have hl0 := hbL9.cell 0
            have hl1 := hbL9.cell 1
            have hl2 := hbL9.cell 2
            have hz0 := hbT9.cell 0
            have hz1 := hbT9.cell 1
            have hz2 := hbT9.cell 2
            have hv0 := hbs9.cell 0
            have hv1 := hbs9.cell 1
            have hv2 := hbs9.cell 2
            simp only [List.getElem?_toArray, List.getElem?_cons_zero, List.getElem?_cons_succ] at hl0 hl1 hl2 hz0 hz1 hz2 hv0 hv1 hv2
            have HXW := Lib.hid (HX2.out.trans hxW)
            have HBL9 := Lib.hid hbL9
            have HBT9 := Lib.hid hbT9
            have HBS9 := Lib.hid hbs9
            have HRL9 := Lib.hid hrl9
            have HRT9 := Lib.hid hrow9
            have HPH := Lib.hid (parts_h HCK.out (by omega) k hkl)
            have HSL := Lib.hid (small_lessH HS.out k)
            have HST := Lib.hid (small_twiceH HS.out k hkl (by omega))
            have HNEQ : Hid (¬ ({ s with hs := less s.hs k } : St) = s) := Lib.hid (fun e => by
              have h1 : (less s.hs k).length = s.hs.length := congrArg (fun x : St => x.hs.length) e
              rw [less_len s.hs k hkl] at h1; omega)
            clear hbL9 hbT9 hbs9 hrl9 hrow9 ho9 hxW HLS HRL HBTS HBS HX5 hs1 ht1 htf htl he1 he2
            go_wp2_with fail
            refine (stCheck { s with hs := less s.hs k } (some ⟨g, 0, none⟩) B cap d _ HRL9.out.reads (HB.out.ext HXW.out) HSL.out).mono ?_
            rw [HPH.out.1]
            rintro e w10 ⟨rfl, hx10⟩
            have HX10 := Lib.hid (HXW.out.trans hx10)
            have hbL10 := HBL9.out.ext hx10
            have hbT10 := HBT9.out.ext hx10
            have hbs10 := HBS9.out.ext hx10
            have hl0 := hbL10.cell 0
            have hl1 := hbL10.cell 1
            have hl2 := hbL10.cell 2
            have hz0 := hbT10.cell 0
            have hz1 := hbT10.cell 1
            have hz2 := hbT10.cell 2
            have hv0 := hbs10.cell 0
            have hv1 := hbs10.cell 1
            have hv2 := hbs10.cell 2
            simp only [List.getElem?_toArray, List.getElem?_cons_zero, List.getElem?_cons_succ] at hl0 hl1 hl2 hz0 hz1 hz2 hv0 hv1 hv2
            have HBL10 := Lib.hid hbL10
            have HBT10 := Lib.hid hbT10
            have HBS10 := Lib.hid hbs10
            have HRL10 := Lib.hid (HRL9.out.ext hx10)
            have HRT10 := Lib.hid (HRT9.out.ext hx10)
            clear hbL10 hbT10 hbs10 hx10 HXW HBL9 HBT9 HBS9 HRL9 HRT9
            go_wp2_with fail
            refine (stCheck { s with hs := twice s.hs k hkl } (some ⟨g3, 0, none⟩) B cap3 d _ HRT10.out.reads (HB.out.ext HX10.out) HST.out).mono ?_
            rw [HPH.out.2]
            rintro e w11 ⟨rfl, hx11⟩
            have HX11 := Lib.hid (HX10.out.trans hx11)
            have hbL11 := HBL10.out.ext hx11
            have hbT11 := HBT10.out.ext hx11
            have hbs11 := HBS10.out.ext hx11
            have hl0 := hbL11.cell 0
            have hl1 := hbL11.cell 1
            have hl2 := hbL11.cell 2
            have hz0 := hbT11.cell 0
            have hz1 := hbT11.cell 1
            have hz2 := hbT11.cell 2
            have hv0 := hbs11.cell 0
            have hv1 := hbs11.cell 1
            have hv2 := hbs11.cell 2
            simp only [List.getElem?_toArray, List.getElem?_cons_zero, List.getElem?_cons_succ] at hl0 hl1 hl2 hz0 hz1 hz2 hv0 hv1 hv2
            have HBL11 := Lib.hid hbL11
            have HBT11 := Lib.hid hbT11
            have HBS11 := Lib.hid hbs11
            have HRL11 := Lib.hid (HRL10.out.ext hx11)
            have HRT11 := Lib.hid (HRT10.out.ext hx11)
            clear hbL11 hbT11 hbs11 hx11 HX10 HBL10 HBT10 HBS10 HRL10 HRT10
            go_wp2_with fail
            refine (stSame { s with hs := less s.hs k } s (some ⟨g, 0, none⟩) B cap d A B c d _ HRL11.out.reads (HB.out.ext HX11.out) (HA.out.ext HX11.out) (HB.out.ext HX11.out) (by have := less_len s.hs k hkl; simp only; omega) (by have := less_len s.hs k hkl; simp only; omega) (by omega) (by omega)).mono ?_
            rintro e w12 ⟨hx12, (⟨hp, rfl⟩ | ⟨hp, rfl⟩)⟩
            · exact absurd hp HNEQ.out
            clear hp
            have HX12 := Lib.hid (HX11.out.trans hx12)
            have hbx := HBS11.out.ext hx12
            have hr0 := hbx.cell 0
            have hr1 := hbx.cell 1
            have hr2 := hbx.cell 2
            simp only [List.getElem?_toArray, List.getElem?_cons_zero, List.getElem?_cons_succ] at hr0 hr1 hr2
            have hlt12 := hbx.lt
            have HBX12 := Lib.hid hbx
            clear hx12 hbx HBS11 HX11 HRL11 HRT11 HBL11 HBT11 hl0 hl1 hl2 hz0 hz1 hz2 hv0 hv1 hv2 HPH HSL HST HNEQ hk
            by_cases hhM : 0 < (s.ms.length : Int)
            · obtain ⟨k, hk⟩ : ∃ k : Nat, n % (s.ms.length : Int) = (k : Int) := ⟨(n % (s.ms.length : Int)).toNat, by have := Int.emod_nonneg n (show (s.ms.length : Int) ≠ 0 by omega); omega⟩
              have hkl : k < s.ms.length := by have := Int.emod_lt_of_pos n hhM; omega
              go_upto_region 14 with fail
              go_cut [11, 12] (fun s7 s8 wx => TwoAt #[.int .i64 s.day, .slice A s.hs.length c, .slice B s.ms.length d] w12 s7 s8 wx)
              case first =>
                go_region
                all_goals (go_wp2_with fail; go_meet; first | exact twoAt_ab _ _ | exact twoAt_ba _ _)
              case rest =>
                obtain ⟨gL, gT, rfl, rfl, hLT, hgL, hgT, hbL, hbT, hx3⟩ := hcut
                have hb3 := HBX12.out.ext hx3
                have hc1 := hb3.cell 2
                simp only [List.getElem?_toArray, List.getElem?_cons_zero, List.getElem?_cons_succ] at hc1
                have HBX3 := Lib.hid hb3
                have HBL := Lib.hid hbL
                have HBT := Lib.hid hbT
                have HX3 := Lib.hid (HX12.out.trans hx3)
                have HX3a := Lib.hid hx3
                clear hb3 hbL hbT hx3 hr0 hr1 hr2
                go_wp2_with fail
                refine (clonedM s.ms B d _ (HB.out.ext HX3.out) (by omega) (by omega)).mono ?_
                rintro e w4 ⟨g, cap, rfl, hg, hrow, hx4⟩
                have HROW := Lib.hid hrow
                have HCAP := Lib.hid hrow.cap
                have HX4 := Lib.hid hx4
                clear hrow hx4
                go_wp2_with fail
                refine (deletedM s.ms k g cap _ HROW.out hkl (by have := HCAP.out; unfold maxLen at this; omega)).mono ?_
                rintro e w5 ⟨rfl, hrow5, ho5⟩
                have hx5 := Ext.only HX4.out ho5 hg
                have hbL5 := HBL.out.ext hx5
                have hbT5 := HBT.out.ext hx5
                have hb5 := HBX3.out.ext hx5
                have hcl : (w5.cell? ⟨gL, 2, none⟩) = some (.slice B s.ms.length d) := by
                  have := hbL5.cell 2
                  simpa only [List.getElem?_toArray, List.getElem?_cons_zero, List.getElem?_cons_succ] using this
                have hfl := hbL5.frozen 2
                have hgl := hbL5.lt
                have hgw : gL ≠ w.heap.size := by omega
                have hgtw : gT ≠ w.heap.size := by omega
                have hgg : g ≠ gL := by have := HBL.out.lt; omega
                have hggt : g ≠ gT := by have := HBT.out.lt; omega
                have hgs : g ≠ w.heap.size := by have := HBX3.out.lt; omega
                have HLS := Lib.hid (hbL5.set_ 2 (.slice (some ⟨g, 0, none⟩) (less s.ms k).length cap))
                have HRL := Lib.hid (RowM.far hrow5 (p := ⟨gL, 2, none⟩) hgg (.slice (some ⟨g, 0, none⟩) (less s.ms k).length cap))
                have HBTS := Lib.hid (hbT5.far (p := ⟨gL, 2, none⟩) hLT.symm (.slice (some ⟨g, 0, none⟩) (less s.ms k).length cap))
                have HBS := Lib.hid (hb5.far (p := ⟨gL, 2, none⟩) hgw.symm (.slice (some ⟨g, 0, none⟩) (less s.ms k).length cap))
                have HX5 := Lib.hid ((HX3a.out.trans (Ext.only HX4.out ho5 hg)).setCell (p := ⟨gL, 2, none⟩) hgL (.slice (some ⟨g, 0, none⟩) (less s.ms k).length cap))
                clear hrow5 ho5 hx5 hbL5 hbT5 hb5 HX4 HROW HCAP HBL HBT HBX3 HX3 HX3a
                go_upto_region 16 with fail
                generalize hW5 : w5.setCell ⟨gL, 2, none⟩ (.slice (some ⟨g, 0, none⟩) (less s.ms k).length cap) = W5 at *
                clear hW5 hcl hfl hgl hc1
                obtain ⟨b, o, eA, hb0, f1, f2, f3, f4, f5⟩ := HB.out.at_ hkl
                have hb : b < W5.heap.size := by have := (HX12.out.trans HX5.out).size; omega
                have hbt : b ≠ gT := by have := HX12.out.size; omega
                have hbt' : gT ≠ b := hbt.symm
                have he1 := ((HX12.out.trans HX5.out).cell (p := ⟨b, o + k * 5, none⟩) hb0).trans f1
                have he2 := ((HX12.out.trans HX5.out).cell (p := ⟨b, o + k * 5 + 1, none⟩) hb0).trans f2
                have he3 := ((HX12.out.trans HX5.out).cell (p := ⟨b, o + k * 5 + 2, none⟩) hb0).trans f3
                have he4 := ((HX12.out.trans HX5.out).cell (p := ⟨b, o + k * 5 + 3, none⟩) hb0).trans f4
                have he5 := ((HX12.out.trans HX5.out).cell (p := ⟨b, o + k * 5 + 4, none⟩) hb0).trans f5
                clear f1 f2 f3 f4 f5
                have hs1 := HBS.out.cell 2
                have ht1 := HBTS.out.cell 2
                have htf := HBTS.out.frozen 2
                have htl := HBTS.out.lt
                simp only [List.getElem?_toArray, List.getElem?_cons_zero, List.getElem?_cons_succ] at hs1 ht1
                have HELT : Hid (∀ w', Ext W5 w' → True) := Lib.hid (fun _ _ => trivial)
                clear HELT
                go_cut [] (fun wx => TwiceAtM s A c gT k hkl W5 wx)
                case first =>
                  subst eA
                  go_region_held3 (fun w' => w'.cell? ⟨w.heap.size, 2, none⟩ = some (.slice (some ⟨b, o, none⟩) s.ms.length d) ∧ w'.cell? ⟨b, o + k * 5, none⟩ = some (.string (bs (s.ms[k]'hkl).ref)) ∧ w'.cell? ⟨b, o + k * 5 + 1, none⟩ = some (.int .i64 (s.ms[k]'hkl).day) ∧ w'.cell? ⟨b, o + k * 5 + 2, none⟩ = some (.string (bs (s.ms[k]'hkl).ins)) ∧ w'.cell? ⟨b, o + k * 5 + 3, none⟩ = some (.string (bs (s.ms[k]'hkl).qty)) ∧ w'.cell? ⟨b, o + k * 5 + 4, none⟩ = some (.string (bs (s.ms[k]'hkl).amt)))
                    (go_keep)
                    (first
                      | (go_at_call 26; refine (clonedM s.ms (some ⟨b, o, none⟩) d _ (HB.out.ext (Ext.trans (HX12.out.trans HX5.out) (by first | exact (Ext.refl _).drew | exact (Ext.new _ _).drew))) (by omega) (by omega)).mono ?_; rintro e w6 ⟨g2, cap2, rfl, hg2, hrow2, hx6⟩; have hg2b : W5.heap.size ≤ g2 := Nat.le_trans (Ext.size (by first | exact (Ext.refl _).drew | exact (Ext.new _ _).drew)) hg2; have hg2c := hrow2.lt; have hx56 : Ext W5 w6 := Ext.trans (by first | exact (Ext.refl _).drew | exact (Ext.new _ _).drew) hx6; have hk1 := (HBS.out.ext hx56).cell 2; have hk2 := (HBTS.out.ext hx56).cell 2; have hk3 := (HBTS.out.ext hx56).frozen 2; have hk4 := (HBTS.out.ext hx56).lt; simp only [List.getElem?_toArray, List.getElem?_cons_zero, List.getElem?_cons_succ] at hk1 hk2; have hk5 := (hx56.cell (p := ⟨b, o + k * 5, none⟩) hb).trans he1; have hk6 := (hx56.cell (p := ⟨b, o + k * 5 + 1, none⟩) hb).trans he2; have hk7 := (hx56.cell (p := ⟨b, o + k * 5 + 2, none⟩) hb).trans he3; have hk8 := (hx56.cell (p := ⟨b, o + k * 5 + 3, none⟩) hb).trans he4; have hk9 := (hx56.cell (p := ⟨b, o + k * 5 + 4, none⟩) hb).trans he5; have HROW2 := Lib.hid hrow2; have HCAP2 := Lib.hid hrow2.cap; have HX56 := Lib.hid hx56; have HX6 := Lib.hid hx6; clear hrow2 hx6 hx56)
                      | (go_at_call 27; (first | with_reducible refine (insertedM s.ms k hkl g2 cap2 w6.heap.size #[.string (bs (s.ms[k]'hkl).ref), .int .i64 (s.ms[k]'hkl).day, .string (bs (s.ms[k]'hkl).ins), .string (bs (s.ms[k]'hkl).qty), .string (bs (s.ms[k]'hkl).amt)] _ (HROW2.out.ext (Ext.new _ _)) rfl (Blk.new w6 _ _) (by omega) (by have := HCAP2.out; unfold maxLen at this; omega) (by omega)).mono ?_ | with_reducible refine (insertedM s.ms k hkl g2 cap2 W5.heap.size #[.string (bs (s.ms[k]'hkl).ref), .int .i64 (s.ms[k]'hkl).day, .string (bs (s.ms[k]'hkl).ins), .string (bs (s.ms[k]'hkl).qty), .string (bs (s.ms[k]'hkl).amt)] _ HROW2.out rfl ((Blk.new W5 _ _).drew.ext HX6.out) (by simp at hg2; omega) (by have := HCAP2.out; unfold maxLen at this; omega) (by omega)).mono ?_); rintro e w7 ⟨g3, cap3, rfl, hg3, hrow3, ho3⟩; have hx57 : Ext W5 w7 := Ext.only (by first | exact HX56.out.alloc _ | exact HX56.out) ho3 hg2b; have hg3b : W5.heap.size ≤ g3 := (by rcases hg3 with h | h; omega; have := HX56.out.size; (first | (simp at h; omega) | omega)); have hm1 := (HBS.out.ext hx57).cell 2; have hm2 := (HBTS.out.ext hx57).cell 2; have hm3 := (HBTS.out.ext hx57).frozen 2; have hm4 := (HBTS.out.ext hx57).lt; simp only [List.getElem?_toArray, List.getElem?_cons_zero, List.getElem?_cons_succ] at hm1 hm2; have hm5 := (hx57.cell (p := ⟨b, o + k * 5, none⟩) hb).trans he1; have hm6 := (hx57.cell (p := ⟨b, o + k * 5 + 1, none⟩) hb).trans he2; have hm7 := (hx57.cell (p := ⟨b, o + k * 5 + 2, none⟩) hb).trans he3; have hm8 := (hx57.cell (p := ⟨b, o + k * 5 + 3, none⟩) hb).trans he4; have hm9 := (hx57.cell (p := ⟨b, o + k * 5 + 4, none⟩) hb).trans he5; have HROW3 := Lib.hid hrow3; have HX57 := Lib.hid hx57; clear hrow3 hx57 ho3 hg3))
                  all_goals (go_wp2_with fail; go_meet; exact ⟨g3, cap3, (HBTS.out.ext HX57.out).set_ 2 _, RowM.far HROW3.out (p := ⟨gT, 2, none⟩) (by show g3 ≠ gT; omega) _, (Only.of_ext HX57.out).setCell 2 _⟩)
                case rest =>
                  clear eA
                  obtain ⟨g3, cap3, hbT9, hrow9, ho9⟩ := hcut
                  have hxW := Ext.only HX5.out ho9 hgT
                  have hbL9 : Blk wc gL 26 #[.int .i64 s.day, .slice A s.hs.length c, .slice (some ⟨g, 0, none⟩) (less s.ms k).length cap] := Blk.only (show Blk W5 gL 26 #[.int .i64 s.day, .slice A s.hs.length c, .slice (some ⟨g, 0, none⟩) (less s.ms k).length cap] from HLS.out) ho9 hLT
                  have hrl9 := RowM.only HRL.out ho9 hggt
                  have hbs9 := Blk.only HBS.out ho9 hgtw.symm
                  have hl0 := hbL9.cell 0
                  have hl1 := hbL9.cell 1
                  have hl2 := hbL9.cell 2
                  have hz0 := hbT9.cell 0
                  have hz1 := hbT9.cell 1
                  have hz2 := hbT9.cell 2
                  have hv0 := hbs9.cell 0
                  have hv1 := hbs9.cell 1
                  have hv2 := hbs9.cell 2
                  simp only [List.getElem?_toArray, List.getElem?_cons_zero, List.getElem?_cons_succ] at hl0 hl1 hl2 hz0 hz1 hz2 hv0 hv1 hv2
                  have HXW := Lib.hid (HX12.out.trans hxW)
                  have HBL9 := Lib.hid hbL9
                  have HBT9 := Lib.hid hbT9
                  have HBS9 := Lib.hid hbs9
                  have HRL9 := Lib.hid hrl9
                  have HRT9 := Lib.hid hrow9
                  have HPH := Lib.hid (parts_m HCK.out (by omega) k hkl)
                  have HSL := Lib.hid (small_lessM HS.out k)
                  have HST := Lib.hid (small_twiceM HS.out k hkl (by omega))
                  have HNEQ : Hid (¬ ({ s with ms := less s.ms k } : St) = s) := Lib.hid (fun e => by
                    have h1 : (less s.ms k).length = s.ms.length := congrArg (fun x : St => x.ms.length) e
                    rw [less_len s.ms k hkl] at h1; omega)
                  clear hbL9 hbT9 hbs9 hrl9 hrow9 ho9 hxW HLS HRL HBTS HBS HX5 hs1 ht1 htf htl he1 he2 he3 he4 he5
                  go_wp2_with fail
                  refine (stCheck { s with ms := less s.ms k } A (some ⟨g, 0, none⟩) c cap _ (HA.out.ext HXW.out) HRL9.out.reads HSL.out).mono ?_
                  rw [HPH.out.1]
                  rintro e w10 ⟨rfl, hx10⟩
                  have HX10 := Lib.hid (HXW.out.trans hx10)
                  have hbL10 := HBL9.out.ext hx10
                  have hbT10 := HBT9.out.ext hx10
                  have hbs10 := HBS9.out.ext hx10
                  have hl0 := hbL10.cell 0
                  have hl1 := hbL10.cell 1
                  have hl2 := hbL10.cell 2
                  have hz0 := hbT10.cell 0
                  have hz1 := hbT10.cell 1
                  have hz2 := hbT10.cell 2
                  have hv0 := hbs10.cell 0
                  have hv1 := hbs10.cell 1
                  have hv2 := hbs10.cell 2
                  simp only [List.getElem?_toArray, List.getElem?_cons_zero, List.getElem?_cons_succ] at hl0 hl1 hl2 hz0 hz1 hz2 hv0 hv1 hv2
                  have HBL10 := Lib.hid hbL10
                  have HBT10 := Lib.hid hbT10
                  have HBS10 := Lib.hid hbs10
                  have HRL10 := Lib.hid (HRL9.out.ext hx10)
                  have HRT10 := Lib.hid (HRT9.out.ext hx10)
                  clear hbL10 hbT10 hbs10 hx10 HXW HBL9 HBT9 HBS9 HRL9 HRT9
                  go_wp2_with fail
                  refine (stCheck { s with ms := twice s.ms k hkl } A (some ⟨g3, 0, none⟩) c cap3 _ (HA.out.ext HX10.out) HRT10.out.reads HST.out).mono ?_
                  rw [HPH.out.2]
                  rintro e w11 ⟨rfl, hx11⟩
                  have HX11 := Lib.hid (HX10.out.trans hx11)
                  have hbL11 := HBL10.out.ext hx11
                  have hbT11 := HBT10.out.ext hx11
                  have hbs11 := HBS10.out.ext hx11
                  have hl0 := hbL11.cell 0
                  have hl1 := hbL11.cell 1
                  have hl2 := hbL11.cell 2
                  have hz0 := hbT11.cell 0
                  have hz1 := hbT11.cell 1
                  have hz2 := hbT11.cell 2
                  have hv0 := hbs11.cell 0
                  have hv1 := hbs11.cell 1
                  have hv2 := hbs11.cell 2
                  simp only [List.getElem?_toArray, List.getElem?_cons_zero, List.getElem?_cons_succ] at hl0 hl1 hl2 hz0 hz1 hz2 hv0 hv1 hv2
                  have HBL11 := Lib.hid hbL11
                  have HBT11 := Lib.hid hbT11
                  have HBS11 := Lib.hid hbs11
                  have HRL11 := Lib.hid (HRL10.out.ext hx11)
                  have HRT11 := Lib.hid (HRT10.out.ext hx11)
                  clear hbL11 hbT11 hbs11 hx11 HX10 HBL10 HBT10 HBS10 HRL10 HRT10
                  go_wp2_with fail
                  refine (stSame { s with ms := less s.ms k } s A (some ⟨g, 0, none⟩) c cap A B c d _ (HA.out.ext HX11.out) HRL11.out.reads (HA.out.ext HX11.out) (HB.out.ext HX11.out) (by have := less_len s.ms k hkl; simp only; omega) (by have := less_len s.ms k hkl; simp only; omega) (by omega) (by omega)).mono ?_
                  rintro e w22 ⟨hx12, (⟨hp, rfl⟩ | ⟨hp, rfl⟩)⟩
                  · exact absurd hp HNEQ.out
                  clear hp
                  have HX22 := Lib.hid (HX11.out.trans hx12)
                  have hbx := HBS11.out.ext hx12
                  have hr0 := hbx.cell 0
                  have hr1 := hbx.cell 1
                  have hr2 := hbx.cell 2
                  simp only [List.getElem?_toArray, List.getElem?_cons_zero, List.getElem?_cons_succ] at hr0 hr1 hr2
                  have hlt22 := hbx.lt
                  have HBX22 := Lib.hid hbx
                  clear hx12 hbx HBS11 HX11 HRL11 HRT11 HBL11 HBT11 hl0 hl1 hl2 hz0 hz1 hz2 hv0 hv1 hv2 HPH HSL HST HNEQ hk
                  go_wp2_with fail
                  refine (stSame s s A B c d A B c d _ (HA.out.ext HX22.out) (HB.out.ext HX22.out) (HA.out.ext HX22.out) (HB.out.ext HX22.out) hn hm hn hm).mono ?_
                  rintro e w30 ⟨hx30, (⟨hp, rfl⟩ | ⟨hp, rfl⟩)⟩
                  · clear hp
                    have HX30 := Lib.hid (HX22.out.trans hx30)
                    clear hx30
                    go_wp2_with fail
                    refine (lawAwake _ (HE.out.ext HX30.out)).mono ?_
                    rintro e w31 ⟨rfl, hx31⟩
                    go_wp2_with fail
                    go_ret
                    exact ⟨rfl, HX30.out.trans hx31⟩
                  · exact absurd rfl hp
            · go_wp2_with fail
              refine (stSame s s A B c d A B c d _ (HA.out.ext HX12.out) (HB.out.ext HX12.out) (HA.out.ext HX12.out) (HB.out.ext HX12.out) hn hm hn hm).mono ?_
              rintro e w30 ⟨hx30, (⟨hp, rfl⟩ | ⟨hp, rfl⟩)⟩
              · clear hp
                have HX30 := Lib.hid (HX12.out.trans hx30)
                clear hx30
                go_wp2_with fail
                refine (lawAwake _ (HE.out.ext HX30.out)).mono ?_
                rintro e w31 ⟨rfl, hx31⟩
                go_wp2_with fail
                go_ret
                exact ⟨rfl, HX30.out.trans hx31⟩
              · exact absurd rfl hp
      · by_cases hhM : 0 < (s.ms.length : Int)
        · obtain ⟨k, hk⟩ : ∃ k : Nat, n % (s.ms.length : Int) = (k : Int) := ⟨(n % (s.ms.length : Int)).toNat, by have := Int.emod_nonneg n (show (s.ms.length : Int) ≠ 0 by omega); omega⟩
          have hkl : k < s.ms.length := by have := Int.emod_lt_of_pos n hhM; omega
          go_upto_region 14 with fail
          go_cut [11, 12] (fun s7 s8 wx => TwoAt #[.int .i64 s.day, .slice A s.hs.length c, .slice B s.ms.length d] w2 s7 s8 wx)
          case first =>
            go_region
            all_goals (go_wp2_with fail; go_meet; first | exact twoAt_ab _ _ | exact twoAt_ba _ _)
          case rest =>
            obtain ⟨gL, gT, rfl, rfl, hLT, hgL, hgT, hbL, hbT, hx3⟩ := hcut
            have hb3 := HBX2.out.ext hx3
            have hc1 := hb3.cell 2
            simp only [List.getElem?_toArray, List.getElem?_cons_zero, List.getElem?_cons_succ] at hc1
            have HBX3 := Lib.hid hb3
            have HBL := Lib.hid hbL
            have HBT := Lib.hid hbT
            have HX3 := Lib.hid (HX2.out.trans hx3)
            have HX3a := Lib.hid hx3
            clear hb3 hbL hbT hx3 hr0 hr1 hr2
            go_wp2_with fail
            refine (clonedM s.ms B d _ (HB.out.ext HX3.out) (by omega) (by omega)).mono ?_
            rintro e w4 ⟨g, cap, rfl, hg, hrow, hx4⟩
            have HROW := Lib.hid hrow
            have HCAP := Lib.hid hrow.cap
            have HX4 := Lib.hid hx4
            clear hrow hx4
            go_wp2_with fail
            refine (deletedM s.ms k g cap _ HROW.out hkl (by have := HCAP.out; unfold maxLen at this; omega)).mono ?_
            rintro e w5 ⟨rfl, hrow5, ho5⟩
            have hx5 := Ext.only HX4.out ho5 hg
            have hbL5 := HBL.out.ext hx5
            have hbT5 := HBT.out.ext hx5
            have hb5 := HBX3.out.ext hx5
            have hcl : (w5.cell? ⟨gL, 2, none⟩) = some (.slice B s.ms.length d) := by
              have := hbL5.cell 2
              simpa only [List.getElem?_toArray, List.getElem?_cons_zero, List.getElem?_cons_succ] using this
            have hfl := hbL5.frozen 2
            have hgl := hbL5.lt
            have hgw : gL ≠ w.heap.size := by omega
            have hgtw : gT ≠ w.heap.size := by omega
            have hgg : g ≠ gL := by have := HBL.out.lt; omega
            have hggt : g ≠ gT := by have := HBT.out.lt; omega
            have hgs : g ≠ w.heap.size := by have := HBX3.out.lt; omega
            have HLS := Lib.hid (hbL5.set_ 2 (.slice (some ⟨g, 0, none⟩) (less s.ms k).length cap))
            have HRL := Lib.hid (RowM.far hrow5 (p := ⟨gL, 2, none⟩) hgg (.slice (some ⟨g, 0, none⟩) (less s.ms k).length cap))
            have HBTS := Lib.hid (hbT5.far (p := ⟨gL, 2, none⟩) hLT.symm (.slice (some ⟨g, 0, none⟩) (less s.ms k).length cap))
            have HBS := Lib.hid (hb5.far (p := ⟨gL, 2, none⟩) hgw.symm (.slice (some ⟨g, 0, none⟩) (less s.ms k).length cap))
            have HX5 := Lib.hid ((HX3a.out.trans (Ext.only HX4.out ho5 hg)).setCell (p := ⟨gL, 2, none⟩) hgL (.slice (some ⟨g, 0, none⟩) (less s.ms k).length cap))
            clear hrow5 ho5 hx5 hbL5 hbT5 hb5 HX4 HROW HCAP HBL HBT HBX3 HX3 HX3a
            go_upto_region 16 with fail
            generalize hW5 : w5.setCell ⟨gL, 2, none⟩ (.slice (some ⟨g, 0, none⟩) (less s.ms k).length cap) = W5 at *
            clear hW5 hcl hfl hgl hc1
            obtain ⟨b, o, eA, hb0, f1, f2, f3, f4, f5⟩ := HB.out.at_ hkl
            have hb : b < W5.heap.size := by have := (HX2.out.trans HX5.out).size; omega
            have hbt : b ≠ gT := by have := HX2.out.size; omega
            have hbt' : gT ≠ b := hbt.symm
            have he1 := ((HX2.out.trans HX5.out).cell (p := ⟨b, o + k * 5, none⟩) hb0).trans f1
            have he2 := ((HX2.out.trans HX5.out).cell (p := ⟨b, o + k * 5 + 1, none⟩) hb0).trans f2
            have he3 := ((HX2.out.trans HX5.out).cell (p := ⟨b, o + k * 5 + 2, none⟩) hb0).trans f3
            have he4 := ((HX2.out.trans HX5.out).cell (p := ⟨b, o + k * 5 + 3, none⟩) hb0).trans f4
            have he5 := ((HX2.out.trans HX5.out).cell (p := ⟨b, o + k * 5 + 4, none⟩) hb0).trans f5
            clear f1 f2 f3 f4 f5
            have hs1 := HBS.out.cell 2
            have ht1 := HBTS.out.cell 2
            have htf := HBTS.out.frozen 2
            have htl := HBTS.out.lt
            simp only [List.getElem?_toArray, List.getElem?_cons_zero, List.getElem?_cons_succ] at hs1 ht1
            have HELT : Hid (∀ w', Ext W5 w' → True) := Lib.hid (fun _ _ => trivial)
            clear HELT
            go_cut [] (fun wx => TwiceAtM s A c gT k hkl W5 wx)
            case first =>
              subst eA
              go_region_held3 (fun w' => w'.cell? ⟨w.heap.size, 2, none⟩ = some (.slice (some ⟨b, o, none⟩) s.ms.length d) ∧ w'.cell? ⟨b, o + k * 5, none⟩ = some (.string (bs (s.ms[k]'hkl).ref)) ∧ w'.cell? ⟨b, o + k * 5 + 1, none⟩ = some (.int .i64 (s.ms[k]'hkl).day) ∧ w'.cell? ⟨b, o + k * 5 + 2, none⟩ = some (.string (bs (s.ms[k]'hkl).ins)) ∧ w'.cell? ⟨b, o + k * 5 + 3, none⟩ = some (.string (bs (s.ms[k]'hkl).qty)) ∧ w'.cell? ⟨b, o + k * 5 + 4, none⟩ = some (.string (bs (s.ms[k]'hkl).amt)))
                (go_keep)
                (first
                  | (go_at_call 26; refine (clonedM s.ms (some ⟨b, o, none⟩) d _ (HB.out.ext (Ext.trans (HX2.out.trans HX5.out) (by first | exact (Ext.refl _).drew | exact (Ext.new _ _).drew))) (by omega) (by omega)).mono ?_; rintro e w6 ⟨g2, cap2, rfl, hg2, hrow2, hx6⟩; have hg2b : W5.heap.size ≤ g2 := Nat.le_trans (Ext.size (by first | exact (Ext.refl _).drew | exact (Ext.new _ _).drew)) hg2; have hg2c := hrow2.lt; have hx56 : Ext W5 w6 := Ext.trans (by first | exact (Ext.refl _).drew | exact (Ext.new _ _).drew) hx6; have hk1 := (HBS.out.ext hx56).cell 2; have hk2 := (HBTS.out.ext hx56).cell 2; have hk3 := (HBTS.out.ext hx56).frozen 2; have hk4 := (HBTS.out.ext hx56).lt; simp only [List.getElem?_toArray, List.getElem?_cons_zero, List.getElem?_cons_succ] at hk1 hk2; have hk5 := (hx56.cell (p := ⟨b, o + k * 5, none⟩) hb).trans he1; have hk6 := (hx56.cell (p := ⟨b, o + k * 5 + 1, none⟩) hb).trans he2; have hk7 := (hx56.cell (p := ⟨b, o + k * 5 + 2, none⟩) hb).trans he3; have hk8 := (hx56.cell (p := ⟨b, o + k * 5 + 3, none⟩) hb).trans he4; have hk9 := (hx56.cell (p := ⟨b, o + k * 5 + 4, none⟩) hb).trans he5; have HROW2 := Lib.hid hrow2; have HCAP2 := Lib.hid hrow2.cap; have HX56 := Lib.hid hx56; have HX6 := Lib.hid hx6; clear hrow2 hx6 hx56)
                  | (go_at_call 27; (first | with_reducible refine (insertedM s.ms k hkl g2 cap2 w6.heap.size #[.string (bs (s.ms[k]'hkl).ref), .int .i64 (s.ms[k]'hkl).day, .string (bs (s.ms[k]'hkl).ins), .string (bs (s.ms[k]'hkl).qty), .string (bs (s.ms[k]'hkl).amt)] _ (HROW2.out.ext (Ext.new _ _)) rfl (Blk.new w6 _ _) (by omega) (by have := HCAP2.out; unfold maxLen at this; omega) (by omega)).mono ?_ | with_reducible refine (insertedM s.ms k hkl g2 cap2 W5.heap.size #[.string (bs (s.ms[k]'hkl).ref), .int .i64 (s.ms[k]'hkl).day, .string (bs (s.ms[k]'hkl).ins), .string (bs (s.ms[k]'hkl).qty), .string (bs (s.ms[k]'hkl).amt)] _ HROW2.out rfl ((Blk.new W5 _ _).drew.ext HX6.out) (by simp at hg2; omega) (by have := HCAP2.out; unfold maxLen at this; omega) (by omega)).mono ?_); rintro e w7 ⟨g3, cap3, rfl, hg3, hrow3, ho3⟩; have hx57 : Ext W5 w7 := Ext.only (by first | exact HX56.out.alloc _ | exact HX56.out) ho3 hg2b; have hg3b : W5.heap.size ≤ g3 := (by rcases hg3 with h | h; omega; have := HX56.out.size; (first | (simp at h; omega) | omega)); have hm1 := (HBS.out.ext hx57).cell 2; have hm2 := (HBTS.out.ext hx57).cell 2; have hm3 := (HBTS.out.ext hx57).frozen 2; have hm4 := (HBTS.out.ext hx57).lt; simp only [List.getElem?_toArray, List.getElem?_cons_zero, List.getElem?_cons_succ] at hm1 hm2; have hm5 := (hx57.cell (p := ⟨b, o + k * 5, none⟩) hb).trans he1; have hm6 := (hx57.cell (p := ⟨b, o + k * 5 + 1, none⟩) hb).trans he2; have hm7 := (hx57.cell (p := ⟨b, o + k * 5 + 2, none⟩) hb).trans he3; have hm8 := (hx57.cell (p := ⟨b, o + k * 5 + 3, none⟩) hb).trans he4; have hm9 := (hx57.cell (p := ⟨b, o + k * 5 + 4, none⟩) hb).trans he5; have HROW3 := Lib.hid hrow3; have HX57 := Lib.hid hx57; clear hrow3 hx57 ho3 hg3))
              all_goals (go_wp2_with fail; go_meet; exact ⟨g3, cap3, (HBTS.out.ext HX57.out).set_ 2 _, RowM.far HROW3.out (p := ⟨gT, 2, none⟩) (by show g3 ≠ gT; omega) _, (Only.of_ext HX57.out).setCell 2 _⟩)
            case rest =>
              clear eA
              obtain ⟨g3, cap3, hbT9, hrow9, ho9⟩ := hcut
              have hxW := Ext.only HX5.out ho9 hgT
              have hbL9 : Blk wc gL 26 #[.int .i64 s.day, .slice A s.hs.length c, .slice (some ⟨g, 0, none⟩) (less s.ms k).length cap] := Blk.only (show Blk W5 gL 26 #[.int .i64 s.day, .slice A s.hs.length c, .slice (some ⟨g, 0, none⟩) (less s.ms k).length cap] from HLS.out) ho9 hLT
              have hrl9 := RowM.only HRL.out ho9 hggt
              have hbs9 := Blk.only HBS.out ho9 hgtw.symm
              have hl0 := hbL9.cell 0
              have hl1 := hbL9.cell 1
              have hl2 := hbL9.cell 2
              have hz0 := hbT9.cell 0
              have hz1 := hbT9.cell 1
              have hz2 := hbT9.cell 2
              have hv0 := hbs9.cell 0
              have hv1 := hbs9.cell 1
              have hv2 := hbs9.cell 2
              simp only [List.getElem?_toArray, List.getElem?_cons_zero, List.getElem?_cons_succ] at hl0 hl1 hl2 hz0 hz1 hz2 hv0 hv1 hv2
              have HXW := Lib.hid (HX2.out.trans hxW)
              have HBL9 := Lib.hid hbL9
              have HBT9 := Lib.hid hbT9
              have HBS9 := Lib.hid hbs9
              have HRL9 := Lib.hid hrl9
              have HRT9 := Lib.hid hrow9
              have HPH := Lib.hid (parts_m HCK.out (by omega) k hkl)
              have HSL := Lib.hid (small_lessM HS.out k)
              have HST := Lib.hid (small_twiceM HS.out k hkl (by omega))
              have HNEQ : Hid (¬ ({ s with ms := less s.ms k } : St) = s) := Lib.hid (fun e => by
                have h1 : (less s.ms k).length = s.ms.length := congrArg (fun x : St => x.ms.length) e
                rw [less_len s.ms k hkl] at h1; omega)
              clear hbL9 hbT9 hbs9 hrl9 hrow9 ho9 hxW HLS HRL HBTS HBS HX5 hs1 ht1 htf htl he1 he2 he3 he4 he5
              go_wp2_with fail
              refine (stCheck { s with ms := less s.ms k } A (some ⟨g, 0, none⟩) c cap _ (HA.out.ext HXW.out) HRL9.out.reads HSL.out).mono ?_
              rw [HPH.out.1]
              rintro e w10 ⟨rfl, hx10⟩
              have HX10 := Lib.hid (HXW.out.trans hx10)
              have hbL10 := HBL9.out.ext hx10
              have hbT10 := HBT9.out.ext hx10
              have hbs10 := HBS9.out.ext hx10
              have hl0 := hbL10.cell 0
              have hl1 := hbL10.cell 1
              have hl2 := hbL10.cell 2
              have hz0 := hbT10.cell 0
              have hz1 := hbT10.cell 1
              have hz2 := hbT10.cell 2
              have hv0 := hbs10.cell 0
              have hv1 := hbs10.cell 1
              have hv2 := hbs10.cell 2
              simp only [List.getElem?_toArray, List.getElem?_cons_zero, List.getElem?_cons_succ] at hl0 hl1 hl2 hz0 hz1 hz2 hv0 hv1 hv2
              have HBL10 := Lib.hid hbL10
              have HBT10 := Lib.hid hbT10
              have HBS10 := Lib.hid hbs10
              have HRL10 := Lib.hid (HRL9.out.ext hx10)
              have HRT10 := Lib.hid (HRT9.out.ext hx10)
              clear hbL10 hbT10 hbs10 hx10 HXW HBL9 HBT9 HBS9 HRL9 HRT9
              go_wp2_with fail
              refine (stCheck { s with ms := twice s.ms k hkl } A (some ⟨g3, 0, none⟩) c cap3 _ (HA.out.ext HX10.out) HRT10.out.reads HST.out).mono ?_
              rw [HPH.out.2]
              rintro e w11 ⟨rfl, hx11⟩
              have HX11 := Lib.hid (HX10.out.trans hx11)
              have hbL11 := HBL10.out.ext hx11
              have hbT11 := HBT10.out.ext hx11
              have hbs11 := HBS10.out.ext hx11
              have hl0 := hbL11.cell 0
              have hl1 := hbL11.cell 1
              have hl2 := hbL11.cell 2
              have hz0 := hbT11.cell 0
              have hz1 := hbT11.cell 1
              have hz2 := hbT11.cell 2
              have hv0 := hbs11.cell 0
              have hv1 := hbs11.cell 1
              have hv2 := hbs11.cell 2
              simp only [List.getElem?_toArray, List.getElem?_cons_zero, List.getElem?_cons_succ] at hl0 hl1 hl2 hz0 hz1 hz2 hv0 hv1 hv2
              have HBL11 := Lib.hid hbL11
              have HBT11 := Lib.hid hbT11
              have HBS11 := Lib.hid hbs11
              have HRL11 := Lib.hid (HRL10.out.ext hx11)
              have HRT11 := Lib.hid (HRT10.out.ext hx11)
              clear hbL11 hbT11 hbs11 hx11 HX10 HBL10 HBT10 HBS10 HRL10 HRT10
              go_wp2_with fail
              refine (stSame { s with ms := less s.ms k } s A (some ⟨g, 0, none⟩) c cap A B c d _ (HA.out.ext HX11.out) HRL11.out.reads (HA.out.ext HX11.out) (HB.out.ext HX11.out) (by have := less_len s.ms k hkl; simp only; omega) (by have := less_len s.ms k hkl; simp only; omega) (by omega) (by omega)).mono ?_
              rintro e w22 ⟨hx12, (⟨hp, rfl⟩ | ⟨hp, rfl⟩)⟩
              · exact absurd hp HNEQ.out
              clear hp
              have HX22 := Lib.hid (HX11.out.trans hx12)
              have hbx := HBS11.out.ext hx12
              have hr0 := hbx.cell 0
              have hr1 := hbx.cell 1
              have hr2 := hbx.cell 2
              simp only [List.getElem?_toArray, List.getElem?_cons_zero, List.getElem?_cons_succ] at hr0 hr1 hr2
              have hlt22 := hbx.lt
              have HBX22 := Lib.hid hbx
              clear hx12 hbx HBS11 HX11 HRL11 HRT11 HBL11 HBT11 hl0 hl1 hl2 hz0 hz1 hz2 hv0 hv1 hv2 HPH HSL HST HNEQ hk
              go_wp2_with fail
              refine (stSame s s A B c d A B c d _ (HA.out.ext HX22.out) (HB.out.ext HX22.out) (HA.out.ext HX22.out) (HB.out.ext HX22.out) hn hm hn hm).mono ?_
              rintro e w30 ⟨hx30, (⟨hp, rfl⟩ | ⟨hp, rfl⟩)⟩
              · clear hp
                have HX30 := Lib.hid (HX22.out.trans hx30)
                clear hx30
                go_wp2_with fail
                refine (lawAwake _ (HE.out.ext HX30.out)).mono ?_
                rintro e w31 ⟨rfl, hx31⟩
                go_wp2_with fail
                go_ret
                exact ⟨rfl, HX30.out.trans hx31⟩
              · exact absurd rfl hp
        · go_wp2_with fail
          refine (stSame s s A B c d A B c d _ (HA.out.ext HX2.out) (HB.out.ext HX2.out) (HA.out.ext HX2.out) (HB.out.ext HX2.out) hn hm hn hm).mono ?_
          rintro e w30 ⟨hx30, (⟨hp, rfl⟩ | ⟨hp, rfl⟩)⟩
          · clear hp
            have HX30 := Lib.hid (HX2.out.trans hx30)
            clear hx30
            go_wp2_with fail
            refine (lawAwake _ (HE.out.ext HX30.out)).mono ?_
            rintro e w31 ⟨rfl, hx31⟩
            go_wp2_with fail
            go_ret
            exact ⟨rfl, HX30.out.trans hx31⟩
          · exact absurd rfl hp
    · have hb1 : (checkS s != 0) = true := by simpa using hck
      have hb2 : (checkS s == 0) = false := by simpa using hck
      generalize checkS s = cs at *
      clear hck
      go_wp2_with fail
      refine (lawAwake _ (HE.out.ext HX2.out)).mono ?_
      rintro e w3 ⟨rfl, hx3⟩
      go_wp2_with fail
      go_ret
      exact ⟨rfl, HX2.out.trans hx3⟩
end Go.Proofs.YteeampgbmpolfaaGreatDoor
