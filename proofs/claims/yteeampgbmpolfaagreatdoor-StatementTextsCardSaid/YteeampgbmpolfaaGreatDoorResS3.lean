/- A statement and two numbers as results, through cells; and the marks of a range over a function. -/
import Derived.Test.YteeampgbmpolfaaGreatDoorResS
import Derived.Test.YteeampgbmpolfaaGreatDoorRange
import Derived.Test.YteeampgbmpolfaaGreatDoorRefParseS
import Derived.Test.YteeampgbmpolfaaGreatDoorReadR
namespace Go.Proofs.YteeampgbmpolfaaGreatDoor
open Go.RowKit Go.Shelf

theorem results_st3 {fn : Func} {a b c : Tmp} (h : fn.results = #[.cell a 26, .cell b 3, .cell c 29]) (tmps : Array Value) (w : World) (g g1 g2 : Nat) (x y z : Value) (u v : Int) (ha : tmps.getD a undef = .pointer (some ⟨g, 0, none⟩)) (hb : Blk w g 26 #[x, y, z])
    (ha1 : tmps.getD b undef = .pointer (some ⟨g1, 0, none⟩)) (hb1 : Blk w g1 3 #[.int .i64 u]) (ha2 : tmps.getD c undef = .pointer (some ⟨g2, 0, none⟩)) (hb2 : Blk w g2 29 #[.int .i64 v]) :
    (results fn tmps).run Tryz.prog w = .ok (.tuple #[.agg #[x, y, z], .int .i64 u, .int .i64 v]) w := by
  have h0 := hb.cell 0
  have h1 := hb.cell 1
  have h2 := hb.cell 2
  have h3 := hb1.cell 0
  have h4 := hb2.cell 0
  simp only [List.getElem?_toArray, List.getElem?_cons_zero, List.getElem?_cons_succ] at h0 h1 h2 h3 h4
  unfold results
  rw [h]
  simp only [List.mapM_toArray, List.mapM_cons, List.mapM_nil, ha, ha1, ha2]
  go_simp
theorem Blk.put {W : World} {g l : Nat} {t : TypeId} {cs : Array Value} (h : Blk W g t cs) (o : Obj) (hne : g ≠ l) : Blk (W.putObj l o) g t cs := (World.putObj_heap_other hne).trans h
theorem own_put {w : World} {base : Nat} {e : TypeId} {size n : Nat} {v : Value} {xs : List Value} {l : Nat} (h : w.ownsRow base e size v n xs) (hl : l < base) (o : Obj) : (w.putObj l o).ownsRow base e size v n xs :=
  h.kept (row := some l) ⟨rfl, rfl, rfl, by simp, fun i _ hne => World.putObj_heap_other (fun h => hne (by rw [h]))⟩ (.inr (fun he => by have := (h.lt l he).1; omega))
theorem StAt.put {w : World} {base g l : Nat} {t : TypeId} {more : List Value} {s : St} (h : StAt w base g t more s) (hl : l < base) (hne : g ≠ l) (o : Obj) : StAt (w.putObj l o) base g t more s := by
  obtain ⟨vA, vB, h⟩ := h
  exact ⟨vA, vB, h.1.put o hne, trivial, own_put h.2.2.1 hl o, own_put h.2.2.2 hl o⟩
theorem StAt.set_low {w : World} {base g g' i : Nat} {t : TypeId} {more : List Value} {s : St} (h : StAt w base g t more s) (hl : g' < base) (hne : g ≠ g') (u : Value) : StAt (w.setCell ⟨g', i, none⟩ u) base g t more s := by
  obtain ⟨vA, vB, h⟩ := h
  exact ⟨vA, vB, h.1.far hne u, trivial, own_set h.2.2.1 (fun he => by have := (h.2.2.1.lt g' he).1; omega) u, own_set h.2.2.2 (fun he => by have := (h.2.2.2.lt g' he).1; omega) u⟩
theorem Ext.put {a b : World} (h : Ext a b) {r : Nat} (hr : a.heap.size ≤ r) (o : Obj) : Ext a (b.putObj r o) := h.putObj hr o

/-- how Parse's loop stands in memory -/
structure PAt (t : Bs) (w : World) (lp : Loop) (rest : Bs) (k : Nat) (s : St) (W : World) : Prop where
  same : resL t = goLines s k (splitOn 10 rest)
  hs : s.hs.length ≤ k
  ms : s.ms.length ≤ k
  sized : Sized 100000 s
  len : k + rest.length ≤ t.length
  st : StAt W (w.heap.size + 1 + 1 + 1 + 1 + 1 + 1 + 1 + 1) (w.heap.size + 1 + 1 + 1) 81 (moreB (!(k == 0))) s
  ext : Ext w W
  big : w.heap.size + 1 + 1 + 1 + 1 + 1 + 1 + 1 + 1 ≤ W.heap.size
  r0 : Blk W w.heap.size 26 #[.int .i64 0, .slice none 0 0, .slice none 0 0]
  r1 : Blk W (w.heap.size + 1) 3 #[.int .i64 0]
  r2 : Blk W (w.heap.size + 1 + 1) 29 #[.int .i64 0]
  n : Blk W (w.heap.size + 1 + 1 + 1 + 1) 3 #[.int .i64 k]
  box : Blk W (w.heap.size + 1 + 1 + 1 + 1 + 1) 9 #[.string (bs rest)]
  D : W.heap[w.heap.size + 1 + 1 + 1 + 1 + 1 + 1]? = some (.deferred (some []))
  L : W.heap[w.heap.size + 1 + 1 + 1 + 1 + 1 + 1 + 1]? = some (.loop lp)
/-- how it stands when a line was wrong -/
structure PBad (t : Bs) (w : World) (lp : Loop) (W : World) : Prop where
  ne : (resL t).2 ≠ 0
  ext : Ext w W
  r0 : Blk W w.heap.size 26 #[.int .i64 0, .slice none 0 0, .slice none 0 0]
  r1 : Blk W (w.heap.size + 1) 3 #[.int .i64 (resL t).2]
  r2 : Blk W (w.heap.size + 1 + 1) 29 #[.int .i64 3]
  D : W.heap[w.heap.size + 1 + 1 + 1 + 1 + 1 + 1]? = some (.deferred (some []))
  L : W.heap[w.heap.size + 1 + 1 + 1 + 1 + 1 + 1 + 1]? = some (.loop lp)
theorem splitOn_first (rest : Bs) : (∀ x ∈ rest, x ≠ 10) ∧ Lib.cut rest [10] = (rest, [], false) ∧ splitOn 10 rest = [rest] ∨ ∃ p r, rest = p ++ 10 :: r ∧ Lib.cut rest [10] = (p, r, true) ∧ splitOn 10 rest = p :: splitOn 10 r := by
  rcases first_of 10 rest with ⟨h1, h2⟩ | ⟨p, r, rfl, h1, h2⟩
  · exact .inl ⟨h1, cut_none 10 rest h1, splitOn_none 10 rest h1⟩
  · exact .inr ⟨p, r, rfl, cut_some 10 p r h1, splitOn_cut 10 p r h1⟩
theorem goLines_cons {s : St} {k : Nat} {p : Bs} {ls : List Bs} (h : ls ≠ []) : goLines s k (p :: ls) = match stepLine s (k == 0) p with | some s' => goLines s' (k + 1) ls | none => (s, (k : Int) + 1) := by
  cases ls with
  | nil => exact absurd rfl h
  | cons y r => rfl
end Go.Proofs.YteeampgbmpolfaaGreatDoor
