/- A statement as an argument of a row, and the library's variables. -/
import Derived.Test.YteeampgbmpolfaaGreatDoorRow
import Derived.Test.YteeampgbmpolfaaGreatDoorEnv
import Derived.Lib.LaidTab
import Derived.Shelf.Vars
namespace Go.Proofs.YteeampgbmpolfaaGreatDoor
open Go.ChangeShapes Go.WideShapes Go.ChangeAt Go.RowKit Go.Deep Go.Joins

instance : Inhabited Hd := ⟨⟨[], []⟩⟩
instance : Inhabited Mv := ⟨⟨[], 0, [], [], []⟩⟩
set_option maxRecDepth 100000 in
theorem list_small {H : Type} {P : Program} {t e : TypeId} {α : Type} {xs : List α} {d : DataW H} (ht : P.underlying t = some (.slice e)) (hb : 0 < P.bytesOf e) (hw : (d.weights P t).all (· ≤ reachBytes) = true) (hx : xs = [] ∨ ∃ el sp, d = .slice el sp ∧ el.length = xs.length) : xs.length ≤ 4611686018427387904 := by
  rcases hx with rfl | ⟨el, sp, rfl, hl⟩
  · simp
  · simp only [DataW.weights, ht, List.all_cons, Bool.and_eq_true, decide_eq_true_eq] at hw
    have h1 : el.length * 1 ≤ (el.length + sp.length) * P.bytesOf e := Nat.mul_le_mul (by omega) hb
    have h2 : reachBytes ≤ 4611686018427387904 := by decide
    omega
set_option maxRecDepth 100000 in
theorem open_st {H : Type} {enc : TypeId × Value → H} {W : World} {r : Reach} {b0 base : Nat} {spare : Nat → Bool} {held : Bool} {v : Value} {d : DataW H} {p : List MemPlace} (hv : Value.okWide Tryz.prog W r b0 26 v) (h : DataW.Trod enc Tryz.prog W base spare held 26 v d p)
    (hw : (d.weights Tryz.prog 26).all (· ≤ reachBytes) = true) :
    ∃ (s : St) (A B : Option Addr) (c e : Nat), v = .agg #[.int .i64 s.day, .slice A s.hs.length c, .slice B s.ms.length e] ∧ RdH W A s.hs ∧ RdM W B s.ms ∧ s.hs.length ≤ 4611686018427387904 ∧ s.ms.length ≤ 4611686018427387904 := by
  obtain ⟨v0, v1, v2, y0, y1, y2, n, rfl, rfl, rfl, g0, g1, g2⟩ := open_agg3 Tryz.underlying26 (by kernel_rfl) (by kernel_rfl) hv h
  obtain ⟨z, e0, _, _⟩ := DataW.trod_int Tryz.underlying22 g0
  obtain ⟨A, c, hs, e1, hA, _, hx1⟩ := open_list (α := Hd) (fun h => [.string (bs h.ins), .string (bs h.qty)]) 2 (by decide) (fun _ => rfl) Tryz.underlying23 (by kernel_rfl) (fun n cs y hy => open_hd Tryz.underlying45 (by kernel_rfl) (by kernel_rfl) rfl rfl Tryz.underlying9 Tryz.underlying43 hy) g1
  obtain ⟨B, c2, ms, e2, hB, _, hx2⟩ := open_list (α := Mv) (fun m => [.string (bs m.ref), .int .i64 m.day, .string (bs m.ins), .string (bs m.qty), .string (bs m.amt)]) 5 (by decide) (fun _ => rfl) Tryz.underlying24 (by kernel_rfl) (fun n cs y hy => open_mv Tryz.underlying50 (by kernel_rfl) (by kernel_rfl) rfl rfl rfl rfl rfl Tryz.underlying9 Tryz.underlying22 Tryz.underlying9 Tryz.underlying43 Tryz.underlying43 hy) g2
  simp only [List.cons.injEq, and_true] at e0 e1 e2
  subst e0; subst e1; subst e2
  simp only [DataW.weights, Tryz.underlying26, DataW.weightsEach, List.map_cons, List.map_nil, List.append_nil, List.all_append, Bool.and_eq_true] at hw
  exact ⟨⟨z, hs, ms⟩, A, B, c, c2, rfl, hA, hB, list_small Tryz.underlying23 (by rw [show Tryz.prog.bytesOf 45 = 32 by kernel_rfl]; decide) hw.2.1 hx1, list_small Tryz.underlying24 (by rw [show Tryz.prog.bytesOf 50 = 72 by kernel_rfl]; decide) hw.2.2 hx2⟩
theorem own : ownKnob Tryz.prog.godebug = none := by kernel_rfl
theorem laidOut : laidOutB Tryz.prog = true := by kernel_rfl
theorem block_of_cell {w : World} {p : Addr} {u : Value} (h : w.cell? p = some u) : p.block < w.heap.size := by
  unfold World.cell? at h
  cases hb : w.heap[p.block]? with
  | none => simp [hb] at h
  | some o => exact (Array.getElem?_eq_some_iff.1 hb).1
set_option maxRecDepth 100000 in
/-- WHAT THE ROW's LIST AND THE WORLD's SHAPE GIVE -/
theorem env_of {W : World} {x y : String × DataW Unit} {rest : List (String × DataW Unit)} (h : laidMet Tryz.prog (x :: y :: ("internal/strconv.uint64pow10", Rows.laid_internal_strconv_uint64pow10) :: rest) W) (hsh : W.ShapedOpen Tryz.prog) : Env W := by
  have h1 : Lib.TabIs Tryz.prog W "internal/strconv.uint64pow10" .u64 Lib.pow10Tab :=
    Lib.tabIs_of_head (rest := rest) (g := 5) (by kernel_rfl) (by kernel_rfl) Tryz.underlying238 Tryz.underlying143 (by kernel_rfl) (by kernel_rfl) h.tail.tail
  have h2 : ∃ m, W.cell? ⟨0, 0, none⟩ = some (.int .i64 m) :=
    cell_of_shapedOpen_int (zero := #[.int .i64 0]) hsh (by decide +kernel) (by kernel_rfl) (by kernel_rfl) (by kernel_rfl) (by kernel_rfl) Tryz.underlying3
  have h3 := h1.cell (g := 5) (by kernel_rfl) 0 (by decide)
  refine ⟨h1, h2, block_of_cell h3, ?_⟩
  obtain ⟨m, hm⟩ := h2
  exact block_of_cell hm
end Go.Proofs.YteeampgbmpolfaaGreatDoor
