/- A statement as a result, through a cell. -/
import Derived.Test.YteeampgbmpolfaaGreatDoorStAt
import Derived.IntWalk
namespace Go.Proofs.YteeampgbmpolfaaGreatDoor
open Go.RowKit

theorem results_st {fn : Func} {a b c : Tmp} (h : fn.results = #[.cell a 26, .tmp b, .tmp c]) (tmps : Array Value) (w : World) (g : Nat) (x y z : Value) (ha : tmps.getD a undef = .pointer (some ⟨g, 0, none⟩)) (hb : Blk w g 26 #[x, y, z]) :
    (results fn tmps).run Tryz.prog w = .ok (.tuple #[.agg #[x, y, z], tmps.getD b undef, tmps.getD c undef]) w := by
  have h0 := hb.cell 0
  have h1 := hb.cell 1
  have h2 := hb.cell 2
  simp only [List.getElem?_toArray, List.getElem?_cons_zero, List.getElem?_cons_succ] at h0 h1 h2
  unfold results
  rw [h]
  simp only [List.mapM_toArray, List.mapM_cons, List.mapM_nil, ha]
  go_simp
end Go.Proofs.YteeampgbmpolfaaGreatDoor
