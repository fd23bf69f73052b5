/- The walks over the program's lines of a text. -/
import Derived.Test.YteeampgbmpolfaaGreatDoorRange
import Derived.Test.YteeampgbmpolfaaGreatDoorSplitB
import Derived.RangeFuncStops
namespace Go.Proofs.YteeampgbmpolfaaGreatDoor
open Go.RowKit Go.Shelf
attribute [local go_sem] size_bs toList_bs extract_bs get_bs append_bs lit_append append_lit

theorem stLines (t : Bs) (w : World) :
    Calls Tryz.prog 48 #[.string (bs t)] w fun e w' => e = .returned (.func (.func 87) #[] #[.pointer (some ⟨w.heap.size, 0, none⟩)]) ∧ w' = w.alloc (.cells #[.string (bs t)] 9) := by
  go_enter Tryz.func48, Tryz.ntmps48
  go_wp2_with fail
  go_ret
  exact ⟨rfl, rfl⟩

/-- how a round of the loop over the lines ends -/
def LineEnds (B : Nat) (J : Bs → World → Prop) (Jx : World → Prop) (rest : Bs) (e : Ending) (W' : World) : Prop :=
  (e = .returned (.bool true) ∧ (W'.cell? ⟨B, 0, none⟩).isSome = true ∧ W'.frozen? ⟨B, 0, none⟩ = false ∧ (Lib.cut rest [10]).2.1.length < rest.length ∧ J (Lib.cut rest [10]).2.1 (W'.setCell ⟨B, 0, none⟩ (.string (bs (Lib.cut rest [10]).2.1)))) ∨ (e = .returned (.bool false) ∧ Jx W')
set_option maxRecDepth 100000 in
set_option maxHeartbeats 1000000 in
theorem stLines1 (n : Nat) (l B : Nat) (J : Bs → World → Prop) (Jx : World → Prop)
    (hJ : ∀ rest W, J rest W → W.cell? ⟨B, 0, none⟩ = some (.string (bs rest)) ∧ Env W ∧ rest.length ≤ 1000000)
    (hY : ∀ rest W k, rest ≠ [] → J rest W → YieldAt Fence.wide (n - 1) Tryz.prog l #[.string (bs (Lib.cut rest [10]).1), .bool (Lib.cut rest [10]).2.2] (W.drewN k) (LineEnds B J Jx rest))
    (t : Bs) (W : World) (h0 : J t W) :
    CallsIn Fence.wide n Tryz.prog 87 #[.func (.yield l) #[] #[], .pointer (some ⟨B, 0, none⟩)] W fun e W' => (∃ v, e = .returned v) ∧ (J [] W' ∨ Jx W') := by
  have hfn : ∀ k, Fence.wide.fn k := fun _ => trivial
  have hdp : Fence.wide.depth.isSome = false := rfl
  refine callsIn_of_wp Tryz.func87 rfl trivial ?_ rfl
  simp only [Tryz.ntmps87, List.size_toArray, List.length_cons, List.length_nil, Nat.reduceAdd, Nat.reduceSub, Array.replicate_succ, Array.replicate_zero, List.push_toArray, List.append_toArray, List.nil_append, List.cons_append]
  gi_wp2
  gi_loopw [3] (fun _ wr => ∃ rest : Bs, J rest wr) (fun _ wr => match wr.cell? ⟨B, 0, none⟩ with | some (.string b) => b.size | _ => 0)
  case atStart => exact ⟨t, h0⟩
  case round =>
    obtain ⟨rest, hj⟩ := hrel
    obtain ⟨hc, hE, hl⟩ := hJ rest wr hj
    by_cases he : rest = []
    · subst he
      have HJ := Lib.hid hj
      clear hj
      gi_wp2
      go_end0
      exact ⟨⟨_, rfl⟩, .inl HJ.out⟩
    · have heb : rest.isEmpty = false := by simpa using he
      have HY := Lib.hid (fun k => hY rest wr k he hj)
      clear he hj
      gi_wp2_with (gi_at_call 88; refine (callsIn_wide.2 (cut_any rest _ hl hE)).mono ?_; rintro e w1 ⟨rfl, k, rfl⟩; (obtain ⟨fn, tmps, assign, body, hy, hR⟩ := HY.out k); (unfold LineEnds at hR); (have HR := Lib.hid hR); clear hR HY; (generalize hc1 : (Lib.cut rest [10]).1 = c1 at *); (generalize hc2 : (Lib.cut rest [10]).2.1 = c2 at *); (generalize hc3 : (Lib.cut rest [10]).2.2 = c3 at *))
      refine HR.out.mono ?_
      rintro e W3 (⟨rfl, hi3, hf3, hl3, hJ3⟩ | ⟨rfl, hJx⟩)
      · have HJ3 := Lib.hid hJ3
        obtain ⟨v3, hv3⟩ := Option.isSome_iff_exists.1 hi3
        clear hJ3 hi3
        gi_wp2
        go_roundw
        case rel => exact ⟨c2, HJ3.out⟩
        case measure =>
          rw [hc, (hJ _ _ HJ3.out).1]
          simpa [size_bs] using hl3
      · gi_wp2
        refine bodyPost_ret (results_none rfl _ _ _) rfl ?_
        exact ⟨⟨_, rfl⟩, .inr hJx⟩
end Go.Proofs.YteeampgbmpolfaaGreatDoor
