/- The walk over the reference's Cut. -/
import Derived.Test.YteeampgbmpolfaaGreatDoorSplitP
import Derived.Test.YteeampgbmpolfaaGreatDoorCells
import Derived.Test.YteeampgbmpolfaaGreatDoorProg
import Derived.OwnWalk
namespace Go.Proofs.YteeampgbmpolfaaGreatDoor
open Go.RowKit
attribute [local go_sem] size_bs toList_bs extract_bs get_bs append_bs lit_append append_lit

theorem strInfo : (Tryz.prog.info? 9).map (fun i => (i.zero, i.size, i.bytes)) = some (some (.string ⟨#[]⟩), 1, 16) := by kernel_rfl

theorem out_len {c : UInt8} {l : Bs} {i : Nat} {out : List Bs} {f : Nat} (h : Scan c l i out f) : out.length ≤ l.length + 1 := by
  have h1 := splitOn_len c l
  rw [h.all, List.length_append] at h1; omega
theorem own_ge {w : World} {base : Nat} {e : TypeId} {size : Nat} {v : Value} {n : Nat} {xs : List Value} (h : w.ownsRow base e size v n xs) : ∀ k, v.ownBlock = some k → base ≤ k := by
  intro k hk
  rcases h.2 with ⟨rfl, _⟩ | ⟨g, cap, cur, rfl, hb, _⟩
  · simp [Value.ownBlock] at hk
  · simp [Value.ownBlock] at hk; omega

theorem own_form {w : World} {base : Nat} {e : TypeId} {size : Nat} {v : Value} {n : Nat} {xs : List Value} (h : w.ownsRow base e size v n xs) (hn : 0 < n) : ∃ g cap, v = .slice (some ⟨g, 0, none⟩) n cap := by
  rcases h.2 with ⟨_, h0⟩ | ⟨g, cap, cur, rfl, _⟩
  · omega
  · exact ⟨g, cap, rfl⟩

set_option maxHeartbeats 1000000 in
set_option maxRecDepth 100000 in
theorem refCut (l : Bs) (c : UInt8) (w : World) (hl : l.length ≤ 1000000) :
    Calls Tryz.prog 50 #[.string (bs l), .int .u8 (c.toNat : Int)] w fun e w' => ∃ A cap, e = .returned (.slice A (splitOn c l).length cap) ∧ RdS w' A (splitOn c l) ∧ Ext w w' := by
  obtain ⟨i0, hi, hz0, hz1, hz2⟩ := info_parts strInfo
  go_enter Tryz.func50, Tryz.ntmps50
  go_wp2_with fail
  go_loopw [5, 6, 7] (fun v f i wr => ∃ (k fr : Nat) (out : List Bs), i = .int .i64 k ∧ f = .int .i64 fr ∧ Scan c l k out fr ∧ wr.ownsRow w.heap.size 9 1 v out.length (scells out) ∧ Ext w wr) (fun _ _ i _ => l.length - (intOf i).toNat)
  case atStart =>
    refine ⟨0, 0, [], rfl, rfl, Scan.start c l, ?_, Ext.new _ _⟩
    exact ⟨by simp [scells], .inr ⟨w.heap.size, 0, #[], rfl, Nat.le_refl _, heap_alloc_new w _, Nat.le_refl _, by decide, by simp, by simp [scells]⟩⟩
  case round =>
    obtain ⟨k, fr, out, rfl, rfl, hsc, hown, hx⟩ := hrel
    have hol := out_len hsc
    have hfl := hsc.le
    have hkl := hsc.li
    have HSC := Lib.hid hsc
    have HOW := Lib.hid hown
    clear hsc hown
    by_cases hlt : k < l.length
    · by_cases hc : l[k]'hlt = c
      · have hcb : (((l[k]'hlt).toNat : Int) == (c.toNat : Int)) = true := byte_eq hc
        have HC := Lib.hid hc
        clear hc
        go_wp2_with (at_builtin; refine wpList_append_own _ rfl (.tmp 20) (.tmp 25) 37 rfl w.heap.size 9 i0 (.string ⟨#[]⟩) 1 16 Tryz.underlying37 hi hz0 hz1 hz2 rfl (by decide) _ _ _ rfl (HOW.out.alloc _) ⟨wr.heap.size, 0, none⟩ 1 1 [.string (bs ((l.drop fr).take (k - fr)))] rfl rfl ?c1 ?c2 ?c3 ?c4 ?c5 ?_)
        case c1 => exact cell_one_new _ _ _
        case c2 => simp [Value.oneCell']
        case c3 => simp only [maxLen]; omega
        case c4 => omega
        case c5 => have := hx.size; simp; omega
        intro v' w1 hown' hgrow _
        have hx1 : Ext w w1 := (Below.alloc hx hx.size _).grown hgrow (by have := hx.size; simp; omega) (own_ge HOW.out)
        have HOW1 := Lib.hid hown'
        clear hown' hgrow
        go_wp2_with fail
        go_roundw
        case rel =>
          refine ⟨k + 1, k + 1, out ++ [(l.drop fr).take (k - fr)], by go_num, by go_num, HSC.out.cut hlt HC.out, ?_, hx1⟩
          have := HOW1.out
          simpa [scells] using this
        case measure => simp [intOf]; omega
      · have hcb : (((l[k]'hlt).toNat : Int) == (c.toNat : Int)) = false := byte_ne hc
        have HC := Lib.hid hc
        clear hc
        go_wp2_with fail
        go_roundw
        case rel => exact ⟨k + 1, fr, out, by go_num, rfl, HSC.out.skip hlt HC.out, HOW.out, hx⟩
        case measure => simp [intOf]; omega
    · have HEND := Lib.hid (HSC.out.end_ hlt)
      go_wp2_with (at_builtin; refine wpList_append_own _ rfl (.tmp 29) (.tmp 33) 37 rfl w.heap.size 9 i0 (.string ⟨#[]⟩) 1 16 Tryz.underlying37 hi hz0 hz1 hz2 rfl (by decide) _ _ _ rfl (HOW.out.alloc _) ⟨wr.heap.size, 0, none⟩ 1 1 [.string (bs ((l.drop fr).take (l.length - fr)))] rfl rfl ?c1 ?c2 ?c3 ?c4 ?c5 ?_)
      case c1 => exact cell_one_new _ _ _
      case c2 => simp [Value.oneCell']
      case c3 => simp only [maxLen]; omega
      case c4 => omega
      case c5 => have := hx.size; simp; omega
      intro v' w1 hown' hgrow _
      have hx1 : Ext w w1 := (Below.alloc hx hx.size _).grown hgrow (by have := hx.size; simp; omega) (own_ge HOW.out)
      obtain ⟨g', cap', rfl⟩ := own_form hown' (by omega)
      have HOW1 := Lib.hid hown'
      clear hown' hgrow
      go_wp2_with fail
      go_ret
      have e1 : (l.drop fr).take (l.length - fr) = l.drop fr := List.take_of_length_le (by simp)
      have h1 := HOW1.out
      rw [e1] at h1
      have hlen : (splitOn c l).length = out.length + 1 := by rw [HEND.out]; simp
      have hsc : scells (splitOn c l) = scells out ++ [.string (bs (l.drop fr))] := by rw [HEND.out]; simp [scells]
      refine ⟨some ⟨g', 0, none⟩, cap', ?_, ?_, hx1⟩
      · rw [hlen]; rfl
      · unfold RdS; rw [hlen, hsc]; exact Reads.own h1
end Go.Proofs.YteeampgbmpolfaaGreatDoor
