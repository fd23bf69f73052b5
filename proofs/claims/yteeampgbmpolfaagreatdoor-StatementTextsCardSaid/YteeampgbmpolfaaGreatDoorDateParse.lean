/- The walks over the program's dates: Parse. -/
import Derived.Test.YteeampgbmpolfaaGreatDoorDateNum
namespace Go.Proofs.YteeampgbmpolfaaGreatDoor
open Go.RowKit
attribute [local go_sem] size_bs toList_bs extract_bs get_bs append_bs lit_append append_lit

theorem Blk.new1 (w : World) (o : Obj) (t : TypeId) (cs : Array Value) : Blk ((w.alloc o).alloc (.cells cs t)) (w.heap.size + 1) t cs := by
  have := Blk.new (w.alloc o) t cs; rwa [World.size_alloc] at this

def dashes (l : Bs) : Bool := l[4]? == some 45 && l[7]? == some 45
def digitsIn (l : Bs) : Bool := (l.take 4).all isD && ((l.drop 5).take 2).all isD && ((l.drop 8).take 2).all isD
def okText (l : Bs) : Bool := decide (l.length = 10) && dashes l && digitsIn l
def pY (l : Bs) : Int := numG (l.take 4)
def pM (l : Bs) : Int := numG ((l.drop 5).take 2)
def pD (l : Bs) : Int := numG ((l.drop 8).take 2)
def parseDV (l : Bs) : Int := if okText l then ofV (pY l) (pM l) (pD l) else 0
def parseDE (l : Bs) : Int := if okText l then ofE (pY l) (pM l) (pD l) else 3
theorem len10 (l : Bs) (h : l.length = 10) : ∃ c0 c1 c2 c3 c4 c5 c6 c7 c8 c9, l = [c0, c1, c2, c3, c4, c5, c6, c7, c8, c9] := by
  match l, h with
  | [c0, c1, c2, c3, c4, c5, c6, c7, c8, c9], _ => exact ⟨c0, c1, c2, c3, c4, c5, c6, c7, c8, c9, rfl⟩

theorem okText_10 (c0 c1 c2 c3 c4 c5 c6 c7 c8 c9 : UInt8) : okText [c0, c1, c2, c3, c4, c5, c6, c7, c8, c9] = ((c4 == 45 && c7 == 45) && ((([c0, c1, c2, c3] : Bs).all isD && ([c5, c6] : Bs).all isD) && ([c8, c9] : Bs).all isD)) := by
  simp [okText, dashes, digitsIn]

set_option maxHeartbeats 1000000 in
theorem datParse (l : Bs) (w : World) (hl : l.length ≤ 1000000000) :
    Calls Tryz.prog 165 #[.string (bs l)] w fun e w' => e = .returned (.tuple #[.int .i64 (parseDV l), .int .i64 (parseDE l)]) ∧ Ext w w' := by
  have hno : okText l = false → Hid (parseDV l = 0 ∧ parseDE l = 3) := fun h => Lib.hid (by unfold parseDV parseDE; rw [h]; simp)
  by_cases h10 : l.length = 10
  · obtain ⟨c0, c1, c2, c3, c4, c5, c6, c7, c8, c9, rfl⟩ := len10 l h10
    clear hl h10
    have hok := okText_10 c0 c1 c2 c3 c4 c5 c6 c7 c8 c9
    by_cases h4 : c4 = 45
    · by_cases h7 : c7 = 45
      · subst h4; subst h7
        have hok2 : okText [c0, c1, c2, c3, 45, c5, c6, 45, c8, c9] = ((([c0, c1, c2, c3] : Bs).all isD && ([c5, c6] : Bs).all isD) && ([c8, c9] : Bs).all isD) := by rw [hok]; rfl
        have HOK := Lib.hid hok2
        have HNO := Lib.hid hno
        clear hok hok2 hno
        go_enter Tryz.func165, Tryz.ntmps165
        go_wp2_with fail
        have hs0 : ((w.alloc (.cells #[.string (bs [c0, c1, c2, c3, 45, c5, c6, 45, c8, c9])] 9)).alloc (.cells #[.bool false] 4)).cell? ⟨w.heap.size, 0, none⟩ = some (.string (bs [c0, c1, c2, c3, 45, c5, c6, 45, c8, c9])) := by simp
        have hz0 : w.heap.size + 1 < ((w.alloc (.cells #[.string (bs [c0, c1, c2, c3, 45, c5, c6, 45, c8, c9])] 9)).alloc (.cells #[.bool false] 4)).heap.size := by simp
        have hx0 : Ext w ((w.alloc (.cells #[.string (bs [c0, c1, c2, c3, 45, c5, c6, 45, c8, c9])] 9)).alloc (.cells #[.bool false] 4)) := (Ext.new _ _).alloc _
        refine (datNumY c0 c1 c2 c3 45 c5 c6 45 c8 c9 _ _ false _ hs0 (Blk.new1 _ _ _ _)).mono ?_
        rintro e w1 ⟨rfl, hB1, hO1⟩
        have hs1 := (hO1.cell (p := ⟨w.heap.size, 0, none⟩) (by simp only; omega) (by simp)).trans hs0
        have hz1 := Nat.lt_of_lt_of_le hz0 hO1.size
        have hx1 := hO1.toExt hx0 (by omega)
        have HB1 := Lib.hid hB1
        clear hs0 hz0 hx0 hO1 hB1
        go_wp2_with fail
        refine (datNumM c0 c1 c2 c3 45 c5 c6 45 c8 c9 _ _ _ _ hs1 HB1.out).mono ?_
        rintro e w2 ⟨rfl, hB2, hO2⟩
        have hs2 := (hO2.cell (p := ⟨w.heap.size, 0, none⟩) (by simp only; omega) (by simp)).trans hs1
        have hz2 := Nat.lt_of_lt_of_le hz1 hO2.size
        have hx2 := hO2.toExt hx1 (by omega)
        have HB2 := Lib.hid hB2
        clear hs1 hz1 hx1 hO2 hB2 HB1
        go_wp2_with fail
        refine (datNumD c0 c1 c2 c3 45 c5 c6 45 c8 c9 _ _ _ _ hs2 HB2.out).mono ?_
        rintro e w3 ⟨rfl, hB3, hO3⟩
        have hx3 := hO3.toExt hx2 (by omega)
        have hB4 : Blk w3 (w.heap.size + 1) 4 #[.bool (!okText [c0, c1, c2, c3, 45, c5, c6, 45, c8, c9])] := by
          rw [HOK.out, Bool.not_and, Bool.not_and]; simpa [Bool.or_assoc] using hB3
        have hc4 := hB4.cell 0
        simp only [List.getElem?_toArray, List.getElem?_cons_zero] at hc4
        clear hs2 hz2 hx2 hO3 hB3 HB2 hB4
        have HPY := Lib.hid (show pY [c0, c1, c2, c3, 45, c5, c6, 45, c8, c9] = numG [c0, c1, c2, c3] from rfl)
        have HPM := Lib.hid (show pM [c0, c1, c2, c3, 45, c5, c6, 45, c8, c9] = numG [c5, c6] from rfl)
        have HPD := Lib.hid (show pD [c0, c1, c2, c3, 45, c5, c6, 45, c8, c9] = numG [c8, c9] from rfl)
        cases hk : okText [c0, c1, c2, c3, 45, c5, c6, 45, c8, c9] with
        | false =>
          rw [hk] at hc4
          have HN := HNO.out hk
          clear hk
          go_wp2_with fail
          go_ret2
          exact ⟨by rw [HN.out.1, HN.out.2]; rfl, hx3⟩
        | true =>
          rw [hk] at hc4
          have HK := Lib.hid hk
          clear hk
          go_wp2_with fail
          refine (datOf _ _ _ _).mono ?_
          rintro e w4 ⟨rfl, hx4⟩
          go_wp2_with fail
          go_ret2
          exact ⟨by unfold parseDV parseDE; rw [if_pos HK.out, if_pos HK.out, HPY.out, HPM.out, HPD.out]; rfl, hx3.trans hx4⟩
      · have h7b : ((c7.toNat : Int) != 45) = true := by have := byte_ne (c := c7) (d := 45) h7; simpa using this
        have HN := hno (by rw [hok]; simp [h7])
        subst h4
        clear hno hok h7
        go_enter Tryz.func165, Tryz.ntmps165
        go_wp2_with fail
        go_ret2
        exact ⟨by rw [HN.out.1, HN.out.2]; rfl, Ext.new _ _⟩
    · have h4b : ((c4.toNat : Int) != 45) = true := by have := byte_ne (c := c4) (d := 45) h4; simpa using this
      have HN := hno (by rw [hok]; simp [h4])
      clear hno hok h4
      go_enter Tryz.func165, Tryz.ntmps165
      go_wp2_with fail
      go_ret2
      exact ⟨by rw [HN.out.1, HN.out.2]; rfl, Ext.new _ _⟩
  · have hb : ((l.length : Int) != 10) = true := by rw [bne_iff_ne]; omega
    have HN := hno (by unfold okText; rw [decide_eq_false h10]; rfl)
    clear hno h10
    go_enter Tryz.func165, Tryz.ntmps165
    go_wp2_with fail
    go_ret2
    exact ⟨by rw [HN.out.1, HN.out.2]; rfl, Ext.new _ _⟩
end Go.Proofs.YteeampgbmpolfaaGreatDoor
