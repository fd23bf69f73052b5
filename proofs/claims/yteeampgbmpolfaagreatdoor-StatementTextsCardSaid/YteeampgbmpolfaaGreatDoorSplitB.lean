/- The library's splitting and cutting, in our words. -/
import Derived.Test.YteeampgbmpolfaaGreatDoorSplitP
import Derived.Test.YteeampgbmpolfaaGreatDoorCells
import Derived.Test.YteeampgbmpolfaaGreatDoorEnv
import Derived.Lib.SplitLaws
namespace Go.Proofs.YteeampgbmpolfaaGreatDoor
open Go.RowKit Go.Shelf

theorem first_of (c : UInt8) : ∀ (l : Bs), (∀ x ∈ l, x ≠ c) ∧ Lib.indexByte l c = -1 ∨ ∃ p r, l = p ++ c :: r ∧ (∀ x ∈ p, x ≠ c) ∧ Lib.indexByte l c = (p.length : Nat)
  | [] => .inl ⟨by simp, rfl⟩
  | x :: l => by
    by_cases h : x = c
    · refine .inr ⟨[], l, by simp [h], by simp, by simp [Lib.indexByte, h]⟩
    · rcases first_of c l with ⟨h1, h2⟩ | ⟨p, r, rfl, h1, h2⟩
      · refine .inl ⟨?_, by simp [Lib.indexByte, h, h2]⟩
        intro y hy; simp at hy; rcases hy with rfl | hy
        · exact h
        · exact h1 y hy
      · refine .inr ⟨x :: p, r, rfl, ?_, ?_⟩
        · intro y hy; simp at hy; rcases hy with rfl | hy
          · exact h
          · exact h1 y hy
        · have : ¬ ((p.length : Nat) : Int) = -1 := by omega
          simp [Lib.indexByte, h, h2, this]
theorem index1 (l : Bs) (c : UInt8) : Lib.index l [c] = Lib.indexByte l c := Lib.index_one l c
theorem indexB_one (l : Bs) (c : UInt8) : Lib.indexB (bs l) (bs [c]) = Lib.indexByte l c := by
  show Lib.index (bs l).data.toList (bs [c]).data.toList = _
  rw [data_bs, data_bs, index1]
theorem split_all (c : UInt8) : ∀ (n : Nat) (l : Bs), l.length ≤ n → Lib.splitB (bs [c]) 0 (Lib.countB (bs l) (bs [c])) (bs l) = (splitOn c l).map bs ∧ Lib.countB (bs l) (bs [c]) + 1 = (splitOn c l).length
  | n, l, hn => by
    rcases first_of c l with ⟨h1, h2⟩ | ⟨p, r, rfl, h1, h2⟩
    · rw [← indexB_one] at h2
      rw [Lib.countB_miss _ _ h2, Lib.splitB_miss _ _ _ _ h2, splitOn_none c l h1]
      exact ⟨rfl, rfl⟩
    · rw [← indexB_one] at h2
      have he : (bs (p ++ c :: r)).extract (p.length + (bs [c]).size) (bs (p ++ c :: r)).size = bs r := by
        rw [extract_bs, size_bs, size_bs]; congr 1
        simp only [List.length_cons, List.length_nil, List.length_append]
        rw [show p ++ c :: r = (p ++ [c]) ++ r by simp, List.drop_left' (by simp), List.take_of_length_le (by omega)]
      match n, hn with
      | 0, hn => simp at hn
      | n + 1, hn =>
        have ih := split_all c n r (by simp at hn; omega)
        rw [Lib.countB_hit _ _ _ (by simp [size_bs]) h2, he, Nat.add_comm 1, Lib.splitB_hit _ _ _ _ _ h2, he, ih.1, splitOn_cut c p r h1]
        refine ⟨?_, by simp [ih.2]⟩
        simp only [List.map_cons, List.cons.injEq, and_true]
        rw [extract_bs]; congr 1; simp
theorem cut_none (c : UInt8) (l : Bs) (h : ∀ x ∈ l, x ≠ c) : Lib.cut l [c] = (l, [], false) := by
  rcases first_of c l with ⟨h1, h2⟩ | ⟨p, r, rfl, h1, h2⟩
  · unfold Lib.cut; rw [index1, h2]; rfl
  · exact absurd rfl (h c (by simp))
theorem cut_some (c : UInt8) (p r : Bs) (h : ∀ x ∈ p, x ≠ c) : Lib.cut (p ++ c :: r) [c] = (p, r, true) := by
  rcases first_of c (p ++ c :: r) with ⟨h1, h2⟩ | ⟨p', r', he, h1, h2⟩
  · exact absurd rfl (h1 c (by simp))
  · have : p = p' ∧ r = r' := by
      have e1 := congrArg (splitOn c) he
      rw [splitOn_cut c p r h, splitOn_cut c p' r' h1] at e1
      injection e1 with e1 e2
      subst e1
      simpa using he
    obtain ⟨rfl, rfl⟩ := this
    unfold Lib.cut; rw [index1, h2]; simp
theorem split_any (l : Bs) (w : World) (hl : l.length ≤ 1000000) (hE : Env w) :
    Calls Tryz.prog 92 #[.string (bs l), .string { data := #[32] }] w fun e w' => e = .returned (.slice (some ⟨w.heap.size, 0, none⟩) (splitOn 32 l).length (splitOn 32 l).length) ∧ w' = w.alloc (.cells (scells (splitOn 32 l)).toArray 9) := by
  obtain ⟨m, hm⟩ := hE.len
  obtain ⟨h1, h2⟩ := split_all 32 l.length l (Nat.le_refl _)
  refine (Tryz.strings_Split (bs l) (bs [32]) m w (by rw [size_bs]; omega) hm (by simp [size_bs])).mono ?_
  rw [h1, h2]
  rintro e w' ⟨rfl, rfl⟩
  refine ⟨rfl, ?_⟩
  simp [scells, Function.comp_def]
theorem cut_any (l : Bs) (w : World) (hl : l.length ≤ 1000000) (hE : Env w) :
    Calls Tryz.prog 88 #[.string (bs l), .string { data := #[10] }] w fun e w' => e = .returned (.tuple #[.string (bs (Lib.cut l [10]).1), .string (bs (Lib.cut l [10]).2.1), .bool (Lib.cut l [10]).2.2]) ∧ ∃ n, w' = w.drewN n := by
  obtain ⟨m, hm⟩ := hE.len
  refine (Tryz.strings_Cut (bs l) (bs [10]) m w (by rw [size_bs]; omega) hm).mono ?_
  rintro e w' ⟨rfl, hw⟩
  exact ⟨rfl, hw⟩
end Go.Proofs.YteeampgbmpolfaaGreatDoor
