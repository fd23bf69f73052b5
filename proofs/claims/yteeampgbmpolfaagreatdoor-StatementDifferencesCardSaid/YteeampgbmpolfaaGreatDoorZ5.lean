/- The seat's texts, part 5 of 5. -/
import Derived.Test.YteeampgbmpolfaaGreatDoorZ4
import Derived.Deep.RegionHeld3
import Derived.IntWalk

/- Plain: the text of a statement is read as that statement, and what can be read is the text of the result. No program in sight. -/
namespace Go.Proofs.YteeampgbmpolfaaGreatDoor
open Go.RowKit

def joinC (c : UInt8) : List Bs → Bs
  | [] => []
  | [x] => x
  | x :: y :: r => x ++ c :: joinC c (y :: r)
theorem joinC_cc (c x : UInt8) (h : Bs) (t : List Bs) : joinC c ((x :: h) :: t) = x :: joinC c (h :: t) := by
  cases t <;> simp [joinC]
theorem joinC_split (c : UInt8) (l : Bs) : joinC c (splitOn c l) = l := by
  induction l with
  | nil => rfl
  | cons x r ih =>
    unfold splitOn
    by_cases hx : x = c
    · rw [if_pos hx]
      have hne := splitOn_ne c r
      cases hs : splitOn c r with
      | nil => exact absurd hs hne
      | cons y q => rw [hs] at ih; simp [joinC, ih, hx]
    · rw [if_neg hx]
      cases hs : splitOn c r with
      | nil => exact absurd hs (splitOn_ne c r)
      | cons y q => rw [hs] at ih; simp only; rw [joinC_cc, ih]
theorem words_2 {l a b : Bs} (h : splitOn 32 l = [a, b]) : l = joinSp [a, b] := by
  rw [← joinC_split 32 l, h, joinSp_2]; rfl
theorem words_3 {l a b c : Bs} (h : splitOn 32 l = [a, b, c]) : l = joinSp [a, b, c] := by
  rw [← joinC_split 32 l, h, joinSp_3]; rfl
theorem words_6 {l a b c d e f : Bs} (h : splitOn 32 l = [a, b, c, d, e, f]) : l = joinSp [a, b, c, d, e, f] := by
  rw [← joinC_split 32 l, h, joinSp_6]; rfl

/-- bytes that are neither spaces nor ends of lines -/
def Vis (l : Bs) : Prop := ∀ x ∈ l, 32 < x.toNat
theorem Vis.no {l : Bs} (h : Vis l) (c : UInt8) (hc : c.toNat ≤ 32) : ∀ x ∈ l, x ≠ c := fun x hx e => by have := h x hx; rw [e] at this; omega
theorem Vis.app {a b : Bs} (ha : Vis a) (hb : Vis b) : Vis (a ++ b) := fun x hx => by rcases List.mem_append.1 hx with h | h; exact ha x h; exact hb x h
theorem vis_name {l : Bs} (h : isName l = true) : Vis l := by
  intro x hx
  unfold isName at h; simp only [Bool.and_eq_true] at h
  have := List.all_eq_true.1 h.2 x hx
  unfold isN at this; simp only [Bool.or_eq_true, Bool.and_eq_true, decide_eq_true_eq] at this; omega
theorem isD_iff (c : UInt8) : isD c = true ↔ 48 ≤ c.toNat ∧ c.toNat ≤ 57 := by simp [isD]
theorem vis_digits {l : Bs} (h : l.all isD = true) : Vis l := fun x hx => by
  have := (isD_iff x).1 (List.all_eq_true.1 h x hx); omega
theorem noZeros_all {l : Bs} (h : l.all isD = true) : (noZeros l).all isD = true := by
  induction l with
  | nil => rfl
  | cons c r ih =>
    unfold noZeros; split
    · exact ih (by simp only [List.all_cons, Bool.and_eq_true] at h; exact h.2)
    · exact h
theorem magT_all (l : Bs) : (magT l).all isD = true := by
  unfold magT; split
  · exact noZeros_all (by assumption)
  · rfl
theorem noZeros_noZeros (l : Bs) : noZeros (noZeros l) = noZeros l := by
  induction l with
  | nil => rfl
  | cons c r ih =>
    by_cases h : (c == 48) = true
    · have e : noZeros (c :: r) = noZeros r := by simp only [noZeros]; rw [if_pos h]
      rw [e]; exact ih
    · have e : noZeros (c :: r) = c :: r := by simp only [noZeros]; rw [if_neg h]
      rw [e, e]
theorem magT_noZeros (l : Bs) : noZeros (magT l) = magT l := by
  unfold magT; split
  · exact noZeros_noZeros _
  · rfl
theorem magT_magT (l : Bs) : magT (magT l) = magT l := by
  show (if (magT l).all isD then noZeros (magT l) else []) = magT l
  rw [if_pos (magT_all l), magT_noZeros]
theorem isMin_digits {l : Bs} (h : l.all isD = true) : isMin l = false := by
  cases l with
  | nil => rfl
  | cons c r =>
    simp only [List.all_cons, Bool.and_eq_true] at h
    have := (isD_iff c).1 h.1
    unfold isMin; rw [beq_eq_false_iff_ne]; intro e; subst e; revert this; decide
theorem canon_canon (l : Bs) : canon (canon l) = canon l := by
  have hm : mag l = magT (strip l) := rfl
  by_cases hn : neg l = true
  · have hne : (mag l).isEmpty = false := by
      unfold neg negT at hn; simp only [Bool.and_eq_true, Bool.not_eq_true'] at hn; exact hn.2
    have e : canon l = 45 :: mag l := by unfold canon; rw [if_pos hn]
    rw [e]
    have e1 : isMin (45 :: mag l) = true := rfl
    have e2 : strip (45 :: mag l) = mag l := by unfold strip; rw [if_pos e1]; rfl
    have e3 : mag (45 :: mag l) = mag l := by
      show magT (strip (45 :: mag l)) = mag l
      rw [e2, hm, magT_magT]
    have e4 : neg (45 :: mag l) = true := by
      show negT (isMin (45 :: mag l)) (strip (45 :: mag l)) = true
      rw [e1, e2]; unfold negT; rw [hm, magT_magT, ← hm, hne]; rfl
    unfold canon; rw [if_pos e4, e3]
  · have e : canon l = mag l := by unfold canon; rw [if_neg hn]
    rw [e]
    have e1 : isMin (mag l) = false := isMin_digits (by rw [hm]; exact magT_all _)
    have e2 : strip (mag l) = mag l := by unfold strip; rw [e1]; rfl
    have e3 : mag (mag l) = mag l := by
      show magT (strip (mag l)) = mag l
      rw [e2, hm, magT_magT]
    have e4 : neg (mag l) = false := by
      show negT (isMin (mag l)) (strip (mag l)) = false
      rw [e1]; rfl
    unfold canon; rw [e4, e3]; rfl
theorem vis_canon (l : Bs) : Vis (canon l) := by
  have h : Vis (mag l) := vis_digits (magT_all _)
  unfold canon; split
  · intro x hx; rcases List.mem_cons.1 hx with rfl | hx
    · decide
    · exact h x hx
  · exact h
theorem vis_printI (l : Bs) : Vis (printI l) := by
  unfold printI; split
  · intro x hx; simp at hx; subst hx; decide
  · exact vis_canon l
theorem parseI_print {q : Bs} (hc : canon q = q) (hl : q.length ≤ 60000) : parseIE (printI q) = 0 ∧ parseIV (printI q) = q := by
  by_cases h : q = []
  · subst h; exact ⟨by decide, by decide⟩
  · have e : printI q = q := printI_of hc h
    rw [e]; unfold parseIE parseIV
    rw [if_neg (by omega), if_neg (fun h => h e), if_neg (by omega), if_neg (fun h => h e)]
    exact ⟨rfl, hc⟩
theorem print_parseI {c : Bs} (h : parseIE c = 0) : printI (parseIV c) = c := by
  unfold parseIE at h
  by_cases h1 : c.length > 65536
  · rw [if_pos h1] at h; cases h
  rw [if_neg h1] at h
  by_cases h2 : printI c ≠ c
  · rw [if_pos h2] at h; cases h
  have e : parseIV c = canon c := by unfold parseIV; rw [if_neg h1, if_neg h2]
  rw [e]
  have e2 : printI (canon c) = printI c := by unfold printI; rw [canon_canon]
  rw [e2]; exact Decidable.not_not.1 h2

theorem dig_ex (c : UInt8) (h : isD c = true) : ∃ n : Nat, n < 10 ∧ c = UInt8.ofNat (48 + n) ∧ gb c = n := by
  have hd := (isD_iff c).1 h
  refine ⟨c.toNat - 48, by omega, ?_, ?_⟩
  · apply UInt8.toNat_inj.1
    rw [UInt8.toNat_ofNat_of_lt' (by show _ < 256; omega)]; omega
  · unfold gb; rw [if_pos hd.1]; omega
theorem dig_of (n : Nat) (h : n < 10) : isD (UInt8.ofNat (48 + n)) = true ∧ gb (UInt8.ofNat (48 + n)) = n := by
  have e : (UInt8.ofNat (48 + n)).toNat = 48 + n := UInt8.toNat_ofNat_of_lt' (by show _ < 256; omega)
  refine ⟨(isD_iff _).2 (by omega), ?_⟩
  unfold gb; rw [if_pos (by omega)]; omega
theorem numG_2 (a b : UInt8) : numG [a, b] = 10 * gb a + gb b := by simp [numG]
theorem numG_4 (a b c d : UInt8) : numG [a, b, c, d] = 10 * (10 * (10 * gb a + gb b) + gb c) + gb d := by simp [numG]
theorem two_num {a b : UInt8} (ha : isD a = true) (hb : isD b = true) : two (numG [a, b]) = [a, b] := by
  obtain ⟨x, hx, rfl, gx⟩ := dig_ex a ha
  obtain ⟨y, hy, rfl, gy⟩ := dig_ex b hb
  rw [numG_2, gx, gy]; unfold two
  rw [show (10 * (x : Int) + y).toNat = 10 * x + y by omega, show (10 * x + y) / 10 % 10 = x by omega, show (10 * x + y) % 10 = y by omega]
theorem four_num {a b c d : UInt8} (ha : isD a = true) (hb : isD b = true) (hc : isD c = true) (hd : isD d = true) : four (numG [a, b, c, d]) = [a, b, c, d] := by
  obtain ⟨x, hx, rfl, gx⟩ := dig_ex a ha
  obtain ⟨y, hy, rfl, gy⟩ := dig_ex b hb
  obtain ⟨z, hz, rfl, gz⟩ := dig_ex c hc
  obtain ⟨u, hu, rfl, gu⟩ := dig_ex d hd
  rw [numG_4, gx, gy, gz, gu]; unfold four
  rw [show (10 * (10 * (10 * (x : Int) + y) + z) + u).toNat = 1000 * x + 100 * y + 10 * z + u by omega, show (1000 * x + 100 * y + 10 * z + u) / 1000 % 10 = x by omega, show (1000 * x + 100 * y + 10 * z + u) / 100 % 10 = y by omega,
    show (1000 * x + 100 * y + 10 * z + u) / 10 % 10 = z by omega, show (1000 * x + 100 * y + 10 * z + u) % 10 = u by omega]
theorem two_all (n : Int) : (two n).all isD = true := by
  unfold two; simp only [List.all_cons, List.all_nil, Bool.and_true, (dig_of _ (Nat.mod_lt _ (by decide : 0 < 10))).1]
theorem four_all (n : Int) : (four n).all isD = true := by
  unfold four; simp only [List.all_cons, List.all_nil, Bool.and_true, (dig_of _ (Nat.mod_lt _ (by decide : 0 < 10))).1]
theorem num_two {n : Int} (h0 : 0 ≤ n) (h1 : n ≤ 99) : numG (two n) = n := by
  unfold two; rw [numG_2, (dig_of _ (Nat.mod_lt _ (by decide : 0 < 10))).2, (dig_of _ (Nat.mod_lt _ (by decide : 0 < 10))).2]; omega
theorem num_four {n : Int} (h0 : 0 ≤ n) (h1 : n ≤ 9999) : numG (four n) = n := by
  unfold four; rw [numG_4, (dig_of _ (Nat.mod_lt _ (by decide : 0 < 10))).2, (dig_of _ (Nat.mod_lt _ (by decide : 0 < 10))).2, (dig_of _ (Nat.mod_lt _ (by decide : 0 < 10))).2, (dig_of _ (Nat.mod_lt _ (by decide : 0 < 10))).2]; omega
theorem vis_date (d : Int) : Vis (dateText d) := by
  have h45 : Vis [45] := fun x hx => by simp at hx; subst hx; decide
  unfold dateText; split
  · exact (((Vis.app (vis_digits (four_all _)) h45).app (vis_digits (two_all _))).app h45).app (vis_digits (two_all _))
  · intro x hx; simp at hx
theorem parseD_print {d : Int} (h : okDay d = true) : parseDE (dateText d) = 0 ∧ parseDV (dateText d) = d := by
  obtain ⟨y1, y2, r1, r2⟩ := dYear_spec h
  obtain ⟨m1, m2, k1, k2⟩ := dMonth_spec h
  have hml := mlen_bd (dYear d) (dMonth d)
  have e : dateText d = four (dYear d) ++ [45] ++ two (dMonth d) ++ [45] ++ two (dDay d) := by unfold dateText; rw [if_pos h]
  have f4 : (four (dYear d)).length = 4 := rfl
  have t2 : (two (dMonth d)).length = 2 := rfl
  have s1 : (dateText d).take 4 = four (dYear d) := by rw [e]; rfl
  have s2 : ((dateText d).drop 5).take 2 = two (dMonth d) := by rw [e]; rfl
  have s3 : ((dateText d).drop 8).take 2 = two (dDay d) := by rw [e]; rfl
  have ok : okText (dateText d) = true := by
    unfold okText dashes digitsIn
    rw [s1, s2, s3, four_all, two_all, two_all, e]; rfl
  have hY : pY (dateText d) = dYear d := by unfold pY; rw [s1]; exact num_four (by omega) (by omega)
  have hM : pM (dateText d) = dMonth d := by unfold pM; rw [s2]; exact num_two (by omega) (by omega)
  have hD : pD (dateText d) = dDay d := by unfold pD; rw [s3]; exact num_two (by omega) (by omega)
  have od : okDate (dYear d) (dMonth d) (dDay d) = true := (okDate_iff _ _ _).2 ⟨⟨⟨⟨⟨y1, y2⟩, m1⟩, m2⟩, k1⟩, k2⟩
  refine ⟨?_, ?_⟩
  · unfold parseDE ofE; rw [if_pos ok, hY, hM, hD, if_pos od]
  · unfold parseDV ofV; rw [if_pos ok, hY, hM, hD, if_pos od]
    have e1 : dDay d = dRest d - cum (dYear d) (dMonth d) + 1 := rfl
    have e2 : dRest d = d + 25567 - beg (dYear d) := rfl
    unfold ofDate; omega
theorem print_parseD {l : Bs} (h : parseDE l = 0) : dateText (parseDV l) = l := by
  unfold parseDE at h
  by_cases hok : okText l = true
  · rw [if_pos hok] at h
    have hl : l.length = 10 := by unfold okText at hok; simp only [Bool.and_eq_true, decide_eq_true_eq] at hok; exact hok.1.1
    obtain ⟨c0, c1, c2, c3, c4, c5, c6, c7, c8, c9, rfl⟩ := len10 l hl
    unfold ofE at h
    generalize hY : pY [c0, c1, c2, c3, c4, c5, c6, c7, c8, c9] = Y at *
    generalize hM : pM [c0, c1, c2, c3, c4, c5, c6, c7, c8, c9] = M at *
    generalize hD : pD [c0, c1, c2, c3, c4, c5, c6, c7, c8, c9] = D at *
    by_cases hod : okDate Y M D = true
    · have hv : parseDV [c0, c1, c2, c3, c4, c5, c6, c7, c8, c9] = ofDate Y M D := by
        unfold parseDV ofV; rw [if_pos hok, hY, hM, hD, if_pos hod]
      rw [hv]
      have hday := ofDate_ok hod
      rw [okDate_iff] at hod
      obtain ⟨a, b, c⟩ := parts_eq (d := ofDate Y M D) (y := Y) (m := M) (k := D) (by omega) (by omega) (by omega) (by omega) (by omega) (by omega) (by unfold ofDate; omega)
      unfold dateText; rw [if_pos hday, a, b, c]
      rw [okText_10] at hok
      simp only [Bool.and_eq_true, beq_iff_eq, List.all_cons, List.all_nil, Bool.and_true] at hok
      obtain ⟨⟨rfl, rfl⟩, ⟨⟨i0, i1, i2, i3⟩, i5, i6⟩, i8, i9⟩ := hok
      have e1 : Y = numG [c0, c1, c2, c3] := hY.symm
      have e2 : M = numG [c5, c6] := hM.symm
      have e3 : D = numG [c8, c9] := hD.symm
      rw [e1, e2, e3, four_num i0 i1 i2 i3, two_num i5 i6, two_num i8 i9]; rfl
    · rw [if_neg hod] at h; cases h
  · rw [if_neg hok] at h; cases h

theorem split_2 {a b : Bs} (ha : Vis a) (hb : Vis b) : splitOn 32 (joinSp [a, b]) = [a, b] := by
  rw [joinSp_2, splitOn_cut 32 _ _ (ha.no 32 (by decide)), splitOn_none 32 _ (hb.no 32 (by decide))]
theorem split_3 {a b c : Bs} (ha : Vis a) (hb : Vis b) (hc : Vis c) : splitOn 32 (joinSp [a, b, c]) = [a, b, c] := by
  rw [joinSp_3, splitOn_cut 32 _ _ (ha.no 32 (by decide)), splitOn_cut 32 _ _ (hb.no 32 (by decide)), splitOn_none 32 _ (hc.no 32 (by decide))]
theorem split_6 {a b c d e f : Bs} (ha : Vis a) (hb : Vis b) (hc : Vis c) (hd : Vis d) (he : Vis e) (hf : Vis f) : splitOn 32 (joinSp [a, b, c, d, e, f]) = [a, b, c, d, e, f] := by
  rw [joinSp_6, splitOn_cut 32 _ _ (ha.no 32 (by decide)), splitOn_cut 32 _ _ (hb.no 32 (by decide)), splitOn_cut 32 _ _ (hc.no 32 (by decide)), splitOn_cut 32 _ _ (hd.no 32 (by decide)), splitOn_cut 32 _ _ (he.no 32 (by decide)), splitOn_none 32 _ (hf.no 32 (by decide))]
theorem vis_wS : Vis wStatement := by unfold Vis wStatement; decide
theorem vis_wH : Vis wHolding := by unfold Vis wHolding; decide
theorem vis_wM : Vis wMovement := by unfold Vis wMovement; decide

def bodyS (d : Int) : Bs := joinSp [wStatement, dateText d]
def bodyH (h : Hd) : Bs := joinSp [wHolding, h.ins, printI h.qty]
def bodyM (m : Mv) : Bs := joinSp [wMovement, m.ref, dateText m.day, m.ins, printI m.qty, printI m.amt]
/-- lines that a valid statement may have -/
def OkH (h : Hd) : Prop := isName h.ins = true ∧ canon h.qty = h.qty ∧ h.qty.length ≤ 60000
def OkM (m : Mv) : Prop := isName m.ref = true ∧ okDay m.day = true ∧ isName m.ins = true ∧ canon m.qty = m.qty ∧ m.qty.length ≤ 60000 ∧ canon m.amt = m.amt ∧ m.amt.length ≤ 60000
theorem vis_sp {l : Bs} (h : Vis l) : ∀ x ∈ l, x ≠ (10 : UInt8) := h.no 10 (by decide)
theorem bodyS_no (d : Int) : ∀ x ∈ bodyS d, x ≠ (10 : UInt8) := by
  unfold bodyS; rw [joinSp_2]; intro x hx; simp only [List.mem_append, List.mem_cons] at hx
  rcases hx with h | rfl | h
  · exact vis_sp vis_wS x h
  · decide
  · exact vis_sp (vis_date d) x h
theorem bodyH_no {h : Hd} (ho : OkH h) : ∀ x ∈ bodyH h, x ≠ (10 : UInt8) := by
  unfold bodyH; rw [joinSp_3]; intro x hx; simp only [List.mem_append, List.mem_cons] at hx
  rcases hx with h | rfl | h | rfl | h
  · exact vis_sp vis_wH x h
  · decide
  · exact vis_sp (vis_name ho.1) x h
  · decide
  · exact vis_sp (vis_printI _) x h
theorem bodyM_no {m : Mv} (ho : OkM m) : ∀ x ∈ bodyM m, x ≠ (10 : UInt8) := by
  unfold bodyM; rw [joinSp_6]; intro x hx; simp only [List.mem_append, List.mem_cons] at hx
  rcases hx with h | rfl | h | rfl | h | rfl | h | rfl | h | rfl | h
  · exact vis_sp vis_wM x h
  · decide
  · exact vis_sp (vis_name ho.1) x h
  · decide
  · exact vis_sp (vis_date _) x h
  · decide
  · exact vis_sp (vis_name ho.2.2.1) x h
  · decide
  · exact vis_sp (vis_printI _) x h
  · decide
  · exact vis_sp (vis_printI _) x h
theorem name_ne {l : Bs} (h : isName l = true) : l ≠ [] := by have := isName_len h; intro e; subst e; simp at this
theorem step_S (s : St) {d : Int} (h : okDay d = true) : stepLine s true (bodyS d) = some { s with day := d } := by
  obtain ⟨a, b⟩ := parseD_print h
  unfold stepLine bodyS; rw [split_2 vis_wS (vis_date d)]
  simp [stepW, a, b]
theorem step_H (s : St) {h : Hd} (hm : s.ms = []) (ho : OkH h) : stepLine s false (bodyH h) = some { s with hs := s.hs ++ [h] } := by
  obtain ⟨n, c, l⟩ := ho
  obtain ⟨a, b⟩ := parseI_print c l
  unfold stepLine bodyH; rw [split_3 vis_wH (vis_name n) (vis_printI _)]
  simp [stepW, hm, name_ne n, a, b]
theorem step_M (s : St) {m : Mv} (ho : OkM m) : stepLine s false (bodyM m) = some { s with ms := s.ms ++ [m] } := by
  obtain ⟨n1, dd, n2, c1, l1, c2, l2⟩ := ho
  obtain ⟨a, b⟩ := parseI_print c1 l1
  obtain ⟨a', b'⟩ := parseI_print c2 l2
  obtain ⟨a3, b3⟩ := parseD_print dd
  unfold stepLine bodyM; rw [split_6 vis_wM (vis_name n1) (vis_date _) (vis_name n2) (vis_printI _) (vis_printI _)]
  simp [stepW, name_ne n1, name_ne n2, a3, a, a', b, b', b3]
theorem goLines_c {s : St} {k : Nat} {p : Bs} {ls : List Bs} (h : ls ≠ []) : goLines s k (p :: ls) = match stepLine s (k == 0) p with | some s' => goLines s' (k + 1) ls | none => (s, (k : Int) + 1) := by
  cases ls with
  | nil => exact absurd rfl h
  | cons y r => rfl
theorem go_H : ∀ (hs : List Hd) (s : St) (k : Nat) (rest : List Bs), 0 < k → s.ms = [] → (∀ h ∈ hs, OkH h) → rest ≠ [] → goLines s k (hs.map bodyH ++ rest) = goLines { s with hs := s.hs ++ hs } (k + hs.length) rest
  | [], s, k, rest, _, _, _, _ => by simp
  | h :: r, s, k, rest, hk, hm, ho, hr => by
    have hz : (k == 0) = false := by rw [beq_eq_false_iff_ne]; omega
    rw [List.map_cons, List.cons_append, goLines_c (by simp [hr]), hz, step_H s hm (ho h (by simp))]
    simp only
    rw [go_H r { s with hs := s.hs ++ [h] } (k + 1) rest (by omega) hm (fun x hx => ho x (by simp [hx])) hr]
    simp only [List.append_assoc, List.cons_append, List.nil_append, List.length_cons]
    rw [show k + 1 + r.length = k + (r.length + 1) by omega]
theorem go_M : ∀ (ms : List Mv) (s : St) (k : Nat) (rest : List Bs), 0 < k → (∀ m ∈ ms, OkM m) → rest ≠ [] → goLines s k (ms.map bodyM ++ rest) = goLines { s with ms := s.ms ++ ms } (k + ms.length) rest
  | [], s, k, rest, _, _, _ => by simp
  | m :: r, s, k, rest, hk, ho, hr => by
    have hz : (k == 0) = false := by rw [beq_eq_false_iff_ne]; omega
    rw [List.map_cons, List.cons_append, goLines_c (by simp [hr]), hz, step_M s (ho m (by simp))]
    simp only
    rw [go_M r { s with ms := s.ms ++ [m] } (k + 1) rest (by omega) (fun x hx => ho x (by simp [hx])) hr]
    simp only [List.append_assoc, List.cons_append, List.nil_append, List.length_cons]
    rw [show k + 1 + r.length = k + (r.length + 1) by omega]
theorem split_flat {α : Type} (f : α → Bs) (rest : Bs) : ∀ (l : List α), (∀ a ∈ l, ∀ x ∈ f a, x ≠ (10 : UInt8)) → splitOn 10 (l.flatMap (fun a => f a ++ [10]) ++ rest) = l.map f ++ splitOn 10 rest
  | [], _ => by simp
  | a :: r, h => by
    rw [List.flatMap_cons, List.append_assoc, List.append_assoc, show ([10] : Bs) ++ (List.flatMap (fun a => f a ++ [10]) r ++ rest) = 10 :: (List.flatMap (fun a => f a ++ [10]) r ++ rest) from rfl,
      splitOn_cut 10 _ _ (h a (by simp)), split_flat f rest r (fun b hb => h b (by simp [hb]))]; rfl
theorem count_flat {α : Type} (f : α → Bs) : ∀ (l : List α), (∀ a ∈ l, ∀ x ∈ f a, x ≠ (10 : UInt8)) → (l.flatMap (fun a => f a ++ [10])).count 10 = l.length
  | [], _ => by simp
  | a :: r, h => by
    have h0 : (f a).count 10 = 0 := List.count_eq_zero.2 (fun hm => h a (by simp) 10 hm rfl)
    rw [List.flatMap_cons, List.count_append, List.count_append, h0, count_flat f r (fun b hb => h b (by simp [hb]))]
    simp; omega
theorem ok_of_check {s : St} (hc : checkS s = 0) : okDay s.day = true ∧ (∀ h ∈ s.hs, OkH h) ∧ (∀ m ∈ s.ms, OkM m) := by
  obtain ⟨hd, _, _, hh, hm⟩ := checkS_ok hc
  refine ⟨hd, fun h hx => ?_, fun m hx => ?_⟩
  · obtain ⟨j, hj, rfl⟩ := List.mem_iff_getElem.1 hx
    obtain ⟨a, b, _, _⟩ := chH_ok hj (hh j hj)
    have h1 := numE_zero b (l := (s.hs[j]'hj).qty) (by simp)
    have h2 := digs_len (s.hs[j]'hj).qty
    exact ⟨a, h1.1, by omega⟩
  · obtain ⟨j, hj, rfl⟩ := List.mem_iff_getElem.1 hx
    obtain ⟨a, b, _, c, e, _, _⟩ := chM_ok hj (hm j hj)
    have h1 := numE_zero e (l := (s.ms[j]'hj).qty) (by simp)
    have h2 := digs_len (s.ms[j]'hj).qty
    have h3 := numE_zero e (l := (s.ms[j]'hj).amt) (by simp)
    have h4 := digs_len (s.ms[j]'hj).amt
    exact ⟨a, b, c, h1.1, by omega, h3.1, by omega⟩
theorem textS_bodies (s : St) : textS s = bodyS s.day ++ 10 :: (s.hs.flatMap (fun h => bodyH h ++ [10]) ++ (s.ms.flatMap (fun m => bodyM m ++ [10]) ++ [])) := by
  unfold textS lineS
  rw [List.append_nil]
  show (bodyS s.day ++ [10]) ++ s.hs.flatMap (fun h => bodyH h ++ [10]) ++ s.ms.flatMap (fun m => bodyM m ++ [10]) = _
  simp
theorem res_text {s : St} (hc : checkS s = 0) : resL (textS s) = (s, 0) := by
  obtain ⟨hd, hh, hm⟩ := ok_of_check hc
  unfold resL
  rw [textS_bodies, splitOn_cut 10 _ _ (bodyS_no _), split_flat bodyH _ s.hs (fun h hx => bodyH_no (hh h hx)), split_flat bodyM _ s.ms (fun m hx => bodyM_no (hm m hx))]
  have h1 : splitOn 10 ([] : Bs) = [[]] := rfl
  rw [h1, goLines_c (by simp), show (0 == 0) = true from rfl, step_S _ hd]
  simp only
  rw [go_H s.hs _ _ _ (by omega) rfl hh (by simp), go_M s.ms _ _ _ (by omega) hm (by simp), goLines_one, if_pos ⟨by omega, rfl⟩]
  simp [zeroS]
theorem count_text {s : St} (hc : checkS s = 0) : (textS s).count 10 = 1 + s.hs.length + s.ms.length := by
  obtain ⟨hd, hh, hm⟩ := ok_of_check hc
  have h0 : (bodyS s.day).count 10 = 0 := List.count_eq_zero.2 (fun hm => bodyS_no s.day 10 hm rfl)
  rw [textS_bodies, List.count_append, List.count_cons, List.append_nil, List.count_append, h0, count_flat bodyH s.hs (fun h hx => bodyH_no (hh h hx)), count_flat bodyM s.ms (fun m hx => bodyM_no (hm m hx))]
  simp; omega
/-- THE TEXT OF A STATEMENT IS READ AS THAT STATEMENT -/
theorem parse_print {s : St} (h : printSE s = 0) : checkS s = 0 ∧ printSV s = textS s ∧ (textS s).length ≤ 65536 ∧ parseSt (textS s) = s ∧ parseSN (textS s) = 0 ∧ parseSE (textS s) = 0 ∧ (textS s).count 10 = 1 + s.hs.length + s.ms.length := by
  have hc : checkS s = 0 := by
    unfold printSE at h; by_cases h1 : checkS s ≠ 0
    · rw [if_pos h1] at h; exact absurd h h1
    · exact Decidable.not_not.1 h1
  have hb : ¬ 65536 < (textS s).length := by
    intro hb; have := (printS_big hc hb).2; rw [this] at h; cases h
  have hr := res_text hc
  refine ⟨hc, (printS_small hc hb).1, by omega, ?_, ?_, ?_, count_text hc⟩
  · unfold parseSt; rw [if_neg hb, hr]; simp [hc]
  · unfold parseSN; rw [if_neg hb, hr]
  · unfold parseSE; rw [if_neg hb, hr]; simp [hc]
theorem print_bad {s : St} (h : printSE s ≠ 0) : printSV s = [] := by
  by_cases hc : checkS s = 0
  · by_cases hb : 65536 < (textS s).length
    · exact (printS_big hc hb).1
    · exact absurd (printS_small hc hb).2 h
  · exact (printS_bad hc).1

theorem textS_dayed {s : St} {d : Int} (h1 : s.hs = []) (h2 : s.ms = []) : textS { s with day := d } = lineS d := by
  unfold textS; simp [h1, h2]
theorem textS_h {s : St} (h : Hd) (hm : s.ms = []) : textS { s with hs := s.hs ++ [h] } = textS s ++ lineH h := by
  unfold textS; simp [hm]
theorem textS_m {s : St} (m : Mv) : textS { s with ms := s.ms ++ [m] } = textS s ++ lineM m := by
  unfold textS; simp
theorem step_back {s s' : St} {x : Bs} (h : stepLine s false x = some s') : textS s' = textS s ++ (x ++ [10]) := by
  unfold stepLine at h
  generalize hw : splitOn 32 x = ws at h
  unfold stepW at h
  split at h
  · split at h
    · rename_i hh; cases hh.1
    · cases h
  · rename_i a b c
    split at h
    · rename_i hh
      obtain ⟨_, rfl, hm, hb, hc⟩ := hh
      injection h with h; subst h
      rw [textS_h _ hm]; congr 1
      rw [words_3 hw]; unfold lineH; simp only; rw [print_parseI hc]
    · cases h
  · rename_i a b c d e f
    split at h
    · rename_i hh
      obtain ⟨_, rfl, hb, hd, hc, he, hf⟩ := hh
      injection h with h; subst h
      rw [textS_m]; congr 1
      rw [words_6 hw]; unfold lineM; simp only; rw [print_parseI he, print_parseI hf, print_parseD hc]
    · cases h
  · cases h
theorem step_back0 {s s' : St} {x : Bs} (h1 : s.hs = []) (h2 : s.ms = []) (h : stepLine s true x = some s') : textS s' = x ++ [10] := by
  unfold stepLine at h
  generalize hw : splitOn 32 x = ws at h
  unfold stepW at h
  split at h
  · rename_i a b
    split at h
    · rename_i hh
      obtain ⟨_, rfl, hb⟩ := hh
      injection h with h; subst h
      rw [textS_dayed h1 h2, words_2 hw]; unfold lineS; rw [print_parseD hb]
    · cases h
  · split at h
    · rename_i hh; cases hh.1
    · cases h
  · split at h
    · rename_i hh; cases hh.1
    · cases h
  · cases h
theorem go_back : ∀ (ls : List Bs) (s s' : St) (k : Nat), 0 < k → goLines s k ls = (s', 0) → textS s' = textS s ++ joinC 10 ls
  | [], s, s', k, hk, h => by simp only [goLines, Prod.mk.injEq, and_true] at h; subst h; simp [joinC]
  | [x], s, s', k, hk, h => by
    rw [goLines_one] at h
    by_cases hx : 0 < k ∧ x = []
    · rw [if_pos hx] at h; simp only [Prod.mk.injEq, and_true] at h; subst h; rw [hx.2]; simp [joinC]
    · rw [if_neg hx] at h; simp only [Prod.mk.injEq] at h; omega
  | x :: y :: r, s, s', k, hk, h => by
    have hz : (k == 0) = false := by rw [beq_eq_false_iff_ne]; omega
    cases hs : stepLine s (k == 0) x with
    | some s1 =>
      rw [goLines_ok hs] at h
      rw [hz] at hs
      rw [go_back (y :: r) s1 s' (k + 1) (by omega) h, step_back hs]
      simp [joinC]
    | none => rw [goLines_bad hs] at h; simp only [Prod.mk.injEq] at h; omega
theorem res_back {t : Bs} {s : St} (h : resL t = (s, 0)) : textS s = t := by
  unfold resL at h
  have hj := joinC_split 10 t
  have hne := splitOn_ne 10 t
  generalize splitOn 10 t = ls at *
  match ls, h with
  | [], _ => exact absurd rfl hne
  | [x], h => rw [goLines_one, if_neg (by omega)] at h; simp at h
  | x :: y :: r, h =>
    cases hs : stepLine zeroS (0 == 0) x with
    | some s1 =>
      rw [goLines_ok hs] at h
      rw [go_back (y :: r) s1 s 1 (by omega) h, step_back0 rfl rfl hs, ← hj]
      simp [joinC]
    | none => rw [goLines_bad hs] at h; simp at h
/-- WHAT CAN BE READ IS THE TEXT OF THE RESULT -/
theorem print_parse {t : Bs} (h : parseSE t = 0) : printSV (parseSt t) = t ∧ printSE (parseSt t) = 0 ∧ parseSN t = 0 := by
  unfold parseSE at h
  by_cases h1 : 65536 < t.length
  · rw [if_pos h1] at h; cases h
  rw [if_neg h1] at h
  by_cases h2 : (resL t).2 ≠ 0
  · rw [if_pos h2] at h; cases h
  rw [if_neg h2] at h
  have h2' : (resL t).2 = 0 := Decidable.not_not.1 h2
  have hb := res_back (t := t) (s := (resL t).1) (by rw [← h2'])
  have hs : parseSt t = (resL t).1 := by unfold parseSt; rw [if_neg h1, if_neg h2, if_neg (fun e => e h)]
  have hp := printS_small (s := (resL t).1) h (by rw [hb]; exact h1)
  rw [hs, hp.1, hp.2, hb]
  exact ⟨rfl, rfl, by unfold parseSN; rw [if_neg h1]; exact h2'⟩
theorem checkS_ne3 (s : St) : checkS s ≠ 3 := by
  have hn : ∀ ls, numE ls ≠ 3 := by intro ls; unfold numE; split <;> (try split) <;> decide
  have hf : ∀ (f : Nat → Int) (n : Nat), (∀ k, f k ≠ 3) → firstErr f n ≠ 3 := by
    intro f n h; unfold firstErr; split
    · exact h _
    · decide
  have hH : ∀ hs k, chH hs k ≠ 3 := by
    intro hs k; unfold chH; split
    · decide
    · repeat (first | exact hn _ | decide | split)
  have hM : ∀ d ms k, chM d ms k ≠ 3 := by
    intro d ms k; unfold chM; split
    · decide
    · repeat (first | exact hn _ | decide | split)
  unfold checkS; split
  · decide
  · split
    · unfold checkH; split
      · decide
      · exact hf _ _ (hH _)
    · unfold checkM; split
      · decide
      · exact hf _ _ (hM _ _)
theorem goLines_nn : ∀ (ls : List Bs) (s : St) (k : Nat), 0 ≤ (goLines s k ls).2
  | [], s, k => by simp [goLines]
  | [x], s, k => by rw [goLines_one]; split <;> simp; omega
  | x :: y :: r, s, k => by
    cases hs : stepLine s (k == 0) x with
    | some s1 => rw [goLines_ok hs]; exact goLines_nn _ _ _
    | none => rw [goLines_bad hs]; simp; omega
/-- A NUMBER OF A LINE IS GIVEN EXACTLY FOR SYNTAX ERRORS -/
theorem parse_bad {t : Bs} (hl : t.length ≤ 65536) (h : parseSE t ≠ 0) : parseSt t = zeroS ∧ ((parseSE t = 3 ∧ 0 < parseSN t) ∨ (parseSE t ≠ 3 ∧ parseSN t = 0)) := by
  have hn := goLines_nn (splitOn 10 t) zeroS 0
  have h1 : ¬ 65536 < t.length := by omega
  have hr : (resL t).2 = (goLines zeroS 0 (splitOn 10 t)).2 := rfl
  unfold parseSE at h; rw [if_neg h1] at h
  unfold parseSt parseSE parseSN; rw [if_neg h1, if_neg h1, if_neg h1]
  by_cases h2 : (resL t).2 ≠ 0
  · rw [if_pos h2, if_pos h2]; exact ⟨rfl, .inl ⟨rfl, by omega⟩⟩
  · rw [if_neg h2] at h ⊢
    rw [if_pos h, if_neg h2]
    exact ⟨rfl, .inr ⟨checkS_ne3 _, Decidable.not_not.1 h2⟩⟩
end Go.Proofs.YteeampgbmpolfaaGreatDoor

/- The walk over the law StatementRoundTrip. -/
namespace Go.Proofs.YteeampgbmpolfaaGreatDoor
open Go.RowKit
attribute [local go_sem] size_bs toList_bs extract_bs get_bs append_bs lit_append append_lit

theorem small_of_check {s : St} (hc : checkS s = 0) : SmallS s := by
  obtain ⟨_, h1, h2, hh, hm⟩ := checkS_ok hc
  refine ⟨by omega, by omega, fun x hx => ?_, fun x hx => ?_⟩
  · obtain ⟨j, hj, rfl⟩ := List.mem_iff_getElem.1 hx
    obtain ⟨a, b, _, _⟩ := chH_ok hj (hh j hj)
    have h1 := (numE_zero b (l := (s.hs[j]'hj).qty) (by simp)).2
    have h2 := digs_len (s.hs[j]'hj).qty
    have h3 := isName_len a
    unfold SmallH; omega
  · obtain ⟨j, hj, rfl⟩ := List.mem_iff_getElem.1 hx
    obtain ⟨a, b, _, c, e, _, _⟩ := chM_ok hj (hm j hj)
    have h1 := (numE_zero e (l := (s.ms[j]'hj).qty) (by simp)).2
    have h2 := digs_len (s.ms[j]'hj).qty
    have h3 := (numE_zero e (l := (s.ms[j]'hj).amt) (by simp)).2
    have h4 := digs_len (s.ms[j]'hj).amt
    have h5 := isName_len a
    have h6 := isName_len c
    unfold SmallM; omega
theorem check_of_parse {t : Bs} (h : parseSE t = 0) : checkS (parseSt t) = 0 := by
  have := (print_parse h).2.1
  by_cases hc : checkS (parseSt t) = 0
  · exact hc
  · rw [(printS_bad hc).2] at this; exact absurd this hc
theorem count_any (l : Bs) (w : World) :
    Calls Tryz.prog 16 #[.string (bs l), .string { data := #[10] }] w fun e w' => e = .returned (.int .i64 (l.count 10 : Nat)) ∧ w = w' := by
  refine (Tryz.strings_Count_one (bs l) 10 w).mono ?_
  rintro e w' ⟨rfl, rfl⟩
  rw [data_bs]; exact ⟨rfl, rfl⟩

set_option maxRecDepth 100000 in
set_option maxHeartbeats 4000000 in
theorem lawRound (s : St) (A B : Option Addr) (c d : Nat) (t : Bs) (w : World) (hA : RdH w A s.hs) (hB : RdM w B s.ms) (hn : s.hs.length ≤ 4611686018427387904) (hm : s.ms.length ≤ 4611686018427387904) (hE : Env w) :
    Calls Tryz.prog 4 #[.agg #[.int .i64 s.day, .slice A s.hs.length c, .slice B s.ms.length d], .string (bs t)] w fun e w' => e = .returned (.bool true) ∧ Ext w w' := by
  have HE := Lib.hid hE
  have HA := Lib.hid hA
  have HB := Lib.hid hB
  clear hE hA hB
  have HBX := Lib.hid (Blk.new w 26 #[.int .i64 s.day, .slice A s.hs.length c, .slice B s.ms.length d])
  go_enter Tryz.func4, Tryz.ntmps4
  go_wp2_with fail
  refine (refGreat s A B c d _ (HA.out.ext (Ext.new _ _)) (HB.out.ext (Ext.new _ _)) hn hm).mono ?_
  rintro e w1 ⟨hx1, (⟨hg, rfl⟩ | ⟨hg, rfl⟩)⟩
  · have HX1 := Lib.hid (Ext.of_alloc hx1)
    clear hx1 hg
    go_wp2_with fail
    refine (lawAwake _ (HE.out.ext HX1.out)).mono ?_
    rintro e w2 ⟨rfl, hx2⟩
    go_wp2_with fail
    go_ret
    exact ⟨rfl, HX1.out.trans hx2⟩
  · have HX1 := Lib.hid (Ext.of_alloc hx1)
    have HS := Lib.hid (small_of_great hg)
    have HBX1 := Lib.hid (HBX.out.ext hx1)
    clear hx1 hg HBX
    by_cases h1 : 1000 < (t.length : Int)
    · go_wp2_with fail
      refine (lawAwake _ (HE.out.ext HX1.out)).mono ?_
      rintro e w2 ⟨rfl, hx2⟩
      go_wp2_with fail
      go_ret
      exact ⟨rfl, HX1.out.trans hx2⟩
    · have htl : t.length ≤ 1000000000 := by omega
      have HTL : Hid (t.length ≤ 65536) := Lib.hid (by omega)
      go_wp2_with fail
      refine (stParse t _ htl (HE.out.ext HX1.out)).mono ?_
      by_cases h0 : parseSE t = 0
      · obtain ⟨q1, q2, q3⟩ := print_parse h0
        have HSM := Lib.hid (small_of_check (check_of_parse h0))
        rw [h0, q3]
        have HQ1 := Lib.hid q1
        have HQ2 := Lib.hid q2
        clear q1 q2 q3 h0
        generalize parseSt t = ps at *
        rintro e w2 ⟨A4, c4, B4, d4, rfl, hA4, hB4, hx2⟩
        have HX2 := Lib.hid ((HX1.out.trans hx2).trans (Ext.new w2 (.cells #[.int .i64 ps.day, .slice A4 ps.hs.length c4, .slice B4 ps.ms.length d4] 26)))
        have HA4 := Lib.hid (hA4.ext (Ext.new w2 (.cells #[.int .i64 ps.day, .slice A4 ps.hs.length c4, .slice B4 ps.ms.length d4] 26)))
        have HB4 := Lib.hid (hB4.ext (Ext.new w2 (.cells #[.int .i64 ps.day, .slice A4 ps.hs.length c4, .slice B4 ps.ms.length d4] 26)))
        have HBX2 := Lib.hid ((HBX1.out.ext hx2).ext (Ext.new w2 (.cells #[.int .i64 ps.day, .slice A4 ps.hs.length c4, .slice B4 ps.ms.length d4] 26)))
        clear hA4 hB4 hx2
        go_wp2_with fail
        refine (stPrint ps A4 B4 c4 d4 _ HA4.out HB4.out HSM.out (HE.out.ext HX2.out)).mono ?_
        rw [HQ1.out, HQ2.out]
        rintro e w3 ⟨rfl, hx3⟩
        have HX3 := Lib.hid (HX2.out.trans hx3)
        have hbx3 := HBX2.out.ext hx3
        have hq0 := hbx3.cell 0
        have hq1 := hbx3.cell 1
        have hq2 := hbx3.cell 2
        simp only [List.getElem?_toArray, List.getElem?_cons_zero, List.getElem?_cons_succ] at hq0 hq1 hq2
        have HBX3 := Lib.hid hbx3
        clear hx3 hbx3 HSM HA4 HB4 HX2 HQ1 HQ2
        go_wp2_with fail
        by_cases hf : printSE s = 0
        · obtain ⟨hck, hv, hlen, p1, p2, p3, hcnt⟩ := parse_print hf
          refine (stPrint s A B c d _ (HA.out.ext HX3.out) (HB.out.ext HX3.out) HS.out (HE.out.ext HX3.out)).mono ?_
          rw [hv, hf]
          rintro e w4 ⟨rfl, hx4⟩
          have HX4 := Lib.hid (HX3.out.trans hx4)
          have HBX4 := Lib.hid (HBX3.out.ext hx4)
          clear hv hf hx4 hq0 hq1 hq2
          generalize textS s = tx at *
          have htx : tx.length ≤ 1000000000 := by omega
          go_wp2_with fail
          refine (stParse tx _ htx (HE.out.ext HX4.out)).mono ?_
          rw [p1, p2, p3]
          have HCN := Lib.hid hcnt
          have HCK := Lib.hid hck; clear p1 p2 p3 hcnt hck
          rintro e w5 ⟨A5, c5, B5, d5, rfl, hA5, hB5, hx5⟩
          have HX5 := Lib.hid (HX4.out.trans hx5)
          have HBX5 := Lib.hid (HBX4.out.ext hx5)
          have HA5 := Lib.hid hA5
          have HB5 := Lib.hid hB5
          clear hA5 hB5 hx5
          go_wp2_with fail
          have HB6 := Lib.hid (Blk.new w5 26 #[.int .i64 s.day, .slice A5 s.hs.length c5, .slice B5 s.ms.length d5])
          have hlt5 := HBX5.out.lt
          have hq0 := HBX5.out.cell 0
          have hq1 := HBX5.out.cell 1
          have hq2 := HBX5.out.cell 2
          simp only [List.getElem?_toArray, List.getElem?_cons_zero, List.getElem?_cons_succ] at hq0 hq1 hq2
          have hl1 : (s.hs.length : Int) ≤ 64 := by have := (checkS_ok HCK.out).2.1; omega
          have hl2 : (s.ms.length : Int) ≤ 1000 := by have := (checkS_ok HCK.out).2.2.1; omega
          have hw1 : IntKind.i64.wrap (1 + (s.hs.length : Int)) = 1 + (s.hs.length : Int) := IntWalk.i64_in _ (by omega)
          have hw2 : IntKind.i64.wrap (1 + (s.hs.length : Int) + (s.ms.length : Int)) = 1 + (s.hs.length : Int) + (s.ms.length : Int) := IntWalk.i64_in _ (by omega)
          go_region_held3 (fun w' => (w'.cell? ⟨w.heap.size, 0, none⟩ = some (.int .i64 s.day) ∧ w'.cell? ⟨w.heap.size, 1, none⟩ = some (.slice A s.hs.length c) ∧ w'.cell? ⟨w.heap.size, 2, none⟩ = some (.slice B s.ms.length d)) ∧ (w'.cell? ⟨w5.heap.size, 0, none⟩ = some (.int .i64 s.day) ∧ w'.cell? ⟨w5.heap.size, 1, none⟩ = some (.slice A5 s.hs.length c5) ∧ w'.cell? ⟨w5.heap.size, 2, none⟩ = some (.slice B5 s.ms.length d5)))
            (go_keep)
            (first
              | (go_at_call 15; refine (refSame s A5 B5 c5 d5 A B c d _ (HA5.out.ext ((Ext.new _ _).drew)) (HB5.out.ext ((Ext.new _ _).drew)) (HA.out.ext (HX5.out.trans ((Ext.new _ _).drew))) (HB.out.ext (HX5.out.trans ((Ext.new _ _).drew))) hn hm).mono ?_; rintro e w6 ⟨rfl, hx6⟩; have hbx := (HBX5.out.ext ((Ext.new _ (.cells #[.int .i64 s.day, .slice A5 s.hs.length c5, .slice B5 s.ms.length d5] 26)).drew)).ext hx6; have hq0 := hbx.cell 0; have hq1 := hbx.cell 1; have hq2 := hbx.cell 2; have hbz := HB6.out.ext (Ext.trans (Ext.drew (Ext.refl _)) hx6); have hr0 := hbz.cell 0; have hr1 := hbz.cell 1; have hr2 := hbz.cell 2; simp only [List.getElem?_toArray, List.getElem?_cons_zero, List.getElem?_cons_succ] at hq0 hq1 hq2 hr0 hr1 hr2; have HX6 := Lib.hid ((HX5.out.trans ((Ext.new _ _).drew)).trans hx6); have HBXX := Lib.hid hbx; have HBZ := Lib.hid hbz; clear hbx hbz hx6)
              | (go_at_call 16; refine (count_any tx _).mono ?_; rw [HCN.out]; rintro e w7 ⟨rfl, rfl⟩)
              | (go_at_call 10; refine (lawAwake _ (HE.out.ext HX6.out)).mono ?_; rintro e w8 ⟨rfl, hx8⟩; have HX8 := Lib.hid (HX6.out.trans hx8); have hbx := HBXX.out.ext hx8; have hu0 := hbx.cell 0; have hu1 := hbx.cell 1; have hu2 := hbx.cell 2; have hbz := HBZ.out.ext hx8; have hv0 := hbz.cell 0; have hv1 := hbz.cell 1; have hv2 := hbz.cell 2; simp only [List.getElem?_toArray, List.getElem?_cons_zero, List.getElem?_cons_succ] at hu0 hu1 hu2 hv0 hv1 hv2; clear hbx hbz hx8))
          go_wp2_with fail
          go_ret
          exact ⟨rfl, HX8.out⟩
        · have hv := print_bad hf
          refine (stPrint s A B c d _ (HA.out.ext HX3.out) (HB.out.ext HX3.out) HS.out (HE.out.ext HX3.out)).mono ?_
          rw [hv]
          generalize printSE s = pe at *
          have hb9 : (pe == 0) = false := by simpa using hf
          have hb8 : (pe != 0) = true := by simpa using hf
          clear hv hf
          rintro e w4 ⟨rfl, hx4⟩
          have HX4 := Lib.hid (HX3.out.trans hx4)
          clear hx4 hq0 hq1 hq2
          go_wp2_with fail
          refine (lawAwake _ (HE.out.ext HX4.out)).mono ?_
          rintro e w5 ⟨rfl, hx5⟩
          go_wp2_with fail
          go_ret
          exact ⟨rfl, HX4.out.trans hx5⟩
      · obtain ⟨q1, q2⟩ := parse_bad HTL.out h0
        rw [q1]
        rcases q2 with ⟨q3, q4⟩ | ⟨q3, q4⟩
        · rw [q3]
          generalize hpn : parseSN t = pn at *
          clear hpn h0 q1 q3
          have hb1 : decide (0 < pn) = true := by simpa using q4
          rintro e w2 ⟨A4, c4, B4, d4, rfl, hA4, hB4, hx2⟩
          have HX3 := Lib.hid ((HX1.out.trans hx2).trans (Ext.new w2 (.cells #[.int .i64 zeroS.day, .slice A4 zeroS.hs.length c4, .slice B4 zeroS.ms.length d4] 26)))
          have hbx3 := (HBX1.out.ext hx2).ext (Ext.new w2 (.cells #[.int .i64 zeroS.day, .slice A4 zeroS.hs.length c4, .slice B4 zeroS.ms.length d4] 26))
          have hlt3 := (HBX1.out.ext hx2).lt
          have HBX3 := Lib.hid hbx3
          have hq0 := hbx3.cell 0
          have hq1 := hbx3.cell 1
          have hq2 := hbx3.cell 2
          simp only [zeroS, List.length_nil] at *
          simp only [List.getElem?_toArray, List.getElem?_cons_zero, List.getElem?_cons_succ] at hq0 hq1 hq2
          clear hA4 hB4 hx2 hbx3
          go_wp2_with fail
          by_cases hf : printSE s = 0
          · obtain ⟨hck, hv, hlen, p1, p2, p3, hcnt⟩ := parse_print hf
            refine (stPrint s A B c d _ (HA.out.ext HX3.out) (HB.out.ext HX3.out) HS.out (HE.out.ext HX3.out)).mono ?_
            rw [hv, hf]
            rintro e w4 ⟨rfl, hx4⟩
            have HX4 := Lib.hid (HX3.out.trans hx4)
            have HBX4 := Lib.hid (HBX3.out.ext hx4)
            clear hv hf hx4 hq0 hq1 hq2
            generalize textS s = tx at *
            have htx : tx.length ≤ 1000000000 := by omega
            go_wp2_with fail
            refine (stParse tx _ htx (HE.out.ext HX4.out)).mono ?_
            rw [p1, p2, p3]
            have HCN := Lib.hid hcnt
            have HCK := Lib.hid hck; clear p1 p2 p3 hcnt hck
            rintro e w5 ⟨A5, c5, B5, d5, rfl, hA5, hB5, hx5⟩
            have HX5 := Lib.hid (HX4.out.trans hx5)
            have HBX5 := Lib.hid (HBX4.out.ext hx5)
            have HA5 := Lib.hid hA5
            have HB5 := Lib.hid hB5
            clear hA5 hB5 hx5
            go_wp2_with fail
            have HB6 := Lib.hid (Blk.new w5 26 #[.int .i64 s.day, .slice A5 s.hs.length c5, .slice B5 s.ms.length d5])
            have hlt5 := HBX5.out.lt
            have hq0 := HBX5.out.cell 0
            have hq1 := HBX5.out.cell 1
            have hq2 := HBX5.out.cell 2
            simp only [List.getElem?_toArray, List.getElem?_cons_zero, List.getElem?_cons_succ] at hq0 hq1 hq2
            have hl1 : (s.hs.length : Int) ≤ 64 := by have := (checkS_ok HCK.out).2.1; omega
            have hl2 : (s.ms.length : Int) ≤ 1000 := by have := (checkS_ok HCK.out).2.2.1; omega
            have hw1 : IntKind.i64.wrap (1 + (s.hs.length : Int)) = 1 + (s.hs.length : Int) := IntWalk.i64_in _ (by omega)
            have hw2 : IntKind.i64.wrap (1 + (s.hs.length : Int) + (s.ms.length : Int)) = 1 + (s.hs.length : Int) + (s.ms.length : Int) := IntWalk.i64_in _ (by omega)
            go_region_held3 (fun w' => (w'.cell? ⟨w.heap.size, 0, none⟩ = some (.int .i64 s.day) ∧ w'.cell? ⟨w.heap.size, 1, none⟩ = some (.slice A s.hs.length c) ∧ w'.cell? ⟨w.heap.size, 2, none⟩ = some (.slice B s.ms.length d)) ∧ (w'.cell? ⟨w5.heap.size, 0, none⟩ = some (.int .i64 s.day) ∧ w'.cell? ⟨w5.heap.size, 1, none⟩ = some (.slice A5 s.hs.length c5) ∧ w'.cell? ⟨w5.heap.size, 2, none⟩ = some (.slice B5 s.ms.length d5)))
              (go_keep)
              (first
                | (go_at_call 15; refine (refSame s A5 B5 c5 d5 A B c d _ (HA5.out.ext ((Ext.new _ _).drew)) (HB5.out.ext ((Ext.new _ _).drew)) (HA.out.ext (HX5.out.trans ((Ext.new _ _).drew))) (HB.out.ext (HX5.out.trans ((Ext.new _ _).drew))) hn hm).mono ?_; rintro e w6 ⟨rfl, hx6⟩; have hbx := (HBX5.out.ext ((Ext.new _ (.cells #[.int .i64 s.day, .slice A5 s.hs.length c5, .slice B5 s.ms.length d5] 26)).drew)).ext hx6; have hq0 := hbx.cell 0; have hq1 := hbx.cell 1; have hq2 := hbx.cell 2; have hbz := HB6.out.ext (Ext.trans (Ext.drew (Ext.refl _)) hx6); have hr0 := hbz.cell 0; have hr1 := hbz.cell 1; have hr2 := hbz.cell 2; simp only [List.getElem?_toArray, List.getElem?_cons_zero, List.getElem?_cons_succ] at hq0 hq1 hq2 hr0 hr1 hr2; have HX6 := Lib.hid ((HX5.out.trans ((Ext.new _ _).drew)).trans hx6); have HBXX := Lib.hid hbx; have HBZ := Lib.hid hbz; clear hbx hbz hx6)
                | (go_at_call 16; refine (count_any tx _).mono ?_; rw [HCN.out]; rintro e w7 ⟨rfl, rfl⟩)
                | (go_at_call 10; refine (lawAwake _ (HE.out.ext HX6.out)).mono ?_; rintro e w8 ⟨rfl, hx8⟩; have HX8 := Lib.hid (HX6.out.trans hx8); have hbx := HBXX.out.ext hx8; have hu0 := hbx.cell 0; have hu1 := hbx.cell 1; have hu2 := hbx.cell 2; have hbz := HBZ.out.ext hx8; have hv0 := hbz.cell 0; have hv1 := hbz.cell 1; have hv2 := hbz.cell 2; simp only [List.getElem?_toArray, List.getElem?_cons_zero, List.getElem?_cons_succ] at hu0 hu1 hu2 hv0 hv1 hv2; clear hbx hbz hx8))
            go_wp2_with fail
            go_ret
            exact ⟨rfl, HX8.out⟩
          · have hv := print_bad hf
            refine (stPrint s A B c d _ (HA.out.ext HX3.out) (HB.out.ext HX3.out) HS.out (HE.out.ext HX3.out)).mono ?_
            rw [hv]
            generalize printSE s = pe at *
            have hb9 : (pe == 0) = false := by simpa using hf
            have hb8 : (pe != 0) = true := by simpa using hf
            clear hv hf
            rintro e w4 ⟨rfl, hx4⟩
            have HX4 := Lib.hid (HX3.out.trans hx4)
            clear hx4 hq0 hq1 hq2
            go_wp2_with fail
            refine (lawAwake _ (HE.out.ext HX4.out)).mono ?_
            rintro e w5 ⟨rfl, hx5⟩
            go_wp2_with fail
            go_ret
            exact ⟨rfl, HX4.out.trans hx5⟩
        · rw [q4]
          generalize hpr : parseSE t = pr at *
          clear hpr q1 q4
          have hb0 : (pr == 0) = false := by simpa using h0
          have hb3 : (pr == 3) = false := by simpa using q3
          clear h0 q3
          rintro e w2 ⟨A4, c4, B4, d4, rfl, hA4, hB4, hx2⟩
          have HX3 := Lib.hid ((HX1.out.trans hx2).trans (Ext.new w2 (.cells #[.int .i64 zeroS.day, .slice A4 zeroS.hs.length c4, .slice B4 zeroS.ms.length d4] 26)))
          have hbx3 := (HBX1.out.ext hx2).ext (Ext.new w2 (.cells #[.int .i64 zeroS.day, .slice A4 zeroS.hs.length c4, .slice B4 zeroS.ms.length d4] 26))
          have hlt3 := (HBX1.out.ext hx2).lt
          have HBX3 := Lib.hid hbx3
          have hq0 := hbx3.cell 0
          have hq1 := hbx3.cell 1
          have hq2 := hbx3.cell 2
          simp only [zeroS, List.length_nil] at *
          simp only [List.getElem?_toArray, List.getElem?_cons_zero, List.getElem?_cons_succ] at hq0 hq1 hq2
          clear hA4 hB4 hx2 hbx3
          go_wp2_with fail
          by_cases hf : printSE s = 0
          · obtain ⟨hck, hv, hlen, p1, p2, p3, hcnt⟩ := parse_print hf
            refine (stPrint s A B c d _ (HA.out.ext HX3.out) (HB.out.ext HX3.out) HS.out (HE.out.ext HX3.out)).mono ?_
            rw [hv, hf]
            rintro e w4 ⟨rfl, hx4⟩
            have HX4 := Lib.hid (HX3.out.trans hx4)
            have HBX4 := Lib.hid (HBX3.out.ext hx4)
            clear hv hf hx4 hq0 hq1 hq2
            generalize textS s = tx at *
            have htx : tx.length ≤ 1000000000 := by omega
            go_wp2_with fail
            refine (stParse tx _ htx (HE.out.ext HX4.out)).mono ?_
            rw [p1, p2, p3]
            have HCN := Lib.hid hcnt
            have HCK := Lib.hid hck; clear p1 p2 p3 hcnt hck
            rintro e w5 ⟨A5, c5, B5, d5, rfl, hA5, hB5, hx5⟩
            have HX5 := Lib.hid (HX4.out.trans hx5)
            have HBX5 := Lib.hid (HBX4.out.ext hx5)
            have HA5 := Lib.hid hA5
            have HB5 := Lib.hid hB5
            clear hA5 hB5 hx5
            go_wp2_with fail
            have HB6 := Lib.hid (Blk.new w5 26 #[.int .i64 s.day, .slice A5 s.hs.length c5, .slice B5 s.ms.length d5])
            have hlt5 := HBX5.out.lt
            have hq0 := HBX5.out.cell 0
            have hq1 := HBX5.out.cell 1
            have hq2 := HBX5.out.cell 2
            simp only [List.getElem?_toArray, List.getElem?_cons_zero, List.getElem?_cons_succ] at hq0 hq1 hq2
            have hl1 : (s.hs.length : Int) ≤ 64 := by have := (checkS_ok HCK.out).2.1; omega
            have hl2 : (s.ms.length : Int) ≤ 1000 := by have := (checkS_ok HCK.out).2.2.1; omega
            have hw1 : IntKind.i64.wrap (1 + (s.hs.length : Int)) = 1 + (s.hs.length : Int) := IntWalk.i64_in _ (by omega)
            have hw2 : IntKind.i64.wrap (1 + (s.hs.length : Int) + (s.ms.length : Int)) = 1 + (s.hs.length : Int) + (s.ms.length : Int) := IntWalk.i64_in _ (by omega)
            go_region_held3 (fun w' => (w'.cell? ⟨w.heap.size, 0, none⟩ = some (.int .i64 s.day) ∧ w'.cell? ⟨w.heap.size, 1, none⟩ = some (.slice A s.hs.length c) ∧ w'.cell? ⟨w.heap.size, 2, none⟩ = some (.slice B s.ms.length d)) ∧ (w'.cell? ⟨w5.heap.size, 0, none⟩ = some (.int .i64 s.day) ∧ w'.cell? ⟨w5.heap.size, 1, none⟩ = some (.slice A5 s.hs.length c5) ∧ w'.cell? ⟨w5.heap.size, 2, none⟩ = some (.slice B5 s.ms.length d5)))
              (go_keep)
              (first
                | (go_at_call 15; refine (refSame s A5 B5 c5 d5 A B c d _ (HA5.out.ext ((Ext.new _ _).drew)) (HB5.out.ext ((Ext.new _ _).drew)) (HA.out.ext (HX5.out.trans ((Ext.new _ _).drew))) (HB.out.ext (HX5.out.trans ((Ext.new _ _).drew))) hn hm).mono ?_; rintro e w6 ⟨rfl, hx6⟩; have hbx := (HBX5.out.ext ((Ext.new _ (.cells #[.int .i64 s.day, .slice A5 s.hs.length c5, .slice B5 s.ms.length d5] 26)).drew)).ext hx6; have hq0 := hbx.cell 0; have hq1 := hbx.cell 1; have hq2 := hbx.cell 2; have hbz := HB6.out.ext (Ext.trans (Ext.drew (Ext.refl _)) hx6); have hr0 := hbz.cell 0; have hr1 := hbz.cell 1; have hr2 := hbz.cell 2; simp only [List.getElem?_toArray, List.getElem?_cons_zero, List.getElem?_cons_succ] at hq0 hq1 hq2 hr0 hr1 hr2; have HX6 := Lib.hid ((HX5.out.trans ((Ext.new _ _).drew)).trans hx6); have HBXX := Lib.hid hbx; have HBZ := Lib.hid hbz; clear hbx hbz hx6)
                | (go_at_call 16; refine (count_any tx _).mono ?_; rw [HCN.out]; rintro e w7 ⟨rfl, rfl⟩)
                | (go_at_call 10; refine (lawAwake _ (HE.out.ext HX6.out)).mono ?_; rintro e w8 ⟨rfl, hx8⟩; have HX8 := Lib.hid (HX6.out.trans hx8); have hbx := HBXX.out.ext hx8; have hu0 := hbx.cell 0; have hu1 := hbx.cell 1; have hu2 := hbx.cell 2; have hbz := HBZ.out.ext hx8; have hv0 := hbz.cell 0; have hv1 := hbz.cell 1; have hv2 := hbz.cell 2; simp only [List.getElem?_toArray, List.getElem?_cons_zero, List.getElem?_cons_succ] at hu0 hu1 hu2 hv0 hv1 hv2; clear hbx hbz hx8))
            go_wp2_with fail
            go_ret
            exact ⟨rfl, HX8.out⟩
          · have hv := print_bad hf
            refine (stPrint s A B c d _ (HA.out.ext HX3.out) (HB.out.ext HX3.out) HS.out (HE.out.ext HX3.out)).mono ?_
            rw [hv]
            generalize printSE s = pe at *
            have hb9 : (pe == 0) = false := by simpa using hf
            have hb8 : (pe != 0) = true := by simpa using hf
            clear hv hf
            rintro e w4 ⟨rfl, hx4⟩
            have HX4 := Lib.hid (HX3.out.trans hx4)
            clear hx4 hq0 hq1 hq2
            go_wp2_with fail
            refine (lawAwake _ (HE.out.ext HX4.out)).mono ?_
            rintro e w5 ⟨rfl, hx5⟩
            go_wp2_with fail
            go_ret
            exact ⟨rfl, HX4.out.trans hx5⟩
end Go.Proofs.YteeampgbmpolfaaGreatDoor

/- Plain: what stands behind the first wrong line does not matter. No program in sight. -/
namespace Go.Proofs.YteeampgbmpolfaaGreatDoor
open Go.RowKit

/-- the pieces with their ends -/
def afterOf (c : UInt8) : List Bs → List Bs
  | [] => []
  | [x] => [x]
  | x :: y :: r => (x ++ [c]) :: afterOf c (y :: r)
theorem afterOf_len (c : UInt8) : ∀ (ls : List Bs), (afterOf c ls).length = ls.length
  | [] => rfl
  | [x] => rfl
  | x :: y :: r => by simp only [afterOf, List.length_cons, afterOf_len c (y :: r)]
theorem afterOf_c {c : UInt8} {x : Bs} {ls : List Bs} (h : ls ≠ []) : afterOf c (x :: ls) = (x ++ [c]) :: afterOf c ls := by
  cases ls with
  | nil => exact absurd rfl h
  | cons y r => rfl
theorem afterOf_take (c : UInt8) : ∀ (ls : List Bs) (n : Nat), n < ls.length → (afterOf c ls).take n = (ls.take n).map (· ++ [c])
  | [], n, h => by simp at h
  | [x], n, h => by have : n = 0 := by simp at h; exact h
                    subst this; rfl
  | x :: y :: r, 0, _ => by simp
  | x :: y :: r, n + 1, h => by
    simp only [afterOf, List.take_succ_cons, List.map_cons]
    rw [afterOf_take c (y :: r) n (by simpa using h)]
theorem afterOf_mid (c : UInt8) : ∀ (ls : List Bs) (k : Nat) (h : k + 1 < ls.length), (afterOf c ls)[k]? = some (ls[k] ++ [c])
  | [], k, h => by simp at h
  | [x], k, h => by simp at h
  | x :: y :: r, 0, _ => by simp [afterOf]
  | x :: y :: r, k + 1, h => by
    simp only [afterOf, List.getElem?_cons_succ, List.getElem_cons_succ]
    exact afterOf_mid c (y :: r) k (by simpa using h)
theorem afterOf_last (c : UInt8) : ∀ (ls : List Bs) (k : Nat) (h : k + 1 = ls.length), (afterOf c ls)[k]? = some (ls[k]'(by omega))
  | [], k, h => by simp at h
  | [x], k, h => by have : k = 0 := by simp at h; exact h
                    subst this; rfl
  | x :: y :: r, 0, h => by simp at h
  | x :: y :: r, k + 1, h => by
    simp only [afterOf, List.getElem?_cons_succ, List.getElem_cons_succ]
    exact afterOf_last c (y :: r) k (by simpa using h)
theorem suffix_yes (x : Bs) (c : UInt8) : ([c] : Bs).isSuffixOf (x ++ [c]) = true := by
  rw [List.isSuffixOf_iff_suffix]; exact List.suffix_append _ _
theorem suffix_no (x : Bs) (c : UInt8) (h : ∀ y ∈ x, y ≠ c) : ([c] : Bs).isSuffixOf x = false := by
  cases hh : ([c] : Bs).isSuffixOf x with
  | false => rfl
  | true =>
    rw [List.isSuffixOf_iff_suffix] at hh
    obtain ⟨t, rfl⟩ := hh
    exact absurd rfl (h c (by simp))
/-- the first wrong line, and what may stand behind it -/
theorem go_stop : ∀ (ls : List Bs) (s : St) (k : Nat), (goLines s k ls).2 ≠ 0 →
    (k : Int) + 1 ≤ (goLines s k ls).2 ∧ (goLines s k ls).2 ≤ (k : Int) + ls.length ∧
      ((goLines s k ls).2 < (k : Int) + ls.length → ∀ more : List Bs, more ≠ [] → (goLines s k (ls.take ((goLines s k ls).2.toNat - k) ++ more)).2 = (goLines s k ls).2)
  | [], s, k, h => absurd rfl h
  | [x], s, k, h => by
    rw [goLines_one] at h ⊢
    by_cases hx : 0 < k ∧ x = []
    · rw [if_pos hx] at h; exact absurd rfl h
    · rw [if_neg hx]; simp only [List.length_cons, List.length_nil]
      exact ⟨by omega, by omega, fun hh => absurd hh (by omega)⟩
  | x :: y :: r, s, k, h => by
    cases hs : stepLine s (k == 0) x with
    | some s1 =>
      rw [goLines_ok hs] at h ⊢
      obtain ⟨h1, h2, h3⟩ := go_stop (y :: r) s1 (k + 1) h
      generalize hn : (goLines s1 (k + 1) (y :: r)).2 = n at *
      refine ⟨by omega, by simp only [List.length_cons] at h2 ⊢; omega, fun hh more hm => ?_⟩
      have := h3 (by simp only [List.length_cons] at hh ⊢; omega) more hm
      rw [show n.toNat - k = (n.toNat - (k + 1)) + 1 by omega, List.take_succ_cons, List.cons_append, goLines_c (by simp [hm]), hs]
      exact this
    | none =>
      rw [goLines_bad hs]
      refine ⟨by simp, by simp; omega, fun hh more hm => ?_⟩
      rw [show ((k : Int) + 1).toNat - k = 1 by omega, List.take_succ_cons, List.take_zero, List.cons_append, List.nil_append, goLines_c hm, hs]
theorem flat_map {α : Type} (f : α → Bs) (l : List α) : (l.map f).flatten = l.flatMap f := by
  induction l with
  | nil => rfl
  | cons a r ih => rw [List.map_cons, List.flatten_cons, List.flatMap_cons, ih]
theorem flatten_take_len (ls : List Bs) (n : Nat) : (ls.take n).flatten.length ≤ ls.flatten.length := by
  conv => rhs; rw [← List.take_append_drop n ls, List.flatten_append, List.length_append]
  omega
theorem afterOf_flat (c : UInt8) : ∀ (ls : List Bs), (afterOf c ls).flatten = joinC c ls
  | [] => rfl
  | [x] => by simp [afterOf, joinC]
  | x :: y :: r => by simp only [afterOf, List.flatten_cons, joinC, afterOf_flat c (y :: r)]; simp
/-- THE FIRST WRONG LINE IS ONE OF THE LINES -/
theorem lines_in {t : Bs} (hl : t.length ≤ 65536) (h : parseSE t = 3) : 1 ≤ parseSN t ∧ parseSN t ≤ (splitOn 10 t).length := by
  have h1 : ¬ 65536 < t.length := by omega
  unfold parseSE at h; rw [if_neg h1] at h
  by_cases h2 : (resL t).2 ≠ 0
  · obtain ⟨a, b, _⟩ := go_stop (splitOn 10 t) zeroS 0 h2
    unfold parseSN; rw [if_neg h1]
    unfold resL; exact ⟨by omega, by omega⟩
  · rw [if_neg h2] at h; exact absurd h (checkS_ne3 _)
/-- WHAT STANDS BEHIND IT DOES NOT MATTER -/
theorem lines_more {t more : Bs} (hl : t.length ≤ 1000) (hm : more.length ≤ 200) (h : parseSE t = 3) (hn : parseSN t < (splitOn 10 t).length) :
    parseSE (((afterOf 10 (splitOn 10 t)).take (parseSN t).toNat).flatten ++ more) = 3 ∧ parseSN (((afterOf 10 (splitOn 10 t)).take (parseSN t).toNat).flatten ++ more) = parseSN t := by
  have h1 : ¬ 65536 < t.length := by omega
  have e : parseSN t = (goLines zeroS 0 (splitOn 10 t)).2 := by unfold parseSN; rw [if_neg h1]; rfl
  have h2 : (goLines zeroS 0 (splitOn 10 t)).2 ≠ 0 := by
    obtain ⟨a, _⟩ := lines_in (by omega) h; rw [e] at a; omega
  obtain ⟨a, _, c⟩ := go_stop (splitOn 10 t) zeroS 0 h2
  rw [← e] at a c
  have hln : (((afterOf 10 (splitOn 10 t)).take (parseSN t).toNat).flatten ++ more).length ≤ 1200 := by
    have := flatten_take_len (afterOf 10 (splitOn 10 t)) (parseSN t).toNat
    rw [afterOf_flat, joinC_split] at this
    rw [List.length_append]; omega
  have hsp : splitOn 10 (((afterOf 10 (splitOn 10 t)).take (parseSN t).toNat).flatten ++ more) = (splitOn 10 t).take (parseSN t).toNat ++ splitOn 10 more := by
    rw [afterOf_take 10 _ _ (by omega), flat_map]
    have := split_flat (fun x : Bs => x) more ((splitOn 10 t).take (parseSN t).toNat) (fun p hp => splitOn_no 10 t p (List.mem_of_mem_take hp))
    rw [this]; simp
  generalize ((afterOf 10 (splitOn 10 t)).take (parseSN t).toNat).flatten ++ more = u at *
  have hu : ¬ 65536 < u.length := by omega
  have hr : (resL u).2 = parseSN t := by
    unfold resL; rw [hsp]
    have := c (by omega) (splitOn 10 more) (splitOn_ne 10 more)
    rw [Nat.sub_zero] at this; exact this
  refine ⟨?_, ?_⟩
  · unfold parseSE; rw [if_neg hu, if_pos (by rw [hr]; omega)]
  · unfold parseSN; rw [if_neg hu]; rw [hr]; rfl
end Go.Proofs.YteeampgbmpolfaaGreatDoor

/- The walk over the law StatementLines. -/
namespace Go.Proofs.YteeampgbmpolfaaGreatDoor
open Go.RowKit Go.Shelf
attribute [local go_sem] size_bs toList_bs extract_bs get_bs append_bs lit_append append_lit

theorem after_all (c : UInt8) : ∀ (n : Nat) (l : Bs), l.length ≤ n → Lib.splitB (bs [c]) 1 (Lib.countB (bs l) (bs [c])) (bs l) = (afterOf c (splitOn c l)).map bs ∧ Lib.countB (bs l) (bs [c]) + 1 = (splitOn c l).length
  | n, l, hn => by
    rcases first_of c l with ⟨h1, h2⟩ | ⟨p, r, rfl, h1, h2⟩
    · rw [← indexB_one] at h2
      rw [Lib.countB_miss _ _ h2, Lib.splitB_miss _ _ _ _ h2, splitOn_none c l h1]
      exact ⟨rfl, rfl⟩
    · rw [← indexB_one] at h2
      have he : (bs (p ++ c :: r)).extract (p.length + (bs [c]).size) (bs (p ++ c :: r)).size = bs r := by
        rw [extract_bs, size_bs, size_bs]; congr 1
        simp only [List.length_cons, List.length_nil, List.length_append]
        rw [show p ++ c :: r = (p ++ [c]) ++ r by simp, List.drop_left' (by simp), List.take_of_length_le (by omega)]
      match n, hn with
      | 0, hn => simp at hn
      | n + 1, hn =>
        have ih := after_all c n r (by simp at hn; omega)
        rw [Lib.countB_hit _ _ _ (by simp [size_bs]) h2, he, Nat.add_comm 1, Lib.splitB_hit _ _ _ _ _ h2, he, ih.1, splitOn_cut c p r h1]
        refine ⟨?_, by simp [ih.2]⟩
        rw [afterOf_c (splitOn_ne c r)]
        simp only [List.map_cons, List.cons.injEq, and_true]
        rw [extract_bs]; congr 1
        rw [List.drop_zero, Nat.sub_zero, show p ++ c :: r = (p ++ [c]) ++ r by simp, List.take_left' (by simp)]
theorem split_after (l : Bs) (w : World) (hl : l.length ≤ 1000000) (hE : Env w) :
    Calls Tryz.prog 17 #[.string (bs l), .string { data := #[10] }] w fun e w' => e = .returned (.slice (some ⟨w.heap.size, 0, none⟩) (splitOn 10 l).length (splitOn 10 l).length) ∧ w' = w.alloc (.cells (scells (afterOf 10 (splitOn 10 l))).toArray 9) := by
  obtain ⟨m, hm⟩ := hE.len
  obtain ⟨h1, h2⟩ := after_all 10 l.length l (Nat.le_refl _)
  have h3 := splitOn_len 10 l
  have hG := Tryz.strings_genSplit (bs l) (bs [10]) 1 (-1) (splitOn 10 l).length m w (by rw [size_bs]; omega) hm (by simp [size_bs]) (by simp [size_bs]) (by decide) (by decide) (by
    rw [if_pos (by decide), size_bs]; omega)
  rw [show (splitOn 10 l).length - 1 = Lib.countB (bs l) (bs [10]) by omega, h1] at hG
  have hc : Lib.cellsOf ((afterOf 10 (splitOn 10 l)).map bs) (splitOn 10 l).length = (scells (afterOf 10 (splitOn 10 l))).toArray := by
    unfold Lib.cellsOf scells
    rw [List.length_map, afterOf_len, Nat.sub_self]; simp [Function.comp_def]
  rw [hc, List.length_map, afterOf_len] at hG
  have HG := Lib.hid hG
  clear hG h1 h2 hc hm h3
  generalize scells (afterOf 10 (splitOn 10 l)) = cells at *
  generalize (splitOn 10 l).length = n at *
  go_enter Tryz.func17, Tryz.ntmps17
  go_wp2_with fail
  refine HG.out.mono ?_
  rintro e w1 ⟨rfl, rfl⟩
  go_wp2_with fail
  go_ret
  exact ⟨rfl, rfl⟩
theorem suffix_any (l : Bs) (w : World) (hl : l.length ≤ 1000000) :
    Calls Tryz.prog 18 #[.string (bs l), .string { data := #[10] }] w fun e w' => e = .returned (.bool (([10] : Bs).isSuffixOf l)) ∧ w = w' := by
  refine (Tryz.strings_HasSuffix (bs l) (bs [10]) w (by rw [size_bs]; omega)).mono ?_
  rintro e w' ⟨rfl, rfl⟩
  rw [data_bs, data_bs]; exact ⟨rfl, rfl⟩
theorem join_nil (ls : List Bs) : Lib.join ls [] = ls.flatten := by
  unfold Lib.join
  induction ls with
  | nil => rfl
  | cons a r ih =>
    cases r with
    | nil => simp [List.intercalate]
    | cons b q => simp only [List.intercalate, List.intersperse_cons_cons, List.flatten_cons, List.nil_append] at ih ⊢; rw [ih]
theorem join_none (ls : List Bs) (A : Option Addr) (c : Nat) (w : World) (hr : RdS w A ls) (h0 : 0 < ls.length) (hc : ls.length ≤ c) (hn : ls.length ≤ 1000000) (hl : ls.flatten.length ≤ 1000000000) :
    Calls Tryz.prog 19 #[.slice A ls.length c, .string ⟨#[]⟩] w fun e w' => e = .returned (.string (bs ls.flatten)) ∧ Ext w w' := by
  obtain ⟨b, o, rfl, hb⟩ := Reads.at_ hr h0
  have hm : (ls.map bs).map (fun x => x.data.toList) = ls := by
    rw [List.map_map]; conv => rhs; rw [← List.map_id ls]
    apply List.map_congr_left; intro a _; exact data_bs a
  have hlen : (ls.map bs).length = ls.length := by simp
  have hj : Lib.join ls ((⟨#[]⟩ : ByteArray).data.toList) = ls.flatten := join_nil ls
  have hJ := Tryz.strings_Join b o c (ls.map bs) ⟨#[]⟩ w (fun j x hx => Reads.cell hr (by
      simp only [List.getElem?_map, Option.map_eq_some_iff] at hx
      obtain ⟨a, ha, rfl⟩ := hx
      simp [scells, ha])) hb (by rw [hlen]; omega) (by rw [hlen]; exact hc) (by rw [hm, hj]; omega)
  rw [hm, hlen, hj] at hJ
  refine hJ.mono ?_
  rintro e w' ⟨rfl, hbl⟩
  exact ⟨rfl, hbl⟩
theorem RdS.take {w : World} {A : Option Addr} {ls : List Bs} (h : RdS w A ls) (n : Nat) : RdS w A (ls.take n) := by
  refine ⟨by simp [scells], fun hn => ?_⟩
  have h0 : 0 < ls.length := by rw [List.length_take] at hn; omega
  obtain ⟨b, o, rfl, hb, hc⟩ := h.2 h0
  refine ⟨b, o, rfl, hb, fun j u hu => hc j u ?_⟩
  unfold scells at hu ⊢
  rw [List.map_take, List.getElem?_take] at hu
  split at hu
  · exact hu
  · cases hu

set_option maxRecDepth 100000 in
set_option maxHeartbeats 4000000 in
theorem lawLines (t more : Bs) (w : World) (hE : Env w) :
    Calls Tryz.prog 5 #[.string (bs t), .string (bs more)] w fun e w' => e = .returned (.bool true) ∧ Ext w w' := by
  have HE := Lib.hid hE
  clear hE
  have hz : ((0 : Nat) : Int) = 0 := rfl
  clear hz
  go_enter Tryz.func5, Tryz.ntmps5
  by_cases h1 : 1000 < (t.length : Int)
  · go_wp2_with fail
    refine (lawAwake _ HE.out).mono ?_
    rintro e w2 ⟨rfl, hx2⟩
    go_wp2_with fail
    go_ret
    exact ⟨rfl, hx2⟩
  by_cases h2 : 200 < (more.length : Int)
  · go_wp2_with fail
    refine (lawAwake _ HE.out).mono ?_
    rintro e w2 ⟨rfl, hx2⟩
    go_wp2_with fail
    go_ret
    exact ⟨rfl, hx2⟩
  have htl : t.length ≤ 1000000000 := by omega
  have HL1 : Hid (t.length ≤ 1000) := Lib.hid (by omega)
  have HL2 : Hid (more.length ≤ 200) := Lib.hid (by omega)
  go_wp2_with fail
  refine (stParse t _ htl HE.out).mono ?_
  by_cases h0 : parseSE t = 3
  · have hin := lines_in (t := t) (by have := HL1.out; omega) h0
    have HMO := Lib.hid (fun h => lines_more HL1.out HL2.out h0 h)
    rw [h0]
    have HNO : Hid (∀ p ∈ splitOn 10 t, ∀ x ∈ p, x ≠ (10 : UInt8)) := Lib.hid (splitOn_no 10 t)
    have HSL : Hid ((afterOf 10 (splitOn 10 t)).flatten.length ≤ 1000) := Lib.hid (by rw [afterOf_flat, joinC_split]; exact HL1.out)
    have HSA := Lib.hid (fun w hE => split_after t w (by have := HL1.out; omega) hE)
    have HLL : Hid ((splitOn 10 t).length ≤ 1001) := Lib.hid (by have := splitOn_len 10 t; have := HL1.out; omega)
    have HML : Hid (∀ p ∈ splitOn 10 t, p.length ≤ 1000) := Lib.hid (fun p hp => by have := splitOn_mem 10 t p hp; have := HL1.out; omega)
    generalize parseSN t = n at *
    generalize parseSt t = ps at *
    generalize splitOn 10 t = ls at *
    clear h0 htl
    rintro e w1 ⟨A4, c4, B4, d4, rfl, hA4, hB4, hx1⟩
    have HX1 := Lib.hid (hx1.trans (Ext.new w1 (.cells #[.int .i64 ps.day, .slice A4 ps.hs.length c4, .slice B4 ps.ms.length d4] 26)))
    clear hA4 hB4 hx1
    go_wp2_with fail
    refine (HSA.out _ (HE.out.ext HX1.out)).mono ?_
    rintro e w2 ⟨rfl, rfl⟩
    have HRD := Lib.hid (Reads.lit (w := w1.alloc (.cells #[.int .i64 ps.day, .slice A4 ps.hs.length c4, .slice B4 ps.ms.length d4] 26)) (t := 9) (size := 1) (n := (afterOf 10 ls).length) (xs := scells (afterOf 10 ls)) (by simp [scells]))
    obtain ⟨hi1, hi2⟩ := hin
    obtain ⟨k, rfl⟩ : ∃ k : Nat, n = (k : Int) + 1 := ⟨(n - 1).toNat, by omega⟩
    have hk : k < ls.length := by omega
    have hkL := HLL.out
    have HX2 := Lib.hid (HX1.out.trans (Ext.new _ (.cells (scells (afterOf 10 ls)).toArray 9)))
    by_cases hlast : k + 1 < ls.length
    · have hcell : (scells (afterOf 10 ls))[k]? = some (.string (bs (ls[k]'hk ++ [10]))) := by simp only [scells, List.getElem?_map, afterOf_mid 10 ls k hlast]; rfl
      have hlk := HML.out _ (List.getElem_mem hk)
      obtain ⟨m1, m2⟩ := HMO.out (by omega)
      have HM1 := Lib.hid m1
      have HM2 := Lib.hid m2
      have HTK : Hid (((afterOf 10 ls).take (k + 1)).flatten.length ≤ 1000) := Lib.hid (by have := flatten_take_len (afterOf 10 ls) (k + 1); have := HSL.out; omega)
      have hsuf := suffix_yes (ls[k]'hk) 10
      generalize (ls[k]'hk) = lk at *
      clear m1 m2
      have hsz : (w1.alloc (.cells #[.int .i64 ps.day, .slice A4 ps.hs.length c4, .slice B4 ps.ms.length d4] 26)).heap.size = w1.heap.size + 1 := by simp
      have hRT := RdS.take (ls := afterOf 10 ls) HRD.out (k + 1)
      have hlT : ((afterOf 10 ls).take (k + 1)).length = k + 1 := by rw [List.length_take, afterOf_len]; omega
      rw [hsz] at hRT
      have hJ := fun hc => join_none ((afterOf 10 ls).take (k + 1)) _ ls.length _ hRT (by rw [hlT]; omega) hc (by rw [hlT]; omega) (by have := HTK.out; omega)
      rw [hlT] at hJ
      have HJ := Lib.hid (hJ (by omega))
      clear hJ hRT hsz hlT
      generalize scells (afterOf 10 ls) = cells at *
      go_wp2_with fail
      refine (suffix_any (lk ++ [10]) _ (by simp; omega)).mono ?_
      rw [hsuf]
      clear hsuf
      rintro e w3 ⟨rfl, rfl⟩
      go_wp2_with fail
      have hm1 := HM1.out
      have hm2 := HM2.out
      rw [show ((k : Int) + 1).toNat = k + 1 by omega] at hm1 hm2
      have HM3 := Lib.hid hm1
      have HM4 := Lib.hid hm2
      have htk := HTK.out
      have hml := HL2.out
      clear hm1 hm2 HM1 HM2 HTK
      generalize ((afterOf 10 ls).take (k + 1)).flatten = tk at *
      refine HJ.out.mono ?_
      rintro e w4 ⟨rfl, hx4⟩
      have HX4 := Lib.hid (HX2.out.trans hx4)
      clear hx4
      go_wp2_with fail
      have htm : (tk ++ more).length ≤ 1000000000 := by rw [List.length_append]; omega
      refine (stParse (tk ++ more) _ htm (HE.out.ext HX4.out)).mono ?_
      rw [HM3.out, HM4.out]
      generalize parseSt (tk ++ more) = ps2 at *
      rintro e w5 ⟨A5, c5, B5, d5, rfl, hA5, hB5, hx5⟩
      have HX5 := Lib.hid ((HX4.out.trans hx5).trans (Ext.new w5 (.cells #[.int .i64 ps2.day, .slice A5 ps2.hs.length c5, .slice B5 ps2.ms.length d5] 26)))
      clear hA5 hB5 hx5
      go_wp2_with fail
      refine (lawAwake _ (HE.out.ext HX5.out)).mono ?_
      rintro e w6 ⟨rfl, hx6⟩
      go_wp2_with fail
      go_ret
      exact ⟨rfl, HX5.out.trans hx6⟩
    · have hcell : (scells (afterOf 10 ls))[k]? = some (.string (bs (ls[k]'hk))) := by simp only [scells, List.getElem?_map, afterOf_last 10 ls k (by omega)]; rfl
      have hlk := HML.out _ (List.getElem_mem hk)
      have hsuf := suffix_no (ls[k]'hk) 10 (HNO.out _ (List.getElem_mem hk))
      generalize (ls[k]'hk) = lk at *
      have hend : ((k : Int) + 1 == (ls.length : Int)) = true := by rw [beq_iff_eq]; omega
      clear HMO
      generalize scells (afterOf 10 ls) = cells at *
      go_wp2_with fail
      refine (suffix_any lk _ (by omega)).mono ?_
      rw [hsuf]
      clear hsuf
      rintro e w3 ⟨rfl, rfl⟩
      go_wp2_with fail
      refine (lawAwake _ (HE.out.ext (HX2.out.drewN 0))).mono ?_
      rintro e w4 ⟨rfl, hx4⟩
      go_wp2_with fail
      go_ret
      exact ⟨rfl, HX2.out.trans hx4⟩
  · have hb3 : (parseSE t == 3) = false := by simpa using h0
    have hb4 : (parseSE t != 3) = true := by simpa using h0
    generalize parseSE t = pe at *
    generalize parseSN t = n at *
    generalize parseSt t = ps at *
    clear h0
    rintro e w1 ⟨A4, c4, B4, d4, rfl, hA4, hB4, hx1⟩
    have HX1 := Lib.hid (hx1.trans (Ext.new w1 (.cells #[.int .i64 ps.day, .slice A4 ps.hs.length c4, .slice B4 ps.ms.length d4] 26)))
    clear hA4 hB4 hx1
    go_wp2_with fail
    refine (lawAwake _ (HE.out.ext HX1.out)).mono ?_
    rintro e w2 ⟨rfl, hx2⟩
    go_wp2_with fail
    go_ret
    exact ⟨rfl, HX1.out.trans hx2⟩
end Go.Proofs.YteeampgbmpolfaaGreatDoor
