/- The seat's texts, part 9. -/
import Derived.Test.YteeampgbmpolfaaGreatDoorZ8

/- Plain: what is held in b is what is held in a and in the statement between both. No program in sight. -/
namespace Go.Proofs.YteeampgbmpolfaaGreatDoor
open Go.RowKit

theorem one_canon {h : Hd} (ho : OneH h) : ofI (valI h.qty) = h.qty := by
  obtain ⟨_, h2, _⟩ := ho
  have : checkI h.qty = 0 := by
    unfold numE numE1 at h2
    by_cases hc : checkI h.qty = 0
    · exact hc
    · exfalso; simp [hc] at h2
  have hcn : canon h.qty = h.qty := by
    unfold checkI at this
    split at this
    · first | assumption | (symm; assumption) | (cases this)
    · first | assumption | (symm; assumption) | (cases this)
  rw [← canon_ofI, hcn]
theorem heldQ_canon {hs : List Hd} (h : ∀ x ∈ hs, OneH x) (n : Bs) : ofI (valI (heldQ hs n)) = heldQ hs n := by
  unfold heldQ
  cases hf : hs.find? (fun h => h.ins == n) with
  | none => exact (ofI_nil_iff 0).2 rfl
  | some x => exact one_canon (h x (List.mem_of_find?_eq_some hf))
theorem heldQ_none {hs : List Hd} {n : Bs} (h : n ∉ insOf hs) : heldQ hs n = [] := by
  refine (held_miss (fun j hj e => h ?_)).1
  rw [← e]; exact List.mem_map_of_mem (List.getElem_mem hj)
theorem betH_mem {a b : List Hd} {ns : List Bs} {x : Hd} (h : x ∈ betH a b ns) : x.ins ∈ ns ∧ x.qty = ofI (chg a b x.ins) ∧ chg a b x.ins ≠ 0 := by
  unfold betH at h
  obtain ⟨n, hn, hx⟩ := List.mem_flatMap.1 h
  unfold betOne at hx
  split at hx
  · cases hx
  · rw [List.mem_singleton] at hx; subst hx; exact ⟨hn, rfl, by assumption⟩
theorem heldQ_betH (a b : List Hd) (ns : List Bs) {n : Bs} (hn : n ∈ ns) : heldQ (betH a b ns) n = ofI (chg a b n) := by
  unfold heldQ
  cases hf : (betH a b ns).find? (fun h => h.ins == n) with
  | some x =>
    have h1 := betH_mem (List.mem_of_find?_eq_some hf)
    have h2 : x.ins = n := by simpa using List.find?_some hf
    rw [h2] at h1; exact h1.2.1
  | none =>
    have hz : chg a b n = 0 := by
      by_cases h : chg a b n = 0
      · exact h
      · exfalso
        rw [List.find?_eq_none] at hf
        refine hf ⟨n, ofI (chg a b n)⟩ ?_ (by simp)
        unfold betH
        exact List.mem_flatMap.2 ⟨n, hn, by unfold betOne; rw [if_neg h]; simp⟩
    rw [hz, (ofI_nil_iff 0).2 rfl]
/-- what is held in b is what is held in a and between -/
theorem held_sum {a b : St} (hb : checkS b = 0) {n : Bs} (hn : n ∈ insOf a.hs ∨ n ∈ insOf b.hs) : ofI (valI (heldQ a.hs n) + valI (heldQ (betS a b).hs n)) = heldQ b.hs n := by
  have h1 : heldQ (betS a b).hs n = ofI (chg a.hs b.hs n) := heldQ_betH _ _ _ (((union_facts _ _).2 n).2 hn)
  rw [h1, valI_ofI]
  unfold chg
  rw [show valI (heldQ a.hs n) + (valI (heldQ b.hs n) - valI (heldQ a.hs n)) = valI (heldQ b.hs n) by omega]
  exact heldQ_canon (checkH_zero (checkS_zero.1 hb).2.1).2.1 n
theorem bet_ins {a b : St} {x : Hd} (h : x ∈ (betS a b).hs) : x.ins ∈ insOf a.hs ∨ x.ins ∈ insOf b.hs := ((union_facts _ _).2 _).1 (betH_mem h).1
theorem betM_self {s : St} (h : checkS s = 0) : betM s.day s.ms = [] := by
  unfold betM
  rw [List.filter_eq_nil_iff]
  intro m hm
  have := ((checkM_zero (checkS_zero.1 h).2.2).2.1 m hm).2.2.1
  simp; omega
theorem betH_self (a : List Hd) (ns : List Bs) : betH a a ns = [] := by
  unfold betH
  rw [List.flatMap_eq_nil_iff]
  intro n _
  unfold betOne chg; rw [if_pos (by omega)]
theorem betS_self {s : St} (h : checkS s = 0) : betS s s = ⟨s.day, [], []⟩ := by
  unfold betS; rw [betM_self h, betH_self]
theorem check_none {s : St} (h : checkS s = 0) : checkS ⟨s.day, [], []⟩ = 0 := by
  rw [checkS_zero]
  exact ⟨(checkS_zero.1 h).1, rfl, rfl⟩
theorem bet_self {s : St} (h : checkS s = 0) : betV s s = ⟨s.day, [], []⟩ ∧ betE s s = 0 := by
  have h1 := betS_self h
  have h2 := check_none h
  have h0 : ¬ (checkS s ≠ 0 ∨ checkS s ≠ 0) := by rintro (k | k) <;> exact k h
  have h3 : ¬ s.day < s.day := by omega
  refine ⟨?_, ?_⟩
  · unfold betV; rw [if_neg h0, if_neg h3, h1, if_neg (fun k => k h2)]
  · unfold betE; rw [if_neg h0, if_neg h3, h1, if_neg (fun k => k h2)]
theorem bet_cases {a b : St} (ha : checkS a = 0) (hb : checkS b = 0) : (b.day < a.day ∧ betV a b = noSt ∧ betE a b = 8) ∨ (a.day ≤ b.day ∧ betV a b = noSt ∧ betE a b = 4) ∨ (a.day ≤ b.day ∧ betV a b = betS a b ∧ betE a b = 0 ∧ checkS (betS a b) = 0) := by
  have h0 : ¬ (checkS a ≠ 0 ∨ checkS b ≠ 0) := by rintro (k | k); exact k ha; exact k hb
  unfold betV betE
  rw [if_neg h0, if_neg h0]
  by_cases h1 : b.day < a.day
  · rw [if_pos h1, if_pos h1]; exact .inl ⟨h1, rfl, rfl⟩
  · rw [if_neg h1, if_neg h1]
    by_cases h2 : checkS (betS a b) = 0
    · rw [if_neg (fun k => k h2), if_neg (fun k => k h2)]; exact .inr (.inr ⟨by omega, rfl, rfl, h2⟩)
    · rw [if_pos h2, if_pos h2]; exact .inr (.inl ⟨by omega, rfl, rfl⟩)
end Go.Proofs.YteeampgbmpolfaaGreatDoor

/- Plain: what slices.DeleteFunc leaves of a list, and how it lies in a row. No program in sight. -/
namespace Go.Proofs.YteeampgbmpolfaaGreatDoor
open Go.RowKit Go.Lib

/-- how the loop of DeleteFunc stands: R is the row, the first j are looked at, i of them are kept -/
structure DelAt (p : Mv → Bool) (ms R : List Mv) (i j : Nat) : Prop where
  len : R.length = ms.length
  front : R.take i = (ms.take j).filter (fun m => !(p m))
  back : R.drop j = ms.drop j
  num : ((ms.take j).filter (fun m => !(p m))).length = i
  lt : i < j
  le : j ≤ ms.length
theorem DelAt.start {p : Mv → Bool} {ms : List Mv} {k : Nat} (hk : k < ms.length) (hp : p (ms[k]'hk) = true) (hn : ∀ (j : Nat) (h : j < ms.length), j < k → p (ms[j]'h) = false) : DelAt p ms ms k (k + 1) := by
  have h0 : (ms.take k).filter (fun m => !(p m)) = ms.take k := by
    rw [List.filter_eq_self]
    intro m hm
    obtain ⟨j, hj, rfl⟩ := List.getElem_of_mem hm
    rw [List.length_take] at hj
    rw [List.getElem_take, hn j (by omega) (by omega)]; rfl
  have h1 : (ms.take (k + 1)).filter (fun m => !(p m)) = ms.take k := by
    rw [List.take_succ_eq_append_getElem hk, List.filter_append, h0, List.filter_cons_of_neg (by rw [hp]; decide)]; simp
  exact ⟨rfl, h1.symm, rfl, by rw [h1, List.length_take]; omega, by omega, by omega⟩
section
variable {p : Mv → Bool} {ms R : List Mv} {i j : Nat}
theorem DelAt.at_ (h : DelAt p ms R i j) (hj : j < ms.length) : ∃ hR : j < R.length, R[j]'hR = ms[j]'hj := by
  have hR : j < R.length := by rw [h.len]; exact hj
  refine ⟨hR, ?_⟩
  have := h.back
  rw [List.drop_eq_getElem_cons hR, List.drop_eq_getElem_cons hj] at this
  injection this
theorem DelAt.drop_ (h : DelAt p ms R i j) (hj : j < ms.length) (hp : p (ms[j]'hj) = true) : DelAt p ms R i (j + 1) := by
  have h1 : (ms.take (j + 1)).filter (fun m => !(p m)) = (ms.take j).filter (fun m => !(p m)) := by
    rw [List.take_succ_eq_append_getElem hj, List.filter_append, List.filter_cons_of_neg (by rw [hp]; decide)]; simp
  refine ⟨h.len, by rw [h1]; exact h.front, ?_, by rw [h1]; exact h.num, by have := h.lt; omega, by omega⟩
  have := h.back
  rw [← List.drop_drop, ← List.drop_drop, this]
theorem DelAt.keep_ (h : DelAt p ms R i j) (hj : j < ms.length) (hp : p (ms[j]'hj) = false) : DelAt p ms (R.set i (ms[j]'hj)) (i + 1) (j + 1) := by
  have hlt := h.lt
  have hl := h.len
  have h1 : (ms.take (j + 1)).filter (fun m => !(p m)) = (ms.take j).filter (fun m => !(p m)) ++ [ms[j]'hj] := by
    rw [List.take_succ_eq_append_getElem hj, List.filter_append, List.filter_cons_of_pos (by rw [hp]; decide)]; rfl
  refine ⟨by rw [List.length_set]; exact hl, ?_, ?_, by rw [h1, List.length_append, h.num]; rfl, by omega, by omega⟩
  · rw [h1, ← h.front, List.take_succ_eq_append_getElem (by rw [List.length_set]; omega), List.take_set_of_le (Nat.le_refl _), List.getElem_set_self]
  · rw [List.drop_set_of_lt (by omega)]
    have := h.back
    rw [← List.drop_drop, ← List.drop_drop, this]
end
theorem mcells_set (R : List Mv) (i : Nat) (x : Mv) (h : i < R.length) : lsplice (mcells R) (i * 5) (mcells [x]) = mcells (R.set i x) := by
  have e : R = R.take i ++ (R[i] :: R.drop (i + 1)) := by rw [List.getElem_cons_drop, List.take_append_drop]
  have e2 : R.set i x = R.take i ++ (x :: R.drop (i + 1)) := by rw [List.set_eq_take_append_cons_drop, if_pos h]
  have hl : (mcells (R.take i)).length = i * 5 := by rw [mcells_len, List.length_take]; congr 1; omega
  have ha : ∀ a b, mcells (a ++ b) = mcells a ++ mcells b := fun a b => by simp [mcells]
  have hc : ∀ a b, mcells (a :: b) = mcells [a] ++ mcells b := fun a b => by simp [mcells]
  have h5 : (mcells [x]).length = 5 := rfl
  rw [e2, ha, hc x (R.drop (i + 1))]
  unfold lsplice
  have h1 : (mcells R).take (i * 5) = mcells (R.take i) := by
    conv => lhs; rw [e]
    rw [ha, List.take_left' hl]
  have h2 : (mcells R).drop (i * 5 + (mcells [x]).length) = mcells (R.drop (i + 1)) := by
    conv => lhs; rw [e]
    rw [ha, hc (R[i]'h) (R.drop (i + 1)), ← List.append_assoc, List.drop_left' (by rw [List.length_append, hl, h5]; rfl)]
  rw [h1, h2, List.append_assoc]
theorem lsplice_take (cur : List Value) (o : Nat) (vs : List Value) (n : Nat) (h : o + vs.length ≤ n) (hc : o + vs.length ≤ cur.length) : (lsplice cur o vs).take n = lsplice (cur.take n) o vs := by
  unfold lsplice
  have h1 : (cur.take o ++ vs).length = o + vs.length := by rw [List.length_append, List.length_take]; omega
  rw [List.take_append, h1, List.take_of_length_le (by rw [h1]; exact h), List.take_take, Nat.min_eq_left (by omega), List.drop_take]
theorem Row.setM {w : World} {g n cap : Nat} {t : TypeId} {R : List Mv} {cur : List Value} (h : Row w g t 5 n cap (mcells R) cur) (i : Nat) (x : Mv) (hi : i < n) (hn : R.length = n) : Row (w.setCells g (i * 5) (mcells [x])) g t 5 n cap (mcells (R.set i x)) (lsplice cur (i * 5) (mcells [x])) := by
  have hle := h.le
  have h5 : (mcells [x]).length = 5 := rfl
  refine h.put _ _ (by rw [h5]; omega) hle (by rw [mcells_len, List.length_set, hn]) ?_
  rw [lsplice_take _ _ _ _ (by rw [h5]; omega) (by rw [h5, h.full]; omega), h.take, mcells_set _ _ _ (by omega)]
end Go.Proofs.YteeampgbmpolfaaGreatDoor

/- The walks over the library's slices.Clone, IndexFunc and DeleteFunc at movements, and over the law's closure. -/
namespace Go.Proofs.YteeampgbmpolfaaGreatDoor
open Go.RowKit
attribute [local go_sem] size_bs toList_bs

theorem oneMv (ms : List Mv) : ∀ u ∈ mcells ms, u.oneCell' = true := by
  intro u hu; obtain ⟨h, _, hm⟩ := List.mem_flatMap.1 hu
  simp at hm; rcases hm with rfl | rfl | rfl | rfl | rfl <;> rfl
def CloneAny (ms : List Mv) (w : World) (e : Ending) (w' : World) : Prop :=
  ∃ A c, e = .returned (.slice A ms.length c) ∧ w'.ownsRow w.heap.size 50 5 (.slice A ms.length c) ms.length (mcells ms) ∧ Ext w w'
set_option maxRecDepth 100000 in
set_option maxHeartbeats 1000000 in
theorem cloneAnyM (ms : List Mv) (A : Option Addr) (c : Nat) (w : World) (hA : RdM w A ms) (hn : ms.length ≤ 1000000) :
    Calls Tryz.prog 26 #[.slice A ms.length c] w (CloneAny ms w) := by
  obtain ⟨i0, hI, hz0, hz1, hz2⟩ := info_parts movInfo
  have HI := Lib.hid hI
  have HA := Lib.hid (hA.ext (Ext.new w (.cells #[] 50)))
  clear hI
  cases A with
  | none =>
    have h0 : ms = [] := by
      rcases Nat.eq_zero_or_pos ms.length with h | h
      · exact List.length_eq_zero_iff.1 h
      · obtain ⟨b, o, e, _⟩ := hA.2 h; cases e
    subst h0
    clear hA HA
    have hnil : ∀ W : World, (binOp .eql 24 (.slice none 0 c) (.slice none 0 0)).run Tryz.prog W = .ok (.bool true) W := fun W => Lib.run_eql_slice_nil W _ _ _ _ _ _ _ Tryz.underlying24
    go_enter Tryz.func26, Tryz.ntmps26
    go_wp2_with fail
    go_ret
    exact ⟨none, 0, rfl, ⟨rfl, .inl ⟨rfl, rfl⟩⟩, Ext.refl _⟩
  | some a =>
    clear hA
    have hnil : ∀ W : World, (binOp .eql 24 (.slice (some a) ms.length c) (.slice none 0 0)).run Tryz.prog W = .ok (.bool false) W := fun W => Lib.run_eql_slice_nil W _ _ _ _ _ _ _ Tryz.underlying24
    have HOW : Hid ((w.alloc (.cells #[] 50)).ownsRow w.heap.size 50 5 (.slice (some ⟨w.heap.size, 0, none⟩) 0 0) 0 []) := Lib.hid ⟨rfl, .inr ⟨w.heap.size, 0, #[], rfl, Nat.le_refl _, heap_alloc_new w _, Nat.le_refl _, by decide, rfl, rfl⟩⟩
    go_enter Tryz.func26, Tryz.ntmps26
    go_wp2_with (at_builtin; refine wpList_append_any _ rfl (.tmp 5) (.tmp 6) 24 rfl w.heap.size 50 i0 _ 5 72 Tryz.underlying24 HI.out hz0 hz1 hz2 rfl (by decide) _ 0 [] rfl HOW.out (some a) ms.length c (mcells ms) rfl HA.out (oneMv _) (by simp only [maxLen]; omega) (by omega) (by simp) ?_; intro v' w' hown hgrow hat)
    simp only [Nat.zero_add, List.nil_append] at hown
    obtain ⟨A1, c1, rfl⟩ := own_len hown
    go_ret
    exact ⟨A1, c1, rfl, hown, Ext.grown (Ext.new w _) hgrow (own_ge HOW.out)⟩
/-- the law's closure: the day is not behind the captured statement's -/
theorem diffDel (m : Mv) (g : Nat) (day : Int) (w : World) (hc : w.cell? ⟨g, 0, none⟩ = some (.int .i64 day)) (hg : g < w.heap.size) :
    Calls Tryz.prog 36 #[.agg #[.string (bs m.ref), .int .i64 m.day, .string (bs m.ins), .string (bs m.qty), .string (bs m.amt)], .pointer (some ⟨g, 0, none⟩)] w fun e w' => e = .returned (.bool (decide (m.day ≤ day))) ∧ Ext w w' := by
  go_enter Tryz.func36, Tryz.ntmps36
  go_wp2_with fail
  go_ret
  exact ⟨rfl, Ext.new _ _⟩
def late (day : Int) (m : Mv) : Bool := decide (m.day ≤ day)
def IdxEnds (p : Mv → Bool) (ms : List Mv) (w : World) (e : Ending) (w' : World) : Prop :=
  Ext w w' ∧ ((e = .returned (.int .i64 (-1)) ∧ ∀ (j : Nat) (h : j < ms.length), p (ms[j]'h) = false) ∨ ∃ (k : Nat) (hk : k < ms.length), e = .returned (.int .i64 k) ∧ p (ms[k]'hk) = true ∧ ∀ (j : Nat) (h : j < ms.length), j < k → p (ms[j]'h) = false)
set_option maxRecDepth 100000 in
set_option maxHeartbeats 1000000 in
theorem indexM (ms : List Mv) (A : Option Addr) (c g : Nat) (day : Int) (w : World) (hA : RdM w A ms) (hn : ms.length ≤ 1000000) (hc : w.cell? ⟨g, 0, none⟩ = some (.int .i64 day)) (hg : g < w.heap.size) :
    Calls Tryz.prog 80 #[.slice A ms.length c, .func (.func 36) #[] #[.pointer (some ⟨g, 0, none⟩)]] w (IdxEnds (late day) ms w) := by
  have HA := Lib.hid hA
  have HC := Lib.hid hc
  clear hA hc
  go_enter Tryz.func80, Tryz.ntmps80
  go_wp2_with fail
  go_loopw [8, 5] (fun i _ wr => ∃ k : Nat, k ≤ ms.length ∧ i = .int .i64 k ∧ (∀ (j : Nat) (h : j < ms.length), j < k → late day (ms[j]'h) = false) ∧ Ext w wr) (fun i _ _ => ms.length - (intOf i).toNat)
  case atStart => exact ⟨0, by omega, rfl, fun j _ hj => absurd hj (by omega), Ext.refl _⟩
  case round =>
    obtain ⟨k, hk, rfl, hz, hx⟩ := hrel
    have HZ := Lib.hid hz
    have HX := Lib.hid hx
    clear hz hx
    by_cases hlt : k < ms.length
    · obtain ⟨b, o, rfl, hb, c0, c1, c2, c3, c4⟩ := (HA.out.ext HX.out).at_ hlt
      by_cases hp : late day (ms[k]'hlt) = true
      · have HP := Lib.hid (show ∃ (k' : Nat) (hk' : k' < ms.length), k' = k ∧ late day (ms[k']'hk') = true ∧ ∀ (j : Nat) (h : j < ms.length), j < k' → late day (ms[j]'h) = false from ⟨k, hlt, rfl, hp, HZ.out⟩)
        have hd : (ms[k]'hlt).day ≤ day := by simpa [late] using hp
        have hdb : decide ((ms[k]'hlt).day ≤ day) = true := by simpa using hd
        generalize ms[k]'hlt = m at *
        clear hp hd
        go_wp2_with fail
        refine (diffDel m g day _ ((HX.out.cell (p := ⟨g, 0, none⟩) hg).trans HC.out) (Nat.lt_of_lt_of_le hg HX.out.size)).mono ?_
        rintro e w1 ⟨rfl, hx1⟩
        rw [hdb]
        clear hdb
        go_wp2_with fail
        go_ret
        obtain ⟨k', hk', rfl, h1, h2⟩ := HP.out
        exact ⟨HX.out.trans hx1, .inr ⟨k', hk', rfl, h1, h2⟩⟩
      · have hpf : late day (ms[k]'hlt) = false := by simpa using hp
        have HZ2 : Hid (∀ (j : Nat) (h : j < ms.length), j < k + 1 → late day (ms[j]'h) = false) := Lib.hid (fun j h hj => by
          rcases Nat.lt_or_ge j k with h1 | h1
          · exact HZ.out j h h1
          · obtain rfl : j = k := by omega
            exact hpf)
        have hdb : decide ((ms[k]'hlt).day ≤ day) = false := hpf
        generalize ms[k]'hlt = m at *
        clear hp hpf
        go_wp2_with fail
        refine (diffDel m g day _ ((HX.out.cell (p := ⟨g, 0, none⟩) hg).trans HC.out) (Nat.lt_of_lt_of_le hg HX.out.size)).mono ?_
        rintro e w1 ⟨rfl, hx1⟩
        rw [hdb]
        clear hdb
        go_wp2_with fail
        exact ⟨⟨k + 1, by omega, by go_num, HZ2.out, HX.out.trans hx1⟩, by simp [intOf]; omega⟩
    · go_wp2_with fail
      go_ret
      exact ⟨HX.out, .inl ⟨rfl, fun j h => HZ.out j h (by omega)⟩⟩
end Go.Proofs.YteeampgbmpolfaaGreatDoor

/- The walk over the library's slices.DeleteFunc at movements. -/
namespace Go.Proofs.YteeampgbmpolfaaGreatDoor
open Go.RowKit
attribute [local go_sem] size_bs toList_bs

def DelFEnds (base : Nat) (L : List Mv) (w : World) (e : Ending) (w' : World) : Prop :=
  ∃ A c, e = .returned (.slice A L.length c) ∧ RdM w' A L ∧ Below base w w'
def DelRel (p : Mv → Bool) (ms : List Mv) (base g cap : Nat) (w : World) (vj vi : Value) (wr : World) : Prop :=
  ∃ (i j : Nat) (R : List Mv) (cur : List Value), vj = .int .i64 j ∧ vi = .int .i64 i ∧ DelAt p ms R i j ∧ Row wr g 50 5 ms.length cap (mcells R) cur ∧ Below base w wr ∧ w.heap.size ≤ wr.heap.size
theorem below_sets {base g : Nat} (hg : base ≤ g) : ∀ (vs : List Value) (o : Nat) (a w : World), Below base a w → Below base a (w.setCells g o vs)
  | [], _, _, _, h => h
  | v :: r, o, a, w, h => below_sets hg r (o + 1) a (w.setCell ⟨g, o, none⟩ v) (h.setCell (p := ⟨g, o, none⟩) hg v)
theorem mcells_take (R : List Mv) (i : Nat) (h : i ≤ R.length) : (mcells R).take (i * 5) = mcells (R.take i) := by
  have hl : (mcells (R.take i)).length = i * 5 := by rw [mcells_len, List.length_take]; congr 1; omega
  conv => lhs; rw [← List.take_append_drop i R]
  rw [show mcells (R.take i ++ R.drop i) = mcells (R.take i) ++ mcells (R.drop i) from List.flatMap_append, List.take_left' hl]
theorem zero_one (z : Array Value) (hp : 0 < z.size) (hz : ∀ k, k < z.size → (z[k]!).oneCell' = true) (n : Nat) : ∀ u ∈ (Builtin.zeroCells z n).toList, u.oneCell' = true := by
  intro u hu
  rw [Array.mem_toList_iff] at hu
  unfold Builtin.zeroCells at hu
  obtain ⟨i, _, rfl⟩ := Array.mem_map.1 hu
  exact hz _ (Nat.mod_lt _ hp)
set_option maxRecDepth 100000 in
set_option maxHeartbeats 2000000 in
theorem deleteFuncM (ms : List Mv) (A : Option Addr) (c base g : Nat) (day : Int) (w : World) (hown : w.ownsRow base 50 5 (.slice A ms.length c) ms.length (mcells ms)) (hn : ms.length ≤ 1000000) (hb : base ≤ w.heap.size) (hc : w.cell? ⟨g, 0, none⟩ = some (.int .i64 day)) (hg : g < base) :
    Calls Tryz.prog 35 #[.slice A ms.length c, .func (.func 36) #[] #[.pointer (some ⟨g, 0, none⟩)]] w (DelFEnds base (ms.filter fun m => !(late day m)) w) := by
  have HOW := Lib.hid hown
  have HC := Lib.hid hc
  have hcap := own_cap hown
  clear hown hc
  go_enter Tryz.func35, Tryz.ntmps35
  go_wp2_with fail
  refine (indexM ms A c g day _ (Reads.own HOW.out) hn HC.out (by omega)).mono ?_
  rintro e w1 ⟨hx1, (⟨rfl, hno⟩ | ⟨k, hk, rfl, hp, hlow⟩)⟩
  · have HF : Hid (ms.filter (fun m => !(late day m)) = ms) := Lib.hid (by
      rw [List.filter_eq_self]
      intro m hm
      obtain ⟨j, hj, rfl⟩ := List.getElem_of_mem hm
      rw [hno j hj]; rfl)
    clear hno
    have HX1 := Lib.hid hx1
    clear hx1
    go_wp2_with fail
    go_ret
    exact ⟨A, c, by rw [HF.out]; rfl, by rw [HF.out]; exact (show RdM w A ms from Reads.own HOW.out).ext HX1.out, HX1.out.mono hb⟩
  · have HX1 := Lib.hid hx1
    have HD0 := Lib.hid (DelAt.start hk hp hlow)
    clear hx1 hp hlow
    obtain ⟨gr, cap, e1, hgr, hlt⟩ := HOW.out.form (by omega)
    injection e1 with e1 _ e3
    subst e1; subst e3
    obtain ⟨hgb, cur0, hrow0⟩ := Row.of_own HOW.out
    have HR0 := Lib.hid (hrow0.ext HX1.out)
    clear hrow0
    have hkb : ((k : Int) == -1) = false := by rw [beq_eq_false_iff_ne]; omega
    obtain ⟨i0, hI, hz0, hz1, hz2⟩ := info_parts movInfo
    have hgg : g ≠ gr := by omega
    go_wp2_with fail
    go_loopw [6, 5, 7] (fun vj vi _ wr => DelRel (late day) ms base gr c w vj vi wr) (fun vj _ _ _ => ms.length - (intOf vj).toNat)
    case atStart => exact ⟨k, k + 1, ms, cur0, by first | rfl | go_num, rfl, HD0.out, HR0.out, HX1.out.mono hb, HX1.out.size⟩
    case round =>
      clear HR0 HD0 HX1
      obtain ⟨i, j, R, cur, rfl, rfl, hD, hR, hbl, hsz⟩ := hrel
      have HD := Lib.hid hD
      have HR := Lib.hid hR
      have HB := Lib.hid hbl
      have hij := hD.lt
      have hjn := hD.le
      have hRl := hD.len
      clear hD hR hbl
      by_cases hlt2 : j < ms.length
      · obtain ⟨hjR, ejR⟩ := HD.out.at_ hlt2
        obtain ⟨b1, o1, e1, _, c0, c1, c2, c3, c4⟩ := (show RdM wr (some ⟨gr, 0, none⟩) R by unfold RdM; rw [hRl]; exact HR.out.reads).at_ hjR
        injection e1 with e1
        injection e1 with e1 e2
        subst e1; subst e2
        rw [ejR] at c0 c1 c2 c3 c4
        simp only [Nat.zero_add] at c0 c1 c2 c3 c4
        clear ejR
        by_cases hp : late day (ms[j]'hlt2) = true
        · have HD2 := Lib.hid (HD.out.drop_ hlt2 hp)
          have hdb : decide ((ms[j]'hlt2).day ≤ day) = true := hp
          generalize ms[j]'hlt2 = m at *
          clear hp
          go_wp2_with fail
          refine (diffDel m g day _ (((Ext.new wr _).cell (p := ⟨g, 0, none⟩) (by show g < _; omega)).trans ((HB.out.cell (p := ⟨g, 0, none⟩) hg).trans HC.out)) (by simp; omega)).mono ?_
          rintro e w2 ⟨rfl, hx2⟩
          rw [hdb]
          clear hdb
          have HX2 := Lib.hid (Ext.of_alloc hx2)
          clear hx2
          go_wp2_with fail
          exact ⟨⟨i, j + 1, R, cur, by go_num, rfl, HD2.out, HR.out.ext HX2.out, HB.out.trans (HX2.out.mono (by omega)), by have := HX2.out.size; omega⟩, by simp [intOf]; omega⟩
        · have hpf : late day (ms[j]'hlt2) = false := by simpa using hp
          have HD2 := Lib.hid (HD.out.keep_ hlt2 hpf)
          have hdb : decide ((ms[j]'hlt2).day ≤ day) = false := hpf
          generalize ms[j]'hlt2 = m at *
          clear hp hpf
          have HBV := Lib.hid (Blk.new wr 50 #[.string (bs m.ref), .int .i64 m.day, .string (bs m.ins), .string (bs m.qty), .string (bs m.amt)])
          go_wp2_with fail
          refine (diffDel m g day _ (((Ext.new wr _).cell (p := ⟨g, 0, none⟩) (by show g < _; omega)).trans ((HB.out.cell (p := ⟨g, 0, none⟩) hg).trans HC.out)) (by simp; omega)).mono ?_
          rintro e w2 ⟨rfl, hx2⟩
          rw [hdb]
          clear hdb
          have hbv := HBV.out.ext hx2
          have v0 := hbv.cell 0
          have v1 := hbv.cell 1
          have v2 := hbv.cell 2
          have v3 := hbv.cell 3
          have v4 := hbv.cell 4
          simp only [List.getElem?_toArray, List.getElem?_cons_zero, List.getElem?_cons_succ] at v0 v1 v2 v3 v4
          have hvg : wr.heap.size ≠ gr := by have := HR.out.blk.lt; omega
          have HX2 := Lib.hid (Ext.of_alloc hx2)
          have HR2 := Lib.hid (HR.out.ext HX2.out)
          clear hx2 hbv c0 c1 c2 c3 c4
          have hiR : i < R.length := by omega
          obtain ⟨b2, o2, e2, hb2, c0, c1, c2, c3, c4⟩ := (show RdM w2 (some ⟨gr, 0, none⟩) R by unfold RdM; rw [hRl]; exact HR2.out.reads).at_ hiR
          injection e2 with e2
          injection e2 with e3 e4
          subst e3; subst e4
          have f0 := HR2.out.frozen (0 + i * 5)
          have f1 := HR2.out.frozen (0 + i * 5 + 1)
          have f2 := HR2.out.frozen (0 + i * 5 + 2)
          have f3 := HR2.out.frozen (0 + i * 5 + 3)
          have f4 := HR2.out.frozen (0 + i * 5 + 4)
          simp only [Nat.zero_add] at c0 c1 c2 c3 c4 f0 f1 f2 f3 f4
          have HR3 := Lib.hid (HR2.out.setM i m (by omega) hRl)
          go_wp2_with fail
          exact ⟨⟨i + 1, j + 1, R.set i m, _, by go_num, by go_num, HD2.out, HR3.out, below_sets hgb (mcells [m]) (i * 5) w w2 (HB.out.trans (HX2.out.mono (by omega))), by have := HX2.out.size; simp [World.setCell]; omega⟩, by simp [intOf]; omega⟩
      · have hjl : j = ms.length := by omega
        subst hjl
        clear hlt2
        have hfin : ms.filter (fun m => !(late day m)) = R.take i := by have := HD.out.front; rw [List.take_length] at this; exact this.symm
        have hfl : (ms.filter (fun m => !(late day m))).length = i := by have := HD.out.num; rw [List.take_length] at this; exact this
        obtain ⟨zs, hzs⟩ : ∃ zs : List Value, (Builtin.zeroCells (Value.agg #[.string ⟨#[]⟩, .int .i64 0, .string ⟨#[]⟩, .string ⟨#[]⟩, .string ⟨#[]⟩]).cells (ms.length - i)).toList = zs := ⟨_, rfl⟩
        have hzl : zs.length = (ms.length - i) * 5 := by rw [← hzs]; simp [Builtin.zeroCells, Value.cells]
        have hzo : ∀ u ∈ zs, u.oneCell' = true := by
          rw [← hzs]
          exact zero_one _ (by decide) (fun k hk => by
            have hk5 : k < 5 := hk
            match k, hk5 with
            | 0, _ => rfl
            | 1, _ => rfl
            | 2, _ => rfl
            | 3, _ => rfl
            | 4, _ => rfl) _
        have hcl : ∀ ty, (Builtin.clear_ #[24] ty #[.slice (some ⟨gr, i * 5, none⟩) (ms.length - i) (c - i)]).run Tryz.prog wr = .ok (.tuple #[]) (wr.setCells gr (i * 5) zs) := fun ty =>
          run_clear_k _ _ _ ty _ _ Tryz.underlying24 Tryz.zeroValue50 gr (i * 5) (ms.length - i) (c - i) (by omega) hzs hzo (fun q hq => HR.out.isSome_ (by rw [hzl] at hq; omega)) (fun q _ => HR.out.frozen _)
        have HRF := Lib.hid (HR.out.put zs (i * 5) (by rw [hzl]; omega) (n' := i) (xs' := mcells (R.take i)) (by omega) (by rw [mcells_len, List.length_take]; omega) (by
          rw [splice_tail _ _ _ _ (Nat.le_refl _) (by rw [HR.out.full]; omega), take_le HR.out.take (by omega), mcells_take R i (by omega)]))
        have HFIN := Lib.hid hfin
        have HFL := Lib.hid hfl
        have HBF := Lib.hid (below_sets hgb zs (i * 5) w wr HB.out)
        have hci : ¬ c = i := by omega
        have hin : i ≤ ms.length := by omega
        clear hfin hfl hzs hzl hzo
        go_wp2_with fail
        go_ret
        refine ⟨some ⟨gr, 0, none⟩, c, by rw [HFL.out]; rfl, ?_, HBF.out⟩
        rw [HFIN.out]
        have hrd := HRF.out.reads
        unfold RdM
        rw [show (R.take i).length = i by rw [List.length_take]; omega]
        exact hrd
end Go.Proofs.YteeampgbmpolfaaGreatDoor

/- The walk over the law StatementDifferences. -/
namespace Go.Proofs.YteeampgbmpolfaaGreatDoor
open Go.RowKit
attribute [local go_sem] size_bs toList_bs

theorem hold_ok {s : St} (h : checkS s = 0) (n : Bs) : holdQ s n = heldQ s.hs n ∧ holdE s = 0 := by
  unfold holdQ holdE; rw [if_pos h, if_pos h]; exact ⟨rfl, rfl⟩
theorem late_bet (day : Int) (ms : List Mv) : ms.filter (fun m => !(late day m)) = betM day ms := by
  unfold betM
  congr 1
  funext m
  unfold late
  rw [Bool.eq_iff_iff]; simp
theorem betV_short {a b : St} (ha : ShortQ a.hs) (hb : ShortQ b.hs) (x : Hd) (hx : x ∈ (betS a b).hs) : x.qty.length ≤ 1100 := by
  obtain ⟨_, h2, _⟩ := betH_mem hx
  rw [h2]; exact chg_len ha hb
/-- how the law's statements lie in memory: a, b, and what lies between -/
structure DfAt (a b v : St) (A B : Option Addr) (c d : Nat) (A' B' : Option Addr) (c' d' : Nat) (A1 B1 : Option Addr) (c1 d1 : Nat) (g gx : Nat) (w W : World) : Prop where
  ext : Ext w W
  ba : Blk W g 26 #[.int .i64 a.day, .slice A a.hs.length c, .slice B a.ms.length d]
  bb : Blk W (g + 1) 26 #[.int .i64 b.day, .slice A' b.hs.length c', .slice B' b.ms.length d']
  bx : Blk W gx 26 #[.int .i64 v.day, .slice A1 v.hs.length c1, .slice B1 v.ms.length d1]
  r1 : RdH W A1 v.hs
  r2 : RdM W B1 v.ms
section
variable {a b v : St} {A B : Option Addr} {c d : Nat} {A' B' : Option Addr} {c' d' : Nat} {A1 B1 : Option Addr} {c1 d1 : Nat} {g gx : Nat} {w W W' : World}
theorem DfAt.fwd (h : DfAt a b v A B c d A' B' c' d' A1 B1 c1 d1 g gx w W) (hx : Ext W W') : DfAt a b v A B c d A' B' c' d' A1 B1 c1 d1 g gx w W' :=
  ⟨h.ext.trans hx, h.ba.ext hx, h.bb.ext hx, h.bx.ext hx, h.r1.ext hx, h.r2.ext hx⟩
theorem DfAt.cells (h : DfAt a b v A B c d A' B' c' d' A1 B1 c1 d1 g gx w W) :
    W.cell? ⟨g, 0, none⟩ = some (.int .i64 a.day) ∧ W.cell? ⟨g, 1, none⟩ = some (.slice A a.hs.length c) ∧ W.cell? ⟨g, 2, none⟩ = some (.slice B a.ms.length d) ∧
    W.cell? ⟨g + 1, 0, none⟩ = some (.int .i64 b.day) ∧ W.cell? ⟨g + 1, 1, none⟩ = some (.slice A' b.hs.length c') ∧ W.cell? ⟨g + 1, 2, none⟩ = some (.slice B' b.ms.length d') ∧
    W.cell? ⟨gx, 0, none⟩ = some (.int .i64 v.day) ∧ W.cell? ⟨gx, 1, none⟩ = some (.slice A1 v.hs.length c1) ∧ W.cell? ⟨gx, 2, none⟩ = some (.slice B1 v.ms.length d1) :=
  ⟨h.ba.cell 0, h.ba.cell 1, h.ba.cell 2, h.bb.cell 0, h.bb.cell 1, h.bb.cell 2, h.bx.cell 0, h.bx.cell 1, h.bx.cell 2⟩
end
set_option maxRecDepth 100000 in
set_option maxHeartbeats 500000 in
theorem lawDiff (a b : St) (A B : Option Addr) (c d : Nat) (A' B' : Option Addr) (c' d' : Nat) (w : World) (hA : RdH w A a.hs) (hB : RdM w B a.ms) (hA' : RdH w A' b.hs) (hB' : RdM w B' b.ms) (hn : a.hs.length ≤ 4611686018427387904) (hm : a.ms.length ≤ 4611686018427387904) (hn' : b.hs.length ≤ 4611686018427387904) (hm' : b.ms.length ≤ 4611686018427387904) (hE : Env w) :
    Calls Tryz.prog 8 #[.agg #[.int .i64 a.day, .slice A a.hs.length c, .slice B a.ms.length d], .agg #[.int .i64 b.day, .slice A' b.hs.length c', .slice B' b.ms.length d']] w fun e w' => e = .returned (.bool true) ∧ Ext w w' := by
  have HE := Lib.hid hE
  have HA := Lib.hid hA
  have HB := Lib.hid hB
  have HA' := Lib.hid hA'
  have HB' := Lib.hid hB'
  clear hE hA hB hA' hB'
  obtain ⟨W0, hW0⟩ : ∃ W0 : World, W0 = (w.alloc (.cells #[.int .i64 a.day, .slice A a.hs.length c, .slice B a.ms.length d] 26)).alloc (.cells #[.int .i64 b.day, .slice A' b.hs.length c', .slice B' b.ms.length d'] 26) := ⟨_, rfl⟩
  have HX : Hid (Ext w W0) := Lib.hid (by rw [hW0]; exact (Ext.new _ _).alloc _)
  have HBa : Hid (Blk W0 w.heap.size 26 #[.int .i64 a.day, .slice A a.hs.length c, .slice B a.ms.length d]) := Lib.hid (by rw [hW0]; exact (Blk.new _ _ _).alloc _)
  have HBb : Hid (Blk W0 (w.heap.size + 1) 26 #[.int .i64 b.day, .slice A' b.hs.length c', .slice B' b.ms.length d']) := Lib.hid (by rw [hW0]; exact blkAt _ _ _ _ (by simp))
  go_enter Tryz.func8, Tryz.ntmps8
  go_wp2_with fail
  rw [← hW0]
  clear hW0
  refine (refGreat a A B c d _ (HA.out.ext HX.out) (HB.out.ext HX.out) hn hm).mono ?_
  rintro e w1 ⟨hx1, (⟨hg, rfl⟩ | ⟨hg, rfl⟩)⟩
  · replace HX := Lib.hid (HX.out.trans hx1)
    clear hx1 hg HBa HBb
    go_wp2_with fail
    refine (lawAwake _ (HE.out.ext HX.out)).mono ?_
    rintro e w2 ⟨rfl, hx2⟩
    go_wp2_with fail
    go_ret
    exact ⟨rfl, HX.out.trans hx2⟩
  have HSa := Lib.hid (small_of_great hg)
  have HQa := Lib.hid (short_of_great hg)
  replace HX := Lib.hid (HX.out.trans hx1)
  replace HBa := Lib.hid (HBa.out.ext hx1)
  replace HBb := Lib.hid (HBb.out.ext hx1)
  have q0 := HBb.out.cell 0
  have q1 := HBb.out.cell 1
  have q2 := HBb.out.cell 2
  simp only [List.getElem?_toArray, List.getElem?_cons_zero, List.getElem?_cons_succ] at q0 q1 q2
  clear hx1 hg
  go_wp2_with fail
  refine (refGreat b A' B' c' d' _ (HA'.out.ext HX.out) (HB'.out.ext HX.out) hn' hm').mono ?_
  rintro e w2 ⟨hx1, (⟨hg, rfl⟩ | ⟨hg, rfl⟩)⟩
  · replace HX := Lib.hid (HX.out.trans hx1)
    clear hx1 hg HBa HBb q0 q1 q2
    go_wp2_with fail
    refine (lawAwake _ (HE.out.ext HX.out)).mono ?_
    rintro e w2 ⟨rfl, hx2⟩
    go_wp2_with fail
    go_ret
    exact ⟨rfl, HX.out.trans hx2⟩
  have HSb := Lib.hid (small_of_great hg)
  have HQb := Lib.hid (short_of_great hg)
  replace HX := Lib.hid (HX.out.trans hx1)
  replace HBa := Lib.hid (HBa.out.ext hx1)
  replace HBb := Lib.hid (HBb.out.ext hx1)
  clear hx1 hg q0 q1 q2
  have p0 := HBa.out.cell 0
  have p1 := HBa.out.cell 1
  have p2 := HBa.out.cell 2
  simp only [List.getElem?_toArray, List.getElem?_cons_zero, List.getElem?_cons_succ] at p0 p1 p2
  go_wp2_with fail
  refine (refCheckS a A B c d _ (HA.out.ext HX.out) (HB.out.ext HX.out) HSa.out).mono ?_
  rintro e w3 ⟨rfl, hx1⟩
  replace HX := Lib.hid (HX.out.trans hx1)
  replace HBa := Lib.hid (HBa.out.ext hx1)
  replace HBb := Lib.hid (HBb.out.ext hx1)
  clear hx1 p0 p1 p2
  by_cases hca : checkS a = 0
  rotate_left
  · have hcb : (checkS a != 0) = true := by simpa using hca
    clear hca
    go_wp2_with fail
    refine (lawAwake _ (HE.out.ext HX.out)).mono ?_
    rintro e w2 ⟨rfl, hx2⟩
    go_wp2_with fail
    go_ret
    exact ⟨rfl, HX.out.trans hx2⟩
  rw [hca]
  have HCa := Lib.hid hca
  clear hca
  have q0 := HBb.out.cell 0
  have q1 := HBb.out.cell 1
  have q2 := HBb.out.cell 2
  simp only [List.getElem?_toArray, List.getElem?_cons_zero, List.getElem?_cons_succ] at q0 q1 q2
  go_wp2_with fail
  refine (refCheckS b A' B' c' d' _ (HA'.out.ext HX.out) (HB'.out.ext HX.out) HSb.out).mono ?_
  rintro e w4 ⟨rfl, hx1⟩
  replace HX := Lib.hid (HX.out.trans hx1)
  replace HBa := Lib.hid (HBa.out.ext hx1)
  replace HBb := Lib.hid (HBb.out.ext hx1)
  clear hx1 q0 q1 q2
  by_cases hcb : checkS b = 0
  rotate_left
  · have hcbb : (checkS b != 0) = true := by simpa using hcb
    clear hcb
    go_wp2_with fail
    refine (lawAwake _ (HE.out.ext HX.out)).mono ?_
    rintro e w2 ⟨rfl, hx2⟩
    go_wp2_with fail
    go_ret
    exact ⟨rfl, HX.out.trans hx2⟩
  rw [hcb]
  have HCb := Lib.hid hcb
  clear hcb
  have p0 := HBa.out.cell 0
  have p1 := HBa.out.cell 1
  have p2 := HBa.out.cell 2
  simp only [List.getElem?_toArray, List.getElem?_cons_zero, List.getElem?_cons_succ] at p0 p1 p2
  have HSF := Lib.hid (fun W h1 h2 h3 => stBetween a a A B c d A B c d W h1 h2 h1 h2 HSa.out HSa.out HQa.out HQa.out h3)
  rw [(bet_self HCa.out).1, (bet_self HCa.out).2] at HSF
  go_wp2_with fail
  refine (HSF.out _ (HA.out.ext HX.out) (HB.out.ext HX.out) (HE.out.ext HX.out)).mono ?_
  rintro e w5 ⟨A0, c0, B0, d0, rfl, _, _, hx1⟩
  replace HX := Lib.hid (HX.out.trans hx1)
  replace HBa := Lib.hid (HBa.out.ext hx1)
  replace HBb := Lib.hid (HBb.out.ext hx1)
  clear hx1 p0 p1 p2 HSF
  have p0 := HBa.out.cell 0
  have p1 := HBa.out.cell 1
  have p2 := HBa.out.cell 2
  have q0 := HBb.out.cell 0
  have q1 := HBb.out.cell 1
  have q2 := HBb.out.cell 2
  simp only [List.getElem?_toArray, List.getElem?_cons_zero, List.getElem?_cons_succ] at p0 p1 p2 q0 q1 q2
  have hl5 := HBa.out.lt
  have hl6 := HBb.out.lt
  have HSB := Lib.hid (fun W h1 h2 h3 h4 h5 => stBetween a b A B c d A' B' c' d' W h1 h2 h3 h4 HSa.out HSb.out HQa.out HQb.out h5)
  have HLN := Lib.hid (betV_len a b HSa.out.hn HSb.out.hn HSb.out.mn)
  have hcases := bet_cases HCa.out HCb.out
  have hla : a.hs.length ≤ 64 := (checkH_zero (checkS_zero.1 HCa.out).2.1).1
  have hlb : b.hs.length ≤ 64 := (checkH_zero (checkS_zero.1 HCb.out).2.1).1
  have hlm : b.ms.length ≤ 1000 := (checkM_zero (checkS_zero.1 HCb.out).2.2).1
  have HBSm := Lib.hid (bet_small HSa.out HSb.out HQa.out HQb.out (by omega) (by omega))
  simp only [List.length_nil]
  go_wp2_with fail
  refine (HSB.out _ (HA.out.ext (HX.out.alloc _)) (HB.out.ext (HX.out.alloc _)) (HA'.out.ext (HX.out.alloc _)) (HB'.out.ext (HX.out.alloc _)) (HE.out.ext (HX.out.alloc _))).mono ?_
  rintro e w6 ⟨A1, c1, B1, d1, rfl, hr1, hr2, hx1⟩
  have HC : Hid (DfAt a b (betV a b) A B c d A' B' c' d' A1 B1 c1 d1 w.heap.size w6.heap.size w (w6.alloc (.cells #[.int .i64 (betV a b).day, .slice A1 (betV a b).hs.length c1, .slice B1 (betV a b).ms.length d1] 26))) := Lib.hid ⟨((HX.out.alloc _).trans hx1).alloc _, ((HBa.out.alloc _).ext hx1).alloc _, ((HBb.out.alloc _).ext hx1).alloc _, Blk.new _ _ _, hr1.ext (Ext.new _ _), hr2.ext (Ext.new _ _)⟩
  have hgx : w.heap.size + 1 < w6.heap.size := by have := hx1.size; simp at this; omega
  have hgx0 : w.heap.size < w6.heap.size := by omega
  have hba6 := (HBa.out.alloc (.cells #[.int .i64 a.day, .slice A0 0 c0, .slice B0 0 d0] 26)).ext hx1
  have hbb6 := (HBb.out.alloc (.cells #[.int .i64 a.day, .slice A0 0 c0, .slice B0 0 d0] 26)).ext hx1
  clear hx1 hr1 hr2 p0 p1 p2 q0 q1 q2 HX HBa HBb HSB hl5 hl6
  have p0 := hba6.cell 0
  have p1 := hba6.cell 1
  have p2 := hba6.cell 2
  have q0 := hbb6.cell 0
  have q1 := hbb6.cell 1
  have q2 := hbb6.cell 2
  simp only [List.getElem?_toArray, List.getElem?_cons_zero, List.getElem?_cons_succ] at p0 p1 p2 q0 q1 q2
  clear hba6 hbb6
  rcases hcases with ⟨hd, hv, he⟩ | ⟨hd, hv, he⟩ | ⟨hd, hv, he, hck⟩
  · rw [he]
    clear hv he
    generalize betV a b = v at *
    go_wp2_with fail
    refine (lawAwake _ (HE.out.ext HC.out.ext)).mono ?_
    rintro e w9 ⟨rfl, hx9⟩
    go_wp2_with fail
    go_ret
    exact ⟨rfl, HC.out.ext.trans hx9⟩
  · rw [he]
    clear hv he
    generalize betV a b = v at *
    have hdb : ¬ b.day < a.day := by omega
    go_wp2_with fail
    refine (lawAwake _ (HE.out.ext HC.out.ext)).mono ?_
    rintro e w9 ⟨rfl, hx9⟩
    go_wp2_with fail
    go_ret
    exact ⟨rfl, HC.out.ext.trans hx9⟩
  · rw [he]
    rw [hv] at HC HLN ⊢
    have HCx := Lib.hid hck
    have hdb : decide (b.day < a.day) = false := by simp; omega
    have HHA := Lib.hid (fun n => hold_ok HCa.out n)
    have HHB := Lib.hid (fun n => hold_ok HCb.out n)
    have HHX := Lib.hid (fun n => hold_ok HCx.out n)
    have HSUM := Lib.hid (fun n h => held_sum (a := a) (b := b) HCb.out (n := n) h)
    have HMEM : Hid (∀ x ∈ cat [(A, c, a.hs), (A', c', b.hs), (A1, c1, (betS a b).hs)], x.ins ∈ insOf a.hs ∨ x.ins ∈ insOf b.hs) := Lib.hid (by
      intro x hx
      simp only [cat, List.flatMap_cons, List.flatMap_nil, List.append_nil, List.mem_append] at hx
      rcases hx with hx | hx | hx
      · exact .inl (List.mem_map_of_mem hx)
      · exact .inr (List.mem_map_of_mem hx)
      · exact bet_ins hx)
    have hlx : (betS a b).hs.length ≤ 128 := by
      have h1 := betH_len a.hs b.hs (unionN (insOf a.hs) (insOf b.hs))
      have h3 := union_len (insOf a.hs) (insOf b.hs)
      rw [insOf_len, insOf_len] at h3
      show (betH _ _ _).length ≤ _
      omega
    have HMS : Hid ((betS a b).ms = betM a.day b.ms) := Lib.hid rfl
    have HDY : Hid ((betS a b).day = b.day) := Lib.hid rfl
    have HQX := Lib.hid (fun n => show (heldQ (betS a b).hs n).length ≤ 1100 from by
      by_cases h0 : heldQ (betS a b).hs n = []
      · rw [h0]; simp
      · obtain ⟨x, hx, e⟩ := heldQ_mem h0
        rw [← e]; exact betV_short HQa.out HQb.out x hx)
    clear hv he hck hd
    generalize betS a b = v at *
    go_wp2_with fail
    clear p0 p1 p2 q0 q1 q2
    have HWS : Hid ((w6.alloc (.cells #[.int .i64 v.day, .slice A1 v.hs.length c1, .slice B1 v.ms.length d1] 26)).heap.size = w6.heap.size + 1) := Lib.hid (by simp)
    generalize w6.alloc (.cells #[.int .i64 v.day, .slice A1 v.hs.length c1, .slice B1 v.ms.length d1] 26) = W at *
    generalize w6.heap.size = gx at *
    generalize w.heap.size = g at *
    have HPR : Hid (Reads (W.alloc (.cells #[.slice A a.hs.length c, .slice A' b.hs.length c', .slice A1 v.hs.length c1] 23)) 1 (some ⟨gx + 1, 0, none⟩) 3 (pcells [(A, c, a.hs), (A', c', b.hs), (A1, c1, v.hs)])) := Lib.hid (Reads.litAt rfl HWS.out)
    replace HC := Lib.hid (HC.out.fwd (Ext.new W (.cells #[.slice A a.hs.length c, .slice A' b.hs.length c', .slice A1 v.hs.length c1] 23)))
    generalize W.alloc (.cells #[.slice A a.hs.length c, .slice A' b.hs.length c', .slice A1 v.hs.length c1] 23) = W2 at *
    have hcl : (cat [(A, c, a.hs), (A', c', b.hs), (A1, c1, v.hs)]).length ≤ 256 := by simp [cat]; omega
    refine (concatH [(A, c, a.hs), (A', c', b.hs), (A1, c1, v.hs)] (some ⟨gx + 1, 0, none⟩) 3 _ HPR.out (by
      intro p hp
      simp at hp
      rcases hp with rfl | rfl | rfl
      · exact HA.out.ext HC.out.ext
      · exact HA'.out.ext HC.out.ext
      · exact HC.out.r1) (by simp) (by omega)).mono ?_
    rintro e W3 ⟨A3, c3, rfl, hrd3, hx3⟩
    have HR3 := Lib.hid hrd3
    replace HC := Lib.hid (HC.out.fwd hx3)
    clear hx3 hrd3 HPR
    generalize cat [(A, c, a.hs), (A', c', b.hs), (A1, c1, v.hs)] = both at *
    go_wp2_with fail
    have HC0 := Lib.hid (And.intro HC.out (Ext.refl W3))
    go_loopw [94, 9, 10, 11, 12, 13, 14, 15, 16, 17, 18] (fun i _ _ _ _ _ _ _ _ _ _ wr => ∃ k : Nat, k ≤ both.length ∧ i = .int .i64 k ∧ DfAt a b v A B c d A' B' c' d' A1 B1 c1 d1 g gx w wr ∧ Ext W3 wr) (fun i _ _ _ _ _ _ _ _ _ _ _ => both.length - (intOf i).toNat)
    case atStart => exact ⟨0, by omega, rfl, HC0.out⟩
    case round =>
      clear HC HC0
      obtain ⟨k, hk, rfl, hc, hx⟩ := hrel
      have HC := Lib.hid hc
      have HX := Lib.hid hx
      clear hc hx
      obtain ⟨z0, z1, z2, z3, z4, z5, z6, z7, z8⟩ := HC.out.cells
      by_cases hlt : k < both.length
      · obtain ⟨bb, oo, rfl, hbb, hc1, hc2⟩ := (HR3.out.ext HX.out).at_ hlt
        have HSM := Lib.hid (HSUM.out _ (HMEM.out _ (List.getElem_mem hlt)))
        generalize both[k]'hlt = h at *
        have hga := HC.out.ba.lt
        have hgb := HC.out.bb.lt
        have hgc := HC.out.bx.lt
        have HBV := Lib.hid (Blk.new wr 45 #[.string (bs h.ins), .string (bs h.qty)])
        go_wp2_with fail
        have HX1 := Lib.hid (HX.out.alloc (.cells #[.string (bs h.ins), .string (bs h.qty)] 45))
        replace HC := Lib.hid (HC.out.fwd (Ext.new wr (.cells #[.string (bs h.ins), .string (bs h.qty)] 45)))
        refine (stHeld a h.ins A B c d _ (HA.out.ext HC.out.ext) (HB.out.ext HC.out.ext) HSa.out).mono ?_
        rintro e w7 ⟨rfl, hx7⟩
        rw [(HHA.out h.ins).1, (HHA.out h.ins).2]
        replace HC := Lib.hid (HC.out.fwd hx7)
        replace HX1 := Lib.hid (HX1.out.trans hx7)
        have HBV7 := Lib.hid (HBV.out.ext hx7)
        have v0 := HBV7.out.cell 0
        simp only [List.getElem?_toArray, List.getElem?_cons_zero] at v0
        clear hx7 z0 z1 z2 z3 z4 z5 z6 z7 z8 hc1 hc2 HBV
        obtain ⟨z0, z1, z2, z3, z4, z5, z6, z7, z8⟩ := HC.out.cells
        go_wp2_with fail
        refine (stHeld b h.ins A' B' c' d' _ (HA'.out.ext HC.out.ext) (HB'.out.ext HC.out.ext) HSb.out).mono ?_
        rintro e w8 ⟨rfl, hx8⟩
        rw [(HHB.out h.ins).1, (HHB.out h.ins).2]
        replace HC := Lib.hid (HC.out.fwd hx8)
        replace HX1 := Lib.hid (HX1.out.trans hx8)
        have HBV8 := Lib.hid (HBV7.out.ext hx8)
        clear hx8 z0 z1 z2 z3 z4 z5 z6 z7 z8 v0 HBV7
        have v0 := HBV8.out.cell 0
        simp only [List.getElem?_toArray, List.getElem?_cons_zero] at v0
        obtain ⟨z0, z1, z2, z3, z4, z5, z6, z7, z8⟩ := HC.out.cells
        go_wp2_with fail
        refine (stHeld v h.ins A1 B1 c1 d1 _ HC.out.r1 HC.out.r2 HBSm.out).mono ?_
        rintro e w10 ⟨rfl, hx10⟩
        rw [(HHX.out h.ins).1, (HHX.out h.ins).2]
        replace HC := Lib.hid (HC.out.fwd hx10)
        replace HX1 := Lib.hid (HX1.out.trans hx10)
        clear hx10 z0 z1 z2 z3 z4 z5 z6 z7 z8 v0 HBV8
        have HAD := Lib.hid (fun W hW => intAddS (heldQ a.hs h.ins) (heldQ v.hs h.ins) W (by have := heldQ_short HQa.out h.ins; omega) (by have := HQX.out h.ins; omega) hW)
        rw [HSM.out] at HAD
        clear HSM
        generalize heldQ a.hs h.ins = qa at *
        generalize heldQ b.hs h.ins = qb at *
        generalize heldQ v.hs h.ins = qv at *
        go_wp2_with fail
        refine (HAD.out _ (HE.out.ext HC.out.ext)).mono ?_
        rintro e w11 ⟨rfl, hx11⟩
        replace HC := Lib.hid (HC.out.fwd hx11)
        replace HX1 := Lib.hid (HX1.out.trans hx11)
        clear hx11
        go_wp2_with fail
        exact ⟨⟨k + 1, by omega, by go_num, HC.out, HX1.out⟩, by simp [intOf]; omega⟩
      · clear HX
        have hgb := HC.out.bb.lt
        have hga := HC.out.ba.lt
        go_wp2_with fail
        refine (cloneAnyM b.ms B' d' _ (HB'.out.ext HC.out.ext) (by omega)).mono ?_
        rintro e w7 ⟨A7, c7, rfl, hown7, hx7⟩
        have HOW7 := Lib.hid hown7
        have HX7 := Lib.hid hx7
        have HC7 := Lib.hid (HC.out.fwd hx7)
        clear hown7 hx7 z0 z1 z2 z3 z4 z5 z6 z7 z8
        go_wp2_with fail
        refine (deleteFuncM b.ms A7 c7 wr.heap.size g a.day _ HOW7.out (by omega) HX7.out.size (HC7.out.ba.cell 0) hga).mono ?_
        rintro e w8 ⟨A8, c8, rfl, hrd8, hb8⟩
        rw [late_bet] at hrd8 ⊢
        have HR8 := Lib.hid hrd8
        have HC8 := Lib.hid (HC.out.fwd (Below.trans HX7.out hb8))
        clear hrd8 hb8 HC HC7 HX7 HOW7
        obtain ⟨z0, z1, z2, z3, z4, z5, z6, z7, z8⟩ := HC8.out.cells
        have HCHK := Lib.hid (fun W h1 h2 => stCheck v A1 B1 c1 d1 W h1 h2 HBSm.out)
        rw [HCx.out] at HCHK
        have hbl : (betM a.day b.ms).length ≤ 1000 := by
          have h1 : (betM a.day b.ms).length ≤ b.ms.length := List.length_filter_le _ _
          omega
        have hvl : v.ms.length ≤ 1000 := by rw [HMS.out]; exact hbl
        generalize betM a.day b.ms = bm at *
        go_wp2_with fail
        refine (HCHK.out _ HC8.out.r1 HC8.out.r2).mono ?_
        rintro e w9 ⟨rfl, hx9⟩
        have HC9 := Lib.hid (HC8.out.fwd hx9)
        have HR9 := Lib.hid (HR8.out.ext hx9)
        clear hx9 z0 z1 z2 z3 z4 z5 z6 z7 z8 HC8 HR8 HCHK
        obtain ⟨z0, z1, z2, z3, z4, z5, z6, z7, z8⟩ := HC9.out.cells
        rw [HDY.out] at z6
        go_wp2_with fail
        refine (equalM v.ms bm B1 A8 d1 c8 _ HC9.out.r2 HR9.out (by omega) (by omega)).mono ?_
        rintro e w10 ⟨hx10, (⟨hp, rfl⟩ | ⟨hp, rfl⟩)⟩
        · clear hp
          have HX10 := Lib.hid (HC9.out.ext.trans hx10)
          clear hx10 z0 z1 z2 z3 z4 z5 z6 z7 z8
          go_wp2_with fail
          refine (lawAwake _ (HE.out.ext HX10.out)).mono ?_
          rintro e w11 ⟨rfl, hx11⟩
          go_wp2_with fail
          go_ret
          exact ⟨rfl, HX10.out.trans hx11⟩
        · exact absurd HMS.out hp
theorem lawDiffR (a : St) (A B : Option Addr) (c d : Nat) (b : St) (A' B' : Option Addr) (c' d' : Nat) (w : World) (hA : RdH w A a.hs) (hB : RdM w B a.ms) (hn : a.hs.length ≤ 4611686018427387904) (hm : a.ms.length ≤ 4611686018427387904) (hA' : RdH w A' b.hs) (hB' : RdM w B' b.ms) (hn' : b.hs.length ≤ 4611686018427387904) (hm' : b.ms.length ≤ 4611686018427387904) (hE : Env w) :
    Calls Tryz.prog 8 #[.agg #[.int .i64 a.day, .slice A a.hs.length c, .slice B a.ms.length d], .agg #[.int .i64 b.day, .slice A' b.hs.length c', .slice B' b.ms.length d']] w fun e w' => e = .returned (.bool true) ∧ Ext w w' := lawDiff a b A B c d A' B' c' d' w hA hB hA' hB' hn hm hn' hm' hE
end Go.Proofs.YteeampgbmpolfaaGreatDoor
