/- The seat's texts, part 11. -/
import Derived.Test.YthgpheopnhajaaaGreatDoorV10
import Derived.BigQuiet
import Derived.Maps.RangeWalk
import Derived.Maps.OwnSet
import Derived.Deep.MidRow
import Derived.Orders

/- Limits of numbers in facts: digits, between. -/
namespace Go.Proofs.YthgpheopnhajaaaGreatDoor
open Go.RowKit
attribute [local go_sem] size_bs toList_bs
theorem fkTrim (l : Bs) (w : World) :
    Calls Tryz.prog 277 #[.string (bs l), .string ⟨#[45]⟩] w fun e w' => e = .returned (.string (bs (strip l))) ∧ w = w' := by
  refine (Tryz.strings_TrimPrefix (bs l) ⟨#[45]⟩ w).mono ?_
  rintro e w' ⟨rfl, rfl⟩
  refine ⟨?_, rfl⟩
  rw [data_bs]
  have h2 : Lib.trimPrefix l [45] = strip l := by
    unfold Lib.trimPrefix Lib.hasPrefix strip isMin
    cases l with
    | nil => rfl
    | cons c r =>
      have hb : (45 == c) = (c == 45) := BEq.comm
      show (if (45 == c && true) = true then (c :: r).drop 1 else c :: r) = if (c == 45) = true then r else c :: r
      rw [Bool.and_true, hb]
      rfl
  exact congrArg (fun l => Ending.returned (Value.string (bs l))) h2
set_option maxRecDepth 100000 in
set_option maxHeartbeats 1000000 in
theorem fkDigits (l : Bs) (_hl : l.length ≤ 1000000) (w : World) : Calls Tryz.prog 217 #[.string (bs l)] w fun e w' => e = .returned (.int .i64 (digN l : Nat)) ∧ Ext w w' := by
  have HT := Lib.hid (fkTrim l w)
  have hd : digN l = (strip l).length := rfl
  rw [hd]
  generalize strip l = s at *
  clear _hl hd
  go_enter Tryz.func217, Tryz.ntmps217
  go_wp2_with fail
  refine HT.out.mono ?_
  rintro e v0 ⟨rfl, rfl⟩
  go_wp2_with fail
  go_ret
  exact ⟨rfl, Ext.refl _⟩
abbrev limV (g1 g2 : Nat) : Value := .func (.func 216) #[] #[.pointer (some ⟨g1, 0, none⟩), .pointer (some ⟨g2, 0, none⟩)]
/-- what is told of a number -/
def limE (f : Fr) (pos : Bool) : Int :=
  if checkF f ≠ 0 then 1 else if 40 < digN f.num ∨ 40 < digN f.den then 4 else if cmpQ (frQ f) 0 < 0 ∨ (pos = true ∧ cmpQ (frQ f) 0 = 0) then 2 else 0
structure LimF (f : Fr) (pos : Bool) (e : Int) : Prop where
  c : checkF f ≠ 0 → e = 1
  d : checkF f = 0 → 40 < digN f.num ∨ 40 < digN f.den → e = 4
  s : checkF f = 0 → ¬ 40 < digN f.num → ¬ 40 < digN f.den → cmpQ (frQ f) 0 < 0 ∨ (pos = true ∧ cmpQ (frQ f) 0 = 0) → e = 2
  k : checkF f = 0 → ¬ 40 < digN f.num → ¬ 40 < digN f.den → ¬ (cmpQ (frQ f) 0 < 0 ∨ (pos = true ∧ cmpQ (frQ f) 0 = 0)) → e = 0
theorem limF (f : Fr) (pos : Bool) : LimF f pos (limE f pos) := by
  refine ⟨fun a => ?_, fun a b => ?_, fun a b c d => ?_, fun a b c d => ?_⟩
  · unfold limE; rw [if_pos a]
  · unfold limE; rw [if_neg (by simpa using a), if_pos b]
  · unfold limE; rw [if_neg (by simpa using a), if_neg (by omega), if_pos d]
  · unfold limE; rw [if_neg (by simpa using a), if_neg (by omega), if_neg d]
set_option maxRecDepth 100000 in
set_option maxHeartbeats 4000000 in
theorem limOK (f : Fr) (h1 : f.num.length ≤ 9000) (h2 : f.den.length ≤ 9000) (pos : Bool) (g1 g2 : Nat) (w : World) (hE : Env w) (b1 : Blk w g1 4 #[.bool pos]) (b2 : Blk w g2 4 #[.bool false]) :
    Calls Tryz.prog 216 #[fv f, .pointer (some ⟨g1, 0, none⟩), .pointer (some ⟨g2, 0, none⟩)] w fun e w' => e = .returned (.int .i64 (limE f pos)) ∧ Ext w w' := by
  have HE := Lib.hid hE
  have CK := Lib.hid (fracCheckP f (by omega) (by omega))
  have cm := fracCmp f ⟨[], []⟩ (by omega) (by omega) (by simp) (by simp)
  rw [frQ_nilN] at cm
  have CM := Lib.hid cm
  have lf := limF f pos
  have F1 := Lib.hid lf.c
  have F2 := Lib.hid lf.d
  have F3 := Lib.hid lf.s
  have F4 := Lib.hid lf.k
  have D1 := Lib.hid (fun W => fkDigits f.num (by omega) W)
  have D2 := Lib.hid (fun W => fkDigits f.den (by omega) W)
  clear cm lf h1 h2 hE
  generalize limE f pos = res at *
  obtain ⟨n, d⟩ := f
  dsimp only at F1 F2 F3 F4 D1 D2
  generalize checkF ⟨n, d⟩ = ck at *
  generalize digN n = d1 at *
  generalize digN d = d2 at *
  generalize cmpQ (frQ ⟨n, d⟩) 0 = sg at *
  have HV := Lib.hid (Blk.new w 26 #[.string (bs n), .string (bs d)])
  have HX : Hid (Ext w (w.alloc (.cells #[.string (bs n), .string (bs d)] 26))) := Lib.hid (Ext.new _ _)
  have B1 := Lib.hid (b1.ext HX.out)
  have B2 := Lib.hid (b2.ext HX.out)
  clear b1 b2
  go_enter Tryz.func216, Tryz.ntmps216
  obtain ⟨u0, u1, _, _⟩ := frBlk HV.out (Ext.refl _)
  go_wp2_with fail
  refine (CM.out _ (HE.out.ext HX.out)).mono ?_
  rintro e v1 ⟨rfl, hx1⟩
  replace HV := Lib.hid (HV.out.ext hx1)
  replace B1 := Lib.hid (B1.out.ext hx1)
  replace B2 := Lib.hid (B2.out.ext hx1)
  replace HX := Lib.hid (HX.out.trans hx1)
  clear hx1
  clear u0 u1
  obtain ⟨u0, u1, _, _⟩ := frBlk HV.out (Ext.refl _)
  go_wp2_with fail
  refine (CK.out _ (HE.out.ext HX.out)).mono ?_
  rintro e v2 ⟨rfl, hx1⟩
  replace HV := Lib.hid (HV.out.ext hx1)
  replace B1 := Lib.hid (B1.out.ext hx1)
  replace B2 := Lib.hid (B2.out.ext hx1)
  replace HX := Lib.hid (HX.out.trans hx1)
  clear hx1
  clear u0 u1
  obtain ⟨u0, u1, _, _⟩ := frBlk HV.out (Ext.refl _)
  by_cases y1 : ck = 0
  rotate_left
  · have g : (ck != 0) = true := by rw [bne_iff_ne]; exact y1
    have e0 := F1.out y1
    subst e0
    clear F1 F2 F3 F4
    go_wp2_with fail
    go_ret
    exact ⟨rfl, HX.out⟩
  subst y1
  go_wp2_with fail
  refine (D1.out _).mono ?_
  rintro e v4 ⟨rfl, hx1⟩
  replace HV := Lib.hid (HV.out.ext hx1)
  replace B1 := Lib.hid (B1.out.ext hx1)
  replace B2 := Lib.hid (B2.out.ext hx1)
  replace HX := Lib.hid (HX.out.trans hx1)
  clear hx1
  clear u0 u1
  obtain ⟨u0, u1, _, _⟩ := frBlk HV.out (Ext.refl _)
  by_cases y2 : 40 < d1
  · have g : decide ((40 : Int) < (d1 : Int)) = true := by rw [decide_eq_true_iff]; omega
    have e0 := F2.out (by trivial) (.inl y2)
    subst e0
    clear F1 F2 F3 F4
    go_wp2_with fail
    go_ret
    exact ⟨rfl, HX.out⟩
  have g2 : decide ((40 : Int) < (d1 : Int)) = false := by rw [decide_eq_false_iff_not]; omega
  go_wp2_with fail
  refine (D2.out _).mono ?_
  rintro e v6 ⟨rfl, hx1⟩
  replace HV := Lib.hid (HV.out.ext hx1)
  replace B1 := Lib.hid (B1.out.ext hx1)
  replace B2 := Lib.hid (B2.out.ext hx1)
  replace HX := Lib.hid (HX.out.trans hx1)
  clear hx1
  clear u0 u1
  obtain ⟨u0, u1, _, _⟩ := frBlk HV.out (Ext.refl _)
  by_cases y3 : 40 < d2
  · have g : decide ((40 : Int) < (d2 : Int)) = true := by rw [decide_eq_true_iff]; omega
    have e0 := F2.out (by trivial) (.inr y3)
    subst e0
    clear F1 F2 F3 F4
    go_wp2_with fail
    go_ret
    exact ⟨rfl, HX.out⟩
  have g3 : decide ((40 : Int) < (d2 : Int)) = false := by rw [decide_eq_false_iff_not]; omega
  have q1 := B1.out.cell 0
  have q2 := B2.out.cell 0
  simp only [List.getElem?_toArray, List.getElem?_cons_zero] at q1 q2
  by_cases y4 : sg < 0
  · have g4 : decide (sg < 0) = true := decide_eq_true y4
    have e0 := F3.out (by trivial) y2 y3 (.inl y4)
    subst e0
    clear F1 F2 F3 F4
    go_wp2_with fail
    go_quiet (fail)
    go_wp2_with fail
    go_ret
    exact ⟨rfl, HX.out.drewN _⟩
  have g4 : decide (sg < 0) = false := decide_eq_false y4
  cases pos
  · have e0 := F4.out (by trivial) y2 y3 (by simp; omega)
    subst e0
    clear F1 F2 F3 F4
    go_wp2_with fail
    go_quiet (fail)
    go_wp2_with fail
    go_ret
    exact ⟨rfl, HX.out.drewN _⟩
  by_cases y5 : sg = 0
  · have g5 : (sg == 0) = true := by rw [beq_iff_eq]; exact y5
    have e0 := F3.out (by trivial) y2 y3 (.inr ⟨rfl, y5⟩)
    subst e0
    clear F1 F2 F3 F4 y4 y5
    go_wp2_with fail
    go_quiet (fail)
    go_wp2_with fail
    go_ret
    exact ⟨rfl, HX.out.drewN _⟩
  · have g5 : (sg == 0) = false := by rw [beq_eq_false_iff_ne]; exact y5
    have e0 := F4.out (by trivial) y2 y3 (by simp; omega)
    subst e0
    clear F1 F2 F3 F4 y4 y5
    go_wp2_with fail
    go_quiet (fail)
    go_wp2_with fail
    go_ret
    exact ⟨rfl, HX.out.drewN _⟩
set_option maxRecDepth 100000 in
/-- between's closure: two boxed bools behind the heap -/
theorem fkBetween (p q : Bool) (w : World) :
    Calls Tryz.prog 150 #[.bool p, .bool q] w fun e w' => e = .returned (limV w.heap.size (w.heap.size + 1)) ∧ Blk w' w.heap.size 4 #[.bool p] ∧ Blk w' (w.heap.size + 1) 4 #[.bool q] ∧ Ext w w' := by
  have e1 : (w.alloc (.cells #[.bool p] 4)).heap.size = w.heap.size + 1 := Array.size_push ..
  go_enter Tryz.func150, Tryz.ntmps150
  go_wp2_with fail
  go_ret
  exact ⟨rfl, (Blk.new _ _ _).alloc _, Blk.newAt _ _ _ _ e1, (Ext.new _ _).alloc _⟩
end Go.Proofs.YthgpheopnhajaaaGreatDoor

/- The descriptions of the kinds of facts: maps; how one is made. -/
namespace Go.Proofs.YthgpheopnhajaaaGreatDoor
open Go.RowKit
open Go.Maps (Keyed)
attribute [local go_sem] size_bs toList_bs
/-- 'm[k] = v' of a map that is written out -/
theorem wpList_insert_own {H : Type} {P : Program} (w : World) {ops : Array Oper} {rest : List Oper} {o : Oper} {a : Act} {Q : Exit → Act → World → Prop}
    (hg : o.guard = none) (m x v : Operand) (t : TypeId) (hop : o.op = Op.insert t m x v)
    (k e : TypeId) (K : Keyed P k) (ht : P.underlying t = some (.map k e)) (R : Value → Option (DataW H × List MemPlace)) (b n : Nat) (D : DataW H)
    (hm : a.eval m = .map (some b)) (hown : w.ownsMap P k R b n D) (hn : n < maxLen) (key val : Value) (kl : Lit) (hx : a.eval x = key) (hv : a.eval v = val) (hkey : keyOf P k key = some kl)
    (d : DataW H) (ps : List MemPlace) (hval : R val = some (d, ps))
    (hK : ∀ w', w'.ownsMap P k R b (n + 1) (D.put kl d) → w.grownBy w' (some b) → wpList P ops Q rest (a.put o.dst undef) w') :
    wpList P ops Q (o :: rest) a w := by
  refine wpList_plain hg fun K' hK' => ?_
  obtain ⟨w', hrun, r1, r2⟩ := hown.update K ht hn hkey hval
  unfold Oper.wp
  simp [execOp, hop, hm, hx, hv, hrun, Result.andThen]
  exact hK' _ _ (hK w' r1 r2)
theorem keyInt : Keyed Tryz.prog 3 := Go.Maps.int_keyed Tryz.underlying3
/-- a map's elements as they are -/
def RK (v : Value) : Option (DataW Value × List MemPlace) := some (.held v, [])
abbrev MapAt (W : World) (b n : Nat) (D : DataW Value) : Prop := W.ownsMap Tryz.prog 3 RK b n D
theorem MapAt.ext {W W' : World} {b n : Nat} {D : DataW Value} (h : MapAt W b n D) (hx : Ext W W') : MapAt W' b n D :=
  h.kept (row := none) ⟨hx.os, hx.tape, hx.output, hx.size, fun i hi _ => hx.block i hi⟩ (by simp)
theorem MapAt.only {W W' : World} {b n g : Nat} {D : DataW Value} (h : MapAt W b n D) (ho : Only g W W') (hne : b ≠ g) : MapAt W' b n D := h.kept ho (by simpa using hne)

def kcl (word : Bs) (cl : Int) (bits : List Bool) (num : Value) (code : Bool) : List Value := .string (bs word) :: .int .i64 cl :: (bits.map Value.bool ++ [num, .bool code])
abbrev kv (word : Bs) (cl : Int) (bits : List Bool) (num : Value) (code : Bool) : Value := .agg (kcl word cl bits num code).toArray
theorem kcl_set (word : Bs) (cl : Int) (bits : List Bool) (num : Value) (code : Bool) (i : Nat) (u : Bool) (h : i < bits.length) :
    (kcl word cl bits num code).toArray.setIfInBounds (2 + i) (.bool u) = (kcl word cl (bits.set i u) num code).toArray := by
  unfold kcl
  rw [Nat.add_comm 2 i, List.setIfInBounds_toArray, List.set_cons_succ, List.set_cons_succ, List.set_append_left _ _ (by simpa using h), List.map_set]
theorem kcl_at (word : Bs) (cl : Int) (bits : List Bool) (num : Value) (code : Bool) (i : Nat) (h : i < bits.length) :
    (kcl word cl bits num code).toArray[2 + i]? = some (.bool (bits[i]'h)) := by
  unfold kcl
  rw [Nat.add_comm 2 i, List.getElem?_toArray, List.getElem?_cons_succ, List.getElem?_cons_succ, List.getElem?_append_left (by simpa using h), List.getElem?_map, List.getElem?_eq_getElem h]
  rfl
theorem kcl_code (word : Bs) (cl : Int) (bits : List Bool) (num : Value) (code : Bool) (h : bits.length = 13) : (kcl word cl bits num code).toArray[16]? = some (.bool code) := by
  unfold kcl
  rw [List.getElem?_toArray, List.getElem?_cons_succ, List.getElem?_cons_succ, List.getElem?_append_right (by simp [h])]
  simp [h]
theorem len13 {l : List Bool} (h : l.length = 13) : ∃ b0 b1 b2 b3 b4 b5 b6 b7 b8 b9 b10 b11 b12, l = [b0, b1, b2, b3, b4, b5, b6, b7, b8, b9, b10, b11, b12] := by
  match l, h with
  | [b0, b1, b2, b3, b4, b5, b6, b7, b8, b9, b10, b11, b12], _ => exact ⟨b0, b1, b2, b3, b4, b5, b6, b7, b8, b9, b10, b11, b12, rfl⟩
/-- what is set of a list -/
def setAll (ms : List Nat) (b : List Bool) : List Bool := ms.foldl (fun b i => b.set i true) b
theorem setAll_len (ms : List Nat) : ∀ b, (setAll ms b).length = b.length := by
  induction ms with
  | nil => intro b; rfl
  | cons i r ih => intro b; show (setAll r (b.set i true)).length = _; rw [ih, List.length_set]
theorem setAll_succ {ms : List Nat} {k : Nat} (h : k < ms.length) (b : List Bool) : setAll (ms.take (k + 1)) b = (setAll (ms.take k) b).set (ms[k]'h) true := by
  unfold setAll
  rw [List.take_add_one, List.getElem?_eq_getElem h, List.foldl_append]
  rfl
def no13 : List Bool := [false, false, false, false, false, false, false, false, false, false, false, false, false]
/-- a description's block, loaded whole -/
theorem kindBlk {w : World} {g : Nat} {word : Bs} {cl : Int} {num : Value} {code b0 b1 b2 b3 b4 b5 b6 b7 b8 b9 b10 b11 b12 : Bool} (h : Blk w g 144 (kcl word cl [b0, b1, b2, b3, b4, b5, b6, b7, b8, b9, b10, b11, b12] num code).toArray) :
    w.cell? ⟨g, 0, none⟩ = some (.string (bs word)) ∧ w.cell? ⟨g, 1, none⟩ = some (.int .i64 cl) ∧ w.cell? ⟨g, 2, none⟩ = some (.bool b0) ∧ w.cell? ⟨g, 3, none⟩ = some (.bool b1) ∧ w.cell? ⟨g, 4, none⟩ = some (.bool b2) ∧ w.cell? ⟨g, 5, none⟩ = some (.bool b3) ∧ w.cell? ⟨g, 6, none⟩ = some (.bool b4) ∧ w.cell? ⟨g, 7, none⟩ = some (.bool b5) ∧ w.cell? ⟨g, 8, none⟩ = some (.bool b6) ∧ w.cell? ⟨g, 9, none⟩ = some (.bool b7) ∧ w.cell? ⟨g, 10, none⟩ = some (.bool b8) ∧ w.cell? ⟨g, 11, none⟩ = some (.bool b9) ∧ w.cell? ⟨g, 12, none⟩ = some (.bool b10) ∧ w.cell? ⟨g, 13, none⟩ = some (.bool b11) ∧ w.cell? ⟨g, 14, none⟩ = some (.bool b12) ∧ w.cell? ⟨g, 15, none⟩ = some num ∧ w.cell? ⟨g, 16, none⟩ = some (.bool code) := by
  refine ⟨h.cell 0, h.cell 1, h.cell 2, h.cell 3, h.cell 4, h.cell 5, h.cell 6, h.cell 7, h.cell 8, h.cell 9, h.cell 10, h.cell 11, h.cell 12, h.cell 13, h.cell 14, h.cell 15, h.cell 16⟩
/-- a block stored over whole -/
theorem kind_over {w : World} {g : Nat} {xs ys : List Value} (h : Blk w g 144 xs.toArray) (hl : xs.length = ys.length) : Blk (w.setCells g 0 ys) g 144 ys.toArray := by
  have := Blk.sets ys 0 w xs h (by omega)
  unfold lsplice at this
  rw [List.take_zero, List.nil_append, List.drop_of_length_le (by omega), List.append_nil] at this
  exact this
theorem results_kind {fn : Func} {a : Tmp} (h : fn.results = #[.cell a 144]) (tmps : Array Value) (w : World) (g : Nat) {word : Bs} {cl : Int} {num : Value} {code : Bool} {bits : List Bool} (hl : bits.length = 13) (ha : tmps.getD a undef = .pointer (some ⟨g, 0, none⟩)) (hb : Blk w g 144 (kcl word cl bits num code).toArray) :
    (results fn tmps).run Tryz.prog w = .ok (kv word cl bits num code) w := by
  obtain ⟨b0, b1, b2, b3, b4, b5, b6, b7, b8, b9, b10, b11, b12, rfl⟩ := len13 hl
  obtain ⟨q0, q1, q2, q3, q4, q5, q6, q7, q8, q9, q10, q11, q12, q13, q14, q15, q16⟩ := kindBlk hb
  unfold results
  rw [h]
  simp only [List.mapM_toArray, List.mapM_cons, List.mapM_nil, ha]
  go_simp
  rfl
end Go.Proofs.YthgpheopnhajaaaGreatDoor

/- How the description of a kind is made. -/
namespace Go.Proofs.YthgpheopnhajaaaGreatDoor
open Go.RowKit
attribute [local go_sem] size_bs toList_bs
theorem kcl_one (word : Bs) (cl : Int) (bits : List Bool) (num : Value) (code : Bool) (hn : num.oneCell' = true) : (kcl word cl bits num code).toArray.all (·.oneCell') = true := by
  unfold kcl
  simp [Value.oneCell']
  exact hn
theorem kcl_len (word : Bs) (cl : Int) (bits : List Bool) (num : Value) (code : Bool) (h : bits.length = 13) : (kcl word cl bits num code).length = 17 := by
  unfold kcl; simp [h]
theorem kind_range {w : World} {g : Nat} {xs : List Value} (h : Blk w g 144 xs.toArray) : w.rangeAt g 0 xs := fun j v hv => by rw [Nat.zero_add, h.cell j, List.getElem?_toArray]; exact hv
theorem kind_there {w : World} {g n : Nat} {xs : List Value} (h : Blk w g 144 xs.toArray) (hx : n = xs.length) : w.there g 0 n := fun j hj => by
  have hj2 : j < xs.length := by omega
  rw [Nat.zero_add, h.cell j, h.frozen j, List.getElem?_toArray, List.getElem?_eq_getElem hj2]
  exact ⟨rfl, rfl⟩
set_option maxRecDepth 100000 in
set_option maxHeartbeats 4000000 in
theorem kindsNil (word : Bs) (cl : Int) (ms : List Nat) (A : Option Addr) (c : Nat) (w : World) (hM : RdI w A ms) (hb : ∀ x ∈ ms, x < 13) (hn : ms.length ≤ 1000) :
    Calls Tryz.prog 151 #[.string (bs word), .int .i64 cl, .map none, .slice A ms.length c] w fun e w' => e = .returned (kv word cl (setAll ms no13) (.map none) false) ∧ Ext w w' := by
  have HM := Lib.hid hM
  have HB := Lib.hid hb
  obtain ⟨bits, hbits⟩ : ∃ b, b = no13 := ⟨_, rfl⟩
  have HL : Hid (bits.length = 13) := Lib.hid (by rw [hbits]; rfl)
  have G8 := Lib.hid ((Blk.new w 144 (kcl [] 0 no13 (.map none) false).toArray).alloc (.cells (kcl word cl bits (.map none) false).toArray 144))
  have G9 := Lib.hid (Blk.newAt (w.alloc (.cells (kcl [] 0 no13 (.map none) false).toArray 144)) 144 (kcl word cl bits (.map none) false).toArray (w.heap.size + 1) (by simp))
  have HX : Hid (Ext w ((w.alloc (.cells (kcl [] 0 no13 (.map none) false).toArray 144)).alloc (.cells (kcl word cl bits (.map none) false).toArray 144))) := Lib.hid ((Ext.new _ _).alloc _)
  have hrg : ∀ wx : World, (Instr.range 142 (.map none)).run Tryz.prog wx = _ := fun wx => run_range_nilMap wx 142 3 204 Tryz.underlying142
  have hnx : ∀ (wx : World) ty, (Instr.next (.pointer (some ⟨wx.heap.size, 0, none⟩)) false ty).run Tryz.prog (wx.alloc (.mapIter none 0 #[] 0)) = _ := fun wx ty => run_next_nilMap wx ty 0 0 #[]
  rw [hbits] at G8 G9 HX
  clear hM hb
  go_enter Tryz.func151, Tryz.ntmps151
  go_upto_region 2 with fail
  dsimp only [kcl, no13, List.map_cons, List.map_nil, List.cons_append, List.nil_append] at G8 G9 HX
  generalize hW2 : (w.alloc (.cells #[Value.string { data := #[] }, Value.int IntKind.i64 0, Value.bool false, Value.bool false, Value.bool false, Value.bool false, Value.bool false, Value.bool false, Value.bool false, Value.bool false, Value.bool false, Value.bool false, Value.bool false, Value.bool false, Value.bool false, Value.map none, Value.bool false] 144)).alloc
            (Obj.cells #[Value.string (bs word), Value.int IntKind.i64 cl, Value.bool false, Value.bool false, Value.bool false, Value.bool false, Value.bool false, Value.bool false, Value.bool false, Value.bool false, Value.bool false, Value.bool false, Value.bool false, Value.bool false, Value.bool false, Value.map none, Value.bool false] 144) = W2
  replace HX : Hid (Ext w W2) := by rw [← hW2]; exact HX
  replace G8 : Hid (Blk W2 w.heap.size 144 (kcl [] 0 no13 (.map none) false).toArray) := by rw [← hW2]; exact G8
  replace G9 : Hid (Blk W2 (w.heap.size + 1) 144 (kcl word cl bits (.map none) false).toArray) := by rw [← hW2, hbits]; exact G9
  have hrg2 := hrg W2
  have hnx2 := hnx W2
  clear hW2 hrg hnx
  go_wp2_with fail
  refine wp_loop_rounds 1 ?_
  rw [rounds_succ]
  go_wp2_with fail
  replace HX := Lib.hid (HX.out.alloc (.mapIter none 0 #[] 0))
  replace G8 := Lib.hid (G8.out.alloc (.mapIter none 0 #[] 0))
  replace G9 := Lib.hid (G9.out.alloc (.mapIter none 0 #[] 0))
  clear hrg2 hnx2
  go_loopw [28, 12] (fun i _ wr => ∃ k : Nat, k ≤ ms.length ∧ i = .int .i64 k ∧ Ext w wr ∧ Blk wr w.heap.size 144 (kcl [] 0 no13 (.map none) false).toArray ∧ Blk wr (w.heap.size + 1) 144 (kcl word cl (setAll (ms.take k) bits) (.map none) false).toArray) (fun i _ _ => ms.length - (intOf i).toNat)
  case atStart => exact ⟨0, by omega, rfl, HX.out, G8.out, G9.out⟩
  case round =>
    clear HX G8 G9
    obtain ⟨k, hk, rfl, hx, h8, h9⟩ := hrel
    have HX := Lib.hid hx
    have G8 := Lib.hid h8
    have G9 := Lib.hid h9
    clear hx h8 h9
    by_cases hlt : k < ms.length
    · obtain ⟨b, o, rfl, hb, c0⟩ := (HM.out.ext HX.out).at_ hlt
      have hx13 := HB.out _ (List.getElem_mem hlt)
      have hlen : (setAll (ms.take k) bits).length = 13 := by rw [setAll_len]; exact HL.out
      have hs : setAll (ms.take (k + 1)) bits = (setAll (ms.take k) bits).set (ms[k]'hlt) true := setAll_succ hlt bits
      have N9 := G9.out.set_ (2 + ms[k]'hlt) (.bool true)
      rw [kcl_set _ _ _ _ _ _ _ (by omega), ← hs] at N9
      have q0 := G9.out.cell (2 + ms[k]'hlt)
      rw [kcl_at _ _ _ _ _ _ (by omega)] at q0
      have f := fun k => G9.out.frozen k
      obtain ⟨bb, q⟩ : ∃ bb, wr.cell? ⟨w.heap.size + 1, 2 + ms[k]'hlt, none⟩ = some (.bool bb) := ⟨_, q0⟩
      clear q0
      have N9h := Lib.hid N9
      clear N9 hs
      generalize ms[k]'hlt = x at *
      have hki : (k : Int) < (ms.length : Int) := by omega
      have hx1 : (x : Int) < 13 := by omega
      have N8 := Lib.hid (G8.out.far (p := ⟨w.heap.size + 1, 2 + x, none⟩) (by simp) (.bool true))
      have NX := Lib.hid (HX.out.setCell (p := ⟨w.heap.size + 1, 2 + x, none⟩) (by simp) (.bool true))
      clear hlen
      go_wp2_with fail
      exact ⟨⟨k + 1, by omega, by go_num, NX.out, N8.out, N9h.out⟩, by simp [intOf]; omega⟩
    · obtain rfl : k = ms.length := by omega
      have hlen : (setAll (ms.take ms.length) bits).length = 13 := by rw [setAll_len]; exact HL.out
      rw [List.take_length] at G9 hlen
      have hrg := kind_range G9.out
      have hth : wr.there w.heap.size 0 (kcl word cl (setAll ms bits) (.map none) false).toArray.size := kind_there G8.out (by rw [List.size_toArray, kcl_len _ _ _ _ _ hlen]; rfl)
      have hs1 : (Tryz.prog.info? 144).map (·.size) = some (kcl word cl (setAll ms bits) (.map none) false).length := by rw [kcl_len _ _ _ _ _ hlen]; kernel_rfl
      have hs2 : (Tryz.prog.info? 144).map (·.size) = some (kcl word cl (setAll ms bits) (.map none) false).toArray.size := hs1
      have hoc := kcl_one word cl (setAll ms bits) (.map none) false rfl
      have O8 := Lib.hid (kind_over G8.out (ys := kcl word cl (setAll ms bits) (.map none) false) (by unfold kcl; simp [hlen, no13]))
      have HS := Lib.hid (ext_sets (kcl word cl (setAll ms bits) (.map none) false) 0 wr () HX.out (Nat.le_refl _))
      have HR := Lib.hid hlen
      clear hlen hk hlt HB HM G8 G9
      go_wp2_with (first | refine wpList_load_mid rfl 144 _ rfl (w.heap.size + 1) 0 rfl _ _ hrg Tryz.underlying144 rfl hs1 ?_ | refine wpList_store_mid rfl 144 _ _ rfl w.heap.size 0 _ rfl rfl hth hs2 hoc ?_ | fail)
      refine bodyPost_ret (results_kind rfl _ _ w.heap.size HR.out rfl O8.out) rfl ?_
      exact ⟨by rw [hbits], HS.out⟩
end Go.Proofs.YthgpheopnhajaaaGreatDoor

/- How the description of a kind with numbers is made. -/
namespace Go.Proofs.YthgpheopnhajaaaGreatDoor
open Go.RowKit
open Go.Maps (Keyed)
attribute [local go_sem] size_bs toList_bs
theorem wpList_next_k {P : Program} (w : World) {ops : Array Oper} {rest : List Oper} {o : Oper} {a : Act} {Q : Exit → Act → World → Prop}
    (hg : o.guard = none) (it : Operand) (hop : o.op = Op.next it false) (k : TypeId) (K : Keyed P k) (hk : P.underlying k = some (.int .i64))
    (b r n : Nat) (D : DataW Value) (left : Lit → Bool) (cnt : Nat) (hit : a.eval it = .pointer (some ⟨r, 0, none⟩)) (h : w.ranges P k RK b r n D left cnt)
    (hDone : wpList P ops Q rest (a.put o.dst (.tuple #[.bool false])) w)
    (hMore : ∀ (x : Int) (c : Value) (w' : World) (cnt' : Nat), left (.int .i64 x) = true → w'.ranges P k RK b r n D (fun z => left z && !z.sameKey (.int .i64 x)) cnt' → cnt' < cnt →
      w.grownBy w' (some r) → (Instr.entry (.pointer (some ⟨r, 0, none⟩))).run P w' = .ok (.tuple #[.int .i64 x, c]) w' → wpList P ops Q rest (a.put o.dst (.tuple #[.bool true, .int .i64 x, c])) w') :
    wpList P ops Q (o :: rest) a w :=
  wpList_next_ranges w hg it hop k K RK (Value.int .i64) (fun v => v) (fun key kl hkey => by obtain ⟨x, rfl, _⟩ := Maps.keyOf_int_inv hk hkey; exact ⟨x, rfl⟩) (fun v y hv => ⟨v, rfl⟩)
    b r n D left cnt hit h (fun _ _ => hDone) (fun x c kl y w' cnt' hkey hlk hv hat hrg hlt hgr hsz hen => by
      obtain ⟨x', ex, rfl, hwx⟩ := Maps.keyOf_int_inv hk hkey
      cases ex
      exact hMore x c w' cnt' hlk hrg hlt hgr hen)
set_option maxRecDepth 100000 in
set_option maxHeartbeats 4000000 in
/-- a description with numbers -/
theorem kindsMap (word : Bs) (cl : Int) (bm n : Nat) (D : DataW Value) (ms : List Nat) (A : Option Addr) (c : Nat) (w : World) (hD : MapAt w bm n D) (hk : ∀ x : Int, Maps.has D (.int .i64 x) = true → 0 ≤ x ∧ x < 13) (hM : RdI w A ms) (hb : ∀ x ∈ ms, x < 13) (hn : ms.length ≤ 1000) :
    Calls Tryz.prog 151 #[.string (bs word), .int .i64 cl, .map (some bm), .slice A ms.length c] w fun e w' => ∃ bits, bits.length = 13 ∧ e = .returned (kv word cl bits (.map (some bm)) false) ∧ Ext w w' := by
  have HM := Lib.hid hM
  have HB := Lib.hid hb
  have HK := Lib.hid hk
  have HBM := Lib.hid hD.lt
  have G8 := Lib.hid ((Blk.new w 144 (kcl [] 0 no13 (.map none) false).toArray).alloc (.cells (kcl word cl no13 (.map (some bm)) false).toArray 144))
  have G9 := Lib.hid (Blk.newAt (w.alloc (.cells (kcl [] 0 no13 (.map none) false).toArray 144)) 144 (kcl word cl no13 (.map (some bm)) false).toArray (w.heap.size + 1) (by simp))
  have HX : Hid (Ext w ((w.alloc (.cells (kcl [] 0 no13 (.map none) false).toArray 144)).alloc (.cells (kcl word cl no13 (.map (some bm)) false).toArray 144))) := Lib.hid ((Ext.new _ _).alloc _)
  have HD := Lib.hid (hD.ext HX.out)
  clear hM hb hk hD
  go_enter Tryz.func151, Tryz.ntmps151
  go_upto_region 2 with fail
  dsimp only [kcl, no13, List.map_cons, List.map_nil, List.cons_append, List.nil_append] at G8 G9 HX HD
  generalize hW2 : (w.alloc (.cells #[Value.string { data := #[] }, Value.int IntKind.i64 0, Value.bool false, Value.bool false, Value.bool false, Value.bool false, Value.bool false, Value.bool false, Value.bool false, Value.bool false, Value.bool false, Value.bool false, Value.bool false, Value.bool false, Value.bool false, Value.map none, Value.bool false] 144)).alloc
            (Obj.cells #[Value.string (bs word), Value.int IntKind.i64 cl, Value.bool false, Value.bool false, Value.bool false, Value.bool false, Value.bool false, Value.bool false, Value.bool false, Value.bool false, Value.bool false, Value.bool false, Value.bool false, Value.bool false, Value.bool false, Value.map (some bm), Value.bool false] 144) = W2
  replace HX : Hid (Ext w W2) := by rw [← hW2]; exact HX
  replace HD : Hid (MapAt W2 bm n D) := by rw [← hW2]; exact HD
  replace G8 : Hid (Blk W2 w.heap.size 144 (kcl [] 0 no13 (.map none) false).toArray) := by rw [← hW2]; exact G8
  replace G9 : Hid (Blk W2 (w.heap.size + 1) 144 (kcl word cl no13 (.map (some bm)) false).toArray) := by rw [← hW2]; exact G9
  clear hW2
  have hD2 := HD.out
  go_wp2_with (first | (at_range; refine wpList_range_own _ rfl _ 142 rfl 3 204 keyInt Tryz.underlying142 RK bm n D rfl hD2 ?_; intro w0 hrg0 hg0 hs0) | fail)
  replace HX := Lib.hid (HX.out.trans ⟨hg0.os, hg0.tape, hg0.output, hg0.size, fun i hi => hg0.block i hi (by simp)⟩)
  have hlt2 := G9.out.lt
  have hb2 := HD.out.lt
  replace G8 : Hid (Blk w0 w.heap.size _ _) := Lib.hid ((hg0.block _ G8.out.lt (by simp)).trans G8.out)
  replace G9 : Hid (Blk w0 (w.heap.size + 1) _ _) := Lib.hid ((hg0.block _ G9.out.lt (by simp)).trans G9.out)
  have HR0 := Lib.hid hrg0
  clear hD2 hrg0 hg0 hs0 HD
  generalize W2.heap.size = R at *
  go_frame
  go_loopw [19, 10] (fun _ _ wr => ∃ left cnt bits, wr.ranges Tryz.prog 3 RK bm R n D left cnt ∧ bits.length = 13 ∧ (∀ kl, left kl = true → Maps.has D kl = true) ∧ Blk wr w.heap.size 144 (kcl [] 0 no13 (.map none) false).toArray ∧ Blk wr (w.heap.size + 1) 144 (kcl word cl bits (.map (some bm)) false).toArray ∧ Ext w wr) (fun _ _ wr => wr.rangeLeft bm R)
  case atStart => exact ⟨_, _, no13, HR0.out, rfl, fun _ h => h, G8.out, G9.out, HX.out⟩
  case round =>
    clear HX G8 G9 HR0
    obtain ⟨left, cnt, bits, hrg, hbl, hlh, h8, h9, hx⟩ := hrel
    have HX := Lib.hid hx
    have G8 := Lib.hid h8
    have G9 := Lib.hid h9
    have HL := Lib.hid hbl
    have HH := Lib.hid hlh
    clear hx h8 h9 hbl hlh
    go_wp2_with (first | (at_next; refine wpList_next_k _ rfl _ rfl 3 keyInt Tryz.underlying3 bm R n D left cnt rfl hrg ?_ ?_) | fail)
    · clear hrg HH HK
      go_loopw [28, 12] (fun i _ wr => ∃ k : Nat, k ≤ ms.length ∧ i = .int .i64 k ∧ Ext w wr ∧ Blk wr w.heap.size 144 (kcl [] 0 no13 (.map none) false).toArray ∧ Blk wr (w.heap.size + 1) 144 (kcl word cl (setAll (ms.take k) bits) (.map (some bm)) false).toArray) (fun i _ _ => ms.length - (intOf i).toNat)
      case atStart => exact ⟨0, by omega, rfl, HX.out, G8.out, G9.out⟩
      case round =>
        clear HX G8 G9
        obtain ⟨k, hk, rfl, hx, h8, h9⟩ := hrel
        have HX := Lib.hid hx
        have G8 := Lib.hid h8
        have G9 := Lib.hid h9
        clear hx h8 h9
        by_cases hlt : k < ms.length
        · obtain ⟨b, o, rfl, hb, c0⟩ := (HM.out.ext HX.out).at_ hlt
          have hx13 := HB.out _ (List.getElem_mem hlt)
          have hlen : (setAll (ms.take k) bits).length = 13 := by rw [setAll_len]; exact HL.out
          have hs : setAll (ms.take (k + 1)) bits = (setAll (ms.take k) bits).set (ms[k]'hlt) true := setAll_succ hlt bits
          have N9 := G9.out.set_ (2 + ms[k]'hlt) (.bool true)
          rw [kcl_set _ _ _ _ _ _ _ (by omega), ← hs] at N9
          have q0 := G9.out.cell (2 + ms[k]'hlt)
          rw [kcl_at _ _ _ _ _ _ (by omega)] at q0
          have f := fun k => G9.out.frozen k
          obtain ⟨bb, q⟩ : ∃ bb, wr.cell? ⟨w.heap.size + 1, 2 + ms[k]'hlt, none⟩ = some (.bool bb) := ⟨_, q0⟩
          clear q0
          have N9h := Lib.hid N9
          clear N9 hs
          generalize ms[k]'hlt = x at *
          have hki : (k : Int) < (ms.length : Int) := by omega
          have hx1 : (x : Int) < 13 := by omega
          have N8 := Lib.hid (G8.out.far (p := ⟨w.heap.size + 1, 2 + x, none⟩) (by simp) (.bool true))
          have NX := Lib.hid (HX.out.setCell (p := ⟨w.heap.size + 1, 2 + x, none⟩) (by simp) (.bool true))
          clear hlen
          go_wp2_with fail
          exact ⟨⟨k + 1, by omega, by go_num, NX.out, N8.out, N9h.out⟩, by simp [intOf]; omega⟩
        · obtain rfl : k = ms.length := by omega
          have hlen : (setAll (ms.take ms.length) bits).length = 13 := by rw [setAll_len]; exact HL.out
          rw [List.take_length] at G9 hlen
          have hrg := kind_range G9.out
          have hth : wr.there w.heap.size 0 (kcl word cl (setAll ms bits) (.map (some bm)) false).toArray.size := kind_there G8.out (by rw [List.size_toArray, kcl_len _ _ _ _ _ hlen]; rfl)
          have hs1 : (Tryz.prog.info? 144).map (·.size) = some (kcl word cl (setAll ms bits) (.map (some bm)) false).length := by rw [kcl_len _ _ _ _ _ hlen]; kernel_rfl
          have hs2 : (Tryz.prog.info? 144).map (·.size) = some (kcl word cl (setAll ms bits) (.map (some bm)) false).toArray.size := hs1
          have hoc := kcl_one word cl (setAll ms bits) (.map (some bm)) false rfl
          have O8 := Lib.hid (kind_over G8.out (ys := kcl word cl (setAll ms bits) (.map (some bm)) false) (by unfold kcl; simp [hlen, no13]))
          have HS := Lib.hid (ext_sets (kcl word cl (setAll ms bits) (.map (some bm)) false) 0 wr () HX.out (Nat.le_refl _))
          have HR := Lib.hid hlen
          clear hlen hk hlt HB HM G8 G9
          go_wp2_with (first | refine wpList_load_mid rfl 144 _ rfl (w.heap.size + 1) 0 rfl _ _ hrg Tryz.underlying144 rfl hs1 ?_ | refine wpList_store_mid rfl 144 _ _ rfl w.heap.size 0 _ rfl rfl hth hs2 hoc ?_ | fail)
          refine bodyPost_ret (results_kind rfl _ _ w.heap.size HR.out rfl O8.out) rfl ?_
          exact ⟨_, HR.out, rfl, HS.out⟩
    · intro x cv w1 cnt1 hlk hrg1 hlt1 hg1 hen
      obtain ⟨hx0, hx1⟩ := HK.out x (HH.out _ hlk)
      obtain ⟨j, rfl⟩ : ∃ j : Nat, x = j := ⟨x.toNat, by omega⟩
      have hn9 : w.heap.size + 1 ≠ R := by omega
      have hn8 : w.heap.size ≠ R := by omega
      have hbn : bm ≠ w.heap.size + 1 := by have := HBM.out; omega
      have g9 : Blk w1 (w.heap.size + 1) 144 (kcl word cl bits (.map (some bm)) false).toArray := (hg1.block _ G9.out.lt (by simpa using hn9)).trans G9.out
      have g8 : Blk w1 w.heap.size 144 (kcl [] 0 no13 (.map none) false).toArray := (hg1.block _ G8.out.lt (by simpa using hn8)).trans G8.out
      have N9 := g9.set_ (2 + j) (.bool true)
      rw [kcl_set _ _ _ _ _ _ _ (by rw [HL.out]; omega)] at N9
      have q0 := g9.cell (2 + j)
      rw [kcl_at _ _ _ _ _ _ (by rw [HL.out]; omega)] at q0
      obtain ⟨bb, q⟩ : ∃ bb, w1.cell? ⟨w.heap.size + 1, 2 + j, none⟩ = some (.bool bb) := ⟨_, q0⟩
      have f := fun k => g9.frozen k
      have N8h := Lib.hid (g8.far (p := ⟨w.heap.size + 1, 2 + j, none⟩) (by simp) (.bool true))
      have N9h := Lib.hid N9
      have hRw : w.heap.size ≤ R := by omega
      have hx2 : Ext w w1 := HX.out.only hg1 hRw
      have NX := Lib.hid (hx2.setCell (p := ⟨w.heap.size + 1, 2 + j, none⟩) (by simp) (.bool true))
      have HRG : Hid (World.ranges (w1.setCell ⟨w.heap.size + 1, 2 + j, none⟩ (.bool true)) Tryz.prog 3 RK bm R n D (fun z => left z && !z.sameKey (.int .i64 (j : Int))) cnt1) :=
        Lib.hid (hrg1.kept ((Only.refl (w.heap.size + 1) w1).setCell (2 + j) (.bool true)) (by simpa using hbn) (by simpa using fun h : R = w.heap.size + 1 => hn9 h.symm))
      have HNL : Hid (∀ kl, (left kl && !kl.sameKey (.int .i64 (j : Int))) = true → Maps.has D kl = true) := Lib.hid (fun kl h => HH.out kl (by simp only [Bool.and_eq_true] at h; exact h.1))
      have hlen : (bits.set j true).length = 13 := by rw [List.length_set]; exact HL.out
      have hmeas : World.rangeLeft (w1.setCell ⟨w.heap.size + 1, 2 + j, none⟩ (.bool true)) bm R < wr.rangeLeft bm R := by rw [HRG.out.left_eq, hrg.left_eq]; exact hlt1
      clear N9 q0 g9 g8 hx2 hrg hrg1 hg1 HX G8 G9 HH hlk HK HL HM
      have hj1 : (j : Int) < 13 := by omega
      go_wp2_with fail
      exact ⟨⟨_, _, _, HRG.out, hlen, HNL.out, N8h.out, N9h.out, NX.out⟩, hmeas⟩
end Go.Proofs.YthgpheopnhajaaaGreatDoor

/- The descriptions of amounts and of codes. -/
namespace Go.Proofs.YthgpheopnhajaaaGreatDoor
open Go.RowKit
open Go.Maps (Keyed)
attribute [local go_sem] size_bs toList_bs
/-- keys of numbers are fields -/
def KeyOK (D : DataW Value) : Prop := ∀ x : Int, Maps.has D (.int .i64 x) = true → 0 ≤ x ∧ x < 13
theorem keyOK_nil : KeyOK (.map []) := fun x h => by simp [Maps.has] at h
theorem keyOK_put {D : DataW Value} (h : KeyOK D) (k : Int) (h0 : 0 ≤ k ∧ k < 13) (d : DataW Value) : KeyOK (D.put (.int .i64 k) d) := fun x hx => by
  by_cases e : x = k
  · subst e; exact h0
  · rw [Maps.has_put_other (by simpa using e)] at hx
    exact h x hx
theorem keyWf (k : Int) (h : 0 ≤ k ∧ k < 100) : (Lit.int .i64 k).wf = true := WalkArith.wf_i64 (by omega)
theorem keyMk (k : Int) (h : 0 ≤ k ∧ k < 100) : keyOf Tryz.prog 3 (.int .i64 k) = some (.int .i64 k) := Go.Maps.keyOf_int_mk Tryz.underlying3 (keyWf k h)
/-- a slice of one, two, three fields, laid for a call -/
theorem moreOf {w : World} (cs : List Value) (ms : List Nat) (h : cs = icells ms) : RdI (w.alloc (.cells cs.toArray 3)) (some ⟨w.heap.size, 0, none⟩) ms := by
  subst h
  exact Reads.lit (by simp [icells])
def KindEnds (w : World) (e : Ending) (w' : World) : Prop := ∃ word cl bits num code, bits.length = 13 ∧ num.oneCell' = true ∧ e = .returned (kv word cl bits num code) ∧ Ext w w'
abbrev makerV : Value := .func (.func 151) #[] #[]
abbrev FT : TypeId := 207
abbrev LT2 : TypeId := 204
set_option maxRecDepth 100000 in
set_option maxHeartbeats 4000000 in
theorem kinds2 (word : Bs) (g3 g1 : Nat) (lv : Value) (w : World) (b3 : Blk w g3 FT #[makerV]) (b1 : Blk w g1 LT2 #[lv]) :
    Calls Tryz.prog 152 #[.string (bs word), .pointer (some ⟨g3, 0, none⟩), .pointer (some ⟨g1, 0, none⟩)] w (KindEnds w) := by
  have hmm := @run_makeMap Tryz.prog
  have HX : Hid (Ext w (w.alloc (.cells (kcl [] 0 no13 (.map none) false).toArray 144))) := Lib.hid (Ext.new _ _)
  have G4 := Lib.hid (Blk.new w 144 (kcl [] 0 no13 (.map none) false).toArray)
  have B3 := Lib.hid (b3.ext HX.out)
  have B1 := Lib.hid (b1.ext HX.out)
  dsimp only [kcl, no13, List.map_cons, List.map_nil, List.cons_append, List.nil_append] at HX G4 B3 B1
  clear b3 b1
  go_enter Tryz.func152, Tryz.ntmps152
  go_upto_region 1 with fail
  generalize hW2 : (w.alloc (.cells #[Value.string { data := #[] }, Value.int IntKind.i64 0, Value.bool false, Value.bool false, Value.bool false, Value.bool false, Value.bool false, Value.bool false, Value.bool false, Value.bool false, Value.bool false, Value.bool false, Value.bool false, Value.bool false, Value.bool false, Value.map none, Value.bool false] 144)) = W2
  replace HX : Hid (Ext w W2) := by rw [← hW2]; exact HX
  replace G4 : Hid (Blk W2 w.heap.size 144 (kcl [] 0 no13 (.map none) false).toArray) := by rw [← hW2]; exact G4
  replace B3 : Hid (Blk W2 g3 FT #[makerV]) := by rw [← hW2]; exact B3
  replace B1 : Hid (Blk W2 g1 LT2 #[lv]) := by rw [← hW2]; exact B1
  clear hW2
  have q3 := B3.out.cell 0
  have q1 := (B1.out.alloc (.map #[] 0)).cell 0
  simp only [List.getElem?_toArray, List.getElem?_cons_zero] at q3 q1
  have M0 : MapAt (W2.alloc (.map #[] 0)) W2.heap.size 0 (.map []) := World.ownsMap_made _ _ _ _
  go_wp2_with (first | (refine wpList_insert_own _ rfl _ _ _ 142 rfl 3 204 keyInt Tryz.underlying142 RK W2.heap.size 0 _ rfl M0 (by decide) (.int .i64 5) _ _ rfl rfl (keyMk 5 (by decide)) _ [] rfl ?_; intro w1 M1 hg1) | fail)
  have hx1 : Ext W2 w1 := (Ext.new W2 _).only hg1 (Nat.le_refl _)
  replace HX := Lib.hid (HX.out.trans hx1)
  replace G4 := Lib.hid (G4.out.ext hx1)
  have HM1 := Lib.hid M1
  have HC := Lib.hid (kindsMap word 2 W2.heap.size (0 + 1) _ [2] (some ⟨w1.heap.size, 0, none⟩) 1 _ (MapAt.ext M1 (Ext.new w1 _)) (keyOK_put keyOK_nil 5 (by decide) _) (moreOf [.int .i64 2] [2] rfl) (by decide) (by decide))
  clear M0 M1 hg1 hx1 q1 q3 B3 B1
  go_wp2_with fail
  refine HC.out.mono ?_
  rintro e w2 ⟨bits, hl, rfl, hx2⟩
  have hx3 := (Ext.new w1 _).trans hx2
  replace HX := Lib.hid (HX.out.trans hx3)
  replace G4 := Lib.hid (G4.out.ext hx3)
  clear hx2 hx3 HC hmm
  have hth : w2.there w.heap.size 0 (kcl word 2 bits (.map (some W2.heap.size)) false).toArray.size := kind_there G4.out (by rw [List.size_toArray, kcl_len _ _ _ _ _ hl]; rfl)
  have hs2 : (Tryz.prog.info? 144).map (·.size) = some (kcl word 2 bits (.map (some W2.heap.size)) false).toArray.size := by rw [List.size_toArray, kcl_len _ _ _ _ _ hl]; kernel_rfl
  have hoc := kcl_one word 2 bits (.map (some W2.heap.size)) false rfl
  have O4 := Lib.hid (kind_over G4.out (ys := kcl word 2 bits (.map (some W2.heap.size)) false) (by rw [kcl_len _ _ _ _ _ hl]; rfl))
  have HS := Lib.hid (ext_sets (kcl word 2 bits (.map (some W2.heap.size)) false) 0 w2 () HX.out (Nat.le_refl _))
  go_wp2_with (first | refine wpList_store_mid rfl 144 _ _ rfl w.heap.size 0 _ rfl rfl hth hs2 hoc ?_ | fail)
  refine bodyPost_ret (results_kind rfl _ _ w.heap.size hl rfl O4.out) rfl ?_
  exact ⟨_, _, _, _, _, hl, rfl, rfl, HS.out⟩
set_option maxRecDepth 100000 in
set_option maxHeartbeats 4000000 in
theorem kinds3 (word : Bs) (cl : Int) (bits : List Bool) (num : Value) (code : Bool) (w : World) (hl : bits.length = 13) (hn : num.oneCell' = true) :
    Calls Tryz.prog 153 #[kv word cl bits num code] w (KindEnds w) := by
  obtain ⟨b0, b1, b2, b3, b4, b5, b6, b7, b8, b9, b10, b11, b12, rfl⟩ := len13 hl
  have HX : Hid (Ext w ((w.alloc (.cells (kcl word cl [b0, b1, b2, b3, b4, b5, b6, b7, b8, b9, b10, b11, b12] num code).toArray 144)).alloc (.cells (kcl [] 0 no13 (.map none) false).toArray 144))) := Lib.hid ((Ext.new _ _).alloc _)
  have G1 := Lib.hid ((Blk.new w 144 (kcl word cl [b0, b1, b2, b3, b4, b5, b6, b7, b8, b9, b10, b11, b12] num code).toArray).alloc (.cells (kcl [] 0 no13 (.map none) false).toArray 144))
  have G2 := Lib.hid (Blk.newAt (w.alloc (.cells (kcl word cl [b0, b1, b2, b3, b4, b5, b6, b7, b8, b9, b10, b11, b12] num code).toArray 144)) 144 (kcl [] 0 no13 (.map none) false).toArray (w.heap.size + 1) (by simp))
  have HN := Lib.hid hn
  have HL := Lib.hid hl
  clear hn hl
  dsimp only [kcl, no13, List.map_cons, List.map_nil, List.cons_append, List.nil_append] at HX G1 G2
  have hkv : kv word cl [b0, b1, b2, b3, b4, b5, b6, b7, b8, b9, b10, b11, b12] num code = .agg #[.string (bs word), .int .i64 cl, .bool b0, .bool b1, .bool b2, .bool b3, .bool b4, .bool b5, .bool b6, .bool b7, .bool b8, .bool b9, .bool b10, .bool b11, .bool b12, num, .bool code] := rfl
  rw [hkv]
  clear hkv
  go_enter Tryz.func153, Tryz.ntmps153
  go_upto_region 1 with fail
  generalize hW2 : ((w.alloc (.cells #[Value.string (bs word), Value.int IntKind.i64 cl, Value.bool b0, Value.bool b1, Value.bool b2, Value.bool b3, Value.bool b4, Value.bool b5, Value.bool b6, Value.bool b7, Value.bool b8, Value.bool b9, Value.bool b10, Value.bool b11, Value.bool b12, num, Value.bool code] 144)).alloc (.cells #[Value.string { data := #[] }, Value.int IntKind.i64 0, Value.bool false, Value.bool false, Value.bool false, Value.bool false, Value.bool false, Value.bool false, Value.bool false, Value.bool false, Value.bool false, Value.bool false, Value.bool false, Value.bool false, Value.bool false, Value.map none, Value.bool false] 144)) = W2
  replace HX : Hid (Ext w W2) := by rw [← hW2]; exact HX
  replace G1 : Hid (Blk W2 w.heap.size 144 (kcl word cl [b0, b1, b2, b3, b4, b5, b6, b7, b8, b9, b10, b11, b12] num code).toArray) := by rw [← hW2]; exact G1
  replace G2 : Hid (Blk W2 (w.heap.size + 1) 144 (kcl [] 0 no13 (.map none) false).toArray) := by rw [← hW2]; exact G2
  clear hW2
  have q16 := G1.out.cell 16
  rw [kcl_code _ _ _ _ _ HL.out] at q16
  have f16 := G1.out.frozen 16
  have N1 : Hid (Blk (W2.setCell ⟨w.heap.size, 16, none⟩ (.bool true)) w.heap.size 144 (kcl word cl [b0, b1, b2, b3, b4, b5, b6, b7, b8, b9, b10, b11, b12] num true).toArray) := Lib.hid (G1.out.set_ 16 (.bool true))
  have N2 := Lib.hid (G2.out.far (p := ⟨w.heap.size, 16, none⟩) (by simp) (.bool true))
  have NX := Lib.hid (HX.out.setCell (p := ⟨w.heap.size, 16, none⟩) (Nat.le_refl _) (.bool true))
  clear HX G1 G2
  go_upto_region 2 with fail
  generalize W2.setCell ⟨w.heap.size, 16, none⟩ (.bool true) = W3 at *
  clear q16 f16
  have hrg := kind_range N1.out
  have hth : W3.there (w.heap.size + 1) 0 (kcl word cl [b0, b1, b2, b3, b4, b5, b6, b7, b8, b9, b10, b11, b12] num true).toArray.size := kind_there N2.out (by rfl)
  have hs1 : (Tryz.prog.info? 144).map (·.size) = some (kcl word cl [b0, b1, b2, b3, b4, b5, b6, b7, b8, b9, b10, b11, b12] num true).length := by rw [kcl_len _ _ _ _ _ HL.out]; kernel_rfl
  have hs2 : (Tryz.prog.info? 144).map (·.size) = some (kcl word cl [b0, b1, b2, b3, b4, b5, b6, b7, b8, b9, b10, b11, b12] num true).toArray.size := hs1
  have hoc := kcl_one word cl [b0, b1, b2, b3, b4, b5, b6, b7, b8, b9, b10, b11, b12] num true HN.out
  have O2 := Lib.hid (kind_over N2.out (ys := kcl word cl [b0, b1, b2, b3, b4, b5, b6, b7, b8, b9, b10, b11, b12] num true) (by rfl))
  have HS := Lib.hid (ext_sets (kcl word cl [b0, b1, b2, b3, b4, b5, b6, b7, b8, b9, b10, b11, b12] num true) 0 W3 () NX.out (Nat.le_succ _))
  go_wp2_with (first | refine wpList_load_mid rfl 144 _ rfl w.heap.size 0 rfl _ _ hrg Tryz.underlying144 rfl hs1 ?_ | refine wpList_store_mid rfl 144 _ _ rfl (w.heap.size + 1) 0 _ rfl rfl hth hs2 hoc ?_ | fail)
  refine bodyPost_ret (results_kind rfl _ _ (w.heap.size + 1) HL.out rfl O2.out) rfl ?_
  exact ⟨_, _, _, _, _, HL.out, HN.out, rfl, HS.out⟩
end Go.Proofs.YthgpheopnhajaaaGreatDoor

/- A region that draws its order, walked by an invariant. -/
namespace Go.Proofs.YthgpheopnhajaaaGreatDoor
open Go.RowKit
section
variable {P : Program} {ops : Array Oper} {Q : Exit → Act → World → Prop} {md : Region.Mode}
/-- what holds at each step holds at the end, in whatever order -/
theorem wpAny_inv {Inv : Nat → Array Bool → Act → World → Prop} (hend : ∀ f listed a w, Inv f listed a w → Region.ready md ops listed = [] → Q .normal a w)
    (hz : ∀ listed a w, Inv 0 listed a w → Region.ready md ops listed = [])
    (hstep : ∀ f listed a w i, Inv (f + 1) listed a w → i ∈ Region.ready md ops listed → wpOp P ops Q i (Inv f (listed.setIfInBounds i true)) a w) :
    ∀ f listed a w, Inv f listed a w → wpAny P md ops Q f listed a w
  | 0, listed, a, w, h => ⟨hz listed a w h, hend 0 listed a w h (hz listed a w h)⟩
  | f + 1, listed, a, w, h => ⟨hend (f + 1) listed a w h, fun i hi => wpOp_mono (fun a' w' h' => wpAny_inv hend hz hstep f _ a' w' h') (hstep f listed a w i h hi)⟩
theorem ready_lt {listed : Array Bool} {i : Nat} (hi : i ∈ Region.ready md ops listed) : i < ops.size := by
  unfold Region.ready at hi
  rw [List.mem_filter, List.mem_range] at hi
  exact hi.1
theorem ready_not {listed : Array Bool} {i : Nat} (hi : i ∈ Region.ready md ops listed) : listed.getD i true = false := by
  unfold Region.ready at hi
  rw [List.mem_filter, Bool.and_eq_true] at hi
  simpa using hi.2.1
theorem ready_pred {listed : Array Bool} {i p : Nat} (hi : i ∈ Region.ready md ops listed) {o : Oper} (ho : ops[i]? = some o) (hp : (o.after.toList.any fun e => e.on == p && Region.binds md e) = true) : listed.getD p false = true := by
  unfold Region.ready at hi
  rw [List.mem_filter, Bool.and_eq_true, ho] at hi
  have h := hi.2.2
  simp only [Option.map_some, Option.getD_some] at h
  rw [List.any_eq_true] at hp
  obtain ⟨e, he, hp⟩ := hp
  rw [Array.all_eq_true_iff_forall_mem] at h
  have := h e (Array.mem_toList_iff.1 he)
  simp only [Bool.and_eq_true, beq_iff_eq] at hp
  rw [hp.2] at this
  simp only [Bool.not_true, Bool.false_or] at this
  rw [hp.1] at this
  exact this
theorem ready_nil {listed : Array Bool} (h : listed.toList.count false = 0) (_hs : listed.size = ops.size) : Region.ready md ops listed = [] := by
  unfold Region.ready
  rw [List.filter_eq_nil_iff]
  intro i hi hc
  rw [Bool.and_eq_true] at hc
  have h1 : listed.getD i true = false := by simpa using hc.1
  rw [List.count_eq_zero] at h
  apply h
  unfold Array.getD at h1
  split at h1
  · rename_i hlt
    have : listed[i] = false := h1
    rw [← this]
    exact Array.mem_toList_iff.2 (Array.getElem_mem hlt)
  · cases h1
theorem count_set {listed : Array Bool} {i : Nat} (hi : listed.getD i true = false) : (listed.setIfInBounds i true).toList.count false + 1 = listed.toList.count false := by
  unfold Array.getD at hi
  split at hi
  · rename_i hlt
    have e : listed.toList[i]'(by simpa using hlt) = false := by rw [Array.getElem_toList]; exact hi
    rw [Array.toList_setIfInBounds, List.count_set (by simpa using hlt), e]
    have h0 : 0 < listed.toList.count false := by
      rw [List.count_pos_iff, ← e]
      exact List.getElem_mem _
    have h1 : ((true : Bool) == false) = false := rfl
    simp only [beq_self_eq_true, h1, if_true, Bool.false_eq_true, if_false]
    omega
  · cases hi
theorem listed_set {listed : Array Bool} {i j : Nat} (h : (listed.setIfInBounds i true).getD j false = true) : j = i ∨ listed.getD j false = true := by
  by_cases e : j = i
  · exact .inl e
  · right
    unfold Array.getD at h ⊢
    split at h
    · rename_i hlt
      rw [Array.size_setIfInBounds] at hlt
      rw [dif_pos hlt]
      have h2 : (listed.setIfInBounds i true)[j]'(by rw [Array.size_setIfInBounds]; exact hlt) = true := h
      rw [Array.getElem_setIfInBounds_ne _ (by omega)] at h2
      exact h2
    · cases h
/-- where each operation waits for earlier ones alone, nothing is ready at the end alone -/
theorem ready_all {listed : Array Bool} (hacc : ((List.range ops.size).all fun i => match ops[i]? with | some o => o.after.toList.all (fun e => decide (e.on < i)) | none => true) = true) (h : Region.ready md ops listed = []) (hs : listed.size = ops.size) :
    ∀ i, i < ops.size → listed.getD i false = true := by
  intro i
  induction i using Nat.strongRecOn with
  | ind i ih =>
    intro hi
    cases hl : listed.getD i false
    · exfalso
      have hl2 : listed.getD i true = false := by
        have hlt : i < listed.size := by omega
        rw [Array.getD_eq_getD_getElem?, Array.getElem?_eq_getElem hlt] at hl ⊢
        exact hl
      rw [List.all_eq_true] at hacc
      have h1 := hacc i (List.mem_range.2 hi)
      have : i ∈ Region.ready md ops listed := by
        unfold Region.ready
        rw [List.mem_filter, Bool.and_eq_true]
        refine ⟨List.mem_range.2 hi, by rw [hl2]; rfl, ?_⟩
        rw [Array.getElem?_eq_getElem hi] at h1 ⊢
        simp only [Option.map_some, Option.getD_some]
        rw [Array.all_eq_true_iff_forall_mem]
        intro e he
        rw [List.all_eq_true] at h1
        have h2 := of_decide_eq_true (h1 e (Array.mem_toList_iff.2 he))
        rw [ih e.on h2 (by omega), Bool.or_true]
      rw [h] at this
      cases this
    · rfl
end
end Go.Proofs.YthgpheopnhajaaaGreatDoor

/- merger.shares' iterator: the old lots with what becomes of them, one after the other. -/
namespace Go.Proofs.YthgpheopnhajaaaGreatDoor
open Go.RowKit Go.Shelf
attribute [local go_sem] size_bs toList_bs Oper.semAt_some
abbrev svC (x : LotV) (n p k : Bs) : Array Value := #[.string (bs x.id), .string (bs x.ins), .int .i64 x.acq, .int .i64 x.opn, .string (bs x.q), .string (bs x.c), .string (bs x.u), .string (bs n), .string (bs p), .string (bs k)]
abbrev sv (x : LotV) (n p k : Bs) : Value := .agg (svC x n p k)
theorem eval_tmpM (a : Act) (m : Nat) : a.eval (.tmp m) = a.tmps.getD m undef := rfl
theorem actOf_none {base : Array Value} {who : Nat → Option Nat} {val : Nat → Value} {m : Nat} : actOf base who val (Array.replicate m false) = { tmps := base, defers := [] } := by
  have key : (actOf base who val (Array.replicate m false)).tmps = base := by
    unfold actOf
    dsimp only
    apply Array.ext
    · simp
    · intro s h1 h2
      rw [Array.getElem_ofFn]
      have hb : base.getD s undef = base[s] := by rw [Array.getD_eq_getD_getElem?, Array.getElem?_eq_getElem h2]; rfl
      cases hq : who s with
      | none => exact hb
      | some i =>
        dsimp only
        have hl : (Array.replicate m false).getD i false = false := by
          rw [Array.getD_eq_getD_getElem?, Array.getElem?_replicate]
          split <;> rfl
        rw [hl, if_neg (by decide)]
        exact hb
  show ({ tmps := (actOf base who val (Array.replicate m false)).tmps, defers := [] } : Act) = _
  rw [key]
/-- ops write slots one after the other -/
def whoOf (d m : Nat) (s : Nat) : Option Nat := if d ≤ s ∧ s < d + m then some (s - d) else none
theorem whoOf_at {d m i : Nat} (h : i < m) : whoOf d m (d + i) = some i := by
  unfold whoOf; rw [if_pos ⟨by omega, by omega⟩]; congr 1; omega
theorem whoOf_inj {d m i s : Nat} (h : whoOf d m s = some i) : s = d + i := by
  unfold whoOf at h
  split at h
  · injection h with h; omega
  · cases h
theorem setT {m i : Nat} (_h : i < m) : (Array.ofFn (n := m) fun j => decide (j.val < i)).setIfInBounds i true = Array.ofFn (n := m) fun j => decide (j.val < i + 1) := by
  apply Array.ext
  · simp
  · intro s h1 h2
    have hs : s < m := by simpa using h2
    rw [Array.getElem_setIfInBounds (by simpa using hs), Array.getElem_ofFn, Array.getElem_ofFn]
    by_cases e : i = s
    · subst e; rw [if_pos rfl]; simp
    · rw [if_neg e]; simp; omega
/-- the frame behind all, by putting one slot after the other -/
theorem actOf_all {base : Array Value} {val : Nat → Value} {d m : Nat} : ∀ i, i ≤ m → actOf base (whoOf d m) val (Array.ofFn (n := m) fun j => decide (j.val < i)) = (List.range i).foldl (fun a j => a.put (some (d + j)) (val (d + j))) { tmps := base, defers := [] }
  | 0, _ => by
    have e : (Array.ofFn (n := m) fun j => decide (j.val < 0)) = Array.replicate m false := by
      apply Array.ext
      · simp
      · intro s h1 h2; simp
    rw [e, actOf_none]
    rfl
  | i + 1, h => by
    rw [List.range_succ, List.foldl_append, ← actOf_all (m := m) i (by omega), ← setT (m := m) (i := i) (by omega)]
    exact (actOf_put (whoOf_at (by omega)) (fun s hs => whoOf_inj hs) (by simp; omega)).symm
theorem actOf_end {base : Array Value} {val : Nat → Value} {d m : Nat} : actOf base (whoOf d m) val (Array.replicate m true) = (List.range m).foldl (fun a j => a.put (some (d + j)) (val (d + j))) { tmps := base, defers := [] } := by
  rw [← actOf_all (m := m) m (Nat.le_refl _)]
  congr 1
  apply Array.ext
  · simp
  · intro s h1 h2; simp
section
variable {F : Fence} {n : Nat} {P : Program} {ops : Array Oper} {Q : Exit → Act → World → Prop}
theorem up_listed {listed : Array Bool} {i j : Nat} (h : listed.getD j false = true) : (listed.setIfInBounds i true).getD j false = true := by
  rw [Array.getD_eq_getD_getElem?] at h ⊢
  rw [Array.getElem?_setIfInBounds]
  split
  · rename_i e
    subst e
    split
    · rfl
    · rename_i hge
      rw [Array.getElem?_eq_none (by omega)] at h
      cases h
  · exact h
/-- the operation that calls a round -/
theorem stepIn_round (hfn : ∀ k, F.fn k) (hdp : F.depth.isSome = false) (hro : F.round = none) {i : Nat} {o : Oper} {K : Act → World → Prop} {a : Act} {w : World} (ho : ops[i]? = some o) (hg : o.guard = none) (l fn : Nat) (tmps : Array Value) (assign body : Code) {R : Ending → World → Prop}
    (hrun : (execOp a.eval o).run P w = .ok (.round l fn tmps assign body) w) (hR : RoundIn F (n - 1) P l fn tmps assign body w R) (hK : ∀ e W, R e W → ∃ v, e = .returned v ∧ K (a.put o.dst v) W) : wpOpIn F n P ops Q i K a w := by
  unfold wpOpIn
  rw [ho]
  dsimp only
  rw [if_pos (by simp [Region.wanted, hg])]
  refine ⟨fun f _ => hfn f, ?_⟩
  rw [hro]
  show Oper.uponIn F n P o a K Q ((execOp a.eval o).run P w)
  rw [hrun]
  refine ⟨fun h => (by rw [hdp] at h; cases h), hR.mono ?_⟩
  intro e W hr
  obtain ⟨v, rfl, hk⟩ := hK e W hr
  exact hk
/-- all but one operation read alone; that one comes behind all that stand before it -/
structure ChInv (ops : Array Oper) (base : Array Value) (val : Nat → Value) (d c : Nat) (W : World) (J : World → Prop) (f : Nat) (listed : Array Bool) (a : Act) (w : World) : Prop where
  size : listed.size = ops.size
  cnt : listed.toList.count false ≤ f
  act : a = actOf base (whoOf d ops.size) val listed
  cl : ∀ i o e, ops[i]? = some o → listed.getD i false = true → e ∈ o.after.toList → Region.binds .any e = true → listed.getD e.on false = true
  wld : (listed.getD c false = false ∧ w = W) ∨ (listed.getD c false = true ∧ J w)
section
variable {base : Array Value} {val : Nat → Value} {d c f i : Nat} {W w : World} {J : World → Prop} {listed : Array Bool} {a : Act} {o : Oper}
theorem ChInv.need (h : ChInv ops base val d c W J (f + 1) listed a w) (hd : d + ops.size ≤ base.size) (hi : i ∈ Region.ready .any ops listed) (ho : ops[i]? = some o) (p : Nat) (hps : p < ops.size) (hp : (o.after.toList.any fun e => e.on == p && Region.binds .any e) = true) : a.tmps.getD (d + p) undef = val (d + p) := by
  rw [h.act]
  exact actOf_val (by omega) (whoOf_at hps) (ready_pred hi ho hp)
theorem ChInv.base' (h : ChInv ops base val d c W J f listed a w) {s : Nat} (hs : s < base.size) (hn : s < d ∨ d + ops.size ≤ s) : a.tmps.getD s undef = base.getD s undef := by
  rw [h.act]
  exact actOf_base hs (by unfold whoOf; rw [if_neg (by omega)])
theorem ChInv.step (h : ChInv ops base val d c W J (f + 1) listed a w) (hi : i ∈ Region.ready .any ops listed) (ho : ops[i]? = some o) (hdst : o.dst = some (d + i)) (w' : World) (hw : (i ≠ c ∧ w' = w) ∨ (i = c ∧ J w')) :
    ChInv ops base val d c W J f (listed.setIfInBounds i true) (a.put o.dst (val (d + i))) w' := by
  have hlt := ready_lt hi
  have hs := h.size
  have hc := count_set (ready_not hi)
  have hcn := h.cnt
  refine ⟨by rw [Array.size_setIfInBounds]; exact hs, by omega, ?_, ?_, ?_⟩
  · rw [hdst, h.act]
    exact actOf_put (whoOf_at hlt) (fun s hs => whoOf_inj hs) (by omega)
  · intro j oj e hj hl he hb
    rcases listed_set hl with e1 | e1
    · subst e1
      rw [ho] at hj
      cases hj
      refine up_listed (ready_pred hi ho ?_)
      rw [List.any_eq_true]
      exact ⟨e, he, by rw [hb]; simp⟩
    · exact up_listed (h.cl j oj e hj e1 he hb)
  · rcases hw with ⟨hne, rfl⟩ | ⟨rfl, hj⟩
    · rcases h.wld with ⟨h1, h2⟩ | ⟨h1, h2⟩
      · left
        refine ⟨?_, h2⟩
        cases hq : (listed.setIfInBounds i true).getD c false
        · rfl
        · rcases listed_set hq with e | e
          · exact absurd e.symm hne
          · rw [h1] at e; cases e
      · exact .inr ⟨up_listed h1, h2⟩
    · right
      refine ⟨?_, hj⟩
      rw [Array.getD_eq_getD_getElem?, Array.getElem?_setIfInBounds_self_of_lt (by omega)]
      rfl
theorem ChInv.before (h : ChInv ops base val d c W J f listed a w) (hi : i ∈ Region.ready .any ops listed) (hic : i < c) (_hsz : c < ops.size)
    (hdep : ∀ L : Nat → Prop, (∀ i o e, ops[i]? = some o → L i → e ∈ o.after.toList → Region.binds .any e = true → L e.on) → L c → ∀ i, i < c → L i) : w = W := by
  rcases h.wld with ⟨_, h2⟩ | ⟨h1, _⟩
  · exact h2
  · have := hdep (fun i => listed.getD i false = true) (fun i o e ho hl he hb => h.cl i o e ho hl he hb) h1 i hic
    have hn := ready_not hi
    rw [Array.getD_eq_getD_getElem?] at this hn
    have hlt := ready_lt hi
    have hs := h.size
    rw [Array.getElem?_eq_getElem (by omega)] at this hn
    exact absurd (hn.symm.trans this) (by decide)
theorem ChInv.at_call (h : ChInv ops base val d c W J f listed a w) (hi : c ∈ Region.ready .any ops listed) : w = W := by
  rcases h.wld with ⟨_, h2⟩ | ⟨h1, _⟩
  · exact h2
  · have hn := ready_not hi
    have hlt := ready_lt hi
    have hs := h.size
    rw [Array.getD_eq_getD_getElem?] at h1 hn
    rw [Array.getElem?_eq_getElem (by omega)] at h1 hn
    exact absurd (hn.symm.trans h1) (by decide)
theorem ChInv.start (J : World → Prop) : ChInv ops base val d c W J ops.size (Array.replicate ops.size false) { tmps := base, defers := [] } W := by
  have hf : ∀ i, (Array.replicate ops.size false).getD i false = false := fun i => by
    rw [Array.getD_eq_getD_getElem?, Array.getElem?_replicate]
    split <;> rfl
  refine ⟨by simp, by rw [Array.toList_replicate, List.count_replicate_self]; exact Nat.le_refl _, actOf_none.symm, ?_, .inl ⟨hf c, rfl⟩⟩
  intro i o e _ hl
  rw [hf i] at hl; cases hl
theorem ChInv.fin (h : ChInv ops base val d c W J f listed a w) (hc : c < ops.size) (hr : Region.ready .any ops listed = [])
    (hacc : ((List.range ops.size).all fun i => match ops[i]? with | some o => o.after.toList.all (fun e => decide (e.on < i)) | none => true) = true) :
    a = (List.range ops.size).foldl (fun a j => a.put (some (d + j)) (val (d + j))) { tmps := base, defers := [] } ∧ J w := by
  have hall := ready_all hacc hr h.size
  refine ⟨?_, ?_⟩
  · rw [h.act, all_true h.size hall, actOf_end]
  · rcases h.wld with ⟨h1, _⟩ | ⟨_, h2⟩
    · rw [hall c hc] at h1; cases h1
    · exact h2
end
end
end Go.Proofs.YthgpheopnhajaaaGreatDoor

/- merger.shares' iterator, walked. -/
namespace Go.Proofs.YthgpheopnhajaaaGreatDoor
open Go.RowKit Go.Shelf
attribute [local go_sem] size_bs toList_bs Oper.semAt_some
/-- what the iterator reads -/
structure ShIn (B0 B1 B2 B3 : Nat) (ls : List LotV) (A : Option Addr) (c : Nat) (ns ps ks : List Bs) (A1 : Option Addr) (c1 : Nat) (A2 : Option Addr) (c2 : Nat) (A3 : Option Addr) (c3 : Nat) (W : World) : Prop where
  b0 : Blk W B0 22 #[.slice A ls.length c]
  b1 : Blk W B1 106 #[.slice A1 ls.length c1]
  b2 : Blk W B2 106 #[.slice A2 ls.length c2]
  b3 : Blk W B3 106 #[.slice A3 ls.length c3]
  a : RdL W A ls
  r1 : RdS W A1 ns
  r2 : RdS W A2 ps
  r3 : RdS W A3 ks
set_option maxRecDepth 100000 in
set_option maxHeartbeats 4000000 in
theorem mgShares3 (n l : Nat) (B0 B1 B2 B3 : Nat) (ls : List LotV) (A : Option Addr) (c : Nat) (ns ps ks : List Bs) (A1 A2 A3 : Option Addr) (c1 c2 c3 : Nat) (hn : ls.length ≤ 1000000)
    (l1 : ns.length = ls.length) (l2 : ps.length = ls.length) (l3 : ks.length = ls.length) (J : Nat → World → Prop)
    (hJ : ∀ k W, J k W → ShIn B0 B1 B2 B3 ls A c ns ps ks A1 c1 A2 c2 A3 c3 W) (hX : ∀ k W W', J k W → Ext W W' → J k W')
    (hY : ∀ k (hk : k < ls.length) W, J k W → YieldAt Fence.wide (n - 1) Tryz.prog l #[sv (ls[k]'hk) (ns[k]'(by omega)) (ps[k]'(by omega)) (ks[k]'(by omega))] W (YldEnds J k)) (W : World) (h0 : J 0 W) :
    CallsIn Fence.wide n Tryz.prog 111 #[.func (.yield l) #[] #[], .pointer (some ⟨B0, 0, none⟩), .pointer (some ⟨B1, 0, none⟩), .pointer (some ⟨B2, 0, none⟩), .pointer (some ⟨B3, 0, none⟩)] W fun e W' => (∃ v, e = .returned v) ∧ J ls.length W' := by
  have hfn : ∀ k, Fence.wide.fn k := fun _ => trivial
  have hdp : Fence.wide.depth.isSome = false := rfl
  have HLL := Lib.hid (And.intro l1 (And.intro l2 l3))
  have HJ := Lib.hid hJ
  have HX := Lib.hid hX
  have HY := Lib.hid hY
  have H0 := Lib.hid h0
  clear hJ hX hY h0
  have q0 := (HJ.out 0 W H0.out).b0.cell 0
  simp only [List.getElem?_toArray, List.getElem?_cons_zero] at q0
  refine callsIn_of_wp Tryz.func111 rfl trivial ?_ rfl
  simp only [Tryz.ntmps111, List.size_toArray, List.length_cons, List.length_nil, Nat.reduceAdd, Nat.reduceSub, Array.replicate_succ, Array.replicate_zero, List.push_toArray, List.append_toArray, List.nil_append, List.cons_append]
  gi_wp2
  gi_loopw [10, 6, 7] (fun i _ _ wr => ∃ k : Nat, k ≤ ls.length ∧ i = .int .i64 k ∧ J k wr) (fun i _ _ _ => ls.length - (intOf i).toNat)
  case atStart => exact ⟨0, by omega, rfl, H0.out⟩
  case round =>
    clear H0 q0
    obtain ⟨k, hk, rfl, h⟩ := hrel
    have hh := HJ.out k wr h
    by_cases hlt : k < ls.length
    · obtain ⟨b, o, rfl, hb, c0, c1', c2', c3', c4, c5, c6⟩ := hh.a.at_ hlt
      have HN := Lib.hid (HX.out k wr (wr.alloc (.cells (lc (ls[k]'hlt)) 71)).drew h (Ext.new _ _).drew)
      have HY1 := Lib.hid (HY.out k hlt _ HN.out)
      have HHN := Lib.hid (HJ.out k _ HN.out)
      have HB := Lib.hid ((Blk.new wr 71 (lc (ls[k]'hlt))).drew)
      obtain ⟨g1, o1, rfl, hg1, w1⟩ := HHN.out.r1.at_ (k := k) (by omega)
      obtain ⟨g2, o2, rfl, hg2, w2⟩ := HHN.out.r2.at_ (k := k) (by omega)
      obtain ⟨g3, o3, rfl, hg3, w3⟩ := HHN.out.r3.at_ (k := k) (by omega)
      have hki : (k : Int) < (ls.length : Int) := by omega
      have hk0 : (0 : Int) ≤ (k : Int) := by omega
      clear h hh
      generalize ns[k]'(by omega) = n1 at *
      generalize ps[k]'(by omega) = p1 at *
      generalize ks[k]'(by omega) = k1 at *
      generalize ls[k]'hlt = x at *
      obtain ⟨xi, xn, xa, xo, xq, xc, xu⟩ := x
      gi_wp2
      refine wpIn_region_any (by kernel_rfl) ?_
      change wpAnyIn _ _ _ _ _ _ _ _ _ (World.drew (wr.alloc (.cells #[.string (bs xi), .string (bs xn), .int .i64 xa, .int .i64 xo, .string (bs xq), .string (bs xc), .string (bs xu)] 71)))
      generalize World.drew (wr.alloc (.cells #[.string (bs xi), .string (bs xn), .int .i64 xa, .int .i64 xo, .string (bs xq), .string (bs xc), .string (bs xu)] 71)) = Wd at *
      obtain ⟨y0, y1, y2, y3, y4, y5, y6⟩ := lotBlk HB.out (Ext.refl Wd)
      have z1 := HHN.out.b1.cell 0
      have z2 := HHN.out.b2.cell 0
      have z3 := HHN.out.b3.cell 0
      simp only [List.getElem?_toArray, List.getElem?_cons_zero] at z1 z2 z3
      generalize hX7 : wr.heap.size = X7 at *
      have r1 : (Instr.loadAt 71 (.pointer (some ⟨X7, 0, none⟩))).run Tryz.prog Wd = .ok (.agg #[.string (bs xi), .string (bs xn), .int .i64 xa, .int .i64 xo, .string (bs xq), .string (bs xc), .string (bs xu)]) Wd := by go_simp
      have s1 : (Instr.loadAt 106 (.pointer (some ⟨B1, 0, none⟩))).run Tryz.prog Wd = .ok (.slice (some ⟨g1, o1, none⟩) ls.length c1) Wd := by go_simp
      have i1 : (Instr.indexAt 106 (.slice (some ⟨g1, o1, none⟩) ls.length c1) (.int .i64 k)).run Tryz.prog Wd = .ok (.pointer (some ⟨g1, o1 + k, none⟩)) Wd := by go_simp
      have t1 : (Instr.loadAt 24 (.pointer (some ⟨g1, o1 + k, none⟩))).run Tryz.prog Wd = .ok (.string (bs n1)) Wd := by go_simp
      have s2 : (Instr.loadAt 106 (.pointer (some ⟨B2, 0, none⟩))).run Tryz.prog Wd = .ok (.slice (some ⟨g2, o2, none⟩) ls.length c2) Wd := by go_simp
      have i2 : (Instr.indexAt 106 (.slice (some ⟨g2, o2, none⟩) ls.length c2) (.int .i64 k)).run Tryz.prog Wd = .ok (.pointer (some ⟨g2, o2 + k, none⟩)) Wd := by go_simp
      have t2 : (Instr.loadAt 24 (.pointer (some ⟨g2, o2 + k, none⟩))).run Tryz.prog Wd = .ok (.string (bs p1)) Wd := by go_simp
      have s3 : (Instr.loadAt 106 (.pointer (some ⟨B3, 0, none⟩))).run Tryz.prog Wd = .ok (.slice (some ⟨g3, o3, none⟩) ls.length c3) Wd := by go_simp
      have i3 : (Instr.indexAt 106 (.slice (some ⟨g3, o3, none⟩) ls.length c3) (.int .i64 k)).run Tryz.prog Wd = .ok (.pointer (some ⟨g3, o3 + k, none⟩)) Wd := by go_simp
      have t3 : (Instr.loadAt 24 (.pointer (some ⟨g3, o3 + k, none⟩))).run Tryz.prog Wd = .ok (.string (bs k1)) Wd := by go_simp
      have bld : (Instr.build 102 #[(0, Value.agg #[.string (bs xi), .string (bs xn), .int .i64 xa, .int .i64 xo, .string (bs xq), .string (bs xc), .string (bs xu)]), (1, Value.string (bs n1)), (2, Value.string (bs p1)), (3, Value.string (bs k1))]).run Tryz.prog Wd = .ok (Value.agg #[.string (bs xi), .string (bs xn), .int .i64 xa, .int .i64 xo, .string (bs xq), .string (bs xc), .string (bs xu), .string (bs n1), .string (bs p1), .string (bs k1)]) Wd := by go_simp
      refine wpAnyIn_inv (Inv := ChInv _ _ (fun s => (#[Value.func (.yield l) #[] #[], Value.agg #[.string (bs xi), .string (bs xn), .int .i64 xa, .int .i64 xo, .string (bs xq), .string (bs xc), .string (bs xu)], Value.slice (some ⟨g1, o1, none⟩) ls.length c1, Value.int .i64 k, Value.pointer (some ⟨g1, o1 + k, none⟩), Value.string (bs n1), Value.slice (some ⟨g2, o2, none⟩) ls.length c2, Value.int .i64 k, Value.pointer (some ⟨g2, o2 + k, none⟩), Value.string (bs p1), Value.slice (some ⟨g3, o3, none⟩) ls.length c3, Value.int .i64 k, Value.pointer (some ⟨g3, o3 + k, none⟩), Value.string (bs k1), Value.agg #[.string (bs xi), .string (bs xn), .int .i64 xa, .int .i64 xo, .string (bs xq), .string (bs xc), .string (bs xu), .string (bs n1), .string (bs p1), .string (bs k1)], Value.bool true, Value.bool false] : Array Value).getD (s - 15) undef) 15 15 Wd (fun W => J (k + 1) W)) ?hend ?hz ?hstep _ _ _ _ (ChInv.start _)
      case hz => exact fun listed a w' h => ready_nil (by have := h.cnt; omega) h.size
      case hend =>
        intro f listed a w' h hr
        obtain ⟨ha, hj⟩ := h.fin (by decide) hr (by kernel_rfl)
        have ha2 : a = ({ tmps := #[Value.func (.yield l) #[] #[], Value.pointer (some ⟨B0, 0, none⟩), Value.pointer (some ⟨B1, 0, none⟩), Value.pointer (some ⟨B2, 0, none⟩), Value.pointer (some ⟨B3, 0, none⟩), undef, Value.int .i64 k, Value.pointer (some ⟨X7, 0, none⟩), Value.slice (some ⟨b, o, none⟩) ls.length c, Value.int .i64 ls.length, Value.int .i64 k, Value.bool true, Value.int .i64 k, Value.pointer (some ⟨b, o + k * 7, none⟩), Value.agg #[.string (bs xi), .string (bs xn), .int .i64 xa, .int .i64 xo, .string (bs xq), .string (bs xc), .string (bs xu)], Value.func (.yield l) #[] #[], Value.agg #[.string (bs xi), .string (bs xn), .int .i64 xa, .int .i64 xo, .string (bs xq), .string (bs xc), .string (bs xu)], Value.slice (some ⟨g1, o1, none⟩) ls.length c1, Value.int .i64 k, Value.pointer (some ⟨g1, o1 + k, none⟩), Value.string (bs n1), Value.slice (some ⟨g2, o2, none⟩) ls.length c2, Value.int .i64 k, Value.pointer (some ⟨g2, o2 + k, none⟩), Value.string (bs p1), Value.slice (some ⟨g3, o3, none⟩) ls.length c3, Value.int .i64 k, Value.pointer (some ⟨g3, o3 + k, none⟩), Value.string (bs k1), Value.agg #[.string (bs xi), .string (bs xn), .int .i64 xa, .int .i64 xo, .string (bs xq), .string (bs xc), .string (bs xu), .string (bs n1), .string (bs p1), .string (bs k1)], Value.bool true, Value.bool false, u32], defers := [] } : Act) := ha.trans (by kernel_rfl)
        clear ha
        subst ha2
        have HJ3 := Lib.hid hj
        clear h hr hj
        gi_wp2
        go_roundw
        case rel => exact ⟨k + 1, by omega, by go_num, HJ3.out⟩
        case measure => simp [intOf]; omega
      case hstep =>
        intro f listed a w' i h hi
        have hW : i < 15 → w' = Wd := fun hi15 => h.before hi hi15 (by decide) (by
          intro L hcl h15
          have a0 : L 0 := hcl 15 _ ⟨0, .data⟩ rfl h15 (by simp) rfl
          have a14 : L 14 := hcl 15 _ ⟨14, .data⟩ rfl h15 (by simp) rfl
          have a1 : L 1 := hcl 14 _ ⟨1, .data⟩ rfl a14 (by simp) rfl
          have a5 : L 5 := hcl 14 _ ⟨5, .data⟩ rfl a14 (by simp) rfl
          have a9 : L 9 := hcl 14 _ ⟨9, .data⟩ rfl a14 (by simp) rfl
          have a13 : L 13 := hcl 14 _ ⟨13, .data⟩ rfl a14 (by simp) rfl
          have a4 : L 4 := hcl 5 _ ⟨4, .data⟩ rfl a5 (by simp) rfl
          have a2 : L 2 := hcl 4 _ ⟨2, .data⟩ rfl a4 (by simp) rfl
          have a3 : L 3 := hcl 4 _ ⟨3, .data⟩ rfl a4 (by simp) rfl
          have a8 : L 8 := hcl 9 _ ⟨8, .data⟩ rfl a9 (by simp) rfl
          have a6 : L 6 := hcl 8 _ ⟨6, .data⟩ rfl a8 (by simp) rfl
          have a7 : L 7 := hcl 8 _ ⟨7, .data⟩ rfl a8 (by simp) rfl
          have a12 : L 12 := hcl 13 _ ⟨12, .data⟩ rfl a13 (by simp) rfl
          have a10 : L 10 := hcl 12 _ ⟨10, .data⟩ rfl a12 (by simp) rfl
          have a11 : L 11 := hcl 12 _ ⟨11, .data⟩ rfl a12 (by simp) rfl
          intro i hi
          obtain rfl | rfl | rfl | rfl | rfl | rfl | rfl | rfl | rfl | rfl | rfl | rfl | rfl | rfl | rfl : i = 0 ∨ i = 1 ∨ i = 2 ∨ i = 3 ∨ i = 4 ∨ i = 5 ∨ i = 6 ∨ i = 7 ∨ i = 8 ∨ i = 9 ∨ i = 10 ∨ i = 11 ∨ i = 12 ∨ i = 13 ∨ i = 14 := by omega
          · exact a0
          · exact a1
          · exact a2
          · exact a3
          · exact a4
          · exact a5
          · exact a6
          · exact a7
          · exact a8
          · exact a9
          · exact a10
          · exact a11
          · exact a12
          · exact a13
          · exact a14
          )
        have hlt : i < 17 := ready_lt hi
        have hbz : ∀ s, s < 15 → a.tmps.getD s undef = _ := fun s hs => h.base' (s := s) (by show s < 33; omega) (.inl hs)
        obtain rfl | rfl | rfl | rfl | rfl | rfl | rfl | rfl | rfl | rfl | rfl | rfl | rfl | rfl | rfl | rfl | rfl : i = 0 ∨ i = 1 ∨ i = 2 ∨ i = 3 ∨ i = 4 ∨ i = 5 ∨ i = 6 ∨ i = 7 ∨ i = 8 ∨ i = 9 ∨ i = 10 ∨ i = 11 ∨ i = 12 ∨ i = 13 ∨ i = 14 ∨ i = 15 ∨ i = 16 := by omega
        · skip
          obtain rfl := hW (by omega)
          have e0 : a.tmps.getD 0 undef = Value.func (.yield l) #[] #[] := hbz 0 (by omega)
          refine stepIn_read hfn rfl rfl rfl _ ?_ (h.step hi rfl rfl _ (.inl ⟨by decide, rfl⟩))
          simp [execOp, eval_tmpM, e0]
        · skip
          obtain rfl := hW (by omega)
          have e7 : a.tmps.getD 7 undef = Value.pointer (some ⟨X7, 0, none⟩) := hbz 7 (by omega)
          refine stepIn_read hfn rfl rfl rfl _ ?_ (h.step hi rfl rfl _ (.inl ⟨by decide, rfl⟩))
          simp [execOp, eval_tmpM, e7, r1]
        · skip
          obtain rfl := hW (by omega)
          have e2 : a.tmps.getD 2 undef = Value.pointer (some ⟨B1, 0, none⟩) := hbz 2 (by omega)
          refine stepIn_read hfn rfl rfl rfl _ ?_ (h.step hi rfl rfl _ (.inl ⟨by decide, rfl⟩))
          simp [execOp, eval_tmpM, e2, s1]
        · skip
          obtain rfl := hW (by omega)
          have e6 : a.tmps.getD 6 undef = Value.int .i64 k := hbz 6 (by omega)
          refine stepIn_read hfn rfl rfl rfl _ ?_ (h.step hi rfl rfl _ (.inl ⟨by decide, rfl⟩))
          simp [execOp, eval_tmpM, e6]
        · skip
          obtain rfl := hW (by omega)
          have e17 : a.tmps.getD 17 undef = Value.slice (some ⟨g1, o1, none⟩) ls.length c1 := h.need (by show 15 + 17 ≤ 33; decide) hi rfl 2 (by show 2 < 17; decide) rfl
          have e18 : a.tmps.getD 18 undef = Value.int .i64 k := h.need (by show 15 + 17 ≤ 33; decide) hi rfl 3 (by show 3 < 17; decide) rfl
          refine stepIn_read hfn rfl rfl rfl _ ?_ (h.step hi rfl rfl _ (.inl ⟨by decide, rfl⟩))
          simp [execOp, eval_tmpM, e17, e18, i1]
        · skip
          obtain rfl := hW (by omega)
          have e19 : a.tmps.getD 19 undef = Value.pointer (some ⟨g1, o1 + k, none⟩) := h.need (by show 15 + 17 ≤ 33; decide) hi rfl 4 (by show 4 < 17; decide) rfl
          refine stepIn_read hfn rfl rfl rfl _ ?_ (h.step hi rfl rfl _ (.inl ⟨by decide, rfl⟩))
          simp [execOp, eval_tmpM, e19, t1]
        · skip
          obtain rfl := hW (by omega)
          have e3 : a.tmps.getD 3 undef = Value.pointer (some ⟨B2, 0, none⟩) := hbz 3 (by omega)
          refine stepIn_read hfn rfl rfl rfl _ ?_ (h.step hi rfl rfl _ (.inl ⟨by decide, rfl⟩))
          simp [execOp, eval_tmpM, e3, s2]
        · skip
          obtain rfl := hW (by omega)
          have e6 : a.tmps.getD 6 undef = Value.int .i64 k := hbz 6 (by omega)
          refine stepIn_read hfn rfl rfl rfl _ ?_ (h.step hi rfl rfl _ (.inl ⟨by decide, rfl⟩))
          simp [execOp, eval_tmpM, e6]
        · skip
          obtain rfl := hW (by omega)
          have e21 : a.tmps.getD 21 undef = Value.slice (some ⟨g2, o2, none⟩) ls.length c2 := h.need (by show 15 + 17 ≤ 33; decide) hi rfl 6 (by show 6 < 17; decide) rfl
          have e22 : a.tmps.getD 22 undef = Value.int .i64 k := h.need (by show 15 + 17 ≤ 33; decide) hi rfl 7 (by show 7 < 17; decide) rfl
          refine stepIn_read hfn rfl rfl rfl _ ?_ (h.step hi rfl rfl _ (.inl ⟨by decide, rfl⟩))
          simp [execOp, eval_tmpM, e21, e22, i2]
        · skip
          obtain rfl := hW (by omega)
          have e23 : a.tmps.getD 23 undef = Value.pointer (some ⟨g2, o2 + k, none⟩) := h.need (by show 15 + 17 ≤ 33; decide) hi rfl 8 (by show 8 < 17; decide) rfl
          refine stepIn_read hfn rfl rfl rfl _ ?_ (h.step hi rfl rfl _ (.inl ⟨by decide, rfl⟩))
          simp [execOp, eval_tmpM, e23, t2]
        · skip
          obtain rfl := hW (by omega)
          have e4 : a.tmps.getD 4 undef = Value.pointer (some ⟨B3, 0, none⟩) := hbz 4 (by omega)
          refine stepIn_read hfn rfl rfl rfl _ ?_ (h.step hi rfl rfl _ (.inl ⟨by decide, rfl⟩))
          simp [execOp, eval_tmpM, e4, s3]
        · skip
          obtain rfl := hW (by omega)
          have e6 : a.tmps.getD 6 undef = Value.int .i64 k := hbz 6 (by omega)
          refine stepIn_read hfn rfl rfl rfl _ ?_ (h.step hi rfl rfl _ (.inl ⟨by decide, rfl⟩))
          simp [execOp, eval_tmpM, e6]
        · skip
          obtain rfl := hW (by omega)
          have e25 : a.tmps.getD 25 undef = Value.slice (some ⟨g3, o3, none⟩) ls.length c3 := h.need (by show 15 + 17 ≤ 33; decide) hi rfl 10 (by show 10 < 17; decide) rfl
          have e26 : a.tmps.getD 26 undef = Value.int .i64 k := h.need (by show 15 + 17 ≤ 33; decide) hi rfl 11 (by show 11 < 17; decide) rfl
          refine stepIn_read hfn rfl rfl rfl _ ?_ (h.step hi rfl rfl _ (.inl ⟨by decide, rfl⟩))
          simp [execOp, eval_tmpM, e25, e26, i3]
        · skip
          obtain rfl := hW (by omega)
          have e27 : a.tmps.getD 27 undef = Value.pointer (some ⟨g3, o3 + k, none⟩) := h.need (by show 15 + 17 ≤ 33; decide) hi rfl 12 (by show 12 < 17; decide) rfl
          refine stepIn_read hfn rfl rfl rfl _ ?_ (h.step hi rfl rfl _ (.inl ⟨by decide, rfl⟩))
          simp [execOp, eval_tmpM, e27, t3]
        · skip
          obtain rfl := hW (by omega)
          have e16 : a.tmps.getD 16 undef = Value.agg #[.string (bs xi), .string (bs xn), .int .i64 xa, .int .i64 xo, .string (bs xq), .string (bs xc), .string (bs xu)] := h.need (by show 15 + 17 ≤ 33; decide) hi rfl 1 (by show 1 < 17; decide) rfl
          have e20 : a.tmps.getD 20 undef = Value.string (bs n1) := h.need (by show 15 + 17 ≤ 33; decide) hi rfl 5 (by show 5 < 17; decide) rfl
          have e24 : a.tmps.getD 24 undef = Value.string (bs p1) := h.need (by show 15 + 17 ≤ 33; decide) hi rfl 9 (by show 9 < 17; decide) rfl
          have e28 : a.tmps.getD 28 undef = Value.string (bs k1) := h.need (by show 15 + 17 ≤ 33; decide) hi rfl 13 (by show 13 < 17; decide) rfl
          refine stepIn_read hfn rfl rfl rfl _ ?_ (h.step hi rfl rfl _ (.inl ⟨by decide, rfl⟩))
          simp [execOp, eval_tmpM, e16, e20, e24, e28, bld]
        · obtain rfl := h.at_call hi
          have e15 : a.tmps.getD 15 undef = Value.func (.yield l) #[] #[] := h.need (by show 15 + 17 ≤ 33; decide) hi rfl 0 (by show 0 < 17; decide) rfl
          have e29 : a.tmps.getD 29 undef = Value.agg #[.string (bs xi), .string (bs xn), .int .i64 xa, .int .i64 xo, .string (bs xq), .string (bs xc), .string (bs xu), .string (bs n1), .string (bs p1), .string (bs k1)] := h.need (by show 15 + 17 ≤ 33; decide) hi rfl 14 (by show 14 < 17; decide) rfl
          obtain ⟨fn, tmps, assign, body, hy, hR⟩ := HY1.out
          refine stepIn_round hfn hdp rfl rfl rfl l fn tmps assign body ?_ hR ?_
          · simp [execOp, eval_tmpM, e15, e29, resolve, invoke, Deferred.ofValue, hy]
          · rintro e W3 ⟨rfl, hJ3⟩
            exact ⟨_, rfl, h.step hi rfl rfl _ (.inr ⟨rfl, hJ3⟩)⟩
        · skip
          have e30 : a.tmps.getD 30 undef = .bool true := h.need (by show 15 + 17 ≤ 33; decide) hi rfl 15 (by show 15 < 17; decide) rfl
          refine stepIn_read hfn rfl rfl rfl _ ?_ (h.step hi rfl rfl _ (.inl ⟨by decide, rfl⟩))
          simp [execOp, eval_tmpM, e30]
          go_simp
    · obtain rfl : k = ls.length := by omega
      have HH := Lib.hid h
      clear h hh
      gi_wp2
      go_end0
      exact ⟨⟨_, rfl⟩, HH.out⟩
end Go.Proofs.YthgpheopnhajaaaGreatDoor

/- A region that draws its order: everything reads or only grows the world, and one operation stands behind all. -/
namespace Go.Proofs.YthgpheopnhajaaaGreatDoor
open Go.RowKit Go.Shelf
section
variable {P : Program} {ops : Array Oper} {Q : Exit → Act → World → Prop}
structure GrInv (ops : Array Oper) (base : Array Value) (val : Nat → Value) (d c : Nat) (R J : World → Prop) (f : Nat) (listed : Array Bool) (a : Act) (w : World) : Prop where
  size : listed.size = ops.size
  cnt : listed.toList.count false ≤ f
  act : a = actOf base (whoOf d ops.size) val listed
  cl : ∀ i o e, ops[i]? = some o → listed.getD i false = true → e ∈ o.after.toList → Region.binds .any e = true → listed.getD e.on false = true
  wld : (listed.getD c false = false ∧ R w) ∨ (listed.getD c false = true ∧ J w)
variable {base : Array Value} {val : Nat → Value} {d c f i : Nat} {R J : World → Prop} {w : World} {listed : Array Bool} {a : Act} {o : Oper}
theorem actOf_skip {who : Nat → Option Nat} (hw : ∀ s, s < base.size → who s ≠ some i) (hi : i < listed.size) : actOf base who val listed = actOf base who val (listed.setIfInBounds i true) := by
  have key : (actOf base who val listed).tmps = (actOf base who val (listed.setIfInBounds i true)).tmps := by
    unfold actOf
    dsimp only
    apply Array.ext
    · simp
    · intro s h1 h2
      have hs : s < base.size := by simpa using h2
      rw [Array.getElem_ofFn, Array.getElem_ofFn]
      dsimp only
      cases hq : who s with
      | none => rfl
      | some j =>
        dsimp only
        have hne : j ≠ i := fun h => hw s hs (by rw [hq, h])
        rw [getD_set hi, if_neg hne]
  show ({ tmps := (actOf base who val listed).tmps, defers := [] } : Act) = _
  rw [key]
  rfl
theorem GrInv.need (h : GrInv ops base val d c R J (f + 1) listed a w) (hi : i ∈ Region.ready .any ops listed) (ho : ops[i]? = some o) (p : Nat) (hps : p < ops.size) (hd : d + p < base.size) (hp : (o.after.toList.any fun e => e.on == p && Region.binds .any e) = true) : a.tmps.getD (d + p) undef = val (d + p) := by
  rw [h.act]
  exact actOf_val hd (whoOf_at hps) (ready_pred hi ho hp)
theorem GrInv.base' (h : GrInv ops base val d c R J f listed a w) {s : Nat} (hs : s < base.size) (hn : s < d ∨ d + ops.size ≤ s) : a.tmps.getD s undef = base.getD s undef := by
  rw [h.act]
  exact actOf_base hs (by unfold whoOf; rw [if_neg (by omega)])
theorem GrInv.more (h : GrInv ops base val d c R J (f + 1) listed a w) (hi : i ∈ Region.ready .any ops listed) (ho : ops[i]? = some o) (a' : Act) (w' : World) (ha : a' = actOf base (whoOf d ops.size) val (listed.setIfInBounds i true)) (hw : (i ≠ c ∧ ((R w → R w') ∧ (J w → J w'))) ∨ (i = c ∧ J w')) :
    GrInv ops base val d c R J f (listed.setIfInBounds i true) a' w' := by
  have hlt := ready_lt hi
  have hs := h.size
  have hc := count_set (ready_not hi)
  have hcn := h.cnt
  refine ⟨by rw [Array.size_setIfInBounds]; exact hs, by omega, ha, ?_, ?_⟩
  · intro j oj e hj hl he hb
    rcases listed_set hl with e1 | e1
    · subst e1
      rw [ho] at hj
      cases hj
      refine up_listed (ready_pred hi ho ?_)
      rw [List.any_eq_true]
      exact ⟨e, he, by rw [hb]; simp⟩
    · exact up_listed (h.cl j oj e hj e1 he hb)
  · rcases hw with ⟨hne, h3, h4⟩ | ⟨rfl, hj⟩
    · rcases h.wld with ⟨h1, h2⟩ | ⟨h1, h2⟩
      · left
        refine ⟨?_, h3 h2⟩
        cases hq : (listed.setIfInBounds i true).getD c false
        · rfl
        · rcases listed_set hq with e | e
          · exact absurd e.symm hne
          · rw [h1] at e; cases e
      · exact .inr ⟨up_listed h1, h4 h2⟩
    · right
      refine ⟨?_, hj⟩
      rw [Array.getD_eq_getD_getElem?, Array.getElem?_setIfInBounds_self_of_lt (by omega)]
      rfl
/-- an operation with a slot, ahead of the last -/
theorem GrInv.step (h : GrInv ops base val d c R J (f + 1) listed a w) (hi : i ∈ Region.ready .any ops listed) (ho : ops[i]? = some o) (hdst : o.dst = some (d + i)) (w' : World) (hw : (i ≠ c ∧ ((R w → R w') ∧ (J w → J w'))) ∨ (i = c ∧ J w')) :
    GrInv ops base val d c R J f (listed.setIfInBounds i true) (a.put o.dst (val (d + i))) w' := by
  refine h.more hi ho _ w' ?_ hw
  have hlt := ready_lt hi
  have hs := h.size
  rw [hdst, h.act]
  exact actOf_put (whoOf_at hlt) (fun s hs => whoOf_inj hs) (by omega)
/-- an operation without a slot -/
theorem GrInv.stepN (h : GrInv ops base val d c R J (f + 1) listed a w) (hi : i ∈ Region.ready .any ops listed) (ho : ops[i]? = some o) (hdst : o.dst = none) (hd : base.size ≤ d + i) (w' : World) (v : Value) (hw : (i ≠ c ∧ ((R w → R w') ∧ (J w → J w'))) ∨ (i = c ∧ J w')) :
    GrInv ops base val d c R J f (listed.setIfInBounds i true) (a.put o.dst v) w' := by
  refine h.more hi ho _ w' ?_ hw
  have hlt := ready_lt hi
  have hs := h.size
  rw [hdst, h.act]
  exact actOf_skip (fun s hs hq => by have := whoOf_inj hq; omega) (by omega)
theorem GrInv.before (h : GrInv ops base val d c R J f listed a w) (hi : i ∈ Region.ready .any ops listed) (hic : i < c) (_hsz : c < ops.size)
    (hdep : ∀ L : Nat → Prop, (∀ i o e, ops[i]? = some o → L i → e ∈ o.after.toList → Region.binds .any e = true → L e.on) → L c → ∀ i, i < c → L i) : R w := by
  rcases h.wld with ⟨_, h2⟩ | ⟨h1, _⟩
  · exact h2
  · have := hdep (fun i => listed.getD i false = true) (fun i o e ho hl he hb => h.cl i o e ho hl he hb) h1 i hic
    have hn := ready_not hi
    rw [Array.getD_eq_getD_getElem?] at this hn
    have hlt := ready_lt hi
    have hs := h.size
    rw [Array.getElem?_eq_getElem (by omega)] at this hn
    exact absurd (hn.symm.trans this) (by decide)
theorem GrInv.at_last (h : GrInv ops base val d c R J f listed a w) (hi : c ∈ Region.ready .any ops listed) : R w := by
  rcases h.wld with ⟨_, h2⟩ | ⟨h1, _⟩
  · exact h2
  · have hn := ready_not hi
    have hlt := ready_lt hi
    have hs := h.size
    rw [Array.getD_eq_getD_getElem?] at h1 hn
    rw [Array.getElem?_eq_getElem (by omega)] at h1 hn
    exact absurd (hn.symm.trans h1) (by decide)
theorem GrInv.start (J : World → Prop) (hR : R w) : GrInv ops base val d c R J ops.size (Array.replicate ops.size false) { tmps := base, defers := [] } w := by
  have hf : ∀ i, (Array.replicate ops.size false).getD i false = false := fun i => by
    rw [Array.getD_eq_getD_getElem?, Array.getElem?_replicate]
    split <;> rfl
  refine ⟨by simp, by rw [Array.toList_replicate, List.count_replicate_self]; exact Nat.le_refl _, actOf_none.symm, ?_, .inl ⟨hf c, hR⟩⟩
  intro i o e _ hl
  rw [hf i] at hl; cases hl
theorem GrInv.fin (h : GrInv ops base val d c R J f listed a w) (hc : c < ops.size) (hr : Region.ready .any ops listed = [])
    (hacc : ((List.range ops.size).all fun i => match ops[i]? with | some o => o.after.toList.all (fun e => decide (e.on < i)) | none => true) = true) :
    a = (List.range ops.size).foldl (fun a j => a.put (some (d + j)) (val (d + j))) { tmps := base, defers := [] } ∧ J w := by
  have hall := ready_all hacc hr h.size
  refine ⟨?_, ?_⟩
  · rw [h.act, all_true h.size hall, actOf_end]
  · rcases h.wld with ⟨h1, _⟩ | ⟨_, h2⟩
    · rw [hall c hc] at h1; cases h1
    · exact h2
/-- one operation that ends with a value -/
theorem stepP_read {K : Act → World → Prop} {w' : World} (ho : ops[i]? = some o) (hg : o.guard = none) (v : Value) (hrun : (execOp a.eval o).run P w = .ok (.value v) w') (hK : K (a.put o.dst v) w') : wpOp P ops Q i K a w := by
  unfold wpOp
  rw [ho]
  dsimp only
  rw [if_pos (by simp [Region.wanted, hg])]
  refine .inl ?_
  unfold Oper.wp
  rw [hrun]
  exact hK
theorem stepP_skip {K : Act → World → Prop} {w' : World} (ho : ops[i]? = some o) (hg : o.guard = none) (hrun : (execOp a.eval o).run P w = .ok .skip w') (hK : K (a.put o.dst undef) w') : wpOp P ops Q i K a w := by
  unfold wpOp
  rw [ho]
  dsimp only
  rw [if_pos (by simp [Region.wanted, hg])]
  refine .inl ?_
  unfold Oper.wp
  rw [hrun]
  exact hK
theorem stepP_call {K : Act → World → Prop} {fn : Nat} {args : Array Value} {post : Ending → World → Prop} (ho : ops[i]? = some o) (hg : o.guard = none) (hrun : (execOp a.eval o).run P w = .ok (.enter fn args) w) (hC : Calls P fn args w post) (hK : ∀ e w', post e w' → ∃ v, e = .returned v ∧ K (a.put o.dst v) w') : wpOp P ops Q i K a w := by
  unfold wpOp
  rw [ho]
  dsimp only
  rw [if_pos (by simp [Region.wanted, hg])]
  refine .inl ?_
  unfold Oper.wp
  rw [hrun]
  refine hC.mono ?_
  intro e w' hp
  obtain ⟨v, rfl, hk⟩ := hK e w' hp
  exact hk
end
end Go.Proofs.YthgpheopnhajaaaGreatDoor
