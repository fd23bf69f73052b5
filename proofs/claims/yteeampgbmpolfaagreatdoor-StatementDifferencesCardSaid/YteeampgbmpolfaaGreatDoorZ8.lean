/- The seat's texts, part 8. -/
import Derived.Test.YteeampgbmpolfaaGreatDoorZ7
import Derived.Sort.Walk0
import Derived.Lib.SlicesCompact
import Derived.Shelf.Sort.Plain
import Derived.Shelf.Slices.In.SortNone
import Derived.Sort.OwnSorted
import Derived.Maps.AppendAt
import Derived.Deep.AppendLies
import Derived.RegionTactic
import Derived.OwnWalk
import Derived.Lib.AppendZeros
import Derived.BigQuiet
import Derived.Deep.RegionLaw

/- Plain: what lies between two statements. No program in sight. -/
namespace Go.Proofs.YteeampgbmpolfaaGreatDoor
open Go.RowKit

def heldQ (hs : List Hd) (n : Bs) : Bs := match hs.find? (fun h => h.ins == n) with | some h => h.qty | none => []
def heldB (hs : List Hd) (n : Bs) : Bool := (hs.map (·.ins)).contains n
theorem heldB_any (hs : List Hd) (n : Bs) : heldB hs n = hs.any (fun h => h.ins == n) := by
  unfold heldB
  induction hs with
  | nil => rfl
  | cons h r ih =>
    rw [List.map_cons, List.contains_cons, ih, List.any_cons]
    congr 1
    rw [Bool.eq_iff_iff, beq_iff_eq, beq_iff_eq]; exact eq_comm
theorem held_hit {hs : List Hd} {n : Bs} {k : Nat} (hk : k < hs.length) (hlow : ∀ (j : Nat) (h : j < hs.length), j < k → (hs[j]'h).ins ≠ n) (he : (hs[k]'hk).ins = n) : heldQ hs n = (hs[k]'hk).qty ∧ heldB hs n = true := by
  have hf : hs.find? (fun h => h.ins == n) = some (hs[k]'hk) := by
    rw [List.find?_eq_some_iff_getElem]
    exact ⟨by simpa using he, k, hk, rfl, fun j hj => by simpa using hlow j (by omega) hj⟩
  refine ⟨by unfold heldQ; rw [hf], ?_⟩
  rw [heldB_any, List.any_eq_true]; exact ⟨_, List.getElem_mem hk, by simpa using he⟩
theorem held_miss {hs : List Hd} {n : Bs} (hlow : ∀ (j : Nat) (h : j < hs.length), (hs[j]'h).ins ≠ n) : heldQ hs n = [] ∧ heldB hs n = false := by
  have hno : ∀ x ∈ hs, x.ins ≠ n := by
    intro x hx
    obtain ⟨j, hj, rfl⟩ := List.getElem_of_mem hx
    exact hlow j hj
  have hf : hs.find? (fun h => h.ins == n) = none := by
    rw [List.find?_eq_none]; intro x hx; simpa using hno x hx
  refine ⟨by unfold heldQ; rw [hf], ?_⟩
  rw [heldB_any, List.any_eq_false]; intro x hx; simpa using hno x hx
theorem heldQ_mem {hs : List Hd} {n : Bs} (h : heldQ hs n ≠ []) : ∃ x ∈ hs, x.qty = heldQ hs n := by
  unfold heldQ at h ⊢
  cases hf : hs.find? (fun h => h.ins == n) with
  | none => rw [hf] at h; exact absurd rfl h
  | some x => exact ⟨x, List.mem_of_find?_eq_some hf, rfl⟩

/-- strictly growing -/
def Grows (l : List Bs) : Prop := l.Pairwise fun x y => lt x y = true
theorem lt_ne {a b : Bs} (h : lt a b = true) : a ≠ b := by rintro rfl; rw [lt_irrefl] at h; cases h
theorem grows_eq : ∀ {a b : List Bs}, Grows a → Grows b → (∀ x, x ∈ a ↔ x ∈ b) → a = b
  | [], [], _, _, _ => rfl
  | [], y :: b, _, _, h => absurd ((h y).2 (by simp)) (by simp)
  | x :: a, [], _, _, h => absurd ((h x).1 (by simp)) (by simp)
  | x :: a, y :: b, ha, hb, h => by
    have ha' := List.pairwise_cons.1 ha
    have hb' := List.pairwise_cons.1 hb
    have e : x = y := by
      rcases List.mem_cons.1 ((h x).1 (by simp)) with e | hx
      · exact e
      · rcases List.mem_cons.1 ((h y).2 (by simp)) with e | hy
        · exact e.symm
        · have h1 := hb'.1 x hx
          have h2 := ha'.1 y hy
          rw [lt_asymm _ _ h1] at h2; cases h2
    subst e
    have : a = b := grows_eq ha'.2 hb'.2 (fun z => by
      constructor
      · intro hz
        rcases List.mem_cons.1 ((h z).1 (by simp [hz])) with e | hz'
        · subst e; exact absurd (ha'.1 z hz) (by rw [lt_irrefl]; decide)
        · exact hz'
      · intro hz
        rcases List.mem_cons.1 ((h z).2 (by simp [hz])) with e | hz'
        · subst e; exact absurd (hb'.1 z hz) (by rw [lt_irrefl]; decide)
        · exact hz')
    rw [this]
theorem grows_filter {l : List Bs} (h : Grows l) (p : Bs → Bool) : Grows (l.filter p) := List.Pairwise.filter p h
theorem le_iff (x y : Bs) : decide (x ≤ y) = !(lt y x) := by
  show decide (x ≤ y) = !(Op.bytesLess y x)
  rw [bytesLess_eq]
  by_cases h : y < x
  · have h' : ¬ (x ≤ y) := fun k => k h
    rw [decide_eq_true h, decide_eq_false h']; rfl
  · have h' : x ≤ y := h
    rw [decide_eq_false h, decide_eq_true h']; rfl
/-- the names of both, in order, each once -/
def unionN (a b : List Bs) : List Bs := Lib.compact ((a ++ b).mergeSort fun x y => decide (x ≤ y))
theorem compact_grows (d : Array Bs) (hd : ∀ i j, i ≤ j → j < d.size → lt (d[j]!) (d[i]!) = false) : ∀ m, m ≤ d.size → Grows (Lib.compactUpTo d m) ∧ ∀ x, x ∈ Lib.compactUpTo d m ↔ ∃ j, j < m ∧ d[j]! = x
  | 0, _ => ⟨by simp [Lib.compactUpTo, Grows], fun x => by simp [Lib.compactUpTo]⟩
  | m + 1, hm => by
    obtain ⟨h1, h2⟩ := compact_grows d hd m (by omega)
    rw [Lib.compactUpTo_succ]
    by_cases hk : Lib.keeps d m = true
    · rw [if_pos hk]
      refine ⟨?_, fun x => ?_⟩
      · unfold Grows
        rw [List.pairwise_append]
        refine ⟨h1, List.pairwise_singleton _ _, fun x hx y hy => ?_⟩
        rw [List.mem_singleton] at hy; subst hy
        obtain ⟨j, hj, rfl⟩ := (h2 x).1 hx
        have h3 : lt (d[m]!) (d[m - 1]!) = false := hd (m - 1) m (by omega) (by omega)
        have h4 : lt (d[m - 1]!) (d[j]!) = false := hd j (m - 1) (by omega) (by omega)
        have h5 : d[m]! ≠ d[m - 1]! := by
          simp only [Lib.keeps, decide_eq_true_eq] at hk
          rcases hk with h | h
          · omega
          · exact h
        have h6 : lt (d[m - 1]!) (d[m]!) = true := by
          cases h : lt (d[m - 1]!) (d[m]!) with
          | true => rfl
          | false => exact absurd (lt_total _ _ h3 h) h5
        cases h7 : lt (d[j]!) (d[m - 1]!) with
        | true => exact lt_trans _ _ _ h7 h6
        | false => rw [lt_total _ _ h7 h4]; exact h6
      · rw [List.mem_append, h2, List.mem_singleton]
        constructor
        · rintro (⟨j, hj, rfl⟩ | rfl)
          · exact ⟨j, by omega, rfl⟩
          · exact ⟨m, by omega, rfl⟩
        · rintro ⟨j, hj, rfl⟩
          rcases Nat.lt_or_ge j m with h | h
          · exact .inl ⟨j, h, rfl⟩
          · obtain rfl : j = m := by omega
            exact .inr rfl
    · rw [if_neg hk, List.append_nil]
      refine ⟨h1, fun x => ?_⟩
      rw [h2]
      have h5 : 0 < m ∧ d[m]! = d[m - 1]! := by
        have hk' : ¬ (m = 0 ∨ d[m]! ≠ d[m - 1]!) := by simpa [Lib.keeps] using hk
        exact ⟨by omega, Classical.not_not.1 (fun h => hk' (.inr h))⟩
      constructor
      · rintro ⟨j, hj, rfl⟩; exact ⟨j, by omega, rfl⟩
      · rintro ⟨j, hj, rfl⟩
        rcases Nat.lt_or_ge j m with h | h
        · exact ⟨j, h, rfl⟩
        · obtain rfl : j = m := by omega
          exact ⟨j - 1, by omega, h5.2.symm⟩
theorem union_facts (a b : List Bs) : Grows (unionN a b) ∧ ∀ x, x ∈ unionN a b ↔ x ∈ a ∨ x ∈ b := by
  have hle : (fun x y : Bs => decide (x ≤ y)) = fun x y => !(lt y x) := by funext x y; exact le_iff x y
  have hp := List.mergeSort_perm (a ++ b) (fun x y => decide (x ≤ y))
  have hs : ((a ++ b).mergeSort (fun x y => decide (x ≤ y))).Pairwise (fun x y => lt y x = false) := by
    have := List.pairwise_mergeSort (le := fun x y : Bs => !(lt y x)) (fun x y z h1 h2 => by
      simp only [Bool.not_eq_eq_eq_not, Bool.not_true] at h1 h2 ⊢
      cases h : lt z x with
      | false => rfl
      | true =>
        exfalso
        cases hxy : lt x y with
        | true => have := lt_trans _ _ _ h hxy; rw [this] at h2; cases h2
        | false => rw [lt_total _ _ hxy h1] at h; rw [h] at h2; cases h2) (fun x y => by
      cases h : lt y x with
      | false => rfl
      | true => rw [lt_asymm _ _ h]; rfl) (a ++ b)
    rw [hle]
    exact this.imp (fun h => by simpa using h)
  generalize hz : (a ++ b).mergeSort (fun x y => decide (x ≤ y)) = zs at *
  have key := compact_grows zs.toArray (fun i j hij hj => by
    have hj' : j < zs.length := by simpa using hj
    rw [getElem!_pos _ j hj, getElem!_pos _ i (by omega)]
    simp only [List.getElem_toArray]
    rcases Nat.lt_or_ge i j with h | h
    · exact List.pairwise_iff_getElem.1 hs i j (by omega) hj' h
    · obtain rfl : i = j := by omega
      exact lt_irrefl _) zs.length (by simp)
  have e : unionN a b = Lib.compactUpTo zs.toArray zs.length := by unfold unionN Lib.compact; rw [hz]
  rw [e]
  refine ⟨key.1, fun x => ?_⟩
  rw [key.2, ← List.mem_append, ← hp.mem_iff]
  constructor
  · rintro ⟨j, hj, rfl⟩
    rw [getElem!_pos _ j (by simpa using hj)]; simp
  · intro hx
    obtain ⟨j, hj, rfl⟩ := List.getElem_of_mem hx
    exact ⟨j, hj, by rw [getElem!_pos _ j (by simpa using hj)]; simp⟩
/-- how many of the first j names of N are in a -/
def cntIn (N a : List Bs) (j : Nat) : Nat := ((N.take j).filter fun x => a.contains x).length
theorem cntIn_zero (N a : List Bs) : cntIn N a 0 = 0 := rfl
theorem cntIn_succ (N a : List Bs) {j : Nat} (h : j < N.length) : cntIn N a (j + 1) = cntIn N a j + if a.contains (N[j]'h) then 1 else 0 := by
  unfold cntIn
  rw [List.take_succ_eq_append_getElem h, List.filter_append, List.length_append]
  congr 1
  by_cases hc : a.contains (N[j]'h) = true
  · rw [if_pos hc, List.filter_cons_of_pos hc]; rfl
  · rw [if_neg hc, List.filter_cons_of_neg hc]; rfl
theorem filter_self {N a : List Bs} (hN : Grows N) (ha : Grows a) (hs : ∀ x ∈ a, x ∈ N) : a = N.filter fun x => a.contains x :=
  grows_eq ha (grows_filter hN _) (fun x => by
    rw [List.mem_filter]; simp only [List.contains_iff_mem]
    exact ⟨fun h => ⟨hs x h, h⟩, fun h => h.2⟩)
theorem drop_cnt {N a : List Bs} (hf : a = N.filter fun x => a.contains x) (j : Nat) : a.drop (cntIn N a j) = (N.drop j).filter fun x => a.contains x := by
  have e : a = ((N.take j).filter fun x => a.contains x) ++ ((N.drop j).filter fun x => a.contains x) := by
    rw [← List.filter_append, List.take_append_drop]; exact hf
  have h2 : (((N.take j).filter fun x => a.contains x) ++ ((N.drop j).filter fun x => a.contains x)).drop (cntIn N a j) = ((N.drop j).filter fun x => a.contains x) := List.drop_left
  rw [← e] at h2; exact h2
/-- the next name of N is the next one of a, if it is in a -/
theorem next_in {N a : List Bs} (hf : a = N.filter fun x => a.contains x) {j : Nat} (hj : j < N.length) (hc : a.contains (N[j]'hj) = true) : ∃ h : cntIn N a j < a.length, a[cntIn N a j]'h = N[j]'hj := by
  have h := drop_cnt hf j
  rw [List.drop_eq_getElem_cons hj, List.filter_cons_of_pos hc] at h
  have hl : cntIn N a j < a.length := by
    rcases Nat.lt_or_ge (cntIn N a j) a.length with h' | h'
    · exact h'
    · rw [List.drop_eq_nil_of_le h'] at h; cases h
  rw [List.drop_eq_getElem_cons hl] at h
  injection h with h1 _
  exact ⟨hl, h1⟩
/-- if it is not, the next one of a lies behind it -/
theorem next_out {N a : List Bs} (hN : Grows N) (hf : a = N.filter fun x => a.contains x) {j : Nat} (hj : j < N.length) (hc : a.contains (N[j]'hj) = false) (h : cntIn N a j < a.length) : lt (N[j]'hj) (a[cntIn N a j]'h) = true := by
  have hd := drop_cnt hf j
  rw [List.drop_eq_getElem_cons hj, List.filter_cons_of_neg (by rw [hc]; decide), List.drop_eq_getElem_cons h] at hd
  have hm : a[cntIn N a j]'h ∈ (N.drop (j + 1)).filter fun x => a.contains x := by
    rw [← hd]; exact List.mem_cons_self
  have hm2 := (List.mem_filter.1 hm).1
  have hp : Grows (N.drop j) := List.Pairwise.sublist (List.drop_sublist _ _) hN
  rw [List.drop_eq_getElem_cons hj] at hp
  exact (List.pairwise_cons.1 hp).1 _ hm2
theorem cnt_le {N a : List Bs} (hf : a = N.filter fun x => a.contains x) (j : Nat) : cntIn N a j ≤ a.length := by
  have h1 : ((N.take j).filter fun x => a.contains x).length ≤ (N.filter fun x => a.contains x).length := (List.Sublist.filter _ (List.take_sublist j N)).length_le
  rw [← hf] at h1; exact h1
theorem cnt_end {N a : List Bs} (hf : a = N.filter fun x => a.contains x) : cntIn N a N.length = a.length := by
  unfold cntIn; rw [List.take_length, ← hf]

/-- the change of a holding -/
def chg (a b : List Hd) (n : Bs) : Int := valI (heldQ b n) - valI (heldQ a n)
def betOne (a b : List Hd) (n : Bs) : List Hd := if chg a b n = 0 then [] else [⟨n, ofI (chg a b n)⟩]
def betH (a b : List Hd) (ns : List Bs) : List Hd := ns.flatMap (betOne a b)
theorem betH_snoc (a b : List Hd) (ns : List Bs) (n : Bs) : betH a b (ns ++ [n]) = betH a b ns ++ betOne a b n := by simp [betH]
theorem betH_len (a b : List Hd) (ns : List Bs) : (betH a b ns).length ≤ ns.length := by
  induction ns with
  | nil => simp [betH]
  | cons n r ih =>
    have : betH a b (n :: r) = betOne a b n ++ betH a b r := rfl
    rw [this, List.length_append, List.length_cons]
    have h1 : (betOne a b n).length ≤ 1 := by unfold betOne; split <;> simp
    omega
def insOf (hs : List Hd) : List Bs := hs.map (·.ins)
def betM (day : Int) (ms : List Mv) : List Mv := ms.filter fun m => decide (day < m.day)
/-- what lies between two statements -/
def betS (a b : St) : St := ⟨b.day, betH a.hs b.hs (unionN (insOf a.hs) (insOf b.hs)), betM a.day b.ms⟩
def noSt : St := ⟨0, [], []⟩
def betV (a b : St) : St := if checkS a ≠ 0 ∨ checkS b ≠ 0 then noSt else if b.day < a.day then noSt else if checkS (betS a b) ≠ 0 then noSt else betS a b
def betE (a b : St) : Int := if checkS a ≠ 0 ∨ checkS b ≠ 0 then 1 else if b.day < a.day then 8 else if checkS (betS a b) ≠ 0 then 4 else 0
theorem ins_grows {hs : List Hd} (h : checkH hs = 0) : Grows (insOf hs) := by
  obtain ⟨_, _, h2⟩ := checkH_zero h
  unfold Grows insOf
  rw [List.pairwise_iff_getElem]
  intro i j hi hj hij
  simp only [List.length_map] at hi hj
  simp only [List.getElem_map]
  have step : ∀ d k (hk : k + d + 1 < hs.length), lt ((hs[k]'(by omega)).ins) ((hs[k + d + 1]'hk).ins) = true := by
    intro d
    induction d with
    | zero => intro k hk; have := h2 (k + 1) hk (by omega); simpa using this
    | succ d ih =>
      intro k hk
      have h3 := ih k (by omega)
      have h4 := h2 (k + d + 1 + 1) hk (by omega)
      simp only [Nat.add_sub_cancel] at h4
      exact lt_trans _ _ _ h3 h4
  have := step (j - i - 1) i (by omega)
  have e : i + (j - i - 1) + 1 = j := by omega
  simp only [e] at this
  exact this
theorem union_len (a b : List Bs) : (unionN a b).length ≤ a.length + b.length := by
  unfold unionN Lib.compact Lib.compactUpTo
  rw [List.length_map]
  refine Nat.le_trans (List.length_filter_le _ _) ?_
  simp
end Go.Proofs.YteeampgbmpolfaaGreatDoor

/- The library's contracts that the claim needs besides (laid by the kit's lay-shelf). -/
namespace Go.Proofs
open Go.Shelf
def Tryz.lays190_ren : Go.Shelf.Ren := ⟨fun | 190 => 68 | 125 => 103 | 258 => 102 | 128 => 145 | 129 => 146 | 302 => 136 | 303 => 137 | 304 => 138 | 305 => 139 | 306 => 140 | 307 => 141 | 308 => 142 | 309 => 143 | 310 => 144 | 333 => 171 | 329 => 172 | 330 => 173 | 334 => 174 | 335 => 175 | 336 => 176 | 344 => 205 | n => n, fun | 31 => 37 | 9 => 9 | 3 => 3 | 46 => 138 | 0 => 0 | 51 => 177 | 53 => 143 | 4 => 4 | 183 => 170 | 182 => 169 | 131 => 174 | 5 => 5 | 218 => 193 | 222 => 197 | 228 => 226 | 229 => 227 | n => n, fun | n => n⟩
theorem Tryz.lays190 : Go.Proofs.Lays.n190 Tryz.prog Tryz.lays190_ren := {
  mixed := by kernel_rfl
  f125 := Tryz.func103.trans (congrArg some (by kernel_rfl))
  f128 := Tryz.func145.trans (congrArg some (by kernel_rfl))
  f129 := Tryz.func146.trans (congrArg some (by kernel_rfl))
  f190 := Tryz.func68.trans (congrArg some (by kernel_rfl))
  f258 := Tryz.func102.trans (congrArg some (by kernel_rfl))
  f302 := Tryz.func136.trans (congrArg some (by kernel_rfl))
  f303 := Tryz.func137.trans (congrArg some (by kernel_rfl))
  f304 := Tryz.func138.trans (congrArg some (by kernel_rfl))
  f305 := Tryz.func139.trans (congrArg some (by kernel_rfl))
  f306 := Tryz.func140.trans (congrArg some (by kernel_rfl))
  f307 := Tryz.func141.trans (congrArg some (by kernel_rfl))
  f308 := Tryz.func142.trans (congrArg some (by kernel_rfl))
  f309 := Tryz.func143.trans (congrArg some (by kernel_rfl))
  f310 := Tryz.func144.trans (congrArg some (by kernel_rfl))
  f329 := Tryz.func172.trans (congrArg some (by kernel_rfl))
  f330 := Tryz.func173.trans (congrArg some (by kernel_rfl))
  f333 := Tryz.func171.trans (congrArg some (by kernel_rfl))
  f334 := Tryz.func174.trans (congrArg some (by kernel_rfl))
  f335 := Tryz.func175.trans (congrArg some (by kernel_rfl))
  f336 := Tryz.func176.trans (congrArg some (by kernel_rfl))
  f344 := Tryz.func205.trans (congrArg some (by kernel_rfl))
  t0 := Tryz.underlying0
  a0 := Tryz.isAgg0
  z0 := Tryz.sizeOf0
  v0 := Tryz.zeroValue0
  t3 := Tryz.underlying3
  a3 := Tryz.isAgg3
  z3 := Tryz.sizeOf3
  v3 := Tryz.zeroValue3
  t4 := Tryz.underlying4
  a4 := Tryz.isAgg4
  z4 := Tryz.sizeOf4
  v4 := Tryz.zeroValue4
  t5 := Tryz.underlying5
  a5 := Tryz.isAgg5
  z5 := Tryz.sizeOf5
  v5 := Tryz.zeroValue5
  t9 := Tryz.underlying9
  a9 := Tryz.isAgg9
  z9 := Tryz.sizeOf9
  v9 := Tryz.zeroValue9
  t31 := Tryz.underlying37
  a31 := Tryz.isAgg37
  z31 := Tryz.sizeOf37
  v31 := Tryz.zeroValue37
  t46 := Tryz.underlying138
  a46 := Tryz.isAgg138
  z46 := Tryz.sizeOf138
  v46 := Tryz.zeroValue138
  t51 := Tryz.underlying177
  a51 := Tryz.isAgg177
  z51 := Tryz.sizeOf177
  v51 := Tryz.zeroValue177
  t53 := Tryz.underlying143
  a53 := Tryz.isAgg143
  z53 := Tryz.sizeOf143
  v53 := Tryz.zeroValue143
  t131 := Tryz.underlying174
  a131 := Tryz.isAgg174
  z131 := Tryz.sizeOf174
  v131 := Tryz.zeroValue174
  t182 := Tryz.underlying169
  a182 := Tryz.isAgg169
  z182 := Tryz.sizeOf169
  v182 := Tryz.zeroValue169
  t183 := Tryz.underlying170
  a183 := Tryz.isAgg170
  z183 := Tryz.sizeOf170
  v183 := Tryz.zeroValue170
  t218 := Tryz.underlying193
  a218 := Tryz.isAgg193
  z218 := Tryz.sizeOf193
  v218 := Tryz.zeroValue193
  t222 := Tryz.underlying197
  a222 := Tryz.isAgg197
  z222 := Tryz.sizeOf197
  v222 := Tryz.zeroValue197
  t228 := Tryz.underlying226
  a228 := Tryz.isAgg226
  z228 := Tryz.sizeOf226
  v228 := Tryz.zeroValue226
  t229 := Tryz.underlying227
  a229 := Tryz.isAgg227
  z229 := Tryz.sizeOf227
  v229 := Tryz.zeroValue227 }
open Go.Sort Go.RowKit in
theorem Tryz.slices_Sort_string (blk off cap : Nat) (ss : List (List UInt8)) (w : World) (hH : Holds encStr w blk off ss.toArray) (hblk : blk < w.heap.size) (hsz : ss.length < 4611686018427387904) :
    Calls Tryz.prog 68 #[.slice (some ⟨blk, off, none⟩) ss.length cap] w fun e w' =>
      e = .returned (.tuple #[]) ∧ ∃ n os, w' = grow (putRow encStr (Sort.ahead w n) blk off (ss.mergeSort fun x y => decide (x ≤ y)).toArray) os := Any.slices_Sort_string Tryz.lays190 blk off cap ss w hH hblk hsz
open Go.RowKit Go.Sort in
theorem Tryz.slices_Sort_string_none (p : Option Addr) (cap : Nat) (w : World) :
    Calls Tryz.prog 68 #[.slice p 0 cap] w fun e w' => e = .returned (.tuple #[]) ∧ w' = w := Any.slices_Sort_string_none Tryz.lays190 p cap w
end Go.Proofs

/- The library's slices.Sort and slices.Compact at a slice of strings of the call's own. -/
namespace Go.Proofs.YteeampgbmpolfaaGreatDoor
open Go.RowKit Go.Sort

theorem scells_enc (ls : List Bs) : scells ls = ls.map encStr := rfl
def SortEnds (base : Nat) (v : Value) (ls : List Bs) (w : World) (e : Ending) (w' : World) : Prop :=
  e = .returned (.tuple #[]) ∧ w'.ownsRow base 9 1 v ls.length (scells ls) ∧ w.grownBy w' v.ownBlock
theorem sortS (base : Nat) (v : Value) (ls : List Bs) (w : World) (h : w.ownsRow base 9 1 v ls.length (scells ls)) (hl : ls.length < 4611686018427387904) :
    Calls Tryz.prog 68 #[v] w (SortEnds base v (ls.mergeSort fun x y => decide (x ≤ y)) w) := by
  rcases h.2 with ⟨rfl, hn⟩ | ⟨g, cap, cur, rfl, hbase, hb, h1, h2, h3, h4⟩
  · obtain rfl : ls = [] := List.length_eq_zero_iff.1 hn
    refine (Tryz.slices_Sort_string_none none 0 w).mono ?_
    rintro e w' ⟨rfl, rfl⟩
    rw [List.mergeSort_nil]
    exact ⟨rfl, ⟨rfl, .inl ⟨rfl, rfl⟩⟩, World.grownBy.refl _ _⟩
  · refine (Tryz.slices_Sort_string g 0 cap ls w (holds_of_block hb (by rw [Nat.mul_one] at h4; exact h4)) (Array.getElem?_eq_some_iff.1 hb).1 hl).mono ?_
    rintro e w' ⟨rfl, n, os, rfl⟩
    refine ⟨rfl, ?_, grownBy_sorted _⟩
    rw [List.length_mergeSort]
    exact ownsRow_sorted (List.length_mergeSort _) hbase hb h1 h2 h3
theorem own_front {w : World} {base : Nat} {e : TypeId} {g n cap : Nat} {xs ys : List Value} (h : w.ownsRow base e 1 (.slice (some ⟨g, 0, none⟩) n cap) n (xs ++ ys)) : w.ownsRow base e 1 (.slice (some ⟨g, 0, none⟩) xs.length cap) xs.length xs := by
  obtain ⟨hl, ⟨h, _⟩ | ⟨g', cap', cur, hv, hb, hh, hle, hbig, hsz, ht⟩⟩ := h
  · cases h
  · injection hv with h1 h2 h3
    injection h1 with h1
    injection h1 with h1
    subst h1; subst h3
    rw [List.length_append, Nat.mul_one] at hl
    refine ⟨by simp, .inr ⟨g, cap, cur, rfl, hb, hh, by omega, hbig, hsz, ?_⟩⟩
    have h5 : (cur.toList.take (n * 1)).take xs.length = xs := by rw [ht]; simp
    rw [List.take_take] at h5
    rw [Nat.mul_one]
    rw [show min xs.length (n * 1) = xs.length by rw [Nat.mul_one]; omega] at h5
    exact h5
def CompEnds (base : Nat) (v : Value) (ls : List Bs) (w : World) (e : Ending) (w' : World) : Prop :=
  ∃ v', e = .returned v' ∧ w'.ownsRow base 9 1 v' ls.length (scells ls) ∧ w.grownBy w' v.ownBlock
theorem compact_len (ls : List Bs) : (Lib.compact ls).length ≤ ls.length := by
  unfold Lib.compact Lib.compactUpTo
  rw [List.length_map]
  refine Nat.le_trans (List.length_filter_le _ _) ?_
  simp
theorem compactS (base : Nat) (v : Value) (ls : List Bs) (w : World) (h : w.ownsRow base 9 1 v ls.length (scells ls)) (hl : ls.length ≤ 9223372036854775807) :
    Calls Tryz.prog 69 #[v] w (CompEnds base v (Lib.compact ls) w) := by
  rcases h.2 with ⟨rfl, hn⟩ | ⟨g, cap, cur, rfl, hbase, hb, h1, h2, h3, h4⟩
  · obtain rfl : ls = [] := List.length_eq_zero_iff.1 hn
    refine (Tryz.slices_Compact_string_empty none 0 w).mono ?_
    rintro e w' ⟨rfl, rfl⟩
    exact ⟨_, rfl, ⟨rfl, .inl ⟨rfl, rfl⟩⟩, World.grownBy.refl _ _⟩
  · refine (Tryz.slices_Compact_string g 0 cap ls w (holds_of_block hb (by rw [Nat.mul_one] at h4; exact h4)) hl h1).mono ?_
    rintro e w' ⟨rfl, q, rfl⟩
    have hg := grownBy_sorted (w := w) (g := g) (n := q) (os := #[]) (Lib.compact ls ++ List.replicate (ls.length - (Lib.compact ls).length) []).toArray
    rw [grow_empty] at hg
    have hle := compact_len ls
    have ho := ownsRow_sorted (w := w) (n := q) (os := #[]) (ss := ls) (ts := Lib.compact ls ++ List.replicate (ls.length - (Lib.compact ls).length) []) (by simp; omega) hbase hb h1 h2 h3
    rw [grow_empty, List.map_append] at ho
    have ho2 := own_front ho
    rw [List.length_map] at ho2
    exact ⟨_, rfl, ho2, hg⟩
end Go.Proofs.YteeampgbmpolfaaGreatDoor

/- Append onto a row of the call's own, the source nil, empty or not. No program in sight. -/
namespace Go.Proofs.YteeampgbmpolfaaGreatDoor
open Go.RowKit

section
variable {P : Program} (w : World)
theorem run_append_of_nil (base : Nat) (t ty e : TypeId) (i : TypeInfo) (size : Nat) (ht : P.underlying t = some (.slice e)) (hi : P.info? e = some i)
    (v : Value) (n : Nat) (xs : List Value) (hown : w.ownsRow base e size v n xs) (c : Nat) : (Builtin.append_ #[t, t] ty #[v, .slice none 0 c]).run P w = .ok v w := by
  rcases hown.2 with ⟨rfl, rfl⟩ | ⟨g, cap, cur, rfl, _, _, hnc, _⟩
  · simp [Builtin.append_, run_underlying ht, sizeOf, typeInfo, hi, Builtin.lenOf, Builtin.firstCells]
  · simp [Builtin.append_, run_underlying ht, sizeOf, typeInfo, hi, Builtin.lenOf, Builtin.firstCells, hnc, storeCells]
theorem run_append_any (base : Nat) (t ty e : TypeId) (i : TypeInfo) (z : Value) (size bytes : Nat) (ht : P.underlying t = some (.slice e)) (hi : P.info? e = some i) (hz : i.zero = some z)
    (hsize : i.size = size) (hby : i.bytes = bytes) (hzs : z.cells.size = size) (hsz : 0 < size)
    (v : Value) (n : Nat) (xs : List Value) (hown : w.ownsRow base e size v n xs)
    (A : Option Addr) (m c : Nat) (news : List Value) (hr : Reads w size A m news) (h1 : ∀ u ∈ news, u.oneCell' = true)
    (h63 : n + m ≤ maxLen) (hbytes : (n + m) * bytes ≤ 140737488355328) (hbase : base ≤ w.heap.size) :
    ∃ v' w', (Builtin.append_ #[t, t] ty #[v, .slice A m c]).run P w = .ok v' w' ∧ w'.ownsRow base e size v' (n + m) (xs ++ news) ∧ w.grownBy w' v.ownBlock ∧
      (v'.ownBlock = v.ownBlock ∨ v'.ownBlock = some w.heap.size) := by
  rcases A with _ | ad
  · have hm : m = 0 := by
      rcases Nat.eq_zero_or_pos m with h0 | h0
      · exact h0
      · obtain ⟨b, o, h, _⟩ := hr.2 h0
        cases h
    subst hm
    have hn : news = [] := List.eq_nil_of_length_eq_zero (by simpa using hr.1)
    subst hn
    exact ⟨v, w, run_append_of_nil w base t ty e i size ht hi v n xs hown c, by simpa using hown, World.grownBy.refl w _, .inl rfl⟩
  · have hcells : ∀ j u, news[j]? = some u → w.cell? (ad.add j) = some u := by
      intro j u hu
      rcases Nat.eq_zero_or_pos m with h0 | h0
      · subst h0
        have hn : news = [] := List.eq_nil_of_length_eq_zero (by simpa using hr.1)
        subst hn
        simp at hu
      · obtain ⟨b, o, h, _, hc⟩ := hr.2 h0
        injection h with h
        subst h
        rw [Addr.add_lit]
        exact hc j u hu
    obtain ⟨v', w', hrun, h2, h3, _, h5⟩ := run_append_own_at (P := P) w base t ty e i z size bytes ht hi hz hsize hby hzs hsz v n xs hown ad m c news hr.1 hcells h1 h63 hbytes hbase
    exact ⟨v', w', hrun, h2, h3, h5⟩
theorem wp_append_any {o : Oper} {a : Act} {K : Act → World → Prop} {Q : Exit → Act → World → Prop} (s x : Operand) (t : TypeId)
    (ho : o.op = .call { callee := .builtin .append, args := #[s, x], argTypes := #[t, t] })
    (base : Nat) (e : TypeId) (i : TypeInfo) (z : Value) (size bytes : Nat) (ht : P.underlying t = some (.slice e)) (hi : P.info? e = some i) (hz : i.zero = some z)
    (hsize : i.size = size) (hby : i.bytes = bytes) (hzs : z.cells.size = size) (hsz : 0 < size)
    (v : Value) (n : Nat) (xs : List Value) (hs : a.eval s = v) (hown : w.ownsRow base e size v n xs)
    (A : Option Addr) (m c : Nat) (news : List Value) (hx : a.eval x = .slice A m c) (hr : Reads w size A m news) (h1 : ∀ u ∈ news, u.oneCell' = true)
    (h63 : n + m ≤ maxLen) (hbytes : (n + m) * bytes ≤ 140737488355328) (hbase : base ≤ w.heap.size)
    (h : ∀ v' w', w'.ownsRow base e size v' (n + m) (xs ++ news) → w.grownBy w' v.ownBlock → (v'.ownBlock = v.ownBlock ∨ v'.ownBlock = some w.heap.size) → K (a.put o.dst v') w') : o.wp P a w K Q := by
  obtain ⟨v', w', hrun, h2, h3, h4⟩ := run_append_any (P := P) w base t o.type e i z size bytes ht hi hz hsize hby hzs hsz v n xs hown A m c news hr h1 h63 hbytes hbase
  unfold Oper.wp execOp
  simp only [ho, resolve, invoke, builtin, Sem.run_bind, Sem.run_pure, Result.andThen_ok, List.map_toArray, List.map_cons, List.map_nil, hs, hx, hrun]
  exact h v' w' h2 h3 h4
theorem wpList_append_any {ops : Array Oper} {rest : List Oper} {o : Oper} {a : Act} {Q : Exit → Act → World → Prop} (hgd : o.guard = none) (s x : Operand) (t : TypeId)
    (ho : o.op = .call { callee := .builtin .append, args := #[s, x], argTypes := #[t, t] })
    (base : Nat) (e : TypeId) (i : TypeInfo) (z : Value) (size bytes : Nat) (ht : P.underlying t = some (.slice e)) (hi : P.info? e = some i) (hz : i.zero = some z)
    (hsize : i.size = size) (hby : i.bytes = bytes) (hzs : z.cells.size = size) (hsz : 0 < size)
    (v : Value) (n : Nat) (xs : List Value) (hs : a.eval s = v) (hown : w.ownsRow base e size v n xs)
    (A : Option Addr) (m c : Nat) (news : List Value) (hx : a.eval x = .slice A m c) (hr : Reads w size A m news) (h1 : ∀ u ∈ news, u.oneCell' = true)
    (h63 : n + m ≤ maxLen) (hbytes : (n + m) * bytes ≤ 140737488355328) (hbase : base ≤ w.heap.size)
    (h : ∀ v' w', w'.ownsRow base e size v' (n + m) (xs ++ news) → w.grownBy w' v.ownBlock → (v'.ownBlock = v.ownBlock ∨ v'.ownBlock = some w.heap.size) → wpList P ops Q rest (a.put o.dst v') w') : wpList P ops Q (o :: rest) a w :=
  wpList_plain hgd fun _ hK => wp_append_any w s x t ho base e i z size bytes ht hi hz hsize hby hzs hsz v n xs hs hown A m c news hx hr h1 h63 hbytes hbase fun v' w' h2 h3 h4 => hK _ _ (h v' w' h2 h3 h4)
theorem step_append_any {ops : Array Oper} {o : Oper} {a : Act} {K : Act → World → Prop} {Q : Exit → Act → World → Prop} {E : Prop} (hgd : o.guard = none) (s x : Operand) (t : TypeId)
    (ho : o.op = .call { callee := .builtin .append, args := #[s, x], argTypes := #[t, t] })
    (base : Nat) (e : TypeId) (i : TypeInfo) (z : Value) (size bytes : Nat) (ht : P.underlying t = some (.slice e)) (hi : P.info? e = some i) (hz : i.zero = some z)
    (hsize : i.size = size) (hby : i.bytes = bytes) (hzs : z.cells.size = size) (hsz : 0 < size)
    (v : Value) (n : Nat) (xs : List Value) (hs : a.eval s = v) (hown : w.ownsRow base e size v n xs)
    (A : Option Addr) (m c : Nat) (news : List Value) (hx : a.eval x = .slice A m c) (hr : Reads w size A m news) (h1 : ∀ u ∈ news, u.oneCell' = true)
    (h63 : n + m ≤ maxLen) (hbytes : (n + m) * bytes ≤ 140737488355328) (hbase : base ≤ w.heap.size)
    (h : ∀ v' w', w'.ownsRow base e size v' (n + m) (xs ++ news) → w.grownBy w' v.ownBlock → (v'.ownBlock = v.ownBlock ∨ v'.ownBlock = some w.heap.size) → K (a.put o.dst v') w') :
    if Region.wanted o (yielded ops a.tmps) = true then Oper.wp P o a w K Q else E := by
  have hw : Region.wanted o (yielded ops a.tmps) = true := by simp [Region.wanted, hgd]
  rw [if_pos hw]
  exact wp_append_any w s x t ho base e i z size bytes ht hi hz hsize hby hzs hsz v n xs hs hown A m c news hx hr h1 h63 hbytes hbase h
end
end Go.Proofs.YteeampgbmpolfaaGreatDoor

/- The walks over the library's slices.Grow and slices.Concat at slices of holdings. -/
namespace Go.Proofs.YteeampgbmpolfaaGreatDoor
open Go.RowKit
attribute [local go_sem] size_bs toList_bs

theorem oneHd (hs : List Hd) : ∀ u ∈ hcells hs, u.oneCell' = true := by
  intro u hu; obtain ⟨h, _, hm⟩ := List.mem_flatMap.1 hu
  simp at hm; rcases hm with rfl | rfl <;> rfl
theorem hcells_append (a b : List Hd) : hcells (a ++ b) = hcells a ++ hcells b := by simp [hcells]
def OwnEnds (base : Nat) (e : TypeId) (size n : Nat) (xs : List Value) (w : World) (r : Ending) (w' : World) : Prop :=
  ∃ v, r = .returned v ∧ w'.ownsRow base e size v n xs ∧ Ext w w'
set_option maxRecDepth 100000 in
set_option maxHeartbeats 1000000 in
theorem growH (n : Nat) (w : World) (hn : n ≤ 1000000) :
    Calls Tryz.prog 76 #[.slice none 0 0, .int .i64 n] w (OwnEnds w.heap.size 45 2 0 [] w) := by
  rcases Nat.eq_zero_or_pos n with h0 | h0
  · subst h0
    go_enter Tryz.func76, Tryz.ntmps76
    go_wp2_with fail
    go_ret
    exact ⟨_, rfl, ⟨rfl, .inl ⟨rfl, rfl⟩⟩, Ext.refl _⟩
  · obtain ⟨i0, hI, hz0, hz1, hz2⟩ := info_parts holdInfo
    have hrz : ∀ ty, (Builtin.append_ #[23, 3] ty #[.slice none 0 0, .int .i64 (n : Int)]).run Tryz.prog w = _ := fun ty =>
      Lib.run_append_nil_zeros w 23 3 ty 45 i0 _ .i64 .i64 Tryz.underlying23 Tryz.underlying3 hI hz0 n h0 (by rw [hz1]; decide) (by omega) (by rw [hz2]; omega)
    obtain ⟨G, hG⟩ : ∃ G, G = grownCap w n 0 45 := ⟨_, rfl⟩
    have hGn : n ≤ G := by rw [hG]; exact grownCap_ge w _ _ _
    have hG63 : G ≤ maxLen := by rw [hG]; exact grownCap_le_maxLen w n 0 _ (by unfold maxLen; omega)
    obtain ⟨ROW, hROW⟩ : ∃ ROW : Array Value, ROW = Builtin.zeroCells (Value.agg #[.string ⟨#[]⟩, .string ⟨#[]⟩]).cells n ++ Builtin.zeroCells (Value.agg #[.string ⟨#[]⟩, .string ⟨#[]⟩]).cells (G - n) := ⟨_, rfl⟩
    rw [← hG, ← hROW] at hrz
    have hRl : ROW.size = G * 2 := by
      rw [hROW]
      simp [Builtin.zeroCells, Value.cells]
      omega
    have HOWN : Hid ((w.drew.alloc (.cells ROW 45)).ownsRow w.heap.size 45 2 (.slice (some ⟨w.heap.size, 0, none⟩) 0 G) 0 []) := Lib.hid ⟨rfl, .inr ⟨w.heap.size, G, ROW, rfl, Nat.le_refl _, heap_alloc_new w.drew _, Nat.zero_le _, hG63, hRl, by simp⟩⟩
    clear hROW hRl hG hI hz0 hz1 hz2
    unfold maxLen at hG63
    go_enter Tryz.func76, Tryz.ntmps76
    go_wp2_with (at_builtin; refine Lib.wpList_append_run _ rfl (.tmp 20) (.tmp 21) _ _ rfl _ _ rfl rfl _ _ (hrz _) ?_)
    go_ret
    exact ⟨_, rfl, HOWN.out, (Ext.refl w).drew.alloc _⟩
abbrev Part : Type := Option Addr × Nat × List Hd
def pcells (ps : List Part) : List Value := ps.map fun p => .slice p.1 p.2.2.length p.2.1
def cat (ps : List Part) : List Hd := ps.flatMap (·.2.2)
theorem cat_take {ps : List Part} {k : Nat} (h : k < ps.length) : cat (ps.take (k + 1)) = cat (ps.take k) ++ (ps[k]'h).2.2 := by
  unfold cat; rw [List.take_succ_eq_append_getElem h, List.flatMap_append, List.flatMap_singleton]
theorem cat_le (ps : List Part) (k : Nat) : (cat (ps.take k)).length ≤ (cat ps).length := by
  have : cat ps = cat (ps.take k) ++ cat (ps.drop k) := by unfold cat; rw [← List.flatMap_append, List.take_append_drop]
  rw [this, List.length_append]; omega
def CatEnds (hs : List Hd) (w : World) (e : Ending) (w' : World) : Prop := ∃ A c, e = .returned (.slice A hs.length c) ∧ RdH w' A hs ∧ Ext w w'
set_option maxRecDepth 100000 in
set_option maxHeartbeats 1000000 in
theorem concatH (ps : List Part) (A : Option Addr) (c : Nat) (w : World) (hA : Reads w 1 A ps.length (pcells ps)) (hP : ∀ p ∈ ps, RdH w p.1 p.2.2) (hk : ps.length ≤ 1000) (hn : (cat ps).length ≤ 1000000) :
    Calls Tryz.prog 33 #[.slice A ps.length c] w (CatEnds (cat ps) w) := by
  have HA := Lib.hid hA
  have HP := Lib.hid hP
  obtain ⟨i0, hI, hz0, hz1, hz2⟩ := info_parts holdInfo
  have HI := Lib.hid hI
  clear hA hP hI
  go_enter Tryz.func33, Tryz.ntmps33
  go_wp2_with fail
  go_loopw [11, 3, 5] (fun i z _ wr => ∃ k : Nat, k ≤ ps.length ∧ i = .int .i64 k ∧ z = .int .i64 (cat (ps.take k)).length ∧ w = wr) (fun i _ _ _ => ps.length - (intOf i).toNat)
  case atStart => exact ⟨0, by omega, rfl, rfl, rfl⟩
  case round =>
    obtain ⟨k, hk1, rfl, rfl, rfl⟩ := hrel
    by_cases hlt : k < ps.length
    · obtain ⟨b, o, rfl, hb⟩ := Reads.at_ HA.out (by omega)
      have hcell := Reads.cell HA.out (j := k) (u := .slice (ps[k]'hlt).1 (ps[k]'hlt).2.2.length (ps[k]'hlt).2.1) (by simp [pcells, hlt])
      have hle := cat_le ps (k + 1)
      rw [cat_take hlt, List.length_append] at hle
      have HCT := Lib.hid (cat_take hlt)
      generalize ps[k]'hlt = p at *
      generalize cat (List.take k ps) = pre at *
      have hneg : ¬ ((pre.length : Int) + (p.2.2.length : Int) < 0) := by omega
      go_wp2_with fail
      go_roundw
      case rel => exact ⟨k + 1, by omega, by go_num, by rw [HCT.out, List.length_append]; go_num, by first | rfl | trivial⟩
      case measure => simp [intOf]; omega
    · have hkl : k = ps.length := by omega
      subst hkl
      rw [List.take_length]
      clear hlt hk1
      go_wp2_with fail
      refine (growH (cat ps).length _ hn).mono ?_
      rintro e w1 ⟨v, rfl, hown, hx1⟩
      have HOW : Hid (w1.ownsRow w.heap.size 45 2 v (cat (ps.take 0)).length (hcells (cat (ps.take 0)))) := Lib.hid hown
      have HX1 := Lib.hid hx1
      clear hown hx1
      go_wp2_with fail
      go_loopw [27, 6, 8] (fun i v _ w2 => ∃ k : Nat, k ≤ ps.length ∧ i = .int .i64 k ∧ w2.ownsRow w.heap.size 45 2 v (cat (ps.take k)).length (hcells (cat (ps.take k))) ∧ Ext w w2) (fun i _ _ _ => ps.length - (intOf i).toNat)
      case atStart => exact ⟨0, by omega, rfl, HOW.out, HX1.out⟩
      case round =>
        clear HOW HX1
        obtain ⟨k, hk1, rfl, hown, hx⟩ := hrel
        have HOW := Lib.hid hown
        have HX := Lib.hid hx
        clear hown hx
        by_cases hlt : k < ps.length
        · obtain ⟨b, o, rfl, hb⟩ := Reads.at_ HA.out (by omega)
          have hcell := Reads.cell (Reads.ext HA.out HX.out) (j := k) (u := .slice (ps[k]'hlt).1 (ps[k]'hlt).2.2.length (ps[k]'hlt).2.1) (by simp [pcells, hlt])
          have hle := cat_le ps (k + 1)
          rw [cat_take hlt, List.length_append] at hle
          have HCT := Lib.hid (cat_take hlt)
          have HRD := Lib.hid ((HP.out _ (List.getElem_mem hlt)).ext HX.out)
          have hsz := HX.out.size
          generalize ps[k]'hlt = p at *
          generalize cat (List.take k ps) = pre at *
          go_wp2_with (at_builtin; refine wpList_append_any _ rfl (.tmp 31) (.tmp 32) 23 rfl w.heap.size 45 i0 _ 2 32 Tryz.underlying23 HI.out hz0 hz1 hz2 rfl (by decide) _ pre.length (hcells pre) rfl HOW.out p.1 p.2.2.length p.2.1 (hcells p.2.2) rfl HRD.out (oneHd _) (by simp only [maxLen]; omega) (by omega) hsz ?_; intro v' w' hown hgrow hat)
          go_roundw
          case rel => exact ⟨k + 1, by omega, by go_num, by rw [HCT.out, List.length_append, hcells_append]; exact hown, HX.out.grown hgrow (own_base HOW.out)⟩
          case measure => simp [intOf]; omega
        · have hkl : k = ps.length := by omega
          subst hkl
          rw [List.take_length] at HOW
          obtain ⟨A1, c1, rfl⟩ := own_len HOW.out
          go_wp2_with fail
          go_ret
          exact ⟨A1, c1, rfl, Reads.own HOW.out, HX.out⟩
end Go.Proofs.YteeampgbmpolfaaGreatDoor

/- The walks over what a statement holds: the program's held and Held, the reference's quantity and Held. -/
namespace Go.Proofs.YteeampgbmpolfaaGreatDoor
open Go.RowKit
attribute [local go_sem] size_bs toList_bs

set_option maxRecDepth 100000 in
set_option maxHeartbeats 1000000 in
theorem stHeld0 (s : St) (n : Bs) (A B : Option Addr) (c d : Nat) (w : World) (hA : RdH w A s.hs) (hn : s.hs.length ≤ 4611686018427387904) :
    Calls Tryz.prog 66 #[.agg #[.int .i64 s.day, .slice A s.hs.length c, .slice B s.ms.length d], .string (bs n)] w fun e w' => e = .returned (.tuple #[.string (bs (heldQ s.hs n)), .bool (heldB s.hs n)]) ∧ Ext w w' := by
  obtain ⟨day, hs, ms⟩ := s
  dsimp only at *
  have HA := Lib.hid hA
  clear hA
  go_enter Tryz.func66, Tryz.ntmps66
  go_wp2_with fail
  go_loopw [11, 7] (fun i _ wr => ∃ k : Nat, k ≤ hs.length ∧ i = .int .i64 k ∧ (∀ (j : Nat) (h : j < hs.length), j < k → (hs[j]'h).ins ≠ n) ∧ Ext w wr) (fun i _ _ => hs.length - (intOf i).toNat)
  case atStart => exact ⟨0, by omega, rfl, fun j _ hj => absurd hj (by omega), Ext.new _ _⟩
  case round =>
    obtain ⟨k, hk, rfl, hz, hx⟩ := hrel
    have HZ := Lib.hid hz
    have HX := Lib.hid hx
    clear hz hx
    by_cases hlt : k < hs.length
    · obtain ⟨b, o, rfl, hb, hc1, hc2⟩ := (HA.out.ext HX.out).at_ hlt
      by_cases he : (hs[k]'hlt).ins = n
      · have HH := Lib.hid (held_hit hlt HZ.out he)
        have heb : ((hs[k]'hlt).ins == n) = true := by rw [beq_iff_eq]; exact he
        generalize hs[k]'hlt = h at *
        clear he
        go_wp2_with fail
        go_ret2
        exact ⟨by rw [HH.out.1, HH.out.2]; rfl, HX.out.alloc _⟩
      · have heb : ((hs[k]'hlt).ins == n) = false := by rw [beq_eq_false_iff_ne]; exact he
        have HN : Hid (∀ (j : Nat) (h : j < hs.length), j < k + 1 → (hs[j]'h).ins ≠ n) := Lib.hid (fun j h hj => by
          rcases Nat.lt_or_ge j k with h1 | h1
          · exact HZ.out j h h1
          · obtain rfl : j = k := by omega
            exact he)
        generalize hs[k]'hlt = h at *
        clear he
        go_wp2_with fail
        go_roundw
        case rel => exact ⟨k + 1, by omega, by go_num, HN.out, HX.out.alloc _⟩
        case measure => simp [intOf]; omega
    · have HH := Lib.hid (held_miss (fun j h => HZ.out j h (by omega)))
      go_wp2_with fail
      go_ret2
      exact ⟨by rw [HH.out.1, HH.out.2]; rfl, HX.out⟩
set_option maxRecDepth 100000 in
set_option maxHeartbeats 1000000 in
theorem refHeld0 (s : St) (n : Bs) (A B : Option Addr) (c d : Nat) (w : World) (hA : RdH w A s.hs) (hn : s.hs.length ≤ 4611686018427387904) :
    Calls Tryz.prog 67 #[.agg #[.int .i64 s.day, .slice A s.hs.length c, .slice B s.ms.length d], .string (bs n)] w fun e w' => e = .returned (.tuple #[.string (bs (heldQ s.hs n)), .bool (heldB s.hs n)]) ∧ Ext w w' := by
  obtain ⟨day, hs, ms⟩ := s
  dsimp only at *
  have HA := Lib.hid hA
  clear hA
  have HX0 : Hid (Ext w (w.alloc (.cells #[.int .i64 day, .slice A hs.length c, .slice B ms.length d] 26))) := Lib.hid (Ext.new _ _)
  have HB0 := Lib.hid (Blk.new w 26 #[.int .i64 day, .slice A hs.length c, .slice B ms.length d])
  go_enter Tryz.func67, Tryz.ntmps67
  go_wp2_with fail
  generalize w.alloc (.cells #[.int .i64 day, .slice A hs.length c, .slice B ms.length d] 26) = w1 at *
  go_loopw [6] (fun i wr => ∃ k : Nat, k ≤ hs.length ∧ i = .int .i64 k ∧ (∀ (j : Nat) (h : j < hs.length), j < k → (hs[j]'h).ins ≠ n) ∧ Ext w1 wr) (fun i _ => hs.length - (intOf i).toNat)
  case atStart => exact ⟨0, by omega, rfl, fun j _ hj => absurd hj (by omega), Ext.refl _⟩
  case round =>
    obtain ⟨k, hk, rfl, hz, hx⟩ := hrel
    have HZ := Lib.hid hz
    have HX := Lib.hid hx
    have hq1 := (HB0.out.ext hx).cell 1
    simp only [List.getElem?_toArray, List.getElem?_cons_zero, List.getElem?_cons_succ] at hq1
    clear hz hx
    by_cases hlt : k < hs.length
    · obtain ⟨b, o, rfl, hb, hc1, hc2⟩ := (HA.out.ext (HX0.out.trans HX.out)).at_ hlt
      by_cases he : (hs[k]'hlt).ins = n
      · have HH := Lib.hid (held_hit hlt HZ.out he)
        have heb : ((hs[k]'hlt).ins == n) = true := by rw [beq_iff_eq]; exact he
        generalize hs[k]'hlt = h at *
        clear he
        go_wp2_with fail
        go_ret2
        exact ⟨by rw [HH.out.1, HH.out.2]; rfl, HX0.out.trans HX.out⟩
      · have heb : ((hs[k]'hlt).ins == n) = false := by rw [beq_eq_false_iff_ne]; exact he
        have HN : Hid (∀ (j : Nat) (h : j < hs.length), j < k + 1 → (hs[j]'h).ins ≠ n) := Lib.hid (fun j h hj => by
          rcases Nat.lt_or_ge j k with h1 | h1
          · exact HZ.out j h h1
          · obtain rfl : j = k := by omega
            exact he)
        generalize hs[k]'hlt = h at *
        clear he
        go_wp2_with fail
        go_roundw
        case rel => exact ⟨k + 1, by omega, by go_num, HN.out, HX.out⟩
        case measure => simp [intOf]; omega
    · have HH := Lib.hid (held_miss (fun j h => HZ.out j h (by omega)))
      go_wp2_with fail
      go_ret2
      exact ⟨by rw [HH.out.1, HH.out.2]; rfl, HX0.out.trans HX.out⟩
def holdQ (s : St) (n : Bs) : Bs := if checkS s = 0 then heldQ s.hs n else []
def holdB (s : St) (n : Bs) : Bool := if checkS s = 0 then heldB s.hs n else false
def holdE (s : St) : Int := if checkS s = 0 then 0 else 1
set_option maxRecDepth 100000 in
set_option maxHeartbeats 1000000 in
theorem stHeld (s : St) (n : Bs) (A B : Option Addr) (c d : Nat) (w : World) (hA : RdH w A s.hs) (hB : RdM w B s.ms) (hsm : SmallS s) :
    Calls Tryz.prog 28 #[.agg #[.int .i64 s.day, .slice A s.hs.length c, .slice B s.ms.length d], .string (bs n)] w fun e w' => e = .returned (.tuple #[.string (bs (holdQ s n)), .bool (holdB s n), .int .i64 (holdE s)]) ∧ Ext w w' := by
  have HA := Lib.hid hA
  have HB := Lib.hid hB
  have hln := hsm.hn
  have HSM := Lib.hid hsm
  clear hA hB hsm
  have HB0 := Lib.hid (Blk.new w 26 #[.int .i64 s.day, .slice A s.hs.length c, .slice B s.ms.length d])
  go_enter Tryz.func28, Tryz.ntmps28
  go_wp2_with fail
  refine (stCheck s A B c d _ (HA.out.ext (Ext.new _ _)) (HB.out.ext (Ext.new _ _)) HSM.out).mono ?_
  rintro e w1 ⟨rfl, hx1⟩
  have hb1 := HB0.out.ext hx1
  have q0 := hb1.cell 0
  have q1 := hb1.cell 1
  have q2 := hb1.cell 2
  simp only [List.getElem?_toArray, List.getElem?_cons_zero, List.getElem?_cons_succ] at q0 q1 q2
  have HX1 := Lib.hid (Ext.of_alloc hx1)
  clear hx1 hb1
  by_cases hz : checkS s = 0
  · have HV : Hid (holdQ s n = heldQ s.hs n ∧ holdB s n = heldB s.hs n ∧ holdE s = 0) := Lib.hid ⟨by unfold holdQ; rw [if_pos hz], by unfold holdB; rw [if_pos hz], by unfold holdE; rw [if_pos hz]⟩
    rw [hz]
    clear hz
    go_wp2_with fail
    refine (stHeld0 s n A B c d _ (HA.out.ext HX1.out) (by omega)).mono ?_
    rintro e w2 ⟨rfl, hx2⟩
    go_wp2_with fail
    go_ret3
    exact ⟨by rw [HV.out.1, HV.out.2.1, HV.out.2.2]; rfl, HX1.out.trans hx2⟩
  · have HV : Hid (holdQ s n = [] ∧ holdB s n = false ∧ holdE s = 1) := Lib.hid ⟨by unfold holdQ; rw [if_neg hz], by unfold holdB; rw [if_neg hz], by unfold holdE; rw [if_neg hz]⟩
    have hzb : (checkS s != 0) = true := by simpa using hz
    clear hz
    go_wp2_with fail
    go_ret3
    exact ⟨by rw [HV.out.1, HV.out.2.1, HV.out.2.2]; rfl, HX1.out⟩
set_option maxRecDepth 100000 in
set_option maxHeartbeats 1000000 in
theorem refHeld (s : St) (n : Bs) (A B : Option Addr) (c d : Nat) (w : World) (hA : RdH w A s.hs) (hB : RdM w B s.ms) (hsm : SmallS s) :
    Calls Tryz.prog 29 #[.agg #[.int .i64 s.day, .slice A s.hs.length c, .slice B s.ms.length d], .string (bs n)] w fun e w' => e = .returned (.tuple #[.string (bs (holdQ s n)), .bool (holdB s n), .int .i64 (holdE s)]) ∧ Ext w w' := by
  have HA := Lib.hid hA
  have HB := Lib.hid hB
  have hln := hsm.hn
  have HSM := Lib.hid hsm
  clear hA hB hsm
  have HB0 := Lib.hid (Blk.new w 26 #[.int .i64 s.day, .slice A s.hs.length c, .slice B s.ms.length d])
  go_enter Tryz.func29, Tryz.ntmps29
  go_wp2_with fail
  refine (refCheckS s A B c d _ (HA.out.ext (Ext.new _ _)) (HB.out.ext (Ext.new _ _)) HSM.out).mono ?_
  rintro e w1 ⟨rfl, hx1⟩
  have hb1 := HB0.out.ext hx1
  have q0 := hb1.cell 0
  have q1 := hb1.cell 1
  have q2 := hb1.cell 2
  simp only [List.getElem?_toArray, List.getElem?_cons_zero, List.getElem?_cons_succ] at q0 q1 q2
  have HX1 := Lib.hid (Ext.of_alloc hx1)
  clear hx1 hb1
  by_cases hz : checkS s = 0
  · have HV : Hid (holdQ s n = heldQ s.hs n ∧ holdB s n = heldB s.hs n ∧ holdE s = 0) := Lib.hid ⟨by unfold holdQ; rw [if_pos hz], by unfold holdB; rw [if_pos hz], by unfold holdE; rw [if_pos hz]⟩
    rw [hz]
    clear hz
    go_wp2_with fail
    refine (refHeld0 s n A B c d _ (HA.out.ext HX1.out) (by omega)).mono ?_
    rintro e w2 ⟨rfl, hx2⟩
    go_wp2_with fail
    go_ret3
    exact ⟨by rw [HV.out.1, HV.out.2.1, HV.out.2.2]; rfl, HX1.out.trans hx2⟩
  · have HV : Hid (holdQ s n = [] ∧ holdB s n = false ∧ holdE s = 1) := Lib.hid ⟨by unfold holdQ; rw [if_neg hz], by unfold holdB; rw [if_neg hz], by unfold holdE; rw [if_neg hz]⟩
    have hzb : (checkS s != 0) = true := by simpa using hz
    clear hz
    go_wp2_with fail
    go_ret3
    exact ⟨by rw [HV.out.1, HV.out.2.1, HV.out.2.2]; rfl, HX1.out⟩
end Go.Proofs.YteeampgbmpolfaaGreatDoor

/- What lies between two statements: words for the walks. -/
namespace Go.Proofs.YteeampgbmpolfaaGreatDoor
open Go.RowKit
attribute [local go_sem] size_bs toList_bs

theorem results_st2 {fn : Func} {a b : Tmp} (h : fn.results = #[.cell a 26, .tmp b]) (tmps : Array Value) (w : World) (g : Nat) (x y z : Value) (ha : tmps.getD a undef = .pointer (some ⟨g, 0, none⟩)) (hb : Blk w g 26 #[x, y, z]) :
    (results fn tmps).run Tryz.prog w = .ok (.tuple #[.agg #[x, y, z], tmps.getD b undef]) w := by
  have h0 := hb.cell 0
  have h1 := hb.cell 1
  have h2 := hb.cell 2
  simp only [List.getElem?_toArray, List.getElem?_cons_zero, List.getElem?_cons_succ] at h0 h1 h2
  unfold results
  rw [h]
  simp only [List.mapM_toArray, List.mapM_cons, List.mapM_nil, ha]
  go_simp
theorem blkAt (w : World) (t : TypeId) (cs : Array Value) (g : Nat) (hg : w.heap.size = g) : Blk (w.alloc (.cells cs t)) g t cs := by subst hg; exact Blk.new w t cs
theorem Blk.zeroSt {w : World} {g : Nat} (h : Blk w g 26 #[.int .i64 0, .slice none 0 0, .slice none 0 0]) : Blk (((w.setCell ⟨g, 0, none⟩ (.int .i64 0)).setCell ⟨g, 1, none⟩ (.slice none 0 0)).setCell ⟨g, 2, none⟩ (.slice none 0 0)) g 26 #[.int .i64 0, .slice none 0 0, .slice none 0 0] := ((h.set_ 0 _).set_ 1 _).set_ 2 _
theorem Ext.set3 {a b : World} (h : Ext a b) {g : Nat} (hg : a.heap.size ≤ g) (u v x : Value) : Ext a (((b.setCell ⟨g, 0, none⟩ u).setCell ⟨g, 1, none⟩ v).setCell ⟨g, 2, none⟩ x) := ((h.setCell (p := ⟨g, 0, none⟩) hg u).setCell (p := ⟨g, 1, none⟩) hg v).setCell (p := ⟨g, 2, none⟩) hg x
def BetEnds (s : St) (n : Int) (w : World) (e : Ending) (w' : World) : Prop :=
  ∃ A c B d, e = .returned (.tuple #[.agg #[.int .i64 s.day, .slice A s.hs.length c, .slice B s.ms.length d], .int .i64 n]) ∧ RdH w' A s.hs ∧ RdM w' B s.ms ∧ Ext w w'
theorem bet_bad {a b : St} (h : checkS a ≠ 0 ∨ checkS b ≠ 0) : betV a b = noSt ∧ betE a b = 1 := by unfold betV betE; rw [if_pos h, if_pos h]; exact ⟨rfl, rfl⟩
theorem bet_order {a b : St} (ha : checkS a = 0) (hb : checkS b = 0) (h : b.day < a.day) : betV a b = noSt ∧ betE a b = 8 := by
  have h0 : ¬ (checkS a ≠ 0 ∨ checkS b ≠ 0) := by rintro (k | k); exact k ha; exact k hb
  unfold betV betE; rw [if_neg h0, if_neg h0, if_pos h, if_pos h]; exact ⟨rfl, rfl⟩
theorem bet_limit {a b : St} (ha : checkS a = 0) (hb : checkS b = 0) (h : ¬ b.day < a.day) (hc : checkS (betS a b) ≠ 0) : betV a b = noSt ∧ betE a b = 4 := by
  have h0 : ¬ (checkS a ≠ 0 ∨ checkS b ≠ 0) := by rintro (k | k); exact k ha; exact k hb
  unfold betV betE; rw [if_neg h0, if_neg h0, if_neg h, if_neg h, if_pos hc, if_pos hc]; exact ⟨rfl, rfl⟩
theorem bet_ok {a b : St} (ha : checkS a = 0) (hb : checkS b = 0) (h : ¬ b.day < a.day) (hc : checkS (betS a b) = 0) : betV a b = betS a b ∧ betE a b = 0 := by
  have h0 : ¬ (checkS a ≠ 0 ∨ checkS b ≠ 0) := by rintro (k | k); exact k ha; exact k hb
  unfold betV betE; rw [if_neg h0, if_neg h0, if_neg h, if_neg h, if_neg (fun k => k hc), if_neg (fun k => k hc)]; exact ⟨rfl, rfl⟩
theorem BetEnds.noSt {w W : World} {n m : Int} {s : St} (h1 : s = Go.Proofs.YteeampgbmpolfaaGreatDoor.noSt) (h2 : m = n) (hx : Ext w W) : BetEnds s m w (.returned (.tuple #[.agg #[.int .i64 0, .slice none 0 0, .slice none 0 0], .int .i64 n])) W := by
  subst h1; subst h2
  exact ⟨none, 0, none, 0, rfl, Reads.nil, Reads.nil, hx⟩
/-- the quantities are short -/
def ShortQ (hs : List Hd) : Prop := ∀ h ∈ hs, h.qty.length ≤ 1000
theorem heldQ_short {hs : List Hd} (h : ShortQ hs) (n : Bs) : (heldQ hs n).length ≤ 1000 := by
  by_cases h0 : heldQ hs n = []
  · rw [h0]; simp
  · obtain ⟨x, hx, e⟩ := heldQ_mem h0
    rw [← e]; exact h x hx
theorem insOf_append (a b : List Hd) : insOf (a ++ b) = insOf a ++ insOf b := by simp [insOf]
theorem insOf_len (a : List Hd) : (insOf a).length = a.length := by simp [insOf]
theorem insOf_take_succ {hs : List Hd} {k : Nat} (h : k < hs.length) : insOf (hs.take (k + 1)) = insOf (hs.take k) ++ [(hs[k]'h).ins] := by
  unfold insOf; rw [List.take_succ_eq_append_getElem h, List.map_append]; rfl
theorem scells_append (a b : List Bs) : scells (a ++ b) = scells a ++ scells b := by simp [scells]
theorem scells_len (a : List Bs) : (scells a).length = a.length := by simp [scells]
theorem strInfo1 : (Tryz.prog.info? 9).map (fun i => (i.zero, i.size, i.bytes)) = some (some (.string ⟨#[]⟩), 1, 16) := by kernel_rfl
theorem betM_take {day : Int} {ms : List Mv} {k : Nat} (h : k < ms.length) : betM day (ms.take (k + 1)) = betM day (ms.take k) ++ if day < (ms[k]'h).day then [ms[k]'h] else [] := by
  unfold betM
  rw [List.take_succ_eq_append_getElem h, List.filter_append]
  congr 1
  by_cases hd : day < (ms[k]'h).day
  · rw [if_pos hd, List.filter_cons_of_pos (by simpa using hd)]; rfl
  · rw [if_neg hd, List.filter_cons_of_neg (by simpa using hd)]; rfl
theorem betH_take {a b : List Hd} {ns : List Bs} {k : Nat} (h : k < ns.length) : betH a b (ns.take (k + 1)) = betH a b (ns.take k) ++ betOne a b (ns[k]'h) := by
  rw [List.take_succ_eq_append_getElem h, betH_snoc]
theorem betOne_no {a b : List Hd} {n : Bs} (h : chg a b n = 0) : betOne a b n = [] := by unfold betOne; rw [if_pos h]
theorem betOne_yes {a b : List Hd} {n : Bs} (h : chg a b n ≠ 0) : betOne a b n = [⟨n, ofI (chg a b n)⟩] := by unfold betOne; rw [if_neg h]
theorem chg_empty {a b : List Hd} {n : Bs} : (ofI (chg a b n)).isEmpty = true ↔ chg a b n = 0 := by rw [List.isEmpty_iff, ofI_nil_iff]
theorem sub_len {x y : Bs} {L : Nat} (hx : x.length ≤ L) (hy : y.length ≤ L) : (ofI (valI y - valI x)).length ≤ L + 2 := by
  have h5 : (valI x).natAbs < 10 ^ L := Nat.lt_of_lt_of_le (valI_abs x) (Nat.pow_le_pow_right (by decide) hx)
  have h6 : (valI y).natAbs < 10 ^ L := Nat.lt_of_lt_of_le (valI_abs y) (Nat.pow_le_pow_right (by decide) hy)
  have h7 : (valI y - valI x).natAbs < 10 ^ (L + 1) := by
    rw [Nat.pow_succ]
    generalize 10 ^ L = q at *
    omega
  have := ofI_len h7
  omega
theorem chg_len {a b : List Hd} {n : Bs} (ha : ShortQ a) (hb : ShortQ b) : (ofI (chg a b n)).length ≤ 1100 := by
  have := sub_len (heldQ_short ha n) (heldQ_short hb n)
  unfold chg; omega
theorem bet_small {a b : St} (ha : SmallS a) (hb : SmallS b) (hqa : ShortQ a.hs) (hqb : ShortQ b.hs) (h1 : a.hs.length ≤ 1000) (h2 : b.hs.length ≤ 1000) : SmallS (betS a b) := by
  refine ⟨?_, ?_, fun x hx => ?_, fun x hx => ?_⟩
  · have := betH_len a.hs b.hs (unionN (insOf a.hs) (insOf b.hs))
    have h3 := union_len (insOf a.hs) (insOf b.hs)
    rw [insOf_len, insOf_len] at h3
    show (betH _ _ _).length ≤ _
    omega
  · have : (betM a.day b.ms).length ≤ b.ms.length := List.length_filter_le _ _
    show (betM a.day b.ms).length ≤ _
    have := hb.mn; omega
  · obtain ⟨n, hn, hx⟩ := List.mem_flatMap.1 (show x ∈ betH a.hs b.hs _ from hx)
    unfold betOne at hx
    split at hx
    · cases hx
    · rw [List.mem_singleton] at hx; subst hx
      refine ⟨?_, ?_⟩
      · rcases ((union_facts _ _).2 n).1 hn with h | h
        · obtain ⟨y, hy, rfl⟩ := List.mem_map.1 h; exact (ha.h y hy).1
        · obtain ⟨y, hy, rfl⟩ := List.mem_map.1 h; exact (hb.h y hy).1
      · have := chg_len (n := n) hqa hqb
        show (ofI _).length ≤ _
        omega
  · exact hb.m x (List.mem_filter.1 (show x ∈ betM a.day b.ms from hx)).1
/-- how the statement between stands in memory: block g, its rows from block 'base' on; beside it the names in a row of the call's own -/
structure BetAt (W0 : World) (base base1 g : Nat) (vN : Value) (ns : List Bs) (s : St) (wr : World) : Prop where
  st : StAt wr base g 26 [] s
  own : wr.ownsRow base1 9 1 vN ns.length (scells ns)
  ext : Ext W0 wr
  le : base ≤ wr.heap.size
  low : W0.heap.size ≤ g
  low1 : W0.heap.size ≤ base
section
variable {W0 wr w' : World} {base base1 g : Nat} {vN : Value} {ns : List Bs} {s : St}
theorem BetAt.fwd (h : BetAt W0 base base1 g vN ns s wr) (hx : Ext wr w') : BetAt W0 base base1 g vN ns s w' :=
  ⟨h.st.ext hx, own_ext h.own hx, h.ext.trans hx, Nat.le_trans h.le hx.size, h.low, h.low1⟩
theorem BetAt.addH (h : BetAt W0 base base1 g vN ns s wr) {vA vB v' : Value} {x : Hd} (hS : StAtV wr base g 26 [] s vA vB) (o : Obj) (hg : (wr.alloc o).grownBy w' vA.ownBlock)
    (ho : w'.ownsRow base 45 2 v' (s.hs.length + 1) (hcells s.hs ++ [.string (bs x.ins), .string (bs x.qty)])) :
    BetAt W0 base base1 g vN ns { s with hs := s.hs ++ [x] } (w'.setCell ⟨g, 1, none⟩ v') := by
  have hS' := hS.ext (Ext.new wr o)
  have hb := hS'.growA (by decide) hg
  have hN := (own_ext h.own (Ext.new wr o)).kept hg (own_own_ne (own_ext h.own (Ext.new wr o)) hS'.2.2.1 (by decide))
  refine ⟨hS'.addH (by decide) (by decide) hg ho, own_set hN (own_ne hN hb (by decide)) v', (Ext.grown (h.ext.alloc o) hg (fun k hk => Nat.le_trans h.low1 (own_ge hS.2.2.1 k hk))).setCell (p := ⟨g, 1, none⟩) h.low _, ?_, h.low, h.low1⟩
  have h1 := hg.size
  have h2 := h.le
  simp [World.setCell] at h1 ⊢
  omega
theorem BetAt.addM (h : BetAt W0 base base1 g vN ns s wr) {vA vB v' : Value} {x : Mv} (hS : StAtV wr base g 26 [] s vA vB) (o : Obj) (hg : (wr.alloc o).grownBy w' vB.ownBlock)
    (ho : w'.ownsRow base 50 5 v' (s.ms.length + 1) (mcells s.ms ++ [.string (bs x.ref), .int .i64 x.day, .string (bs x.ins), .string (bs x.qty), .string (bs x.amt)])) :
    BetAt W0 base base1 g vN ns { s with ms := s.ms ++ [x] } (w'.setCell ⟨g, 2, none⟩ v') := by
  have hS' := hS.ext (Ext.new wr o)
  have hb := hS'.growB (by decide) hg
  have hN := (own_ext h.own (Ext.new wr o)).kept hg (own_own_ne (own_ext h.own (Ext.new wr o)) hS'.2.2.2 (by decide))
  refine ⟨hS'.addM (by decide) (by decide) hg ho, own_set hN (own_ne hN hb (by decide)) v', (Ext.grown (h.ext.alloc o) hg (fun k hk => Nat.le_trans h.low1 (own_ge hS.2.2.2 k hk))).setCell (p := ⟨g, 2, none⟩) h.low _, ?_, h.low, h.low1⟩
  have h1 := hg.size
  have h2 := h.le
  simp [World.setCell] at h1 ⊢
  omega
theorem BetAt.new (h : Blk wr g 26 #[.int .i64 s.day, .slice none 0 0, .slice none 0 0]) (h0 : s.hs = []) (h1 : s.ms = []) (hown : wr.ownsRow base1 9 1 vN ns.length (scells ns)) (hx : Ext W0 wr) (hlow : W0.heap.size ≤ g) : BetAt W0 wr.heap.size base1 g vN ns s wr := by
  obtain ⟨day, hs, ms⟩ := s
  subst h0; subst h1
  exact ⟨⟨_, _, h, trivial, ⟨rfl, .inl ⟨rfl, rfl⟩⟩, ⟨rfl, .inl ⟨rfl, rfl⟩⟩⟩, hown, hx, Nat.le_refl _, hlow, hx.size⟩
end
theorem own_set3 {w : World} {base : Nat} {e : TypeId} {size n : Nat} {v : Value} {xs : List Value} {g : Nat} (h : w.ownsRow base e size v n xs) (hne : v.ownBlock ≠ some g) (x y z : Value) : (((w.setCell ⟨g, 0, none⟩ x).setCell ⟨g, 1, none⟩ y).setCell ⟨g, 2, none⟩ z).ownsRow base e size v n xs := own_set (own_set (own_set h hne x) hne y) hne z
theorem Blk.set3 {w : World} {g : Nat} {t : TypeId} {a b c : Value} (h : Blk w g t #[a, b, c]) (x y z : Value) : Blk (((w.setCell ⟨g, 0, none⟩ x).setCell ⟨g, 1, none⟩ y).setCell ⟨g, 2, none⟩ z) g t #[x, y, z] := ((h.set_ 0 x).set_ 1 y).set_ 2 z
theorem BetEnds.some_ {w W : World} {n m : Int} {s s' : St} {A B : Option Addr} {c d : Nat} (h1 : s = s') (h2 : m = n) (hA : RdH W A s'.hs) (hB : RdM W B s'.ms) (hx : Ext w W) : BetEnds s m w (.returned (.tuple #[.agg #[.int .i64 s'.day, .slice A s'.hs.length c, .slice B s'.ms.length d], .int .i64 n])) W := by
  subst h1; subst h2
  exact ⟨A, c, B, d, rfl, hA, hB, hx⟩
end Go.Proofs.YteeampgbmpolfaaGreatDoor

/- The walk over the program's Between. -/
namespace Go.Proofs.YteeampgbmpolfaaGreatDoor
open Go.RowKit
attribute [local go_sem] size_bs toList_bs

set_option maxRecDepth 100000 in
set_option maxHeartbeats 1000000 in
theorem stBetween_of (hsub : ∀ (x y : Bs) (w : World), x.length ≤ 1000 → y.length ≤ 1000 → Env w → Calls Tryz.prog 70 #[.string (bs x), .string (bs y)] w fun e w' => e = .returned (.string (bs (ofI (valI x - valI y)))) ∧ Ext w w')
    (a b : St) (A B : Option Addr) (c d : Nat) (A' B' : Option Addr) (c' d' : Nat) (w : World) (hA : RdH w A a.hs) (hB : RdM w B a.ms) (hA' : RdH w A' b.hs) (hB' : RdM w B' b.ms) (hsa : SmallS a) (hsb : SmallS b) (hqa : ShortQ a.hs) (hqb : ShortQ b.hs) (hE : Env w) :
    Calls Tryz.prog 30 #[.agg #[.int .i64 a.day, .slice A a.hs.length c, .slice B a.ms.length d], .agg #[.int .i64 b.day, .slice A' b.hs.length c', .slice B' b.ms.length d']] w (BetEnds (betV a b) (betE a b) w) := by
  have HA := Lib.hid hA
  have HB := Lib.hid hB
  have HA' := Lib.hid hA'
  have HB' := Lib.hid hB'
  have HSA := Lib.hid hsa
  have HSB := Lib.hid hsb
  have HQA := Lib.hid hqa
  have HQB := Lib.hid hqb
  have HE := Lib.hid hE
  have HSUB := Lib.hid hsub
  clear hA hB hA' hB' hsa hsb hqa hqb hE hsub
  obtain ⟨W0, hW0⟩ : ∃ W0 : World, W0 = ((w.alloc (.cells #[.int .i64 a.day, .slice A a.hs.length c, .slice B a.ms.length d] 26)).alloc (.cells #[.int .i64 b.day, .slice A' b.hs.length c', .slice B' b.ms.length d'] 26)).alloc (.cells #[.int .i64 0, .slice none 0 0, .slice none 0 0] 26) := ⟨_, rfl⟩
  have HX0 : Hid (Ext w W0) := Lib.hid (by rw [hW0]; exact ((Ext.new _ _).alloc _).alloc _)
  have HBA : Hid (Blk W0 w.heap.size 26 #[.int .i64 a.day, .slice A a.hs.length c, .slice B a.ms.length d]) := Lib.hid (by rw [hW0]; exact ((Blk.new _ _ _).alloc _).alloc _)
  have HBB : Hid (Blk W0 (w.heap.size + 1) 26 #[.int .i64 b.day, .slice A' b.hs.length c', .slice B' b.ms.length d']) := Lib.hid (by rw [hW0]; exact (blkAt _ _ _ _ (by simp)).alloc _)
  have HBR : Hid (Blk W0 (w.heap.size + 1 + 1) 26 #[.int .i64 0, .slice none 0 0, .slice none 0 0]) := Lib.hid (by rw [hW0]; exact blkAt _ _ _ _ (by simp))
  go_enter Tryz.func30, Tryz.ntmps30
  go_wp2_with fail
  rw [← hW0]
  clear hW0
  refine (stCheck a A B c d _ (HA.out.ext HX0.out) (HB.out.ext HX0.out) HSA.out).mono ?_
  rintro e w1 ⟨rfl, hx1⟩
  have HX1 := Lib.hid hx1
  clear hx1
  by_cases hca : checkS a = 0
  rotate_left
  · have HV := Lib.hid (bet_bad (.inl hca) : betV a b = noSt ∧ betE a b = 1)
    have hcb : (checkS a != 0) = true := by simpa using hca
    have hbr := HBR.out.ext HX1.out
    have r0 := hbr.cell 0
    have r1 := hbr.cell 1
    have r2 := hbr.cell 2
    have f0 := hbr.frozen 0
    have f1 := hbr.frozen 1
    have f2 := hbr.frozen 2
    simp only [List.getElem?_toArray, List.getElem?_cons_zero, List.getElem?_cons_succ] at r0 r1 r2
    clear hca hbr
    go_wp2_with fail
    refine bodyPost_ret (results_st2 rfl _ _ (w.heap.size + 1 + 1) _ _ _ rfl (Blk.zeroSt (HBR.out.ext HX1.out))) rfl ?_
    exact BetEnds.noSt HV.out.1 HV.out.2 ((HX0.out.trans HX1.out).set3 (by omega) _ _ _)
  rw [hca]
  have hbb := HBB.out.ext HX1.out
  have q0 := hbb.cell 0
  have q1 := hbb.cell 1
  have q2 := hbb.cell 2
  simp only [List.getElem?_toArray, List.getElem?_cons_zero, List.getElem?_cons_succ] at q0 q1 q2
  have HCA := Lib.hid hca
  clear hbb hca
  go_wp2_with fail
  refine (stCheck b A' B' c' d' _ (HA'.out.ext (HX0.out.trans HX1.out)) (HB'.out.ext (HX0.out.trans HX1.out)) HSB.out).mono ?_
  rintro e w2 ⟨rfl, hx2⟩
  have HX2 := Lib.hid (HX1.out.trans hx2)
  clear hx2 q0 q1 q2 HX1
  have hbr := HBR.out.ext HX2.out
  have r0 := hbr.cell 0
  have r1 := hbr.cell 1
  have r2 := hbr.cell 2
  have f0 := hbr.frozen 0
  have f1 := hbr.frozen 1
  have f2 := hbr.frozen 2
  have hba := HBA.out.ext HX2.out
  have p0 := hba.cell 0
  have p1 := hba.cell 1
  have p2 := hba.cell 2
  have hbb := HBB.out.ext HX2.out
  have q0 := hbb.cell 0
  have q1 := hbb.cell 1
  have q2 := hbb.cell 2
  simp only [List.getElem?_toArray, List.getElem?_cons_zero, List.getElem?_cons_succ] at r0 r1 r2 p0 p1 p2 q0 q1 q2
  clear hbr hba hbb
  by_cases hcb : checkS b = 0
  rotate_left
  · have HV := Lib.hid (bet_bad (.inr hcb) : betV a b = noSt ∧ betE a b = 1)
    have hcbb : (checkS b != 0) = true := by simpa using hcb
    clear hcb
    go_wp2_with fail
    refine bodyPost_ret (results_st2 rfl _ _ (w.heap.size + 1 + 1) _ _ _ rfl (Blk.zeroSt (HBR.out.ext HX2.out))) rfl ?_
    exact BetEnds.noSt HV.out.1 HV.out.2 ((HX0.out.trans HX2.out).set3 (by omega) _ _ _)
  rw [hcb]
  have HCB := Lib.hid hcb
  clear hcb
  by_cases hda : b.day < a.day
  · have HV := Lib.hid (bet_order HCA.out HCB.out hda)
    go_wp2_with fail
    refine bodyPost_ret (results_st2 rfl _ _ (w.heap.size + 1 + 1) _ _ _ rfl (Blk.zeroSt (HBR.out.ext HX2.out))) rfl ?_
    exact BetEnds.noSt HV.out.1 HV.out.2 ((HX0.out.trans HX2.out).set3 (by omega) _ _ _)
  have hdab : decide (b.day < a.day) = false := by simpa using hda
  have HDA := Lib.hid hda
  clear hda
  have hla : a.hs.length ≤ 64 := (checkH_zero (checkS_zero.1 HCA.out).2.1).1
  have hlb : b.hs.length ≤ 64 := (checkH_zero (checkS_zero.1 HCB.out).2.1).1
  have hlm : b.ms.length ≤ 1000 := (checkM_zero (checkS_zero.1 HCB.out).2.2).1
  go_wp2_with fail
  have HPR : Hid (Reads (w2.alloc (.cells #[.slice A a.hs.length c, .slice A' b.hs.length c'] 23)) 1 (some ⟨w2.heap.size, 0, none⟩) 2 (pcells [(A, c, a.hs), (A', c', b.hs)])) := Lib.hid (Reads.lit rfl)
  have HXP : Hid (Ext w2 (w2.alloc (.cells #[.slice A a.hs.length c, .slice A' b.hs.length c'] 23))) := Lib.hid (Ext.new _ _)
  generalize w2.alloc (.cells #[.slice A a.hs.length c, .slice A' b.hs.length c'] 23) = w3 at *
  have hcl : (cat [(A, c, a.hs), (A', c', b.hs)]).length ≤ 1000000 := by simp [cat]; omega
  refine (concatH [(A, c, a.hs), (A', c', b.hs)] (some ⟨w2.heap.size, 0, none⟩) 2 _ HPR.out (by
    intro p hp
    simp at hp
    rcases hp with rfl | rfl
    · exact HA.out.ext ((HX0.out.trans HX2.out).trans HXP.out)
    · exact HA'.out.ext ((HX0.out.trans HX2.out).trans HXP.out)) (by simp) hcl).mono ?_
  rintro e W1 ⟨A1, c1, rfl, hrd1, hx4⟩
  have HCAT : Hid (insOf (cat [(A, c, a.hs), (A', c', b.hs)]) = insOf a.hs ++ insOf b.hs) := Lib.hid (by simp [cat, insOf])
  have hcl2 : (cat [(A, c, a.hs), (A', c', b.hs)]).length ≤ 128 := by simp [cat]; omega
  have HX4 := Lib.hid ((HX2.out.trans HXP.out).trans hx4)
  have HR1 := Lib.hid hrd1
  clear hx4 hrd1 hcl HPR HXP r0 r1 r2 f0 f1 f2 p0 p1 p2 q0 q1 q2
  generalize cat [(A, c, a.hs), (A', c', b.hs)] = both at *
  obtain ⟨iS, hiS, hzS0, hzS1, hzS2⟩ := info_parts strInfo1
  have HIS := Lib.hid hiS
  clear hiS
  go_wp2_with fail
  go_loopw [43, 8, 6] (fun i _ v wr => ∃ k : Nat, k ≤ both.length ∧ i = .int .i64 k ∧ wr.ownsRow W1.heap.size 9 1 v k (scells (insOf (both.take k))) ∧ Ext W1 wr) (fun i _ _ _ => both.length - (intOf i).toNat)
  case atStart => exact ⟨0, by omega, rfl, ⟨rfl, .inl ⟨rfl, rfl⟩⟩, Ext.refl _⟩
  case round =>
    obtain ⟨k, hk, rfl, hown, hx⟩ := hrel
    have HOW := Lib.hid hown
    have HX := Lib.hid hx
    clear hown hx
    by_cases hlt : k < both.length
    · obtain ⟨bb, oo, rfl, hbb, hc1, hc2⟩ := (HR1.out.ext HX.out).at_ hlt
      have HTK := Lib.hid (insOf_take_succ hlt)
      have hsz := HX.out.size
      generalize both[k]'hlt = h at *
      go_wp2_with (at_builtin; refine wpList_append_lies _ rfl (.tmp 47) (.tmp 50) 37 rfl W1.heap.size 9 iS _ 1 16 Tryz.underlying37 HIS.out hzS0 hzS1 hzS2 rfl (by decide) _ k (scells (insOf (both.take k))) rfl (own_ext HOW.out ((Ext.new _ _).alloc _)) ⟨wr.heap.size + 1, 0, none⟩ 1 1 [.string (bs h.ins)] rfl rfl (World.news_of_block (by rw [← World.size_alloc wr _]; exact heap_alloc_new _ _)) (by simp [Value.oneCell']) (by omega) (by simp only [maxLen]; omega) (by omega) (by simp; omega) _ rfl ?_; intro g' cap' w' hown hgrow hat hlt')
      exact ⟨⟨k + 1, by omega, by go_num, by rw [HTK.out, scells_append]; exact hown, Ext.grown ((HX.out.alloc _).alloc _) hgrow (own_ge HOW.out)⟩, by simp [intOf]; omega⟩
    · have hkl : k = both.length := by omega
      subst hkl
      rw [List.take_length, HCAT.out] at HOW
      have HNL : Hid ((insOf a.hs ++ insOf b.hs).length = both.length) := Lib.hid (by rw [← HCAT.out, insOf_len])
      obtain ⟨Av, cv, rfl⟩ := own_len HOW.out
      have HOW2 : Hid (wr.ownsRow W1.heap.size 9 1 (.slice Av both.length cv) (insOf a.hs ++ insOf b.hs).length (scells (insOf a.hs ++ insOf b.hs))) := Lib.hid (by rw [HNL.out]; exact HOW.out)
      clear HOW
      go_wp2_with fail
      refine (sortS W1.heap.size _ (insOf a.hs ++ insOf b.hs) _ HOW2.out (by have := HNL.out; omega)).mono ?_
      rintro e W2 ⟨rfl, hown, hgrow⟩
      have HSO := Lib.hid hown
      have HNL2 : Hid (((insOf a.hs ++ insOf b.hs).mergeSort fun x y => decide (x ≤ y)).length = both.length) := Lib.hid (by rw [List.length_mergeSort]; exact HNL.out)
      have HX5 : Hid (Ext W1 W2) := Lib.hid (Ext.grown HX.out hgrow (own_ge HOW2.out))
      have HX6 : Hid (Ext W0 W2) := Lib.hid (HX4.out.trans HX5.out)
      have HUN : Hid (Lib.compact ((insOf a.hs ++ insOf b.hs).mergeSort fun x y => decide (x ≤ y)) = unionN (insOf a.hs) (insOf b.hs)) := Lib.hid rfl
      have HUL : Hid ((unionN (insOf a.hs) (insOf b.hs)).length ≤ 128) := Lib.hid (by have := union_len (insOf a.hs) (insOf b.hs); rw [insOf_len, insOf_len] at this; omega)
      clear hown hgrow HOW2 HNL HX
      have hbb := HBB.out.ext HX6.out
      have q0 := hbb.cell 0
      simp only [List.getElem?_toArray, List.getElem?_cons_zero] at q0
      clear hbb
      generalize (insOf a.hs ++ insOf b.hs).mergeSort (fun x y => decide (x ≤ y)) = srt at *
      have HSO2 : Hid (W2.ownsRow W1.heap.size 9 1 (.slice Av both.length cv) srt.length (scells srt)) := Lib.hid (by have := HSO.out; exact this)
      go_wp2_with fail
      refine (compactS W1.heap.size _ srt _ (own_ext HSO2.out (Ext.new _ _)) (by have := HNL2.out; omega)).mono ?_
      rintro e W3 ⟨vN, rfl, hown3, hgrow3⟩
      obtain ⟨An, cn, rfl⟩ := own_len hown3
      rw [HUN.out] at *
      have hb3 : Blk W3 W2.heap.size 26 #[.int .i64 b.day, .slice none 0 0, .slice none 0 0] := (hgrow3.block _ (Blk.new _ _ _).lt (fun he => own_ne (own_ext HSO2.out (Ext.new _ _)) (Blk.new W2 26 #[.int .i64 b.day, .slice none 0 0, .slice none 0 0]) (by decide) he.symm)).trans (Blk.new _ _ _)
      have HAT : Hid (BetAt W0 W3.heap.size W1.heap.size W2.heap.size (.slice An (unionN (insOf a.hs) (insOf b.hs)).length cn) (unionN (insOf a.hs) (insOf b.hs)) ⟨b.day, betH a.hs b.hs ((unionN (insOf a.hs) (insOf b.hs)).take 0), []⟩ W3) := Lib.hid (BetAt.new hb3 rfl rfl hown3 (Ext.grown (HX6.out.alloc _) hgrow3 (fun k hk => Nat.le_trans HX4.out.size (own_ge HSO2.out k hk))) HX6.out.size)
      clear hown3 hgrow3 hb3 HSO HSO2 HUN HNL2 q0
      have HBH : Hid (betH a.hs b.hs (unionN (insOf a.hs) (insOf b.hs)) = (betS a b).hs) := Lib.hid rfl
      generalize unionN (insOf a.hs) (insOf b.hs) = ns at *
      go_wp2_with fail
      obtain ⟨iH, hiH, hzH0, hzH1, hzH2⟩ := info_parts holdInfo
      have HIH := Lib.hid hiH
      clear hiH
      go_loopw [61, 11, 12, 13, 14, 15, 16] (fun i _ _ _ _ _ _ wr => ∃ k : Nat, k ≤ ns.length ∧ i = .int .i64 k ∧ BetAt W0 W3.heap.size W1.heap.size W2.heap.size (.slice An ns.length cn) ns ⟨b.day, betH a.hs b.hs (ns.take k), []⟩ wr) (fun i _ _ _ _ _ _ _ => ns.length - (intOf i).toNat)
      case atStart => exact ⟨0, by omega, rfl, HAT.out⟩
      case round =>
        clear HAT
        obtain ⟨k, hk, rfl, hat⟩ := hrel
        have HAT := Lib.hid hat
        clear hat
        have hul := HUL.out
        by_cases hlt : k < ns.length
        · obtain ⟨bn, on, rfl, hbn, hcn⟩ := (show RdS wr An ns from Reads.own HAT.out.own).at_ hlt
          have HTK := Lib.hid (betH_take (a := a.hs) (b := b.hs) hlt)
          have hhl : (betH a.hs b.hs (ns.take k)).length ≤ 128 := by have := betH_len a.hs b.hs (ns.take k); rw [List.length_take] at this; omega
          generalize hnk : ns[k]'hlt = n at *
          clear hnk
          have hba := HBA.out.ext HAT.out.ext
          have p0 := hba.cell 0
          have p1 := hba.cell 1
          have p2 := hba.cell 2
          simp only [List.getElem?_toArray, List.getElem?_cons_zero, List.getElem?_cons_succ] at p0 p1 p2
          clear hba
          go_wp2_with fail
          refine (stHeld0 a n A B c d _ (HA.out.ext (HX0.out.trans HAT.out.ext)) (by omega)).mono ?_
          rintro e w5 ⟨rfl, hx5⟩
          have HT5 := Lib.hid (HAT.out.fwd hx5)
          have hbb := HBB.out.ext HT5.out.ext
          have q0 := hbb.cell 0
          have q1 := hbb.cell 1
          have q2 := hbb.cell 2
          simp only [List.getElem?_toArray, List.getElem?_cons_zero, List.getElem?_cons_succ] at q0 q1 q2
          clear hbb hx5 p0 p1 p2 hcn HAT
          go_wp2_with fail
          refine (stHeld0 b n A' B' c' d' _ (HA'.out.ext (HX0.out.trans HT5.out.ext)) (by omega)).mono ?_
          rintro e w6 ⟨rfl, hx6⟩
          have HT6 := Lib.hid (HT5.out.fwd hx6)
          clear hx6 q0 q1 q2 HT5
          go_wp2_with fail
          refine (HSUB.out (heldQ b.hs n) (heldQ a.hs n) _ (heldQ_short HQB.out n) (heldQ_short HQA.out n) (HE.out.ext (HX0.out.trans HT6.out.ext))).mono ?_
          rintro e w7 ⟨rfl, hx7⟩
          have HT7 := Lib.hid (HT6.out.fwd hx7)
          clear hx7 HT6
          have HCE := Lib.hid (chg_empty (a := a.hs) (b := b.hs) (n := n))
          have HCN := Lib.hid (fun h => betOne_no (a := a.hs) (b := b.hs) (n := n) h)
          have HCY := Lib.hid (fun h => betOne_yes (a := a.hs) (b := b.hs) (n := n) h)
          have ecg : valI (heldQ b.hs n) - valI (heldQ a.hs n) = chg a.hs b.hs n := rfl
          rw [ecg]
          clear ecg
          generalize chg a.hs b.hs n = z at *
          by_cases hz : z = 0
          · have hze : (ofI z).isEmpty = true := HCE.out.2 hz
            have HNX : Hid (betH a.hs b.hs (ns.take (k + 1)) = betH a.hs b.hs (ns.take k)) := Lib.hid (by rw [HTK.out, HCN.out hz, List.append_nil])
            clear hz
            go_wp2_with fail
            exact ⟨⟨k + 1, by omega, by go_num, by rw [HNX.out]; exact HT7.out⟩, by simp [intOf]; omega⟩
          · have hze : (ofI z).isEmpty = false := by
              cases h : (ofI z).isEmpty with
              | false => rfl
              | true => exact absurd (HCE.out.1 h) hz
            have HNX : Hid (betH a.hs b.hs (ns.take (k + 1)) = betH a.hs b.hs (ns.take k) ++ [⟨n, ofI z⟩]) := Lib.hid (by rw [HTK.out, HCY.out hz])
            clear hz
            obtain ⟨vA, vB, hS⟩ := HT7.out.st
            obtain ⟨aA, cA, rfl⟩ := own_len hS.2.2.1
            obtain ⟨aB, cB, rfl⟩ := own_len hS.2.2.2
            have hd1 := hS.1.cell 1
            have hgl := hS.1.lt
            simp only [List.getElem?_toArray, List.getElem?_cons_zero, List.getElem?_cons_succ] at hd1
            have HS := Lib.hid hS
            have hle7 := HT7.out.le
            clear hS
            generalize betH a.hs b.hs (ns.take k) = bh at *
            generalize ofI z = zt at *
            go_wp2_with (at_builtin; refine wpList_append_lies _ rfl (.tmp 83) (.tmp 87) 23 rfl W3.heap.size 45 iH _ 2 32 Tryz.underlying23 HIH.out hzH0 hzH1 hzH2 rfl (by decide) (.slice aA bh.length cA) bh.length (hcells bh) rfl (own_ext HS.out.2.2.1 (Ext.new _ _)) ⟨w7.heap.size, 0, none⟩ 1 1 [.string (bs n), .string (bs zt)] rfl rfl (World.news_of_block (heap_alloc_new w7 _)) (by simp [Value.oneCell']) (by omega) (by simp only [maxLen]; omega) (by omega) (by simp; omega) _ rfl ?_; intro g' cap' w' hown hgrow hat hlt'; (have hb' := StAtV.growA (HS.out.ext (Ext.new _ _)) (by decide) hgrow); (have hg1 := hb'.cell 1); (have hg2 := hb'.frozen 1); (simp only [List.getElem?_toArray, List.getElem?_cons_zero, List.getElem?_cons_succ] at hg1); (have HT8 := Lib.hid (HT7.out.addH (x := ⟨n, zt⟩) HS.out _ hgrow hown)); clear hb' hown hgrow hat)
            exact ⟨⟨k + 1, by omega, by go_num, by rw [HNX.out]; exact HT8.out⟩, by simp [intOf]; omega⟩
        · have hkl : k = ns.length := by omega
          subst hkl
          rw [List.take_length] at HAT
          have HUS : Hid (betH a.hs b.hs ns = (betS a b).hs) := HBH
          obtain ⟨wo, rfl⟩ : ∃ wo : World, wo = wr := ⟨_, rfl⟩
          have hbb := HBB.out.ext HAT.out.ext
          have q2 := hbb.cell 2
          simp only [List.getElem?_toArray, List.getElem?_cons_zero, List.getElem?_cons_succ] at q2
          clear hbb hlt
          obtain ⟨iM, hiM, hzM0, hzM1, hzM2⟩ := info_parts movInfo
          have HIM := Lib.hid hiM
          clear hiM
          generalize betH a.hs b.hs ns = bh at *
          go_wp2_with fail
          go_loopw [94, 18] (fun i _ wr => ∃ k : Nat, k ≤ b.ms.length ∧ i = .int .i64 k ∧ BetAt W0 W3.heap.size W1.heap.size W2.heap.size (.slice An ns.length cn) ns ⟨b.day, bh, betM a.day (b.ms.take k)⟩ wr) (fun i _ _ => b.ms.length - (intOf i).toNat)
          case atStart => exact ⟨0, by omega, rfl, HAT.out⟩
          case round =>
            clear HAT q2
            obtain ⟨k, hk, rfl, hat⟩ := hrel
            have HAT := Lib.hid hat
            clear hat
            by_cases hlt : k < b.ms.length
            · obtain ⟨bn, on, rfl, hbn, hc0, hc1, hc2, hc3, hc4⟩ := (HB'.out.ext (HX0.out.trans HAT.out.ext)).at_ hlt
              have HTK := Lib.hid (betM_take (day := a.day) hlt)
              have hml : (betM a.day (b.ms.take k)).length ≤ 1000 := by
                have h1 : (betM a.day (b.ms.take k)).length ≤ (b.ms.take k).length := List.length_filter_le _ _
                rw [List.length_take] at h1; omega
              generalize hnk : b.ms[k]'hlt = m at *
              clear hnk
              have hba := HBA.out.ext HAT.out.ext
              have p0 := hba.cell 0
              have hal := hba.lt
              simp only [List.getElem?_toArray, List.getElem?_cons_zero] at p0
              clear hba
              by_cases hd : a.day < m.day
              · have HNX : Hid (betM a.day (b.ms.take (k + 1)) = betM a.day (b.ms.take k) ++ [m]) := Lib.hid (by rw [HTK.out, if_pos hd])
                have HT7 := Lib.hid (HAT.out.fwd (Ext.new wr (.cells #[.string (bs m.ref), .int .i64 m.day, .string (bs m.ins), .string (bs m.qty), .string (bs m.amt)] 50)))
                obtain ⟨vA, vB, hS⟩ := HT7.out.st
                obtain ⟨aA, cA, rfl⟩ := own_len hS.2.2.1
                obtain ⟨aB, cB, rfl⟩ := own_len hS.2.2.2
                have hd1 := hS.1.cell 2
                have hgl := hS.1.lt
                simp only [List.getElem?_toArray, List.getElem?_cons_zero, List.getElem?_cons_succ] at hd1
                have HS := Lib.hid hS
                have hle7 := HT7.out.le
                clear hS
                generalize betM a.day (b.ms.take k) = bm at *
                go_wp2_with (at_builtin; refine wpList_append_lies _ rfl (.tmp 104) (.tmp 106) 24 rfl W3.heap.size 50 iM _ 5 72 Tryz.underlying24 HIM.out hzM0 hzM1 hzM2 rfl (by decide) (.slice aB bm.length cB) bm.length (mcells bm) rfl (own_ext HS.out.2.2.2 (Ext.new _ _)) ⟨wr.heap.size + 1, 0, none⟩ 1 1 [.string (bs m.ref), .int .i64 m.day, .string (bs m.ins), .string (bs m.qty), .string (bs m.amt)] rfl rfl (World.news_of_block (by rw [← World.size_alloc wr _]; exact heap_alloc_new _ _)) (by simp [Value.oneCell']) (by omega) (by simp only [maxLen]; omega) (by omega) (by simp at hle7 ⊢; omega) _ rfl ?_; intro g' cap' w' hown hgrow hat hlt'; (have hb' := StAtV.growB (HS.out.ext (Ext.new _ _)) (by decide) hgrow); (have hg1 := hb'.cell 2); (have hg2 := hb'.frozen 2); (simp only [List.getElem?_toArray, List.getElem?_cons_zero, List.getElem?_cons_succ] at hg1); (have HT8 := Lib.hid (HT7.out.addM (x := m) HS.out _ hgrow hown)); clear hb' hown hgrow hat)
                exact ⟨⟨k + 1, by omega, by go_num, by rw [HNX.out]; exact HT8.out⟩, by simp [intOf]; omega⟩
              · have HNX : Hid (betM a.day (b.ms.take (k + 1)) = betM a.day (b.ms.take k)) := Lib.hid (by rw [HTK.out, if_neg hd, List.append_nil])
                go_wp2_with fail
                exact ⟨⟨k + 1, by omega, by go_num, by rw [HNX.out]; exact HAT.out.fwd (Ext.new _ _)⟩, by simp [intOf]; omega⟩
            · have hkl : k = b.ms.length := by omega
              subst hkl
              rw [List.take_length] at HAT
              clear hlt hk
              have HSM := Lib.hid (bet_small HSA.out HSB.out HQA.out HQB.out (by omega) (by omega))
              obtain ⟨vA, vB, hS⟩ := HAT.out.st
              obtain ⟨aA, cA, rfl⟩ := own_len hS.2.2.1
              obtain ⟨aB, cB, rfl⟩ := own_len hS.2.2.2
              have HBS : Hid (betS a b = ⟨b.day, bh, betM a.day b.ms⟩) := Lib.hid (by rw [HUS.out]; rfl)
              have HVL := Lib.hid (fun hc => bet_limit HCA.out HCB.out (by have := HDA.out; omega) hc)
              have HVO := Lib.hid (fun hc => bet_ok HCA.out HCB.out (by have := HDA.out; omega) hc)
              rw [HBS.out] at HSM HVL HVO
              have s0 := hS.1.cell 0
              have s1 := hS.1.cell 1
              have s2 := hS.1.cell 2
              simp only [List.getElem?_toArray, List.getElem?_cons_zero, List.getElem?_cons_succ] at s0 s1 s2
              have HS := Lib.hid hS
              clear hS
              generalize betM a.day b.ms = bm at *
              go_wp2_with fail
              refine (stCheck ⟨b.day, bh, bm⟩ aA aB cA cB _ (Reads.own HS.out.2.2.1) (Reads.own HS.out.2.2.2) HSM.out).mono ?_
              rintro e w9 ⟨rfl, hx9⟩
              have hbr := HBR.out.ext (HAT.out.ext.trans hx9)
              have HBR9 := Lib.hid hbr
              have HS9 := Lib.hid (HS.out.ext hx9)
              have HX9 := Lib.hid (HX0.out.trans (HAT.out.ext.trans hx9))
              have r0 := hbr.cell 0
              have r1 := hbr.cell 1
              have r2 := hbr.cell 2
              have f0 := hbr.frozen 0
              have f1 := hbr.frozen 1
              have f2 := hbr.frozen 2
              have t0 := HS9.out.1.cell 0
              have t1 := HS9.out.1.cell 1
              have t2 := HS9.out.1.cell 2
              simp only [List.getElem?_toArray, List.getElem?_cons_zero, List.getElem?_cons_succ] at r0 r1 r2 t0 t1 t2
              clear hbr hx9 s0 s1 s2 HS
              by_cases hz : checkS ⟨b.day, bh, bm⟩ = 0
              · have HV := Lib.hid (HVO.out hz)
                rw [hz]
                clear hz HVL HVO
                go_wp2_with fail
                refine bodyPost_ret (results_st2 rfl _ _ (w.heap.size + 1 + 1) _ _ _ rfl (HBR9.out.set3 _ _ _)) rfl ?_
                exact BetEnds.some_ (s' := ⟨b.day, bh, bm⟩) HV.out.1 HV.out.2 (Reads.own (own_set3 HS9.out.2.2.1 (own_ne HS9.out.2.2.1 HBR9.out (by decide)) _ _ _)) (Reads.own (own_set3 HS9.out.2.2.2 (own_ne HS9.out.2.2.2 HBR9.out (by decide)) _ _ _)) (HX9.out.set3 (by omega) _ _ _)
              · have HV := Lib.hid (HVL.out hz)
                have hzb : (checkS ⟨b.day, bh, bm⟩ != 0) = true := by simpa using hz
                clear hz HVL HVO
                go_wp2_with fail
                refine bodyPost_ret (results_st2 rfl _ _ (w.heap.size + 1 + 1) _ _ _ rfl (Blk.zeroSt HBR9.out)) rfl ?_
                exact BetEnds.noSt HV.out.1 HV.out.2 (HX9.out.set3 (by omega) _ _ _)
end Go.Proofs.YteeampgbmpolfaaGreatDoor

/- The walk over the reference's Between. -/
namespace Go.Proofs.YteeampgbmpolfaaGreatDoor
open Go.RowKit
attribute [local go_sem] size_bs toList_bs

theorem ins_at {hs : List Hd} {k : Nat} (h : k < (insOf hs).length) : (insOf hs)[k]'h = (hs[k]'(by rwa [insOf_len] at h)).ins := by simp [insOf]
/-- the next name: where it stands in both -/
theorem bet_next {a b : List Hd} (ga : Grows (insOf a)) (gb : Grows (insOf b)) {N : List Bs} (hN : unionN (insOf a) (insOf b) = N) {j : Nat} (hj : j < N.length) :
    (heldB a (N[j]'hj) = true ∧ heldB b (N[j]'hj) = true ∧ ∃ (hi : cntIn N (insOf a) j < a.length) (hk : cntIn N (insOf b) j < b.length), (a[cntIn N (insOf a) j]'hi).ins = N[j]'hj ∧ (b[cntIn N (insOf b) j]'hk).ins = N[j]'hj) ∨
    (heldB a (N[j]'hj) = true ∧ heldB b (N[j]'hj) = false ∧ ∃ (hi : cntIn N (insOf a) j < a.length), (a[cntIn N (insOf a) j]'hi).ins = N[j]'hj ∧ (cntIn N (insOf b) j = b.length ∨ ∃ (hk : cntIn N (insOf b) j < b.length), lt (N[j]'hj) (b[cntIn N (insOf b) j]'hk).ins = true)) ∨
    (heldB a (N[j]'hj) = false ∧ heldB b (N[j]'hj) = true ∧ ∃ (hk : cntIn N (insOf b) j < b.length), (b[cntIn N (insOf b) j]'hk).ins = N[j]'hj ∧ (cntIn N (insOf a) j = a.length ∨ ∃ (hi : cntIn N (insOf a) j < a.length), lt (N[j]'hj) (a[cntIn N (insOf a) j]'hi).ins = true)) := by
  obtain ⟨hg, hm⟩ := union_facts (insOf a) (insOf b)
  rw [hN] at hg hm
  have fa := filter_self hg ga (fun x hx => (hm x).2 (.inl hx))
  have fb := filter_self hg gb (fun x hx => (hm x).2 (.inr hx))
  have la := cnt_le fa j
  have lb := cnt_le fb j
  rw [insOf_len] at la lb
  have hin := (hm (N[j]'hj)).1 (List.getElem_mem hj)
  have ea : heldB a (N[j]'hj) = (insOf a).contains (N[j]'hj) := rfl
  have eb : heldB b (N[j]'hj) = (insOf b).contains (N[j]'hj) := rfl
  cases ha : (insOf a).contains (N[j]'hj) with
  | true =>
    obtain ⟨h1, h2⟩ := next_in fa hj ha
    rw [ins_at h1] at h2
    rw [insOf_len] at h1
    cases hb : (insOf b).contains (N[j]'hj) with
    | true =>
      obtain ⟨h3, h4⟩ := next_in fb hj hb
      rw [ins_at h3] at h4
      rw [insOf_len] at h3
      exact .inl ⟨ea.trans ha, eb.trans hb, h1, h3, h2, h4⟩
    | false =>
      refine .inr (.inl ⟨ea.trans ha, eb.trans hb, h1, h2, ?_⟩)
      rcases Nat.lt_or_ge (cntIn N (insOf b) j) b.length with h | h
      · have := next_out hg fb hj hb (by rw [insOf_len]; exact h)
        rw [ins_at] at this
        exact .inr ⟨h, this⟩
      · exact .inl (by omega)
  | false =>
    cases hb : (insOf b).contains (N[j]'hj) with
    | true =>
      obtain ⟨h3, h4⟩ := next_in fb hj hb
      rw [ins_at h3] at h4
      rw [insOf_len] at h3
      refine .inr (.inr ⟨ea.trans ha, eb.trans hb, h3, h4, ?_⟩)
      rcases Nat.lt_or_ge (cntIn N (insOf a) j) a.length with h | h
      · have := next_out hg fa hj ha (by rw [insOf_len]; exact h)
        rw [ins_at] at this
        exact .inr ⟨h, this⟩
      · exact .inl (by omega)
    | false =>
      exfalso
      rcases hin with h | h
      · rw [← List.contains_iff_mem, ha] at h; cases h
      · rw [← List.contains_iff_mem, hb] at h; cases h
theorem bet_end {a b : List Hd} (ga : Grows (insOf a)) (gb : Grows (insOf b)) {N : List Bs} (hN : unionN (insOf a) (insOf b) = N) : cntIn N (insOf a) N.length = a.length ∧ cntIn N (insOf b) N.length = b.length := by
  obtain ⟨hg, hm⟩ := union_facts (insOf a) (insOf b)
  rw [hN] at hg hm
  have fa := filter_self hg ga (fun x hx => (hm x).2 (.inl hx))
  have fb := filter_self hg gb (fun x hx => (hm x).2 (.inr hx))
  have h1 := cnt_end fa
  have h2 := cnt_end fb
  rw [insOf_len] at h1 h2
  exact ⟨h1, h2⟩
theorem bet_cnt {a b : List Hd} (ga : Grows (insOf a)) (gb : Grows (insOf b)) {N : List Bs} (hN : unionN (insOf a) (insOf b) = N) (j : Nat) : cntIn N (insOf a) j ≤ a.length ∧ cntIn N (insOf b) j ≤ b.length := by
  obtain ⟨hg, hm⟩ := union_facts (insOf a) (insOf b)
  rw [hN] at hg hm
  have h1 := cnt_le (filter_self hg ga (fun x hx => (hm x).2 (.inl hx))) j
  have h2 := cnt_le (filter_self hg gb (fun x hx => (hm x).2 (.inr hx))) j
  rw [insOf_len] at h1 h2
  exact ⟨h1, h2⟩
theorem cnt_step {hs : List Hd} {N : List Bs} {j : Nat} (hj : j < N.length) : cntIn N (insOf hs) (j + 1) = cntIn N (insOf hs) j + if heldB hs (N[j]'hj) then 1 else 0 := cntIn_succ N (insOf hs) hj
set_option maxRecDepth 100000 in
set_option maxHeartbeats 2000000 in
theorem refBetween (a b : St) (A B : Option Addr) (c d : Nat) (A' B' : Option Addr) (c' d' : Nat) (w : World) (hA : RdH w A a.hs) (hB : RdM w B a.ms) (hA' : RdH w A' b.hs) (hB' : RdM w B' b.ms) (hsa : SmallS a) (hsb : SmallS b) (hqa : ShortQ a.hs) (hqb : ShortQ b.hs) :
    Calls Tryz.prog 31 #[.agg #[.int .i64 a.day, .slice A a.hs.length c, .slice B a.ms.length d], .agg #[.int .i64 b.day, .slice A' b.hs.length c', .slice B' b.ms.length d']] w (BetEnds (betV a b) (betE a b) w) := by
  have HA := Lib.hid hA
  have HB := Lib.hid hB
  have HA' := Lib.hid hA'
  have HB' := Lib.hid hB'
  have HSA := Lib.hid hsa
  have HSB := Lib.hid hsb
  have HQA := Lib.hid hqa
  have HQB := Lib.hid hqb
  clear hA hB hA' hB' hsa hsb hqa hqb
  obtain ⟨W0, hW0⟩ : ∃ W0 : World, W0 = ((w.alloc (.cells #[.int .i64 a.day, .slice A a.hs.length c, .slice B a.ms.length d] 26)).alloc (.cells #[.int .i64 b.day, .slice A' b.hs.length c', .slice B' b.ms.length d'] 26)).alloc (.cells #[.int .i64 0, .slice none 0 0, .slice none 0 0] 26) := ⟨_, rfl⟩
  have HX0 : Hid (Ext w W0) := Lib.hid (by rw [hW0]; exact ((Ext.new _ _).alloc _).alloc _)
  have HBA : Hid (Blk W0 w.heap.size 26 #[.int .i64 a.day, .slice A a.hs.length c, .slice B a.ms.length d]) := Lib.hid (by rw [hW0]; exact ((Blk.new _ _ _).alloc _).alloc _)
  have HBB : Hid (Blk W0 (w.heap.size + 1) 26 #[.int .i64 b.day, .slice A' b.hs.length c', .slice B' b.ms.length d']) := Lib.hid (by rw [hW0]; exact (blkAt _ _ _ _ (by simp)).alloc _)
  have HBR : Hid (Blk W0 (w.heap.size + 1 + 1) 26 #[.int .i64 0, .slice none 0 0, .slice none 0 0]) := Lib.hid (by rw [hW0]; exact blkAt _ _ _ _ (by simp))
  go_enter Tryz.func31, Tryz.ntmps31
  go_wp2_with fail
  rw [← hW0]
  clear hW0
  refine (refCheckS a A B c d _ (HA.out.ext HX0.out) (HB.out.ext HX0.out) HSA.out).mono ?_
  rintro e w1 ⟨rfl, hx1⟩
  have HX1 := Lib.hid hx1
  clear hx1
  by_cases hca : checkS a = 0
  rotate_left
  · have HV := Lib.hid (bet_bad (.inl hca) : betV a b = noSt ∧ betE a b = 1)
    have hcb : (checkS a != 0) = true := by simpa using hca
    have hbr := HBR.out.ext HX1.out
    have r0 := hbr.cell 0
    have r1 := hbr.cell 1
    have r2 := hbr.cell 2
    have f0 := hbr.frozen 0
    have f1 := hbr.frozen 1
    have f2 := hbr.frozen 2
    simp only [List.getElem?_toArray, List.getElem?_cons_zero, List.getElem?_cons_succ] at r0 r1 r2
    clear hca hbr
    go_wp2_with fail
    refine bodyPost_ret (results_st2 rfl _ _ (w.heap.size + 1 + 1) _ _ _ rfl (Blk.zeroSt (HBR.out.ext HX1.out))) rfl ?_
    exact BetEnds.noSt HV.out.1 HV.out.2 ((HX0.out.trans HX1.out).set3 (by omega) _ _ _)
  rw [hca]
  have hbb := HBB.out.ext HX1.out
  have q0 := hbb.cell 0
  have q1 := hbb.cell 1
  have q2 := hbb.cell 2
  simp only [List.getElem?_toArray, List.getElem?_cons_zero, List.getElem?_cons_succ] at q0 q1 q2
  have HCA := Lib.hid hca
  clear hbb hca
  go_wp2_with fail
  refine (refCheckS b A' B' c' d' _ (HA'.out.ext (HX0.out.trans HX1.out)) (HB'.out.ext (HX0.out.trans HX1.out)) HSB.out).mono ?_
  rintro e w2 ⟨rfl, hx2⟩
  have HX2 := Lib.hid (HX1.out.trans hx2)
  clear hx2 q0 q1 q2 HX1
  have hbr := HBR.out.ext HX2.out
  have r0 := hbr.cell 0
  have r1 := hbr.cell 1
  have r2 := hbr.cell 2
  have f0 := hbr.frozen 0
  have f1 := hbr.frozen 1
  have f2 := hbr.frozen 2
  have hba := HBA.out.ext HX2.out
  have p0 := hba.cell 0
  have hbb := HBB.out.ext HX2.out
  have q0 := hbb.cell 0
  simp only [List.getElem?_toArray, List.getElem?_cons_zero, List.getElem?_cons_succ] at r0 r1 r2 p0 q0
  clear hbr hba hbb
  by_cases hcb : checkS b = 0
  rotate_left
  · have HV := Lib.hid (bet_bad (.inr hcb) : betV a b = noSt ∧ betE a b = 1)
    have hcbb : (checkS b != 0) = true := by simpa using hcb
    clear hcb
    go_wp2_with fail
    refine bodyPost_ret (results_st2 rfl _ _ (w.heap.size + 1 + 1) _ _ _ rfl (Blk.zeroSt (HBR.out.ext HX2.out))) rfl ?_
    exact BetEnds.noSt HV.out.1 HV.out.2 ((HX0.out.trans HX2.out).set3 (by omega) _ _ _)
  rw [hcb]
  have HCB := Lib.hid hcb
  clear hcb
  by_cases hda : b.day < a.day
  · have HV := Lib.hid (bet_order HCA.out HCB.out hda)
    go_wp2_with fail
    refine bodyPost_ret (results_st2 rfl _ _ (w.heap.size + 1 + 1) _ _ _ rfl (Blk.zeroSt (HBR.out.ext HX2.out))) rfl ?_
    exact BetEnds.noSt HV.out.1 HV.out.2 ((HX0.out.trans HX2.out).set3 (by omega) _ _ _)
  have hdab : decide (b.day < a.day) = false := by simpa using hda
  have HDA := Lib.hid hda
  clear hda
  have hla : a.hs.length ≤ 64 := (checkH_zero (checkS_zero.1 HCA.out).2.1).1
  have hlb : b.hs.length ≤ 64 := (checkH_zero (checkS_zero.1 HCB.out).2.1).1
  have hlm : b.ms.length ≤ 1000 := (checkM_zero (checkS_zero.1 HCB.out).2.2).1
  have HGA := Lib.hid (ins_grows (checkS_zero.1 HCA.out).2.1)
  have HGB := Lib.hid (ins_grows (checkS_zero.1 HCB.out).2.1)
  go_wp2_with fail
  clear r0 r1 r2 f0 f1 f2 p0 q0
  have HAT : Hid (BetAt W0 (w2.alloc (.cells #[.int .i64 b.day, .slice none 0 0, .slice none 0 0] 26)).heap.size 0 w2.heap.size (.slice none 0 0) [] ⟨b.day, betH a.hs b.hs ((unionN (insOf a.hs) (insOf b.hs)).take 0), []⟩ (w2.alloc (.cells #[.int .i64 b.day, .slice none 0 0, .slice none 0 0] 26))) := Lib.hid (BetAt.new (Blk.new _ _ _) rfl rfl ⟨rfl, .inl ⟨rfl, rfl⟩⟩ (HX2.out.alloc _) HX2.out.size)
  have hw2 : w2.heap.size < (w2.alloc (.cells #[.int .i64 b.day, .slice none 0 0, .slice none 0 0] 26)).heap.size := by simp
  generalize w2.alloc (.cells #[.int .i64 b.day, .slice none 0 0, .slice none 0 0] 26) = W3 at *
  have HBH : Hid (betH a.hs b.hs (unionN (insOf a.hs) (insOf b.hs)) = (betS a b).hs) := Lib.hid rfl
  have HUL : Hid ((unionN (insOf a.hs) (insOf b.hs)).length ≤ 128) := Lib.hid (by have := union_len (insOf a.hs) (insOf b.hs); rw [insOf_len, insOf_len] at this; omega)
  have HUN : Hid (unionN (insOf a.hs) (insOf b.hs) = unionN (insOf a.hs) (insOf b.hs)) := Lib.hid rfl
  have HNX0 := Lib.hid (fun j hj => bet_next HGA.out HGB.out rfl (j := j) hj)
  have HEN0 := Lib.hid (bet_end HGA.out HGB.out rfl)
  have HCL0 := Lib.hid (bet_cnt HGA.out HGB.out rfl)
  clear HUN
  generalize unionN (insOf a.hs) (insOf b.hs) = ns at *
  obtain ⟨iH, hiH, hzH0, hzH1, hzH2⟩ := info_parts holdInfo
  have HIH := Lib.hid hiH
  clear hiH
  go_loopw [7, 8, 9, 10, 11, 12, 13, 14] (fun i k _ _ _ _ _ _ wr => ∃ j : Nat, j ≤ ns.length ∧ i = .int .i64 (cntIn ns (insOf a.hs) j : Nat) ∧ k = .int .i64 (cntIn ns (insOf b.hs) j : Nat) ∧ BetAt W0 W3.heap.size 0 w2.heap.size (.slice none 0 0) [] ⟨b.day, betH a.hs b.hs (ns.take j), []⟩ wr) (fun i k _ _ _ _ _ _ _ => a.hs.length + b.hs.length - ((intOf i).toNat + (intOf k).toNat))
  case atStart => exact ⟨0, by omega, rfl, rfl, HAT.out⟩
  case round =>
    clear HAT
    obtain ⟨j, hj, rfl, rfl, hat⟩ := hrel
    have HAT := Lib.hid hat
    clear hat
    have hul := HUL.out
    have hba := HBA.out.ext HAT.out.ext
    have p0 := hba.cell 0
    have p1 := hba.cell 1
    have p2 := hba.cell 2
    have hbb := HBB.out.ext HAT.out.ext
    have q0 := hbb.cell 0
    have q1 := hbb.cell 1
    have q2 := hbb.cell 2
    simp only [List.getElem?_toArray, List.getElem?_cons_zero, List.getElem?_cons_succ] at p0 p1 p2 q0 q1 q2
    clear hba hbb
    by_cases hlt : j < ns.length
    · have hnx := HNX0.out j hlt
      obtain ⟨hile, hkle⟩ := HCL0.out j
      have HSI := Lib.hid (cnt_step (hs := a.hs) hlt)
      have HSK := Lib.hid (cnt_step (hs := b.hs) hlt)
      have HTK := Lib.hid (betH_take (a := a.hs) (b := b.hs) hlt)
      have hhl : (betH a.hs b.hs (ns.take j)).length ≤ 128 := by have := betH_len a.hs b.hs (ns.take j); rw [List.length_take] at this; omega
      generalize ns[j]'hlt = n at *
      generalize hci : cntIn ns (insOf a.hs) j = i at *
      generalize hck : cntIn ns (insOf b.hs) j = k at *
      clear hci hck
      rcases hnx with ⟨ha, hb, hi, hk, ea, eb⟩ | ⟨ha, hb, hi, ea, hke⟩ | ⟨ha, hb, hk, eb, hie⟩
      focus
        have HCI : Hid (cntIn ns (insOf a.hs) (j + 1) = i + 1) := Lib.hid (by rw [HSI.out, if_pos ha])
        have HCK : Hid (cntIn ns (insOf b.hs) (j + 1) = k + 1) := Lib.hid (by rw [HSK.out, if_pos hb])
        obtain ⟨b1, o1, rfl, hb1, hc1, hc1q⟩ := (HA.out.ext (HX0.out.trans HAT.out.ext)).at_ hi
        obtain ⟨b2, o2, rfl, hb2, hc2, hc2q⟩ := (HA'.out.ext (HX0.out.trans HAT.out.ext)).at_ hk
        rw [ea] at hc1
        rw [eb] at hc2
        have hnb : ((k : Int) == (b.hs.length : Int)) = false := by rw [beq_eq_false_iff_ne]; omega
        have hll : Op.bytesLess n n = false := lt_irrefl n
        have hmi : i < a.hs.length ∨ k < b.hs.length := .inl hi
        clear ea eb HSI HSK
        go_wp2_with fail
        go_quiet (fail)
        go_wp2_with fail
        clear hll hnb hc1 hc2 hc1q hc2q
      rotate_left
      focus
        have HCI : Hid (cntIn ns (insOf a.hs) (j + 1) = i + 1) := Lib.hid (by rw [HSI.out, if_pos ha])
        have HCK : Hid (cntIn ns (insOf b.hs) (j + 1) = k) := Lib.hid (by rw [HSK.out, if_neg (by rw [hb]; decide)]; rfl)
        obtain ⟨b1, o1, rfl, hb1, hc1, hc1q⟩ := (HA.out.ext (HX0.out.trans HAT.out.ext)).at_ hi
        rw [ea] at hc1
        have hmi : i < a.hs.length ∨ k < b.hs.length := .inl hi
        clear ea HSI HSK
        rcases hke with hke | ⟨hk, hl⟩
        focus
          have hnb : ((k : Int) == (b.hs.length : Int)) = true := by rw [beq_iff_eq]; omega
          clear hke
          go_wp2_with fail
          go_quiet (fail)
          go_wp2_with fail
          clear hnb hc1 hc1q
        rotate_left
        focus
          obtain ⟨b2, o2, rfl, hb2, hc2, hc2q⟩ := (HA'.out.ext (HX0.out.trans HAT.out.ext)).at_ hk
          have hnb : ((k : Int) == (b.hs.length : Int)) = false := by rw [beq_eq_false_iff_ne]; omega
          have hll : Op.bytesLess n (b.hs[k]'hk).ins = true := hl
          clear hl
          go_wp2_with fail
          go_quiet (fail)
          go_wp2_with fail
          clear hll hnb hc1 hc2 hc1q hc2q
      rotate_left 2
      focus
        have HCI : Hid (cntIn ns (insOf a.hs) (j + 1) = i) := Lib.hid (by rw [HSI.out, if_neg (by rw [ha]; decide)]; rfl)
        have HCK : Hid (cntIn ns (insOf b.hs) (j + 1) = k + 1) := Lib.hid (by rw [HSK.out, if_pos hb])
        obtain ⟨b2, o2, rfl, hb2, hc2, hc2q⟩ := (HA'.out.ext (HX0.out.trans HAT.out.ext)).at_ hk
        rw [eb] at hc2
        have hmi : i < a.hs.length ∨ k < b.hs.length := .inr hk
        have hnb : ((k : Int) == (b.hs.length : Int)) = false := by rw [beq_eq_false_iff_ne]; omega
        clear eb HSI HSK
        rcases hie with hie | ⟨hi, hl⟩
        focus
          have hia : ¬ i < a.hs.length := by omega
          clear hie
          go_wp2_with fail
          go_quiet (fail)
          go_wp2_with fail
          clear hnb hc2 hc2q
        rotate_left
        focus
          obtain ⟨b1, o1, rfl, hb1, hc1, hc1q⟩ := (HA.out.ext (HX0.out.trans HAT.out.ext)).at_ hi
          have hll : Op.bytesLess (a.hs[i]'hi).ins n = false := lt_asymm _ _ hl
          clear hl
          go_wp2_with fail
          go_quiet (fail)
          go_wp2_with fail
          clear hll hnb hc1 hc2 hc1q hc2q
      all_goals
        refine (refHeld0 a n _ _ _ _ _ (HA.out.ext (HX0.out.trans (HAT.out.ext.drewN _))) (by omega)).mono ?_
        rintro e w5 ⟨rfl, hx5⟩
        have HT5 := Lib.hid ((HAT.out.fwd ((Ext.refl _).drewN _)).fwd hx5)
        have hbb := HBB.out.ext HT5.out.ext
        have q0 := hbb.cell 0
        have q1 := hbb.cell 1
        have q2 := hbb.cell 2
        simp only [List.getElem?_toArray, List.getElem?_cons_zero, List.getElem?_cons_succ] at q0 q1 q2
        clear hbb hx5 p0 p1 p2 HAT
        go_wp2_with fail
        refine (refHeld0 b n _ _ _ _ _ (HA'.out.ext (HX0.out.trans HT5.out.ext)) (by omega)).mono ?_
        rintro e w6 ⟨rfl, hx6⟩
        have HT6 := Lib.hid (HT5.out.fwd hx6)
        clear hx6 q0 q1 q2 HT5
        go_wp2_with fail
        refine (refSub (heldQ b.hs n) (heldQ a.hs n) _ (by have := heldQ_short HQB.out n; omega) (by have := heldQ_short HQA.out n; omega)).mono ?_
        rintro e w7 ⟨rfl, hx7⟩
        have HT7 := Lib.hid (HT6.out.fwd hx7)
        clear hx7 HT6
        have HCE := Lib.hid (chg_empty (a := a.hs) (b := b.hs) (n := n))
        have HCN := Lib.hid (fun h => betOne_no (a := a.hs) (b := b.hs) (n := n) h)
        have HCY := Lib.hid (fun h => betOne_yes (a := a.hs) (b := b.hs) (n := n) h)
        have ecg : valI (heldQ b.hs n) - valI (heldQ a.hs n) = chg a.hs b.hs n := rfl
        rw [ecg]
        clear ecg
        generalize chg a.hs b.hs n = z at *
        by_cases hz : z = 0
        · have hze : (ofI z).isEmpty = true := HCE.out.2 hz
          have HNX : Hid (betH a.hs b.hs (ns.take (j + 1)) = betH a.hs b.hs (ns.take j)) := Lib.hid (by rw [HTK.out, HCN.out hz, List.append_nil])
          clear hz
          go_wp2_with fail
          exact ⟨⟨j + 1, by omega, by first | (rw [HCI.out]; done) | (rw [HCI.out]; go_num), by first | (rw [HCK.out]; done) | (rw [HCK.out]; go_num), by rw [HNX.out]; exact HT7.out⟩, by simp [intOf]; omega⟩
        · have hze : (ofI z).isEmpty = false := by
            cases h : (ofI z).isEmpty with
            | false => rfl
            | true => exact absurd (HCE.out.1 h) hz
          have HNX : Hid (betH a.hs b.hs (ns.take (j + 1)) = betH a.hs b.hs (ns.take j) ++ [⟨n, ofI z⟩]) := Lib.hid (by rw [HTK.out, HCY.out hz])
          clear hz
          obtain ⟨vA, vB, hS⟩ := HT7.out.st
          obtain ⟨aA, cA, rfl⟩ := own_len hS.2.2.1
          obtain ⟨aB, cB, rfl⟩ := own_len hS.2.2.2
          have hd1 := hS.1.cell 1
          have hgl := hS.1.lt
          simp only [List.getElem?_toArray, List.getElem?_cons_zero, List.getElem?_cons_succ] at hd1
          have HS := Lib.hid hS
          have hle7 := HT7.out.le
          clear hS
          generalize betH a.hs b.hs (ns.take j) = bh at *
          generalize ofI z = zt at *
          go_wp2_with (at_builtin; refine wpList_append_lies _ rfl (.tmp 109) (.tmp 113) 23 rfl W3.heap.size 45 iH _ 2 32 Tryz.underlying23 HIH.out hzH0 hzH1 hzH2 rfl (by decide) (.slice aA bh.length cA) bh.length (hcells bh) rfl (own_ext HS.out.2.2.1 (Ext.new _ _)) ⟨w7.heap.size, 0, none⟩ 1 1 [.string (bs n), .string (bs zt)] rfl rfl (World.news_of_block (heap_alloc_new w7 _)) (by simp [Value.oneCell']) (by omega) (by simp only [maxLen]; omega) (by omega) (by simp; omega) _ rfl ?_; intro g' cap' w' hown hgrow hat hlt'; (have hb' := StAtV.growA (HS.out.ext (Ext.new _ _)) (by decide) hgrow); (have hg1 := hb'.cell 1); (have hg2 := hb'.frozen 1); (simp only [List.getElem?_toArray, List.getElem?_cons_zero, List.getElem?_cons_succ] at hg1); (have HT8 := Lib.hid (HT7.out.addH (x := ⟨n, zt⟩) HS.out _ hgrow hown)); clear hb' hown hgrow hat)
          exact ⟨⟨j + 1, by omega, by first | (rw [HCI.out]; done) | (rw [HCI.out]; go_num), by first | (rw [HCK.out]; done) | (rw [HCK.out]; go_num), by rw [HNX.out]; exact HT8.out⟩, by simp [intOf]; omega⟩
    · have hkl : j = ns.length := by omega
      subst hkl
      rw [List.take_length] at HAT
      obtain ⟨ea, eb⟩ := HEN0.out
      rw [ea, eb]
      clear ea eb hlt hj
      have HUS : Hid (betH a.hs b.hs ns = (betS a b).hs) := HBH
      obtain ⟨wo, rfl⟩ : ∃ wo : World, wo = wr := ⟨_, rfl⟩
      have hbb := HBB.out.ext HAT.out.ext
      have q2 := hbb.cell 2
      simp only [List.getElem?_toArray, List.getElem?_cons_zero, List.getElem?_cons_succ] at q2
      clear hbb
      obtain ⟨iM, hiM, hzM0, hzM1, hzM2⟩ := info_parts movInfo
      have HIM := Lib.hid hiM
      clear hiM
      generalize betH a.hs b.hs ns = bh at *
      go_wp2_with fail
      go_loopw [15] (fun i wr => ∃ k : Nat, k ≤ b.ms.length ∧ i = .int .i64 k ∧ BetAt W0 W3.heap.size 0 w2.heap.size (.slice none 0 0) [] ⟨b.day, bh, betM a.day (b.ms.take k)⟩ wr) (fun i _ => b.ms.length - (intOf i).toNat)
      case atStart => exact ⟨0, by omega, rfl, HAT.out⟩
      case round =>
        clear HAT q2
        obtain ⟨k, hk, rfl, hat⟩ := hrel
        have HAT := Lib.hid hat
        clear hat
        have hba := HBA.out.ext HAT.out.ext
        have p0 := hba.cell 0
        have hbb := HBB.out.ext HAT.out.ext
        have q2 := hbb.cell 2
        simp only [List.getElem?_toArray, List.getElem?_cons_zero, List.getElem?_cons_succ] at p0 q2
        clear hba hbb
        by_cases hlt : k < b.ms.length
        · obtain ⟨bn, on, rfl, hbn, hc0, hc1, hc2, hc3, hc4⟩ := (HB'.out.ext (HX0.out.trans HAT.out.ext)).at_ hlt
          have HTK := Lib.hid (betM_take (day := a.day) hlt)
          have hml : (betM a.day (b.ms.take k)).length ≤ 1000 := by
            have h1 : (betM a.day (b.ms.take k)).length ≤ (b.ms.take k).length := List.length_filter_le _ _
            rw [List.length_take] at h1; omega
          generalize hnk : b.ms[k]'hlt = m at *
          clear hnk
          by_cases hd : a.day < m.day
          · have HNX : Hid (betM a.day (b.ms.take (k + 1)) = betM a.day (b.ms.take k) ++ [m]) := Lib.hid (by rw [HTK.out, if_pos hd])
            go_wp2_with fail
            go_quiet (fail)
            go_wp2_with fail
            have HT7 := Lib.hid (HAT.out.fwd ((Ext.refl _).drewN nq))
            have c0 : (wr.drewN nq).cell? ⟨bn, on + k * 5, none⟩ = some (.string (bs m.ref)) := hc0
            have c1 : (wr.drewN nq).cell? ⟨bn, on + k * 5 + 1, none⟩ = some (.int .i64 m.day) := hc1
            have c2 : (wr.drewN nq).cell? ⟨bn, on + k * 5 + 2, none⟩ = some (.string (bs m.ins)) := hc2
            have c3 : (wr.drewN nq).cell? ⟨bn, on + k * 5 + 3, none⟩ = some (.string (bs m.qty)) := hc3
            have c4 : (wr.drewN nq).cell? ⟨bn, on + k * 5 + 4, none⟩ = some (.string (bs m.amt)) := hc4
            have q3 : (wr.drewN nq).cell? ⟨w.heap.size + 1, 2, none⟩ = some (.slice (some ⟨bn, on, none⟩) b.ms.length d') := q2
            clear hc0 hc1 hc2 hc3 hc4 q2 p0 HAT
            generalize wr.drewN nq = wq at *
            obtain ⟨vA, vB, hS⟩ := HT7.out.st
            obtain ⟨aA, cA, rfl⟩ := own_len hS.2.2.1
            obtain ⟨aB, cB, rfl⟩ := own_len hS.2.2.2
            have hd1 := hS.1.cell 2
            have hgl := hS.1.lt
            simp only [List.getElem?_toArray, List.getElem?_cons_zero, List.getElem?_cons_succ] at hd1
            have HS := Lib.hid hS
            have HT7d := Lib.hid (HT7.out.fwd ((Ext.refl _).drew))
            have HSd := Lib.hid (hS.ext ((Ext.refl _).drew))
            have hle7 := HT7.out.le
            clear hS
            generalize betM a.day (b.ms.take k) = bm at *
            go_region_law ((refine step_append_lies _ (by rfl) (.tmp 133) (.tmp 139) 24 (by rfl) W3.heap.size 50 iM _ 5 72 Tryz.underlying24 HIM.out hzM0 hzM1 hzM2 rfl (by decide) (.slice aB bm.length cB) bm.length (mcells bm) (by simp [Act.eval]) (HS.out.2.2.2.drew.alloc _) ⟨wq.heap.size, 0, none⟩ 1 1 [.string (bs m.ref), .int .i64 m.day, .string (bs m.ins), .string (bs m.qty), .string (bs m.amt)] (by simp [Act.eval]) rfl (World.news_of_block (heap_alloc_new wq.drew _)) (by simp [Value.oneCell']) (by omega) (by simp only [maxLen]; omega) (by omega) (by simp; omega) _ rfl ?_); intro g' cap' w' hown hgrow hat hlt'; (have hb' := StAtV.growB (HSd.out.ext (Ext.new _ _)) (by decide) hgrow); (have hg1 := hb'.cell 2); (have hg2 := hb'.frozen 2); (simp only [List.getElem?_toArray, List.getElem?_cons_zero, List.getElem?_cons_succ] at hg1); (have HT8 := Lib.hid (HT7d.out.addM (x := m) HSd.out _ hgrow hown)); clear hb' hown hgrow hat)
            all_goals
              go_wp2_with fail
              exact ⟨⟨k + 1, by omega, by go_num, by rw [HNX.out]; exact HT8.out⟩, by simp [intOf]; omega⟩
          · have HNX : Hid (betM a.day (b.ms.take (k + 1)) = betM a.day (b.ms.take k)) := Lib.hid (by rw [HTK.out, if_neg hd, List.append_nil])
            go_wp2_with fail
            go_quiet (fail)
            go_wp2_with fail
            exact ⟨⟨k + 1, by omega, by go_num, by rw [HNX.out]; exact HAT.out.fwd ((Ext.refl _).drewN _)⟩, by simp [intOf]; omega⟩
        · have hkl : k = b.ms.length := by omega
          subst hkl
          rw [List.take_length] at HAT
          clear hlt hk
          have HSM := Lib.hid (bet_small HSA.out HSB.out HQA.out HQB.out (by omega) (by omega))
          obtain ⟨vA, vB, hS⟩ := HAT.out.st
          obtain ⟨aA, cA, rfl⟩ := own_len hS.2.2.1
          obtain ⟨aB, cB, rfl⟩ := own_len hS.2.2.2
          have HBS : Hid (betS a b = ⟨b.day, bh, betM a.day b.ms⟩) := Lib.hid (by rw [HUS.out]; rfl)
          have HVL := Lib.hid (fun hc => bet_limit HCA.out HCB.out (by have := HDA.out; omega) hc)
          have HVO := Lib.hid (fun hc => bet_ok HCA.out HCB.out (by have := HDA.out; omega) hc)
          rw [HBS.out] at HSM HVL HVO
          have s0 := hS.1.cell 0
          have s1 := hS.1.cell 1
          have s2 := hS.1.cell 2
          simp only [List.getElem?_toArray, List.getElem?_cons_zero, List.getElem?_cons_succ] at s0 s1 s2
          have HS := Lib.hid hS
          clear hS
          generalize betM a.day b.ms = bm at *
          go_wp2_with fail
          refine (refCheckS ⟨b.day, bh, bm⟩ aA aB cA cB _ (Reads.own HS.out.2.2.1) (Reads.own HS.out.2.2.2) HSM.out).mono ?_
          rintro e w9 ⟨rfl, hx9⟩
          have hbr := HBR.out.ext (HAT.out.ext.trans hx9)
          have HBR9 := Lib.hid hbr
          have HS9 := Lib.hid (HS.out.ext hx9)
          have HX9 := Lib.hid (HX0.out.trans (HAT.out.ext.trans hx9))
          have r0 := hbr.cell 0
          have r1 := hbr.cell 1
          have r2 := hbr.cell 2
          have f0 := hbr.frozen 0
          have f1 := hbr.frozen 1
          have f2 := hbr.frozen 2
          have t0 := HS9.out.1.cell 0
          have t1 := HS9.out.1.cell 1
          have t2 := HS9.out.1.cell 2
          simp only [List.getElem?_toArray, List.getElem?_cons_zero, List.getElem?_cons_succ] at r0 r1 r2 t0 t1 t2
          clear hbr hx9 s0 s1 s2 HS
          by_cases hz : checkS ⟨b.day, bh, bm⟩ = 0
          · have HV := Lib.hid (HVO.out hz)
            rw [hz]
            clear hz HVL HVO
            go_wp2_with fail
            refine bodyPost_ret (results_st2 rfl _ _ (w.heap.size + 1 + 1) _ _ _ rfl (HBR9.out.set3 _ _ _)) rfl ?_
            exact BetEnds.some_ (s' := ⟨b.day, bh, bm⟩) HV.out.1 HV.out.2 (Reads.own (own_set3 HS9.out.2.2.1 (own_ne HS9.out.2.2.1 HBR9.out (by decide)) _ _ _)) (Reads.own (own_set3 HS9.out.2.2.2 (own_ne HS9.out.2.2.2 HBR9.out (by decide)) _ _ _)) (HX9.out.set3 (by omega) _ _ _)
          · have HV := Lib.hid (HVL.out hz)
            have hzb : (checkS ⟨b.day, bh, bm⟩ != 0) = true := by simpa using hz
            clear hz HVL HVO
            go_wp2_with fail
            refine bodyPost_ret (results_st2 rfl _ _ (w.heap.size + 1 + 1) _ _ _ rfl (Blk.zeroSt HBR9.out)) rfl ?_
            exact BetEnds.noSt HV.out.1 HV.out.2 (HX9.out.set3 (by omega) _ _ _)
end Go.Proofs.YteeampgbmpolfaaGreatDoor

/- The walk over the reference's Same, at any two statements. -/
namespace Go.Proofs.YteeampgbmpolfaaGreatDoor
open Go.RowKit
attribute [local go_sem] size_bs toList_bs

set_option maxRecDepth 100000 in
set_option maxHeartbeats 2000000 in
theorem refSameG (s s' : St) (A B : Option Addr) (c d : Nat) (A' B' : Option Addr) (c' d' : Nat) (w : World) (hA : RdH w A s.hs) (hB : RdM w B s.ms) (hA' : RdH w A' s'.hs) (hB' : RdM w B' s'.ms) (hn : s.hs.length ≤ 4611686018427387904) (hm : s.ms.length ≤ 4611686018427387904) (hn' : s'.hs.length ≤ 4611686018427387904) (hm' : s'.ms.length ≤ 4611686018427387904) :
    Calls Tryz.prog 15 #[.agg #[.int .i64 s.day, .slice A s.hs.length c, .slice B s.ms.length d], .agg #[.int .i64 s'.day, .slice A' s'.hs.length c', .slice B' s'.ms.length d']] w (EqEnds (s = s') w) := by
  obtain ⟨day, hs, ms⟩ := s
  obtain ⟨day', hs', ms'⟩ := s'
  simp only at hA hB hA' hB' hn hm hn' hm'
  have HE : Hid (((⟨day, hs, ms⟩ : St) = ⟨day', hs', ms'⟩) ↔ (day = day' ∧ hs = hs' ∧ ms = ms')) := Lib.hid (by constructor; (intro h; injection h with a b c; exact ⟨a, b, c⟩); (rintro ⟨rfl, rfl, rfl⟩; rfl))
  generalize hP : ((⟨day, hs, ms⟩ : St) = ⟨day', hs', ms'⟩) = P at *
  clear hP
  have HX0 : Hid (Ext w ((w.alloc (.cells #[.int .i64 day, .slice A hs.length c, .slice B ms.length d] 26)).alloc (.cells #[.int .i64 day', .slice A' hs'.length c', .slice B' ms'.length d'] 26))) := Lib.hid ((Ext.new _ _).alloc _)
  have HW0 := Lib.hid (((Blk.new w 26 #[.int .i64 day, .slice A hs.length c, .slice B ms.length d]).ext (Ext.new _ (.cells #[.int .i64 day', .slice A' hs'.length c', .slice B' ms'.length d'] 26))))
  have HW1 := Lib.hid (Blk.new (w.alloc (.cells #[.int .i64 day, .slice A hs.length c, .slice B ms.length d] 26)) 26 #[.int .i64 day', .slice A' hs'.length c', .slice B' ms'.length d'])
  simp only [World.size_alloc] at HW1
  have HA := Lib.hid hA
  have HB := Lib.hid hB
  have HA' := Lib.hid hA'
  have HB' := Lib.hid hB'
  clear hA hB hA' hB'
  by_cases hd : day = day'
  rotate_left
  · have HY : Hid (¬ P) := Lib.hid (fun e => hd (HE.out.1 e).1)
    have hdb : (day != day') = true := by rw [bne_iff_ne]; exact hd
    clear hd
    go_enter Tryz.func15, Tryz.ntmps15
    go_wp2_with fail
    go_ret
    exact ⟨HX0.out, .inr ⟨HY.out, rfl⟩⟩
  subst hd
  by_cases hl : hs.length = hs'.length
  rotate_left
  · have HY : Hid (¬ P) := Lib.hid (fun e => hl (by rw [(HE.out.1 e).2.1]))
    have hbl : ((hs.length : Int) != (hs'.length : Int)) = true := by rw [bne_iff_ne]; omega
    clear hl
    go_enter Tryz.func15, Tryz.ntmps15
    go_wp2_with fail
    go_ret
    exact ⟨HX0.out, .inr ⟨HY.out, rfl⟩⟩
  have HLL := Lib.hid hl
  have hbl : ((hs.length : Int) != (hs'.length : Int)) = false := by rw [bne_eq_false_iff_eq]; omega
  clear hl
  by_cases hl : ms.length = ms'.length
  rotate_left
  · have HY : Hid (¬ P) := Lib.hid (fun e => hl (by rw [(HE.out.1 e).2.2]))
    have hbm : ((ms.length : Int) != (ms'.length : Int)) = true := by rw [bne_iff_ne]; omega
    clear hl
    go_enter Tryz.func15, Tryz.ntmps15
    go_wp2_with fail
    go_ret
    exact ⟨HX0.out, .inr ⟨HY.out, rfl⟩⟩
  have HML := Lib.hid hl
  have hbm : ((ms.length : Int) != (ms'.length : Int)) = false := by rw [bne_eq_false_iff_eq]; omega
  clear hl
  go_enter Tryz.func15, Tryz.ntmps15
  go_wp2_with fail
  generalize (w.alloc (.cells #[.int .i64 day, .slice A hs.length c, .slice B ms.length d] 26)).alloc (.cells #[.int .i64 day, .slice A' hs'.length c', .slice B' ms'.length d'] 26) = W at *
  go_loopw [5] (fun i wr => ∃ k : Nat, k ≤ hs.length ∧ i = .int .i64 k ∧ (∀ (j : Nat) (h1 : j < hs.length) (h2 : j < hs'.length), j < k → hs[j] = hs'[j]) ∧ Ext W wr) (fun i _ => hs.length - (intOf i).toNat)
  case atStart => exact ⟨0, by omega, rfl, fun j _ _ hj => absurd hj (by omega), Ext.refl _⟩
  case round =>
    obtain ⟨k, hk, rfl, hz, hx⟩ := hrel
    have HZ := Lib.hid hz
    have HX := Lib.hid hx
    have hq1 := (HW0.out.ext hx).cell 1
    have hq2 := (HW0.out.ext hx).cell 2
    have hr1 := (HW1.out.ext hx).cell 1
    have hr2 := (HW1.out.ext hx).cell 2
    simp only [List.getElem?_toArray, List.getElem?_cons_zero, List.getElem?_cons_succ] at hq1 hq2 hr1 hr2
    clear hz hx
    by_cases hlt : k < hs.length
    · have hlt' : k < hs'.length := by have := HLL.out; omega
      obtain ⟨b, o, rfl, hb, hc1, hc2⟩ := (HA.out.ext (HX0.out.trans HX.out)).at_ hlt
      obtain ⟨b', o', rfl, hb', hd1, hd2⟩ := (HA'.out.ext (HX0.out.trans HX.out)).at_ hlt'
      by_cases he : hs[k] = hs'[k]
      · have HST := Lib.hid (step_at HZ.out hlt hlt' he)
        rw [← he] at hd1 hd2
        generalize (hs[k]'hlt) = h at *
        clear he
        go_wp2_with fail
        go_quiet (fail)
        go_wp2_with fail
        go_roundw
        case rel => exact ⟨k + 1, by omega, by go_num, HST.out, HX.out.drewN _⟩
        case measure => simp [intOf]; omega
      · have HNE : Hid (¬ P) := Lib.hid (fun e => he (by have := (HE.out.1 e).2.1; subst this; rfl))
        have HNC : Hid (¬ ((hs[k]'hlt).ins = (hs'[k]'hlt').ins ∧ (hs[k]'hlt).qty = (hs'[k]'hlt').qty)) := Lib.hid (fun hh => he (by obtain ⟨a0, a1⟩ := hh; exact extH a0 a1))
        generalize (hs[k]'hlt) = h at *
        generalize (hs'[k]'hlt') = h' at *
        clear he
        by_cases e0 : h.ins = h'.ins
        rotate_left
        · have q := bs_ne e0
          clear e0
          go_wp2_with fail
          go_quiet (fail)
          go_wp2_with fail
          go_ret
          exact ⟨HX0.out.trans (HX.out.drewN _), .inr ⟨HNE.out, rfl⟩⟩
        rw [← e0] at hd1
        have e1 : ¬ h.qty = h'.qty := fun e => HNC.out ⟨e0, e⟩
        have q := bs_ne e1
        clear HNC e0 e1
        go_wp2_with fail
        go_quiet (fail)
        go_wp2_with fail
        go_ret
        exact ⟨HX0.out.trans (HX.out.drewN _), .inr ⟨HNE.out, rfl⟩⟩
    · have HHS : Hid (hs = hs') := Lib.hid (same_at HLL.out (fun j h1 h2 => HZ.out j h1 h2 (by omega)))
      clear HZ
      obtain ⟨wo, rfl⟩ : ∃ wo : World, wo = wr := ⟨_, rfl⟩
      go_wp2_with fail
      clear hlt
      go_loopw [6] (fun i wr => ∃ k : Nat, k ≤ ms.length ∧ i = .int .i64 k ∧ (∀ (j : Nat) (h1 : j < ms.length) (h2 : j < ms'.length), j < k → ms[j] = ms'[j]) ∧ Ext W wr) (fun i _ => ms.length - (intOf i).toNat)
      case atStart => exact ⟨0, by omega, rfl, fun j _ _ hj => absurd hj (by omega), HX.out⟩
      case round =>
        clear HX hq1 hq2 hr1 hr2
        obtain ⟨k, hk, rfl, hz, hx⟩ := hrel
        have HZ := Lib.hid hz
        have HX := Lib.hid hx
        have hq2 := (HW0.out.ext hx).cell 2
        have hr2 := (HW1.out.ext hx).cell 2
        simp only [List.getElem?_toArray, List.getElem?_cons_zero, List.getElem?_cons_succ] at hq2 hr2
        clear hz hx
        by_cases hlt : k < ms.length
        · have hlt' : k < ms'.length := by have := HML.out; omega
          obtain ⟨b, o, rfl, hb, hc1, hc2, hc3, hc4, hc5⟩ := (HB.out.ext (HX0.out.trans HX.out)).at_ hlt
          obtain ⟨b', o', rfl, hb', hd1, hd2, hd3, hd4, hd5⟩ := (HB'.out.ext (HX0.out.trans HX.out)).at_ hlt'
          by_cases he : ms[k] = ms'[k]
          · have HST := Lib.hid (step_at HZ.out hlt hlt' he)
            rw [← he] at hd1 hd2 hd3 hd4 hd5
            generalize (ms[k]'hlt) = h at *
            clear he
            go_wp2_with fail
            go_quiet (fail)
            go_wp2_with fail
            go_roundw
            case rel => exact ⟨k + 1, by omega, by go_num, HST.out, HX.out.drewN _⟩
            case measure => simp [intOf]; omega
          · have HNE : Hid (¬ P) := Lib.hid (fun e => he (by have := (HE.out.1 e).2.2; subst this; rfl))
            have HNC : Hid (¬ ((ms[k]'hlt).ref = (ms'[k]'hlt').ref ∧ (ms[k]'hlt).day = (ms'[k]'hlt').day ∧ (ms[k]'hlt).ins = (ms'[k]'hlt').ins ∧ (ms[k]'hlt).qty = (ms'[k]'hlt').qty ∧ (ms[k]'hlt).amt = (ms'[k]'hlt').amt)) := Lib.hid (fun hh => he (by obtain ⟨a0, a1, a2, a3, a4⟩ := hh; exact extM a0 a1 a2 a3 a4))
            generalize (ms[k]'hlt) = h at *
            generalize (ms'[k]'hlt') = h' at *
            clear he
            by_cases e0 : h.ref = h'.ref
            rotate_left
            · have q := bs_ne e0
              clear e0
              go_wp2_with fail
              go_quiet (fail)
              go_wp2_with fail
              go_ret
              exact ⟨HX0.out.trans (HX.out.drewN _), .inr ⟨HNE.out, rfl⟩⟩
            rw [← e0] at hd1
            by_cases e1 : h.day = h'.day
            rotate_left
            · have q := int_ne e1
              clear e1
              go_wp2_with fail
              go_quiet (fail)
              go_wp2_with fail
              go_ret
              exact ⟨HX0.out.trans (HX.out.drewN _), .inr ⟨HNE.out, rfl⟩⟩
            rw [← e1] at hd2
            by_cases e2 : h.ins = h'.ins
            rotate_left
            · have q := bs_ne e2
              clear e2
              go_wp2_with fail
              go_quiet (fail)
              go_wp2_with fail
              go_ret
              exact ⟨HX0.out.trans (HX.out.drewN _), .inr ⟨HNE.out, rfl⟩⟩
            rw [← e2] at hd3
            by_cases e3 : h.qty = h'.qty
            rotate_left
            · have q := bs_ne e3
              clear e3
              go_wp2_with fail
              go_quiet (fail)
              go_wp2_with fail
              go_ret
              exact ⟨HX0.out.trans (HX.out.drewN _), .inr ⟨HNE.out, rfl⟩⟩
            rw [← e3] at hd4
            have e4 : ¬ h.amt = h'.amt := fun e => HNC.out ⟨e0, e1, e2, e3, e⟩
            have q := bs_ne e4
            clear HNC e0 e1 e2 e3 e4
            go_wp2_with fail
            go_quiet (fail)
            go_wp2_with fail
            go_ret
            exact ⟨HX0.out.trans (HX.out.drewN _), .inr ⟨HNE.out, rfl⟩⟩
        · have HEQ : Hid P := Lib.hid (HE.out.2 ⟨trivial, HHS.out, same_at HML.out (fun j h1 h2 => HZ.out j h1 h2 (by omega))⟩)
          go_wp2_with fail
          go_ret
          exact ⟨HX0.out.trans HX.out, .inl ⟨HEQ.out, rfl⟩⟩
end Go.Proofs.YteeampgbmpolfaaGreatDoor

/- The walk over the law StatementChecks. -/
namespace Go.Proofs.YteeampgbmpolfaaGreatDoor
open Go.RowKit
attribute [local go_sem] size_bs toList_bs

theorem stBetween (a b : St) (A B : Option Addr) (c d : Nat) (A' B' : Option Addr) (c' d' : Nat) (w : World) (hA : RdH w A a.hs) (hB : RdM w B a.ms) (hA' : RdH w A' b.hs) (hB' : RdM w B' b.ms) (hsa : SmallS a) (hsb : SmallS b) (hqa : ShortQ a.hs) (hqb : ShortQ b.hs) (hE : Env w) :
    Calls Tryz.prog 30 #[.agg #[.int .i64 a.day, .slice A a.hs.length c, .slice B a.ms.length d], .agg #[.int .i64 b.day, .slice A' b.hs.length c', .slice B' b.ms.length d']] w (BetEnds (betV a b) (betE a b) w) :=
  stBetween_of (fun x y w hx hy hE => intSub x y w (by omega) (by omega) hE) a b A B c d A' B' c' d' w hA hB hA' hB' hsa hsb hqa hqb hE
theorem short_of_great {s : St} (h : ¬ greatS s) : ShortQ s.hs := by
  intro x hx
  have hb : ¬ bigH x := fun h' => h (.inl ⟨x, hx, h'⟩)
  unfold bigH at hb; omega
def hdP (h : Hd) : Bs × Bs := (h.ins, h.qty)
def mvP (m : Mv) : Bs × Int × Bs × Bs × Bs := (m.ref, m.day, m.ins, m.qty, m.amt)
def sameB (s s' : St) : Bool := s.day == s'.day && s.hs.map hdP == s'.hs.map hdP && s.ms.map mvP == s'.ms.map mvP
theorem hdP_inj {a b : Hd} (h : hdP a = hdP b) : a = b := by cases a; cases b; simp [hdP] at h; simp [h]
theorem mvP_inj {a b : Mv} (h : mvP a = mvP b) : a = b := by cases a; cases b; simp [mvP] at h; simp [h]
theorem map_inj_of {α β : Type} {f : α → β} (hf : ∀ {a b}, f a = f b → a = b) : ∀ {l l' : List α}, l.map f = l'.map f → l = l'
  | [], [], _ => rfl
  | [], _ :: _, h => by simp at h
  | _ :: _, [], h => by simp at h
  | a :: l, b :: l', h => by
    simp only [List.map_cons, List.cons.injEq] at h
    rw [hf h.1, map_inj_of hf h.2]
theorem sameB_iff (s s' : St) : sameB s s' = true ↔ s = s' := by
  obtain ⟨d, hs, ms⟩ := s
  obtain ⟨d', hs', ms'⟩ := s'
  unfold sameB
  simp only [Bool.and_eq_true, beq_iff_eq]
  constructor
  · rintro ⟨⟨rfl, h2⟩, h3⟩
    rw [map_inj_of hdP_inj h2, map_inj_of mvP_inj h3]
  · intro h; injection h with a b c; subst a; subst b; subst c; exact ⟨⟨rfl, rfl⟩, rfl⟩
theorem EqEnds.bool {s s' : St} {w : World} {e : Ending} {w' : World} (h : EqEnds (s = s') w e w') : e = .returned (.bool (sameB s s')) ∧ Ext w w' := by
  obtain ⟨hx, (⟨hp, rfl⟩ | ⟨hp, rfl⟩)⟩ := h
  · exact ⟨by rw [(sameB_iff s s').2 hp], hx⟩
  · refine ⟨?_, hx⟩
    cases hb : sameB s s' with
    | true => exact absurd ((sameB_iff s s').1 hb) hp
    | false => rfl
theorem betV_len (a b : St) (ha : a.hs.length ≤ 1000000000) (hb : b.hs.length ≤ 1000000000) (hm : b.ms.length ≤ 1000000000) : (betV a b).hs.length ≤ 4611686018427387904 ∧ (betV a b).ms.length ≤ 4611686018427387904 := by
  have h1 : (betS a b).hs.length ≤ 4611686018427387904 := by
    have := betH_len a.hs b.hs (unionN (insOf a.hs) (insOf b.hs))
    have h3 := union_len (insOf a.hs) (insOf b.hs)
    rw [insOf_len, insOf_len] at h3
    show (betH _ _ _).length ≤ _
    omega
  have h2 : (betS a b).ms.length ≤ 4611686018427387904 := by
    have : (betM a.day b.ms).length ≤ b.ms.length := List.length_filter_le _ _
    show (betM a.day b.ms).length ≤ _
    omega
  have h0 : noSt.hs.length ≤ 4611686018427387904 ∧ noSt.ms.length ≤ 4611686018427387904 := by decide
  unfold betV
  split
  · exact h0
  · split
    · exact h0
    · split
      · exact h0
      · exact ⟨h1, h2⟩
/-- how the law's four statements lie in memory -/
structure CkAt (a b v : St) (A B : Option Addr) (c d : Nat) (A' B' : Option Addr) (c' d' : Nat) (A1 B1 : Option Addr) (c1 d1 : Nat) (A2 B2 : Option Addr) (c2 d2 : Nat) (g gx gy : Nat) (w W : World) : Prop where
  ext : Ext w W
  ba : Blk W g 26 #[.int .i64 a.day, .slice A a.hs.length c, .slice B a.ms.length d]
  bb : Blk W (g + 1) 26 #[.int .i64 b.day, .slice A' b.hs.length c', .slice B' b.ms.length d']
  bx : Blk W gx 26 #[.int .i64 v.day, .slice A1 v.hs.length c1, .slice B1 v.ms.length d1]
  by_ : Blk W gy 26 #[.int .i64 v.day, .slice A2 v.hs.length c2, .slice B2 v.ms.length d2]
  r1 : RdH W A1 v.hs
  r2 : RdM W B1 v.ms
  r3 : RdH W A2 v.hs
  r4 : RdM W B2 v.ms
section
variable {a b v : St} {A B : Option Addr} {c d : Nat} {A' B' : Option Addr} {c' d' : Nat} {A1 B1 : Option Addr} {c1 d1 : Nat} {A2 B2 : Option Addr} {c2 d2 : Nat} {g gx gy : Nat} {w W W' : World}
theorem CkAt.fwd (h : CkAt a b v A B c d A' B' c' d' A1 B1 c1 d1 A2 B2 c2 d2 g gx gy w W) (hx : Ext W W') : CkAt a b v A B c d A' B' c' d' A1 B1 c1 d1 A2 B2 c2 d2 g gx gy w W' :=
  ⟨h.ext.trans hx, h.ba.ext hx, h.bb.ext hx, h.bx.ext hx, h.by_.ext hx, h.r1.ext hx, h.r2.ext hx, h.r3.ext hx, h.r4.ext hx⟩
theorem CkAt.cells (h : CkAt a b v A B c d A' B' c' d' A1 B1 c1 d1 A2 B2 c2 d2 g gx gy w W) :
    W.cell? ⟨g, 0, none⟩ = some (.int .i64 a.day) ∧ W.cell? ⟨g, 1, none⟩ = some (.slice A a.hs.length c) ∧ W.cell? ⟨g, 2, none⟩ = some (.slice B a.ms.length d) ∧
    W.cell? ⟨g + 1, 0, none⟩ = some (.int .i64 b.day) ∧ W.cell? ⟨g + 1, 1, none⟩ = some (.slice A' b.hs.length c') ∧ W.cell? ⟨g + 1, 2, none⟩ = some (.slice B' b.ms.length d') ∧
    W.cell? ⟨gx, 0, none⟩ = some (.int .i64 v.day) ∧ W.cell? ⟨gx, 1, none⟩ = some (.slice A1 v.hs.length c1) ∧ W.cell? ⟨gx, 2, none⟩ = some (.slice B1 v.ms.length d1) ∧
    W.cell? ⟨gy, 0, none⟩ = some (.int .i64 v.day) ∧ W.cell? ⟨gy, 1, none⟩ = some (.slice A2 v.hs.length c2) ∧ W.cell? ⟨gy, 2, none⟩ = some (.slice B2 v.ms.length d2) :=
  ⟨h.ba.cell 0, h.ba.cell 1, h.ba.cell 2, h.bb.cell 0, h.bb.cell 1, h.bb.cell 2, h.bx.cell 0, h.bx.cell 1, h.bx.cell 2, h.by_.cell 0, h.by_.cell 1, h.by_.cell 2⟩
end

set_option maxRecDepth 100000 in
set_option maxHeartbeats 4000000 in
theorem lawChecks (a b : St) (A B : Option Addr) (c d : Nat) (A' B' : Option Addr) (c' d' : Nat) (t : Bs) (w : World) (hA : RdH w A a.hs) (hB : RdM w B a.ms) (hA' : RdH w A' b.hs) (hB' : RdM w B' b.ms) (hn : a.hs.length ≤ 4611686018427387904) (hm : a.ms.length ≤ 4611686018427387904) (hn' : b.hs.length ≤ 4611686018427387904) (hm' : b.ms.length ≤ 4611686018427387904) (hE : Env w) :
    Calls Tryz.prog 7 #[.agg #[.int .i64 a.day, .slice A a.hs.length c, .slice B a.ms.length d], .agg #[.int .i64 b.day, .slice A' b.hs.length c', .slice B' b.ms.length d'], .string (bs t)] w fun e w' => e = .returned (.bool true) ∧ Ext w w' := by
  have HE := Lib.hid hE
  have HA := Lib.hid hA
  have HB := Lib.hid hB
  have HA' := Lib.hid hA'
  have HB' := Lib.hid hB'
  clear hE hA hB hA' hB'
  obtain ⟨W0, hW0⟩ : ∃ W0 : World, W0 = (w.alloc (.cells #[.int .i64 a.day, .slice A a.hs.length c, .slice B a.ms.length d] 26)).alloc (.cells #[.int .i64 b.day, .slice A' b.hs.length c', .slice B' b.ms.length d'] 26) := ⟨_, rfl⟩
  have HX : Hid (Ext w W0) := Lib.hid (by rw [hW0]; exact (Ext.new _ _).alloc _)
  have HBa : Hid (Blk W0 w.heap.size 26 #[.int .i64 a.day, .slice A a.hs.length c, .slice B a.ms.length d]) := Lib.hid (by rw [hW0]; exact (Blk.new _ _ _).alloc _)
  have HBb : Hid (Blk W0 (w.heap.size + 1) 26 #[.int .i64 b.day, .slice A' b.hs.length c', .slice B' b.ms.length d']) := Lib.hid (by rw [hW0]; exact blkAt _ _ _ _ (by simp))
  go_enter Tryz.func7, Tryz.ntmps7
  go_wp2_with fail
  rw [← hW0]
  clear hW0
  refine (refGreat a A B c d _ (HA.out.ext HX.out) (HB.out.ext HX.out) hn hm).mono ?_
  rintro e w1 ⟨hx1, (⟨hg, rfl⟩ | ⟨hg, rfl⟩)⟩
  · replace HX := Lib.hid (HX.out.trans hx1)
    clear hx1 hg HBa HBb
    go_wp2_with fail
    refine (lawAwake _ (HE.out.ext HX.out)).mono ?_
    rintro e w2 ⟨rfl, hx2⟩
    go_wp2_with fail
    go_ret
    exact ⟨rfl, HX.out.trans hx2⟩
  have HSa := Lib.hid (small_of_great hg)
  have HQa := Lib.hid (short_of_great hg)
  replace HX := Lib.hid (HX.out.trans hx1)
  replace HBa := Lib.hid (HBa.out.ext hx1)
  replace HBb := Lib.hid (HBb.out.ext hx1)
  have q0 := HBb.out.cell 0
  have q1 := HBb.out.cell 1
  have q2 := HBb.out.cell 2
  simp only [List.getElem?_toArray, List.getElem?_cons_zero, List.getElem?_cons_succ] at q0 q1 q2
  clear hx1 hg
  go_wp2_with fail
  refine (refGreat b A' B' c' d' _ (HA'.out.ext HX.out) (HB'.out.ext HX.out) hn' hm').mono ?_
  rintro e w2 ⟨hx1, (⟨hg, rfl⟩ | ⟨hg, rfl⟩)⟩
  · replace HX := Lib.hid (HX.out.trans hx1)
    clear hx1 hg HBa HBb q0 q1 q2
    go_wp2_with fail
    refine (lawAwake _ (HE.out.ext HX.out)).mono ?_
    rintro e w2 ⟨rfl, hx2⟩
    go_wp2_with fail
    go_ret
    exact ⟨rfl, HX.out.trans hx2⟩
  have HSb := Lib.hid (small_of_great hg)
  have HQb := Lib.hid (short_of_great hg)
  replace HX := Lib.hid (HX.out.trans hx1)
  replace HBa := Lib.hid (HBa.out.ext hx1)
  replace HBb := Lib.hid (HBb.out.ext hx1)
  clear hx1 hg q0 q1 q2
  by_cases hl : 60 < (t.length : Int)
  · go_wp2_with fail
    refine (lawAwake _ (HE.out.ext HX.out)).mono ?_
    rintro e w2 ⟨rfl, hx2⟩
    go_wp2_with fail
    go_ret
    exact ⟨rfl, HX.out.trans hx2⟩
  have p0 := HBa.out.cell 0
  have p1 := HBa.out.cell 1
  have p2 := HBa.out.cell 2
  simp only [List.getElem?_toArray, List.getElem?_cons_zero, List.getElem?_cons_succ] at p0 p1 p2
  go_wp2_with fail
  refine (stHeld a t A B c d _ (HA.out.ext HX.out) (HB.out.ext HX.out) HSa.out).mono ?_
  rintro e w3 ⟨rfl, hx1⟩
  replace HX := Lib.hid (HX.out.trans hx1)
  replace HBa := Lib.hid (HBa.out.ext hx1)
  replace HBb := Lib.hid (HBb.out.ext hx1)
  clear hx1 p0 p1 p2
  have p0 := HBa.out.cell 0
  have p1 := HBa.out.cell 1
  have p2 := HBa.out.cell 2
  simp only [List.getElem?_toArray, List.getElem?_cons_zero, List.getElem?_cons_succ] at p0 p1 p2
  have HHELD := Lib.hid (fun W h1 h2 => refHeld a t A B c d W h1 h2 HSa.out)
  generalize holdQ a t = hq at *
  generalize holdB a t = hb at *
  generalize holdE a = he at *
  go_wp2_with fail
  refine (HHELD.out _ (HA.out.ext HX.out) (HB.out.ext HX.out)).mono ?_
  rintro e w4 ⟨rfl, hx1⟩
  replace HX := Lib.hid (HX.out.trans hx1)
  replace HBa := Lib.hid (HBa.out.ext hx1)
  replace HBb := Lib.hid (HBb.out.ext hx1)
  clear hx1 p0 p1 p2 HHELD
  have p0 := HBa.out.cell 0
  have p1 := HBa.out.cell 1
  have p2 := HBa.out.cell 2
  have q0 := HBb.out.cell 0
  have q1 := HBb.out.cell 1
  have q2 := HBb.out.cell 2
  simp only [List.getElem?_toArray, List.getElem?_cons_zero, List.getElem?_cons_succ] at p0 p1 p2 q0 q1 q2
  have HBT := Lib.hid (fun W h1 h2 h3 h4 => refBetween a b A B c d A' B' c' d' W h1 h2 h3 h4 HSa.out HSb.out HQa.out HQb.out)
  have HSBT := Lib.hid (fun W h1 h2 h3 h4 h5 => stBetween a b A B c d A' B' c' d' W h1 h2 h3 h4 HSa.out HSb.out HQa.out HQb.out h5)
  have HLN := Lib.hid (betV_len a b HSa.out.hn HSb.out.hn HSb.out.mn)
  generalize betV a b = bv at *
  generalize betE a b = be at *
  go_wp2_with fail
  refine (HSBT.out _ (HA.out.ext HX.out) (HB.out.ext HX.out) (HA'.out.ext HX.out) (HB'.out.ext HX.out) (HE.out.ext HX.out)).mono ?_
  rintro e w5 ⟨A1, c1, B1, d1, rfl, hr1, hr2, hx1⟩
  replace HX := Lib.hid ((HX.out.trans hx1).trans (Ext.new _ (.cells #[.int .i64 bv.day, .slice A1 bv.hs.length c1, .slice B1 bv.ms.length d1] 26)))
  replace HBa := Lib.hid ((HBa.out.ext hx1).ext (Ext.new _ (.cells #[.int .i64 bv.day, .slice A1 bv.hs.length c1, .slice B1 bv.ms.length d1] 26)))
  replace HBb := Lib.hid ((HBb.out.ext hx1).ext (Ext.new _ (.cells #[.int .i64 bv.day, .slice A1 bv.hs.length c1, .slice B1 bv.ms.length d1] 26)))
  have HBx := Lib.hid (Blk.new w5 26 #[.int .i64 bv.day, .slice A1 bv.hs.length c1, .slice B1 bv.ms.length d1])
  have HR1 := Lib.hid (hr1.ext (Ext.new _ (.cells #[.int .i64 bv.day, .slice A1 bv.hs.length c1, .slice B1 bv.ms.length d1] 26)))
  have HR2 := Lib.hid (hr2.ext (Ext.new _ (.cells #[.int .i64 bv.day, .slice A1 bv.hs.length c1, .slice B1 bv.ms.length d1] 26)))
  clear hx1 p0 p1 p2 q0 q1 q2 hr1 hr2 HSBT
  have p0 := HBa.out.cell 0
  have p1 := HBa.out.cell 1
  have p2 := HBa.out.cell 2
  have q0 := HBb.out.cell 0
  have q1 := HBb.out.cell 1
  have q2 := HBb.out.cell 2
  simp only [List.getElem?_toArray, List.getElem?_cons_zero, List.getElem?_cons_succ] at p0 p1 p2 q0 q1 q2
  go_wp2_with fail
  refine (HBT.out _ (HA.out.ext HX.out) (HB.out.ext HX.out) (HA'.out.ext HX.out) (HB'.out.ext HX.out)).mono ?_
  rintro e w6 ⟨A2, c2, B2, d2, rfl, hr3, hr4, hx1⟩
  have HC : Hid (CkAt a b bv A B c d A' B' c' d' A1 B1 c1 d1 A2 B2 c2 d2 w.heap.size w5.heap.size w6.heap.size w (w6.alloc (.cells #[.int .i64 bv.day, .slice A2 bv.hs.length c2, .slice B2 bv.ms.length d2] 26))) := Lib.hid ⟨(HX.out.trans hx1).alloc _, (HBa.out.ext hx1).alloc _, (HBb.out.ext hx1).alloc _, (HBx.out.ext hx1).alloc _, Blk.new _ _ _, (HR1.out.ext hx1).ext (Ext.new _ _), (HR2.out.ext hx1).ext (Ext.new _ _), hr3.ext (Ext.new _ _), hr4.ext (Ext.new _ _)⟩
  clear hx1 hr3 hr4 p0 p1 p2 q0 q1 q2 HX HBa HBb HBx HR1 HR2 HBT
  go_wp2_with fail
  generalize w6.alloc (.cells #[.int .i64 bv.day, .slice A2 bv.hs.length c2, .slice B2 bv.ms.length d2] 26) = W at *
  generalize w5.heap.size = gx at *
  generalize w6.heap.size = gy at *
  generalize w.heap.size = g at *
  obtain ⟨z0, z1, z2, z3, z4, z5, z6, z7, z8, z9, z10, z11⟩ := HC.out.cells
  replace HC := Lib.hid (HC.out.fwd (Ext.refl W).drew)
  have HSAMEx := Lib.hid (fun W' h1 h2 h3 h4 => refSame bv A1 B1 c1 d1 A2 B2 c2 d2 W' h1 h2 h3 h4 HLN.out.1 HLN.out.2)
  have HSAMEr := Lib.hid (fun W' h1 h2 h3 h4 => (refSameG a b A B c d A' B' c' d' W' h1 h2 h3 h4 hn hm hn' hm').mono (fun _ _ h => EqEnds.bool h))
  have HSAMEs := Lib.hid (fun W' h1 h2 h3 h4 => (stSame a b A B c d A' B' c' d' W' h1 h2 h3 h4 hn hm hn' hm').mono (fun _ _ h => EqEnds.bool h))
  generalize sameB a b = sb at *
  have HCHs := Lib.hid (fun W' h1 h2 => stCheck a A B c d W' h1 h2 HSa.out)
  have HCHr := Lib.hid (fun W' h1 h2 => refCheckS a A B c d W' h1 h2 HSa.out)
  generalize checkS a = cka at *
  go_region_held3 (fun w' => w'.cell? ⟨g, 0, none⟩ = some (.int .i64 a.day) ∧ w'.cell? ⟨g, 1, none⟩ = some (.slice A a.hs.length c) ∧ w'.cell? ⟨g, 2, none⟩ = some (.slice B a.ms.length d) ∧ w'.cell? ⟨g + 1, 0, none⟩ = some (.int .i64 b.day) ∧ w'.cell? ⟨g + 1, 1, none⟩ = some (.slice A' b.hs.length c') ∧ w'.cell? ⟨g + 1, 2, none⟩ = some (.slice B' b.ms.length d') ∧ w'.cell? ⟨gx, 0, none⟩ = some (.int .i64 bv.day) ∧ w'.cell? ⟨gx, 1, none⟩ = some (.slice A1 bv.hs.length c1) ∧ w'.cell? ⟨gx, 2, none⟩ = some (.slice B1 bv.ms.length d1) ∧ w'.cell? ⟨gy, 0, none⟩ = some (.int .i64 bv.day) ∧ w'.cell? ⟨gy, 1, none⟩ = some (.slice A2 bv.hs.length c2) ∧ w'.cell? ⟨gy, 2, none⟩ = some (.slice B2 bv.ms.length d2))
    (go_keep)
    (first
      | (go_at_call 20; ((with_reducible refine (HCHs.out _ (HA.out.ext HC.out.ext) (HB.out.ext HC.out.ext)).mono ?_); rintro e w9 ⟨rfl, hx⟩); (replace HC := Lib.hid (HC.out.fwd hx)); (obtain ⟨z0, z1, z2, z3, z4, z5, z6, z7, z8, z9, z10, z11⟩ := HC.out.cells); clear hx)
      | (go_at_call 32; ((with_reducible refine (HCHr.out _ (HA.out.ext HC.out.ext) (HB.out.ext HC.out.ext)).mono ?_); rintro e w9 ⟨rfl, hx⟩); (replace HC := Lib.hid (HC.out.fwd hx)); (obtain ⟨z0, z1, z2, z3, z4, z5, z6, z7, z8, z9, z10, z11⟩ := HC.out.cells); clear hx)
      | (go_at_call 15; (first | ((with_reducible refine (HSAMEx.out _ HC.out.r1 HC.out.r2 HC.out.r3 HC.out.r4).mono ?_); rintro e w9 ⟨rfl, hx⟩) | ((with_reducible refine (HSAMEr.out _ (HA.out.ext HC.out.ext) (HB.out.ext HC.out.ext) (HA'.out.ext HC.out.ext) (HB'.out.ext HC.out.ext)).mono ?_); rintro e w9 ⟨rfl, hx⟩)); (replace HC := Lib.hid (HC.out.fwd hx)); (obtain ⟨z0, z1, z2, z3, z4, z5, z6, z7, z8, z9, z10, z11⟩ := HC.out.cells); clear hx)
      | (go_at_call 24; ((with_reducible refine (HSAMEs.out _ (HA.out.ext HC.out.ext) (HB.out.ext HC.out.ext) (HA'.out.ext HC.out.ext) (HB'.out.ext HC.out.ext)).mono ?_); rintro e w9 ⟨rfl, hx⟩); (replace HC := Lib.hid (HC.out.fwd hx)); (obtain ⟨z0, z1, z2, z3, z4, z5, z6, z7, z8, z9, z10, z11⟩ := HC.out.cells); clear hx)
      | (go_at_call 10; ((with_reducible refine (lawAwake _ (HE.out.ext HC.out.ext)).mono ?_); rintro e w9 ⟨rfl, hx⟩); (replace HC := Lib.hid (HC.out.fwd hx)); (obtain ⟨z0, z1, z2, z3, z4, z5, z6, z7, z8, z9, z10, z11⟩ := HC.out.cells); clear hx))
  all_goals
    go_wp2_with fail
    go_ret
    exact ⟨rfl, HC.out.ext⟩
theorem lawChecksR (a : St) (A B : Option Addr) (c d : Nat) (b : St) (A' B' : Option Addr) (c' d' : Nat) (t : Bs) (w : World) (hA : RdH w A a.hs) (hB : RdM w B a.ms) (hn : a.hs.length ≤ 4611686018427387904) (hm : a.ms.length ≤ 4611686018427387904) (hA' : RdH w A' b.hs) (hB' : RdM w B' b.ms) (hn' : b.hs.length ≤ 4611686018427387904) (hm' : b.ms.length ≤ 4611686018427387904) (hE : Env w) :
    Calls Tryz.prog 7 #[.agg #[.int .i64 a.day, .slice A a.hs.length c, .slice B a.ms.length d], .agg #[.int .i64 b.day, .slice A' b.hs.length c', .slice B' b.ms.length d'], .string (bs t)] w fun e w' => e = .returned (.bool true) ∧ Ext w w' := lawChecks a b A B c d A' B' c' d' t w hA hB hA' hB' hn hm hn' hm' hE
end Go.Proofs.YteeampgbmpolfaaGreatDoor
