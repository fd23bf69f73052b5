/- The seat's texts, part 4 of 5. -/
import Derived.Test.YtikehdbkiplleaaGreatDoorZ3
import Derived.RangeFuncStops
import Derived.Deep.RegionHeld3
import Derived.Laws.EntriesVeiled
import Derived.Lib.ParseIntB
import Derived.Calls
import Derived.RunT

/- The walk over the program's CheckAll of lots. -/
namespace Go.Proofs.YtikehdbkiplleaaGreatDoor
open Go.RowKit Go.Shelf
attribute [local go_sem] size_bs toList_bs

/-- how the loop of CheckAll stands -/
def CaAt (w : World) (ls : List LotV) (k : Nat) (wr : World) : Prop := Ext w wr ∧ IdsAt wr w.heap.size ((ls.take k).map (·.id)) ∧ goAll [] ls = goAll ((ls.take k).map (·.id)) (ls.drop k)
theorem goAll_step {seen : List Bs} {x : LotV} {r : List LotV} : (checkL x ≠ 0 → goAll seen (x :: r) = checkL x) ∧ (checkL x = 0 → x.id ∈ seen → goAll seen (x :: r) = 5) ∧ (checkL x = 0 → x.id ∉ seen → goAll seen (x :: r) = goAll (seen ++ [x.id]) r) := by
  refine ⟨fun h => ?_, fun h h2 => ?_, fun h h2 => ?_⟩
  · rw [goAll, if_pos h]
  · rw [goAll, if_neg (by simpa using h), if_pos h2]
  · rw [goAll, if_neg (by simpa using h), if_neg h2]
theorem take_ids {ls : List LotV} {k : Nat} (h : k < ls.length) : (ls.take (k + 1)).map (·.id) = (ls.take k).map (·.id) ++ [(ls[k]'h).id] := by
  rw [List.take_succ_eq_append_getElem h, List.map_append]; rfl
set_option maxRecDepth 100000 in
set_option maxHeartbeats 4000000 in
theorem lotCheckAll (ls : List LotV) (A : Option Addr) (c : Nat) (w : World) (hE : Env w) (hA : RdL w A ls) (hs : ∀ x ∈ ls, SmallL x) (hn : ls.length ≤ 100000) :
    Calls Tryz.prog 38 #[.slice A ls.length c] w fun e w' => e = .returned (.int .i64 (checkAllL ls)) ∧ Ext w w' := by
  have HE := Lib.hid hE
  have HA := Lib.hid hA
  have HS := Lib.hid hs
  clear hE hA hs
  by_cases hbig : 1000 < ls.length
  · have HR : Hid (checkAllL ls = 4) := Lib.hid (by unfold checkAllL; rw [if_pos hbig])
    rw [HR.out]
    have g : decide (1000 < (ls.length : Int)) = true := by rw [decide_eq_true_iff]; omega
    go_enter Tryz.func38, Tryz.ntmps38
    go_wp2_with fail
    go_ret
    exact ⟨rfl, Ext.refl _⟩
  · have HR : Hid (checkAllL ls = goAll [] ls) := Lib.hid (by unfold checkAllL; rw [if_neg hbig])
    rw [HR.out]
    have g : decide (1000 < (ls.length : Int)) = false := by rw [decide_eq_false_iff_not]; omega
    have hmm := @run_makeMap Tryz.prog
    obtain ⟨R, hR⟩ : ∃ R, goAll [] ls = R := ⟨_, rfl⟩
    have HRR := Lib.hid hR
    rw [hR]
    clear hR HR
    go_enter Tryz.func38, Tryz.ntmps38
    go_wp2_with fail
    go_loopw [13, 5, 6] (fun i _ _ wr => ∃ k : Nat, k ≤ ls.length ∧ i = .int .i64 k ∧ CaAt w ls k wr) (fun i _ _ _ => ls.length - (intOf i).toNat)
    case atStart => exact ⟨0, by omega, rfl, Ext.new _ _, heap_alloc_new w _, by simp⟩
    case round =>
      obtain ⟨k, hk, rfl, hx, hids, hgo⟩ := hrel
      clear hmm
      by_cases hlt : k < ls.length
      · have HX := Lib.hid hx
        have HI := Lib.hid hids
        have hst := goAll_step (seen := (ls.take k).map (·.id)) (x := ls[k]'hlt) (r := ls.drop (k + 1))
        rw [← List.drop_eq_getElem_cons hlt, ← hgo, HRR.out] at hst
        have HST := Lib.hid hst
        have HTI := Lib.hid (take_ids hlt)
        have HSM := Lib.hid (HS.out (ls[k]'hlt) (List.getElem_mem _))
        obtain ⟨b, o, rfl, hb, c0, c1, c2, c3, c4, c5, c6⟩ := (HA.out.ext hx).at_ hlt
        have hwr := hx.size
        have hne : w.heap.size < wr.heap.size := (Array.getElem?_eq_some_iff.1 hids).1
        generalize hids2 : (ls.take k).map (·.id) = ids at *
        generalize hxx : ls[k]'hlt = x at *
        clear hx hids hgo hst hids2 hxx
        have HCK := Lib.hid (lotCheck x HSM.out)
        have HB := Lib.hid (Blk.new wr 50 (lc x))
        have HXN : Hid (Ext wr (wr.alloc (.cells (lc x) 50))) := Lib.hid (Ext.new _ _)
        go_wp2_with fail
        refine (HCK.out _ (HE.out.ext (HX.out.trans HXN.out))).mono ?_
        rintro e w1 ⟨rfl, hx1⟩
        obtain ⟨p0, p1, p2, p3, p4, p5, p6⟩ := lotBlk HB.out hx1
        replace HX := Lib.hid ((HX.out.trans HXN.out).trans hx1)
        have hi1 := ext_heap HI.out (HXN.out.trans hx1)
        have HI1 := Lib.hid hi1
        clear hx1 HI HXN
        by_cases hck : checkL x = 0
        · rw [hck]
          have HK0 := Lib.hid hck
          clear hck
          by_cases hin : x.id ∈ ids
          · obtain ⟨j, hj⟩ := find_in x.id ids 0 0 hin
            have hlook := run_look (P := Tryz.prog) (w := w1) 93 9 4 w.heap.size _ (entsL ids 0).toArray (bs x.id) j (.bool true) Tryz.underlying93 Tryz.underlying9 HI1.out (by simpa using hj)
            have HF := Lib.hid (HST.out.2.1 HK0.out hin)
            clear hin hj hi1
            go_wp2_with fail
            go_ret
            exact ⟨by rw [HF.out]; rfl, HX.out⟩
          · have hj := find_out x.id ids 0 0 hin
            have hlook := run_look_no (P := Tryz.prog) (w := w1) 93 9 4 w.heap.size _ (entsL ids 0).toArray (bs x.id) (.bool false) Tryz.underlying93 Tryz.underlying9 HI1.out (by simpa using hj) (Tryz.zeroValue4 w1)
            have hins := run_ins (P := Tryz.prog) (w := w1) 93 9 4 w.heap.size _ (entsL ids 0).toArray (bs x.id) (.bool true) Tryz.underlying93 Tryz.underlying9 HI1.out (by simpa using hj)
            have HF := Lib.hid (HST.out.2.2 HK0.out hin)
            clear hin hj hi1
            go_wp2_with fail
            go_roundw
            case rel =>
              refine ⟨k + 1, by omega, by go_num, HX.out.putObj (Nat.le_refl _) _, ?_, ?_⟩
              · unfold IdsAt
                rw [World.putObj_heap_same (Array.getElem?_eq_some_iff.1 HI1.out).1]
                rw [HTI.out, entsL_snoc]; simp
              · rw [HTI.out, HRR.out]; exact HF.out
            case measure => simp [intOf]; omega
        · have g2 : (checkL x != 0) = true := by rw [bne_iff_ne]; exact hck
          have HF := Lib.hid (HST.out.1 hck)
          clear hck hi1
          go_wp2_with fail
          go_ret
          exact ⟨by rw [HF.out]; rfl, HX.out⟩
      · have HF : Hid (R = 0) := Lib.hid (by rw [← HRR.out, hgo, List.drop_eq_nil_of_le (by omega)]; rfl)
        have HX := Lib.hid hx
        clear hgo hids hx
        go_wp2_with fail
        go_ret
        exact ⟨by rw [HF.out]; rfl, HX.out⟩
end Go.Proofs.YtikehdbkiplleaaGreatDoor

/- The library's slices.IndexFunc and ContainsFunc; the program's Find of a lot. -/
namespace Go.Proofs.YtikehdbkiplleaaGreatDoor
open Go.RowKit Go.Shelf
attribute [local go_sem] size_bs toList_bs

def idxZ {α : Type} (p : α → Bool) (l : List α) : Int := match l.findIdx? p with | some i => (i : Int) | none => -1
theorem idx_miss {α : Type} {p : α → Bool} {l : List α} (h : ∀ x ∈ l, p x = false) : idxZ p l = -1 := by
  unfold idxZ; rw [List.findIdx?_eq_none_iff.2 h]
theorem idx_hit {α : Type} {p : α → Bool} {l : List α} {k : Nat} (hk : k < l.length) (h : ∀ x ∈ l.take k, p x = false) (hp : p (l[k]'hk) = true) : idxZ p l = k := by
  have : l.findIdx? p = some k := by
    rw [List.findIdx?_eq_some_iff_getElem]
    refine ⟨hk, hp, fun j hj => ?_⟩
    have := h (l[j]'(by omega)) (List.mem_take_iff_getElem.2 ⟨j, by omega, rfl⟩)
    simp [this]
  unfold idxZ; rw [this]
theorem idx_next {α : Type} {p : α → Bool} {l : List α} {k : Nat} (hk : k < l.length) (h : ∀ x ∈ l.take k, p x = false) (hp : p (l[k]'hk) = false) : ∀ x ∈ l.take (k + 1), p x = false := by
  intro x hx
  rw [List.take_succ_eq_append_getElem hk] at hx
  rcases List.mem_append.1 hx with hx | hx
  · exact h x hx
  · simp at hx; rw [hx]; exact hp
theorem idx_any {α : Type} (p : α → Bool) (l : List α) : decide (0 ≤ idxZ p l) = l.any p := by
  unfold idxZ
  cases h : l.findIdx? p with
  | none =>
    rw [List.findIdx?_eq_none_iff] at h
    rw [show l.any p = false by rw [List.any_eq_false]; intro x hx; simp [h x hx]]; rfl
  | some i =>
    rw [List.findIdx?_eq_some_iff_getElem] at h
    obtain ⟨hi, hp, _⟩ := h
    rw [show l.any p = true by rw [List.any_eq_true]; exact ⟨_, List.getElem_mem hi, hp⟩]
    simp
set_option maxRecDepth 100000 in
set_option maxHeartbeats 2000000 in
theorem idxFuncI (kf : Nat) (cb : Array Value) (ek : ∀ args w, (callFunc kf args).run Tryz.prog w = .ok (.enter kf args) w) (p : Bs → Bool) (ls : List Bs) (A : Option Addr) (c : Nat) (w : World) (hA : RdS w A ls) (hn : ls.length ≤ 1000000)
    (hF : ∀ x ∈ ls, ∀ W, Ext w W → Calls Tryz.prog kf (#[.string (bs x)] ++ cb) W fun e w' => e = .returned (.bool (p x)) ∧ Ext W w') :
    Calls Tryz.prog 137 #[.slice A ls.length c, .func (.func kf) #[] cb] w fun e w' => e = .returned (.int .i64 (idxZ p ls)) ∧ Ext w w' := by
  have HA := Lib.hid hA
  have HF := Lib.hid hF
  clear hA hF
  go_enter Tryz.func137, Tryz.ntmps137
  go_wp2_with fail
  go_loopw [8, 5] (fun i _ wr => ∃ k : Nat, k ≤ ls.length ∧ i = .int .i64 k ∧ (∀ x ∈ ls.take k, p x = false) ∧ Ext w wr) (fun i _ _ => ls.length - (intOf i).toNat)
  case atStart => exact ⟨0, by omega, rfl, by simp, Ext.refl _⟩
  case round =>
    obtain ⟨k, hk, rfl, hz, hx⟩ := hrel
    have HZ := Lib.hid hz
    have HX := Lib.hid hx
    clear hz hx
    by_cases hlt : k < ls.length
    · obtain ⟨b, o, rfl, hb, c0⟩ := (HA.out.ext HX.out).at_ hlt
      have HC := Lib.hid (HF.out (ls[k]'hlt) (List.getElem_mem _))
      have HN : Hid (p (ls[k]'hlt) = false → ∀ x ∈ ls.take (k + 1), p x = false) := Lib.hid (fun h => idx_next hlt HZ.out h)
      have HI : Hid (p (ls[k]'hlt) = true → idxZ p ls = k) := Lib.hid (fun h => idx_hit hlt HZ.out h)
      generalize (ls[k]'hlt) = x at *
      go_wp2_with fail
      refine (HC.out _ HX.out).mono ?_
      rintro e w1 ⟨rfl, hx1⟩
      replace HX := Lib.hid (HX.out.trans hx1)
      clear hx1
      cases hp : p x
      · have HN1 := Lib.hid (HN.out hp)
        clear hp
        go_wp2_with fail
        go_roundw
        case rel => exact ⟨k + 1, by omega, by go_num, HN1.out, HX.out⟩
        case measure => simp [intOf]; omega
      · have HI1 := Lib.hid (HI.out hp)
        clear hp
        go_wp2_with fail
        go_ret
        exact ⟨by rw [HI1.out]; rfl, HX.out⟩
    · have HI : Hid (idxZ p ls = -1) := Lib.hid (idx_miss (by have := HZ.out; rwa [List.take_of_length_le (by omega)] at this))
      go_wp2_with fail
      go_ret
      exact ⟨by rw [HI.out]; rfl, HX.out⟩
set_option maxRecDepth 100000 in
theorem contFuncI (kf : Nat) (cb : Array Value) (ek : ∀ args w, (callFunc kf args).run Tryz.prog w = .ok (.enter kf args) w) (p : Bs → Bool) (ls : List Bs) (A : Option Addr) (c : Nat) (w : World) (hA : RdS w A ls) (hn : ls.length ≤ 1000000)
    (hF : ∀ x ∈ ls, ∀ W, Ext w W → Calls Tryz.prog kf (#[.string (bs x)] ++ cb) W fun e w' => e = .returned (.bool (p x)) ∧ Ext W w') :
    Calls Tryz.prog 85 #[.slice A ls.length c, .func (.func kf) #[] cb] w fun e w' => e = .returned (.bool (ls.any p)) ∧ Ext w w' := by
  have HI := Lib.hid (idxFuncI kf cb ek p ls A c w hA hn hF)
  have HZ : Hid (decide (0 ≤ idxZ p ls) = ls.any p) := Lib.hid (idx_any p ls)
  generalize ls.any p = b at *
  generalize idxZ p ls = z at *
  clear hA hF
  go_enter Tryz.func85, Tryz.ntmps85
  go_wp2_with fail
  refine HI.out.mono ?_
  rintro e w1 ⟨rfl, hx1⟩
  have HX := Lib.hid hx1
  clear hx1
  go_wp2_with fail
  go_ret
  exact ⟨by rw [← HZ.out]; rfl, HX.out⟩
set_option maxRecDepth 100000 in
set_option maxHeartbeats 2000000 in
theorem idxFuncL (kf : Nat) (cb : Array Value) (ek : ∀ args w, (callFunc kf args).run Tryz.prog w = .ok (.enter kf args) w) (p : LotV → Bool) (ls : List LotV) (A : Option Addr) (c : Nat) (w : World) (hA : RdL w A ls) (hn : ls.length ≤ 1000000)
    (hF : ∀ x ∈ ls, ∀ W, Ext w W → Calls Tryz.prog kf (#[lv x] ++ cb) W fun e w' => e = .returned (.bool (p x)) ∧ Ext W w') :
    Calls Tryz.prog 101 #[.slice A ls.length c, .func (.func kf) #[] cb] w fun e w' => e = .returned (.int .i64 (idxZ p ls)) ∧ Ext w w' := by
  have HA := Lib.hid hA
  have HF := Lib.hid hF
  clear hA hF
  go_enter Tryz.func101, Tryz.ntmps101
  go_wp2_with fail
  go_loopw [8, 5] (fun i _ wr => ∃ k : Nat, k ≤ ls.length ∧ i = .int .i64 k ∧ (∀ x ∈ ls.take k, p x = false) ∧ Ext w wr) (fun i _ _ => ls.length - (intOf i).toNat)
  case atStart => exact ⟨0, by omega, rfl, by simp, Ext.refl _⟩
  case round =>
    obtain ⟨k, hk, rfl, hz, hx⟩ := hrel
    have HZ := Lib.hid hz
    have HX := Lib.hid hx
    clear hz hx
    by_cases hlt : k < ls.length
    · obtain ⟨b, o, rfl, hb, c0, c1, c2, c3, c4, c5, c6⟩ := (HA.out.ext HX.out).at_ hlt
      have HC := Lib.hid (HF.out (ls[k]'hlt) (List.getElem_mem _))
      have HN : Hid (p (ls[k]'hlt) = false → ∀ x ∈ ls.take (k + 1), p x = false) := Lib.hid (fun h => idx_next hlt HZ.out h)
      have HI : Hid (p (ls[k]'hlt) = true → idxZ p ls = k) := Lib.hid (fun h => idx_hit hlt HZ.out h)
      generalize (ls[k]'hlt) = x at *
      go_wp2_with fail
      refine (HC.out _ HX.out).mono ?_
      rintro e w1 ⟨rfl, hx1⟩
      replace HX := Lib.hid (HX.out.trans hx1)
      clear hx1
      cases hp : p x
      · have HN1 := Lib.hid (HN.out hp)
        clear hp
        go_wp2_with fail
        go_roundw
        case rel => exact ⟨k + 1, by omega, by go_num, HN1.out, HX.out⟩
        case measure => simp [intOf]; omega
      · have HI1 := Lib.hid (HI.out hp)
        clear hp
        go_wp2_with fail
        go_ret
        exact ⟨by rw [HI1.out]; rfl, HX.out⟩
    · have HI : Hid (idxZ p ls = -1) := Lib.hid (idx_miss (by have := HZ.out; rwa [List.take_of_length_le (by omega)] at this))
      go_wp2_with fail
      go_ret
      exact ⟨by rw [HI.out]; rfl, HX.out⟩
theorem findL_idx (ls : List LotV) (id : Bs) : idxZ (fun x => x.id == id) ls = match findL ls id with | some i => (i : Int) | none => -1 := by
  have : ls.findIdx? (fun x => x.id == id) = findL ls id := by
    induction ls with
    | nil => rfl
    | cons x r ih =>
      rw [List.findIdx?_cons, findL]
      by_cases h : x.id = id
      · simp [h]
      · simp [h, ih]
  unfold idxZ; rw [this]
set_option maxRecDepth 100000 in
theorem lotFind1 (x : LotV) (id : Bs) (g : Nat) (W : World) (hb : Blk W g 9 #[.string (bs id)]) :
    Calls Tryz.prog 102 #[lv x, .pointer (some ⟨g, 0, none⟩)] W fun e w' => e = .returned (.bool (x.id == id)) ∧ Ext W w' := by
  have q0 := (hb.alloc (.cells (lc x) 50)).cell 0
  simp only [List.getElem?_toArray, List.getElem?_cons_zero] at q0
  have hlt := hb.lt
  have HX : Hid (Ext W (W.alloc (.cells (lc x) 50))) := Lib.hid (Ext.new _ _)
  obtain ⟨xi, xn, xa, xo, xq, xc, xu⟩ := x
  clear hb
  go_enter Tryz.func102, Tryz.ntmps102
  go_wp2_with fail
  go_ret
  exact ⟨rfl, HX.out⟩
def findI (ls : List LotV) (id : Bs) : Int := match findL ls id with | some i => (i : Int) | none => 0
set_option maxRecDepth 100000 in
theorem lotFind (ls : List LotV) (A : Option Addr) (c : Nat) (id : Bs) (w : World) (hA : RdL w A ls) (hn : ls.length ≤ 1000000) :
    Calls Tryz.prog 58 #[.slice A ls.length c, .string (bs id)] w fun e w' => e = .returned (.tuple #[.int .i64 (findI ls id), .bool (findL ls id).isSome]) ∧ Ext w w' := by
  have HB := Lib.hid (Blk.new w 9 #[.string (bs id)])
  have HX0 : Hid (Ext w (w.alloc (.cells #[.string (bs id)] 9))) := Lib.hid (Ext.new _ _)
  have hi := idxFuncL 102 #[.pointer (some ⟨w.heap.size, 0, none⟩)] (fun _ _ => by rfl) (fun x => x.id == id) ls A c _ (hA.ext HX0.out) hn (fun x _ W hx => lotFind1 x id w.heap.size W (HB.out.ext hx))
  rw [findL_idx] at hi
  have HI := Lib.hid hi
  have HZ : Hid (max (match findL ls id with | some i => (i : Int) | none => -1) 0 = findI ls id ∧ decide (0 ≤ (match findL ls id with | some i => (i : Int) | none => -1)) = (findL ls id).isSome) := Lib.hid (by
    unfold findI
    cases findL ls id with
    | none => exact ⟨rfl, rfl⟩
    | some i => exact ⟨by simp only; omega, by simp⟩)
  generalize (match findL ls id with | some i => (i : Int) | none => -1) = z at *
  generalize findI ls id = y at *
  generalize (findL ls id).isSome = b at *
  clear hi hA
  go_enter Tryz.func58, Tryz.ntmps58
  go_wp2_with fail
  refine HI.out.mono ?_
  rintro e w1 ⟨rfl, hx1⟩
  have HX := Lib.hid (HX0.out.trans hx1)
  clear hx1
  go_wp2_with fail
  go_ret2
  exact ⟨by rw [← HZ.out.1, ← HZ.out.2]; rfl, HX.out⟩
end Go.Proofs.YtikehdbkiplleaaGreatDoor

/- The walks over the program's steps of Euclid's algorithm, and Gcd. -/
namespace Go.Proofs.YtikehdbkiplleaaGreatDoor
open Go.RowKit Go.Shelf
attribute [local go_sem] size_bs toList_bs Oper.semAt_some

/-- a variable that holds a magnitude -/
def MagAt (W : World) (g x : Nat) : Prop := ∃ A c, Blk W g 79 #[.slice A (gr x).length c] ∧ RdU W A (gr x) ∧ (gr x).length ≤ c ∧ c ≤ maxLen
theorem RdU.slot {w : World} {A : Option Addr} {gs : List Nat} (h : RdU w A gs) {g : Nat} {t : TypeId} {B : Option Addr} {n c : Nat} (hb : Blk w g t #[.slice B n c]) : 0 < gs.length → ∀ b o, A = some ⟨b, o, none⟩ → b ≠ g := by
  intro hn b o e hbg
  subst e; subst hbg
  have h0 := Reads.cell h (j := 0) (u := .int .u64 (gs[0]'hn)) (by simp [ucells, hn])
  rw [Nat.add_zero, hb.cell o] at h0
  match o, h0 with
  | 0, h0 => simp at h0
  | o + 1, h0 => simp at h0
theorem RdU.put {w : World} {A : Option Addr} {gs : List Nat} (h : RdU w A gs) {l : Nat} {lp : Loop} (hl : w.heap[l]? = some (.loop lp)) (o' : Obj) : RdU (w.putObj l o') A gs := by
  rcases Nat.eq_zero_or_pos gs.length with h0 | h0
  · exact ⟨h.1, fun hn => absurd hn (by omega)⟩
  · exact Reads.put h hl (by simp) (by simpa [ucells] using h0) o'
theorem MagAt.ext {W W' : World} {g x : Nat} (h : MagAt W g x) (hx : Ext W W') : MagAt W' g x := by
  obtain ⟨A, c, h1, h2, h3, h4⟩ := h
  exact ⟨A, c, h1.ext hx, h2.ext hx, h3, h4⟩
theorem MagAt.far {W : World} {g x g' : Nat} {B : Option Addr} {n c : Nat} (h : MagAt W g x) (hb : Blk W g' 79 #[.slice B n c]) (hne : g ≠ g') (u : Value) : MagAt (W.setCell ⟨g', 0, none⟩ u) g x := by
  obtain ⟨A, c', h1, h2, h3, h4⟩ := h
  exact ⟨A, c', h1.far (p := ⟨g', 0, none⟩) hne u, h2.far u (h2.slot hb), h3, h4⟩
theorem MagAt.set_ {W : World} {g x y : Nat} {A : Option Addr} {c : Nat} (h : MagAt W g y) (h2 : RdU W A (gr x)) (h3 : (gr x).length ≤ c) (h4 : c ≤ maxLen) : MagAt (W.setCell ⟨g, 0, none⟩ (.slice A (gr x).length c)) g x := by
  obtain ⟨A', c', k1, k2, k3, k4⟩ := h
  have hb := k1.set_ 0 (.slice A (gr x).length c)
  exact ⟨A, c, hb, h2.far _ (h2.slot k1), h3, h4⟩
theorem MagAt.put {W : World} {g x l : Nat} {lp : Loop} (h : MagAt W g x) (hl : W.heap[l]? = some (.loop lp)) (o' : Obj) (hne : g ≠ l) : MagAt (W.putObj l o') g x := by
  obtain ⟨A, c, h1, h2, h3, h4⟩ := h
  exact ⟨A, c, h1.put o' hne, h2.put hl o', h3, h4⟩
theorem MagAt.unique {W : World} {g x y : Nat} (h : MagAt W g x) (k : MagAt W g y) : x = y := by
  obtain ⟨A, c, h1, h2, _, _⟩ := h
  obtain ⟨A', c', k1, k2, _, _⟩ := k
  have e : some (Obj.cells #[Value.slice A (gr x).length c] 79 (0, 0)) = some (Obj.cells #[Value.slice A' (gr y).length c'] 79 (0, 0)) := by
    unfold Blk at h1 k1; rw [← h1, ← k1]
  simp only [Option.some.injEq, Obj.cells.injEq, Array.mk.injEq, List.cons.injEq, Value.slice.injEq, and_true] at e
  obtain ⟨rfl, hl, rfl⟩ := e
  apply gr_inj
  apply List.ext_getElem hl
  intro i hi1 hi2
  obtain ⟨b, o, e1, _, hc⟩ := h2.at_ hi1
  obtain ⟨b', o', e2, _, hc'⟩ := k2.at_ hi2
  rw [e1] at e2
  injection e2 with e2
  injection e2 with e3 e4
  subst e3; subst e4
  rw [hc] at hc'
  simp only [Option.some.injEq, Value.int.injEq, true_and] at hc'
  omega
/-- how Gcd stands in memory -/
structure GcAt (w : World) (g0 B : Nat) (lp : Loop) (x y o : Nat) (W : World) : Prop where
  ext : Ext w W
  out : MagAt W g0 o
  m : MagAt W B x
  n : MagAt W (B + 1) y
  D : W.heap[B + 1 + 1]? = some (.deferred (some []))
  L : W.heap[B + 1 + 1 + 1]? = some (.loop lp)
  lx : (gr x).length ≤ 900000
  ly : (gr y).length ≤ 900000
  lo : (gr o).length ≤ 900000
  lw : w.heap.size ≤ g0
  lg : g0 < B
section
variable {w : World} {g0 B : Nat} {lp lp' : Loop} {x y o : Nat} {W W' : World}
theorem GcAt.on (h : GcAt w g0 B lp x y o W) (hx : Ext W W') : GcAt w g0 B lp x y o W' :=
  ⟨h.ext.trans hx, h.out.ext hx, h.m.ext hx, h.n.ext hx, ext_heap h.D hx, ext_heap h.L hx, h.lx, h.ly, h.lo, h.lw, h.lg⟩
theorem GcAt.put (h : GcAt w g0 B lp x y o W) : GcAt w g0 B lp' x y o (W.putObj (B + 1 + 1 + 1) (.loop lp')) := by
  have hg := h.lg
  have hw := h.lw
  refine ⟨h.ext.putObj (by omega) _, h.out.put h.L _ (by omega), h.m.put h.L _ (by omega), h.n.put h.L _ (by omega), put_heap h.D (by omega), World.putObj_heap_same (Array.getElem?_eq_some_iff.1 h.L).1, h.lx, h.ly, h.lo, h.lw, h.lg⟩
/-- the body of the loop: out = m -/
theorem GcAt.take (h : GcAt w g0 B lp x y o W) {A : Option Addr} {c : Nat} (_hb : Blk W B 79 #[.slice A (gr x).length c]) (hr : RdU W A (gr x)) (h3 : (gr x).length ≤ c) (h4 : c ≤ maxLen) : GcAt w g0 B lp x y x (W.setCell ⟨g0, 0, none⟩ (.slice A (gr x).length c)) := by
  have hg := h.lg
  have hw := h.lw
  obtain ⟨Ao, co, k1, _⟩ := h.out
  exact ⟨h.ext.setCell hw _, h.out.set_ hr h3 h4, h.m.far k1 (by omega) _, h.n.far k1 (by omega) _, dfar h.D (by omega), dfar h.L (by omega), h.lx, h.ly, h.lx, h.lw, h.lg⟩
/-- the next step: m, n = n, r -/
theorem GcAt.next (h : GcAt w g0 B lp x y o W) {A A2 : Option Addr} {c c2 : Nat} (_hb : Blk W (B + 1) 79 #[.slice A (gr y).length c]) (hr : RdU W A (gr y)) (h3 : (gr y).length ≤ c) (h4 : c ≤ maxLen) {r : Nat} (hr2 : RdU W A2 (gr r)) (h5 : (gr r).length ≤ c2) (h6 : c2 ≤ maxLen) (hl : (gr r).length ≤ 900000) :
    GcAt w g0 B lp y r o ((W.setCell ⟨B, 0, none⟩ (.slice A (gr y).length c)).setCell ⟨B + 1, 0, none⟩ (.slice A2 (gr r).length c2)) := by
  have hg := h.lg
  have hw := h.lw
  obtain ⟨Am, cm, k1, _⟩ := h.m
  have hn' : MagAt (W.setCell ⟨B, 0, none⟩ (.slice A (gr y).length c)) (B + 1) y := h.n.far k1 (by omega) _
  have hm' : MagAt (W.setCell ⟨B, 0, none⟩ (.slice A (gr y).length c)) B y := h.m.set_ hr h3 h4
  have ho' : MagAt (W.setCell ⟨B, 0, none⟩ (.slice A (gr y).length c)) g0 o := h.out.far k1 (by omega) _
  have hr2' : RdU (W.setCell ⟨B, 0, none⟩ (.slice A (gr y).length c)) A2 (gr r) := hr2.far _ (hr2.slot k1)
  have hn2 := hn'
  obtain ⟨An, cn, j1, _⟩ := hn2
  exact ⟨(h.ext.setCell (p := ⟨B, 0, none⟩) (by dsimp only; omega) _).setCell (p := ⟨B + 1, 0, none⟩) (by dsimp only; omega) _, ho'.far j1 (by omega) _, hm'.far j1 (by omega) _, hn'.set_ hr2' h5 h6, dfar (dfar h.D (by omega)) (by omega), dfar (dfar h.L (by omega)) (by omega), h.ly, hl, h.lo, h.lw, h.lg⟩
end
theorem intSteps (A A' : Option Addr) (a c a' c' : Nat) (w : World) :
    Calls Tryz.prog 197 #[.slice A a c, .slice A' a' c'] w fun e w' => e = .returned (.func (.func 222) #[] #[.pointer (some ⟨w.heap.size, 0, none⟩), .pointer (some ⟨w.heap.size + 1, 0, none⟩)]) ∧ w' = (w.alloc (.cells #[.slice A a c] 79)).alloc (.cells #[.slice A' a' c'] 79) := by
  go_enter Tryz.func197, Tryz.ntmps197
  go_wp2_with fail
  go_ret
  exact ⟨rfl, rfl⟩
/-- how a round of the loop ends -/
def GcEnds (w : World) (g0 B : Nat) (lp : Loop) (x y : Nat) (e : Ending) (W' : World) : Prop := e = .returned (.bool true) ∧ GcAt w g0 B lp x y x W'
set_option maxRecDepth 100000 in
set_option maxHeartbeats 2000000 in
theorem intSteps1 (n : Nat) (w : World) (g0 B : Nat) (lp : Loop) (G : Nat)
    (hY : ∀ x y o W A c A' c', GcAt w g0 B lp x y o W → Blk W B 79 #[.slice A (gr x).length c] → RdU W A (gr x) → (gr x).length ≤ c → c ≤ maxLen → YieldAt Fence.wide (n - 1) Tryz.prog (B + 1 + 1 + 1) #[.slice A (gr x).length c, .slice A' (gr y).length c'] W (GcEnds w g0 B lp x y))
    (x y o : Nat) (W : World) (h0 : GcAt w g0 B lp x y o W) (hG : Nat.gcd x y = G) :
    CallsIn Fence.wide n Tryz.prog 222 #[.func (.yield (B + 1 + 1 + 1)) #[] #[], .pointer (some ⟨B, 0, none⟩), .pointer (some ⟨B + 1, 0, none⟩)] W fun e W' => (∃ v, e = .returned v) ∧ ∃ y, GcAt w g0 B lp G y G W' := by
  have hfn : ∀ k, Fence.wide.fn k := fun _ => trivial
  have hdp : Fence.wide.depth.isSome = false := rfl
  have HY := Lib.hid hY
  have HG := Lib.hid hG
  have H0 := Lib.hid h0
  clear hY hG h0
  refine callsIn_of_wp Tryz.func222 rfl trivial ?_ rfl
  simp only [Tryz.ntmps222, List.size_toArray, List.length_cons, List.length_nil, Nat.reduceAdd, Nat.reduceSub, Array.replicate_succ, Array.replicate_zero, List.push_toArray, List.append_toArray, List.nil_append, List.cons_append]
  gi_wp2
  gi_loopw [4, 5] (fun _ _ wr => ∃ x y o : Nat, GcAt w g0 B lp x y o wr ∧ Nat.gcd x y = G) (fun _ _ wr => @Classical.epsilon Nat ⟨0⟩ (fun y => MagAt wr (B + 1) y))
  case atStart => exact ⟨x, y, o, H0.out, HG.out⟩
  case round =>
    clear HG H0
    obtain ⟨x, y, o, h, hg⟩ := hrel
    have HM : Hid (@Classical.epsilon Nat ⟨0⟩ (fun y => MagAt wr (B + 1) y) = y) := Lib.hid ((Classical.epsilon_spec (p := fun y => MagAt wr (B + 1) y) ⟨y, h.n⟩).unique h.n)
    obtain ⟨A, c, k1, k2, k3, k4⟩ := h.m
    obtain ⟨A', c', j1, j2, j3, j4⟩ := h.n
    obtain ⟨fn, tmps, assign, body, hy, hR⟩ := HY.out x y o wr A c A' c' h k1 k2 k3 k4
    have HR := Lib.hid hR
    have H := Lib.hid h
    have HGC := Lib.hid hg
    have x0 := k1.cell 0
    have y0 := j1.cell 0
    simp only [List.getElem?_toArray, List.getElem?_cons_zero] at x0 y0
    clear h hg hR HY k1 k2 k3 k4 j1 j2 j3 j4
    gi_wp2
    refine HR.out.mono ?_
    rintro e W3 ⟨rfl, hK⟩
    clear HR H
    obtain ⟨A, c, k1, k2, k3, k4⟩ := hK.m
    obtain ⟨A', c', j1, j2, j3, j4⟩ := hK.n
    have x0 := k1.cell 0
    have y0 := j1.cell 0
    simp only [List.getElem?_toArray, List.getElem?_cons_zero] at x0 y0
    have HK := Lib.hid hK
    by_cases hy0 : y = 0
    · subst hy0
      rw [Nat.gcd_zero_right] at HGC
      have hl0 : decide (0 < (gr 0).length) = false := by rw [gr_zero]; rfl
      clear hK k1 k2 k3 k4 j1 j2 j3 j4
      gi_wp2
      go_end0
      refine ⟨⟨_, rfl⟩, 0, ?_⟩
      have := HK.out
      rw [HGC.out] at this
      exact this
    · have hl0 : decide (0 < (gr y).length) = true := by
        rw [decide_eq_true_iff]
        rcases Nat.eq_zero_or_pos (gr y).length with e | e
        · exact absurd (gr_inj (by rw [List.length_eq_zero_iff.1 e, gr_zero]) : y = 0) hy0
        · exact e
      have HDV := Lib.hid (fun W h1 h2 => intDivide x y (by omega) A A' c c' W h1 h2 hK.lx hK.ly k3 k4)
      have HR1 := Lib.hid k2
      have HR2 := Lib.hid j2
      have HC2 := Lib.hid (And.intro j3 j4)
      have hgr : (gr (x % y)).length ≤ 900000 := Nat.le_trans (gr_len_mono (Nat.le_of_lt (Nat.mod_lt x (by omega)))) hK.ly
      have HGR := Lib.hid hgr
      have HLT : Hid (x % y < y) := Lib.hid (Nat.mod_lt x (by omega))
      have HG2 : Hid (Nat.gcd y (x % y) = G) := Lib.hid (by rw [← HGC.out, Nat.gcd_comm x y, Nat.gcd_rec y x, Nat.gcd_comm])
      clear hK k1 k2 k3 k4 j1 j2 j3 j4 hgr hy0 HGC
      gi_wp2_with (gi_at_call 178; refine (callsIn_wide.2 (HDV.out _ HR1.out HR2.out)).mono ?_; rintro e w5 ⟨A1, c1, A2, c2, rfl, hq, hr, hx, hqc, hrc⟩; (have HK5 := Lib.hid (HK.out.on hx)); (have HR5 := Lib.hid (HR2.out.ext hx)); (have HRR := Lib.hid hr); (have HRC := Lib.hid hrc); (obtain ⟨Am, cm, m1, _⟩ := HK5.out.m); (obtain ⟨An, cn, n1, n2, n3, n4⟩ := HK5.out.n); (have u0 := m1.cell 0); (have v0 := n1.cell 0); (have u1 := m1.frozen 0); (have v1 := n1.frozen 0); (simp only [List.getElem?_toArray, List.getElem?_cons_zero] at u0 v0); (have HN1 := Lib.hid n1); (have HN2 := Lib.hid n2); (have HN3 := Lib.hid (And.intro n3 n4)); clear hq hr hx hqc hrc m1 n1 n2 n3 n4)
      go_roundw
      case rel => exact ⟨y, x % y, x, HK5.out.next HN1.out HN2.out HN3.out.1 HN3.out.2 HRR.out HRC.out.1 HRC.out.2 HGR.out, HG2.out⟩
      case measure =>
        rw [HM.out]
        have hn := (HK5.out.next HN1.out HN2.out HN3.out.1 HN3.out.2 HRR.out HRC.out.1 HRC.out.2 HGR.out).n
        rw [(Classical.epsilon_spec (p := fun y => MagAt _ (B + 1) y) ⟨_, hn⟩).unique hn]
        exact HLT.out
theorem txt_false (n : Nat) : txt false n = ofI n := by rw [txt_ofI]; rfl
theorem numField (x y : Value) (W : World) : (Instr.field 81 (.agg #[x, y]) 1).run Tryz.prog W = .ok y W := by kernel_rfl
set_option maxRecDepth 100000 in
set_option maxHeartbeats 4000000 in
theorem gcdP (a b : Bs) (ha : a.length ≤ 100000) (hb : b.length ≤ 100000) : Pure 158 #[.string (bs a), .string (bs b)] (.string (bs (ofI (Int.gcd (valI a) (valI b) : Nat)))) := by
  intro w hE
  have hfn : ∀ k, Fence.wide.fn k := fun _ => trivial
  have hdp : Fence.wide.depth.isSome = false := rfl
  have HR1 := Lib.hid (fun W => intRead a W (by omega))
  have HR2 := Lib.hid (fun W => intRead b W (by omega))
  have HL1 : Hid ((gr (natOf (mag a))).length ≤ 900000) := Lib.hid (by have := gr_len10 (mag_pow a ha); omega)
  have HL2 : Hid ((gr (natOf (mag b))).length ≤ 900000) := Lib.hid (by have := gr_len10 (mag_pow b hb); omega)
  have HG : Hid (Nat.gcd (natOf (mag a)) (natOf (mag b)) = Int.gcd (valI a) (valI b)) := Lib.hid (by rw [natOf_abs, natOf_abs]; rfl)
  have HE := Lib.hid hE
  generalize Int.gcd (valI a) (valI b) = G at *
  generalize natOf (mag a) = x at *
  generalize natOf (mag b) = y at *
  generalize neg a = ba at *
  generalize neg b = bb at *
  have hf := numField
  clear ha hb hE
  refine (callsIn_wide (n := 5)).1 ?_
  refine callsIn_of_wp_marks Tryz.func158 rfl trivial ?_ rfl
  simp only [Tryz.ntmps158, List.size_toArray, List.length_cons, List.length_nil, Nat.reduceAdd, Nat.reduceSub, Array.replicate_succ, Array.replicate_zero, List.push_toArray, List.append_toArray, List.nil_append, List.cons_append]
  gi_wp2_with fail
  refine (callsIn_wide.2 (HR1.out _)).mono ?_
  rintro e w1 ⟨A, c, rfl, hrd1, hx1, hc1, hm1⟩
  have HX := Lib.hid ((Ext.new w (.cells #[.slice none 0 0] 79)).trans hx1)
  have HB := Lib.hid ((Blk.new w 79 #[.slice none 0 0]).ext hx1)
  have HD1 := Lib.hid hrd1
  have HC1 := Lib.hid (And.intro hc1 hm1)
  clear hrd1 hx1 hc1 hm1
  gi_wp2_with fail
  refine (callsIn_wide.2 (HR2.out _)).mono ?_
  rintro e w2 ⟨A', c', rfl, hrd2, hx2, hc2, hm2⟩
  replace HX := Lib.hid (HX.out.trans hx2)
  replace HB := Lib.hid (HB.out.ext hx2)
  replace HD1 := Lib.hid (HD1.out.ext hx2)
  have HD2 := Lib.hid hrd2
  have HC2 := Lib.hid (And.intro hc2 hm2)
  clear hrd2 hx2 hc2 hm2
  gi_wp2_with fail
  refine (callsIn_wide.2 (intSteps A A' _ c _ c' w2)).mono ?_
  rintro e w3 ⟨rfl, rfl⟩
  gi_wp2_with fail
  refine range_outer' rfl (by omega) (w2.heap.size + 1 + 1) (by simp) rfl trivial (fun _ _ => by rfl) ?_
  intro fn lp W1 hlp hW1 _
  have hlt := HB.out.lt
  have hex : Ext w2 W1 := by subst hW1; exact (((Ext.new w2 _).alloc _).alloc _).alloc _
  refine (intSteps1 _ w w.heap.size w2.heap.size lp G ?hY x y 0 W1 ?h0 HG.out).mono ?_
  case h0 =>
    refine ⟨HX.out.trans hex, ⟨none, 0, ?_, ?_, ?_, by unfold maxLen; omega⟩, ⟨A, c, ?_, HD1.out.ext hex, HC1.out.1, HC1.out.2⟩, ⟨A', c', ?_, HD2.out.ext hex, HC2.out.1, HC2.out.2⟩, ?_, ?_, HL1.out, HL2.out, by rw [gr_zero]; simp, Nat.le_refl _, hlt⟩
    · rw [gr_zero]; exact HB.out.ext hex
    · rw [gr_zero]; exact Reads.nil
    · rw [gr_zero]; exact Nat.le_refl _
    · subst hW1; exact (((Blk.newAt _ _ _ _ rfl).alloc _).alloc _).alloc _
    · subst hW1; exact ((Blk.newAt _ _ _ _ (by simp)).alloc _).alloc _
    · subst hW1; exact oldAt (newAt _ _ _ (by simp))
    · subst hW1; exact newAt _ _ _ (by simp)
  case hY =>
    intro x y o W A c A' c' h k1 k2 k3 k4
    have e1 := congrArg Loop.assign hlp
    have e2 := congrArg Loop.body hlp
    have e3 := congrArg Loop.tmps hlp
    have e4 := congrArg Loop.params hlp
    have e5 : { lp with state := .ready, pending := none } = lp := by rw [hlp]; rfl
    obtain ⟨lb, hlb⟩ : ∃ lb, { lp with state := .busy } = lb := ⟨_, rfl⟩
    simp only [recOf] at e1 e2 e3 e4
    refine yield_round' (rec := lp) h.L (by rw [hlp]; rfl) (by rw [hlp]; rfl) trivial e1 e2 e4 e3 (zip2 _ _ _ _ _) hlb ?_
    clear e1 e2 e3 e4 hlp hW1 hex
    have HL0 := Lib.hid h.L
    have HP := Lib.hid (h.put (lp' := lb))
    have HK1 := Lib.hid (k1.put (.loop lb) (l := w2.heap.size + 1 + 1 + 1) (by omega))
    have HK2 := Lib.hid (k2.put h.L (.loop lb))
    have HK3 := Lib.hid (And.intro k3 k4)
    have HLB := Lib.hid hlb
    have HE5 := Lib.hid e5
    clear h k1 k2 k3 k4 hlb e5
    gi_wp2
    refine ⟨HL0.out, ?_⟩
    generalize W.putObj (w2.heap.size + 1 + 1 + 1) (.loop lb) = Wb at *
    obtain ⟨Ao, co, o1, _⟩ := HP.out.out
    have u0 := o1.cell 0
    have u1 := o1.frozen 0
    simp only [List.getElem?_toArray, List.getElem?_cons_zero] at u0
    clear o1
    gi_wp2
    have hT := HP.out.take HK1.out HK2.out HK3.out.1 HK3.out.2
    refine ⟨by rw [HLB.out]; exact hT.L, rfl, ?_⟩
    rw [HE5.out]
    exact hT.put
  rintro e W ⟨hv, y', h⟩
  refine ⟨hv, .inl ⟨h.L, ?_⟩⟩
  have hP := h.put (lp' := { lp with state := .exhausted })
  generalize W.putObj (w2.heap.size + 1 + 1 + 1) (.loop { lp with state := .exhausted }) = W3 at *
  clear h hv hW1 hlp W1 hex
  obtain ⟨Ao, co, o1, o2, o3, o4⟩ := hP.out
  have u0 := o1.cell 0
  simp only [List.getElem?_toArray, List.getElem?_cons_zero] at u0
  have HP := Lib.hid hP
  have HT := Lib.hid (fun W hr hE => intText false G Ao co W hr (Nat.le_trans hP.lo (by omega)) o3 o4 hE)
  rw [txt_false] at HT
  have HO := Lib.hid o2
  clear hP o1 o2 o3 o4
  gi_wp2_with (gi_at_call 72; refine (callsIn_wide.2 (HT.out _ HO.out (HE.out.ext HP.out.ext))).mono ?_; rintro e w5 ⟨rfl, hx5⟩; (have HX5 := Lib.hid (HP.out.ext.trans hx5)); (have HD5 := Lib.hid (ext_heap HP.out.D hx5)); clear hx5)
  refine ⟨by simp, .inl ⟨_, _, rfl, run_takeDeferred HD5.out, ?_⟩⟩
  refine ⟨.string (bs (ofI (G : Nat))), by simp [results, Tryz.results158, go_sem], ?_⟩
  exact ⟨rfl, HX5.out.putObj (by have := HP.out.lg; omega) _⟩
end Go.Proofs.YtikehdbkiplleaaGreatDoor

/- The walks over the program's fractions: reduced, made, parts, New, Of, Parts, Neg. -/
namespace Go.Proofs.YtikehdbkiplleaaGreatDoor
open Go.RowKit
attribute [local go_sem] size_bs toList_bs

/-- a fraction as a value -/
abbrev fv (f : Fr) : Value := .agg #[.string (bs f.num), .string (bs f.den)]
def dn (f : Fr) : Bs := if valI f.den = 0 then [49] else f.den
theorem valI_dn (f : Fr) : valI (dn f) = frD f := by unfold dn frD; split; exact valI_one; rfl
theorem dn_len (f : Fr) {L : Nat} (h : f.den.length ≤ L) (h1 : 1 ≤ L) : (dn f).length ≤ L := by unfold dn; split; exact h1; exact h
theorem ofI_lt10' {z : Int} {l : Bs} (h : z.natAbs ≤ (valI l).natAbs) {L : Nat} (hl : l.length ≤ L) : (ofI z).length ≤ L + 1 := ofI_lt10 (Nat.lt_of_le_of_lt h (valI_lt10 hl))
theorem results_fr {fn : Func} {a : Tmp} (h : fn.results = #[.cell a 28]) (tmps : Array Value) (w : World) (g : Nat) (x y : Value) (ha : tmps.getD a undef = .pointer (some ⟨g, 0, none⟩)) (hb : Blk w g 28 #[x, y]) :
    (results fn tmps).run Tryz.prog w = .ok (.agg #[x, y]) w := by
  have h0 := hb.cell 0
  have h1 := hb.cell 1
  simp only [List.getElem?_toArray, List.getElem?_cons_zero, List.getElem?_cons_succ] at h0 h1
  unfold results
  rw [h]
  simp only [List.mapM_toArray, List.mapM_cons, List.mapM_nil, ha]
  go_simp
theorem results_fr2 {fn : Func} {a b : Tmp} (h : fn.results = #[.cell a 28, .tmp b]) (tmps : Array Value) (w : World) (g : Nat) (x y z : Value) (ha : tmps.getD a undef = .pointer (some ⟨g, 0, none⟩)) (hz : tmps.getD b undef = z) (hb : Blk w g 28 #[x, y]) :
    (results fn tmps).run Tryz.prog w = .ok (.tuple #[.agg #[x, y], z]) w := by
  have h0 := hb.cell 0
  have h1 := hb.cell 1
  simp only [List.getElem?_toArray, List.getElem?_cons_zero, List.getElem?_cons_succ] at h0 h1
  unfold results
  rw [h]
  simp only [List.mapM_toArray, List.mapM_cons, List.mapM_nil, ha, hz]
  go_simp
theorem frBlk {w w' : World} {g : Nat} {x y : Value} (h : Blk w g 28 #[x, y]) (hx : Ext w w') : w'.cell? ⟨g, 0, none⟩ = some x ∧ w'.cell? ⟨g, 1, none⟩ = some y ∧ w'.frozen? ⟨g, 0, none⟩ = false ∧ w'.frozen? ⟨g, 1, none⟩ = false := by
  have k := h.ext hx
  have h0 := k.cell 0
  have h1 := k.cell 1
  simp only [List.getElem?_toArray, List.getElem?_cons_zero, List.getElem?_cons_succ] at h0 h1
  exact ⟨h0, h1, k.frozen 0, k.frozen 1⟩
theorem red_of {n d : Int} (hd : d ≠ 0) : (d < 0 → divF (-n) (Int.gcd (-n) (-d) : Nat) = redN n d ∧ divF (-d) (Int.gcd (-n) (-d) : Nat) = redD n d) ∧ (¬ d < 0 → divF n (Int.gcd n d : Nat) = redN n d ∧ divF d (Int.gcd n d : Nat) = redD n d) := by
  have hg := gcd_pos (n := n) hd
  constructor
  · intro h
    rw [Int.neg_gcd, Int.gcd_neg, divF_pos (by omega), divF_pos (by omega)]
    unfold redN redD
    rw [if_pos h]
    refine ⟨rfl, ?_⟩
    rw [show -d = (d.natAbs : Int) by omega]; rfl
  · intro h
    rw [divF_pos (by omega), divF_pos (by omega)]
    unfold redN redD
    rw [if_neg h]
    refine ⟨rfl, ?_⟩
    have e : d = (d.natAbs : Int) := by omega
    generalize Int.gcd n d = g at *
    rw [e]; simp
theorem gcd_abs_le {n d : Int} (hd : d ≠ 0) : (Int.gcd n d) ≤ d.natAbs := Int.gcd_le_natAbs_right n hd
set_option maxRecDepth 100000 in
set_option maxHeartbeats 2000000 in
theorem fracReduced (n d : Bs) (hn : n.length ≤ 90000) (hd : d.length ≤ 90000) (h0 : valI d ≠ 0) :
    Pure 116 #[.string (bs n), .string (bs d)] (.tuple #[.string (bs (ofI (redN (valI n) (valI d)))), .string (bs (ofI (redD (valI n) (valI d))))]) := by
  intro w hE
  have HE := Lib.hid hE
  have HC := Lib.hid (cmp0P d (by omega))
  have hr := red_of (n := valI n) h0
  have hgp := gcd_pos (n := valI n) h0
  have hgle := gcd_abs_le (n := valI n) h0
  have hgl : (ofI (Int.gcd (valI n) (valI d) : Nat)).length ≤ 90001 := ofI_lt10' (l := d) (by rw [Int.natAbs_natCast]; exact hgle) hd
  by_cases hneg : valI d < 0
  · have hb : decide (cmpI (valI d) 0 < 0) = true := by rw [decide_eq_true_iff, cmpI]; rw [if_pos hneg]; omega
    have HN1 := Lib.hid (negP n (by omega))
    have HN2 := Lib.hid (negP d (by omega))
    have hl1 : (ofI (-(valI n))).length ≤ 90001 := ofI_lt10' (l := n) (by omega) hn
    have hl2 : (ofI (-(valI d))).length ≤ 90001 := ofI_lt10' (l := d) (by omega) hd
    have HG := Lib.hid (gcdP (ofI (-(valI n))) (ofI (-(valI d))) (by omega) (by omega))
    rw [valI_ofI, valI_ofI] at HG
    have hge : Int.gcd (-(valI n)) (-(valI d)) = Int.gcd (valI n) (valI d) := by rw [Int.neg_gcd, Int.gcd_neg]
    have HD1 := Lib.hid (divP (ofI (-(valI n))) (ofI (Int.gcd (-(valI n)) (-(valI d)) : Nat)) (by omega) (by rw [hge]; omega) (by rw [valI_ofI, hge]; omega))
    have HD2 := Lib.hid (divP (ofI (-(valI d))) (ofI (Int.gcd (-(valI n)) (-(valI d)) : Nat)) (by omega) (by rw [hge]; omega) (by rw [valI_ofI, hge]; omega))
    rw [valI_ofI, valI_ofI] at HD1 HD2
    rw [(hr.1 hneg).1] at HD1
    rw [(hr.1 hneg).2] at HD2
    clear hr hgp hgle hgl hl1 hl2 hge hE
    generalize redN (valI n) (valI d) = rn at *
    generalize redD (valI n) (valI d) = rd at *
    generalize modF (-(valI n)) _ = m1 at *
    generalize modF (-(valI d)) _ = m2 at *
    generalize ofI (Int.gcd (-(valI n)) (-(valI d)) : Nat) = gs at *
    generalize ofI (-(valI n)) = nn at *
    generalize ofI (-(valI d)) = dd at *
    generalize cmpI (valI d) 0 = cc at *
    clear h0 hneg hn hd
    go_enter Tryz.func116, Tryz.ntmps116
    go_wp2_with fail
    refine (HC.out _ HE.out).mono ?_
    rintro e w1 ⟨rfl, hx1⟩
    have HX := Lib.hid hx1
    clear hx1
    go_wp2_with fail
    refine (HN1.out _ (HE.out.ext HX.out)).mono ?_
    rintro e w2 ⟨rfl, hx2⟩
    replace HX := Lib.hid (HX.out.trans hx2)
    clear hx2
    go_wp2_with fail
    refine (HN2.out _ (HE.out.ext HX.out)).mono ?_
    rintro e w3 ⟨rfl, hx2⟩
    replace HX := Lib.hid (HX.out.trans hx2)
    clear hx2
    go_wp2_with fail
    refine (HG.out _ (HE.out.ext HX.out)).mono ?_
    rintro e w4 ⟨rfl, hx2⟩
    replace HX := Lib.hid (HX.out.trans hx2)
    clear hx2
    go_wp2_with fail
    refine (HD1.out _ (HE.out.ext HX.out)).mono ?_
    rintro e w5 ⟨rfl, hx2⟩
    replace HX := Lib.hid (HX.out.trans hx2)
    clear hx2
    go_wp2_with fail
    refine (HD2.out _ (HE.out.ext HX.out)).mono ?_
    rintro e w6 ⟨rfl, hx2⟩
    replace HX := Lib.hid (HX.out.trans hx2)
    clear hx2
    go_wp2_with fail
    go_ret2
    exact ⟨rfl, HX.out⟩
  · have hb : decide (cmpI (valI d) 0 < 0) = false := by rw [decide_eq_false_iff_not, cmpI_neg]; omega
    have HG := Lib.hid (gcdP n d (by omega) (by omega))
    have HD1 := Lib.hid (divP n (ofI (Int.gcd (valI n) (valI d) : Nat)) (by omega) (by omega) (by rw [valI_ofI]; omega))
    have HD2 := Lib.hid (divP d (ofI (Int.gcd (valI n) (valI d) : Nat)) (by omega) (by omega) (by rw [valI_ofI]; omega))
    rw [valI_ofI] at HD1 HD2
    rw [(hr.2 hneg).1] at HD1
    rw [(hr.2 hneg).2] at HD2
    clear hr hgp hgle hgl hE
    generalize redN (valI n) (valI d) = rn at *
    generalize redD (valI n) (valI d) = rd at *
    generalize modF (valI n) _ = m1 at *
    generalize modF (valI d) _ = m2 at *
    generalize ofI (Int.gcd (valI n) (valI d) : Nat) = gs at *
    generalize cmpI (valI d) 0 = cc at *
    clear h0 hneg hn hd
    go_enter Tryz.func116, Tryz.ntmps116
    go_wp2_with fail
    refine (HC.out _ HE.out).mono ?_
    rintro e w1 ⟨rfl, hx1⟩
    have HX := Lib.hid hx1
    clear hx1
    go_wp2_with fail
    refine (HG.out _ (HE.out.ext HX.out)).mono ?_
    rintro e w4 ⟨rfl, hx2⟩
    replace HX := Lib.hid (HX.out.trans hx2)
    clear hx2
    go_wp2_with fail
    refine (HD1.out _ (HE.out.ext HX.out)).mono ?_
    rintro e w5 ⟨rfl, hx2⟩
    replace HX := Lib.hid (HX.out.trans hx2)
    clear hx2
    go_wp2_with fail
    refine (HD2.out _ (HE.out.ext HX.out)).mono ?_
    rintro e w6 ⟨rfl, hx2⟩
    replace HX := Lib.hid (HX.out.trans hx2)
    clear hx2
    go_wp2_with fail
    go_ret2
    exact ⟨rfl, HX.out⟩
set_option maxRecDepth 100000 in
set_option maxHeartbeats 2000000 in
theorem fracMade (n d : Bs) (hn : n.length ≤ 90000) (hd : d.length ≤ 90000) (h0 : valI d ≠ 0) :
    Pure 70 #[.string (bs n), .string (bs d)] (fv (ofQ (Rat.divInt (valI n) (valI d)))) := by
  intro w hE
  rw [← frq_ofQ h0]
  have HE := Lib.hid hE
  have HR := Lib.hid (fracReduced n d hn hd h0)
  unfold frq
  have hone : redD (valI n) (valI d) = 1 ↔ ofI (redD (valI n) (valI d)) = [49] := by
    rw [← ofI_one]; exact ⟨fun h => by rw [h], fun h => ofI_inj h⟩
  generalize redN (valI n) (valI d) = rn at *
  generalize redD (valI n) (valI d) = rd at *
  clear h0 hn hd hE
  have HF1 : Hid (rd = 1 → (⟨ofI rn, if rd = 1 then [] else ofI rd⟩ : Fr) = ⟨ofI rn, []⟩) := Lib.hid (fun h => by rw [if_pos h])
  have HF2 : Hid (¬ rd = 1 → (⟨ofI rn, if rd = 1 then [] else ofI rd⟩ : Fr) = ⟨ofI rn, ofI rd⟩) := Lib.hid (fun h => by rw [if_neg h])
  generalize (⟨ofI rn, if rd = 1 then [] else ofI rd⟩ : Fr) = r at *
  have HB := Lib.hid (Blk.new w 28 #[.string ⟨#[]⟩, .string ⟨#[]⟩])
  have HX0 : Hid (Ext w (w.alloc (.cells #[.string ⟨#[]⟩, .string ⟨#[]⟩] 28))) := Lib.hid (Ext.new _ _)
  go_enter Tryz.func70, Tryz.ntmps70
  go_wp2_with fail
  refine (HR.out _ (HE.out.ext HX0.out)).mono ?_
  rintro e w1 ⟨rfl, hx1⟩
  obtain ⟨q0, q1, f0, f1⟩ := frBlk HB.out hx1
  have HB1 := Lib.hid (HB.out.ext hx1)
  have HX := Lib.hid (HX0.out.trans hx1)
  clear hx1
  by_cases h1 : rd = 1
  · have hb : (ofI rd == [49]) = true := by rw [beq_iff_eq]; exact hone.1 h1
    have H1 := Lib.hid h1
    clear hone h1
    go_wp2_with fail
    refine bodyPost_ret (results_fr rfl _ _ w.heap.size (.string (bs (ofI rn))) (.string ⟨#[]⟩) rfl ((HB1.out.set_ 0 _).set_ 1 _)) rfl ?_
    refine ⟨?_, (HX.out.setCell (p := ⟨w.heap.size, 0, none⟩) (Nat.le_refl _) _).setCell (p := ⟨w.heap.size, 1, none⟩) (Nat.le_refl _) _⟩
    rw [HF1.out H1.out]; rfl
  · have hb : (ofI rd == [49]) = false := by rw [beq_eq_false_iff_ne]; exact fun h => h1 (hone.2 h)
    have H1 := Lib.hid h1
    clear hone h1
    go_wp2_with fail
    refine bodyPost_ret (results_fr rfl _ _ w.heap.size (.string (bs (ofI rn))) (.string (bs (ofI rd))) rfl ((HB1.out.set_ 0 _).set_ 1 _)) rfl ?_
    refine ⟨?_, (HX.out.setCell (p := ⟨w.heap.size, 0, none⟩) (Nat.le_refl _) _).setCell (p := ⟨w.heap.size, 1, none⟩) (Nat.le_refl _) _⟩
    rw [HF2.out H1.out]
set_option maxRecDepth 100000 in
set_option maxHeartbeats 2000000 in
theorem fracParts (f : Fr) (hd : f.den.length ≤ 90000) :
    Pure 73 #[fv f] (.tuple #[.string (bs f.num), .string (bs (dn f))]) := by
  intro w hE
  have HE := Lib.hid hE
  obtain ⟨n, d⟩ := f
  have HC := Lib.hid (cmp0P d (by simpa using Nat.le_trans hd (by omega)))
  have HF1 : Hid (valI d = 0 → dn ⟨n, d⟩ = [49]) := Lib.hid (fun h => by unfold dn; rw [if_pos h])
  have HF2 : Hid (¬ valI d = 0 → dn ⟨n, d⟩ = d) := Lib.hid (fun h => by unfold dn; rw [if_neg h])
  generalize dn ⟨n, d⟩ = r at *
  have HB := Lib.hid (Blk.new w 28 #[.string (bs n), .string (bs d)])
  have HX0 : Hid (Ext w (w.alloc (.cells #[.string (bs n), .string (bs d)] 28))) := Lib.hid (Ext.new _ _)
  clear hE hd
  by_cases h0 : valI d = 0
  · have hb : (cmpI (valI d) 0 == 0) = true := by rw [beq_iff_eq, cmpI_zero]; exact h0
    have H0 := Lib.hid h0
    clear h0
    go_enter Tryz.func73, Tryz.ntmps73
    go_wp2_with fail
    refine (HC.out _ (HE.out.ext HX0.out)).mono ?_
    rintro e w1 ⟨rfl, hx1⟩
    obtain ⟨q0, q1, f0, f1⟩ := frBlk HB.out hx1
    have HX := Lib.hid (HX0.out.trans hx1)
    clear hx1
    go_wp2_with fail
    go_ret2
    exact ⟨by rw [HF1.out H0.out]; rfl, HX.out⟩
  · have hb : (cmpI (valI d) 0 == 0) = false := by rw [beq_eq_false_iff_ne, Ne, cmpI_zero]; exact h0
    have H0 := Lib.hid h0
    clear h0
    go_enter Tryz.func73, Tryz.ntmps73
    go_wp2_with fail
    refine (HC.out _ (HE.out.ext HX0.out)).mono ?_
    rintro e w1 ⟨rfl, hx1⟩
    obtain ⟨q0, q1, f0, f1⟩ := frBlk HB.out hx1
    have HX := Lib.hid (HX0.out.trans hx1)
    clear hx1
    go_wp2_with fail
    go_quiet (fail)
    go_wp2_with fail
    go_ret2
    exact ⟨by rw [HF2.out H0.out]; rfl, HX.out.drewN _⟩
end Go.Proofs.YtikehdbkiplleaaGreatDoor

/- The walks over the program's fractions: New, Of, Neg, Parts, the operations. -/
namespace Go.Proofs.YtikehdbkiplleaaGreatDoor
open Go.RowKit
attribute [local go_sem] size_bs toList_bs

set_option maxRecDepth 100000 in
set_option maxHeartbeats 2000000 in
theorem fracNew_zero (n d : Bs) (hd : d.length ≤ 90000) (h0 : valI d = 0) :
    Pure 46 #[.string (bs n), .string (bs d)] (.tuple #[fv ⟨[], []⟩, .int .i64 10]) := by
  intro w hE
  have HE := Lib.hid hE
  have HC := Lib.hid (cmp0P d (by omega))
  have hb : (cmpI (valI d) 0 == 0) = true := by rw [beq_iff_eq, cmpI_zero]; exact h0
  have HB := Lib.hid (Blk.new w 28 #[.string ⟨#[]⟩, .string ⟨#[]⟩])
  have HX0 : Hid (Ext w (w.alloc (.cells #[.string ⟨#[]⟩, .string ⟨#[]⟩] 28))) := Lib.hid (Ext.new _ _)
  generalize cmpI (valI d) 0 = cc at *
  clear hE hd h0
  go_enter Tryz.func46, Tryz.ntmps46
  go_wp2_with fail
  refine (HC.out _ (HE.out.ext HX0.out)).mono ?_
  rintro e w1 ⟨rfl, hx1⟩
  obtain ⟨q0, q1, f0, f1⟩ := frBlk HB.out hx1
  have HB1 := Lib.hid (HB.out.ext hx1)
  have HX := Lib.hid (HX0.out.trans hx1)
  clear hx1
  go_wp2_with fail
  refine bodyPost_ret (results_fr2 rfl _ _ w.heap.size (.string ⟨#[]⟩) (.string ⟨#[]⟩) (.int .i64 10) rfl rfl ((HB1.out.set_ 0 _).set_ 1 _)) rfl ?_
  exact ⟨rfl, (HX.out.setCell (p := ⟨w.heap.size, 0, none⟩) (Nat.le_refl _) _).setCell (p := ⟨w.heap.size, 1, none⟩) (Nat.le_refl _) _⟩
set_option maxRecDepth 100000 in
set_option maxHeartbeats 2000000 in
theorem fracNew (n d : Bs) (hn : n.length ≤ 90000) (hd : d.length ≤ 90000) (h0 : valI d ≠ 0) :
    Pure 46 #[.string (bs n), .string (bs d)] (.tuple #[fv (ofQ (Rat.divInt (valI n) (valI d))), .int .i64 0]) := by
  intro w hE
  have HE := Lib.hid hE
  have HC := Lib.hid (cmp0P d (by omega))
  have hb : (cmpI (valI d) 0 == 0) = false := by rw [beq_eq_false_iff_ne, Ne, cmpI_zero]; exact h0
  have HM := Lib.hid (fracMade n d hn hd h0)
  have HB := Lib.hid (Blk.new w 28 #[.string ⟨#[]⟩, .string ⟨#[]⟩])
  have HX0 : Hid (Ext w (w.alloc (.cells #[.string ⟨#[]⟩, .string ⟨#[]⟩] 28))) := Lib.hid (Ext.new _ _)
  generalize cmpI (valI d) 0 = cc at *
  generalize ofQ (Rat.divInt (valI n) (valI d)) = r at *
  clear hE hn hd h0
  go_enter Tryz.func46, Tryz.ntmps46
  go_wp2_with fail
  refine (HC.out _ (HE.out.ext HX0.out)).mono ?_
  rintro e w1 ⟨rfl, hx1⟩
  have HB1 := Lib.hid (HB.out.ext hx1)
  have HX := Lib.hid (HX0.out.trans hx1)
  clear hx1
  go_wp2_with fail
  refine (HM.out _ (HE.out.ext HX.out)).mono ?_
  rintro e w2 ⟨rfl, hx1⟩
  obtain ⟨q0, q1, f0, f1⟩ := frBlk HB1.out hx1
  have HB2 := Lib.hid (HB1.out.ext hx1)
  replace HX := Lib.hid (HX.out.trans hx1)
  clear hx1
  go_wp2_with fail
  refine bodyPost_ret (results_fr2 rfl _ _ w.heap.size (.string (bs r.num)) (.string (bs r.den)) (.int .i64 0) rfl rfl ((HB2.out.set_ 0 _).set_ 1 _)) rfl ?_
  exact ⟨rfl, (HX.out.setCell (p := ⟨w.heap.size, 0, none⟩) (Nat.le_refl _) _).setCell (p := ⟨w.heap.size, 1, none⟩) (Nat.le_refl _) _⟩
set_option maxRecDepth 100000 in
set_option maxHeartbeats 2000000 in
theorem fracOf (a : Bs) (ha : a.length ≤ 90000) : Pure 27 #[.string (bs a)] (fv (ofQ (valI a : Int))) := by
  intro w hE
  have HE := Lib.hid hE
  have hm := fracMade a [49] ha (by simp) (by rw [valI_one]; decide)
  rw [valI_one, divInt_one] at hm
  have HM := Lib.hid hm
  have HB := Lib.hid (Blk.new w 28 #[.string ⟨#[]⟩, .string ⟨#[]⟩])
  have HX0 : Hid (Ext w (w.alloc (.cells #[.string ⟨#[]⟩, .string ⟨#[]⟩] 28))) := Lib.hid (Ext.new _ _)
  generalize ofQ (valI a : Int) = r at *
  clear hE hm
  go_enter Tryz.func27, Tryz.ntmps27
  go_wp2_with fail
  refine (HM.out _ (HE.out.ext HX0.out)).mono ?_
  rintro e w1 ⟨rfl, hx1⟩
  obtain ⟨q0, q1, f0, f1⟩ := frBlk HB.out hx1
  have HB1 := Lib.hid (HB.out.ext hx1)
  have HX := Lib.hid (HX0.out.trans hx1)
  clear hx1
  go_wp2_with fail
  refine bodyPost_ret (results_fr rfl _ _ w.heap.size (.string (bs r.num)) (.string (bs r.den)) rfl ((HB1.out.set_ 0 _).set_ 1 _)) rfl ?_
  exact ⟨rfl, (HX.out.setCell (p := ⟨w.heap.size, 0, none⟩) (Nat.le_refl _) _).setCell (p := ⟨w.heap.size, 1, none⟩) (Nat.le_refl _) _⟩
set_option maxRecDepth 100000 in
set_option maxHeartbeats 2000000 in
theorem fracNeg (f : Fr) (h1 : f.num.length ≤ 80000) (h2 : f.den.length ≤ 80000) : Pure 67 #[fv f] (fv (ofQ (-(frQ f)))) := by
  intro w hE
  have HE := Lib.hid hE
  have HP := Lib.hid (fracParts f (by omega))
  have HN := Lib.hid (negP f.num (by omega))
  have hl : (ofI (-(valI f.num))).length ≤ 80001 := ofI_lt10' (l := f.num) (by omega) h1
  have hm := fracMade (ofI (-(valI f.num))) (dn f) (by omega) (dn_len f (by omega) (by omega)) (by rw [valI_dn]; exact frD_ne f)
  rw [valI_ofI, valI_dn, ← Rat.neg_divInt, show Rat.divInt (valI f.num) (frD f) = frQ f from rfl] at hm
  have HM := Lib.hid hm
  generalize ofQ (-(frQ f)) = r at *
  generalize ofI (-(valI f.num)) = nn at *
  generalize dn f = dd at *
  obtain ⟨n, d⟩ := f
  clear hE hm hl h1 h2
  have HB := Lib.hid (Blk.newAt (w.alloc (.cells #[.string (bs n), .string (bs d)] 28)) 28 #[.string ⟨#[]⟩, .string ⟨#[]⟩] (w.heap.size + 1) (by simp))
  have HX0 : Hid (Ext w ((w.alloc (.cells #[.string (bs n), .string (bs d)] 28)).alloc (.cells #[.string ⟨#[]⟩, .string ⟨#[]⟩] 28))) := Lib.hid ((Ext.new _ _).alloc _)
  go_enter Tryz.func67, Tryz.ntmps67
  go_wp2_with fail
  refine (HP.out _ (HE.out.ext HX0.out)).mono ?_
  rintro e w1 ⟨rfl, hx1⟩
  replace HB := Lib.hid (HB.out.ext hx1)
  have HX := Lib.hid (HX0.out.trans hx1)
  clear hx1
  go_wp2_with fail
  refine (HN.out _ (HE.out.ext HX.out)).mono ?_
  rintro e w2 ⟨rfl, hx1⟩
  replace HB := Lib.hid (HB.out.ext hx1)
  replace HX := Lib.hid (HX.out.trans hx1)
  clear hx1
  go_wp2_with fail
  refine (HM.out _ (HE.out.ext HX.out)).mono ?_
  rintro e w3 ⟨rfl, hx1⟩
  obtain ⟨q0, q1, f0, f1⟩ := frBlk HB.out hx1
  replace HB := Lib.hid (HB.out.ext hx1)
  replace HX := Lib.hid (HX.out.trans hx1)
  clear hx1
  go_wp2_with fail
  refine bodyPost_ret (results_fr rfl _ _ (w.heap.size + 1) (.string (bs r.num)) (.string (bs r.den)) rfl ((HB.out.set_ 0 _).set_ 1 _)) rfl ?_
  exact ⟨rfl, (HX.out.setCell (p := ⟨w.heap.size + 1, 0, none⟩) (Nat.le_succ _) _).setCell (p := ⟨w.heap.size + 1, 1, none⟩) (Nat.le_succ _) _⟩
set_option maxRecDepth 100000 in
set_option maxHeartbeats 2000000 in
/-- numerator and denominator in lowest terms -/
theorem fracPartsR (f : Fr) (h1 : f.num.length ≤ 80000) (h2 : f.den.length ≤ 80000) : Pure 141 #[fv f] (.tuple #[.string (bs (ofI (frQ f).num)), .string (bs (ofI ((frQ f).den : Int)))]) := by
  intro w hE
  have HE := Lib.hid hE
  have HP := Lib.hid (fracParts f (by omega))
  have hm := fracReduced f.num (dn f) (by omega) (dn_len f (by omega) (by omega)) (by rw [valI_dn]; exact frD_ne f)
  rw [valI_dn, redN_num (frD_ne f), redD_den (frD_ne f), show Rat.divInt (valI f.num) (frD f) = frQ f from rfl] at hm
  have HM := Lib.hid hm
  generalize (frQ f).num = rn at *
  generalize ((frQ f).den : Int) = rd at *
  generalize dn f = dd at *
  obtain ⟨n, d⟩ := f
  clear hE hm h1 h2
  have HX0 : Hid (Ext w (w.alloc (.cells #[.string (bs n), .string (bs d)] 28))) := Lib.hid (Ext.new _ _)
  go_enter Tryz.func141, Tryz.ntmps141
  go_wp2_with fail
  refine (HP.out _ (HE.out.ext HX0.out)).mono ?_
  rintro e w1 ⟨rfl, hx1⟩
  have HX := Lib.hid (HX0.out.trans hx1)
  clear hx1
  go_wp2_with fail
  refine (HM.out _ (HE.out.ext HX.out)).mono ?_
  rintro e w2 ⟨rfl, hx1⟩
  replace HX := Lib.hid (HX.out.trans hx1)
  clear hx1
  go_wp2_with fail
  go_ret2
  exact ⟨rfl, HX.out⟩
end Go.Proofs.YtikehdbkiplleaaGreatDoor

/- The walks over the program's fractions: the four operations as closures, apply, Add, Sub, Mul, Compare. -/
namespace Go.Proofs.YtikehdbkiplleaaGreatDoor
open Go.RowKit
attribute [local go_sem] size_bs toList_bs

/-- the variable that holds the product -/
abbrev mulV : Value := .func (.func 89) #[] #[]
abbrev MulAt (W : World) (g : Nat) : Prop := Blk W g 43 #[mulV]
theorem mulCell {W : World} {g : Nat} (h : MulAt W g) : W.cell? ⟨g, 0, none⟩ = some mulV := by
  have := h.cell 0
  simpa using this
/-- an operation: what it makes of a / b and c / d -/
abbrev OpAt (k g : Nat) (a b c d n m : Bs) : Prop := ∀ W, Env W → MulAt W g → Calls Tryz.prog k #[.string (bs a), .string (bs b), .string (bs c), .string (bs d), .pointer (some ⟨g, 0, none⟩)] W fun e w' => e = .returned (.tuple #[.string (bs n), .string (bs m)]) ∧ Ext W w'
set_option maxRecDepth 100000 in
set_option maxHeartbeats 2000000 in
theorem opPlus (g : Nat) (a b c d : Bs) (ha : a.length ≤ 30000) (hb : b.length ≤ 30000) (hc : c.length ≤ 30000) (hd : d.length ≤ 30000) :
    OpAt 112 g a b c d (ofI (valI a * valI d + valI c * valI b)) (ofI (valI b * valI d)) := by
  intro w hE hM
  have HE := Lib.hid hE
  have HM := Lib.hid hM
  have H1 := Lib.hid (mulP a d (by omega) (by omega))
  have H2 := Lib.hid (mulP c b (by omega) (by omega))
  have H3 := Lib.hid (mulP b d (by omega) (by omega))
  have H4 := Lib.hid (addP (ofI (valI a * valI d)) (ofI (valI c * valI b)) (by have := mul_len ha hd; omega) (by have := mul_len hc hb; omega))
  rw [valI_ofI, valI_ofI] at H4
  generalize ofI (valI a * valI d + valI c * valI b) = z at *
  generalize ofI (valI a * valI d) = z1 at *
  generalize ofI (valI c * valI b) = z2 at *
  generalize ofI (valI b * valI d) = z3 at *
  have hq := mulCell hM
  have HX : Hid (Ext w w) := Lib.hid (Ext.refl w)
  clear hE hM ha hb hc hd
  go_enter Tryz.func112, Tryz.ntmps112
  go_wp2_with fail
  replace HX : Hid (Ext w w.drew) := Lib.hid HX.out.drew
  go_region_held3 (fun w' => w'.cell? ⟨g, 0, none⟩ = some mulV)
    (go_keep)
    (first
      | (go_at_call 89; ((with_reducible refine (H1.out _ (HE.out.ext HX.out)).mono ?_); rintro e w1 ⟨rfl, hx⟩); (replace HX := Lib.hid (HX.out.trans hx)); (have q1 := mulCell (HM.out.ext HX.out)); clear hx H1)
      | (go_at_call 89; ((with_reducible refine (H2.out _ (HE.out.ext HX.out)).mono ?_); rintro e w2 ⟨rfl, hx⟩); (replace HX := Lib.hid (HX.out.trans hx)); (have q2 := mulCell (HM.out.ext HX.out)); clear hx H2)
      | (go_at_call 89; ((with_reducible refine (H3.out _ (HE.out.ext HX.out)).mono ?_); rintro e w3 ⟨rfl, hx⟩); (replace HX := Lib.hid (HX.out.trans hx)); (have q3 := mulCell (HM.out.ext HX.out)); clear hx H3)
      | (go_at_call 29; ((with_reducible refine (H4.out _ (HE.out.ext HX.out)).mono ?_); rintro e w4 ⟨rfl, hx⟩); (replace HX := Lib.hid (HX.out.trans hx)); (have q4 := mulCell (HM.out.ext HX.out)); clear hx H4))
  all_goals
    go_wp2_with fail
    go_ret2
    exact ⟨rfl, HX.out⟩
set_option maxRecDepth 100000 in
set_option maxHeartbeats 2000000 in
theorem opMinus (g : Nat) (a b c d : Bs) (ha : a.length ≤ 30000) (hb : b.length ≤ 30000) (hc : c.length ≤ 30000) (hd : d.length ≤ 30000) :
    OpAt 113 g a b c d (ofI (valI a * valI d - valI c * valI b)) (ofI (valI b * valI d)) := by
  intro w hE hM
  have HE := Lib.hid hE
  have HM := Lib.hid hM
  have H1 := Lib.hid (mulP a d (by omega) (by omega))
  have H2 := Lib.hid (mulP c b (by omega) (by omega))
  have H3 := Lib.hid (mulP b d (by omega) (by omega))
  have H4 := Lib.hid (subP (ofI (valI a * valI d)) (ofI (valI c * valI b)) (by have := mul_len ha hd; omega) (by have := mul_len hc hb; omega))
  rw [valI_ofI, valI_ofI] at H4
  generalize ofI (valI a * valI d - valI c * valI b) = z at *
  generalize ofI (valI a * valI d) = z1 at *
  generalize ofI (valI c * valI b) = z2 at *
  generalize ofI (valI b * valI d) = z3 at *
  have hq := mulCell hM
  have HX : Hid (Ext w w) := Lib.hid (Ext.refl w)
  clear hE hM ha hb hc hd
  go_enter Tryz.func113, Tryz.ntmps113
  go_wp2_with fail
  replace HX : Hid (Ext w w.drew) := Lib.hid HX.out.drew
  go_region_held3 (fun w' => w'.cell? ⟨g, 0, none⟩ = some mulV)
    (go_keep)
    (first
      | (go_at_call 89; ((with_reducible refine (H1.out _ (HE.out.ext HX.out)).mono ?_); rintro e w1 ⟨rfl, hx⟩); (replace HX := Lib.hid (HX.out.trans hx)); (have q1 := mulCell (HM.out.ext HX.out)); clear hx H1)
      | (go_at_call 89; ((with_reducible refine (H2.out _ (HE.out.ext HX.out)).mono ?_); rintro e w2 ⟨rfl, hx⟩); (replace HX := Lib.hid (HX.out.trans hx)); (have q2 := mulCell (HM.out.ext HX.out)); clear hx H2)
      | (go_at_call 89; ((with_reducible refine (H3.out _ (HE.out.ext HX.out)).mono ?_); rintro e w3 ⟨rfl, hx⟩); (replace HX := Lib.hid (HX.out.trans hx)); (have q3 := mulCell (HM.out.ext HX.out)); clear hx H3)
      | (go_at_call 79; ((with_reducible refine (H4.out _ (HE.out.ext HX.out)).mono ?_); rintro e w4 ⟨rfl, hx⟩); (replace HX := Lib.hid (HX.out.trans hx)); (have q4 := mulCell (HM.out.ext HX.out)); clear hx H4))
  all_goals
    go_wp2_with fail
    go_ret2
    exact ⟨rfl, HX.out⟩
set_option maxRecDepth 100000 in
set_option maxHeartbeats 2000000 in
theorem opTimes (g : Nat) (a b c d : Bs) (ha : a.length ≤ 30000) (hb : b.length ≤ 30000) (hc : c.length ≤ 30000) (hd : d.length ≤ 30000) :
    OpAt 114 g a b c d (ofI (valI a * valI c)) (ofI (valI b * valI d)) := by
  intro w hE hM
  have HE := Lib.hid hE
  have HM := Lib.hid hM
  have H1 := Lib.hid (mulP a c (by omega) (by omega))
  have H3 := Lib.hid (mulP b d (by omega) (by omega))
  generalize ofI (valI a * valI c) = z1 at *
  generalize ofI (valI b * valI d) = z3 at *
  have hq := mulCell hM
  have HX : Hid (Ext w w) := Lib.hid (Ext.refl w)
  clear hE hM ha hb hc hd
  go_enter Tryz.func114, Tryz.ntmps114
  go_wp2_with fail
  replace HX : Hid (Ext w w.drew) := Lib.hid HX.out.drew
  go_region_held3 (fun w' => w'.cell? ⟨g, 0, none⟩ = some mulV)
    (go_keep)
    (first
      | (go_at_call 89; ((with_reducible refine (H1.out _ (HE.out.ext HX.out)).mono ?_); rintro e w1 ⟨rfl, hx⟩); (replace HX := Lib.hid (HX.out.trans hx)); (have q1 := mulCell (HM.out.ext HX.out)); clear hx H1)
      | (go_at_call 89; ((with_reducible refine (H3.out _ (HE.out.ext HX.out)).mono ?_); rintro e w3 ⟨rfl, hx⟩); (replace HX := Lib.hid (HX.out.trans hx)); (have q3 := mulCell (HM.out.ext HX.out)); clear hx H3))
  all_goals
    go_wp2_with fail
    go_ret2
    exact ⟨rfl, HX.out⟩
end Go.Proofs.YtikehdbkiplleaaGreatDoor

/- The walks over the program's fractions: the list of the operations, apply, Add, Sub, Mul, Compare. -/
namespace Go.Proofs.YtikehdbkiplleaaGreatDoor
open Go.RowKit
attribute [local go_sem] size_bs toList_bs

/-- the closure of an operation -/
abbrev opV (k g : Nat) : Value := .func (.func k) #[] #[.pointer (some ⟨g, 0, none⟩)]
theorem results_op4 {fn : Func} {a : Tmp} (h : fn.results = #[.cell a 87]) (tmps : Array Value) (w : World) (g : Nat) (x y z u : Value) (ha : tmps.getD a undef = .pointer (some ⟨g, 0, none⟩)) (hb : Blk w g 87 #[x, y, z, u]) :
    (results fn tmps).run Tryz.prog w = .ok (.agg #[x, y, z, u]) w := by
  have h0 := hb.cell 0
  have h1 := hb.cell 1
  have h2 := hb.cell 2
  have h3 := hb.cell 3
  simp only [List.getElem?_toArray, List.getElem?_cons_zero, List.getElem?_cons_succ] at h0 h1 h2 h3
  unfold results
  rw [h]
  simp only [List.mapM_toArray, List.mapM_cons, List.mapM_nil, ha]
  go_simp
def OpsEnds (w : World) (e : Ending) (w' : World) : Prop :=
  ∃ g, e = .returned (.agg #[opV 112 g, opV 113 g, opV 114 g, opV 115 g]) ∧ Ext w w' ∧ MulAt w' g
set_option maxRecDepth 100000 in
set_option maxHeartbeats 2000000 in
theorem fracOps (w : World) : Calls Tryz.prog 69 #[] w (OpsEnds w) := by
  go_enter Tryz.func69, Tryz.ntmps69
  go_wp2_with fail
  refine bodyPost_ret (results_op4 rfl _ _ w.heap.size _ _ _ _ rfl ((Blk.new w _ _).alloc _)) rfl ⟨w.heap.size + 1, rfl, (Ext.new _ _).alloc _, Blk.newAt _ _ _ _ (by simp)⟩
set_option maxRecDepth 100000 in
set_option maxHeartbeats 2000000 in
/-- an operation applied to two fractions -/
theorem fracApply (k g : Nat) (hk : ∀ args w, (callFunc k args).run Tryz.prog w = .ok (.enter k args) w) (f h : Fr) (n m : Bs) (h2 : f.den.length ≤ 90000) (h4 : h.den.length ≤ 90000) (hO : OpAt k g f.num (dn f) h.num (dn h) n m) (hn : n.length ≤ 90000) (hm : m.length ≤ 90000) (h0 : valI m ≠ 0)
    (w : World) (hE : Env w) (hM : MulAt w g) :
    Calls Tryz.prog 68 #[opV k g, fv f, fv h] w fun e w' => e = .returned (fv (ofQ (Rat.divInt (valI n) (valI m)))) ∧ Ext w w' := by
  have HE := Lib.hid hE
  have HM := Lib.hid hM
  have HP1 := Lib.hid (fracParts f h2)
  have HP2 := Lib.hid (fracParts h h4)
  have HO := Lib.hid hO
  have HMD := Lib.hid (fracMade n m hn hm h0)
  generalize ofQ (Rat.divInt (valI n) (valI m)) = r at *
  generalize dn f = d1 at *
  generalize dn h = d2 at *
  obtain ⟨n1, e1⟩ := f
  obtain ⟨n2, e2⟩ := h
  clear hE hM hO hn hm h0 h2 h4
  have HB := Lib.hid (Blk.newAt ((w.alloc (.cells #[.string (bs n1), .string (bs e1)] 28)).alloc (.cells #[.string (bs n2), .string (bs e2)] 28)) 28 #[.string ⟨#[]⟩, .string ⟨#[]⟩] (w.heap.size + 1 + 1) (by simp))
  have HB2 := Lib.hid ((Blk.newAt (w.alloc (.cells #[.string (bs n1), .string (bs e1)] 28)) 28 #[.string (bs n2), .string (bs e2)] (w.heap.size + 1) (by simp)).alloc (.cells #[.string ⟨#[]⟩, .string ⟨#[]⟩] 28))
  have HX0 : Hid (Ext w (((w.alloc (.cells #[.string (bs n1), .string (bs e1)] 28)).alloc (.cells #[.string (bs n2), .string (bs e2)] 28)).alloc (.cells #[.string ⟨#[]⟩, .string ⟨#[]⟩] 28))) := Lib.hid (((Ext.new _ _).alloc _).alloc _)
  go_enter Tryz.func68, Tryz.ntmps68
  go_wp2_with fail
  refine (HP1.out _ (HE.out.ext HX0.out)).mono ?_
  rintro e w1 ⟨rfl, hx1⟩
  obtain ⟨q0, q1, _, _⟩ := frBlk HB2.out hx1
  replace HB := Lib.hid (HB.out.ext hx1)
  have HX := Lib.hid (HX0.out.trans hx1)
  clear hx1
  go_wp2_with fail
  refine (HP2.out _ (HE.out.ext HX.out)).mono ?_
  rintro e w2 ⟨rfl, hx1⟩
  replace HB := Lib.hid (HB.out.ext hx1)
  replace HX := Lib.hid (HX.out.trans hx1)
  clear hx1
  go_wp2_with fail
  refine (HO.out _ (HE.out.ext HX.out) (HM.out.ext HX.out)).mono ?_
  rintro e w3 ⟨rfl, hx1⟩
  replace HB := Lib.hid (HB.out.ext hx1)
  replace HX := Lib.hid (HX.out.trans hx1)
  clear hx1
  go_wp2_with fail
  refine (HMD.out _ (HE.out.ext HX.out)).mono ?_
  rintro e w4 ⟨rfl, hx1⟩
  obtain ⟨q0, q1, f0, f1⟩ := frBlk HB.out hx1
  replace HB := Lib.hid (HB.out.ext hx1)
  replace HX := Lib.hid (HX.out.trans hx1)
  clear hx1
  go_wp2_with fail
  refine bodyPost_ret (results_fr rfl _ _ (w.heap.size + 1 + 1) (.string (bs r.num)) (.string (bs r.den)) rfl ((HB.out.set_ 0 _).set_ 1 _)) rfl ?_
  exact ⟨rfl, (HX.out.setCell (p := ⟨w.heap.size + 1 + 1, 0, none⟩) (by show w.heap.size ≤ w.heap.size + 1 + 1; omega) _).setCell (p := ⟨w.heap.size + 1 + 1, 1, none⟩) (by show w.heap.size ≤ w.heap.size + 1 + 1; omega) _⟩
theorem idx4_0 (a b c d : Value) (W : World) : (Instr.index 87 (.agg #[a, b, c, d]) (.int .i64 0)).run Tryz.prog W = .ok a W := by kernel_rfl
set_option maxRecDepth 100000 in
set_option maxHeartbeats 2000000 in
theorem fracAdd (f h : Fr) (h1 : f.num.length ≤ 20000) (h2 : f.den.length ≤ 20000) (h3 : h.num.length ≤ 20000) (h4 : h.den.length ≤ 20000) :
    Pure 32 #[fv f, fv h] (fv (ofQ (frQ f + frQ h))) := by
  intro w hE
  have HE := Lib.hid hE
  have hd1 : (dn f).length ≤ 30000 := dn_len f (by omega) (by omega)
  have hd2 : (dn h).length ≤ 30000 := dn_len h (by omega) (by omega)
  have hden : (ofI (valI (dn f) * valI (dn h))).length ≤ 90000 := by have := mul_len hd1 hd2; omega
  have hnum : (ofI (valI f.num * valI (dn h) + valI h.num * valI (dn f))).length ≤ 90000 := by
    have k1 := mul_lt10 (valI_lt10 (Nat.le_trans h1 (by omega : 20000 ≤ 30000))) (valI_lt10 hd2)
    have k2 := mul_lt10 (valI_lt10 (Nat.le_trans h3 (by omega : 20000 ≤ 30000))) (valI_lt10 hd1)
    rw [← Int.natAbs_mul] at k1 k2
    have := ofI_lt10 (Nat.lt_of_le_of_lt (Int.natAbs_add_le (valI f.num * valI (dn h)) (valI h.num * valI (dn f))) (add_lt10 k1 k2))
    omega
  have HA := Lib.hid (fun g => fracApply 112 g (fun _ _ => by rfl) f h _ _ (by omega) (by omega) (opPlus g f.num (dn f) h.num (dn h) (by omega) hd1 (by omega) hd2) hnum hden (by rw [valI_ofI, valI_dn, valI_dn]; exact Int.mul_ne_zero (frD_ne f) (frD_ne h)))
  have he : Rat.divInt (valI f.num * valI (dn h) + valI h.num * valI (dn f)) (valI (dn f) * valI (dn h)) = frQ f + frQ h := by
    rw [valI_dn, valI_dn]; exact (Rat.divInt_add_divInt _ _ (frD_ne f) (frD_ne h)).symm
  simp only [valI_ofI, he] at HA
  generalize ofQ (frQ f + frQ h) = r at *
  obtain ⟨n1, e1⟩ := f
  obtain ⟨n2, e2⟩ := h
  clear hE hd1 hd2 hden hnum he h1 h2 h3 h4
  have hix := idx4_0
  have hn1 : w.heap.size ≠ w.heap.size + 1 + 1 := by omega
  have hn2 : w.heap.size + 1 + 1 ≠ w.heap.size := by omega
  have hn3 : ¬ (w.heap.size = w.heap.size + 1 + 1) := by omega
  have HB := Lib.hid (Blk.newAt ((w.alloc (.cells #[.string (bs n1), .string (bs e1)] 28)).alloc (.cells #[.string (bs n2), .string (bs e2)] 28)) 28 #[.string ⟨#[]⟩, .string ⟨#[]⟩] (w.heap.size + 1 + 1) (by simp))
  have HB2 := Lib.hid ((Blk.newAt (w.alloc (.cells #[.string (bs n1), .string (bs e1)] 28)) 28 #[.string (bs n2), .string (bs e2)] (w.heap.size + 1) (by simp)).alloc (.cells #[.string ⟨#[]⟩, .string ⟨#[]⟩] 28))
  have HB1 := Lib.hid (((Blk.new w 28 #[.string (bs n1), .string (bs e1)]).alloc (.cells #[.string (bs n2), .string (bs e2)] 28)).alloc (.cells #[.string ⟨#[]⟩, .string ⟨#[]⟩] 28))
  have HX : Hid (Ext w (((w.alloc (.cells #[.string (bs n1), .string (bs e1)] 28)).alloc (.cells #[.string (bs n2), .string (bs e2)] 28)).alloc (.cells #[.string ⟨#[]⟩, .string ⟨#[]⟩] 28))) := Lib.hid (((Ext.new _ _).alloc _).alloc _)
  go_enter Tryz.func32, Tryz.ntmps32
  go_wp2_with fail
  generalize ((w.alloc (.cells #[.string (bs n1), .string (bs e1)] 28)).alloc (.cells #[.string (bs n2), .string (bs e2)] 28)).alloc (.cells #[.string ⟨#[]⟩, .string ⟨#[]⟩] 28) = W0 at *
  obtain ⟨a0, a1, _, _⟩ := frBlk HB1.out (Ext.refl W0)
  obtain ⟨b0, b1, _, _⟩ := frBlk HB2.out (Ext.refl W0)
  obtain ⟨c0, c1, d0, d1⟩ := frBlk HB.out (Ext.refl W0)
  have HD : Hid (Ext W0 W0.drew) := Lib.hid (Ext.refl W0).drew
  go_region_held3 (fun w' => w'.cell? ⟨w.heap.size, 0, none⟩ = some (.string (bs n1)) ∧ w'.cell? ⟨w.heap.size, 1, none⟩ = some (.string (bs e1)) ∧ w'.cell? ⟨w.heap.size + 1, 0, none⟩ = some (.string (bs n2)) ∧ w'.cell? ⟨w.heap.size + 1, 1, none⟩ = some (.string (bs e2)))
    (go_keep)
    (first
      | (go_at_call 69; ((with_reducible refine (fracOps _).mono ?_); rintro e w1 ⟨g, rfl, hx, hm⟩); (replace HD := Lib.hid (HD.out.trans hx)); (have HM := Lib.hid hm); (obtain ⟨a2, a3, _, _⟩ := frBlk HB1.out HD.out); (obtain ⟨b2, b3, _, _⟩ := frBlk HB2.out HD.out); (obtain ⟨c2, c3, d2, d3⟩ := frBlk HB.out HD.out); clear hx hm)
      | (go_at_call 68; ((with_reducible refine (HA.out _ _ (HE.out.ext (HX.out.trans HD.out)) HM.out).mono ?_); rintro e w2 ⟨rfl, hx⟩); (replace HD := Lib.hid (HD.out.trans hx)); (obtain ⟨a2, a3, _, _⟩ := frBlk HB1.out HD.out); (obtain ⟨b2, b3, _, _⟩ := frBlk HB2.out HD.out); (obtain ⟨c2, c3, d2, d3⟩ := frBlk HB.out HD.out); clear hx))
  all_goals
    go_wp2_with fail
    refine bodyPost_ret (results_fr rfl _ _ (w.heap.size + 1 + 1) (.string (bs r.num)) (.string (bs r.den)) rfl (((HB.out.ext HD.out).set_ 0 _).set_ 1 _)) rfl ?_
    exact ⟨rfl, ((HX.out.trans HD.out).setCell (p := ⟨w.heap.size + 1 + 1, 0, none⟩) (by show w.heap.size ≤ w.heap.size + 1 + 1; omega) _).setCell (p := ⟨w.heap.size + 1 + 1, 1, none⟩) (by show w.heap.size ≤ w.heap.size + 1 + 1; omega) _⟩
theorem idx4_1 (a b c d : Value) (W : World) : (Instr.index 87 (.agg #[a, b, c, d]) (.int .i64 1)).run Tryz.prog W = .ok b W := by kernel_rfl
set_option maxRecDepth 100000 in
set_option maxHeartbeats 2000000 in
theorem fracSub (f h : Fr) (h1 : f.num.length ≤ 20000) (h2 : f.den.length ≤ 20000) (h3 : h.num.length ≤ 20000) (h4 : h.den.length ≤ 20000) :
    Pure 26 #[fv f, fv h] (fv (ofQ (frQ f - frQ h))) := by
  intro w hE
  have HE := Lib.hid hE
  have hd1 : (dn f).length ≤ 30000 := dn_len f (by omega) (by omega)
  have hd2 : (dn h).length ≤ 30000 := dn_len h (by omega) (by omega)
  have hden : (ofI (valI (dn f) * valI (dn h))).length ≤ 90000 := by have := mul_len hd1 hd2; omega
  have hnum : (ofI (valI f.num * valI (dn h) - valI h.num * valI (dn f))).length ≤ 90000 := by
    have k1 := mul_lt10 (valI_lt10 (Nat.le_trans h1 (by omega : 20000 ≤ 30000))) (valI_lt10 hd2)
    have k2 := mul_lt10 (valI_lt10 (Nat.le_trans h3 (by omega : 20000 ≤ 30000))) (valI_lt10 hd1)
    rw [← Int.natAbs_mul] at k1 k2
    have := ofI_lt10 (Nat.lt_of_le_of_lt (Int.natAbs_sub_le (valI f.num * valI (dn h)) (valI h.num * valI (dn f))) (add_lt10 k1 k2))
    omega
  have HA := Lib.hid (fun g => fracApply 113 g (fun _ _ => by rfl) f h _ _ (by omega) (by omega) (opMinus g f.num (dn f) h.num (dn h) (by omega) hd1 (by omega) hd2) hnum hden (by rw [valI_ofI, valI_dn, valI_dn]; exact Int.mul_ne_zero (frD_ne f) (frD_ne h)))
  have he : Rat.divInt (valI f.num * valI (dn h) - valI h.num * valI (dn f)) (valI (dn f) * valI (dn h)) = frQ f - frQ h := by
    rw [valI_dn, valI_dn]; exact (Rat.divInt_sub_divInt _ _ (frD_ne f) (frD_ne h)).symm
  simp only [valI_ofI, he] at HA
  generalize ofQ (frQ f - frQ h) = r at *
  obtain ⟨n1, e1⟩ := f
  obtain ⟨n2, e2⟩ := h
  clear hE hd1 hd2 hden hnum he h1 h2 h3 h4
  have hix := idx4_1
  have hn1 : w.heap.size ≠ w.heap.size + 1 + 1 := by omega
  have hn2 : w.heap.size + 1 + 1 ≠ w.heap.size := by omega
  have hn3 : ¬ (w.heap.size = w.heap.size + 1 + 1) := by omega
  have HB := Lib.hid (Blk.newAt ((w.alloc (.cells #[.string (bs n1), .string (bs e1)] 28)).alloc (.cells #[.string (bs n2), .string (bs e2)] 28)) 28 #[.string ⟨#[]⟩, .string ⟨#[]⟩] (w.heap.size + 1 + 1) (by simp))
  have HB2 := Lib.hid ((Blk.newAt (w.alloc (.cells #[.string (bs n1), .string (bs e1)] 28)) 28 #[.string (bs n2), .string (bs e2)] (w.heap.size + 1) (by simp)).alloc (.cells #[.string ⟨#[]⟩, .string ⟨#[]⟩] 28))
  have HB1 := Lib.hid (((Blk.new w 28 #[.string (bs n1), .string (bs e1)]).alloc (.cells #[.string (bs n2), .string (bs e2)] 28)).alloc (.cells #[.string ⟨#[]⟩, .string ⟨#[]⟩] 28))
  have HX : Hid (Ext w (((w.alloc (.cells #[.string (bs n1), .string (bs e1)] 28)).alloc (.cells #[.string (bs n2), .string (bs e2)] 28)).alloc (.cells #[.string ⟨#[]⟩, .string ⟨#[]⟩] 28))) := Lib.hid (((Ext.new _ _).alloc _).alloc _)
  go_enter Tryz.func26, Tryz.ntmps26
  go_wp2_with fail
  generalize ((w.alloc (.cells #[.string (bs n1), .string (bs e1)] 28)).alloc (.cells #[.string (bs n2), .string (bs e2)] 28)).alloc (.cells #[.string ⟨#[]⟩, .string ⟨#[]⟩] 28) = W0 at *
  obtain ⟨a0, a1, _, _⟩ := frBlk HB1.out (Ext.refl W0)
  obtain ⟨b0, b1, _, _⟩ := frBlk HB2.out (Ext.refl W0)
  obtain ⟨c0, c1, d0, d1⟩ := frBlk HB.out (Ext.refl W0)
  have HD : Hid (Ext W0 W0.drew) := Lib.hid (Ext.refl W0).drew
  go_region_held3 (fun w' => w'.cell? ⟨w.heap.size, 0, none⟩ = some (.string (bs n1)) ∧ w'.cell? ⟨w.heap.size, 1, none⟩ = some (.string (bs e1)) ∧ w'.cell? ⟨w.heap.size + 1, 0, none⟩ = some (.string (bs n2)) ∧ w'.cell? ⟨w.heap.size + 1, 1, none⟩ = some (.string (bs e2)))
    (go_keep)
    (first
      | (go_at_call 69; ((with_reducible refine (fracOps _).mono ?_); rintro e w1 ⟨g, rfl, hx, hm⟩); (replace HD := Lib.hid (HD.out.trans hx)); (have HM := Lib.hid hm); (obtain ⟨a2, a3, _, _⟩ := frBlk HB1.out HD.out); (obtain ⟨b2, b3, _, _⟩ := frBlk HB2.out HD.out); (obtain ⟨c2, c3, d2, d3⟩ := frBlk HB.out HD.out); clear hx hm)
      | (go_at_call 68; ((with_reducible refine (HA.out _ _ (HE.out.ext (HX.out.trans HD.out)) HM.out).mono ?_); rintro e w2 ⟨rfl, hx⟩); (replace HD := Lib.hid (HD.out.trans hx)); (obtain ⟨a2, a3, _, _⟩ := frBlk HB1.out HD.out); (obtain ⟨b2, b3, _, _⟩ := frBlk HB2.out HD.out); (obtain ⟨c2, c3, d2, d3⟩ := frBlk HB.out HD.out); clear hx))
  all_goals
    go_wp2_with fail
    refine bodyPost_ret (results_fr rfl _ _ (w.heap.size + 1 + 1) (.string (bs r.num)) (.string (bs r.den)) rfl (((HB.out.ext HD.out).set_ 0 _).set_ 1 _)) rfl ?_
    exact ⟨rfl, ((HX.out.trans HD.out).setCell (p := ⟨w.heap.size + 1 + 1, 0, none⟩) (by show w.heap.size ≤ w.heap.size + 1 + 1; omega) _).setCell (p := ⟨w.heap.size + 1 + 1, 1, none⟩) (by show w.heap.size ≤ w.heap.size + 1 + 1; omega) _⟩
theorem idx4_2 (a b c d : Value) (W : World) : (Instr.index 87 (.agg #[a, b, c, d]) (.int .i64 2)).run Tryz.prog W = .ok c W := by kernel_rfl
set_option maxRecDepth 100000 in
set_option maxHeartbeats 2000000 in
theorem fracMul (f h : Fr) (h1 : f.num.length ≤ 20000) (h2 : f.den.length ≤ 20000) (h3 : h.num.length ≤ 20000) (h4 : h.den.length ≤ 20000) :
    Pure 28 #[fv f, fv h] (fv (ofQ (frQ f * frQ h))) := by
  intro w hE
  have HE := Lib.hid hE
  have hd1 : (dn f).length ≤ 30000 := dn_len f (by omega) (by omega)
  have hd2 : (dn h).length ≤ 30000 := dn_len h (by omega) (by omega)
  have hden : (ofI (valI (dn f) * valI (dn h))).length ≤ 90000 := by have := mul_len hd1 hd2; omega
  have hnum : (ofI (valI f.num * valI h.num)).length ≤ 90000 := by have := mul_len h1 h3; omega
  have HA := Lib.hid (fun g => fracApply 114 g (fun _ _ => by rfl) f h _ _ (by omega) (by omega) (opTimes g f.num (dn f) h.num (dn h) (by omega) hd1 (by omega) hd2) hnum hden (by rw [valI_ofI, valI_dn, valI_dn]; exact Int.mul_ne_zero (frD_ne f) (frD_ne h)))
  have he : Rat.divInt (valI f.num * valI h.num) (valI (dn f) * valI (dn h)) = frQ f * frQ h := by
    rw [valI_dn, valI_dn]; exact (Rat.divInt_mul_divInt _ _).symm
  simp only [valI_ofI, he] at HA
  generalize ofQ (frQ f * frQ h) = r at *
  obtain ⟨n1, e1⟩ := f
  obtain ⟨n2, e2⟩ := h
  clear hE hd1 hd2 hden hnum he h1 h2 h3 h4
  have hix := idx4_2
  have hn1 : w.heap.size ≠ w.heap.size + 1 + 1 := by omega
  have hn2 : w.heap.size + 1 + 1 ≠ w.heap.size := by omega
  have hn3 : ¬ (w.heap.size = w.heap.size + 1 + 1) := by omega
  have HB := Lib.hid (Blk.newAt ((w.alloc (.cells #[.string (bs n1), .string (bs e1)] 28)).alloc (.cells #[.string (bs n2), .string (bs e2)] 28)) 28 #[.string ⟨#[]⟩, .string ⟨#[]⟩] (w.heap.size + 1 + 1) (by simp))
  have HB2 := Lib.hid ((Blk.newAt (w.alloc (.cells #[.string (bs n1), .string (bs e1)] 28)) 28 #[.string (bs n2), .string (bs e2)] (w.heap.size + 1) (by simp)).alloc (.cells #[.string ⟨#[]⟩, .string ⟨#[]⟩] 28))
  have HB1 := Lib.hid (((Blk.new w 28 #[.string (bs n1), .string (bs e1)]).alloc (.cells #[.string (bs n2), .string (bs e2)] 28)).alloc (.cells #[.string ⟨#[]⟩, .string ⟨#[]⟩] 28))
  have HX : Hid (Ext w (((w.alloc (.cells #[.string (bs n1), .string (bs e1)] 28)).alloc (.cells #[.string (bs n2), .string (bs e2)] 28)).alloc (.cells #[.string ⟨#[]⟩, .string ⟨#[]⟩] 28))) := Lib.hid (((Ext.new _ _).alloc _).alloc _)
  go_enter Tryz.func28, Tryz.ntmps28
  go_wp2_with fail
  generalize ((w.alloc (.cells #[.string (bs n1), .string (bs e1)] 28)).alloc (.cells #[.string (bs n2), .string (bs e2)] 28)).alloc (.cells #[.string ⟨#[]⟩, .string ⟨#[]⟩] 28) = W0 at *
  obtain ⟨a0, a1, _, _⟩ := frBlk HB1.out (Ext.refl W0)
  obtain ⟨b0, b1, _, _⟩ := frBlk HB2.out (Ext.refl W0)
  obtain ⟨c0, c1, d0, d1⟩ := frBlk HB.out (Ext.refl W0)
  have HD : Hid (Ext W0 W0.drew) := Lib.hid (Ext.refl W0).drew
  go_region_held3 (fun w' => w'.cell? ⟨w.heap.size, 0, none⟩ = some (.string (bs n1)) ∧ w'.cell? ⟨w.heap.size, 1, none⟩ = some (.string (bs e1)) ∧ w'.cell? ⟨w.heap.size + 1, 0, none⟩ = some (.string (bs n2)) ∧ w'.cell? ⟨w.heap.size + 1, 1, none⟩ = some (.string (bs e2)))
    (go_keep)
    (first
      | (go_at_call 69; ((with_reducible refine (fracOps _).mono ?_); rintro e w1 ⟨g, rfl, hx, hm⟩); (replace HD := Lib.hid (HD.out.trans hx)); (have HM := Lib.hid hm); (obtain ⟨a2, a3, _, _⟩ := frBlk HB1.out HD.out); (obtain ⟨b2, b3, _, _⟩ := frBlk HB2.out HD.out); (obtain ⟨c2, c3, d2, d3⟩ := frBlk HB.out HD.out); clear hx hm)
      | (go_at_call 68; ((with_reducible refine (HA.out _ _ (HE.out.ext (HX.out.trans HD.out)) HM.out).mono ?_); rintro e w2 ⟨rfl, hx⟩); (replace HD := Lib.hid (HD.out.trans hx)); (obtain ⟨a2, a3, _, _⟩ := frBlk HB1.out HD.out); (obtain ⟨b2, b3, _, _⟩ := frBlk HB2.out HD.out); (obtain ⟨c2, c3, d2, d3⟩ := frBlk HB.out HD.out); clear hx))
  all_goals
    go_wp2_with fail
    refine bodyPost_ret (results_fr rfl _ _ (w.heap.size + 1 + 1) (.string (bs r.num)) (.string (bs r.den)) rfl (((HB.out.ext HD.out).set_ 0 _).set_ 1 _)) rfl ?_
    exact ⟨rfl, ((HX.out.trans HD.out).setCell (p := ⟨w.heap.size + 1 + 1, 0, none⟩) (by show w.heap.size ≤ w.heap.size + 1 + 1; omega) _).setCell (p := ⟨w.heap.size + 1 + 1, 1, none⟩) (by show w.heap.size ≤ w.heap.size + 1 + 1; omega) _⟩
set_option maxRecDepth 100000 in
set_option maxHeartbeats 2000000 in
theorem fracCmp (f h : Fr) (h1 : f.num.length ≤ 20000) (h2 : f.den.length ≤ 20000) (h3 : h.num.length ≤ 20000) (h4 : h.den.length ≤ 20000) :
    Pure 30 #[fv f, fv h] (.int .i64 (cmpQ (frQ f) (frQ h))) := by
  intro w hE
  have HE := Lib.hid hE
  have HS := Lib.hid (fracSub f h h1 h2 h3 h4)
  have hq := (frQ_qb h1 h2 (by omega)).sub (frQ_qb h3 h4 (by omega))
  have hl1 := hq.num_len
  have hl2 := hq.den_len
  have HP := Lib.hid (fracParts (ofQ (frQ f - frQ h)) (by omega))
  have HC := Lib.hid (cmp0P (ofQ (frQ f - frQ h)).num (by omega))
  rw [show valI (ofQ (frQ f - frQ h)).num = (frQ f - frQ h).num from frN_ofQ _, cmpQ_num] at HC
  clear hq hl1 hl2
  generalize cmpQ (frQ f) (frQ h) = cc at *
  generalize dn (ofQ (frQ f - frQ h)) = dd at *
  generalize ofQ (frQ f - frQ h) = r at *
  obtain ⟨n1, e1⟩ := f
  obtain ⟨n2, e2⟩ := h
  clear hE h1 h2 h3 h4
  have HX0 : Hid (Ext w ((w.alloc (.cells #[.string (bs n1), .string (bs e1)] 28)).alloc (.cells #[.string (bs n2), .string (bs e2)] 28))) := Lib.hid ((Ext.new _ _).alloc _)
  go_enter Tryz.func30, Tryz.ntmps30
  go_wp2_with fail
  refine (HS.out _ (HE.out.ext HX0.out)).mono ?_
  rintro e w1 ⟨rfl, hx1⟩
  have HX := Lib.hid (HX0.out.trans hx1)
  clear hx1
  go_wp2_with fail
  refine (HP.out _ (HE.out.ext HX.out)).mono ?_
  rintro e w2 ⟨rfl, hx1⟩
  replace HX := Lib.hid (HX.out.trans hx1)
  clear hx1
  go_wp2_with fail
  refine (HC.out _ (HE.out.ext HX.out)).mono ?_
  rintro e w3 ⟨rfl, hx1⟩
  replace HX := Lib.hid (HX.out.trans hx1)
  clear hx1
  go_wp2_with fail
  go_ret
  exact ⟨rfl, HX.out⟩
end Go.Proofs.YtikehdbkiplleaaGreatDoor

/- Plain: rounding to the nearest integer, ties to the even one. No program in sight. -/
namespace Go.Proofs.YtikehdbkiplleaaGreatDoor
open Go.RowKit

/-- rounded to the nearest integer, ties to the even one -/
def roundQ (q : Rat) : Int :=
  let lo := q.num / (q.den : Int)
  let re := q.num % (q.den : Int)
  if 2 * re < q.den then lo else if 2 * re = q.den then (if lo % 2 = 0 then lo else lo + 1) else lo + 1
theorem roundQ_cases (q : Rat) : let lo := q.num / (q.den : Int); let re := q.num % (q.den : Int)
    (re + re < q.den → roundQ q = lo) ∧ (re + re = q.den → lo % 2 = 0 → roundQ q = lo) ∧ (re + re = q.den → lo % 2 ≠ 0 → roundQ q = lo + 1) ∧ ((q.den : Int) < re + re → roundQ q = lo + 1) := by
  simp only
  unfold roundQ
  simp only
  refine ⟨fun h => ?_, fun h h2 => ?_, fun h h2 => ?_, fun h => ?_⟩
  · rw [if_pos (by omega)]
  · rw [if_neg (by omega), if_pos (by omega), if_pos h2]
  · rw [if_neg (by omega), if_pos (by omega), if_neg h2]
  · rw [if_neg (by omega), if_neg (by omega)]
/-- at most a half away -/
theorem roundQ_near (q : Rat) : q - 1 / 2 ≤ (roundQ q : Rat) ∧ (roundQ q : Rat) ≤ q + 1 / 2 := by
  have hd : (0 : Int) < q.den := by have := q.den_pos; omega
  have h1 := Int.mul_ediv_add_emod q.num (q.den : Int)
  have h2 := Int.emod_nonneg q.num (b := (q.den : Int)) (by omega)
  have h3 := Int.emod_lt_of_pos q.num hd
  have key : (q.num : Int) * 2 - q.den ≤ roundQ q * 2 * q.den ∧ roundQ q * 2 * q.den ≤ q.num * 2 + q.den := by
    unfold roundQ
    simp only
    generalize q.num / (q.den : Int) = lo at *
    generalize q.num % (q.den : Int) = re at *
    generalize (q.den : Int) = d at *
    rw [← h1]
    have e1 : lo * 2 * d = 2 * (d * lo) := by rw [Int.mul_comm d lo, Int.mul_assoc, Int.mul_comm 2 d, ← Int.mul_assoc, Int.mul_comm 2]
    have e2 : (lo + 1) * 2 * d = 2 * (d * lo) + 2 * d := by rw [Int.add_mul, Int.add_mul, e1]; omega
    split
    · rw [e1]; omega
    · split
      · split
        · rw [e1]; omega
        · rw [e2]; omega
      · rw [e2]; omega
  have hq : q = (q.num : Rat) / ((q.den : Int) : Rat) := by
    rw [← Rat.divInt_eq_div, Rat.num_divInt_den]
  have hdR : (0 : Rat) < ((q.den : Int) : Rat) := Rat.intCast_pos.2 hd
  have k1 : ((q.num : Rat)) * 2 - ((q.den : Int) : Rat) ≤ (roundQ q : Rat) * 2 * ((q.den : Int) : Rat) := by
    have := Rat.intCast_le_intCast.2 key.1
    simpa using this
  have k2 : (roundQ q : Rat) * 2 * ((q.den : Int) : Rat) ≤ (q.num : Rat) * 2 + ((q.den : Int) : Rat) := by
    have := Rat.intCast_le_intCast.2 key.2
    simpa using this
  have hm : q * ((q.den : Int) : Rat) = (q.num : Rat) := by
    conv => lhs; lhs; rw [hq]
    exact Rat.div_mul_cancel (by grind)
  generalize (roundQ q : Rat) = r at *
  generalize ((q.den : Int) : Rat) = d at *
  generalize (q.num : Rat) = n at *
  constructor
  · refine Rat.le_of_mul_le_mul_right (c := d) ?_ hdR
    rw [← hm] at k1
    grind
  · refine Rat.le_of_mul_le_mul_right (c := d) ?_ hdR
    rw [← hm] at k2
    grind
theorem roundQ_int (z : Int) : roundQ (z : Rat) = z := by
  unfold roundQ; simp
/-- how large a rounded number is -/
theorem roundQ_abs {q : Rat} {L : Nat} (h : QB L q) : (roundQ q).natAbs < 10 ^ (L + 1) := by
  have hd : (0 : Int) < q.den := by have := q.den_pos; omega
  have h1 := Int.natAbs_ediv_le_natAbs q.num (q.den : Int)
  have h2 : (roundQ q).natAbs ≤ (q.num / (q.den : Int)).natAbs + 1 := by
    unfold roundQ; simp only
    split
    · omega
    · split
      · split <;> omega
      · omega
  have h3 := h.1
  have h4 : 0 < 10 ^ L := Nat.pow_pos (by decide)
  rw [Nat.pow_succ]; omega
theorem qb_ratio {t p a : Bs} {L : Nat} (h0 : 0 < L) (lt : t.length ≤ L) (lp : p.length ≤ L) (la : a.length ≤ L) : QB (L + L) (Rat.divInt (valI t * valI p) (valI a)) := by
  refine qb_divInt (by omega) ?_ ?_
  · rw [Int.natAbs_mul]; exact mul_lt10 (valI_lt10 lt) (valI_lt10 lp)
  · exact Nat.lt_of_lt_of_le (valI_lt10 la) (Nat.pow_le_pow_right (by decide) (by omega))
theorem round_len {q : Rat} {L : Nat} (h : QB L q) : (ofI (roundQ q)).length ≤ L + 2 := ofI_lt10 (roundQ_abs h)
end Go.Proofs.YtikehdbkiplleaaGreatDoor

/- The walks over the program's rounding to even, and the share of a whole. -/
namespace Go.Proofs.YtikehdbkiplleaaGreatDoor
open Go.RowKit
attribute [local go_sem] size_bs toList_bs

theorem valI_two : valI [50] = 2 := by decide +kernel
set_option maxRecDepth 100000 in
set_option maxHeartbeats 2000000 in
theorem decEven (a : Bs) (ha : a.length ≤ 90000) : Pure 143 #[.string (bs a)] (.bool (decide (valI a % 2 = 0))) := by
  intro w hE
  have HE := Lib.hid hE
  have hd := divP a [50] (by omega) (by simp) (by rw [valI_two]; decide)
  rw [valI_two, modF_pos (by decide)] at hd
  have HD := Lib.hid hd
  have HQ : Hid (decide (valI a % 2 = 0) = (ofI (valI a % 2) == [])) := Lib.hid (by
    rw [Bool.eq_iff_iff, decide_eq_true_iff, beq_iff_eq, ofI_nil])
  rw [HQ.out]
  generalize ofI (valI a % 2) = m at *
  generalize divF (valI a) 2 = q at *
  clear hd hE HQ
  go_enter Tryz.func143, Tryz.ntmps143
  go_wp2_with fail
  refine (HD.out _ HE.out).mono ?_
  rintro e w1 ⟨rfl, hx1⟩
  have HX := Lib.hid hx1
  clear hx1
  go_wp2_with fail
  go_ret
  exact ⟨by cases m <;> rfl, HX.out⟩
set_option maxRecDepth 100000 in
set_option maxHeartbeats 4000000 in
theorem decRound (f : Fr) (h1 : f.num.length ≤ 80000) (h2 : f.den.length ≤ 80000) : Pure 90 #[fv f, .int .i64 1] (.tuple #[.string (bs (ofI (roundQ (frQ f)))), .int .i64 0]) := by
  intro w hE
  have HE := Lib.hid hE
  have HP := Lib.hid (fracPartsR f h1 h2)
  have hq := frQ_qb (L := 80000) h1 h2 (by omega)
  have hn1 := ofI_lt10 hq.1
  have hd1 : (ofI ((frQ f).den : Int)).length ≤ 80000 + 1 := ofI_lt10 (by rw [Int.natAbs_natCast]; exact hq.2)
  have hdp := (frQ f).den_pos
  have hdv := divP (ofI (frQ f).num) (ofI ((frQ f).den : Int)) (by omega) (by omega) (by rw [valI_ofI]; omega)
  rw [valI_ofI, valI_ofI, divF_pos (by omega), modF_pos (by omega)] at hdv
  have HD := Lib.hid hdv
  have hfl : (ofI ((frQ f).num / ((frQ f).den : Int))).length ≤ 80001 := ofI_lt10 (Nat.lt_of_le_of_lt (Int.natAbs_ediv_le_natAbs _ _) hq.1)
  have hrl : (ofI ((frQ f).num % ((frQ f).den : Int))).length ≤ 80001 := ofI_lt10 (by
    have a := Int.emod_nonneg (frQ f).num (b := ((frQ f).den : Int)) (by omega)
    have b := Int.emod_lt_of_pos (frQ f).num (b := ((frQ f).den : Int)) (by omega)
    have := hq.2
    omega)
  have ha1 := addP (ofI ((frQ f).num / ((frQ f).den : Int))) [49] (by omega) (by simp)
  rw [valI_ofI, valI_one] at ha1
  have HA1 := Lib.hid ha1
  have ha2 := addP (ofI ((frQ f).num % ((frQ f).den : Int))) (ofI ((frQ f).num % ((frQ f).den : Int))) (by omega) (by omega)
  rw [valI_ofI] at ha2
  have HA2 := Lib.hid ha2
  have hc1 := cmp0P (ofI (frQ f).num) (by omega)
  have HC1 := Lib.hid hc1
  have h2r : (ofI ((frQ f).num % ((frQ f).den : Int) + (frQ f).num % ((frQ f).den : Int))).length ≤ 90000 := by
    have := add_len (x := ofI ((frQ f).num % ((frQ f).den : Int))) (y := ofI ((frQ f).num % ((frQ f).den : Int))) hrl hrl
    rw [valI_ofI] at this; omega
  have hc2 := cmpP (ofI ((frQ f).num % ((frQ f).den : Int) + (frQ f).num % ((frQ f).den : Int))) (ofI ((frQ f).den : Int)) (by omega) (by omega)
  rw [valI_ofI, valI_ofI] at hc2
  have HC2 := Lib.hid hc2
  have he := decEven (ofI ((frQ f).num / ((frQ f).den : Int))) (by omega)
  rw [valI_ofI] at he
  have HEV := Lib.hid he
  have HR := Lib.hid (roundQ_cases (frQ f))
  clear hE hq hn1 hd1 hdv hfl hrl ha1 ha2 hc1 h2r hc2 he h1 h2
  generalize roundQ (frQ f) = z at *
  have hdp0 : (0 : Int) < ((frQ f).den : Int) := by omega
  clear hdp
  generalize ((frQ f).den : Int) = d at *
  generalize (frQ f).num = n at *
  generalize hlo : n / d = lo at *
  have hre1 := Int.emod_nonneg n (b := d) (by omega)
  generalize hre : n % d = re at *
  have hre2 : 0 ≤ re := hre1
  clear hlo hre hre1
  obtain ⟨fn, fd⟩ := f
  have HX0 : Hid (Ext w (w.alloc (.cells #[.string (bs fn), .string (bs fd)] 28))) := Lib.hid (Ext.new _ _)
  have hre0 : (!(ofI re).isEmpty) = !(decide (re = 0)) := by
    by_cases h : re = 0
    · rw [h, ofI_nil.2 rfl]; rfl
    · have : ofI re ≠ [] := fun h' => h (ofI_nil.1 h')
      simp [h, this]
  have HRE := Lib.hid hre0
  clear hre0
  have hdp : 0 < d := hdp0
  go_enter Tryz.func90, Tryz.ntmps90
  go_wp2_with fail
  refine (HP.out _ (HE.out.ext HX0.out)).mono ?_
  rintro e w1 ⟨rfl, hx1⟩
  have HX := Lib.hid (HX0.out.trans hx1)
  clear hx1
  go_wp2_with fail
  refine (HD.out _ (HE.out.ext HX.out)).mono ?_
  rintro e w2 ⟨rfl, hx1⟩
  replace HX := Lib.hid (HX.out.trans hx1)
  clear hx1
  have hcs : 0 ≤ re := hre2
  by_cases hr0 : re = 0
  · have hrb : (!(ofI re).isEmpty) = false := by rw [HRE.out]; simp [hr0]
    have hr1 : re ≤ 0 := by omega
    clear hr0
    have hr0 := hr1
    go_wp2_with fail
    refine (HC1.out _ (HE.out.ext HX.out)).mono ?_
    rintro e w3 ⟨rfl, hx1⟩
    replace HX := Lib.hid (HX.out.trans hx1)
    clear hx1
    go_wp2_with fail
    refine (HA2.out _ (HE.out.ext HX.out)).mono ?_
    rintro e w4 ⟨rfl, hx1⟩
    replace HX := Lib.hid (HX.out.trans hx1)
    clear hx1
    go_wp2_with fail
    refine (HC2.out _ (HE.out.ext HX.out)).mono ?_
    rintro e w5 ⟨rfl, hx1⟩
    replace HX := Lib.hid (HX.out.trans hx1)
    clear hx1
    have g1 : decide (0 < cmpI (re + re) d) = false := by rw [decide_eq_false_iff_not, cmpI_pos]; omega
    have g2 : (cmpI (re + re) d == 0) = false := by rw [beq_eq_false_iff_ne, Ne, cmpI_zero]; omega
    have HZ : Hid (z = lo) := Lib.hid (HR.out.1 (by omega))
    generalize cmpI (re + re) d = hf at *
    clear hdp HRE HR hcs hr0 hr1
    go_wp2_with fail
    go_ret2
    exact ⟨by rw [HZ.out]; rfl, HX.out⟩
  · have hrb : (!(ofI re).isEmpty) = true := by rw [HRE.out]; simp [hr0]
    go_wp2_with fail
    refine (HA1.out _ (HE.out.ext HX.out)).mono ?_
    rintro e w3 ⟨rfl, hx1⟩
    replace HX := Lib.hid (HX.out.trans hx1)
    clear hx1
    go_wp2_with fail
    refine (HC1.out _ (HE.out.ext HX.out)).mono ?_
    rintro e w4 ⟨rfl, hx1⟩
    replace HX := Lib.hid (HX.out.trans hx1)
    clear hx1
    go_wp2_with fail
    refine (HA2.out _ (HE.out.ext HX.out)).mono ?_
    rintro e w5 ⟨rfl, hx1⟩
    replace HX := Lib.hid (HX.out.trans hx1)
    clear hx1
    go_wp2_with fail
    refine (HC2.out _ (HE.out.ext HX.out)).mono ?_
    rintro e w7 ⟨rfl, hx1⟩
    replace HX := Lib.hid (HX.out.trans hx1)
    clear hx1
    rcases Int.lt_trichotomy (re + re) d with hlt | hlt | hlt
    · have g1 : decide (0 < cmpI (re + re) d) = false := by rw [decide_eq_false_iff_not, cmpI_pos]; omega
      have g2 : (cmpI (re + re) d == 0) = false := by rw [beq_eq_false_iff_ne, Ne, cmpI_zero]; omega
      have HZ : Hid (z = lo) := Lib.hid (HR.out.1 (by omega))
      generalize cmpI (re + re) d = hf at *
      clear hdp HRE HR hcs hr0 hlt
      go_wp2_with fail
      go_ret2
      exact ⟨by rw [HZ.out]; rfl, HX.out⟩
    · by_cases hev : lo % 2 = 0
      · have g1 : decide (0 < cmpI (re + re) d) = false := by rw [decide_eq_false_iff_not, cmpI_pos]; omega
        have g2 : (cmpI (re + re) d == 0) = true := by rw [beq_iff_eq, cmpI_zero]; omega
        have g3 : decide (lo % 2 = 0) = true := by rw [decide_eq_true_iff]; exact hev
        have HZ : Hid (z = lo) := Lib.hid (HR.out.2.1 (by omega) hev)
        rw [g3] at HEV
        generalize cmpI (re + re) d = hf at *
        clear hdp HRE HR hcs hev g3 hr0 hlt
        go_wp2_with fail
        refine (HEV.out _ (HE.out.ext HX.out)).mono ?_
        rintro e w6 ⟨rfl, hx1⟩
        replace HX := Lib.hid (HX.out.trans hx1)
        clear hx1
        go_wp2_with fail
        go_ret2
        exact ⟨by rw [HZ.out]; rfl, HX.out⟩
      · have g1 : decide (0 < cmpI (re + re) d) = false := by rw [decide_eq_false_iff_not, cmpI_pos]; omega
        have g2 : (cmpI (re + re) d == 0) = true := by rw [beq_iff_eq, cmpI_zero]; omega
        have g3 : decide (lo % 2 = 0) = false := by rw [decide_eq_false_iff_not]; exact hev
        have HZ : Hid (z = lo + 1) := Lib.hid (HR.out.2.2.1 (by omega) hev)
        rw [g3] at HEV
        generalize cmpI (re + re) d = hf at *
        clear hdp HRE HR hcs hev g3 hr0 hlt
        go_wp2_with fail
        refine (HEV.out _ (HE.out.ext HX.out)).mono ?_
        rintro e w6 ⟨rfl, hx1⟩
        replace HX := Lib.hid (HX.out.trans hx1)
        clear hx1
        go_wp2_with fail
        go_ret2
        exact ⟨by rw [HZ.out]; rfl, HX.out⟩
    · have g1 : decide (0 < cmpI (re + re) d) = true := by rw [decide_eq_true_iff, cmpI_pos]; omega
      have HZ : Hid (z = lo + 1) := Lib.hid (HR.out.2.2.2 (by omega))
      generalize cmpI (re + re) d = hf at *
      clear hdp HRE HR hcs hr0 hlt
      go_wp2_with fail
      go_ret2
      exact ⟨by rw [HZ.out]; rfl, HX.out⟩
theorem allNeg (a : Bs) (ha : a.length ≤ 90000) : Pure 88 #[.string (bs a)] (.bool (decide (valI a < 0))) := by
  intro w hE
  have HE := Lib.hid hE
  have HC := Lib.hid (cmp0P a (by omega))
  have HQ : Hid (decide (valI a < 0) = decide (cmpI (valI a) 0 < 0)) := Lib.hid (by rw [Bool.eq_iff_iff, decide_eq_true_iff, decide_eq_true_iff, cmpI_neg])
  rw [HQ.out]
  generalize cmpI (valI a) 0 = cc at *
  clear hE HQ
  go_enter Tryz.func88, Tryz.ntmps88
  go_wp2_with fail
  refine (HC.out _ HE.out).mono ?_
  rintro e w1 ⟨rfl, hx1⟩
  have HX := Lib.hid hx1
  clear hx1
  go_wp2_with fail
  go_ret
  exact ⟨rfl, HX.out⟩
end Go.Proofs.YtikehdbkiplleaaGreatDoor

/- The walks over the program's Share (what it does for valid numbers), and Small. -/
namespace Go.Proofs.YtikehdbkiplleaaGreatDoor
open Go.RowKit Go.Shelf
attribute [local go_sem] size_bs toList_bs

/-- the share of a part of a whole -/
def shareZ (t p a : Int) : Int := roundQ (Rat.divInt (t * p) a)
set_option maxRecDepth 100000 in
set_option maxHeartbeats 4000000 in
theorem allShare (t p a : Bs) (lt : t.length ≤ 20000) (lp : p.length ≤ 20000) (la : a.length ≤ 20000) (ht : checkI t = 0) (hp : checkI p = 0) (ha : checkI a = 0) (h0 : 0 < valI a) (h1 : 0 ≤ valI p) (h2 : valI p ≤ valI a) :
    Pure 53 #[.string (bs t), .string (bs p), .string (bs a)] (.tuple #[.string (bs (ofI (shareZ (valI t) (valI p) (valI a)))), .string (bs (ofI (valI t - shareZ (valI t) (valI p) (valI a)))), .int .i64 0]) := by
  intro w hE
  have HE := Lib.hid hE
  have k1 := checkP t (by omega)
  have k2 := checkP p (by omega)
  have k3 := checkP a (by omega)
  rw [ht] at k1
  rw [hp] at k2
  rw [ha] at k3
  have n1 := allNeg a (by omega)
  have n2 := allNeg p (by omega)
  rw [show decide (valI a < 0) = false by rw [decide_eq_false_iff_not]; omega] at n1
  rw [show decide (valI p < 0) = false by rw [decide_eq_false_iff_not]; omega] at n2
  have c1 := cmpP p a (by omega) (by omega)
  have g1 : decide (0 < cmpI (valI p) (valI a)) = false := by rw [decide_eq_false_iff_not, cmpI_pos]; omega
  have g2 : a.isEmpty = false := by
    cases a with
    | nil => rw [valI_nil] at h0; omega
    | cons _ _ => rfl
  have m1 := mulP t p (by omega) (by omega)
  have hml := mul_len lt lp
  have f1 := fracNew (ofI (valI t * valI p)) a (by omega) (by omega) (by omega)
  rw [valI_ofI] at f1
  have hqb := qb_ratio (by omega) lt lp la
  have r1 := decRound (ofQ (Rat.divInt (valI t * valI p) (valI a))) (by have := hqb.num_len; omega) (by have := hqb.den_len; omega)
  rw [frQ_ofQ, show roundQ (Rat.divInt (valI t * valI p) (valI a)) = shareZ (valI t) (valI p) (valI a) from rfl] at r1
  have hsl : (ofI (shareZ (valI t) (valI p) (valI a))).length ≤ 90000 := by
    have := round_len hqb
    exact Nat.le_trans this (by omega)
  have s1 := subP t (ofI (shareZ (valI t) (valI p) (valI a))) (by omega) (by omega)
  rw [valI_ofI] at s1
  have K1 := Lib.hid k1
  have K2 := Lib.hid k2
  have K3 := Lib.hid k3
  have N1 := Lib.hid n1
  have N2 := Lib.hid n2
  have C1 := Lib.hid c1
  have M1 := Lib.hid m1
  have F1 := Lib.hid f1
  have R1 := Lib.hid r1
  have S1 := Lib.hid s1
  clear k1 k2 k3 n1 n2 c1 m1 f1 r1 s1 hsl hqb hml hE ht hp ha h0 h1 h2 lt lp la
  generalize ofI (valI t - shareZ (valI t) (valI p) (valI a)) = z2 at *
  generalize ofI (shareZ (valI t) (valI p) (valI a)) = z1 at *
  generalize ofQ (Rat.divInt (valI t * valI p) (valI a)) = fr at *
  generalize ofI (valI t * valI p) = mm at *
  generalize cmpI (valI p) (valI a) = cc at *
  have HX : Hid (Ext w w) := Lib.hid (Ext.refl w)
  go_enter Tryz.func53, Tryz.ntmps53
  go_wp2_with fail
  refine (K1.out _ (HE.out.ext HX.out)).mono ?_
  rintro e w1 ⟨rfl, hx1⟩
  replace HX := Lib.hid (HX.out.trans hx1)
  clear hx1
  go_wp2_with fail
  refine (K2.out _ (HE.out.ext HX.out)).mono ?_
  rintro e w2 ⟨rfl, hx1⟩
  replace HX := Lib.hid (HX.out.trans hx1)
  clear hx1
  go_wp2_with fail
  refine (K3.out _ (HE.out.ext HX.out)).mono ?_
  rintro e w3 ⟨rfl, hx1⟩
  replace HX := Lib.hid (HX.out.trans hx1)
  clear hx1
  go_wp2_with fail
  refine (N1.out _ (HE.out.ext HX.out)).mono ?_
  rintro e w4 ⟨rfl, hx1⟩
  replace HX := Lib.hid (HX.out.trans hx1)
  clear hx1
  go_wp2_with fail
  refine (N2.out _ (HE.out.ext HX.out)).mono ?_
  rintro e w5 ⟨rfl, hx1⟩
  replace HX := Lib.hid (HX.out.trans hx1)
  clear hx1
  go_wp2_with fail
  refine (C1.out _ (HE.out.ext HX.out)).mono ?_
  rintro e w6 ⟨rfl, hx1⟩
  replace HX := Lib.hid (HX.out.trans hx1)
  clear hx1
  go_wp2_with fail
  refine (M1.out _ (HE.out.ext HX.out)).mono ?_
  rintro e w7 ⟨rfl, hx1⟩
  replace HX := Lib.hid (HX.out.trans hx1)
  clear hx1
  go_wp2_with fail
  refine (F1.out _ (HE.out.ext HX.out)).mono ?_
  rintro e w8 ⟨rfl, hx1⟩
  replace HX := Lib.hid (HX.out.trans hx1)
  clear hx1
  go_wp2_with fail
  have HXN : Hid (Ext w8 (w8.alloc (.cells #[.string (bs fr.num), .string (bs fr.den)] 28))) := Lib.hid (Ext.new _ _)
  refine (R1.out _ (HE.out.ext (HX.out.trans HXN.out))).mono ?_
  rintro e w9 ⟨rfl, hx1⟩
  replace HX := Lib.hid ((HX.out.trans HXN.out).trans hx1)
  clear hx1
  go_wp2_with fail
  refine (S1.out _ (HE.out.ext HX.out)).mono ?_
  rintro e w10 ⟨rfl, hx1⟩
  replace HX := Lib.hid (HX.out.trans hx1)
  clear hx1
  go_wp2_with fail
  go_ret3
  exact ⟨rfl, HX.out⟩
end Go.Proofs.YtikehdbkiplleaaGreatDoor

/- The walks over the program's averages: check, price, Price, Take, After. -/
namespace Go.Proofs.YtikehdbkiplleaaGreatDoor
open Go.RowKit Go.Shelf
attribute [local go_sem] size_bs toList_bs

/-- lots that lie in memory, of the sizes that the walks bear -/
structure LotsAt (w : World) (A : Option Addr) (ls : List LotV) : Prop where
  rd : RdL w A ls
  sm : ∀ x ∈ ls, SmallL x
  le : ls.length ≤ 100000
theorem LotsAt.ext {w w' : World} {A : Option Addr} {ls : List LotV} (h : LotsAt w A ls) (hx : Ext w w') : LotsAt w' A ls := ⟨h.rd.ext hx, h.sm, h.le⟩
set_option maxRecDepth 100000 in
theorem avgCheck1 (a : Bs) (ha : a.length ≤ 90000) (W : World) (hE : Env W) : Calls Tryz.prog 86 #[.string (bs a)] W fun e w' => e = .returned (.bool (checkI a != 0)) ∧ Ext W w' := by
  have HC := Lib.hid (checkP a (by omega))
  have HE := Lib.hid hE
  generalize checkI a = k at *
  clear hE
  go_enter Tryz.func86, Tryz.ntmps86
  go_wp2_with fail
  refine (HC.out _ HE.out).mono ?_
  rintro e w1 ⟨rfl, hx1⟩
  have HX := Lib.hid hx1
  clear hx1
  go_wp2_with fail
  go_ret
  exact ⟨rfl, HX.out⟩
/-- why lots or numbers are not valid -/
def avgE (ls : List LotV) (ns : List Bs) : Int := if checkAllL ls ≠ 0 then 1 else if ns.any (fun a => checkI a != 0) then 1 else 0
set_option maxRecDepth 100000 in
set_option maxHeartbeats 2000000 in
theorem avgCheck (ls : List LotV) (A A' : Option Addr) (c c' : Nat) (ns : List Bs) (w : World) (hE : Env w) (hL : LotsAt w A ls) (hN : RdS w A' ns) (hns : ∀ a ∈ ns, a.length ≤ 90000) (hnl : ns.length ≤ 1000) :
    Calls Tryz.prog 49 #[.slice A ls.length c, .slice A' ns.length c'] w fun e w' => e = .returned (.int .i64 (avgE ls ns)) ∧ Ext w w' := by
  have HE := Lib.hid hE
  have HCA := Lib.hid (fun W hx => lotCheckAll ls A c W (hE.ext hx) (hL.rd.ext hx) hL.sm hL.le)
  have HCF := Lib.hid (fun W hx => contFuncI 86 #[] (fun _ _ => by rfl) (fun a => checkI a != 0) ns A' c' W (hN.ext hx) (by omega) (fun a ha V hv => avgCheck1 a (hns a ha) V ((hE.ext hx).ext hv)))
  have HV1 : Hid (checkAllL ls ≠ 0 → avgE ls ns = 1) := Lib.hid (fun h => by unfold avgE; rw [if_pos h])
  have HV2 : Hid (checkAllL ls = 0 → avgE ls ns = if ns.any (fun a => checkI a != 0) then 1 else 0) := Lib.hid (fun h => by unfold avgE; rw [if_neg (by simpa using h)])
  generalize avgE ls ns = r at *
  generalize ns.any (fun a => checkI a != 0) = b at *
  clear hE hL hN hns
  go_enter Tryz.func49, Tryz.ntmps49
  go_wp2_with fail
  refine (HCA.out _ (Ext.refl w)).mono ?_
  rintro e w1 ⟨rfl, hx1⟩
  have HX := Lib.hid hx1
  clear hx1
  by_cases h0 : checkAllL ls = 0
  · rw [h0]
    have HR := Lib.hid (HV2.out h0)
    clear h0 HV1 HV2
    go_wp2_with fail
    refine (HCF.out _ HX.out).mono ?_
    rintro e w2 ⟨rfl, hx1⟩
    replace HX := Lib.hid (HX.out.trans hx1)
    clear hx1
    cases b
    · have HR1 : Hid (r = 0) := Lib.hid (by rw [HR.out]; rfl)
      clear HR
      go_wp2_with fail
      go_ret
      exact ⟨by rw [HR1.out]; rfl, HX.out⟩
    · have HR1 : Hid (r = 1) := Lib.hid (by rw [HR.out]; rfl)
      clear HR
      go_wp2_with fail
      go_ret
      exact ⟨by rw [HR1.out]; rfl, HX.out⟩
  · have g : (checkAllL ls != 0) = true := by rw [bne_iff_ne]; exact h0
    have HR := Lib.hid (HV1.out h0)
    generalize checkAllL ls = k at *
    clear h0 HV1 HV2
    go_wp2_with fail
    go_ret
    exact ⟨by rw [HR.out]; rfl, HX.out⟩
/-- the average of an instrument -/
def prV (ls : List LotV) (ins : Bs) : Fr × Int := if totQ ls ins = 0 then (⟨[], []⟩, 6) else (ofQ (Rat.divInt (totC ls ins) (totQ ls ins)), 0)
theorem totQ_le {w : World} {A : Option Addr} {ls : List LotV} (h : LotsAt w A ls) (ins : Bs) : (ofI (totQ ls ins)).length ≤ 2000 := by
  have := totQ_len ins ls.length h.sm h.le
  rwa [List.take_length] at this
theorem totC_le {w : World} {A : Option Addr} {ls : List LotV} (h : LotsAt w A ls) (ins : Bs) : (ofI (totC ls ins)).length ≤ 2000 := by
  have := totC_len ins ls.length h.sm h.le
  rwa [List.take_length] at this
end Go.Proofs.YtikehdbkiplleaaGreatDoor

/- The walks over the program's averages: price, Price, Take, After. -/
namespace Go.Proofs.YtikehdbkiplleaaGreatDoor
open Go.RowKit Go.Shelf
attribute [local go_sem] size_bs toList_bs

set_option maxRecDepth 100000 in
set_option maxHeartbeats 2000000 in
theorem avgprice (ls : List LotV) (A : Option Addr) (c : Nat) (ins : Bs) (w : World) (hE : Env w) (hL : LotsAt w A ls) :
    Calls Tryz.prog 50 #[.slice A ls.length c, .string (bs ins)] w fun e w' => e = .returned (.tuple #[fv (prV ls ins).1, .int .i64 (prV ls ins).2]) ∧ Ext w w' := by
  have HE := Lib.hid hE
  have HT := Lib.hid (fun W hx => lotTotal ls A c ins W (hE.ext hx) (hL.rd.ext hx) hL.sm hL.le)
  have hl1 := totQ_le hL ins
  have hl2 := totC_le hL ins
  have HB := Lib.hid (Blk.new w 28 #[.string ⟨#[]⟩, .string ⟨#[]⟩])
  have HX : Hid (Ext w (w.alloc (.cells #[.string ⟨#[]⟩, .string ⟨#[]⟩] 28))) := Lib.hid (Ext.new _ _)
  clear hE hL
  by_cases h0 : totQ ls ins = 0
  · have HV : Hid (prV ls ins = (⟨[], []⟩, 6)) := Lib.hid (by unfold prV; rw [if_pos h0])
    rw [HV.out]
    have hN := fracNew_zero (ofI (totC ls ins)) (ofI (totQ ls ins)) (by omega) (by rw [valI_ofI]; exact h0)
    obtain ⟨r, hr⟩ : ∃ r : Fr, (⟨[], []⟩ : Fr) = r := ⟨_, rfl⟩
    have HN : Hid (Pure 46 #[.string (bs (ofI (totC ls ins))), .string (bs (ofI (totQ ls ins)))] (.tuple #[fv r, .int .i64 10])) := Lib.hid (by rw [← hr]; exact hN)
    clear h0 hN hr hl1 hl2
    generalize ofI (totQ ls ins) = q at *
    generalize ofI (totC ls ins) = cc at *
    go_enter Tryz.func50, Tryz.ntmps50
    go_wp2_with fail
    refine (HT.out _ HX.out).mono ?_
    rintro e w1 ⟨rfl, hx1⟩
    replace HB := Lib.hid (HB.out.ext hx1)
    replace HX := Lib.hid (HX.out.trans hx1)
    clear hx1
    go_wp2_with fail
    refine (HN.out _ (HE.out.ext HX.out)).mono ?_
    rintro e w2 ⟨rfl, hx1⟩
    replace HB := Lib.hid (HB.out.ext hx1)
    replace HX := Lib.hid (HX.out.trans hx1)
    clear hx1
    have HXN : Hid (Ext w2 (w2.alloc (.cells #[.string (bs r.num), .string (bs r.den)] 28))) := Lib.hid (Ext.new _ _)
    obtain ⟨q0, q1, f0, f1⟩ := frBlk HB.out HXN.out
    replace HX := Lib.hid (HX.out.trans HXN.out)
    replace HB := Lib.hid (HB.out.ext HXN.out)
    go_wp2_with fail
    refine bodyPost_ret (results_fr2 rfl _ _ w.heap.size (.string ⟨#[]⟩) (.string ⟨#[]⟩) (.int .i64 6) rfl rfl ((HB.out.set_ 0 _).set_ 1 _)) rfl ?_
    exact ⟨rfl, (HX.out.setCell (p := ⟨w.heap.size, 0, none⟩) (Nat.le_refl _) _).setCell (p := ⟨w.heap.size, 1, none⟩) (Nat.le_refl _) _⟩
  · have HV : Hid (prV ls ins = (ofQ (Rat.divInt (totC ls ins) (totQ ls ins)), 0)) := Lib.hid (by unfold prV; rw [if_neg h0])
    rw [HV.out]
    have hN := fracNew (ofI (totC ls ins)) (ofI (totQ ls ins)) (by omega) (by omega) (by rw [valI_ofI]; exact h0)
    rw [valI_ofI, valI_ofI] at hN
    have HN := Lib.hid hN
    clear h0 hN hl1 hl2 HV
    generalize ofQ (Rat.divInt (totC ls ins) (totQ ls ins)) = r at *
    generalize ofI (totQ ls ins) = q at *
    generalize ofI (totC ls ins) = cc at *
    go_enter Tryz.func50, Tryz.ntmps50
    go_wp2_with fail
    refine (HT.out _ HX.out).mono ?_
    rintro e w1 ⟨rfl, hx1⟩
    replace HB := Lib.hid (HB.out.ext hx1)
    replace HX := Lib.hid (HX.out.trans hx1)
    clear hx1
    go_wp2_with fail
    refine (HN.out _ (HE.out.ext HX.out)).mono ?_
    rintro e w2 ⟨rfl, hx1⟩
    replace HB := Lib.hid (HB.out.ext hx1)
    replace HX := Lib.hid (HX.out.trans hx1)
    clear hx1
    have HXN : Hid (Ext w2 (w2.alloc (.cells #[.string (bs r.num), .string (bs r.den)] 28))) := Lib.hid (Ext.new _ _)
    obtain ⟨q0, q1, f0, f1⟩ := frBlk HB.out HXN.out
    replace HX := Lib.hid (HX.out.trans HXN.out)
    replace HB := Lib.hid (HB.out.ext HXN.out)
    go_wp2_with fail
    refine bodyPost_ret (results_fr2 rfl _ _ w.heap.size (.string (bs r.num)) (.string (bs r.den)) (.int .i64 0) rfl rfl ((HB.out.set_ 0 _).set_ 1 _)) rfl ?_
    exact ⟨rfl, (HX.out.setCell (p := ⟨w.heap.size, 0, none⟩) (Nat.le_refl _) _).setCell (p := ⟨w.heap.size, 1, none⟩) (Nat.le_refl _) _⟩
def priceV (ls : List LotV) (ins : Bs) : Fr × Int := if avgE ls [] ≠ 0 then (⟨[], []⟩, avgE ls []) else prV ls ins
set_option maxRecDepth 100000 in
set_option maxHeartbeats 2000000 in
theorem avgPrice (ls : List LotV) (A : Option Addr) (c : Nat) (ins : Bs) (w : World) (hE : Env w) (hL : LotsAt w A ls) :
    Calls Tryz.prog 13 #[.slice A ls.length c, .string (bs ins)] w fun e w' => e = .returned (.tuple #[fv (priceV ls ins).1, .int .i64 (priceV ls ins).2]) ∧ Ext w w' := by
  have HE := Lib.hid hE
  have HK := Lib.hid (fun W hx => avgCheck ls A none c 0 [] W (hE.ext hx) (hL.ext hx) Reads.nil (by simp) (by simp))
  have HP := Lib.hid (fun W hx => avgprice ls A c ins W (hE.ext hx) (hL.ext hx))
  have HB := Lib.hid (Blk.new w 28 #[.string ⟨#[]⟩, .string ⟨#[]⟩])
  have HX : Hid (Ext w (w.alloc (.cells #[.string ⟨#[]⟩, .string ⟨#[]⟩] 28))) := Lib.hid (Ext.new _ _)
  clear hE hL
  by_cases h0 : avgE ls [] = 0
  · have HV : Hid (priceV ls ins = prV ls ins) := Lib.hid (by unfold priceV; rw [if_neg (by simpa using h0)])
    rw [HV.out]
    rw [h0] at HK
    clear h0 HV
    generalize (prV ls ins).1 = r at *
    generalize (prV ls ins).2 = k at *
    go_enter Tryz.func13, Tryz.ntmps13
    go_wp2_with fail
    refine (HK.out _ HX.out).mono ?_
    rintro e w1 ⟨rfl, hx1⟩
    replace HB := Lib.hid (HB.out.ext hx1)
    replace HX := Lib.hid (HX.out.trans hx1)
    clear hx1
    go_wp2_with fail
    refine (HP.out _ HX.out).mono ?_
    rintro e w2 ⟨rfl, hx1⟩
    obtain ⟨q0, q1, f0, f1⟩ := frBlk HB.out hx1
    replace HB := Lib.hid (HB.out.ext hx1)
    replace HX := Lib.hid (HX.out.trans hx1)
    clear hx1
    go_wp2_with fail
    refine bodyPost_ret (results_fr2 rfl _ _ w.heap.size (.string (bs r.num)) (.string (bs r.den)) (.int .i64 k) rfl rfl ((HB.out.set_ 0 _).set_ 1 _)) rfl ?_
    exact ⟨rfl, (HX.out.setCell (p := ⟨w.heap.size, 0, none⟩) (Nat.le_refl _) _).setCell (p := ⟨w.heap.size, 1, none⟩) (Nat.le_refl _) _⟩
  · have HV : Hid (priceV ls ins = (⟨[], []⟩, avgE ls [])) := Lib.hid (by unfold priceV; rw [if_pos h0])
    rw [HV.out]
    have g : (avgE ls [] != 0) = true := by rw [bne_iff_ne]; exact h0
    clear h0 HV
    generalize avgE ls [] = k at *
    go_enter Tryz.func13, Tryz.ntmps13
    go_wp2_with fail
    refine (HK.out _ HX.out).mono ?_
    rintro e w1 ⟨rfl, hx1⟩
    obtain ⟨q0, q1, f0, f1⟩ := frBlk HB.out hx1
    replace HB := Lib.hid (HB.out.ext hx1)
    replace HX := Lib.hid (HX.out.trans hx1)
    clear hx1
    go_wp2_with fail
    refine bodyPost_ret (results_fr2 rfl _ _ w.heap.size (.string ⟨#[]⟩) (.string ⟨#[]⟩) (.int .i64 k) rfl rfl ((HB.out.set_ 0 _).set_ 1 _)) rfl ?_
    exact ⟨rfl, (HX.out.setCell (p := ⟨w.heap.size, 0, none⟩) (Nat.le_refl _) _).setCell (p := ⟨w.heap.size, 1, none⟩) (Nat.le_refl _) _⟩
end Go.Proofs.YtikehdbkiplleaaGreatDoor

/- The walks over the program's averages: Take, After. -/
namespace Go.Proofs.YtikehdbkiplleaaGreatDoor
open Go.RowKit Go.Shelf
attribute [local go_sem] size_bs toList_bs

theorem checkI_ofI (z : Int) : checkI (ofI z) = 0 := checkI_ok.2 (by rw [valI_ofI])
theorem avgE_no {ls : List LotV} {ns : List Bs} (h : avgE ls ns = 0) : checkAllL ls = 0 ∧ ∀ a ∈ ns, checkI a = 0 := by
  unfold avgE at h
  by_cases h1 : checkAllL ls = 0
  · rw [if_neg (by simpa using h1)] at h
    refine ⟨h1, fun a ha => ?_⟩
    by_cases h2 : ns.any (fun a => checkI a != 0) = true
    · rw [if_pos h2] at h; omega
    · rw [Bool.not_eq_true, List.any_eq_false] at h2
      have := h2 a ha
      simpa using this
  · rw [if_pos h1] at h; omega
def takeV (ls : List LotV) (ins qty : Bs) : Bs × Bs × Int :=
  if avgE ls [qty] ≠ 0 then ([], [], avgE ls [qty]) else if totQ ls ins = 0 then ([], [], 6) else if valI qty ≤ 0 then ([], [], 2) else if totQ ls ins < valI qty then ([], [], 15)
  else (ofI (shareZ (totC ls ins) (valI qty) (totQ ls ins)), ofI (totC ls ins - shareZ (totC ls ins) (valI qty) (totQ ls ins)), 0)
set_option maxRecDepth 100000 in
set_option maxHeartbeats 4000000 in
theorem avgTake (ls : List LotV) (A : Option Addr) (c : Nat) (ins qty : Bs) (w : World) (hE : Env w) (hL : LotsAt w A ls) (hq : qty.length ≤ 2000) :
    Calls Tryz.prog 15 #[.slice A ls.length c, .string (bs ins), .string (bs qty)] w fun e w' => e = .returned (.tuple #[.string (bs (takeV ls ins qty).1), .string (bs (takeV ls ins qty).2.1), .int .i64 (takeV ls ins qty).2.2]) ∧ Ext w w' := by
  have HE := Lib.hid hE
  have HX : Hid (Ext w (w.alloc (.cells #[.string (bs qty)] 23))) := Lib.hid (Ext.new _ _)
  have hS : RdS (w.alloc (.cells #[.string (bs qty)] 23)) (some ⟨w.heap.size, 0, none⟩) [qty] := Reads.lit rfl
  have HK := Lib.hid (fun W (hx : Ext (w.alloc (.cells #[.string (bs qty)] 23)) W) => avgCheck ls A (some ⟨w.heap.size, 0, none⟩) c 1 [qty] W (hE.ext (HX.out.trans hx)) (hL.ext (HX.out.trans hx)) (hS.ext hx) (by simp; omega) (by simp))
  have HT := Lib.hid (fun W hx => lotTotal ls A c ins W (hE.ext hx) (hL.rd.ext hx) hL.sm hL.le)
  have hl1 := totQ_le hL ins
  have hl2 := totC_le hL ins
  have HC1 := Lib.hid (cmp0P qty (by omega))
  have hc2 := cmpP qty (ofI (totQ ls ins)) (by omega) (by omega)
  rw [valI_ofI] at hc2
  have HC2 := Lib.hid hc2
  clear hE hS hc2
  by_cases h0 : avgE ls [qty] = 0
  · have hne := avgE_no h0
    rw [h0] at HK
    have hv0 : takeV ls ins qty = if totQ ls ins = 0 then ([], [], 6) else if valI qty ≤ 0 then ([], [], 2) else if totQ ls ins < valI qty then ([], [], 15) else (ofI (shareZ (totC ls ins) (valI qty) (totQ ls ins)), ofI (totC ls ins - shareZ (totC ls ins) (valI qty) (totQ ls ins)), 0) := by unfold takeV; rw [if_neg (by simpa using h0)]
    rw [hv0]
    have hqc := hne.2 qty (by simp)
    clear h0 hne hv0 hL
    by_cases h1 : totQ ls ins = 0
    · rw [if_pos h1]
      have g1 : (ofI (totQ ls ins)).isEmpty = true := by rw [ofI_nil.2 h1]; rfl
      clear h1 hl1 hl2 HC1 HC2 hqc
      generalize ofI (totQ ls ins) = q at *
      generalize ofI (totC ls ins) = cc at *
      go_enter Tryz.func15, Tryz.ntmps15
      go_wp2_with fail
      refine (HK.out _ (Ext.refl _)).mono ?_
      rintro e w1 ⟨rfl, hx1⟩
      replace HX := Lib.hid (HX.out.trans hx1)
      clear hx1
      go_wp2_with fail
      refine (HT.out _ HX.out).mono ?_
      rintro e w2 ⟨rfl, hx1⟩
      replace HX := Lib.hid (HX.out.trans hx1)
      clear hx1
      go_wp2_with fail
      go_ret3
      exact ⟨rfl, HX.out⟩
    · rw [if_neg h1]
      have g1 : (ofI (totQ ls ins)).isEmpty = false := by
        cases hh : ofI (totQ ls ins) with
        | nil => exact absurd (ofI_nil.1 hh) h1
        | cons _ _ => rfl
      by_cases h2 : valI qty ≤ 0
      · rw [if_pos h2]
        have g2 : decide (cmpI (valI qty) 0 ≤ 0) = true := by rw [decide_eq_true_iff]; have := cmpI_pos (x := valI qty) (y := 0); omega
        clear h1 h2 hl1 hl2 HC2 hqc
        generalize ofI (totQ ls ins) = q at *
        generalize ofI (totC ls ins) = cc at *
        generalize cmpI (valI qty) 0 = k1 at *
        go_enter Tryz.func15, Tryz.ntmps15
        go_wp2_with fail
        refine (HK.out _ (Ext.refl _)).mono ?_
        rintro e w1 ⟨rfl, hx1⟩
        replace HX := Lib.hid (HX.out.trans hx1)
        clear hx1
        go_wp2_with fail
        refine (HT.out _ HX.out).mono ?_
        rintro e w2 ⟨rfl, hx1⟩
        replace HX := Lib.hid (HX.out.trans hx1)
        clear hx1
        go_wp2_with fail
        refine (HC1.out _ (HE.out.ext HX.out)).mono ?_
        rintro e w3 ⟨rfl, hx1⟩
        replace HX := Lib.hid (HX.out.trans hx1)
        clear hx1
        go_wp2_with fail
        go_ret3
        exact ⟨rfl, HX.out⟩
      · rw [if_neg h2]
        have g2 : decide (cmpI (valI qty) 0 ≤ 0) = false := by rw [decide_eq_false_iff_not]; have := cmpI_pos (x := valI qty) (y := 0); omega
        by_cases h3 : totQ ls ins < valI qty
        · rw [if_pos h3]
          have g3 : decide (0 < cmpI (valI qty) (totQ ls ins)) = true := by rw [decide_eq_true_iff, cmpI_pos]; exact h3
          clear h1 h2 h3 hl1 hl2 hqc
          generalize cmpI (valI qty) (totQ ls ins) = k2 at *
          generalize ofI (totQ ls ins) = q at *
          generalize ofI (totC ls ins) = cc at *
          generalize cmpI (valI qty) 0 = k1 at *
          go_enter Tryz.func15, Tryz.ntmps15
          go_wp2_with fail
          refine (HK.out _ (Ext.refl _)).mono ?_
          rintro e w1 ⟨rfl, hx1⟩
          replace HX := Lib.hid (HX.out.trans hx1)
          clear hx1
          go_wp2_with fail
          refine (HT.out _ HX.out).mono ?_
          rintro e w2 ⟨rfl, hx1⟩
          replace HX := Lib.hid (HX.out.trans hx1)
          clear hx1
          go_wp2_with fail
          refine (HC1.out _ (HE.out.ext HX.out)).mono ?_
          rintro e w3 ⟨rfl, hx1⟩
          replace HX := Lib.hid (HX.out.trans hx1)
          clear hx1
          go_wp2_with fail
          refine (HC2.out _ (HE.out.ext HX.out)).mono ?_
          rintro e w4 ⟨rfl, hx1⟩
          replace HX := Lib.hid (HX.out.trans hx1)
          clear hx1
          go_wp2_with fail
          go_ret3
          exact ⟨rfl, HX.out⟩
        · rw [if_neg h3]
          have g3 : decide (0 < cmpI (valI qty) (totQ ls ins)) = false := by rw [decide_eq_false_iff_not, cmpI_pos]; exact h3
          have hsh := allShare (ofI (totC ls ins)) qty (ofI (totQ ls ins)) (by omega) (by omega) (by omega) (checkI_ofI _) hqc (checkI_ofI _) (by rw [valI_ofI]; omega) (by omega) (by rw [valI_ofI]; omega)
          rw [valI_ofI, valI_ofI] at hsh
          have HSH := Lib.hid hsh
          clear h1 h2 h3 hl1 hl2 hqc hsh
          generalize ofI (totC ls ins - shareZ (totC ls ins) (valI qty) (totQ ls ins)) = z2 at *
          generalize ofI (shareZ (totC ls ins) (valI qty) (totQ ls ins)) = z1 at *
          generalize cmpI (valI qty) (totQ ls ins) = k2 at *
          generalize ofI (totQ ls ins) = q at *
          generalize ofI (totC ls ins) = cc at *
          generalize cmpI (valI qty) 0 = k1 at *
          go_enter Tryz.func15, Tryz.ntmps15
          go_wp2_with fail
          refine (HK.out _ (Ext.refl _)).mono ?_
          rintro e w1 ⟨rfl, hx1⟩
          replace HX := Lib.hid (HX.out.trans hx1)
          clear hx1
          go_wp2_with fail
          refine (HT.out _ HX.out).mono ?_
          rintro e w2 ⟨rfl, hx1⟩
          replace HX := Lib.hid (HX.out.trans hx1)
          clear hx1
          go_wp2_with fail
          refine (HC1.out _ (HE.out.ext HX.out)).mono ?_
          rintro e w3 ⟨rfl, hx1⟩
          replace HX := Lib.hid (HX.out.trans hx1)
          clear hx1
          go_wp2_with fail
          refine (HC2.out _ (HE.out.ext HX.out)).mono ?_
          rintro e w4 ⟨rfl, hx1⟩
          replace HX := Lib.hid (HX.out.trans hx1)
          clear hx1
          go_wp2_with fail
          refine (HSH.out _ (HE.out.ext HX.out)).mono ?_
          rintro e w5 ⟨rfl, hx1⟩
          replace HX := Lib.hid (HX.out.trans hx1)
          clear hx1
          go_wp2_with fail
          go_ret3
          exact ⟨rfl, HX.out⟩
  · have hv0 : takeV ls ins qty = ([], [], avgE ls [qty]) := by unfold takeV; rw [if_pos h0]
    rw [hv0]
    have g0 : (avgE ls [qty] != 0) = true := by rw [bne_iff_ne]; exact h0
    clear h0 hv0 hL hl1 hl2 HC1 HC2 HT
    generalize avgE ls [qty] = k at *
    go_enter Tryz.func15, Tryz.ntmps15
    go_wp2_with fail
    refine (HK.out _ (Ext.refl _)).mono ?_
    rintro e w1 ⟨rfl, hx1⟩
    replace HX := Lib.hid (HX.out.trans hx1)
    clear hx1
    go_wp2_with fail
    go_ret3
    exact ⟨rfl, HX.out⟩
def newV (n d : Int) : Fr × Int := if d = 0 then (⟨[], []⟩, 10) else (ofQ (Rat.divInt n d), 0)
theorem newP (n d : Bs) (hn : n.length ≤ 90000) (hd : d.length ≤ 90000) : Pure 46 #[.string (bs n), .string (bs d)] (.tuple #[fv (newV (valI n) (valI d)).1, .int .i64 (newV (valI n) (valI d)).2]) := by
  unfold newV
  by_cases h : valI d = 0
  · rw [if_pos h]; exact fracNew_zero n d hd h
  · rw [if_neg h]; exact fracNew n d hn hd h
def afterV (ls : List LotV) (ins qty cost : Bs) : Fr × Int :=
  if avgE ls [qty, cost] ≠ 0 then (⟨[], []⟩, avgE ls [qty, cost]) else if valI qty ≤ 0 then (⟨[], []⟩, 2) else if valI cost < 0 then (⟨[], []⟩, 2) else newV (totC ls ins + valI cost) (totQ ls ins + valI qty)
set_option maxRecDepth 100000 in
set_option maxHeartbeats 4000000 in
theorem avgAfter (ls : List LotV) (A : Option Addr) (c : Nat) (ins qty cost : Bs) (w : World) (hE : Env w) (hL : LotsAt w A ls) (hq : qty.length ≤ 2000) (hc : cost.length ≤ 2000) :
    Calls Tryz.prog 17 #[.slice A ls.length c, .string (bs ins), .string (bs qty), .string (bs cost)] w fun e w' => e = .returned (.tuple #[fv (afterV ls ins qty cost).1, .int .i64 (afterV ls ins qty cost).2]) ∧ Ext w w' := by
  have HE := Lib.hid hE
  have HB := Lib.hid ((Blk.new w 28 #[.string ⟨#[]⟩, .string ⟨#[]⟩]).alloc (.cells #[.string (bs qty), .string (bs cost)] 23))
  have HX : Hid (Ext w ((w.alloc (.cells #[.string ⟨#[]⟩, .string ⟨#[]⟩] 28)).alloc (.cells #[.string (bs qty), .string (bs cost)] 23))) := Lib.hid ((Ext.new _ _).alloc _)
  have hS : RdS ((w.alloc (.cells #[.string ⟨#[]⟩, .string ⟨#[]⟩] 28)).alloc (.cells #[.string (bs qty), .string (bs cost)] 23)) (some ⟨w.heap.size + 1, 0, none⟩) [qty, cost] := by
    have := Reads.lit (w := w.alloc (.cells #[.string ⟨#[]⟩, .string ⟨#[]⟩] 28)) (t := 23) (size := 1) (n := 2) (xs := scells [qty, cost]) rfl
    rw [show (w.alloc (.cells #[.string ⟨#[]⟩, .string ⟨#[]⟩] 28)).heap.size = w.heap.size + 1 by simp] at this
    exact this
  have HK := Lib.hid (fun W (hx : Ext ((w.alloc (.cells #[.string ⟨#[]⟩, .string ⟨#[]⟩] 28)).alloc (.cells #[.string (bs qty), .string (bs cost)] 23)) W) => avgCheck ls A (some ⟨w.heap.size + 1, 0, none⟩) c 2 [qty, cost] W (hE.ext (HX.out.trans hx)) (hL.ext (HX.out.trans hx)) (hS.ext hx) (by simp; omega) (by simp))
  have HT := Lib.hid (fun W hx => lotTotal ls A c ins W (hE.ext hx) (hL.rd.ext hx) hL.sm hL.le)
  have hl1 := totQ_le hL ins
  have hl2 := totC_le hL ins
  have HC1 := Lib.hid (cmp0P qty (by omega))
  have HC2 := Lib.hid (cmp0P cost (by omega))
  have ha1 := addP (ofI (totC ls ins)) cost (by omega) (by omega)
  have ha2 := addP (ofI (totQ ls ins)) qty (by omega) (by omega)
  rw [valI_ofI] at ha1 ha2
  have hn1 := add_len (x := ofI (totC ls ins)) (y := cost) (L := 2000) (by omega) (by omega)
  have hn2 := add_len (x := ofI (totQ ls ins)) (y := qty) (L := 2000) (by omega) (by omega)
  rw [valI_ofI] at hn1 hn2
  have hnw := newP (ofI (totC ls ins + valI cost)) (ofI (totQ ls ins + valI qty)) (by omega) (by omega)
  rw [valI_ofI, valI_ofI] at hnw
  have HA1 := Lib.hid ha1
  have HA2 := Lib.hid ha2
  have HN := Lib.hid hnw
  clear hE hS ha1 ha2 hn1 hn2 hnw hL hl1 hl2
  by_cases h0 : avgE ls [qty, cost] = 0
  · rw [h0] at HK
    have hv0 : afterV ls ins qty cost = if valI qty ≤ 0 then (⟨[], []⟩, 2) else if valI cost < 0 then (⟨[], []⟩, 2) else newV (totC ls ins + valI cost) (totQ ls ins + valI qty) := by unfold afterV; rw [if_neg (by simpa using h0)]
    rw [hv0]
    clear h0 hv0
    by_cases h2 : valI qty ≤ 0
    · rw [if_pos h2]
      have g2 : decide (cmpI (valI qty) 0 ≤ 0) = true := by rw [decide_eq_true_iff]; have := cmpI_pos (x := valI qty) (y := 0); omega
      clear h2
      generalize cmpI (valI qty) 0 = k1 at *
      go_enter Tryz.func17, Tryz.ntmps17
      go_wp2_with fail
      refine (HK.out _ (Ext.refl _)).mono ?_
      rintro e w1 ⟨rfl, hx1⟩
      obtain ⟨q0, q1, f0, f1⟩ := frBlk HB.out hx1
      replace HB := Lib.hid (HB.out.ext hx1)
      replace HX := Lib.hid (HX.out.trans hx1)
      clear hx1
      go_wp2_with fail
      refine (HC1.out _ (HE.out.ext HX.out)).mono ?_
      rintro e w3 ⟨rfl, hx1⟩
      obtain ⟨q0, q1, f0, f1⟩ := frBlk HB.out hx1
      replace HB := Lib.hid (HB.out.ext hx1)
      replace HX := Lib.hid (HX.out.trans hx1)
      clear hx1
      go_wp2_with fail
      refine bodyPost_ret (results_fr2 rfl _ _ w.heap.size (.string ⟨#[]⟩) (.string ⟨#[]⟩) (.int .i64 2) rfl rfl ((HB.out.set_ 0 _).set_ 1 _)) rfl ?_
      exact ⟨rfl, (HX.out.setCell (p := ⟨w.heap.size, 0, none⟩) (Nat.le_refl _) _).setCell (p := ⟨w.heap.size, 1, none⟩) (Nat.le_refl _) _⟩
    · rw [if_neg h2]
      have g2 : decide (cmpI (valI qty) 0 ≤ 0) = false := by rw [decide_eq_false_iff_not]; have := cmpI_pos (x := valI qty) (y := 0); omega
      clear h2
      generalize cmpI (valI qty) 0 = k1 at *
      by_cases h3 : valI cost < 0
      · rw [if_pos h3]
        have g3 : decide (cmpI (valI cost) 0 < 0) = true := by rw [decide_eq_true_iff, cmpI_neg]; exact h3
        clear h3
        generalize cmpI (valI cost) 0 = k2 at *
        go_enter Tryz.func17, Tryz.ntmps17
        go_wp2_with fail
        refine (HK.out _ (Ext.refl _)).mono ?_
        rintro e w1 ⟨rfl, hx1⟩
        obtain ⟨q0, q1, f0, f1⟩ := frBlk HB.out hx1
        replace HB := Lib.hid (HB.out.ext hx1)
        replace HX := Lib.hid (HX.out.trans hx1)
        clear hx1
        go_wp2_with fail
        refine (HC1.out _ (HE.out.ext HX.out)).mono ?_
        rintro e w3 ⟨rfl, hx1⟩
        obtain ⟨q0, q1, f0, f1⟩ := frBlk HB.out hx1
        replace HB := Lib.hid (HB.out.ext hx1)
        replace HX := Lib.hid (HX.out.trans hx1)
        clear hx1
        go_wp2_with fail
        refine (HC2.out _ (HE.out.ext HX.out)).mono ?_
        rintro e w4 ⟨rfl, hx1⟩
        obtain ⟨q0, q1, f0, f1⟩ := frBlk HB.out hx1
        replace HB := Lib.hid (HB.out.ext hx1)
        replace HX := Lib.hid (HX.out.trans hx1)
        clear hx1
        go_wp2_with fail
        refine bodyPost_ret (results_fr2 rfl _ _ w.heap.size (.string ⟨#[]⟩) (.string ⟨#[]⟩) (.int .i64 2) rfl rfl ((HB.out.set_ 0 _).set_ 1 _)) rfl ?_
        exact ⟨rfl, (HX.out.setCell (p := ⟨w.heap.size, 0, none⟩) (Nat.le_refl _) _).setCell (p := ⟨w.heap.size, 1, none⟩) (Nat.le_refl _) _⟩
      · rw [if_neg h3]
        have g3 : decide (cmpI (valI cost) 0 < 0) = false := by rw [decide_eq_false_iff_not, cmpI_neg]; exact h3
        clear h3
        generalize cmpI (valI cost) 0 = k2 at *
        generalize (newV (totC ls ins + valI cost) (totQ ls ins + valI qty)).1 = r at *
        generalize (newV (totC ls ins + valI cost) (totQ ls ins + valI qty)).2 = kk at *
        generalize ofI (totC ls ins + valI cost) = z1 at *
        generalize ofI (totQ ls ins + valI qty) = z2 at *
        generalize ofI (totQ ls ins) = q at *
        generalize ofI (totC ls ins) = cc at *
        go_enter Tryz.func17, Tryz.ntmps17
        go_wp2_with fail
        refine (HK.out _ (Ext.refl _)).mono ?_
        rintro e w1 ⟨rfl, hx1⟩
        obtain ⟨q0, q1, f0, f1⟩ := frBlk HB.out hx1
        replace HB := Lib.hid (HB.out.ext hx1)
        replace HX := Lib.hid (HX.out.trans hx1)
        clear hx1
        go_wp2_with fail
        refine (HC1.out _ (HE.out.ext HX.out)).mono ?_
        rintro e w3 ⟨rfl, hx1⟩
        obtain ⟨q0, q1, f0, f1⟩ := frBlk HB.out hx1
        replace HB := Lib.hid (HB.out.ext hx1)
        replace HX := Lib.hid (HX.out.trans hx1)
        clear hx1
        go_wp2_with fail
        refine (HC2.out _ (HE.out.ext HX.out)).mono ?_
        rintro e w4 ⟨rfl, hx1⟩
        obtain ⟨q0, q1, f0, f1⟩ := frBlk HB.out hx1
        replace HB := Lib.hid (HB.out.ext hx1)
        replace HX := Lib.hid (HX.out.trans hx1)
        clear hx1
        go_wp2_with fail
        refine (HT.out _ HX.out).mono ?_
        rintro e w5 ⟨rfl, hx1⟩
        obtain ⟨q0, q1, f0, f1⟩ := frBlk HB.out hx1
        replace HB := Lib.hid (HB.out.ext hx1)
        replace HX := Lib.hid (HX.out.trans hx1)
        clear hx1
        go_wp2_with fail
        refine (HA1.out _ (HE.out.ext HX.out)).mono ?_
        rintro e w6 ⟨rfl, hx1⟩
        obtain ⟨q0, q1, f0, f1⟩ := frBlk HB.out hx1
        replace HB := Lib.hid (HB.out.ext hx1)
        replace HX := Lib.hid (HX.out.trans hx1)
        clear hx1
        go_wp2_with fail
        refine (HA2.out _ (HE.out.ext HX.out)).mono ?_
        rintro e w7 ⟨rfl, hx1⟩
        obtain ⟨q0, q1, f0, f1⟩ := frBlk HB.out hx1
        replace HB := Lib.hid (HB.out.ext hx1)
        replace HX := Lib.hid (HX.out.trans hx1)
        clear hx1
        go_wp2_with fail
        refine (HN.out _ (HE.out.ext HX.out)).mono ?_
        rintro e w8 ⟨rfl, hx1⟩
        obtain ⟨q0, q1, f0, f1⟩ := frBlk HB.out hx1
        replace HB := Lib.hid (HB.out.ext hx1)
        replace HX := Lib.hid (HX.out.trans hx1)
        clear hx1
        go_wp2_with fail
        refine bodyPost_ret (results_fr2 rfl _ _ w.heap.size (.string (bs r.num)) (.string (bs r.den)) (.int .i64 kk) rfl rfl ((HB.out.set_ 0 _).set_ 1 _)) rfl ?_
        exact ⟨rfl, (HX.out.setCell (p := ⟨w.heap.size, 0, none⟩) (Nat.le_refl _) _).setCell (p := ⟨w.heap.size, 1, none⟩) (Nat.le_refl _) _⟩
  · have hv0 : afterV ls ins qty cost = (⟨[], []⟩, avgE ls [qty, cost]) := by unfold afterV; rw [if_pos h0]
    rw [hv0]
    have g0 : (avgE ls [qty, cost] != 0) = true := by rw [bne_iff_ne]; exact h0
    clear h0 hv0
    generalize avgE ls [qty, cost] = k at *
    go_enter Tryz.func17, Tryz.ntmps17
    go_wp2_with fail
    refine (HK.out _ (Ext.refl _)).mono ?_
    rintro e w1 ⟨rfl, hx1⟩
    obtain ⟨q0, q1, f0, f1⟩ := frBlk HB.out hx1
    replace HB := Lib.hid (HB.out.ext hx1)
    replace HX := Lib.hid (HX.out.trans hx1)
    clear hx1
    go_wp2_with fail
    refine bodyPost_ret (results_fr2 rfl _ _ w.heap.size (.string ⟨#[]⟩) (.string ⟨#[]⟩) (.int .i64 k) rfl rfl ((HB.out.set_ 0 _).set_ 1 _)) rfl ?_
    exact ⟨rfl, (HX.out.setCell (p := ⟨w.heap.size, 0, none⟩) (Nat.le_refl _) _).setCell (p := ⟨w.heap.size, 1, none⟩) (Nat.le_refl _) _⟩
end Go.Proofs.YtikehdbkiplleaaGreatDoor

/- The walk over the program's Gap. -/
namespace Go.Proofs.YtikehdbkiplleaaGreatDoor
open Go.RowKit Go.Shelf
attribute [local go_sem] size_bs toList_bs

/-- by how much the cost of a lot is more than its part of the average -/
def gapV (ls : List LotV) (id : Bs) : Fr × Int :=
  if avgE ls [] ≠ 0 then (⟨[], []⟩, avgE ls []) else match findL ls id with
    | none => (⟨[], []⟩, 6)
    | some k => (ofQ ((valI (ls.getD k default).c : Rat) - frQ (prV ls (ls.getD k default).ins).1 * (valI (ls.getD k default).q : Rat)), (prV ls (ls.getD k default).ins).2)
theorem findL_lt {ls : List LotV} {id : Bs} {k : Nat} (h : findL ls id = some k) : k < ls.length ∧ ∀ (hk : k < ls.length), (ls[k]'hk).id = id := by
  induction ls generalizing k with
  | nil => simp [findL] at h
  | cons x r ih =>
    unfold findL at h
    by_cases e : x.id = id
    · rw [if_pos e] at h; injection h with h; subst h
      exact ⟨by simp, fun _ => e⟩
    · rw [if_neg e] at h
      cases hf : findL r id with
      | none => rw [hf] at h; simp at h
      | some j =>
        rw [hf] at h; simp at h; subst h
        have := ih hf
        exact ⟨by simp; exact this.1, fun hk => this.2 (by simpa using hk)⟩
theorem qb_val {l : Bs} {L : Nat} (h : l.length ≤ L) (h0 : 0 < L) : QB L ((valI l : Int) : Rat) := qb_int h0 (valI_lt10 h)
theorem qb_two {n d : Bs} {L : Nat} (h1 : n.length ≤ L) (h2 : d.length ≤ L) (h0 : 0 < L) : QB L (Rat.divInt (valI n) (valI d)) := qb_divInt h0 (valI_lt10 h1) (valI_lt10 h2)
theorem prV_len {w : World} {A : Option Addr} {ls : List LotV} (h : LotsAt w A ls) (ins : Bs) : (prV ls ins).1.num.length ≤ 5000 ∧ (prV ls ins).1.den.length ≤ 5000 := by
  have h1 := totQ_le h ins
  have h2 := totC_le h ins
  unfold prV
  split
  · simp
  · have hq : QB 2000 (Rat.divInt (totC ls ins) (totQ ls ins)) := by
      rw [← valI_ofI (totC ls ins), ← valI_ofI (totQ ls ins)]
      exact qb_two h2 h1 (by omega)
    exact ⟨by have := hq.num_len; simp only; omega, by have := hq.den_len; simp only; omega⟩
set_option maxRecDepth 100000 in
set_option maxHeartbeats 4000000 in
theorem avgGap (ls : List LotV) (A : Option Addr) (c : Nat) (id : Bs) (w : World) (hE : Env w) (hL : LotsAt w A ls) :
    Calls Tryz.prog 19 #[.slice A ls.length c, .string (bs id)] w fun e w' => e = .returned (.tuple #[fv (gapV ls id).1, .int .i64 (gapV ls id).2]) ∧ Ext w w' := by
  have HE := Lib.hid hE
  have HL := Lib.hid hL
  have HK := Lib.hid (fun W hx => avgCheck ls A none c 0 [] W (hE.ext hx) (hL.ext hx) Reads.nil (by simp) (by simp))
  have HF := Lib.hid (fun W hx => lotFind ls A c id W (hL.rd.ext hx) (by have := hL.le; omega))
  have HP := Lib.hid (fun ins W hx => avgprice ls A c ins W (hE.ext hx) (hL.ext hx))
  have HB := Lib.hid (Blk.new w 28 #[.string ⟨#[]⟩, .string ⟨#[]⟩])
  have HX : Hid (Ext w (w.alloc (.cells #[.string ⟨#[]⟩, .string ⟨#[]⟩] 28))) := Lib.hid (Ext.new _ _)
  by_cases h0 : avgE ls [] = 0
  · rw [h0] at HK
    cases hf : findL ls id with
    | none =>
      have HV : Hid (gapV ls id = (⟨[], []⟩, 6)) := Lib.hid (by unfold gapV; rw [if_neg (by simpa using h0), hf])
      rw [HV.out]
      have hfi : findI ls id = 0 := by unfold findI; rw [hf]
      rw [hfi, hf] at HF
      clear h0 hf hfi hE hL HV
      go_enter Tryz.func19, Tryz.ntmps19
      go_wp2_with fail
      refine (HK.out _ HX.out).mono ?_
      rintro e w1 ⟨rfl, hx1⟩
      replace HB := Lib.hid (HB.out.ext hx1)
      replace HX := Lib.hid (HX.out.trans hx1)
      clear hx1
      go_wp2_with fail
      refine (HF.out _ HX.out).mono ?_
      rintro e w2 ⟨rfl, hx1⟩
      obtain ⟨q0, q1, f0, f1⟩ := frBlk HB.out hx1
      replace HB := Lib.hid (HB.out.ext hx1)
      replace HX := Lib.hid (HX.out.trans hx1)
      clear hx1
      go_wp2_with fail
      refine bodyPost_ret (results_fr2 rfl _ _ w.heap.size (.string ⟨#[]⟩) (.string ⟨#[]⟩) (.int .i64 6) rfl rfl ((HB.out.set_ 0 _).set_ 1 _)) rfl ?_
      exact ⟨rfl, (HX.out.setCell (p := ⟨w.heap.size, 0, none⟩) (Nat.le_refl _) _).setCell (p := ⟨w.heap.size, 1, none⟩) (Nat.le_refl _) _⟩
    | some k =>
      obtain ⟨hk, _⟩ := findL_lt hf
      have hgd : ls.getD k default = ls[k]'hk := by rw [List.getD_eq_getElem?_getD, List.getElem?_eq_getElem hk]; rfl
      have HV : Hid (gapV ls id = (ofQ ((valI (ls[k]'hk).c : Rat) - frQ (prV ls (ls[k]'hk).ins).1 * (valI (ls[k]'hk).q : Rat)), (prV ls (ls[k]'hk).ins).2)) := Lib.hid (by unfold gapV; rw [if_neg (by simpa using h0), hf]; simp only [hgd])
      rw [HV.out]
      have hfi : findI ls id = k := by unfold findI; rw [hf]
      rw [hfi, hf] at HF
      have hsm := hL.sm (ls[k]'hk) (List.getElem_mem _)
      have hpl := prV_len hL (ls[k]'hk).ins
      have o1 := fracOf (ls[k]'hk).c (by have := hsm.2.2.2.1; omega)
      have o2 := fracOf (ls[k]'hk).q (by have := hsm.2.2.1; omega)
      have b1 := qb_val hsm.2.2.2.1 (by omega)
      have b2 := qb_val hsm.2.2.1 (by omega)
      have b3 := frQ_qb hpl.1 hpl.2 (by omega)
      have l1 := b1.num_len
      have l1' := b1.den_len
      have l2 := b2.num_len
      have l2' := b2.den_len
      have m1 := fracMul (prV ls (ls[k]'hk).ins).1 (ofQ ((valI (ls[k]'hk).q : Int) : Rat)) (by omega) (by omega) (by omega) (by omega)
      rw [frQ_ofQ] at m1
      have b4 := b3.mul b2
      have l4 := b4.num_len
      have l4' := b4.den_len
      have s1 := fracSub (ofQ ((valI (ls[k]'hk).c : Int) : Rat)) (ofQ (frQ (prV ls (ls[k]'hk).ins).1 * ((valI (ls[k]'hk).q : Int) : Rat))) (by omega) (by omega) (by omega) (by omega)
      rw [frQ_ofQ, frQ_ofQ] at s1
      have hP := fun W hx => HP.out (ls[k]'hk).ins W hx
      have O1 := Lib.hid o1
      have O2 := Lib.hid o2
      have M1 := Lib.hid m1
      have S1 := Lib.hid s1
      have HP2 := Lib.hid hP
      clear o1 o2 m1 s1 b1 b2 b3 b4 l1 l1' l2 l2' l4 l4' hpl hsm hP HP hf hfi hgd hE hL HV h0
      generalize ofQ (((valI (ls[k]'hk).c : Int) : Rat) - frQ (prV ls (ls[k]'hk).ins).1 * ((valI (ls[k]'hk).q : Int) : Rat)) = r at *
      generalize ofQ (frQ (prV ls (ls[k]'hk).ins).1 * ((valI (ls[k]'hk).q : Int) : Rat)) = rm at *
      generalize ofQ ((valI (ls[k]'hk).c : Int) : Rat) = rc at *
      generalize ofQ ((valI (ls[k]'hk).q : Int) : Rat) = rq at *
      generalize (prV ls (ls[k]'hk).ins).1 = rp at *
      generalize (prV ls (ls[k]'hk).ins).2 = ke at *
      go_enter Tryz.func19, Tryz.ntmps19
      go_wp2_with fail
      refine (HK.out _ HX.out).mono ?_
      rintro e w1 ⟨rfl, hx1⟩
      replace HB := Lib.hid (HB.out.ext hx1)
      replace HX := Lib.hid (HX.out.trans hx1)
      clear hx1
      go_wp2_with fail
      refine (HF.out _ HX.out).mono ?_
      rintro e w2 ⟨rfl, hx1⟩
      replace HB := Lib.hid (HB.out.ext hx1)
      replace HX := Lib.hid (HX.out.trans hx1)
      clear hx1
      obtain ⟨b, o, rfl, hb, c0, c1, c2, c3, c4, c5, c6⟩ := (HL.out.rd.ext HX.out).at_ hk
      have hs2 : w.heap.size < w2.heap.size := HB.out.lt
      have hki : (k : Int) < (ls.length : Int) := by omega
      have hk0 : (0 : Int) ≤ (k : Int) := by omega
      generalize ls[k]'hk = x at *
      have HXN : Hid (Ext w2 (w2.alloc (.cells (lc x) 50))) := Lib.hid (Ext.new _ _)
      have HBX := Lib.hid (Blk.new w2 50 (lc x))
      go_wp2_with fail
      refine (HP2.out _ (HX.out.trans HXN.out)).mono ?_
      rintro e w3 ⟨rfl, hx1⟩
      have HXM : Hid (Ext w3 (w3.alloc (.cells #[.string (bs rp.num), .string (bs rp.den)] 28))) := Lib.hid (Ext.new _ _)
      have HBP := Lib.hid (Blk.new w3 28 #[.string (bs rp.num), .string (bs rp.den)])
      replace HBX := Lib.hid (HBX.out.ext (hx1.trans HXM.out))
      replace HB := Lib.hid (HB.out.ext (HXN.out.trans (hx1.trans HXM.out)))
      replace HX := Lib.hid (HX.out.trans (HXN.out.trans (hx1.trans HXM.out)))
      have hs3 : w2.heap.size ≤ w3.heap.size := by have := hx1.size; simp only [World.size_alloc] at this; omega
      clear hx1 HXN HXM c0 c1 c2 c3 c4 c5 c6
      go_wp2_with fail
      generalize w3.alloc (.cells #[.string (bs rp.num), .string (bs rp.den)] 28) = W3 at *
      have hn1 : w.heap.size ≠ w2.heap.size := by omega
      have hn2 : w2.heap.size ≠ w.heap.size := by omega
      have hn3 : w.heap.size ≠ w3.heap.size := by omega
      have hn4 : w3.heap.size ≠ w.heap.size := by omega
      clear hs2 hs3
      generalize w3.heap.size = P at *
      generalize w2.heap.size = X at *
      obtain ⟨_, _, _, _, x4, x5, _⟩ := lotBlk HBX.out (Ext.refl W3)
      obtain ⟨p0, p1, _, _⟩ := frBlk HBP.out (Ext.refl W3)
      obtain ⟨r0, r1, r2, r3⟩ := frBlk HB.out (Ext.refl W3)
      have HD : Hid (Ext W3 W3.drew) := Lib.hid (Ext.refl W3).drew
      go_region_held3 (fun w' => w'.cell? ⟨X, 5, none⟩ = some (.string (bs x.c)) ∧ w'.cell? ⟨P, 0, none⟩ = some (.string (bs rp.num)) ∧ w'.cell? ⟨P, 1, none⟩ = some (.string (bs rp.den)) ∧ w'.cell? ⟨X, 4, none⟩ = some (.string (bs x.q)))
        (go_keep)
        (first
          | (go_at_call 27; ((with_reducible refine (O1.out _ (HE.out.ext (HX.out.trans HD.out))).mono ?_); rintro e w4 ⟨rfl, hx⟩); (replace HD := Lib.hid (HD.out.trans hx)); (obtain ⟨_, _, _, _, a4, a5, _⟩ := lotBlk HBX.out HD.out); (obtain ⟨a0, a1, _, _⟩ := frBlk HBP.out HD.out); (obtain ⟨a6, a7, a8, a9⟩ := frBlk HB.out HD.out); clear hx)
          | (go_at_call 27; ((with_reducible refine (O2.out _ (HE.out.ext (HX.out.trans HD.out))).mono ?_); rintro e w5 ⟨rfl, hx⟩); (replace HD := Lib.hid (HD.out.trans hx)); (obtain ⟨_, _, _, _, b4, b5, _⟩ := lotBlk HBX.out HD.out); (obtain ⟨b0, b1, _, _⟩ := frBlk HBP.out HD.out); (obtain ⟨b6, b7, b8, b9⟩ := frBlk HB.out HD.out); clear hx)
          | (go_at_call 28; ((with_reducible refine (M1.out _ (HE.out.ext (HX.out.trans HD.out))).mono ?_); rintro e w6 ⟨rfl, hx⟩); (replace HD := Lib.hid (HD.out.trans hx)); (obtain ⟨_, _, _, _, c4, c5, _⟩ := lotBlk HBX.out HD.out); (obtain ⟨c0, c1, _, _⟩ := frBlk HBP.out HD.out); (obtain ⟨c6, c7, c8, c9⟩ := frBlk HB.out HD.out); clear hx)
          | (go_at_call 26; ((with_reducible refine (S1.out _ (HE.out.ext (HX.out.trans HD.out))).mono ?_); rintro e w7 ⟨rfl, hx⟩); (replace HD := Lib.hid (HD.out.trans hx)); (obtain ⟨_, _, _, _, d4, d5, _⟩ := lotBlk HBX.out HD.out); (obtain ⟨d0, d1, _, _⟩ := frBlk HBP.out HD.out); (obtain ⟨d6, d7, d8, d9⟩ := frBlk HB.out HD.out); clear hx))
      all_goals
        go_wp2_with fail
        refine bodyPost_ret (results_fr2 rfl _ _ w.heap.size (.string (bs r.num)) (.string (bs r.den)) (.int .i64 ke) rfl rfl (((HB.out.ext HD.out).set_ 0 _).set_ 1 _)) rfl ?_
        exact ⟨rfl, ((HX.out.trans HD.out).setCell (p := ⟨w.heap.size, 0, none⟩) (Nat.le_refl _) _).setCell (p := ⟨w.heap.size, 1, none⟩) (Nat.le_refl _) _⟩
  · have HV : Hid (gapV ls id = (⟨[], []⟩, avgE ls [])) := Lib.hid (by unfold gapV; rw [if_pos h0])
    rw [HV.out]
    have g : (avgE ls [] != 0) = true := by rw [bne_iff_ne]; exact h0
    clear h0 HV hE hL
    generalize avgE ls [] = k at *
    go_enter Tryz.func19, Tryz.ntmps19
    go_wp2_with fail
    refine (HK.out _ HX.out).mono ?_
    rintro e w1 ⟨rfl, hx1⟩
    obtain ⟨q0, q1, f0, f1⟩ := frBlk HB.out hx1
    replace HB := Lib.hid (HB.out.ext hx1)
    replace HX := Lib.hid (HX.out.trans hx1)
    clear hx1
    go_wp2_with fail
    refine bodyPost_ret (results_fr2 rfl _ _ w.heap.size (.string ⟨#[]⟩) (.string ⟨#[]⟩) (.int .i64 k) rfl rfl ((HB.out.set_ 0 _).set_ 1 _)) rfl ?_
    exact ⟨rfl, (HX.out.setCell (p := ⟨w.heap.size, 0, none⟩) (Nat.le_refl _) _).setCell (p := ⟨w.heap.size, 1, none⟩) (Nat.le_refl _) _⟩
end Go.Proofs.YtikehdbkiplleaaGreatDoor

/- The walks over the program's allocation: whole, check, Small, the order of the rests. -/
namespace Go.Proofs.YtikehdbkiplleaaGreatDoor
open Go.RowKit Go.Shelf
attribute [local go_sem] size_bs toList_bs

def sumV (l : List Bs) : Int := (l.map valI).sum
theorem sumV_snoc (l : List Bs) (a : Bs) : sumV (l ++ [a]) = sumV l + valI a := by simp [sumV]
theorem sumV_lenL (L : Nat) (l : List Bs) (hs : ∀ x ∈ l, x.length ≤ L) (hn : l.length ≤ 100000) : (ofI (sumV l)).length ≤ L + 7 := by
  have h := sum_abs valI (10 ^ L) l (fun x hx => Nat.le_of_lt (valI_lt10 (hs x hx)))
  have h2 : l.length * 10 ^ L ≤ 10 ^ 5 * 10 ^ L := Nat.mul_le_mul_right _ (by omega)
  have h4 : 10 ^ (L + 6) = 1000000 * 10 ^ L := by rw [Nat.pow_add, Nat.mul_comm]
  have h5 : 0 < 10 ^ L := Nat.pow_pos (by decide)
  exact ofI_lt10 (L := L + 6) (by unfold sumV; omega)
theorem sumV_len (l : List Bs) (k : Nat) (hs : ∀ x ∈ l, x.length ≤ 4000) (hn : l.length ≤ 100000) : (ofI (sumV (l.take k))).length ≤ 4007 :=
  sumV_lenL 4000 _ (fun x hx => hs x (List.mem_of_mem_take hx)) (Nat.le_trans (by rw [List.length_take]; exact Nat.min_le_right _ _) hn)
set_option maxRecDepth 100000 in
set_option maxHeartbeats 2000000 in
theorem allWhole (ls : List Bs) (A : Option Addr) (c : Nat) (w : World) (hE : Env w) (hA : RdS w A ls) (hs : ∀ x ∈ ls, x.length ≤ 4000) (hn : ls.length ≤ 100000) :
    Calls Tryz.prog 208 #[.slice A ls.length c] w fun e w' => e = .returned (.string (bs (ofI (sumV ls)))) ∧ Ext w w' := by
  have HE := Lib.hid hE
  have HA := Lib.hid hA
  have HS := Lib.hid hs
  clear hE hA hs
  have h0 : (Value.string ⟨#[]⟩) = .string (bs (ofI (sumV (ls.take 0)))) := by rw [show ofI (sumV (ls.take 0)) = [] from ofI_nil.2 rfl]; rfl
  have H0 := Lib.hid h0
  clear h0
  go_enter Tryz.func208, Tryz.ntmps208
  go_wp2_with fail
  go_loopw [8, 3, 5] (fun i s _ wr => ∃ k : Nat, k ≤ ls.length ∧ i = .int .i64 k ∧ s = .string (bs (ofI (sumV (ls.take k)))) ∧ Ext w wr) (fun i _ _ _ => ls.length - (intOf i).toNat)
  case atStart => exact ⟨0, by omega, rfl, H0.out, Ext.refl _⟩
  case round =>
    obtain ⟨k, hk, rfl, rfl, hx⟩ := hrel
    have HX := Lib.hid hx
    clear hx
    by_cases hlt : k < ls.length
    · obtain ⟨b, o, rfl, hb, c0⟩ := (HA.out.ext HX.out).at_ hlt
      have ha := addP (ofI (sumV (ls.take k))) (ls[k]'hlt) (by have := sumV_len ls k HS.out hn; omega) (by have := HS.out _ (List.getElem_mem hlt); omega)
      rw [valI_ofI, ← sumV_snoc, ← List.take_succ_eq_append_getElem hlt] at ha
      have HAD := Lib.hid ha
      clear ha
      generalize (ls[k]'hlt) = x at *
      generalize hz : ofI (sumV (ls.take (k + 1))) = z at *
      have HZ := Lib.hid hz
      generalize ofI (sumV (ls.take k)) = y at *
      clear hz
      go_wp2_with fail
      refine (HAD.out _ (HE.out.ext HX.out)).mono ?_
      rintro e w1 ⟨rfl, hx1⟩
      replace HX := Lib.hid (HX.out.trans hx1)
      clear hx1
      go_wp2_with fail
      go_roundw
      case rel => exact ⟨k + 1, by omega, by go_num, by rw [HZ.out], HX.out⟩
      case measure => simp [intOf]; omega
    · have HF : Hid (ls.take k = ls) := Lib.hid (List.take_of_length_le (by omega))
      go_wp2_with fail
      go_ret
      exact ⟨by rw [HF.out]; rfl, HX.out⟩
set_option maxRecDepth 100000 in
theorem allCheck1 (a : Bs) (ha : a.length ≤ 4000) (hc : checkI a = 0) (h0 : 0 ≤ valI a) (W : World) (hE : Env W) : Calls Tryz.prog 207 #[.string (bs a)] W fun e w' => e = .returned (.bool false) ∧ Ext W w' := by
  have k1 := checkP a (by omega)
  rw [hc] at k1
  have n1 := allNeg a (by omega)
  rw [show decide (valI a < 0) = false by rw [decide_eq_false_iff_not]; omega] at n1
  have K1 := Lib.hid k1
  have N1 := Lib.hid n1
  have HE := Lib.hid hE
  clear k1 n1 hE hc h0
  go_enter Tryz.func207, Tryz.ntmps207
  go_wp2_with fail
  refine (K1.out _ HE.out).mono ?_
  rintro e w1 ⟨rfl, hx1⟩
  have HX := Lib.hid hx1
  clear hx1
  go_wp2_with fail
  refine (N1.out _ (HE.out.ext HX.out)).mono ?_
  rintro e w2 ⟨rfl, hx1⟩
  replace HX := Lib.hid (HX.out.trans hx1)
  clear hx1
  go_wp2_with fail
  go_ret
  exact ⟨rfl, HX.out⟩
/-- weights that are valid -/
structure WtOK (ls : List Bs) : Prop where
  pos : 0 < ls.length
  le : ls.length ≤ 1000
  sm : ∀ x ∈ ls, x.length ≤ 4000
  ok : ∀ x ∈ ls, checkI x = 0
  nn : ∀ x ∈ ls, 0 ≤ valI x
  sum : 0 < sumV ls
set_option maxRecDepth 100000 in
set_option maxHeartbeats 2000000 in
theorem allCheck (t : Bs) (ls : List Bs) (A : Option Addr) (c : Nat) (w : World) (hE : Env w) (hA : RdS w A ls) (ht : t.length ≤ 4000) (htc : checkI t = 0) (hW : WtOK ls) :
    Calls Tryz.prog 166 #[.string (bs t), .slice A ls.length c] w fun e w' => e = .returned (.int .i64 0) ∧ Ext w w' := by
  have HE := Lib.hid hE
  have k1 := checkP t (by omega)
  rw [htc] at k1
  have K1 := Lib.hid k1
  have HCF := Lib.hid (fun W hx => contFuncI 207 #[] (fun _ _ => by rfl) (fun _ => false) ls A c W (hA.ext hx) (by have := hW.le; omega) (fun a ha V hv => allCheck1 a (hW.sm a ha) (hW.ok a ha) (hW.nn a ha) V ((hE.ext hx).ext hv)))
  rw [show ls.any (fun _ => false) = false by simp] at HCF
  have HWH := Lib.hid (fun W hx => allWhole ls A c W (hE.ext hx) (hA.ext hx) hW.sm (by have := hW.le; omega))
  have g1 : ((ls.length : Int) == 0) = false := by rw [beq_eq_false_iff_ne]; have := hW.pos; omega
  have g2 : decide (1000 < (ls.length : Int)) = false := by rw [decide_eq_false_iff_not]; have := hW.le; omega
  have g3 : (ofI (sumV ls)).isEmpty = false := by
    cases hh : ofI (sumV ls) with
    | nil => have := ofI_nil.1 hh; have := hW.sum; omega
    | cons _ _ => rfl
  clear hE hA k1 hW ht htc
  generalize ofI (sumV ls) = z at *
  have HX : Hid (Ext w w) := Lib.hid (Ext.refl w)
  go_enter Tryz.func166, Tryz.ntmps166
  go_wp2_with fail
  refine (K1.out _ HE.out).mono ?_
  rintro e w1 ⟨rfl, hx1⟩
  replace HX := Lib.hid (HX.out.trans hx1)
  clear hx1
  go_wp2_with fail
  refine (HCF.out _ HX.out).mono ?_
  rintro e w2 ⟨rfl, hx1⟩
  replace HX := Lib.hid (HX.out.trans hx1)
  clear hx1
  go_wp2_with fail
  refine (HWH.out _ HX.out).mono ?_
  rintro e w3 ⟨rfl, hx1⟩
  replace HX := Lib.hid (HX.out.trans hx1)
  clear hx1
  go_wp2_with fail
  go_ret
  exact ⟨rfl, HX.out⟩
/-- small numbers -/
theorem parse_dig10 {n : Nat} (h1 : 1 ≤ n) (h : n ≤ 100000000) : Lib.parseIntB 64 (dig10 n) = .ok (n : Int) := by
  have hne := dig10_ne (n := n) (by omega)
  have hall := dig10_all n
  have hval := natOf_dig10 n
  have hlen := dig10_len (g := n) (L := 9) (by omega)
  have hp := parse_small (dig10 n) hall hne hlen
  rw [hval] at hp
  generalize dig10 n = t at *
  obtain ⟨c, r, rfl⟩ := List.exists_cons_of_ne_nil hne
  have hc : isD c = true := by simp only [List.all_cons, Bool.and_eq_true] at hall; exact hall.1
  have hc2 := (isD_iff c).1 hc
  unfold Lib.parseIntB
  simp only
  rw [if_neg (by omega), hp]
  simp only
  rw [if_neg (by omega), if_neg (by omega), if_neg (by omega)]
theorem printI_ofI (n : Nat) : printI (ofI (n : Int)) = if n = 0 then [48] else dig10 n := by
  unfold printI
  rw [canon_ofI, valI_ofI]
  by_cases h : n = 0
  · subst h; rw [if_pos (show ofI ((0 : Nat) : Int) = [] from ofI_nil.2 rfl), if_pos rfl]
  · rw [if_neg (by rw [ofI_nil]; omega), if_neg h]
    unfold ofI; rw [if_neg (by omega)]; simp
theorem parse_print {n : Nat} (h : n ≤ 100000000) : Lib.parseIntB 64 (printI (ofI (n : Int))) = .ok (n : Int) := by
  rw [printI_ofI]
  by_cases h0 : n = 0
  · subst h0; decide +kernel
  · rw [if_neg h0]; exact parse_dig10 (by omega) h
set_option maxRecDepth 100000 in
theorem smallP (n : Nat) (h : n ≤ 100000000) : Pure 233 #[.string (bs (ofI (n : Int)))] (.tuple #[.int .i64 (n : Int), .bool true]) := by
  intro w hE
  have hl : (ofI (n : Int)).length ≤ 10 := ofI_lt10 (L := 9) (by omega)
  have HP := Lib.hid (fun W => intPrint (ofI (n : Int)) W (by omega))
  have hpl : (printI (ofI (n : Int))).length ≤ 10 := by
    rw [printI_ofI]; split
    · simp
    · have := dig10_len (g := n) (L := 9) (by omega); omega
  have HI := Lib.hid (fun W => Tryz.strconv_ParseInt_10_at64_ok (bs (printI (ofI (n : Int)))) (by rw [size_bs]; omega) n (by rw [data_bs]; exact parse_print h) W)
  generalize printI (ofI (n : Int)) = p at *
  generalize ofI (n : Int) = z at *
  clear hE
  go_enter Tryz.func233, Tryz.ntmps233
  go_wp2_with fail
  refine (HP.out _).mono ?_
  rintro e w1 ⟨rfl, hx1⟩
  have HX := Lib.hid hx1
  clear hx1
  go_wp2_with fail
  refine (HI.out _).mono ?_
  rintro e w2 ⟨rfl, hx⟩
  have hx2 : Ext w1 w2 := by
    rcases hx with rfl | ⟨t, rfl⟩
    · exact Ext.refl _
    · exact ext_bytes _ _ _
  replace HX := Lib.hid (HX.out.trans hx2)
  clear hx hx2
  go_wp2_with fail
  go_ret2
  exact ⟨rfl, HX.out⟩
end Go.Proofs.YtikehdbkiplleaaGreatDoor

/- The model: no step of a run draws less than was drawn before it; so a call that returns has drawn at least as often as before ('calls_drawn'). No program in sight. -/
namespace Go.Proofs.YtikehdbkiplleaaGreatDoor
theorem ask_drawn {α : Type} (a : Ask α) : ∀ w : World, w.drawn ≤ (w.ask a).2.drawn := by
  induction a with
  | done a => intro w; simp [World.ask]
  | ask what range k ih =>
    intro w
    simp only [World.ask]
    split
    · exact ih _ _
    · exact Nat.le_trans (Nat.le_succ _) (ih _ { w with drawn := w.drawn + 1 })
theorem sys_drawn (w : World) (c : Sys) : w.drawn ≤ (w.sys c).2.drawn := by
  unfold World.sys
  have := ask_drawn (Kernel.perform c w.os) w
  split
  · exact Nat.le_refl _
  · rename_i h; rw [h] at this; exact this
def resW {α : Type} : Result α → World | .ok _ w => w | .halt _ w => w
theorem viewStore_drawn {p : Program} {w w' : World} {at_ : Addr} {u : TypeId} {k : Addr} {v : Value} {b : Bool} {l : List Addr} (h : w.viewStore p at_ u k v b = .ok (w', l)) : w'.drawn = w.drawn := by
  unfold World.viewStore at h
  simp only [bind, Except.bind, pure, Except.pure] at h
  repeat' split at h
  all_goals first
    | cases h
    | skip
  all_goals rfl
theorem farStore_drawn {p : Program} {w w' : World} {a : Addr} {v : Value} {b : Bool} {l : List Addr} (h : w.farStore p a v b = .ok (w', l)) : w'.drawn = w.drawn := by
  unfold World.farStore at h
  split at h
  · split at h
    · rename_i r hr; injection h with h; subst h; exact viewStore_drawn hr
    · cases h
  · cases h
theorem run_drawn {α : Type} (p : Program) (s : Sem α) : ∀ w : World, w.drawn ≤ (resW (s.run p w)).drawn := by
  induction s with
  | pure a => intro w; simp [Sem.run, resW]
  | load m a k ih =>
    intro w; simp only [Sem.run]
    repeat' split
    all_goals first | exact ih _ _ | exact Nat.le_refl _
  | store m a v k ih =>
    intro w
    cases v <;> simp only [Sem.run]
    all_goals
      repeat' split
    all_goals first
      | exact Nat.le_refl _
      | (refine Nat.le_trans (Nat.le_of_eq ?_) (ih _); rfl)
      | (refine Nat.le_trans (Nat.le_of_eq ?_) (ih _); exact (farStore_drawn (by assumption)).symm)
  | new o k ih => intro w; simp only [Sem.run]; exact ih _ { w with heap := w.heap.push o }
  | shape r k ih => intro w; simp only [Sem.run]; exact ih _ _
  | freeze a n k ih =>
    intro w; simp only [Sem.run]
    refine Nat.le_trans (Nat.le_of_eq ?_) (ih _)
    unfold World.freeze; split <;> rfl
  | frozen a k ih => intro w; simp only [Sem.run]; exact ih _ _
  | getObj r k ih =>
    intro w; simp only [Sem.run]
    split
    all_goals first | exact ih _ _ | exact Nat.le_refl _
  | setObj r o k ih =>
    intro w; simp only [Sem.run]
    split
    · exact Nat.le_refl _
    · exact ih { w with heap := w.heap.setIfInBounds r o }
    · exact Nat.le_refl _
  | choose q k ih =>
    intro w; simp only [Sem.run]
    split
    · exact ih _ _
    · exact Nat.le_trans (Nat.le_succ _) (ih _ { w with drawn := w.drawn + 1 })
  | sys c k ih => intro w; simp only [Sem.run]; exact Nat.le_trans (sys_drawn w c) (ih _ _)
  | program k ih => intro w; simp only [Sem.run]; exact ih _ _
  | mark m k ih => intro w; simp only [Sem.run]; exact ih _
  | halt h => intro w; simp [Sem.run, resW]
theorem runT_drawn {α : Type} (p : Program) (s : Sem α) (w : World) (es : Array Event) : w.drawn ≤ (resW (s.runT p w es).1).drawn := by
  rw [Sem.runT_fst]; exact run_drawn p s w
theorem run_ok {α : Type} {p : Program} {s : Sem α} {d : Nat} {w w' : World} {a : α} (hd : d ≤ w.drawn) (h : s.run p w = .ok a w') : d ≤ w'.drawn := by
  have := run_drawn p s w; rw [h] at this; exact Nat.le_trans hd this
theorem run_halt {α : Type} {p : Program} {s : Sem α} {d : Nat} {w w' : World} {a : Halt} (hd : d ≤ w.drawn) (h : s.run p w = .halt a w') : d ≤ w'.drawn := by
  have := run_drawn p s w; rw [h] at this; exact Nat.le_trans hd this
theorem runT_ok {α : Type} {p : Program} {s : Sem α} {d : Nat} {w w' : World} {es : Array Event} {a : α} (hd : d ≤ w.drawn) (h : (s.runT p w es).1 = .ok a w') : d ≤ w'.drawn := run_ok hd ((Sem.runT_fst p s w es).symm.trans h)
theorem runT_halt {α : Type} {p : Program} {s : Sem α} {d : Nat} {w w' : World} {es : Array Event} {a : Halt} (hd : d ≤ w.drawn) (h : (s.runT p w es).1 = .halt a w') : d ≤ w'.drawn := run_halt hd ((Sem.runT_fst p s w es).symm.trans h)
theorem runT_ok2 {α : Type} {p : Program} {s : Sem α} {d : Nat} {w w' : World} {es es' : Array Event} {a : α} (hd : d ≤ w.drawn) (h : s.runT p w es = (.ok a w', es')) : d ≤ w'.drawn := runT_ok (es := es) (s := s) hd (by rw [h])
theorem runT_halt2 {α : Type} {p : Program} {s : Sem α} {d : Nat} {w w' : World} {es es' : Array Event} {a : Halt} (hd : d ≤ w.drawn) (h : s.runT p w es = (.halt a w', es')) : d ≤ w'.drawn := runT_halt (es := es) (s := s) hd (by rw [h])
/-- a goroutine's step leaves a world that has drawn at least d times, unless it ends all -/
def geG (d : Nat) : GStep → Prop
  | .go _ w _ => d ≤ w.drawn
  | .comm _ _ _ _ w _ => d ≤ w.drawn
  | .spawn _ _ w _ => d ≤ w.drawn
  | .count _ w _ => d ≤ w.drawn
  | .timer _ _ w _ => d ≤ w.drawn
  | .alone _ _ w _ => d ≤ w.drawn
  | .newcoro _ _ _ w _ => d ≤ w.drawn
  | .coroswitch _ _ _ w _ => d ≤ w.drawn
  | .collect _ w _ => d ≤ w.drawn
  | .watch _ w _ => d ≤ w.drawn
  | .ended _ _ _ => True
theorem geG_after {d : Nat} {es : Array Event} {s : GStep} (h : geG d s) : geG d (GStep.after es s) := by cases s <;> exact h
section
variable {p : Program} {d : Nat} {w : World}
theorem ge_dieOf {fr : Frame} {l : List ByteArray} {m : String} {b : Bool} (h : d ≤ w.drawn) : geG d (dieOf fr l m b w) := h
theorem ge_endThrow {fr : Frame} {m : String} (h : d ≤ w.drawn) : geG d (endThrow fr m w) := h
theorem ge_endPrinting {fr : Frame} {v : Value} (h : d ≤ w.drawn) : geG d (endPrinting p fr v w) := by
  unfold endPrinting; simp only; split
  · exact h
  · trivial
theorem ge_endFatal {fr : Frame} {cs : List Frame} {dy : Option Dying} {m : String} (h : d ≤ w.drawn) : geG d (endFatal p fr cs dy m w) := by
  unfold endFatal
  simp only
  split
  · rename_i heq; exact run_ok h heq
  · trivial
  · trivial
theorem ge_endWith {fd : Nat} {t : ByteArray} {o : Outcome} : geG d (endWith w fd t o) := by
  unfold endWith; simp only
  repeat' split
  all_goals trivial
theorem ge_write_aux {fr : Frame} {dy : Dying} {f : Fatal} {rest : List ByteArray} (h : d ≤ w.drawn) (s : Sem Unit) : geG d (match s.runT p w #[] with
    | (.ok _ w, es) => GStep.go { frame := fr, callers := [], status := .running, dying := some { dy with fatal := some { f with pieces := rest, begun := true } } } w es
    | (.halt .blocked w, _) => GStep.go { frame := fr, callers := [], status := .blocked, dying := some { dy with fatal := some f } } w #[]
    | (.halt (.unsupported u) w, _) => GStep.ended (.unsupported u "") w
    | (.halt _ w, _) => GStep.ended (.stuck "the report of a fatal error" "") w) := by
  have hr := Nat.le_trans h (runT_drawn p s w #[])
  generalize Sem.runT p s w #[] = x at *
  obtain ⟨r, es⟩ := x
  cases r with
  | ok a w' => exact hr
  | halt a w' => cases a <;> first | trivial | exact hr
theorem ge_writeOn {fr : Frame} {dy : Dying} {f : Fatal} (h : d ≤ w.drawn) : geG d (writeOn p fr dy f w) := by
  unfold writeOn
  split
  · trivial
  · exact ge_write_aux h _
theorem ge_die {fr : Frame} {dy : Dying} (h : d ≤ w.drawn) : geG d (die p fr dy w) := by
  unfold die
  split
  · exact ge_writeOn h
  · split
    · split
      · exact h
      · exact ge_endWith
    · simp only
      split
      · exact h
      · split
        · rename_i heq; exact run_ok h heq
        · trivial
      · refine geG_after ?_
        split
        · rename_i heq; exact runT_ok h heq
        · rename_i heq; exact runT_ok h heq
        · trivial
        · rename_i heq; exact ge_endPrinting (runT_halt h heq)
        · trivial
      · trivial
theorem ge_doReturn {main : Bool} {fr : Frame} {cs : List Frame} {dy : Option Dying} {v : Value} (h : d ≤ w.drawn) : geG d (doReturn p main fr cs dy v w) := by
  unfold doReturn
  repeat' split
  all_goals first | trivial | exact h
theorem ge_callDeferred {fr : Frame} {cs : List Frame} {dy : Option Dying} {df : Deferred} (h : d ≤ w.drawn) : geG d (callDeferred p fr cs dy df w) := by
  unfold callDeferred
  have hr := Nat.le_trans h (runT_drawn p (invoke df.target df.args) w #[])
  generalize Sem.runT p (invoke df.target df.args) w #[] = x at *
  obtain ⟨r, es⟩ := x
  generalize ((df.target matches .nil) && (fr.mode matches .panicking _)) = b
  cases b
  · simp only [Bool.false_eq_true, if_false]
    refine geG_after ?_
    split
    all_goals first
      | trivial
      | exact hr
      | exact ge_endFatal hr
      | (split <;> exact hr)
  · trivial
theorem ge_unwind {main : Bool} {fr : Frame} {cs : List Frame} {dy : Option Dying} (h : d ≤ w.drawn) : geG d (unwind p main fr cs dy w) := by
  unfold unwind
  split
  · refine geG_after ?_
    split
    · rename_i heq; exact runT_ok h heq
    · trivial
  · exact ge_callDeferred h
  · split
    · trivial
    · split
      · trivial
      · split
        · exact h
        · split
          · split
            · exact h
            · split
              · rename_i heq; exact run_ok h heq
              · trivial
              · trivial
          · split
            · exact ge_endPrinting h
            · trivial
    · split
      · exact ge_doReturn h
      · refine geG_after ?_
        split
        · rename_i heq; exact ge_doReturn (runT_ok h heq)
        · trivial
        · trivial
theorem ge_early {fr : Frame} {cs : List Frame} {dy : Option Dying} {g : Nat} (h : d ≤ w.drawn) : geG d (early p fr cs dy g w) := by
  have hx : ∀ a w', Sem.run p (choose (.early g)) w = .ok a w' → d ≤ w'.drawn := fun _ _ e => run_ok h e
  unfold early
  simp only
  repeat' split
  all_goals first
    | trivial
    | exact h
    | (rename_i hh; have hq := hx _ _ hh; exact hq)
    | (rename_i hh _ _ _; have hq := hx _ _ hh; exact hq)
    | (rename_i hh _; have hq := hx _ _ hh; exact hq)
    | (rename_i hh _ _; have hq := hx _ _ hh; exact hq)
    | (rename_i hh _ _ _ _; have hq := hx _ _ hh; exact hq)
theorem ge_apply {ls : Bool} {fr : Frame} {cs : List Frame} {dy : Option Dying} {s : Sem Next} (h : d ≤ w.drawn) : geG d (stepG.apply p ls fr cs dy s w) := by
  unfold stepG.apply
  have hr : d ≤ (resW (if ls then s.runT p w #[] else (s.run p w, #[])).1).drawn := by
    split
    · exact Nat.le_trans h (runT_drawn p s w #[])
    · exact Nat.le_trans h (run_drawn p s w)
  generalize (if ls then s.runT p w #[] else (s.run p w, #[])) = x at *
  obtain ⟨r, es⟩ := x
  simp only
  refine geG_after ?_
  split
  all_goals first
    | trivial
    | exact hr
    | exact ge_endFatal hr
    | exact ge_early hr
    | (split <;> first | trivial | exact hr)
    | skip
  all_goals
    repeat' split
  all_goals first
    | trivial
    | exact hr
theorem ge_oper {ls : Bool} {fr : Frame} {cs : List Frame} {dy : Option Dying} (h : d ≤ w.drawn) : geG d (stepG.oper p ls fr cs dy w) := by
  unfold stepG.oper
  split
  · trivial
  · split <;> exact ge_apply h
theorem ge_leave {main : Bool} {fr : Frame} {cs : List Frame} {dy : Option Dying} {jump : Option Code} (h : d ≤ w.drawn) :
    geG d (match fr.roundOf with
      | none => if jump matches none | some .ret then GStep.go { frame := { fr with mode := .returning }, callers := cs, status := .running, dying := dy } w else .ended (.stuck "exit, goto: no such block or label" (fr.pos p)) w
      | some l =>
        let (r, es) := (Instr.endRound l jump).runT p w #[]
        GStep.after (seen p fr.fn es) <| match r with
        | .ok v w => doReturn p main fr cs dy v w
        | .halt _ w => .ended (.stuck "range over a function: no such loop" (fr.pos p)) w) := by
  split
  · generalize (jump matches none | some .ret) = b
    cases b
    · trivial
    · exact h
  · refine geG_after ?_
    split
    · rename_i heq; exact ge_doReturn (runT_ok h heq)
    · trivial
theorem ge_leave1 {main : Bool} {fr : Frame} {cs : List Frame} {dy : Option Dying} {jump : Option Code} {c : Prop} [Decidable c] {m : String} {e : Nat → Array Event} (h : d ≤ w.drawn) :
    geG d (match fr.roundOf with
      | none => if c then GStep.go { frame := { fr with mode := .returning }, callers := cs, status := .running, dying := dy } w else .ended (.stuck m (fr.pos p)) w
      | some l =>
        GStep.after (e l) (match (Sem.runT p (Instr.endRound l jump) w #[]).fst with
        | .ok v w => doReturn p main fr cs dy v w
        | .halt _ w => .ended (.stuck "range over a function: no such loop" (fr.pos p)) w)) := by
  split
  · split
    · exact h
    · trivial
  · refine geG_after ?_
    split
    · rename_i heq; exact ge_doReturn (runT_ok h heq)
    · trivial
theorem ge_elim {o : Option (List Item)} {a : GStep} {f : List Item → GStep} (ha : geG d a) (hf : ∀ k, geG d (f k)) : geG d (o.elim a f) := by
  cases o
  · exact ha
  · exact hf _
theorem ge_exec {main ls : Bool} {fr : Frame} {cs : List Frame} {dy : Option Dying} (h : d ≤ w.drawn) : geG d (stepG.exec p main ls fr cs dy w) := by
  unfold stepG.exec
  simp only
  split
  all_goals first
    | trivial
    | exact h
    | exact ge_apply h
    | exact ge_leave1 h
    | exact ge_elim (ge_leave1 h) (fun _ => h)
    | skip
  · split
    · exact h
    · trivial
  · refine geG_after ?_
    split
    · rename_i heq; exact ge_apply (runT_ok h heq)
    · trivial
  · refine geG_after ?_
    split
    · rename_i heq; exact runT_ok h heq
    · rename_i heq; exact runT_halt h heq
    · trivial
  · cases Extern.next _
    · trivial
    · exact ge_apply h
  · split
    · exact h
    · split
      · rename_i heq; exact run_ok h heq
      · trivial
  · split
    · exact ge_oper h
    · exact h
theorem ge_stepG {main ls : Bool} {g : Goroutine} (h : d ≤ w.drawn) : geG d (stepG p main g w ls) := by
  unfold stepG
  obtain ⟨fr, cs, st, dy, of⟩ := g
  simp only
  split
  · exact ge_die h
  · exact ge_exec h
  · exact ge_unwind h
end
def geS (d : Nat) : Stepped → Prop
  | .next m => d ≤ m.world.drawn
  | .ended _ _ => True
section
variable {p : Program} {d : Nat} {w : World}
theorem waitingAt_drawn {rest : Rest} {cs : Array CommCase} {w' : World} (h : waitingAt rest cs w = some w') : w'.drawn = w.drawn := by
  unfold waitingAt at h
  split at h
  · split at h
    · injection h with h; subst h; rfl
    · cases h
  · injection h with h; subst h; rfl
theorem ge_communicate {rest : Rest} {gs : Array Goroutine} {i : Nat} {g : Goroutine} {cs : Array CommCase} {b : Bool} {sh : CommShape} (h : d ≤ w.drawn) : geS d (communicate p rest gs i g cs b sh w).1 := by
  unfold communicate
  simp only
  split
  · trivial
  · split
    · split
      · split
        · rename_i heq; show d ≤ World.drawn _; rw [waitingAt_drawn heq]; exact h
        · trivial
      · exact h
    · split
      · trivial
      · rename_i heq
        have hr := run_ok h heq
        split
        · split
          · rename_i heq2; exact run_halt hr heq2
          · trivial
        · exact hr
        · exact hr
        · split
          · exact hr
          · split
            · rename_i heq2; have hq := run_ok hr heq2; exact hq
            · trivial
        · exact hr
        · exact hr
        · trivial
theorem ge_look {gs : Array Goroutine} {rest : Rest} (h : d ≤ w.drawn) : geS d (look p gs rest w) := by
  unfold look
  split
  · simp only
    split
    · trivial
    · split
      · trivial
      · split
        · rename_i heq; have hq := run_ok h heq; exact hq
        · trivial
        · trivial
  · trivial
theorem retime_drawn (m : Machine) (k : Nat) (t : Timer) (a b : Nat) : (retime m k t a b).2.world.drawn = m.world.drawn := by
  unfold retime
  simp only
  split
  · unfold drain; split <;> rfl
  · rfl
theorem timerOp_drawn {m m' : Machine} {op : TimerOp} {v : Value} (h : timerOp m op = .ok (v, m')) : m'.world.drawn = m.world.drawn := by
  unfold timerOp at h
  split at h
  · split at h
    · injection h with h; injection h with h1 h2; subst h2; rfl
    · split at h
      · split at h
        · cases h
        · injection h with h; injection h with h1 h2; subst h2; rfl
      · cases h
  · unfold timerOp.named at h
    split at h
    · injection h with h
      have h2 := congrArg Prod.snd h
      simp only at h2
      rw [← h2, retime_drawn]
    · cases h
  · split at h
    · rename_i m1 heq
      unfold timerOp.named at h
      split at h
      · injection h with h
        have h2 := congrArg Prod.snd h
        simp only at h2
        rw [← h2, retime_drawn]
        unfold timerOp.opened at heq
        split at heq
        · split at heq
          · injection heq with heq; subst heq; rfl
          · cases heq
        · injection heq with heq; subst heq; rfl
      · cases h
    · cases h
  · injection h with h; injection h with h1 h2; subst h2; rfl
theorem ge_runT {m : Machine} {i : Nat} {ls : Bool} (h : d ≤ m.world.drawn) : geS d (runT p m i ls).1 := by
  unfold runT
  simp only
  generalize hs : stepG p (i == 0) _ m.world ls = s
  have hg := ge_stepG (p := p) (main := i == 0) (ls := ls) (w := m.world) (d := d) (g := (m.gs.swapAt! i { (default : Goroutine) with status := .finished }).1) h
  rw [hs] at hg
  clear hs
  cases s with
  | ended o w' es => trivial
  | comm g cs b sh w' es => exact ge_communicate hg
  | go g w' es => exact hg
  | spawn g c w' es => exact hg
  | count g w' es =>
    simp only
    split
    · trivial
    · exact hg
  | alone g on w' es => exact hg
  | collect g w' es => exact ge_look hg
  | watch g w' es => exact hg
  | newcoro g c dd w' es => exact hg
  | coroswitch g c ex w' es =>
    simp only
    split
    · exact hg
    · exact hg
    · trivial
  | timer g op w' es =>
    simp only
    split
    · rename_i heq
      have := timerOp_drawn heq
      show d ≤ World.drawn _
      rw [this]; exact hg
    · exact hg
    · trivial
    · trivial
theorem ge_serve {m : Machine} {k : Nat} (h : d ≤ m.world.drawn) : geS d (serve p m k) := by
  unfold serve
  split
  · trivial
  · exact h
  · simp only
    split
    · trivial
    · exact h
def geM (d : Nat) : Move → Prop
  | .goroutine m _ => d ≤ m.world.drawn
  | .machine s _ => geS d s
theorem ge_pick {m : Machine} {rs : List Nat} (h : d ≤ m.world.drawn) : geM d
      (match (choose (.sched rs.length)).run p m.world with
      | .halt _ w => .machine (.ended (.stuck "sched" "") w)
      | .ok k world =>
        if rs.length ≤ 1 then .goroutine { m with world } (rs.getD k 0) else
        match (choose (.extern "sched.slice" 65536)).run p world with
        | .halt _ w => .machine (.ended (.stuck "sched.slice" "") w)
        | .ok n world => .goroutine { m with world, rest := { m.rest with slice := if n = 0 then none else some (rs.getD k 0, n) } } (rs.getD k 0)) := by
  split
  · trivial
  · rename_i heq
    have hq := run_ok h heq
    split
    · exact hq
    · split
      · trivial
      · rename_i heq2
        have hq2 := run_ok hq heq2
        exact hq2
theorem ge_askOn {m : Machine} (h : d ≤ m.world.drawn) : geM d (askOn p m) := by
  unfold askOn
  simp only
  generalize hx : Sem.run p (if (due m.rest.timers m.world.os.mono).isEmpty = true then pure 0
      else choose (.extern "timer.serve" ((due m.rest.timers m.world.os.mono).length + (if ((runnable m.gs m.world.os.mono).isEmpty && (ahead m false).isNone) = true then 0 else 1))) : Sem Nat) m.world = x
  have hw : d ≤ (resW x).drawn := by rw [← hx]; exact Nat.le_trans h (run_drawn p _ _)
  clear hx
  cases x with
  | halt a w' => trivial
  | ok k w' =>
    have hw' : d ≤ w'.drawn := hw
    simp only
    split
    · exact ge_serve (m := { m with world := w' }) hw'
    · split
      · split
        · exact hw'
        · split
          · exact hw'
          · split
            · trivial
            · trivial
      · split
        · exact ge_pick (m := { m with world := w' }) hw'
        · split
          · trivial
          · rename_i heq; exact ge_pick (m := { m with world := _ }) (run_ok hw' heq)
          · rename_i heq; have hq := run_ok hw' heq; exact hq
          · rename_i heq
            have hq := run_ok hw' heq
            exact ge_pick (m := Machine.advanceTo { m with world := _ } _) hq
theorem ge_ask {m : Machine} (h : d ≤ m.world.drawn) : geM d (ask p m) := by
  unfold ask
  split
  · split
    · trivial
    · rename_i heq
      have hl := ge_look (p := p) (gs := m.gs) (rest := m.rest) (run_ok h heq)
      split
      · rename_i heq2; rw [heq2] at hl; exact ge_askOn hl
      · rename_i e _ heq2; exact hl
    · rename_i heq; exact ge_askOn (m := { m with world := _ }) (run_ok h heq)
  · exact ge_askOn h
theorem ge_move {m : Machine} (h : d ≤ m.world.drawn) : geM d (move p m) := by
  unfold move
  split
  · split
    · exact h
    · trivial
  · split
    · split
      · exact h
      · exact ge_ask h
    · exact ge_ask h
theorem ge_step {m : Machine} (h : d ≤ m.world.drawn) : geS d (step p m) := by
  unfold step stepT
  have := ge_move (p := p) h
  split
  · rename_i heq; rw [heq] at this; exact ge_runT this
  · rename_i heq; rw [heq] at this; exact this
theorem ge_runN : ∀ (n : Nat) {m : Machine}, d ≤ m.world.drawn → geS d (runN p n m)
  | 0, _, h => h
  | n + 1, m, h => by
    unfold runN
    have := ge_step (p := p) h
    split
    · rename_i heq; rw [heq] at this; exact ge_runN n this
    · rename_i e heq; exact this
theorem steps_drawn {m m' : Machine} (h : Steps p m m') : m.world.drawn ≤ m'.world.drawn := by
  obtain ⟨n, hn⟩ := h
  have := ge_runN (p := p) n (Nat.le_refl m.world.drawn)
  rw [hn] at this
  exact this
/-- whatever a call returns: it has not drawn less than before -/
theorem calls_drawn {f : FuncId} {args : Array Value} {R : Ending → World → Prop} (h : Calls p f args w R) : Calls p f args w (fun e w' => R e w' ∧ (∀ v, e = .returned v → w.drawn ≤ w'.drawn)) := by
  intro cs
  obtain ⟨e, w', fr, hR, hc, h1, h2⟩ := h cs
  refine ⟨e, w', fr, ⟨hR, ?_⟩, hc, h1, h2⟩
  rintro v rfl
  exact steps_drawn hc
end
end Go.Proofs.YtikehdbkiplleaaGreatDoor
