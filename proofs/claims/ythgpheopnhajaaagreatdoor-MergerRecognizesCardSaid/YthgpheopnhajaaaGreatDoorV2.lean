/- The seat's texts, part 2 of 5. -/
import Derived.Test.YthgpheopnhajaaaGreatDoorV1
import Derived.Deep.RegionLaw
import Derived.IntWalk
import Derived.BigQuiet
import Derived.Laws.MakeOwn
import Derived.Laws.IdiomCopy
import Derived.Deep.RegionHeld3
import Derived.Lib.AppendIntMem

/- The walks over the program's integers: reading the groups of nine digits. -/
namespace Go.Proofs.YthgpheopnhajaaaGreatDoor
open Go.RowKit Go.Shelf
attribute [local go_sem] size_bs toList_bs extract_bs get_bs append_bs lit_append append_lit
def ucells (gs : List Nat) : List Value := gs.map fun g : Nat => Value.int .u64 (g : Int)
def RdU (w : World) (A : Option Addr) (gs : List Nat) : Prop := Reads w 1 A gs.length (ucells gs)
theorem RdU.ext {w w' : World} {A : Option Addr} {gs : List Nat} (h : RdU w A gs) (he : Ext w w') : RdU w' A gs := Reads.ext h he
theorem RdU.at_ {w : World} {A : Option Addr} {gs : List Nat} (h : RdU w A gs) {k : Nat} (hk : k < gs.length) :
    ∃ b o, A = some ⟨b, o, none⟩ ∧ b < w.heap.size ∧ w.cell? ⟨b, o + k, none⟩ = some (.int .u64 (gs[k]'hk)) := by
  obtain ⟨b, o, rfl, hb⟩ := Reads.at_ h (by omega)
  exact ⟨b, o, rfl, hb, Reads.cell h (by simp [ucells, hk])⟩
theorem u64Info : (Tryz.prog.info? 183).map (fun i => (i.zero, i.size, i.bytes)) = some (some (.int .u64 0), 1, 8) := by kernel_rfl
theorem parseU (l : Bs) (w : World) (hd : l.all isD = true) (h0 : l ≠ []) (hl : l.length ≤ 9) :
    Calls Tryz.prog 132 #[.string (bs l), .int .i64 10, .int .i64 64] w fun e w' => e = .returned (.tuple #[.int .u64 (natOf l), .nilIface]) ∧ Ext w w' := by
  refine (Tryz.strconv_ParseUint_10_at64_ok (bs l) (by rw [size_bs]; omega) (natOf l) (by rw [data_bs]; exact parse_small l hd h0 hl) w).mono ?_
  rintro e w' ⟨rfl, rfl | rfl⟩
  · exact ⟨rfl, Ext.refl _⟩
  · exact ⟨rfl, rfl, rfl, rfl, by rw [Lib.bytesWorld_size]; omega, fun k hk => Lib.bytesWorld_at_old w _ (bs l) k hk⟩
theorem results_num {fn : Func} {a : Tmp} (h : fn.results = #[.cell a 124]) (tmps : Array Value) (w : World) (g : Nat) (x y : Value) (ha : tmps.getD a undef = .pointer (some ⟨g, 0, none⟩)) (hb : Blk w g 124 #[x, y]) :
    (results fn tmps).run Tryz.prog w = .ok (.agg #[x, y]) w := by
  have h0 := hb.cell 0
  have h1 := hb.cell 1
  simp only [List.getElem?_toArray, List.getElem?_cons_zero, List.getElem?_cons_succ] at h0 h1
  unfold results
  rw [h]
  simp only [List.mapM_toArray, List.mapM_cons, List.mapM_nil, ha]
  go_simp
/-- a number: its sign, and its groups in memory -/
def NumEnds (neg : Bool) (gs : List Nat) (w : World) (e : Ending) (w' : World) : Prop :=
  ∃ A c, e = .returned (.agg #[.bool neg, .slice A gs.length c]) ∧ RdU w' A gs ∧ Ext w w' ∧ gs.length ≤ c ∧ c ≤ maxLen
theorem own_slice {w : World} {base : Nat} {e : TypeId} {size n : Nat} {v : Value} {xs : List Value} (h : w.ownsRow base e size v n xs) : ∃ A c, v = .slice A n c := by
  rcases h.2 with ⟨rfl, rfl⟩ | ⟨g, cap, cur, rfl, _⟩
  · exact ⟨none, 0, rfl⟩
  · exact ⟨_, _, rfl⟩
theorem own_cap {w : World} {base : Nat} {e : TypeId} {size n c : Nat} {A : Option Addr} {xs : List Value} (h : w.ownsRow base e size (.slice A n c) n xs) : n ≤ c ∧ c ≤ maxLen := by
  rcases h.2 with ⟨h1, h2⟩ | ⟨g, cap, cur, h1, _, _, h4, h5, _⟩
  · injection h1 with _ h3 h4; subst h3; subst h4; exact ⟨Nat.le_refl _, by unfold maxLen; omega⟩
  · injection h1 with _ _ h3; subst h3; exact ⟨h4, h5⟩
theorem own_ext2 {w w' : World} {base : Nat} {e : TypeId} {size n : Nat} {v : Value} {xs : List Value} (h : w.ownsRow base e size v n xs) (hx : Ext w w') : w'.ownsRow base e size v n xs := by
  rcases h.2 with ⟨h1, h2⟩ | ⟨g, cap, cur, h1, h2, h3, h4⟩
  · exact ⟨h.1, .inl ⟨h1, h2⟩⟩
  · have hlt : g < w.heap.size := (Array.getElem?_eq_some_iff.1 h3).1
    exact ⟨h.1, .inr ⟨g, cap, cur, h1, h2, (hx.block g hlt).trans h3, h4⟩⟩
theorem own_base {w : World} {base : Nat} {e : TypeId} {size n : Nat} {v : Value} {xs : List Value} (h : w.ownsRow base e size v n xs) : ∀ k, v.ownBlock = some k → base ≤ k := by
  rcases h.2 with ⟨rfl, _⟩ | ⟨g, cap, cur, rfl, h2, _⟩
  · intro k hk; cases hk
  · intro k hk; injection hk with hk; subst hk; exact h2
theorem Ext.grown {a w w' : World} {row : Option Nat} (h : Ext a w) (hg : w.grownBy w' row) (hr : ∀ k, row = some k → a.heap.size ≤ k) : Ext a w' :=
  ⟨hg.os.trans h.os, hg.tape.trans h.tape, hg.output.trans h.output, Nat.le_trans h.size hg.size, fun i hi => (hg.block i (Nat.lt_of_lt_of_le hi h.size) (fun e => by have := hr i e.symm; omega)).trans (h.block i hi)⟩
/-- how the loop of read stands -/
def ReadAt (m : Bs) (N : Nat) (w : World) (v z : Value) (wr : World) : Prop :=
  ∃ (y : Int) (done : List Nat), z = .int .i64 y ∧ -9 < y ∧ y ≤ m.length ∧ wr.ownsRow (w.heap.size + 1) 183 1 v done.length (ucells done) ∧ done ++ groupsOf (m.take y.toNat) = gr N ∧ Ext w wr ∧ Blk wr w.heap.size 124 #[.bool false, .slice none 0 0]
set_option maxRecDepth 100000 in
set_option maxHeartbeats 1000000 in
theorem intRead (l : Bs) (w : World) (hs : l.length ≤ 1000000) :
    Calls Tryz.prog 77 #[.string (bs l)] w (NumEnds (neg l) (gr (natOf (mag l))) w) := by
  obtain ⟨i0, hI, hz0, hz1, hz2⟩ := info_parts u64Info
  have hml := mag_le l
  have HG := Lib.hid (groupsOf_gr (mag l) (mag_all l) (mag_lead l))
  have HD := Lib.hid (mag_all l)
  have HGL : Hid ((gr (natOf (mag l))).length ≤ 1000000) := Lib.hid (by rw [← groupsOf_gr (mag l) (mag_all l) (mag_lead l)]; have := groupsOf_len (mag l); omega)
  have HI := Lib.hid hI
  have HS := Lib.hid (Nat.le_trans hml hs)
  have hls : l.length ≤ 1000000000 := by omega
  have HDIG := Lib.hid (fun w => intDigits l w hls)
  clear hI hml
  generalize hm : mag l = m at *
  generalize hN : natOf m = N at *
  generalize hng : neg l = ng at *
  clear hm hng hls hs hN
  go_enter Tryz.func77, Tryz.ntmps77
  go_wp2_with fail
  refine (HDIG.out _).mono ?_
  rintro e w1 ⟨rfl, hx1⟩
  have HBX := Lib.hid ((Blk.new w 124 #[.bool false, .slice none 0 0]).ext hx1)
  have HX1 := Lib.hid (Ext.of_alloc hx1)
  clear hx1 HDIG
  have hsm := HS.out
  go_wp2_with fail
  go_loopw [5, 6, 7, 8] (fun v z _ _ wr => ReadAt m N w v z wr) (fun _ z _ _ _ => (intOf z).toNat)
  case atStart => exact ⟨m.length, [], rfl, by omega, by omega, ⟨rfl, .inl ⟨rfl, rfl⟩⟩, by rw [Int.toNat_natCast, List.take_of_length_le (Nat.le_refl _), List.nil_append]; exact HG.out, HX1.out, HBX.out⟩
  case round =>
    obtain ⟨z, done, rfl, hz1', hz2', hown, hsum, hx, hbx⟩ := hrel
    have HOWN := Lib.hid hown
    have HSUM := Lib.hid hsum
    have HX := Lib.hid hx
    have HBXr := Lib.hid hbx
    clear hown hsum hx hbx
    by_cases hpos : 0 < z
    · obtain ⟨e, rfl⟩ : ∃ e : Nat, z = (e : Int) := ⟨z.toNat, by omega⟩
      have hel : e ≤ m.length := by omega
      have he0 : 0 < e := by omega
      have hck : ((m.take e).drop (e - 9)).length ≤ 9 := by rw [List.length_drop, List.length_take]; omega
      have HCK := Lib.hid hck
      have HCN : Hid ((m.take e).drop (e - 9) ≠ []) := Lib.hid (by intro h; have := congrArg List.length h; rw [List.length_drop, List.length_take] at this; simp at this; omega)
      have HCD : Hid (((m.take e).drop (e - 9)).all isD = true) := Lib.hid (all_drop (all_take HD.out e) _)
      have HST := Lib.hid (groups_step he0 hel)
      have hcc : List.take (e - (e - 9)) (List.drop (e - 9) m) = (m.take e).drop (e - 9) := List.drop_take.symm
      have hcc2 : (e : Int) < 9 → List.take e m = (m.take e).drop (e - 9) := by intro h; rw [show e - 9 = 0 by omega, List.drop_zero]
      have HLN : Hid (done.length ≤ 1000000) := Lib.hid (by
        have h1 := congrArg List.length HSUM.out
        rw [List.length_append] at h1
        have h2 := HGL.out; omega)
      clear hck
      have HNX : Hid (∀ (x : Nat), natOf ((m.take e).drop (e - 9)) = x → done ++ [x] ++ groupsOf (m.take (e - 9)) = gr N) := Lib.hid (fun x hx => by
        rw [← HSUM.out, Int.toNat_natCast, HST.out, hx]; simp)
      generalize (m.take e).drop (e - 9) = ch at *
      by_cases h9 : 9 ≤ (e : Int)
      · have hmx : max (0 : Int) ((e : Int) - 9) = (e : Int) - 9 := by omega
        go_wp2_with fail
        refine (parseU ch _ HCD.out HCN.out HCK.out).mono ?_
        generalize hx0 : natOf ch = x at *
        rintro e' w2 ⟨rfl, hx2⟩
        have HX2 := Lib.hid (HX.out.trans hx2)
        have HOW2 := Lib.hid (own_ext2 HOWN.out hx2)
        have HBX2 := Lib.hid (HBXr.out.ext hx2)
        have hln := HLN.out
        clear hx2 hcc hcc2
        go_wp2_with (at_builtin; refine wpList_append_lies _ rfl (.tmp 30) (.tmp 32) 122 rfl (w.heap.size + 1) 183 i0 _ 1 8 Tryz.underlying122 HI.out hz0 hz1 hz2 rfl (by decide) _ done.length (ucells done) rfl (own_ext2 HOW2.out (Ext.new _ _)) ⟨w2.heap.size, 0, none⟩ 1 1 [.int .u64 x] rfl rfl (World.news_of_block (heap_alloc_new w2 _)) (by simp [Value.oneCell']) (by omega) (by simp only [maxLen]; omega) (by omega) (by have := HX2.out.size; have := HBX2.out.lt; simp; omega) _ rfl ?_; intro g' cap' w' hown hgrow hat hlt')
        refine ⟨⟨(e : Int) - 9, done ++ [x], rfl, by omega, by omega, by simpa [ucells] using hown, by rw [show ((e : Int) - 9).toNat = e - 9 by omega]; exact HNX.out x rfl, Ext.grown (HX2.out.trans (Ext.new _ _)) hgrow (fun k hk => by have := own_base HOW2.out k hk; omega), (hgrow.block w.heap.size (by have := HBX2.out.lt; simp; omega) (fun e => by have := own_base HOW2.out w.heap.size e.symm; omega)).trans (HBX2.out.alloc _)⟩, by simp [intOf]; omega⟩
      · have hmx : max (0 : Int) ((e : Int) - 9) = 0 := by omega
        have hcd := hcc2 (by omega)
        clear hcc hcc2
        go_wp2_with fail
        refine (parseU ch _ HCD.out HCN.out HCK.out).mono ?_
        generalize hx0 : natOf ch = x at *
        rintro e' w2 ⟨rfl, hx2⟩
        have HX2 := Lib.hid (HX.out.trans hx2)
        have HOW2 := Lib.hid (own_ext2 HOWN.out hx2)
        have HBX2 := Lib.hid (HBXr.out.ext hx2)
        have hln := HLN.out
        clear hx2
        go_wp2_with (at_builtin; refine wpList_append_lies _ rfl (.tmp 30) (.tmp 32) 122 rfl (w.heap.size + 1) 183 i0 _ 1 8 Tryz.underlying122 HI.out hz0 hz1 hz2 rfl (by decide) _ done.length (ucells done) rfl (own_ext2 HOW2.out (Ext.new _ _)) ⟨w2.heap.size, 0, none⟩ 1 1 [.int .u64 x] rfl rfl (World.news_of_block (heap_alloc_new w2 _)) (by simp [Value.oneCell']) (by omega) (by simp only [maxLen]; omega) (by omega) (by have := HX2.out.size; have := HBX2.out.lt; simp; omega) _ rfl ?_; intro g' cap' w' hown hgrow hat hlt')
        refine ⟨⟨(e : Int) - 9, done ++ [x], rfl, by omega, by omega, by simpa [ucells] using hown, by rw [show ((e : Int) - 9).toNat = e - 9 by omega]; exact HNX.out x rfl, Ext.grown (HX2.out.trans (Ext.new _ _)) hgrow (fun k hk => by have := own_base HOW2.out k hk; omega), (hgrow.block w.heap.size (by have := HBX2.out.lt; simp; omega) (fun e => by have := own_base HOW2.out w.heap.size e.symm; omega)).trans (HBX2.out.alloc _)⟩, by simp [intOf]; omega⟩
    · have HDN : Hid (done = gr N) := Lib.hid (by have := HSUM.out; rw [show z.toNat = 0 by omega, List.take_zero, groupsOf_nil, List.append_nil] at this; exact this)
      obtain ⟨A, c, rfl⟩ := own_slice HOWN.out
      have q0 := HBXr.out.cell 0
      have q1 := HBXr.out.cell 1
      have f0 := HBXr.out.frozen 0
      have f1 := HBXr.out.frozen 1
      simp only [List.getElem?_toArray, List.getElem?_cons_zero, List.getElem?_cons_succ] at q0 q1
      go_wp2_with fail
      have hnb : (Value.slice A done.length c).ownBlock ≠ some w.heap.size := fun h => by have := own_base HOWN.out _ h; omega
      have hfin := own_set (own_set HOWN.out hnb (i := 0) (.bool ng)) hnb (i := 1) (.slice A done.length c)
      refine bodyPost_ret (results_num rfl _ _ w.heap.size (.bool ng) (.slice A done.length c) rfl ((HBXr.out.set_ 0 (.bool ng)).set_ 1 (.slice A done.length c))) rfl ?_
      have hcp := own_cap hfin
      rw [HDN.out] at hfin hcp ⊢
      exact ⟨A, c, rfl, Reads.own hfin, (HX.out.setCell (p := ⟨w.heap.size, 0, none⟩) (Nat.le_refl _) _).setCell (p := ⟨w.heap.size, 1, none⟩) (Nat.le_refl _) _, hcp.1, hcp.2⟩
end Go.Proofs.YthgpheopnhajaaaGreatDoor

/- Plain: cutting and comparing groups. No program in sight. -/
namespace Go.Proofs.YthgpheopnhajaaaGreatDoor
open Go.RowKit
theorem cutL_prefix (l : List Nat) : cutL l = l.take (cutL l).length := by
  induction l using snocInd with
  | h0 => rfl
  | h1 l g ih =>
    by_cases h : g = 0
    · subst h
      rw [cutL_snoc_zero]
      have hle : (cutL l).length ≤ l.length := by rw [ih, List.length_take]; omega
      rw [List.take_append_of_le_length hle]; exact ih
    · rw [cutL_snoc l h, List.take_length]
theorem cutL_le (l : List Nat) : (cutL l).length ≤ l.length := by
  have := congrArg List.length (cutL_prefix l); rw [List.length_take] at this; omega
theorem cutL_gr_self (n : Nat) : cutL (gr n) = gr n := by rw [cutL_gr (gr_lt n), gval_gr]
theorem gr_pow {n : Nat} (h : n ≠ 0) : B9 ^ ((gr n).length - 1) ≤ n := by
  induction n using Nat.strongRecOn with
  | ind n ih =>
    rw [gr_pos h, List.length_cons, Nat.add_sub_cancel]
    by_cases h0 : n / B9 = 0
    · rw [h0, gr_zero]; simp; omega
    · have h1 := ih (n / B9) (Nat.div_lt_self (by omega) (by decide)) h0
      have hl : (gr (n / B9)).length = (gr (n / B9)).length - 1 + 1 := by
        rw [gr_pos h0, List.length_cons]; omega
      rw [hl, Nat.pow_succ]
      have h2 := Nat.mul_le_mul_right B9 h1
      have h3 := Nat.div_mul_le_self n B9
      omega
theorem gr_lt_pow (n : Nat) : n < B9 ^ (gr n).length := by
  have h := gsum_lt (at0_bd (gr_lt n)) (gr n).length
  rw [← gval_gsum _ _ (Nat.le_refl _), gval_gr] at h; exact h
theorem gr_shorter {x y : Nat} (h : (gr x).length < (gr y).length) : x < y := by
  have h0 : y ≠ 0 := by intro e; subst e; rw [gr_zero] at h; simp at h
  have h1 := gr_lt_pow x
  have h2 := gr_pow h0
  have h3 : B9 ^ (gr x).length ≤ B9 ^ ((gr y).length - 1) := Nat.pow_le_pow_right (by decide) (by omega)
  omega
theorem gr_inj {x y : Nat} (h : gr x = gr y) : x = y := by rw [← gval_gr x, h, gval_gr]
/-- the highest group that differs decides -/
theorem gr_less {x y k : Nat} (hl : (gr x).length = (gr y).length) (hk : k < (gr x).length) (hk' : k < (gr y).length) (he : ∀ (j : Nat) (h1 : j < (gr x).length) (h2 : j < (gr y).length), k < j → (gr x)[j] = (gr y)[j]) (h : (gr x)[k] < (gr y)[k]) : x < y := by
  have := gsum_less (a := at0 (gr x)) (b := at0 (gr y)) (at0_bd (gr_lt x)) k (by rw [at0_lt hk, at0_lt hk']; exact h) (gr x).length hk (fun j hj hjl => by rw [at0_lt hjl, at0_lt (by omega)]; exact he j hjl (by omega) hj)
  rw [← gval_gsum _ _ (Nat.le_refl _), ← gval_gsum _ _ (by omega), gval_gr, gval_gr] at this
  exact this
end Go.Proofs.YthgpheopnhajaaaGreatDoor

/- The walks over the program's integers: cutting and comparing magnitudes. -/
namespace Go.Proofs.YthgpheopnhajaaaGreatDoor
open Go.RowKit
attribute [local go_sem] size_bs toList_bs
def slLen : Value → Nat | .slice _ n _ => n | _ => 0
theorem RdU.take {w : World} {A : Option Addr} {gs : List Nat} (h : RdU w A gs) (n : Nat) : RdU w A (gs.take n) := by
  refine ⟨by simp [ucells], fun hn => ?_⟩
  have h0 : 0 < gs.length := by rw [List.length_take] at hn; omega
  obtain ⟨b, o, rfl, hb, hc⟩ := h.2 h0
  refine ⟨b, o, rfl, hb, fun j u hu => hc j u ?_⟩
  unfold ucells at hu ⊢
  rw [List.map_take, List.getElem?_take] at hu
  split at hu
  · exact hu
  · cases hu
set_option maxHeartbeats 1000000 in
theorem intCut (gs : List Nat) (A : Option Addr) (c : Nat) (w : World) (hA : RdU w A gs) (hc : gs.length ≤ c) (hm : c ≤ maxLen) (hb : ∀ g ∈ gs, g < B9) :
    Calls Tryz.prog 135 #[.slice A gs.length c] w fun e w' => e = .returned (.slice A (cutL gs).length c) ∧ w = w' := by
  have HA := Lib.hid hA
  have HB := Lib.hid hb
  unfold maxLen at hm
  clear hA hb
  go_enter Tryz.func135, Tryz.ntmps135
  go_wp2_with fail
  go_loop [0] (fun v => ∃ k : Nat, k ≤ gs.length ∧ v = .slice A k c ∧ cutL (gs.take k) = cutL gs) (fun v => slLen v)
  case atStart => exact ⟨gs.length, Nat.le_refl _, rfl, by rw [List.take_length]⟩
  case round =>
    obtain ⟨k, hk, rfl, hz⟩ := hrel
    have HZ := Lib.hid hz
    clear hz
    rcases Nat.eq_zero_or_pos k with h0 | h0
    · subst h0
      have HL : Hid ((cutL gs).length = 0) := Lib.hid (by rw [← HZ.out]; rfl)
      go_wp2_with fail
      go_ret
      exact ⟨by rw [HL.out]; rfl, rfl⟩
    · obtain ⟨j, rfl⟩ : ∃ j, k = j + 1 := ⟨k - 1, by omega⟩
      have hj : j < gs.length := by omega
      obtain ⟨b, o, rfl, hbw, hcell⟩ := HA.out.at_ hj
      have hts : gs.take (j + 1) = gs.take j ++ [gs[j]] := List.take_succ_eq_append_getElem hj
      have HTS := Lib.hid hts
      clear hts
      by_cases hg : gs[j] = 0
      · have HN : Hid (cutL (gs.take j) = cutL gs) := Lib.hid (by rw [← HZ.out, HTS.out, hg, cutL_snoc_zero])
        rw [hg] at hcell
        clear hg
        go_wp2_with fail
        go_round
        case rel => exact ⟨j, by omega, rfl, HN.out⟩
        case measure => simp [slLen]
      · have HL : Hid ((cutL gs).length = j + 1) := Lib.hid (by rw [← HZ.out, HTS.out, cutL_snoc _ hg]; simp; omega)
        have hgb : ((gs[j] : Int) == 0) = false := by rw [beq_eq_false_iff_ne]; omega
        clear hg
        generalize (gs[j]'hj) = g at *
        go_wp2_with fail
        go_ret
        exact ⟨by rw [HL.out]; rfl, rfl⟩

def CmpEnds (x y : Nat) (w : World) (e : Ending) (w' : World) : Prop := Ext w w' ∧ ∃ r : Int, e = .returned (.int .i64 r) ∧ ((r < 0 ∧ x < y) ∨ (r = 0 ∧ x = y) ∨ (0 < r ∧ y < x))
/-- the same, with bounds of the answer -/
def CmpEndsB (x y : Nat) (w : World) (e : Ending) (w' : World) : Prop := Ext w w' ∧ ∃ r : Int, e = .returned (.int .i64 r) ∧ ((r < 0 ∧ x < y) ∨ (r = 0 ∧ x = y) ∨ (0 < r ∧ y < x)) ∧ -1000000 ≤ r ∧ r ≤ 1000000
set_option maxRecDepth 100000 in
set_option maxHeartbeats 1000000 in
theorem intCompareB (x y : Nat) (A A' : Option Addr) (c c' : Nat) (w : World) (hA : RdU w A (gr x)) (hA' : RdU w A' (gr y)) (hn : (gr x).length ≤ 1000000) (hn' : (gr y).length ≤ 1000000) :
    Calls Tryz.prog 78 #[.slice A (gr x).length c, .slice A' (gr y).length c'] w (CmpEndsB x y w) := by
  have HA := Lib.hid hA
  have HA' := Lib.hid hA'
  clear hA hA'
  by_cases hl : (gr x).length = (gr y).length
  · have HLL := Lib.hid hl
    have hbl : (((gr x).length : Int) != ((gr y).length : Int)) = false := by rw [bne_eq_false_iff_eq]; omega
    have HLS := Lib.hid (fun k (a : k < (gr x).length) (b : k < (gr y).length) he h => gr_less (x := x) (y := y) (k := k) hl a b he h)
    have HGT := Lib.hid (fun k (a : k < (gr y).length) (b : k < (gr x).length) he h => gr_less (x := y) (y := x) (k := k) hl.symm a b he h)
    have HEQ : Hid (gr x = gr y → x = y) := Lib.hid gr_inj
    generalize gr x = gx at *
    generalize gr y = gy at *
    clear hl
    go_enter Tryz.func78, Tryz.ntmps78
    go_wp2_with fail
    go_loopw [5, 23, 33] (fun z _ _ wr => ∃ k : Nat, k ≤ gx.length ∧ z = .int .i64 ((k : Int) - 1) ∧ (∀ (j : Nat) (h1 : j < gx.length) (h2 : j < gy.length), k ≤ j → gx[j] = gy[j]) ∧ Ext w wr) (fun z _ _ _ => (intOf z + 1).toNat)
    case atStart => exact ⟨gx.length, Nat.le_refl _, rfl, fun j h1 _ hj => absurd h1 (by omega), Ext.refl _⟩
    case round =>
      obtain ⟨k, hk, rfl, hz, hx⟩ := hrel
      have HZ := Lib.hid hz
      have HX := Lib.hid hx
      clear hz hx
      rcases Nat.eq_zero_or_pos k with h0 | h0
      · subst h0
        have HY : Hid (x = y) := Lib.hid (HEQ.out (List.ext_getElem HLL.out (fun j h1 h2 => HZ.out j h1 h2 (by omega))))
        go_wp2_with fail
        go_ret
        exact ⟨HX.out, 0, rfl, .inr (.inl ⟨rfl, HY.out⟩), by decide, by decide⟩
      · obtain ⟨j, rfl⟩ : ∃ j, k = j + 1 := ⟨k - 1, by omega⟩
        have hj : j < gx.length := by omega
        have hj' : j < gy.length := by have := HLL.out; omega
        obtain ⟨b, o, rfl, hbw, hcell⟩ := (HA.out.ext HX.out).at_ hj
        obtain ⟨b', o', rfl, hbw', hcell'⟩ := (HA'.out.ext HX.out).at_ hj'
        have e0 : ((j + 1 : Nat) : Int) - 1 = (j : Int) := by omega
        rw [e0]
        clear e0
        rcases Nat.lt_trichotomy (gx[j]'hj) (gy[j]'hj') with h | h | h
        · have HY : Hid (x < y) := Lib.hid (HLS.out j hj hj' (fun i h1 h2 hi => HZ.out i h1 h2 (by omega)) h)
          generalize (gx[j]'hj) = p at *
          generalize (gy[j]'hj') = q at *
          go_wp2_with fail
          go_quiet (fail)
          go_wp2_with fail
          go_ret
          exact ⟨HX.out.drewN _, -1, rfl, .inl ⟨by decide, HY.out⟩, by decide, by decide⟩
        · have HNX := Lib.hid (fun i (h1 : i < gx.length) (h2 : i < gy.length) (hi : j ≤ i) => (by
            rcases Nat.lt_or_ge j i with h' | h'
            · exact HZ.out i h1 h2 (by omega)
            · obtain rfl : i = j := by omega
              exact h : gx[i] = gy[i]))
          rw [← h] at hcell'
          generalize (gx[j]'hj) = p at *
          clear h
          go_wp2_with fail
          go_quiet (fail)
          go_wp2_with fail
          go_quiet (fail)
          go_wp2_with fail
          go_roundw
          case rel => exact ⟨j, by omega, rfl, HNX.out, HX.out.drewN _⟩
          case measure => simp [intOf]
        · have HY : Hid (y < x) := Lib.hid (HGT.out j hj' hj (fun i h1 h2 hi => (HZ.out i h2 h1 (by omega)).symm) h)
          have hb1 : ¬ (gx[j]'hj) < (gy[j]'hj') := by omega
          generalize (gx[j]'hj) = p at *
          generalize (gy[j]'hj') = q at *
          go_wp2_with fail
          go_quiet (fail)
          go_wp2_with fail
          go_quiet (fail)
          go_wp2_with fail
          go_ret
          exact ⟨(HX.out.drewN _).drewN _, 1, rfl, .inr (.inr ⟨by decide, HY.out⟩), by decide, by decide⟩
  · have hbl : (((gr x).length : Int) != ((gr y).length : Int)) = true := by rw [bne_iff_ne]; omega
    have HY : Hid (((((gr x).length : Int) - (gr y).length < 0) ∧ x < y) ∨ ((((gr x).length : Int) - (gr y).length = 0) ∧ x = y) ∨ ((0 < ((gr x).length : Int) - (gr y).length) ∧ y < x)) := Lib.hid (by
      rcases Nat.lt_or_ge (gr x).length (gr y).length with h | h
      · exact .inl ⟨by omega, gr_shorter h⟩
      · exact .inr (.inr ⟨by omega, gr_shorter (by omega)⟩))
    generalize gr x = gx at *
    generalize gr y = gy at *
    clear hl
    go_enter Tryz.func78, Tryz.ntmps78
    go_wp2_with fail
    go_ret
    exact ⟨Ext.refl _, _, rfl, HY.out, by omega, by omega⟩
theorem intCompare (x y : Nat) (A A' : Option Addr) (c c' : Nat) (w : World) (hA : RdU w A (gr x)) (hA' : RdU w A' (gr y)) (hn : (gr x).length ≤ 1000000) (hn' : (gr y).length ≤ 1000000) :
    Calls Tryz.prog 78 #[.slice A (gr x).length c, .slice A' (gr y).length c'] w (CmpEnds x y w) :=
  (intCompareB x y A A' c c' w hA hA' hn hn').mono (fun _ _ ⟨h1, r, h2, h3, _⟩ => ⟨h1, r, h2, h3⟩)
end Go.Proofs.YthgpheopnhajaaaGreatDoor

/- The walks over the program's integers: the difference of magnitudes. -/
namespace Go.Proofs.YthgpheopnhajaaaGreatDoor
open Go.RowKit
attribute [local go_sem] size_bs toList_bs
theorem oneU (gs : List Nat) : ∀ u ∈ ucells gs, u.oneCell' = true := by
  intro u hu; obtain ⟨g, _, rfl⟩ := List.mem_map.1 hu; rfl
def CloneU (gs : List Nat) (w : World) (e : Ending) (w' : World) : Prop :=
  ∃ A c, e = .returned (.slice A gs.length c) ∧ w'.ownsRow w.heap.size 183 1 (.slice A gs.length c) gs.length (ucells gs) ∧ Ext w w'
set_option maxRecDepth 100000 in
set_option maxHeartbeats 1000000 in
theorem cloneU (gs : List Nat) (A : Option Addr) (c : Nat) (w : World) (hA : RdU w A gs) (hn : gs.length ≤ 1000000) :
    Calls Tryz.prog 206 #[.slice A gs.length c] w (CloneU gs w) := by
  obtain ⟨i0, hI, hz0, hz1, hz2⟩ := info_parts u64Info
  have HI := Lib.hid hI
  clear hI
  cases A with
  | none =>
    have h0 : gs = [] := by
      rcases Nat.eq_zero_or_pos gs.length with h | h
      · exact List.length_eq_zero_iff.1 h
      · obtain ⟨b, o, e, _⟩ := hA.2 h; cases e
    subst h0
    clear hA
    have hnil : ∀ W : World, (binOp .eql 122 (.slice none 0 c) (.slice none 0 0)).run Tryz.prog W = .ok (.bool true) W := fun W => Lib.run_eql_slice_nil W _ _ _ _ _ _ _ Tryz.underlying122
    go_enter Tryz.func206, Tryz.ntmps206
    go_wp2_with fail
    go_ret
    exact ⟨none, 0, rfl, ⟨rfl, .inl ⟨rfl, rfl⟩⟩, Ext.refl _⟩
  | some a =>
    have hnil : ∀ W : World, (binOp .eql 122 (.slice (some a) gs.length c) (.slice none 0 0)).run Tryz.prog W = .ok (.bool false) W := fun W => Lib.run_eql_slice_nil W _ _ _ _ _ _ _ Tryz.underlying122
    rcases Nat.eq_zero_or_pos gs.length with h0 | h0
    · have h1 : gs = [] := List.length_eq_zero_iff.1 h0
      subst h1
      simp only [List.length_nil] at hnil
      clear hA h0
      go_enter Tryz.func206, Tryz.ntmps206
      have hr : ∀ ty, (Builtin.append_ #[122, 122] ty #[.slice (some ⟨w.heap.size, 0, none⟩) 0 0, .slice (some a) 0 c]).run Tryz.prog (w.alloc (.cells #[] 183)) = .ok (.slice (some ⟨w.heap.size, 0, none⟩) 0 0) (w.alloc (.cells #[] 183)) := fun ty =>
        run_append_room_cells _ _ ty 183 i0 Tryz.underlying122 HI.out w.heap.size 0 0 0 a 0 c [] (by simp) (by simp) (by simp) (Nat.le_refl _) (by simp) (by simp)
      go_wp2_with (at_builtin; refine Lib.wpList_append_run _ rfl (.tmp 5) (.tmp 6) _ _ rfl _ _ rfl rfl _ _ (hr _) ?_)
      go_ret
      exact ⟨some ⟨w.heap.size, 0, none⟩, 0, rfl, ⟨rfl, .inr ⟨w.heap.size, 0, #[], rfl, Nat.le_refl _, heap_alloc_new w _, Nat.le_refl _, by decide, rfl, rfl⟩⟩, Ext.new _ _⟩
    · obtain ⟨b, o, e, hb, hc⟩ := hA.2 h0
      injection e with e
      subst e
      have HC : Hid (∀ j u, (ucells gs)[j]? = some u → (w.alloc (.cells #[] 183)).cell? ((⟨b, o, none⟩ : Addr).add j) = some u) := Lib.hid (fun j u hu => by
        rw [Addr.add_lit]; exact ((Ext.new w _).cell (p := ⟨b, o + j, none⟩) hb).trans (hc j u hu))
      have HL : Hid ((ucells gs).length = gs.length * 1) := Lib.hid (by simp [ucells])
      clear hc hA
      go_enter Tryz.func206, Tryz.ntmps206
      go_wp2_with (at_builtin; refine wpList_append_lies _ rfl (.tmp 5) (.tmp 6) 122 rfl w.heap.size 183 i0 _ 1 8 Tryz.underlying122 HI.out hz0 hz1 hz2 rfl (by decide) _ 0 [] rfl ⟨rfl, .inr ⟨w.heap.size, 0, #[], rfl, Nat.le_refl _, heap_alloc_new w _, Nat.le_refl _, by decide, rfl, rfl⟩⟩ ⟨b, o, none⟩ gs.length c (ucells gs) rfl HL.out HC.out (oneU gs) h0 (by simp only [maxLen]; omega) (by omega) (by simp) _ rfl ?_; intro g cap w' hown hgrow hat hlt)
      go_ret
      simp only [Nat.zero_add, List.nil_append] at hown
      exact ⟨some ⟨g, 0, none⟩, cap, rfl, hown, Ext.only (Ext.new w (.cells #[] 183)) hgrow (Nat.le_refl _)⟩
/-- the groups of a difference, the first k of them done -/
def mixed (f : Nat → Nat) (gs : List Nat) (k : Nat) : List Nat := (List.range k).map f ++ gs.drop k
theorem mixed_len (f : Nat → Nat) (gs : List Nat) (k : Nat) (h : k ≤ gs.length) : (mixed f gs k).length = gs.length := by simp [mixed]; omega
theorem mixed_zero (f : Nat → Nat) (gs : List Nat) : mixed f gs 0 = gs := by simp [mixed]
theorem mixed_at (f : Nat → Nat) (gs : List Nat) (k : Nat) (h : k < gs.length) : (mixed f gs k)[k]? = some (gs[k]) := by
  unfold mixed; rw [List.getElem?_append_right (by simp)]; simp [h]
theorem mixed_set (f : Nat → Nat) (gs : List Nat) (k : Nat) (h : k < gs.length) : (mixed f gs k).set k (f k) = mixed f gs (k + 1) := by
  unfold mixed
  rw [List.set_append_right _ _ (by simp), List.range_succ, List.map_append]
  simp only [List.length_map, List.length_range, Nat.sub_self]
  rw [List.drop_eq_getElem_cons h, List.set_cons_zero, List.append_assoc]; rfl
theorem mixed_end (f : Nat → Nat) (gs : List Nat) : mixed f gs gs.length = (List.range gs.length).map f := by simp [mixed]
/-- a row of uint64 groups in a block of its own -/
def RowU (w : World) (g cap : Nat) (gs : List Nat) : Prop := ∃ cur, Row w g 183 1 gs.length cap (ucells gs) cur
theorem RowU.cell {w : World} {g cap : Nat} {gs : List Nat} (h : RowU w g cap gs) {k x : Nat} (hk : gs[k]? = some x) : w.cell? ⟨g, k, none⟩ = some (.int .u64 x) := by
  obtain ⟨cur, h⟩ := h; exact h.cell (by simp [ucells, hk])
theorem RowU.frozen {w : World} {g cap : Nat} {gs : List Nat} (h : RowU w g cap gs) (k : Nat) : w.frozen? ⟨g, k, none⟩ = false := by
  obtain ⟨cur, h⟩ := h; exact h.frozen k
theorem RowU.lt {w : World} {g cap : Nat} {gs : List Nat} (h : RowU w g cap gs) : g < w.heap.size := by obtain ⟨cur, h⟩ := h; exact h.blk.lt
theorem RowU.reads {w : World} {g cap : Nat} {gs : List Nat} (h : RowU w g cap gs) : RdU w (some ⟨g, 0, none⟩) gs := by obtain ⟨cur, h⟩ := h; exact h.reads
theorem RowU.caps {w : World} {g cap : Nat} {gs : List Nat} (h : RowU w g cap gs) : gs.length ≤ cap ∧ cap ≤ maxLen := by obtain ⟨cur, h⟩ := h; exact ⟨h.le, h.big⟩
theorem RowU.ext {w w' : World} {g cap : Nat} {gs : List Nat} (h : RowU w g cap gs) (hx : Ext w w') : RowU w' g cap gs := by obtain ⟨cur, h⟩ := h; exact ⟨cur, h.ext hx⟩
theorem RowU.set_ {w : World} {g cap : Nat} {gs : List Nat} (h : RowU w g cap gs) (k x : Nat) (_hk : k < gs.length) : RowU (w.setCell ⟨g, k, none⟩ (.int .u64 x)) g cap (gs.set k x) := by
  obtain ⟨cur, h⟩ := h
  have h1 := h.blk.set_ k (.int .u64 x)
  rw [List.setIfInBounds_toArray] at h1
  refine ⟨cur.set k (.int .u64 x), h1, by simp [ucells], by simpa using h.le, h.big, by simpa using h.full, ?_⟩
  rw [List.length_set, List.take_set, h.take]; simp [ucells, List.map_set]
end Go.Proofs.YthgpheopnhajaaaGreatDoor

/- The walk over the program's difference of magnitudes. -/
namespace Go.Proofs.YthgpheopnhajaaaGreatDoor
open Go.RowKit
attribute [local go_sem] size_bs toList_bs
def MagEnds (n : Nat) (w : World) (e : Ending) (w' : World) : Prop :=
  ∃ A c, e = .returned (.slice A (gr n).length c) ∧ RdU w' A (gr n) ∧ Ext w w' ∧ (gr n).length ≤ c ∧ c ≤ maxLen
theorem cut_mixed {x y : Nat} (h : y ≤ x) : cutL ((List.range (gr x).length).map (mi (at0 (gr x)) (at0 (gr y)))) = gr (x - y) := by
  have hl : (gr y).length ≤ (gr x).length := by
    rcases Nat.lt_or_ge (gr x).length (gr y).length with h1 | h1
    · have := gr_shorter h1; omega
    · exact h1
  have ha := at0_bd (gr_lt x)
  have hb := at0_bd (gr_lt y)
  have e1 : gsum (at0 (gr x)) (gr x).length = x := by rw [← gval_gsum _ _ (Nat.le_refl _), gval_gr]
  have e2 : gsum (at0 (gr y)) (gr x).length = y := by rw [← gval_gsum _ _ hl, gval_gr]
  rw [cutL_gr (by intro g hg; obtain ⟨k, _, rfl⟩ := List.mem_map.1 hg; exact mi_lt ha hb k), gval_range, minus_val ha hb (by rw [e1, e2]; exact h), e1, e2]
theorem RowU.put {w : World} {g cap : Nat} {gs : List Nat} (h : RowU w g cap gs) (k : Nat) (z : Int) (x : Nat) (hk : k < gs.length) (hz : z = (x : Int)) : RowU (w.setCell ⟨g, k, none⟩ (.int .u64 z)) g cap (gs.set k x) := by
  subst hz; exact h.set_ k x hk
theorem RowU.step1 {w : World} {g cap : Nat} {gs : List Nat} {f : Nat → Nat} {k : Nat} (h : RowU w g cap (mixed f gs k)) (hk : k < gs.length) (z : Int) (hz : z = (f k : Nat)) : RowU (w.setCell ⟨g, k, none⟩ (.int .u64 z)) g cap (mixed f gs (k + 1)) := by
  rw [← mixed_set f gs k hk]; exact h.put k z (f k) (by rw [mixed_len f gs k (by omega)]; exact hk) hz
theorem RowU.step2 {w : World} {g cap : Nat} {gs : List Nat} {f : Nat → Nat} {k : Nat} (h : RowU w g cap (mixed f gs k)) (hk : k < gs.length) (z1 z : Int) (u : Nat) (h1 : z1 = (u : Int)) (hz : z = (f k : Nat)) : RowU ((w.setCell ⟨g, k, none⟩ (.int .u64 z1)).setCell ⟨g, k, none⟩ (.int .u64 z)) g cap (mixed f gs (k + 1)) := by
  have hl : k < (mixed f gs k).length := by rw [mixed_len f gs k (by omega)]; exact hk
  have := (h.put k z1 u hl h1).put k z (f k) (by rw [List.length_set]; exact hl) hz
  rw [List.set_set, mixed_set f gs k hk] at this; exact this
set_option maxRecDepth 100000 in
set_option maxHeartbeats 2000000 in
theorem intMinus (x y : Nat) (hle : y ≤ x) (A A' : Option Addr) (c c' : Nat) (w : World) (hA : RdU w A (gr x)) (hA' : RdU w A' (gr y)) (hn : (gr x).length ≤ 1000000) (_hn' : (gr y).length ≤ 1000000) :
    Calls Tryz.prog 134 #[.slice A (gr x).length c, .slice A' (gr y).length c'] w (MagEnds (x - y) w) := by
  have HA := Lib.hid hA
  have HA' := Lib.hid hA'
  have HCM := Lib.hid (cut_mixed hle)
  have HBX := Lib.hid (at0_bd (gr_lt x))
  have HBY := Lib.hid (at0_bd (gr_lt y))
  have HZX : Hid (gr x = [] → x - y = 0) := Lib.hid (fun h => by have : x = 0 := gr_inj (by rw [h, gr_zero]); omega)
  generalize x - y = d at *
  generalize gr x = gx at *
  generalize gr y = gy at *
  clear hA hA' hle
  go_enter Tryz.func134, Tryz.ntmps134
  go_wp2_with fail
  refine (cloneU gx A c _ HA.out hn).mono ?_
  rintro e w1 ⟨A1, c1, rfl, hown, hx1⟩
  rcases Nat.eq_zero_or_pos gx.length with h0 | h0
  · have h1 : gx = [] := List.length_eq_zero_iff.1 h0
    subst h1
    have HD : Hid (gr d = []) := Lib.hid (by rw [HZX.out rfl, gr_zero])
    have HOW := Lib.hid (own_cap hown)
    have HX1 := Lib.hid hx1
    have HRD := Lib.hid (show RdU w1 A1 [] from Reads.own hown)
    clear hown hx1 h0
    simp only [List.length_nil] at *
    go_wp2_with fail
    go_loopw [13, 6, 7, 8] (fun i _ _ _ wr => i = .int .i64 0 ∧ wr = w1) (fun _ _ _ _ _ => 0)
    case atStart => exact ⟨rfl, rfl⟩
    case round =>
      obtain ⟨rfl, rfl⟩ := hrel
      go_wp2_with fail
      refine (intCut [] A1 c1 _ HRD.out HOW.out.1 HOW.out.2 (by simp)).mono ?_
      rintro e w9 ⟨rfl, rfl⟩
      go_wp2_with fail
      go_ret
      exact ⟨A1, c1, by rw [HD.out]; rfl, by rw [HD.out]; exact HRD.out, HX1.out, by rw [HD.out]; simp, HOW.out.2⟩
  · obtain ⟨g, cap, e1, hg, hlt⟩ := hown.form h0
    injection e1 with e1 _ e3
    subst e1; subst e3
    obtain ⟨hgb, cur, hrow⟩ := Row.of_own hown
    have HROW : Hid (RowU w1 g c1 (mixed (mi (at0 gx) (at0 gy)) gx 0)) := Lib.hid (by rw [mixed_zero]; exact ⟨cur, hrow⟩)
    have HX1 := Lib.hid hx1
    clear hrow hown hx1
    go_wp2_with fail
    go_loopw [13, 6, 7, 8] (fun i bo _ _ wr => ∃ k : Nat, k ≤ gx.length ∧ i = .int .i64 k ∧ bo = .int .u64 (bw (at0 gx) (at0 gy) k : Nat) ∧ RowU wr g c1 (mixed (mi (at0 gx) (at0 gy)) gx k) ∧ Ext w wr) (fun i _ _ _ _ => gx.length - (intOf i).toNat)
    case atStart => exact ⟨0, by omega, rfl, rfl, HROW.out, HX1.out⟩
    case round =>
      obtain ⟨k, hk, rfl, rfl, hrow, hx⟩ := hrel
      have HR := Lib.hid hrow
      have HX := Lib.hid hx
      clear hrow hx
      by_cases hlt2 : k < gx.length
      · have hcell := HR.out.cell (mixed_at (mi (at0 gx) (at0 gy)) gx k hlt2)
        have hfz := HR.out.frozen k
        have hax := HBX.out k
        have hby := HBY.out k
        have hbw := bw_le (at0 gx) (at0 gy) k
        have HST := Lib.hid (mixed_set (mi (at0 gx) (at0 gy)) gx k hlt2)
        have HMI : Hid (mi (at0 gx) (at0 gy) k = if at0 gx k < at0 gy k + bw (at0 gx) (at0 gy) k then at0 gx k + B9 - (at0 gy k + bw (at0 gx) (at0 gy) k) else at0 gx k - (at0 gy k + bw (at0 gx) (at0 gy) k)) := Lib.hid rfl
        have HBW : Hid (bw (at0 gx) (at0 gy) (k + 1) = if at0 gx k < at0 gy k + bw (at0 gx) (at0 gy) k then 1 else 0) := Lib.hid rfl
        rw [← at0_lt hlt2] at hcell
        have e9 : B9 = 1000000000 := rfl
        rw [e9] at hax hby
        clear e9
        by_cases hk2 : k < gy.length
        · obtain ⟨b, o, rfl, hbb, hcy⟩ := (HA'.out.ext HX.out).at_ hk2
          rw [← at0_lt hk2] at hcy
          generalize hpa : at0 gx k = p at *
          generalize hqa : at0 gy k = q at *
          generalize hra : bw (at0 gx) (at0 gy) k = r at *
          clear hpa hqa hra
          by_cases hlt3 : (p : Int) < (r : Int) + (q : Int)
          · have HZ : Hid ((p : Int) + 1000000000 - ((r : Int) + (q : Int)) = (mi (at0 gx) (at0 gy) k : Nat)) := Lib.hid (by rw [HMI.out, if_pos (by omega), show B9 = 1000000000 from rfl]; omega)
            have HB1 : Hid (bw (at0 gx) (at0 gy) (k + 1) = 1) := Lib.hid (by rw [HBW.out, if_pos (by omega)])
            go_wp2_with fail
            exact ⟨⟨k + 1, by omega, by go_num, by rw [HB1.out]; rfl, RowU.step2 HR.out hlt2 _ _ (p + 1000000000) (by omega) HZ.out, (HX.out.setCell (p := ⟨g, k, none⟩) hgb _).setCell (p := ⟨g, k, none⟩) hgb _⟩, by simp [intOf]; omega⟩
          · have HZ : Hid ((p : Int) - ((r : Int) + (q : Int)) = (mi (at0 gx) (at0 gy) k : Nat)) := Lib.hid (by rw [HMI.out, if_neg (by omega)]; omega)
            have HB1 : Hid (bw (at0 gx) (at0 gy) (k + 1) = 0) := Lib.hid (by rw [HBW.out, if_neg (by omega)])
            go_wp2_with fail
            exact ⟨⟨k + 1, by omega, by go_num, by rw [HB1.out]; rfl, RowU.step1 HR.out hlt2 _ HZ.out, HX.out.setCell (p := ⟨g, k, none⟩) hgb _⟩, by simp [intOf]; omega⟩
        · have hq0 : at0 gy k = 0 := at0_ge (by omega)
          rw [hq0] at HMI HBW hby
          generalize hpa : at0 gx k = p at *
          generalize hra : bw (at0 gx) (at0 gy) k = r at *
          clear hpa hra hq0
          by_cases hlt3 : (p : Int) < (r : Int)
          · have HZ : Hid ((p : Int) + 1000000000 - ((r : Int)) = (mi (at0 gx) (at0 gy) k : Nat)) := Lib.hid (by rw [HMI.out, if_pos (by omega), show B9 = 1000000000 from rfl]; omega)
            have HB1 : Hid (bw (at0 gx) (at0 gy) (k + 1) = 1) := Lib.hid (by rw [HBW.out, if_pos (by omega)])
            go_wp2_with fail
            exact ⟨⟨k + 1, by omega, by go_num, by rw [HB1.out]; rfl, RowU.step2 HR.out hlt2 _ _ (p + 1000000000) (by omega) HZ.out, (HX.out.setCell (p := ⟨g, k, none⟩) hgb _).setCell (p := ⟨g, k, none⟩) hgb _⟩, by simp [intOf]; omega⟩
          · have HZ : Hid ((p : Int) - ((r : Int)) = (mi (at0 gx) (at0 gy) k : Nat)) := Lib.hid (by rw [HMI.out, if_neg (by omega)]; omega)
            have HB1 : Hid (bw (at0 gx) (at0 gy) (k + 1) = 0) := Lib.hid (by rw [HBW.out, if_neg (by omega)])
            go_wp2_with fail
            exact ⟨⟨k + 1, by omega, by go_num, by rw [HB1.out]; rfl, RowU.step1 HR.out hlt2 _ HZ.out, HX.out.setCell (p := ⟨g, k, none⟩) hgb _⟩, by simp [intOf]; omega⟩
      · have hkl : k = gx.length := by omega
        have HRD := Lib.hid (show RdU wr (some ⟨g, 0, none⟩) ((List.range gx.length).map (mi (at0 gx) (at0 gy))) by have := HR.out.reads; rw [hkl, mixed_end] at this; exact this)
        have HCP := Lib.hid (show ((List.range gx.length).map (mi (at0 gx) (at0 gy))).length ≤ c1 ∧ c1 ≤ maxLen by have := HR.out.caps; rw [hkl, mixed_end] at this; exact this)
        have HML : Hid (∀ z ∈ (List.range gx.length).map (mi (at0 gx) (at0 gy)), z < B9) := Lib.hid (by intro z hz; obtain ⟨j, _, rfl⟩ := List.mem_map.1 hz; exact mi_lt HBX.out HBY.out j)
        have hll : ((List.range gx.length).map (mi (at0 gx) (at0 gy))).length = gx.length := by simp
        have HCUT := Lib.hid (fun W (hW : RdU W (some ⟨g, 0, none⟩) _) => intCut ((List.range gx.length).map (mi (at0 gx) (at0 gy))) (some ⟨g, 0, none⟩) c1 W hW HCP.out.1 HCP.out.2 HML.out)
        rw [hll, HCM.out] at HCUT
        have HPR := Lib.hid (cutL_prefix ((List.range gx.length).map (mi (at0 gx) (at0 gy))))
        have HLE := Lib.hid (cutL_le ((List.range gx.length).map (mi (at0 gx) (at0 gy))))
        rw [HCM.out] at HPR HLE
        clear hll hkl
        generalize (List.range gx.length).map (mi (at0 gx) (at0 gy)) = fin at *
        go_wp2_with fail
        refine (HCUT.out _ HRD.out).mono ?_
        rintro e w9 ⟨rfl, rfl⟩
        go_wp2_with fail
        go_ret
        exact ⟨some ⟨g, 0, none⟩, c1, rfl, by rw [HPR.out]; exact HRD.out.take _, HX.out, by have := HCP.out.1; have := HLE.out; omega, HCP.out.2⟩
end Go.Proofs.YthgpheopnhajaaaGreatDoor

/- The walk over the program's sum of magnitudes. -/
namespace Go.Proofs.YthgpheopnhajaaaGreatDoor
open Go.RowKit
attribute [local go_sem] size_bs toList_bs
theorem gr_len_mono {x y : Nat} (h : x ≤ y) : (gr x).length ≤ (gr y).length := by
  rcases Nat.lt_or_ge (gr y).length (gr x).length with h1 | h1
  · have := gr_shorter h1; omega
  · exact h1
theorem plus_no {x y : Nat} (hl : (gr y).length ≤ (gr x).length) (hc : cy (at0 (gr x)) (at0 (gr y)) (gr x).length = 0) : (List.range (gr x).length).map (pl (at0 (gr x)) (at0 (gr y))) = gr (x + y) := by
  have e1 : gsum (at0 (gr x)) (gr x).length = x := by rw [← gval_gsum _ _ (Nat.le_refl _), gval_gr]
  have e2 : gsum (at0 (gr y)) (gr x).length = y := by rw [← gval_gsum _ _ hl, gval_gr]
  have hs := plus_sum (at0 (gr x)) (at0 (gr y)) (gr x).length
  rw [hc, e1, e2, Nat.zero_mul, Nat.add_zero] at hs
  have hcut : cutL ((List.range (gr x).length).map (pl (at0 (gr x)) (at0 (gr y)))) = gr (x + y) := by
    rw [cutL_gr (by intro g hg; obtain ⟨k, _, rfl⟩ := List.mem_map.1 hg; exact pl_lt _ _ k), gval_range, hs]
  have hp := cutL_prefix ((List.range (gr x).length).map (pl (at0 (gr x)) (at0 (gr y))))
  rw [hcut] at hp
  have hlen := gr_len_mono (show x ≤ x + y by omega)
  rw [List.take_of_length_le (by simp; exact hlen)] at hp
  exact hp.symm
theorem plus_yes {x y : Nat} (hl : (gr y).length ≤ (gr x).length) (hc : cy (at0 (gr x)) (at0 (gr y)) (gr x).length ≠ 0) : (List.range (gr x).length).map (pl (at0 (gr x)) (at0 (gr y))) ++ [cy (at0 (gr x)) (at0 (gr y)) (gr x).length] = gr (x + y) := by
  have e1 : gsum (at0 (gr x)) (gr x).length = x := by rw [← gval_gsum _ _ (Nat.le_refl _), gval_gr]
  have e2 : gsum (at0 (gr y)) (gr x).length = y := by rw [← gval_gsum _ _ hl, gval_gr]
  have hs := plus_sum (at0 (gr x)) (at0 (gr y)) (gr x).length
  rw [e1, e2] at hs
  have hb := cy_le (at0_bd (gr_lt x)) (at0_bd (gr_lt y)) (gr x).length
  have hg : gval ((List.range (gr x).length).map (pl (at0 (gr x)) (at0 (gr y))) ++ [cy (at0 (gr x)) (at0 (gr y)) (gr x).length]) = x + y := by
    rw [gval_snoc, gval_range, List.length_map, List.length_range, hs]
  rw [← hg]; symm
  apply gr_gval
  · intro g hg
    rcases List.mem_append.1 hg with h | h
    · obtain ⟨k, _, rfl⟩ := List.mem_map.1 h; exact pl_lt _ _ k
    · simp at h; subst h; have : (1 : Nat) < B9 := by decide
      omega
  · intro r g e
    have := List.append_inj' e rfl
    simp at this; rw [← this.2]; exact hc
theorem RowU.drew {w : World} {g cap : Nat} {gs : List Nat} (h : RowU w g cap gs) : RowU w.drew g cap gs := by obtain ⟨cur, h⟩ := h; exact ⟨cur, h.drew⟩
theorem RowU.step3 {w : World} {g cap : Nat} {gs : List Nat} {f : Nat → Nat} {k : Nat} (h : RowU w g cap (mixed f gs k)) (hk : k < gs.length) (z1 z2 z : Int) (u1 u2 : Nat) (h1 : z1 = (u1 : Int)) (h2 : z2 = (u2 : Int)) (hz : z = (f k : Nat)) :
    RowU ((((w.setCell ⟨g, k, none⟩ (.int .u64 z1)).setCell ⟨g, k, none⟩ (.int .u64 z2)).setCell ⟨g, k, none⟩ (.int .u64 z)).drew) g cap (mixed f gs (k + 1)) := by
  have hl : k < (mixed f gs k).length := by rw [mixed_len f gs k (by omega)]; exact hk
  have := ((h.put k z1 u1 hl h1).put k z2 u2 (by rw [List.length_set]; exact hl) h2).put k z (f k) (by rw [List.length_set, List.length_set]; exact hl) hz
  rw [List.set_set, List.set_set, mixed_set f gs k hk] at this; exact this.drew
set_option maxRecDepth 100000 in
set_option maxHeartbeats 2000000 in
theorem intPlusGe (x y : Nat) (A A' : Option Addr) (c c' : Nat) (w : World) (hl : (gr y).length ≤ (gr x).length) (hA : RdU w A (gr x)) (hA' : RdU w A' (gr y)) (hn : (gr x).length ≤ 1000000) :
    Calls Tryz.prog 133 #[.slice A (gr x).length c, .slice A' (gr y).length c'] w (MagEnds (x + y) w) := by
  have HA := Lib.hid hA
  have HA' := Lib.hid hA'
  have HN := Lib.hid (fun h => plus_no (x := x) (y := y) hl h)
  have HY := Lib.hid (fun h => plus_yes (x := x) (y := y) hl h)
  have HBX := Lib.hid (at0_bd (gr_lt x))
  have HBY := Lib.hid (at0_bd (gr_lt y))
  generalize x + y = d at *
  generalize gr x = gx at *
  generalize gr y = gy at *
  clear hA hA'
  obtain ⟨i0, hI, hz0, hz1, hz2⟩ := info_parts u64Info
  have hsz : (Tryz.prog.info? 183).map (·.size) = some 1 := by rw [hI]; simp [hz1]
  have hlt : ¬ gx.length < gy.length := by omega
  obtain ⟨ROW, hRW, hmk⟩ : ∃ ROW : List Value, ROW.length = gx.length + 1 ∧ (Instr.makeSlice 122 (.int .i64 (gx.length : Int)) (.int .i64 ((gx.length : Int) + 1))).run Tryz.prog w = .ok (.slice (some ⟨w.heap.size, 0, none⟩) gx.length (gx.length + 1)) (w.alloc (.cells ROW.toArray 183)) := by
    have h := run_make (P := Tryz.prog) w 122 183 i0 _ Tryz.underlying122 hI hz0 .i64 .i64 (gx.length : Int) ((gx.length : Int) + 1) (by omega) (by omega) (by rw [hz2]; omega) (by omega)
    rw [hz1, show ((gx.length : Int) + 1).toNat = gx.length + 1 by omega, Int.toNat_natCast] at h
    exact ⟨(madeCells (Value.int .u64 0).cells ((gx.length + 1) * 1)).toList, by rw [Array.length_toList, size_madeCells]; simp, by rw [Array.toArray_toList]; exact h⟩
  have hR0 : Row (w.alloc (.cells ROW.toArray 183)) w.heap.size 183 1 0 (gx.length + 1) [] ROW := ⟨Blk.new w _ _, rfl, Nat.zero_le _, by unfold maxLen; omega, by rw [hRW]; simp, by simp⟩
  have hul : (ucells gx).length = gx.length := by simp [ucells]
  have hR1 : Row ((w.alloc (.cells ROW.toArray 183)).setCells w.heap.size 0 (ucells gx)) w.heap.size 183 1 gx.length (gx.length + 1) (ucells gx) (lsplice ROW 0 (ucells gx)) := hR0.put _ _ (by rw [hul]; omega) (by omega) (by rw [hul]; simp) (by unfold lsplice; simp [ucells])
  have hcp : ∀ ty, (Builtin.copy_ #[122, 122] ty #[.slice (some ⟨w.heap.size, 0, none⟩) gx.length (gx.length + 1), .slice A gx.length c]).run Tryz.prog (w.alloc (.cells ROW.toArray 183)) = .ok (goInt (gx.length : Nat)) ((w.alloc (.cells ROW.toArray 183)).setCells w.heap.size 0 (ucells gx)) := fun ty => by
    rcases Nat.eq_zero_or_pos gx.length with h0 | h0
    · have h1 : gx = [] := List.length_eq_zero_iff.1 h0
      subst h1
      exact run_copy_none _ _ _ ty 183 _ _ _ _ _ _ Tryz.underlying122 hsz rfl
    · obtain ⟨b, o, rfl, hb, hc⟩ := HA.out.2 h0
      exact run_copy_k _ _ _ ty 183 1 w.heap.size 0 gx.length (gx.length + 1) ⟨b, o, none⟩ gx.length c (ucells gx) Tryz.underlying122 hsz gx.length (Nat.min_self _) (by rw [hul]; simp)
        (fun j v hj => by rw [Addr.add_lit]; exact ((Ext.new w _).cell (p := ⟨b, o + j, none⟩) hb).trans (hc j v hj))
        (fun j hj => hR0.isSome_ (by rw [hul] at hj; omega)) (fun j _ => hR0.frozen _) (oneU gx)
  have HROW : Hid (RowU ((w.alloc (.cells ROW.toArray 183)).setCells w.heap.size 0 (ucells gx)) w.heap.size (gx.length + 1) (mixed (pl (at0 gx) (at0 gy)) gx 0)) := Lib.hid (by rw [mixed_zero]; exact ⟨_, hR1⟩)
  have HX1 : Hid (Ext w ((w.alloc (.cells ROW.toArray 183)).setCells w.heap.size 0 (ucells gx))) := Lib.hid (ext_sets _ _ _ () (Ext.new _ _) (Nat.le_refl _))
  have HI := Lib.hid hI
  clear hR0 hR1 hRW hul hsz hI
  generalize ucells gx = ucs at *
  go_enter Tryz.func133, Tryz.ntmps133
  go_wp2_with fail
  generalize (w.alloc (.cells ROW.toArray 183)).setCells w.heap.size 0 ucs = W0 at *
  clear hcp hmk
  go_loopw [26, 6, 7] (fun i ca _ wr => ∃ k : Nat, k ≤ gx.length ∧ i = .int .i64 k ∧ ca = .int .u64 (cy (at0 gx) (at0 gy) k : Nat) ∧ RowU wr w.heap.size (gx.length + 1) (mixed (pl (at0 gx) (at0 gy)) gx k) ∧ Ext w wr) (fun i _ _ _ => gx.length - (intOf i).toNat)
  case atStart => exact ⟨0, by omega, rfl, rfl, HROW.out, HX1.out⟩
  case round =>
    obtain ⟨k, hk, rfl, rfl, hrow, hx⟩ := hrel
    have HR := Lib.hid hrow
    have HX := Lib.hid hx
    clear hrow hx
    by_cases hlt2 : k < gx.length
    · have hcell := HR.out.cell (mixed_at (pl (at0 gx) (at0 gy)) gx k hlt2)
      have hfz := HR.out.frozen k
      have hgl := HR.out.lt
      have hax := HBX.out k
      have hby := HBY.out k
      have hcy := cy_le HBX.out HBY.out k
      have HPL : Hid (pl (at0 gx) (at0 gy) k = (at0 gx k + at0 gy k + cy (at0 gx) (at0 gy) k) % B9) := Lib.hid rfl
      have HCY : Hid (cy (at0 gx) (at0 gy) (k + 1) = (at0 gx k + at0 gy k + cy (at0 gx) (at0 gy) k) / B9) := Lib.hid rfl
      rw [← at0_lt hlt2] at hcell
      have e9 : B9 = 1000000000 := rfl
      rw [e9] at hax hby HPL HCY
      clear e9
      by_cases hk2 : k < gy.length
      · obtain ⟨b, o, rfl, hb0, hcy1⟩ := HA'.out.at_ hk2
        have hcb := (HX.out.cell (p := ⟨b, o + k, none⟩) hb0).trans hcy1
        have hbg : b ≠ w.heap.size := by omega
        have hbg' : w.heap.size ≠ b := by omega
        rw [← at0_lt hk2] at hcb
        generalize hpa : at0 gx k = p at *
        generalize hqa : at0 gy k = q at *
        generalize hra : cy (at0 gx) (at0 gy) k = r at *
        clear hpa hqa hra hcy1
        have HC1 : Hid (((p : Int) + (r : Int) + (q : Int)) / 1000000000 = (cy (at0 gx) (at0 gy) (k + 1) : Nat)) := Lib.hid (by rw [HCY.out]; omega)
        have HP1 : Hid (((p : Int) + (r : Int) + (q : Int)) % 1000000000 = (pl (at0 gx) (at0 gy) k : Nat)) := Lib.hid (by rw [HPL.out]; omega)
        go_wp2_with fail
        go_region
        go_wp2_with fail
        refine ⟨⟨k + 1, by omega, by go_num, by rw [HC1.out], ?_, ?_⟩, by simp [intOf]; omega⟩
        · exact RowU.step3 HR.out hlt2 _ _ _ (p + r) (p + r + q) (by omega) (by omega) HP1.out
        · exact (((HX.out.setCell (p := ⟨w.heap.size, k, none⟩) (Nat.le_refl _) _).setCell (p := ⟨w.heap.size, k, none⟩) (Nat.le_refl _) _).setCell (p := ⟨w.heap.size, k, none⟩) (Nat.le_refl _) _).drew
      · have hq0 : at0 gy k = 0 := at0_ge (by omega)
        rw [hq0] at HPL HCY hby
        generalize hpa : at0 gx k = p at *
        generalize hra : cy (at0 gx) (at0 gy) k = r at *
        clear hpa hra hq0
        have HC1 : Hid (((p : Int) + (r : Int)) / 1000000000 = (cy (at0 gx) (at0 gy) (k + 1) : Nat)) := Lib.hid (by rw [HCY.out]; omega)
        have HP1 : Hid (((p : Int) + (r : Int)) % 1000000000 = (pl (at0 gx) (at0 gy) k : Nat)) := Lib.hid (by rw [HPL.out]; omega)
        go_wp2_with fail
        exact ⟨⟨k + 1, by omega, by go_num, by rw [HC1.out], RowU.step2 HR.out hlt2 _ _ (p + r) (by omega) HP1.out, (HX.out.setCell (p := ⟨w.heap.size, k, none⟩) (Nat.le_refl _) _).setCell (p := ⟨w.heap.size, k, none⟩) (Nat.le_refl _) _⟩, by simp [intOf]; omega⟩
    · have hkl : k = gx.length := by omega
      have HRF : Hid (RowU wr w.heap.size (gx.length + 1) ((List.range gx.length).map (pl (at0 gx) (at0 gy)))) := Lib.hid (by have := HR.out; rw [hkl, mixed_end] at this; exact this)
      subst hkl
      by_cases hc0 : cy (at0 gx) (at0 gy) gx.length = 0
      · have HG := Lib.hid (HN.out hc0)
        rw [hc0]
        have hll : ((List.range gx.length).map (pl (at0 gx) (at0 gy))).length = gx.length := by simp
        have HGL : Hid ((gr d).length = gx.length) := Lib.hid (by rw [← HG.out]; exact hll)
        clear hc0 hll
        go_wp2_with fail
        go_ret
        exact ⟨some ⟨w.heap.size, 0, none⟩, gx.length + 1, by rw [HGL.out]; rfl, by rw [← HG.out]; exact HRF.out.reads, HX.out, by rw [HGL.out]; omega, by unfold maxLen; omega⟩
      · have HG := Lib.hid (HY.out hc0)
        obtain ⟨cur, hrw⟩ := HRF.out
        have hll : ((List.range gx.length).map (pl (at0 gx) (at0 gy))).length = gx.length := by simp
        rw [hll] at hrw
        have HOW := Lib.hid (hrw.own (base := w.heap.size) (Nat.le_refl _))
        have hgl := hrw.blk.lt
        generalize (List.range gx.length).map (pl (at0 gx) (at0 gy)) = fin at *
        generalize cy (at0 gx) (at0 gy) gx.length = r at *
        have hr0 : 0 < r := by omega
        have HFL : Hid (fin.length = gx.length) := Lib.hid hll
        clear hrw hll hc0
        go_wp2_with (at_builtin; refine wpList_append_lies _ rfl (.tmp 64) (.tmp 66) 122 rfl w.heap.size 183 i0 _ 1 8 Tryz.underlying122 HI.out hz0 hz1 hz2 rfl (by decide) _ gx.length (ucells fin) rfl (own_ext2 HOW.out (Ext.new _ _)) ⟨wr.heap.size, 0, none⟩ 1 1 [.int .u64 r] rfl rfl (World.news_of_block (heap_alloc_new wr _)) (by simp [Value.oneCell']) (by omega) (by simp only [maxLen]; omega) (by omega) (by simp; omega) _ rfl ?_; intro g' cap' w' hown hgrow hat hlt')
        go_ret
        have hcp := own_cap hown
        have hrd : RdU w' (some ⟨g', 0, none⟩) (fin ++ [r]) := by
          have := Reads.own hown
          unfold RdU; rw [List.length_append, HFL.out]; simpa [ucells] using this
        rw [HG.out] at hrd
        have hgd : (gr d).length = gx.length + 1 := by rw [← HG.out, List.length_append, HFL.out]; rfl
        exact ⟨some ⟨g', 0, none⟩, cap', by rw [hgd]; rfl, hrd, Ext.grown (HX.out.trans (Ext.new _ _)) hgrow (fun k hk => by have := own_base HOW.out k hk; omega), by rw [hgd]; exact hcp.1, hcp.2⟩
set_option maxRecDepth 100000 in
set_option maxHeartbeats 2000000 in
theorem intPlusLt (x y : Nat) (A A' : Option Addr) (c c' : Nat) (w : World) (hl' : (gr y).length < (gr x).length) (hA : RdU w A (gr x)) (hA' : RdU w A' (gr y)) (hn : (gr x).length ≤ 1000000) :
    Calls Tryz.prog 133 #[.slice A' (gr y).length c', .slice A (gr x).length c] w (MagEnds (x + y) w) := by
  have hl : (gr y).length ≤ (gr x).length := by omega
  have HA := Lib.hid hA
  have HA' := Lib.hid hA'
  have HN := Lib.hid (fun h => plus_no (x := x) (y := y) hl h)
  have HY := Lib.hid (fun h => plus_yes (x := x) (y := y) hl h)
  have HBX := Lib.hid (at0_bd (gr_lt x))
  have HBY := Lib.hid (at0_bd (gr_lt y))
  generalize x + y = d at *
  generalize gr x = gx at *
  generalize gr y = gy at *
  clear hA hA'
  obtain ⟨i0, hI, hz0, hz1, hz2⟩ := info_parts u64Info
  have hsz : (Tryz.prog.info? 183).map (·.size) = some 1 := by rw [hI]; simp [hz1]
  have hlt : gy.length < gx.length := by omega
  obtain ⟨ROW, hRW, hmk⟩ : ∃ ROW : List Value, ROW.length = gx.length + 1 ∧ (Instr.makeSlice 122 (.int .i64 (gx.length : Int)) (.int .i64 ((gx.length : Int) + 1))).run Tryz.prog w = .ok (.slice (some ⟨w.heap.size, 0, none⟩) gx.length (gx.length + 1)) (w.alloc (.cells ROW.toArray 183)) := by
    have h := run_make (P := Tryz.prog) w 122 183 i0 _ Tryz.underlying122 hI hz0 .i64 .i64 (gx.length : Int) ((gx.length : Int) + 1) (by omega) (by omega) (by rw [hz2]; omega) (by omega)
    rw [hz1, show ((gx.length : Int) + 1).toNat = gx.length + 1 by omega, Int.toNat_natCast] at h
    exact ⟨(madeCells (Value.int .u64 0).cells ((gx.length + 1) * 1)).toList, by rw [Array.length_toList, size_madeCells]; simp, by rw [Array.toArray_toList]; exact h⟩
  have hR0 : Row (w.alloc (.cells ROW.toArray 183)) w.heap.size 183 1 0 (gx.length + 1) [] ROW := ⟨Blk.new w _ _, rfl, Nat.zero_le _, by unfold maxLen; omega, by rw [hRW]; simp, by simp⟩
  have hul : (ucells gx).length = gx.length := by simp [ucells]
  have hR1 : Row ((w.alloc (.cells ROW.toArray 183)).setCells w.heap.size 0 (ucells gx)) w.heap.size 183 1 gx.length (gx.length + 1) (ucells gx) (lsplice ROW 0 (ucells gx)) := hR0.put _ _ (by rw [hul]; omega) (by omega) (by rw [hul]; simp) (by unfold lsplice; simp [ucells])
  have hcp : ∀ ty, (Builtin.copy_ #[122, 122] ty #[.slice (some ⟨w.heap.size, 0, none⟩) gx.length (gx.length + 1), .slice A gx.length c]).run Tryz.prog (w.alloc (.cells ROW.toArray 183)) = .ok (goInt (gx.length : Nat)) ((w.alloc (.cells ROW.toArray 183)).setCells w.heap.size 0 (ucells gx)) := fun ty => by
    rcases Nat.eq_zero_or_pos gx.length with h0 | h0
    · have h1 : gx = [] := List.length_eq_zero_iff.1 h0
      subst h1
      exact run_copy_none _ _ _ ty 183 _ _ _ _ _ _ Tryz.underlying122 hsz rfl
    · obtain ⟨b, o, rfl, hb, hc⟩ := HA.out.2 h0
      exact run_copy_k _ _ _ ty 183 1 w.heap.size 0 gx.length (gx.length + 1) ⟨b, o, none⟩ gx.length c (ucells gx) Tryz.underlying122 hsz gx.length (Nat.min_self _) (by rw [hul]; simp)
        (fun j v hj => by rw [Addr.add_lit]; exact ((Ext.new w _).cell (p := ⟨b, o + j, none⟩) hb).trans (hc j v hj))
        (fun j hj => hR0.isSome_ (by rw [hul] at hj; omega)) (fun j _ => hR0.frozen _) (oneU gx)
  have HROW : Hid (RowU ((w.alloc (.cells ROW.toArray 183)).setCells w.heap.size 0 (ucells gx)) w.heap.size (gx.length + 1) (mixed (pl (at0 gx) (at0 gy)) gx 0)) := Lib.hid (by rw [mixed_zero]; exact ⟨_, hR1⟩)
  have HX1 : Hid (Ext w ((w.alloc (.cells ROW.toArray 183)).setCells w.heap.size 0 (ucells gx))) := Lib.hid (ext_sets _ _ _ () (Ext.new _ _) (Nat.le_refl _))
  have HI := Lib.hid hI
  clear hR0 hR1 hRW hul hsz hI
  generalize ucells gx = ucs at *
  go_enter Tryz.func133, Tryz.ntmps133
  go_wp2_with fail
  generalize (w.alloc (.cells ROW.toArray 183)).setCells w.heap.size 0 ucs = W0 at *
  clear hcp hmk
  go_loopw [26, 6, 7] (fun i ca _ wr => ∃ k : Nat, k ≤ gx.length ∧ i = .int .i64 k ∧ ca = .int .u64 (cy (at0 gx) (at0 gy) k : Nat) ∧ RowU wr w.heap.size (gx.length + 1) (mixed (pl (at0 gx) (at0 gy)) gx k) ∧ Ext w wr) (fun i _ _ _ => gx.length - (intOf i).toNat)
  case atStart => exact ⟨0, by omega, rfl, rfl, HROW.out, HX1.out⟩
  case round =>
    obtain ⟨k, hk, rfl, rfl, hrow, hx⟩ := hrel
    have HR := Lib.hid hrow
    have HX := Lib.hid hx
    clear hrow hx
    by_cases hlt2 : k < gx.length
    · have hcell := HR.out.cell (mixed_at (pl (at0 gx) (at0 gy)) gx k hlt2)
      have hfz := HR.out.frozen k
      have hgl := HR.out.lt
      have hax := HBX.out k
      have hby := HBY.out k
      have hcy := cy_le HBX.out HBY.out k
      have HPL : Hid (pl (at0 gx) (at0 gy) k = (at0 gx k + at0 gy k + cy (at0 gx) (at0 gy) k) % B9) := Lib.hid rfl
      have HCY : Hid (cy (at0 gx) (at0 gy) (k + 1) = (at0 gx k + at0 gy k + cy (at0 gx) (at0 gy) k) / B9) := Lib.hid rfl
      rw [← at0_lt hlt2] at hcell
      have e9 : B9 = 1000000000 := rfl
      rw [e9] at hax hby HPL HCY
      clear e9
      by_cases hk2 : k < gy.length
      · obtain ⟨b, o, rfl, hb0, hcy1⟩ := HA'.out.at_ hk2
        have hcb := (HX.out.cell (p := ⟨b, o + k, none⟩) hb0).trans hcy1
        have hbg : b ≠ w.heap.size := by omega
        have hbg' : w.heap.size ≠ b := by omega
        rw [← at0_lt hk2] at hcb
        generalize hpa : at0 gx k = p at *
        generalize hqa : at0 gy k = q at *
        generalize hra : cy (at0 gx) (at0 gy) k = r at *
        clear hpa hqa hra hcy1
        have HC1 : Hid (((p : Int) + (r : Int) + (q : Int)) / 1000000000 = (cy (at0 gx) (at0 gy) (k + 1) : Nat)) := Lib.hid (by rw [HCY.out]; omega)
        have HP1 : Hid (((p : Int) + (r : Int) + (q : Int)) % 1000000000 = (pl (at0 gx) (at0 gy) k : Nat)) := Lib.hid (by rw [HPL.out]; omega)
        go_wp2_with fail
        go_region
        go_wp2_with fail
        refine ⟨⟨k + 1, by omega, by go_num, by rw [HC1.out], ?_, ?_⟩, by simp [intOf]; omega⟩
        · exact RowU.step3 HR.out hlt2 _ _ _ (p + r) (p + r + q) (by omega) (by omega) HP1.out
        · exact (((HX.out.setCell (p := ⟨w.heap.size, k, none⟩) (Nat.le_refl _) _).setCell (p := ⟨w.heap.size, k, none⟩) (Nat.le_refl _) _).setCell (p := ⟨w.heap.size, k, none⟩) (Nat.le_refl _) _).drew
      · have hq0 : at0 gy k = 0 := at0_ge (by omega)
        rw [hq0] at HPL HCY hby
        generalize hpa : at0 gx k = p at *
        generalize hra : cy (at0 gx) (at0 gy) k = r at *
        clear hpa hra hq0
        have HC1 : Hid (((p : Int) + (r : Int)) / 1000000000 = (cy (at0 gx) (at0 gy) (k + 1) : Nat)) := Lib.hid (by rw [HCY.out]; omega)
        have HP1 : Hid (((p : Int) + (r : Int)) % 1000000000 = (pl (at0 gx) (at0 gy) k : Nat)) := Lib.hid (by rw [HPL.out]; omega)
        go_wp2_with fail
        exact ⟨⟨k + 1, by omega, by go_num, by rw [HC1.out], RowU.step2 HR.out hlt2 _ _ (p + r) (by omega) HP1.out, (HX.out.setCell (p := ⟨w.heap.size, k, none⟩) (Nat.le_refl _) _).setCell (p := ⟨w.heap.size, k, none⟩) (Nat.le_refl _) _⟩, by simp [intOf]; omega⟩
    · have hkl : k = gx.length := by omega
      have HRF : Hid (RowU wr w.heap.size (gx.length + 1) ((List.range gx.length).map (pl (at0 gx) (at0 gy)))) := Lib.hid (by have := HR.out; rw [hkl, mixed_end] at this; exact this)
      subst hkl
      by_cases hc0 : cy (at0 gx) (at0 gy) gx.length = 0
      · have HG := Lib.hid (HN.out hc0)
        rw [hc0]
        have hll : ((List.range gx.length).map (pl (at0 gx) (at0 gy))).length = gx.length := by simp
        have HGL : Hid ((gr d).length = gx.length) := Lib.hid (by rw [← HG.out]; exact hll)
        clear hc0 hll
        go_wp2_with fail
        go_ret
        exact ⟨some ⟨w.heap.size, 0, none⟩, gx.length + 1, by rw [HGL.out]; rfl, by rw [← HG.out]; exact HRF.out.reads, HX.out, by rw [HGL.out]; omega, by unfold maxLen; omega⟩
      · have HG := Lib.hid (HY.out hc0)
        obtain ⟨cur, hrw⟩ := HRF.out
        have hll : ((List.range gx.length).map (pl (at0 gx) (at0 gy))).length = gx.length := by simp
        rw [hll] at hrw
        have HOW := Lib.hid (hrw.own (base := w.heap.size) (Nat.le_refl _))
        have hgl := hrw.blk.lt
        generalize (List.range gx.length).map (pl (at0 gx) (at0 gy)) = fin at *
        generalize cy (at0 gx) (at0 gy) gx.length = r at *
        have hr0 : 0 < r := by omega
        have HFL : Hid (fin.length = gx.length) := Lib.hid hll
        clear hrw hll hc0
        go_wp2_with (at_builtin; refine wpList_append_lies _ rfl (.tmp 64) (.tmp 66) 122 rfl w.heap.size 183 i0 _ 1 8 Tryz.underlying122 HI.out hz0 hz1 hz2 rfl (by decide) _ gx.length (ucells fin) rfl (own_ext2 HOW.out (Ext.new _ _)) ⟨wr.heap.size, 0, none⟩ 1 1 [.int .u64 r] rfl rfl (World.news_of_block (heap_alloc_new wr _)) (by simp [Value.oneCell']) (by omega) (by simp only [maxLen]; omega) (by omega) (by simp; omega) _ rfl ?_; intro g' cap' w' hown hgrow hat hlt')
        go_ret
        have hcp := own_cap hown
        have hrd : RdU w' (some ⟨g', 0, none⟩) (fin ++ [r]) := by
          have := Reads.own hown
          unfold RdU; rw [List.length_append, HFL.out]; simpa [ucells] using this
        rw [HG.out] at hrd
        have hgd : (gr d).length = gx.length + 1 := by rw [← HG.out, List.length_append, HFL.out]; rfl
        exact ⟨some ⟨g', 0, none⟩, cap', by rw [hgd]; rfl, hrd, Ext.grown (HX.out.trans (Ext.new _ _)) hgrow (fun k hk => by have := own_base HOW.out k hk; omega), by rw [hgd]; exact hcp.1, hcp.2⟩
theorem intPlus (x y : Nat) (A A' : Option Addr) (c c' : Nat) (w : World) (hA : RdU w A (gr x)) (hA' : RdU w A' (gr y)) (hn : (gr x).length ≤ 1000000) (hn' : (gr y).length ≤ 1000000) :
    Calls Tryz.prog 133 #[.slice A (gr x).length c, .slice A' (gr y).length c'] w (MagEnds (x + y) w) := by
  rcases Nat.lt_or_ge (gr x).length (gr y).length with h | h
  · rw [Nat.add_comm]; exact intPlusLt y x A' A c' c w h hA' hA hn'
  · exact intPlusGe x y A A' c c' w h hA hA' hn
end Go.Proofs.YthgpheopnhajaaaGreatDoor

/- The walk over the program's sum of numbers. -/
namespace Go.Proofs.YthgpheopnhajaaaGreatDoor
open Go.RowKit
attribute [local go_sem] size_bs toList_bs
theorem blk_at (w : World) (t : TypeId) (cs : Array Value) (g : Nat) (hg : w.heap.size = g) : Blk (w.alloc (.cells cs t)) g t cs := by subst hg; exact Blk.new w t cs
theorem RdU.far {w : World} {A : Option Addr} {gs : List Nat} (h : RdU w A gs) {g i : Nat} (u : Value) (hne : 0 < gs.length → ∀ b o, A = some ⟨b, o, none⟩ → b ≠ g) : RdU (w.setCell ⟨g, i, none⟩ u) A gs := by
  refine ⟨h.1, fun hn => ?_⟩
  obtain ⟨b, o, rfl, hb, hc⟩ := h.2 hn
  have hbg := hne hn b o rfl
  refine ⟨b, o, rfl, by simpa [World.setCell] using hb, fun j v hv => ?_⟩
  rw [← hc j v hv]
  unfold World.cell?
  rw [Below.heap_setCell w ⟨g, i, none⟩ u b hbg]
/-- groups don't lie in a box that holds a number -/
theorem RdU.box {w : World} {A : Option Addr} {gs : List Nat} (h : RdU w A gs) {g : Nat} {t : TypeId} {x : Bool} {B : Option Addr} {n c : Nat} (hb : Blk w g t #[.bool x, .slice B n c]) : 0 < gs.length → ∀ b o, A = some ⟨b, o, none⟩ → b ≠ g := by
  intro hn b o e hbg
  subst e; subst hbg
  have h0 := Reads.cell h (j := 0) (u := .int .u64 (gs[0]'hn)) (by simp [ucells, hn])
  rw [Nat.add_zero, hb.cell o] at h0
  match o, h0 with
  | 0, h0 => simp at h0
  | 1, h0 => simp at h0
  | o + 2, h0 => simp at h0
def sgn (b : Bool) (n : Nat) : Int := if b then -(n : Int) else n
def AddEnds (z : Int) (w : World) (e : Ending) (w' : World) : Prop :=
  ∃ b n A c, e = .returned (.agg #[.bool b, .slice A (gr n).length c]) ∧ sgn b n = z ∧ RdU w' A (gr n) ∧ Ext w w' ∧ (gr n).length ≤ c ∧ c ≤ maxLen
set_option maxRecDepth 100000 in
set_option maxHeartbeats 2000000 in
theorem intAdd_same (b : Bool) (x y : Nat) (A A' : Option Addr) (c c' : Nat) (w : World) (hA : RdU w A (gr x)) (hA' : RdU w A' (gr y)) (hn : (gr x).length ≤ 1000000) (hn' : (gr y).length ≤ 1000000) :
    Calls Tryz.prog 79 #[.agg #[.bool b, .slice A (gr x).length c], .agg #[.bool b, .slice A' (gr y).length c']] w (AddEnds (sgn b x + sgn b y) w) := by
  have HA := Lib.hid hA
  have HA' := Lib.hid hA'
  have HPL := Lib.hid (fun W h1 h2 => intPlus x y A A' c c' W h1 h2 hn hn')
  have HS : Hid (sgn b (x + y) = sgn b x + sgn b y) := Lib.hid (by unfold sgn; cases b <;> simp; omega)
  generalize gr x = gx at *
  generalize gr y = gy at *
  clear hA hA'
  have HX0 : Hid (Ext w (((w.alloc (.cells #[.bool b, .slice A gx.length c] 124)).alloc (.cells #[.bool b, .slice A' gy.length c'] 124)).alloc (.cells #[.bool false, .slice none 0 0] 124))) := Lib.hid (((Ext.new _ _).alloc _).alloc _)
  have HBR := Lib.hid (blk_at ((w.alloc (.cells #[.bool b, .slice A gx.length c] 124)).alloc (.cells #[.bool b, .slice A' gy.length c'] 124)) 124 #[.bool false, .slice none 0 0] (w.heap.size + 1 + 1) (by simp))
  have hn1 : w.heap.size ≠ w.heap.size + 1 + 1 := by omega
  have hn2 : w.heap.size + 1 + 1 ≠ w.heap.size := by omega
  have hn3 : ¬ (w.heap.size = w.heap.size + 1 + 1) := by omega
  go_enter Tryz.func79, Tryz.ntmps79
  go_wp2_with fail
  go_region_held3 (fun w' => w'.cell? ⟨w.heap.size, 0, none⟩ = some (.bool b) ∧ w'.cell? ⟨w.heap.size, 1, none⟩ = some (.slice A gx.length c) ∧ w'.cell? ⟨w.heap.size + 1, 1, none⟩ = some (.slice A' gy.length c'))
    (go_keep)
    (first
      | (go_at_call 133; refine (HPL.out _ (HA.out.ext HX0.out.drew) (HA'.out.ext HX0.out.drew)).mono ?_; rintro e w1 ⟨A1, c1, rfl, hrd, hx1, hc1, hc2⟩; have hbr := HBR.out.drew.ext hx1; have hq0 := hbr.cell 0; have hq1 := hbr.cell 1; have hf0 := hbr.frozen 0; have hf1 := hbr.frozen 1; have hbx := ((((blk_at w 124 #[.bool b, .slice A gx.length c] w.heap.size rfl).alloc (.cells #[.bool b, .slice A' gy.length c'] 124)).alloc (.cells #[.bool false, .slice none 0 0] 124)).drew).ext hx1; have hy0 := hbx.cell 0; have hy1 := hbx.cell 1; have hby := (((blk_at (w.alloc (.cells #[.bool b, .slice A gx.length c] 124)) 124 #[.bool b, .slice A' gy.length c'] (w.heap.size + 1) (by simp)).alloc (.cells #[.bool false, .slice none 0 0] 124)).drew).ext hx1; have hz1 := hby.cell 1; simp only [List.getElem?_toArray, List.getElem?_cons_zero, List.getElem?_cons_succ] at hq0 hq1 hy0 hy1 hz1; have HBR1 := Lib.hid hbr; have HX1 := Lib.hid (HX0.out.drew.trans hx1); have HRD := Lib.hid hrd; have HC := Lib.hid (And.intro hc1 hc2); clear hbr hbx hby hx1 hrd hc1 hc2))
  all_goals
    go_wp2_with fail
    refine bodyPost_ret (results_num rfl _ _ (w.heap.size + 1 + 1) (.bool b) (.slice A1 (gr (x + y)).length c1) rfl ((HBR1.out.set_ 0 (.bool b)).set_ 1 (.slice A1 (gr (x + y)).length c1))) rfl ?_
    have hne := HRD.out.box HBR1.out
    exact ⟨b, x + y, A1, c1, rfl, HS.out, (HRD.out.far (.bool b) hne).far _ hne, (HX1.out.setCell (p := ⟨w.heap.size + 1 + 1, 0, none⟩) (by show w.heap.size ≤ w.heap.size + 1 + 1; omega) _).setCell (p := ⟨w.heap.size + 1 + 1, 1, none⟩) (by show w.heap.size ≤ w.heap.size + 1 + 1; omega) _, HC.out.1, HC.out.2⟩
end Go.Proofs.YthgpheopnhajaaaGreatDoor

/- The walk over the program's sum of numbers of different signs. -/
namespace Go.Proofs.YthgpheopnhajaaaGreatDoor
open Go.RowKit
attribute [local go_sem] size_bs toList_bs
set_option maxRecDepth 100000 in
set_option maxHeartbeats 2000000 in
theorem intAdd_diff (b : Bool) (x y : Nat) (A A' : Option Addr) (c c' : Nat) (w : World) (hA : RdU w A (gr x)) (hA' : RdU w A' (gr y)) (hn : (gr x).length ≤ 1000000) (hn' : (gr y).length ≤ 1000000) :
    Calls Tryz.prog 79 #[.agg #[.bool b, .slice A (gr x).length c], .agg #[.bool (!b), .slice A' (gr y).length c']] w (AddEnds (sgn b x + sgn (!b) y) w) := by
  have HA := Lib.hid hA
  have HA' := Lib.hid hA'
  have HCP := Lib.hid (fun W h1 h2 => intCompare x y A A' c c' W h1 h2 hn hn')
  have HM1 := Lib.hid (fun h W h1 h2 => intMinus x y h A A' c c' W h1 h2 hn hn')
  have HM2 := Lib.hid (fun h W h1 h2 => intMinus y x h A' A c' c W h1 h2 hn' hn)
  have HS1 : Hid (y ≤ x → sgn b (x - y) = sgn b x + sgn (!b) y) := Lib.hid (by intro h; unfold sgn; cases b <;> simp <;> omega)
  have HS2 : Hid (x ≤ y → sgn (!b) (y - x) = sgn b x + sgn (!b) y) := Lib.hid (by intro h; unfold sgn; cases b <;> simp <;> omega)
  generalize gr x = gx at *
  generalize gr y = gy at *
  clear hA hA'
  have hbb : (b == !b) = false := by cases b <;> rfl
  generalize hnb : (!b) = nb at *
  clear hnb
  have HX0 : Hid (Ext w (((w.alloc (.cells #[.bool b, .slice A gx.length c] 124)).alloc (.cells #[.bool nb, .slice A' gy.length c'] 124)).alloc (.cells #[.bool false, .slice none 0 0] 124))) := Lib.hid (((Ext.new _ _).alloc _).alloc _)
  have HBR := Lib.hid (blk_at ((w.alloc (.cells #[.bool b, .slice A gx.length c] 124)).alloc (.cells #[.bool nb, .slice A' gy.length c'] 124)) 124 #[.bool false, .slice none 0 0] (w.heap.size + 1 + 1) (by simp))
  have HBX := Lib.hid (((blk_at w 124 #[.bool b, .slice A gx.length c] w.heap.size rfl).alloc (.cells #[.bool nb, .slice A' gy.length c'] 124)).alloc (.cells #[.bool false, .slice none 0 0] 124))
  have HBY := Lib.hid ((blk_at (w.alloc (.cells #[.bool b, .slice A gx.length c] 124)) 124 #[.bool nb, .slice A' gy.length c'] (w.heap.size + 1) (by simp)).alloc (.cells #[.bool false, .slice none 0 0] 124))
  have hn1 : w.heap.size ≠ w.heap.size + 1 + 1 := by omega
  have hn2 : w.heap.size + 1 + 1 ≠ w.heap.size := by omega
  have hn3 : ¬ (w.heap.size = w.heap.size + 1 + 1) := by omega
  go_enter Tryz.func79, Tryz.ntmps79
  go_wp2_with fail
  refine (HCP.out _ (HA.out.ext HX0.out) (HA'.out.ext HX0.out)).mono ?_
  rintro e w1 ⟨hx1, r, rfl, hcase⟩
  have hbx := HBX.out.ext hx1
  have hby := HBY.out.ext hx1
  have hbr := HBR.out.ext hx1
  have x0 := hbx.cell 0
  have x1 := hbx.cell 1
  have y0 := hby.cell 0
  have y1 := hby.cell 1
  have xf0 := hbx.frozen 0
  have xf1 := hbx.frozen 1
  have yf0 := hby.frozen 0
  have yf1 := hby.frozen 1
  simp only [List.getElem?_toArray, List.getElem?_cons_zero, List.getElem?_cons_succ] at x0 x1 y0 y1
  have HX1 := Lib.hid (HX0.out.trans hx1)
  have HBX1 := Lib.hid hbx
  have HBY1 := Lib.hid hby
  have HBR1 := Lib.hid hbr
  clear hbx hby hbr hx1 HX0 HBX HBY HBR
  by_cases hr : r < 0
  · have hle : x ≤ y := by omega
    have HM := Lib.hid (HM2.out hle)
    have HS := Lib.hid (HS2.out hle)
    clear hcase hle
    have HBXW : Hid (Blk ((((w1.setCell ⟨w.heap.size, 0, none⟩ (.bool nb)).setCell ⟨w.heap.size, 1, none⟩ (.slice A' gy.length c')).setCell ⟨w.heap.size + 1, 0, none⟩ (.bool b)).setCell ⟨w.heap.size + 1, 1, none⟩ (.slice A gx.length c)) w.heap.size 124 #[.bool nb, .slice A' gy.length c']) := Lib.hid ((((HBX1.out.set_ 0 (.bool nb)).set_ 1 (.slice A' gy.length c')).far (p := ⟨w.heap.size + 1, 0, none⟩) (by show w.heap.size ≠ w.heap.size + 1; omega) _).far (p := ⟨w.heap.size + 1, 1, none⟩) (by show w.heap.size ≠ w.heap.size + 1; omega) _)
    have HBYW : Hid (Blk ((((w1.setCell ⟨w.heap.size, 0, none⟩ (.bool nb)).setCell ⟨w.heap.size, 1, none⟩ (.slice A' gy.length c')).setCell ⟨w.heap.size + 1, 0, none⟩ (.bool b)).setCell ⟨w.heap.size + 1, 1, none⟩ (.slice A gx.length c)) (w.heap.size + 1) 124 #[.bool b, .slice A gx.length c]) := Lib.hid ((((HBY1.out.far (p := ⟨w.heap.size, 0, none⟩) (by show w.heap.size + 1 ≠ w.heap.size; omega) (.bool nb)).far (p := ⟨w.heap.size, 1, none⟩) (by show w.heap.size + 1 ≠ w.heap.size; omega) (.slice A' gy.length c')).set_ 0 (.bool b)).set_ 1 (.slice A gx.length c))
    have HBRW : Hid (Blk ((((w1.setCell ⟨w.heap.size, 0, none⟩ (.bool nb)).setCell ⟨w.heap.size, 1, none⟩ (.slice A' gy.length c')).setCell ⟨w.heap.size + 1, 0, none⟩ (.bool b)).setCell ⟨w.heap.size + 1, 1, none⟩ (.slice A gx.length c)) (w.heap.size + 1 + 1) 124 #[.bool false, .slice none 0 0]) := Lib.hid ((((HBR1.out.far (p := ⟨w.heap.size, 0, none⟩) (by show w.heap.size + 1 + 1 ≠ w.heap.size; omega) _).far (p := ⟨w.heap.size, 1, none⟩) (by show w.heap.size + 1 + 1 ≠ w.heap.size; omega) _).far (p := ⟨w.heap.size + 1, 0, none⟩) (by show w.heap.size + 1 + 1 ≠ w.heap.size + 1; omega) _).far (p := ⟨w.heap.size + 1, 1, none⟩) (by show w.heap.size + 1 + 1 ≠ w.heap.size + 1; omega) _)
    have HXW : Hid (Ext w ((((w1.setCell ⟨w.heap.size, 0, none⟩ (.bool nb)).setCell ⟨w.heap.size, 1, none⟩ (.slice A' gy.length c')).setCell ⟨w.heap.size + 1, 0, none⟩ (.bool b)).setCell ⟨w.heap.size + 1, 1, none⟩ (.slice A gx.length c))) := Lib.hid ((((HX1.out.setCell (p := ⟨w.heap.size, 0, none⟩) (Nat.le_refl _) _).setCell (p := ⟨w.heap.size, 1, none⟩) (Nat.le_refl _) _).setCell (p := ⟨w.heap.size + 1, 0, none⟩) (Nat.le_succ _) _).setCell (p := ⟨w.heap.size + 1, 1, none⟩) (Nat.le_succ _) _)
    go_wp2_with fail
    generalize ((((w1.setCell ⟨w.heap.size, 0, none⟩ (.bool nb)).setCell ⟨w.heap.size, 1, none⟩ (.slice A' gy.length c')).setCell ⟨w.heap.size + 1, 0, none⟩ (.bool b)).setCell ⟨w.heap.size + 1, 1, none⟩ (.slice A gx.length c)) = W at *
    have x0' := HBXW.out.cell 0
    have x1' := HBXW.out.cell 1
    have y1' := HBYW.out.cell 1
    simp only [List.getElem?_toArray, List.getElem?_cons_zero, List.getElem?_cons_succ] at x0' x1' y1'
    go_region_held3 (fun w' => w'.cell? ⟨w.heap.size, 0, none⟩ = some (.bool nb) ∧ w'.cell? ⟨w.heap.size, 1, none⟩ = some (.slice A' gy.length c') ∧ w'.cell? ⟨w.heap.size + 1, 1, none⟩ = some (.slice A gx.length c))
      (go_keep)
      (first
        | (go_at_call 134; refine (HM.out _ (HA'.out.ext HXW.out.drew) (HA.out.ext HXW.out.drew)).mono ?_; rintro e w2 ⟨A1, c1, rfl, hrd, hx2, hc1, hc2⟩; have hbr := HBRW.out.drew.ext hx2; have q0 := hbr.cell 0; have q1 := hbr.cell 1; have f0 := hbr.frozen 0; have f1 := hbr.frozen 1; have hbx := HBXW.out.drew.ext hx2; have u0 := hbx.cell 0; have u1 := hbx.cell 1; have hby := HBYW.out.drew.ext hx2; have v1 := hby.cell 1; simp only [List.getElem?_toArray, List.getElem?_cons_zero, List.getElem?_cons_succ] at q0 q1 u0 u1 v1; have HBR2 := Lib.hid hbr; have HX2 := Lib.hid (HXW.out.drew.trans hx2); have HRD := Lib.hid hrd; have HC := Lib.hid (And.intro hc1 hc2); clear hbr hbx hby hx2 hrd hc1 hc2))
    all_goals
      go_wp2_with fail
      refine bodyPost_ret (results_num rfl _ _ (w.heap.size + 1 + 1) (.bool nb) (.slice A1 (gr (y - x)).length c1) rfl ((HBR2.out.set_ 0 (.bool nb)).set_ 1 (.slice A1 (gr (y - x)).length c1))) rfl ?_
      have hne := HRD.out.box HBR2.out
      exact ⟨nb, y - x, A1, c1, rfl, HS.out, (HRD.out.far (.bool nb) hne).far _ hne, (HX2.out.setCell (p := ⟨w.heap.size + 1 + 1, 0, none⟩) (by show w.heap.size ≤ w.heap.size + 1 + 1; omega) _).setCell (p := ⟨w.heap.size + 1 + 1, 1, none⟩) (by show w.heap.size ≤ w.heap.size + 1 + 1; omega) _, HC.out.1, HC.out.2⟩
  · have hle : y ≤ x := by omega
    have HM := Lib.hid (HM1.out hle)
    have HS := Lib.hid (HS1.out hle)
    clear hcase hle
    go_wp2_with fail
    have HBXW := HBX1
    have HBYW := HBY1
    have HBRW := HBR1
    have HXW := HX1
    go_region_held3 (fun w' => w'.cell? ⟨w.heap.size, 0, none⟩ = some (.bool b) ∧ w'.cell? ⟨w.heap.size, 1, none⟩ = some (.slice A gx.length c) ∧ w'.cell? ⟨w.heap.size + 1, 1, none⟩ = some (.slice A' gy.length c'))
      (go_keep)
      (first
        | (go_at_call 134; refine (HM.out _ (HA.out.ext HXW.out.drew) (HA'.out.ext HXW.out.drew)).mono ?_; rintro e w2 ⟨A1, c1, rfl, hrd, hx2, hc1, hc2⟩; have hbr := HBRW.out.drew.ext hx2; have q0 := hbr.cell 0; have q1 := hbr.cell 1; have f0 := hbr.frozen 0; have f1 := hbr.frozen 1; have hbx := HBXW.out.drew.ext hx2; have u0 := hbx.cell 0; have u1 := hbx.cell 1; have hby := HBYW.out.drew.ext hx2; have v1 := hby.cell 1; simp only [List.getElem?_toArray, List.getElem?_cons_zero, List.getElem?_cons_succ] at q0 q1 u0 u1 v1; have HBR2 := Lib.hid hbr; have HX2 := Lib.hid (HXW.out.drew.trans hx2); have HRD := Lib.hid hrd; have HC := Lib.hid (And.intro hc1 hc2); clear hbr hbx hby hx2 hrd hc1 hc2))
    all_goals
      go_wp2_with fail
      refine bodyPost_ret (results_num rfl _ _ (w.heap.size + 1 + 1) (.bool b) (.slice A1 (gr (x - y)).length c1) rfl ((HBR2.out.set_ 0 (.bool b)).set_ 1 (.slice A1 (gr (x - y)).length c1))) rfl ?_
      have hne := HRD.out.box HBR2.out
      exact ⟨b, x - y, A1, c1, rfl, HS.out, (HRD.out.far (.bool b) hne).far _ hne, (HX2.out.setCell (p := ⟨w.heap.size + 1 + 1, 0, none⟩) (by show w.heap.size ≤ w.heap.size + 1 + 1; omega) _).setCell (p := ⟨w.heap.size + 1 + 1, 1, none⟩) (by show w.heap.size ≤ w.heap.size + 1 + 1; omega) _, HC.out.1, HC.out.2⟩
theorem intAdd (b b' : Bool) (x y : Nat) (A A' : Option Addr) (c c' : Nat) (w : World) (hA : RdU w A (gr x)) (hA' : RdU w A' (gr y)) (hn : (gr x).length ≤ 1000000) (hn' : (gr y).length ≤ 1000000) :
    Calls Tryz.prog 79 #[.agg #[.bool b, .slice A (gr x).length c], .agg #[.bool b', .slice A' (gr y).length c']] w (AddEnds (sgn b x + sgn b' y) w) := by
  by_cases h : b' = b
  · subst h; exact intAdd_same b' x y A A' c c' w hA hA' hn hn'
  · have e : b' = !b := by cases b <;> cases b' <;> simp_all
    subst e; exact intAdd_diff b x y A A' c c' w hA hA' hn hn'
end Go.Proofs.YthgpheopnhajaaaGreatDoor

/- Plain: the digits of a number out of its groups. No program in sight. -/
namespace Go.Proofs.YthgpheopnhajaaaGreatDoor
open Go.RowKit
/-- what a machine number's text is: 0 has one digit -/
def fmtU (g : Nat) : Bs := if g = 0 then [48] else dig10 g
def pad9 (g : Nat) : Bs := List.replicate (9 - (fmtU g).length) 48 ++ fmtU g
theorem dig10_len {g L : Nat} (h : g < 10 ^ L) : (dig10 g).length ≤ L := by
  induction L generalizing g with
  | zero => have : g = 0 := by simpa using h
            subst this; rw [dig10_zero]; simp
  | succ L ih =>
    by_cases h0 : g = 0
    · subst h0; rw [dig10_zero]; simp
    · rw [dig10_pos h0, List.length_append, List.length_singleton]
      have : g / 10 < 10 ^ L := by rw [Nat.div_lt_iff_lt_mul (by decide)]; rw [Nat.pow_succ] at h; exact h
      have := ih this; omega
theorem fmtU_all (g : Nat) : (fmtU g).all isD = true := by unfold fmtU; split; rfl; exact dig10_all g
theorem fmtU_val (g : Nat) : natOf (fmtU g) = g := by
  unfold fmtU; split
  · rename_i h; rw [h]; rfl
  · exact natOf_dig10 g
theorem fmtU_len {g : Nat} (h : g < B9) : (fmtU g).length ≤ 9 := by
  unfold fmtU; split
  · simp
  · exact dig10_len (L := 9) h
theorem natOf_zeros (k : Nat) (l : Bs) : natOf (List.replicate k 48 ++ l) = natOf l := by
  rw [natOf_append]
  have : natOf (List.replicate k 48) = 0 := by
    induction k with
    | zero => rfl
    | succ k ih => rw [List.replicate_succ', natOf_snoc, ih]; decide
  rw [this]; simp
theorem pad9_val (g : Nat) : natOf (pad9 g) = g := by unfold pad9; rw [natOf_zeros, fmtU_val]
theorem pad9_len {g : Nat} (h : g < B9) : (pad9 g).length = 9 := by
  have := fmtU_len h; unfold pad9; rw [List.length_append, List.length_replicate]; omega
theorem pad9_all (g : Nat) : (pad9 g).all isD = true := by
  unfold pad9; rw [List.all_append, fmtU_all, Bool.and_true, List.all_eq_true]
  intro x hx; rw [List.eq_of_mem_replicate hx]; decide
/-- the lower groups, written behind the highest one -/
def lowT (r : List Nat) : Bs := r.reverse.flatMap pad9
theorem lowT_snoc (r : List Nat) (g : Nat) : lowT (r ++ [g]) = pad9 g ++ lowT r := by unfold lowT; simp
theorem lowT_cons (g : Nat) (r : List Nat) : lowT (g :: r) = lowT r ++ pad9 g := by unfold lowT; simp
theorem lowT_all (r : List Nat) : (lowT r).all isD = true := by
  induction r with
  | nil => rfl
  | cons g r ih => rw [lowT_cons, List.all_append, ih, pad9_all]; rfl
theorem top_val (top : Nat) : ∀ (r : List Nat), (∀ g ∈ r, g < B9) → natOf (fmtU top ++ lowT r) = gval (r ++ [top])
  | [], _ => by simp [lowT, gval, fmtU_val]
  | g :: r, h => by
    have hg := h g (by simp)
    rw [lowT_cons, ← List.append_assoc, natOf_append, pad9_len hg, pad9_val, top_val top r (fun x hx => h x (by simp [hx]))]
    show _ = g + B9 * gval (r ++ [top])
    rw [show (10 : Nat) ^ 9 = B9 from rfl, Nat.mul_comm]; omega
/-- THE TEXT OF THE GROUPS IS THE NUMBER's -/
theorem text_gr {n top : Nat} {r : List Nat} (h : gr n = r ++ [top]) : fmtU top ++ lowT r = dig10 n := by
  have hb := gr_lt n
  rw [h] at hb
  have ht : top ≠ 0 := gr_top n r top h
  have hv := top_val top r (fun g hg => hb g (by simp [hg]))
  rw [← h, gval_gr] at hv
  rw [← hv, dig10_natOf]
  · rw [List.all_append, fmtU_all, lowT_all]; rfl
  · intro c q e
    have hf : fmtU top = dig10 top := by unfold fmtU; rw [if_neg ht]
    rw [hf] at e
    have hne := dig10_ne ht
    cases hd : dig10 top with
    | nil => exact absurd hd hne
    | cons x s =>
      rw [hd] at e; injection e with e1 e2; subst e1
      intro hx; subst hx
      have h1 := natOf_dig10 top
      have h2 : natOf (48 :: s) = natOf s := natOf_zeros 1 s
      rw [hd, h2] at h1
      have h3 : (dig10 top).length ≤ s.length := dig10_len (by rw [← h1]; exact natOf_lt (by have := dig10_all top; rw [hd] at this; simp only [List.all_cons, Bool.and_eq_true] at this; exact this.2))
      rw [hd] at h3; simp at h3; omega
end Go.Proofs.YthgpheopnhajaaaGreatDoor

/- What the walks take of the library's variables ('Env'), and the shelf's contracts in the words 'bs', 'Ext'. -/
namespace Go.Proofs.YthgpheopnhajaaaGreatDoor
open Go.RowKit Go.Shelf
theorem cell_in {w : World} {p : Addr} {v : Value} (h : w.cell? p = some v) : p.block < w.heap.size := by
  rcases Nat.lt_or_ge p.block w.heap.size with k | k
  · exact k
  · unfold World.cell? at h; rw [Array.getElem?_eq_none k] at h; simp at h
structure Env (w : World) : Prop where
  tab : Lib.TabIs Tryz.prog w "internal/strconv.uint64pow10" .u64 Lib.pow10Tab
  len : ∃ m : Int, w.cell? ⟨3, 0, none⟩ = some (.int .i64 m)
  big : 0 < w.heap.size ∧ 3 < w.heap.size
  syn : ∃ v, w.cell? ⟨1, 0, none⟩ = some v ∧ (v = .nilIface ∨ ∃ te pe, v = .iface te pe)
  rng : ∃ v, w.cell? ⟨2, 0, none⟩ = some v ∧ (v = .nilIface ∨ ∃ te pe, v = .iface te pe)
theorem Env.ext {w w' : World} (h : Env w) (he : Ext w w') : Env w' := by
  refine ⟨?_, ?_, ⟨Nat.lt_of_lt_of_le h.big.1 he.size, Nat.lt_of_lt_of_le h.big.2 he.size⟩, ?_, ?_⟩
  · exact var?_below he (g := 0) (by kernel_rfl) h.big.1 h.tab
  · obtain ⟨m, hm⟩ := h.len
    exact ⟨m, (he.cell (p := ⟨3, 0, none⟩) h.big.2).trans hm⟩
  · obtain ⟨v, hv, k⟩ := h.syn
    exact ⟨v, (he.cell (p := ⟨1, 0, none⟩) (cell_in hv)).trans hv, k⟩
  · obtain ⟨v, hv, k⟩ := h.rng
    exact ⟨v, (he.cell (p := ⟨2, 0, none⟩) (cell_in hv)).trans hv, k⟩

theorem itoa_any (n : Int) (w : World) (h0 : -9223372036854775808 ≤ n) (h1 : n ≤ 9223372036854775807) (hE : Env w) :
    Calls Tryz.prog 56 #[.int .i64 n] w fun e w' => e = .returned (.string (bs (Lib.itoa n))) ∧ Ext w w' := by
  refine (Tryz.strconv_Itoa n h0 h1 w hE.tab).mono ?_
  rintro e w' ⟨rfl, k, os, rfl⟩
  exact ⟨rfl, Lib.below_grow _ w (Nat.le_refl _) k os⟩
theorem repeat_any (l : Bs) (c : Int) (w : World) (h0 : 0 ≤ c) (hc : c ≤ 1000) (hl : l.length ≤ 1000) :
    Calls Tryz.prog 139 #[.string (bs l), .int .i64 c] w fun e w' => e = .returned (.string (bs (Lib.repeatL l c.toNat))) ∧ Ext w w' := by
  obtain ⟨n, rfl⟩ := Int.eq_ofNat_of_zero_le h0
  refine (Tryz.strings_Repeat (bs l) n w (by omega) (by rw [size_bs]; exact Nat.le_trans (Nat.mul_le_mul hl (show n ≤ 1000 by omega)) (by decide))).mono ?_
  rintro e w' ⟨rfl, hb⟩
  exact ⟨by rw [data_bs, Int.toNat_natCast]; rfl, hb⟩
end Go.Proofs.YthgpheopnhajaaaGreatDoor

/- The walk over the library's FormatUint. -/
namespace Go.Proofs.YthgpheopnhajaaaGreatDoor
open Go.RowKit Go.Lib Go.Sort
set_option maxRecDepth 100000 in
set_option maxHeartbeats 2000000 in
theorem fmtIn (u : Nat) (hu64 : u < 9223372036854775808) (w : World) (hE : Env w) :
    Calls Tryz.prog 208 #[.int .u64 u, .int .i64 10] w fun e w' => e = .returned (.string (bs (Lib.decDigits u))) ∧ Ext w w' := by
  by_cases hs : u < 100
  · go_enter Tryz.func208, Tryz.ntmps208
    go_wp2_with fail
    refine (Tryz.internal_strconv_small u hs _).mono ?_
    rintro e w' ⟨rfl, rfl⟩
    go_wp2_with fail
    go_ret
    exact ⟨rfl, Ext.refl _⟩
  · have hu1 : 1 ≤ u := by omega
    have hu : u < 18446744073709551616 := by omega
    have hnd20 : Lib.nDigits u ≤ 20 := by have := Lib.numDigits_eq u hu1 hu; split at this <;> omega
    have hH0 := Lib.holds_zero0 w 254 (Lib.nDigits u) (by omega)
    have hfmt := Tryz.internal_strconv_formatBase10 w.heap.size 0 24 u (Array.replicate (Lib.nDigits u) 0) (w.alloc (.cells Lib.zeros24 254)) hH0 (by rw [Array.size_replicate]; exact Lib.lt_pow_nDigits u) hu (by rw [Array.size_replicate]; omega)
    rw [Array.size_replicate] at hfmt
    have HH0 := Lib.hid hH0
    have HF := Lib.hid hfmt
    have HT := Lib.hid (Lib.tabIs_alloc hE.tab (.cells Lib.zeros24 254))
    clear hH0 hfmt
    have hal : Tryz.prog.arrayLen 254 = 24 := by kernel_rfl
    have hsl : ∀ W, (Instr.sliceAt 254 (.pointer (some ⟨w.heap.size, 0, none⟩)) none (some (.int .i64 (Lib.nDigits u : Int))) none).run Tryz.prog W = .ok (.slice (some ⟨w.heap.size, 0, none⟩) (Lib.nDigits u) 24) W := fun W => by
      rw [run_sliceAt_array_h W 254 ⟨w.heap.size, 0, none⟩ (by simp [Program.arrayLen, Program.elem, Tryz.underlying254]) .i64 (Lib.nDigits u : Int) (by omega) (by rw [hal]; omega)]
      rw [hal, Int.toNat_natCast, show Tryz.prog.elem 254 = 5 from by kernel_rfl, Tryz.sizeOf5]
      simp [Result.andThen, slicedAt, Addr.add]
    clear hal
    go_enter Tryz.func208, Tryz.ntmps208
    go_wp2_with fail
    refine (Tryz.internal_strconv_numDigits u hu1 hu _ HT.out).mono ?_
    rintro e w' ⟨rfl, rfl⟩
    go_wp2_with fail
    refine HF.out.mono ?_
    rintro e w' ⟨rfl, k, v', dk, rfl, hF⟩
    have hcv : (convert 191 9 (.slice (some ⟨w.heap.size, 0, none⟩) (Lib.nDigits u) 24)).run Tryz.prog ((putRow (fun (b : UInt8) => Value.int .u8 (b.toNat : Int)) (w.alloc (.cells Lib.zeros24 254)) w.heap.size 0 dk).drewN k) = .ok (.string ⟨(Lib.decDigits u).toArray⟩) ((putRow (fun (b : UInt8) => Value.int .u8 (b.toNat : Int)) (w.alloc (.cells Lib.zeros24 254)) w.heap.size 0 dk).drewN k) := by
      have h := run_convert_bytes_back (P := Tryz.prog) ((putRow (fun (b : UInt8) => Value.int .u8 (b.toNat : Int)) (w.alloc (.cells Lib.zeros24 254)) w.heap.size 0 dk).drewN k) 191 9 5 ⟨w.heap.size, 0, none⟩ 24 (Lib.decDigits u) Tryz.underlying191 Tryz.underlying5 Tryz.underlying9 (fun j hj => by
        rw [Lib.row_is_numeral hF j hj, Lib.add_plain, World.cell?_drewN]
        exact cell?_putRow (fun (b : UInt8) => Value.int .u8 (b.toNat : Int)) _ w.heap.size 0 _ dk HH0.out (by rw [hF.size, Array.size_replicate]) j (by rw [hF.size]; rw [Lib.decDigits_length] at hj; exact hj))
      rw [Lib.decDigits_length] at h
      exact h
    obtain ⟨os, eo⟩ := Lib.fin_at w (.cells Lib.zeros24 254) dk k 0
    have HX : Hid (Ext w ((putRow (fun (b : UInt8) => Value.int .u8 (b.toNat : Int)) (w.alloc (.cells Lib.zeros24 254)) w.heap.size 0 dk).drewN k)) := Lib.hid (by rw [eo]; exact Lib.below_grow _ w (Nat.le_refl _) k os)
    clear eo hF
    generalize (putRow (fun (b : UInt8) => Value.int .u8 (b.toNat : Int)) (w.alloc (.cells Lib.zeros24 254)) w.heap.size 0 dk).drewN k = W at *
    go_wp2_with fail
    go_ret
    exact ⟨rfl, HX.out⟩
theorem dec_pos (u : Nat) (h : u ≠ 0) : Lib.decDigits u = dig10 u := by
  induction u using Nat.strongRecOn with
  | ind u ih =>
    rw [Lib.decDigits]
    by_cases h10 : u < 10
    · rw [dif_pos h10, dig10_pos h, show u / 10 = 0 by omega, dig10_zero, Nat.mod_eq_of_lt h10]; rfl
    · rw [dif_neg h10, dig10_pos h, ih (u / 10) (by omega) (by omega)]
theorem dec_fmtU (u : Nat) : Lib.decDigits u = fmtU u := by
  unfold fmtU; split
  · rename_i h; subst h; rw [Lib.decDigits]; rfl
  · exact dec_pos u (by assumption)
theorem fmtUint (u : Nat) (hu64 : u < 9223372036854775808) (w : World) (hE : Env w) :
    Calls Tryz.prog 138 #[.int .u64 u, .int .i64 10] w fun e w' => e = .returned (.string (bs (fmtU u))) ∧ Ext w w' := by
  go_enter Tryz.func138, Tryz.ntmps138
  go_wp2_with fail
  refine (fmtIn u hu64 _ hE).mono ?_
  rw [dec_fmtU]
  rintro e w' ⟨rfl, hx⟩
  go_wp2_with fail
  go_ret
  exact ⟨rfl, hx⟩
end Go.Proofs.YthgpheopnhajaaaGreatDoor
