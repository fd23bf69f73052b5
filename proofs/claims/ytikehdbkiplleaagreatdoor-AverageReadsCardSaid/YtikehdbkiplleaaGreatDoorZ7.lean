/- The seat's texts, part 7. -/
import Derived.Test.YtikehdbkiplleaaGreatDoorZ6

/- The reference's even. Plain: a ratio's rest. -/
namespace Go.Proofs.YtikehdbkiplleaaGreatDoor
open Go.RowKit
attribute [local go_sem] size_bs toList_bs get_bs

theorem ofI_last {z : Int} (h : z ≠ 0) : ∃ (j : Nat) (hj : j < (ofI z).length), (ofI z).length = j + 1 ∧ ((ofI z)[j]'hj).toNat = 48 + z.natAbs % 10 := by
  have hp := dig10_pos (n := z.natAbs) (by omega)
  have hm : (UInt8.ofNat (48 + z.natAbs % 10)).toNat = 48 + z.natAbs % 10 := by
    rw [UInt8.toNat_ofNat_of_lt' (by show _ < 256; omega)]
  unfold ofI
  split
  · refine ⟨(dig10 (z.natAbs / 10)).length + 1, by rw [hp]; simp, by rw [hp]; simp, ?_⟩
    simp only [List.getElem_cons_succ]
    simp only [hp]
    rw [List.getElem_append_right (by omega)]
    simpa using hm
  · refine ⟨(dig10 (z.natAbs / 10)).length, by rw [hp]; simp, by rw [hp]; simp, ?_⟩
    simp only [hp]
    rw [List.getElem_append_right (by omega)]
    simpa using hm
set_option maxRecDepth 100000 in
set_option maxHeartbeats 2000000 in
theorem refEven (a : Bs) (ha : a.length ≤ 90000) : PureR 181 #[.string (bs a)] (.bool (decide (valI a % 2 = 0))) := by
  intro w
  have HC := Lib.hid (fun W => refCanonical a W (by omega))
  rw [canon_ofI] at HC
  by_cases h0 : valI a = 0
  · rw [h0, ofI_nil.2 rfl] at HC
    rw [h0]
    clear h0
    go_enter Tryz.func181, Tryz.ntmps181
    go_wp2_with fail
    refine (HC.out _).mono ?_
    rintro e w1 ⟨rfl, rfl⟩
    go_wp2_with fail
    go_ret
    exact ⟨rfl, Ext.refl _⟩
  · obtain ⟨j, hj, hl, hc⟩ := ofI_last h0
    have he := ofI_full h0
    have hlen : (ofI (valI a)).length ≤ 90001 := ofI_lt10' (l := a) (Nat.le_refl _) ha
    have HV : Hid (decide (valI a % 2 = 0) = (((((ofI (valI a))[j]'hj).toNat : Int) - 48) % 2 == 0)) := Lib.hid (by
      rw [hc, Bool.eq_iff_iff, decide_eq_true_iff, beq_iff_eq]
      omega)
    rw [HV.out]
    have hb1 : 48 ≤ ((ofI (valI a))[j]'hj).toNat := by omega
    have hb2 : ((ofI (valI a))[j]'hj).toNat ≤ 57 := by omega
    have e1 : (((ofI (valI a)).length : Nat) : Int) - 1 = (j : Int) := by omega
    clear hc HV h0
    generalize ofI (valI a) = l at *
    clear hl
    go_enter Tryz.func181, Tryz.ntmps181
    go_wp2_with fail
    refine (HC.out _).mono ?_
    rintro e w1 ⟨rfl, rfl⟩
    go_wp2_with fail
    go_ret
    exact ⟨rfl, Ext.refl _⟩
theorem den_mul (q : Rat) : q * ((q.den : Int) : Rat) = (q.num : Rat) := by
  have hd : (0 : Int) < q.den := by have := q.den_pos; omega
  have hdR : (0 : Rat) < ((q.den : Int) : Rat) := Rat.intCast_pos.2 hd
  have hq : q = (q.num : Rat) / ((q.den : Int) : Rat) := by rw [← Rat.divInt_eq_div, Rat.num_divInt_den]
  conv => lhs; lhs; rw [hq]
  exact Rat.div_mul_cancel (by grind)
theorem rest_mul (q : Rat) : (q - ((floorQ q : Int) : Rat)) * ((q.den : Int) : Rat) = ((q.num % (q.den : Int) : Int) : Rat) := by
  have h1 := Int.mul_ediv_add_emod q.num (q.den : Int)
  have h2 := den_mul q
  have h3 : (q.num : Rat) = ((q.den : Int) : Rat) * ((floorQ q : Int) : Rat) + ((q.num % (q.den : Int) : Int) : Rat) := by
    rw [← Rat.intCast_mul, ← Rat.intCast_add]
    unfold floorQ
    rw [h1]
  rw [h3] at h2
  generalize ((q.num % (q.den : Int) : Int) : Rat) = re at *
  generalize ((floorQ q : Int) : Rat) = lo at *
  generalize ((q.den : Int) : Rat) = d at *
  grind
theorem rest_iff (q : Rat) : let re := q.num % (q.den : Int);
    (q - ((floorQ q : Int) : Rat) < 1 / 2 ↔ re + re < q.den) ∧ (q - ((floorQ q : Int) : Rat) = 1 / 2 ↔ re + re = q.den) ∧ (q - ((floorQ q : Int) : Rat) = 0 ↔ re = 0) := by
  have hm := rest_mul q
  have hd : (0 : Int) < q.den := by have := q.den_pos; omega
  have hdR : (0 : Rat) < ((q.den : Int) : Rat) := Rat.intCast_pos.2 hd
  simp only
  have e1 : (q.num % (q.den : Int) + q.num % (q.den : Int) < q.den) ↔ ((q.num % (q.den : Int) : Int) : Rat) + ((q.num % (q.den : Int) : Int) : Rat) < ((q.den : Int) : Rat) := by
    rw [← Rat.intCast_add, Rat.intCast_lt_intCast]
  have e2 : (q.num % (q.den : Int) + q.num % (q.den : Int) = q.den) ↔ ((q.num % (q.den : Int) : Int) : Rat) + ((q.num % (q.den : Int) : Int) : Rat) = ((q.den : Int) : Rat) := by
    rw [← Rat.intCast_add, Rat.intCast_inj]
  have e3 : (q.num % (q.den : Int) = 0) ↔ ((q.num % (q.den : Int) : Int) : Rat) = 0 := by
    rw [← Rat.intCast_zero, Rat.intCast_inj]
  rw [e1, e2, e3]
  generalize ((q.num % (q.den : Int) : Int) : Rat) = re at *
  generalize q - ((floorQ q : Int) : Rat) = x at *
  generalize ((q.den : Int) : Rat) = d at *
  subst hm
  refine ⟨⟨fun h => ?_, fun h => ?_⟩, ⟨fun h => ?_, fun h => ?_⟩, ⟨fun h => ?_, fun h => ?_⟩⟩
  · have := Rat.mul_lt_mul_of_pos_right h hdR
    grind
  · refine Rat.lt_of_mul_lt_mul_right (c := d) ?_ (by grind)
    grind
  · rw [h]; grind
  · have h5 : (x - 1 / 2) * d = 0 := by grind
    rcases Rat.mul_eq_zero.1 h5 with h6 | h6
    · grind
    · grind
  · rw [h]; grind
  · rcases Rat.mul_eq_zero.1 h with h6 | h6
    · exact h6
    · grind
theorem round_rest (q : Rat) : (cmpQ (q - ((floorQ q : Int) : Rat)) 0 = 0 → roundQ q = floorQ q) ∧ (cmpQ (q - ((floorQ q : Int) : Rat)) (1 / 2) < 0 → roundQ q = floorQ q) ∧
    (cmpQ (q - ((floorQ q : Int) : Rat)) (1 / 2) = 0 → floorQ q % 2 = 0 → roundQ q = floorQ q) ∧ (cmpQ (q - ((floorQ q : Int) : Rat)) (1 / 2) = 0 → floorQ q % 2 ≠ 0 → roundQ q = floorQ q + 1) ∧ (0 < cmpQ (q - ((floorQ q : Int) : Rat)) (1 / 2) → roundQ q = floorQ q + 1) := by
  obtain ⟨a1, a2, a3⟩ := rest_iff q
  obtain ⟨b1, b2, b3, b4⟩ := roundQ_cases q
  have hd : (0 : Int) < q.den := by have := q.den_pos; omega
  refine ⟨fun h => ?_, fun h => b1 (a1.1 (cmpQ_neg.1 h)), fun h h2 => b2 (a2.1 (cmpQ_zero.1 h)) h2, fun h h2 => b3 (a2.1 (cmpQ_zero.1 h)) h2, fun h => b4 ?_⟩
  · have h0 := a3.1 (cmpQ_zero.1 h)
    exact b1 (by omega)
  · have h1 := cmpQ_pos.1 h
    have n1 := mt a1.2 (by grind)
    have n2 := mt a2.2 (by grind)
    omega
end Go.Proofs.YtikehdbkiplleaaGreatDoor

/- The reference's rounding half to even, and Share. -/
namespace Go.Proofs.YtikehdbkiplleaaGreatDoor
open Go.RowKit
attribute [local go_sem] size_bs toList_bs
def BoxAtR (W : World) (r : Fr) (p : Value) (wx : World) : Prop := ∃ P, p = .pointer (some ⟨P, 0, none⟩) ∧ Blk wx P 28 #[.string (bs r.num), .string (bs r.den)] ∧ Ext W wx
abbrev PureX (W0 : World) (f : FuncId) (args : Array Value) (v : Value) : Prop := ∀ W, Ext W0 W → Calls Tryz.prog f args W fun e w' => e = .returned v ∧ Ext W w'
theorem PureR.x {f : FuncId} {args : Array Value} {v : Value} (h : PureR f args v) (W0 : World) : PureX W0 f args v := fun W _ => h W
/-- what the rounding calls -/
structure RtAt (f fl rl rr z h : Fr) (lo up : Bs) (c0 c1 c2 : Int) (ev : Bool) : Prop where
  fl : PureR 170 #[fv f] (.string (bs lo))
  o1 : PureR 61 #[.string (bs lo)] (fv rl)
  s1 : PureR 62 #[fv f, fv rl] (fv rr)
  o2 : PureR 61 #[.string ⟨#[]⟩] (fv z)
  k0 : PureR 173 #[fv rr, fv z] (.int .i64 c0)
  ad : PureR 57 #[.string (bs lo), .string ⟨#[49]⟩] (.string (bs up))
  hf : PureR 87 #[.string ⟨#[49]⟩, .string ⟨#[50]⟩] (.tuple #[fv h, .int .i64 0])
  k1 : PureR 173 #[fv rr, fv h] (.int .i64 c1)
  k2 : PureR 173 #[fv f, fv z] (.int .i64 c2)
  ev : PureR 181 #[.string (bs lo)] (.bool ev)
theorem frQ_nil' : frQ ⟨[], []⟩ = 0 := by
  have := frQ_ofQ 0
  rwa [ofQ_zero] at this
theorem half_div : Rat.divInt (valI [49]) (valI [50]) = 1 / 2 := by
  rw [show valI [49] = 1 by decide, show valI [50] = 2 by decide, Rat.divInt_eq_div]
  simp
theorem floor_len {q : Rat} {L : Nat} (h : QB L q) : (ofI (floorQ q)).length ≤ L + 1 := by
  refine ofI_lt10 (Nat.lt_of_le_of_lt ?_ h.1)
  exact Int.natAbs_ediv_le_natAbs _ _
theorem floor_qb {q : Rat} {L : Nat} (h : QB L q) : QB L ((floorQ q : Int) : Rat) :=
  qb_int h.pos (Nat.lt_of_le_of_lt (Int.natAbs_ediv_le_natAbs _ _) h.1)
theorem rtAt (f : Fr) (h1 : f.num.length ≤ 8000) (h2 : f.den.length ≤ 8000) :
    ∃ rl rr z h c2, RtAt f f rl rr z h (ofI (floorQ (frQ f))) (ofI (floorQ (frQ f) + 1)) (cmpQ (frQ f - ((floorQ (frQ f) : Int) : Rat)) 0) (cmpQ (frQ f - ((floorQ (frQ f) : Int) : Rat)) (1 / 2)) c2 (decide (floorQ (frQ f) % 2 = 0)) := by
  have hq := frQ_qb h1 h2 (by omega)
  have hl := floor_len hq
  have hfq := floor_qb hq
  have l1 := hfq.num_len
  have l1' := hfq.den_len
  have hrq := hq.sub hfq
  have l2 := hrq.num_len
  have l2' := hrq.den_len
  have ho := refOfF (ofI (floorQ (frQ f))) (by omega)
  rw [valI_ofI] at ho
  have hs := refSubF f (ofQ ((floorQ (frQ f) : Int) : Rat)) (by omega) (by omega) (by omega) (by omega)
  rw [frQ_ofQ] at hs
  have hz := refOfF [] (by simp)
  rw [valI_nil, Rat.intCast_zero, ofQ_zero] at hz
  have hk0 := refCmpF (ofQ (frQ f - ((floorQ (frQ f) : Int) : Rat))) ⟨[], []⟩ (by omega) (by omega) (by simp) (by simp)
  rw [frQ_ofQ, frQ_nil'] at hk0
  have had := addR (ofI (floorQ (frQ f))) [49] (by omega) (by simp)
  rw [valI_ofI, valI_one] at had
  have hh := refNew [49] [50] (by simp) (by simp) (by decide)
  rw [show Rat.divInt (valI [49]) (valI [50]) = 1 / 2 from half_div] at hh
  have hhb : QB 8000 (1 / 2 : Rat) := (show QB 2 (1 / 2 : Rat) from by rw [← half_div]; exact qb_divInt (L := 2) (by omega) (by decide) (by decide)).mono (by omega)
  have l3 := hhb.num_len
  have l3' := hhb.den_len
  have hk1 := refCmpF (ofQ (frQ f - ((floorQ (frQ f) : Int) : Rat))) (ofQ (1 / 2)) (by omega) (by omega) (by omega) (by omega)
  rw [frQ_ofQ, frQ_ofQ] at hk1
  have hk2 := refCmpF f ⟨[], []⟩ (by omega) (by omega) (by simp) (by simp)
  have hev := refEven (ofI (floorQ (frQ f))) (by omega)
  rw [valI_ofI] at hev
  exact ⟨_, _, _, _, _, ⟨refFloorF f (by omega) (by omega), ho, hs, hz, hk0, had, hh, hk1, hk2, hev⟩⟩
set_option maxRecDepth 100000 in
set_option maxHeartbeats 4000000 in
theorem refRoundTo (f : Fr) (h1 : f.num.length ≤ 8000) (h2 : f.den.length ≤ 8000) : PureR 146 #[fv f, .int .i64 1] (.string (bs (ofI (roundQ (frQ f))))) := by
  intro w
  obtain ⟨rl, rr, z, h, c2, hr⟩ := rtAt f h1 h2
  have HR := Lib.hid hr
  obtain ⟨n0, n1, n2, n3, n4⟩ := round_rest (frQ f)
  have N0 := Lib.hid n0
  have N1 := Lib.hid n1
  have N2 := Lib.hid n2
  have N3 := Lib.hid n3
  have N4 := Lib.hid n4
  clear hr h1 h2 n0 n1 n2 n3 n4
  have HEV : Hid ((floorQ (frQ f) % 2 = 0) ↔ decide (floorQ (frQ f) % 2 = 0) = true) := Lib.hid (by rw [decide_eq_true_iff])
  generalize decide (floorQ (frQ f) % 2 = 0) = ev at *
  generalize cmpQ (frQ f - ((floorQ (frQ f) : Int) : Rat)) 0 = c0 at *
  generalize cmpQ (frQ f - ((floorQ (frQ f) : Int) : Rat)) (1 / 2) = c1 at *
  generalize roundQ (frQ f) = ro at *
  generalize floorQ (frQ f) = lo at *
  have O1 := Lib.hid (fun W0 => HR.out.o1.x W0)
  have S1 := Lib.hid (fun W0 => HR.out.s1.x W0)
  obtain ⟨n1, e1⟩ := f
  have HB := Lib.hid (Blk.new w 28 #[.string (bs n1), .string (bs e1)])
  have HX : Hid (Ext w (w.alloc (.cells #[.string (bs n1), .string (bs e1)] 28))) := Lib.hid (Ext.new _ _)
  go_enter Tryz.func146, Tryz.ntmps146
  go_wp2_with fail
  refine (HR.out.fl _).mono ?_
  rintro e W ⟨rfl, hx1⟩
  replace HB := Lib.hid (HB.out.ext hx1)
  replace HX := Lib.hid (HX.out.trans hx1)
  clear hx1
  obtain ⟨q0, q1, _, _⟩ := frBlk HB.out (Ext.refl _)
  replace O1 := Lib.hid (O1.out W)
  replace S1 := Lib.hid (S1.out W)
  go_upto_region 2 with fail
  generalize w.heap.size = Q at *
  go_cut [6] (fun p6 wx => BoxAtR W rr p6 wx)
  case first =>
    have HD : Hid (Ext W W.drew) := Lib.hid (Ext.refl W).drew
    have HBP := Lib.hid (HB.out.drew)
    go_region_held3 (fun w' => w'.cell? ⟨Q, 0, none⟩ = some (.string (bs n1)) ∧ w'.cell? ⟨Q, 1, none⟩ = some (.string (bs e1)))
      (go_keep)
      (first
        | (go_at_call 61; ((with_reducible refine (O1.out _ HD.out).mono ?_); rintro e w5 ⟨rfl, hx⟩); (replace HD := Lib.hid (HD.out.trans hx)); (obtain ⟨q2, q3, _, _⟩ := frBlk HB.out HD.out); (replace HBP := Lib.hid (HBP.out.ext hx)); (obtain ⟨p0, p1, p2, p3⟩ := frBlk HBP.out (Ext.refl _)); (have hq5 := Nat.ne_of_lt (HB.out.ext HD.out).lt); (have hq6 := Nat.ne_of_gt (HB.out.ext HD.out).lt); clear hx)
        | (go_at_call 61; ((with_reducible refine (O1.out _ (HD.out.alloc _)).mono ?_); rintro e w5 ⟨rfl, hx⟩); (have HLE := Lib.hid HD.out.size); (have hpq := Nat.ne_of_lt (Nat.lt_of_lt_of_le HB.out.lt HLE.out)); (have hqp := Nat.ne_of_gt (Nat.lt_of_lt_of_le HB.out.lt HLE.out)); (have HBP := Lib.hid ((Blk.new _ _ _).ext hx)); (replace HD := Lib.hid ((HD.out.alloc _).trans hx)); (obtain ⟨q2, q3, _, _⟩ := frBlk HB.out HD.out); (obtain ⟨p0, p1, p2, p3⟩ := frBlk HBP.out (Ext.refl _)); clear hx)
        | (go_at_call 61; ((with_reducible refine (O1.out _ ((Ext.new _ _).drew)).mono ?_); rintro e w5 ⟨rfl, hx⟩); (have HLE := Lib.hid (Nat.le_refl W.heap.size)); (have hpq := Nat.ne_of_lt (Nat.lt_of_lt_of_le HB.out.lt HLE.out)); (have hqp := Nat.ne_of_gt (Nat.lt_of_lt_of_le HB.out.lt HLE.out)); (have HBP := Lib.hid (((Blk.new _ _ _).drew).ext hx)); (replace HD := Lib.hid (((Ext.new W _).drew).trans hx)); (obtain ⟨q2, q3, _, _⟩ := frBlk HB.out HD.out); (obtain ⟨p0, p1, p2, p3⟩ := frBlk HBP.out (Ext.refl _)); clear hx)
        | (go_at_call 62; ((with_reducible refine (S1.out _ HD.out).mono ?_); rintro e w5 ⟨rfl, hx⟩); (replace HD := Lib.hid (HD.out.trans hx)); (obtain ⟨q2, q3, _, _⟩ := frBlk HB.out HD.out); (replace HBP := Lib.hid (HBP.out.ext hx)); (obtain ⟨p0, p1, p2, p3⟩ := frBlk HBP.out (Ext.refl _)); (have hq5 := Nat.ne_of_lt (HB.out.ext HD.out).lt); (have hq6 := Nat.ne_of_gt (HB.out.ext HD.out).lt); clear hx)
        | (go_at_call 62; ((with_reducible refine (S1.out _ (HD.out.alloc _)).mono ?_); rintro e w5 ⟨rfl, hx⟩); (have HLE := Lib.hid HD.out.size); (have hpq := Nat.ne_of_lt (Nat.lt_of_lt_of_le HB.out.lt HLE.out)); (have hqp := Nat.ne_of_gt (Nat.lt_of_lt_of_le HB.out.lt HLE.out)); (have HBP := Lib.hid ((Blk.new _ _ _).ext hx)); (replace HD := Lib.hid ((HD.out.alloc _).trans hx)); (obtain ⟨q2, q3, _, _⟩ := frBlk HB.out HD.out); (obtain ⟨p0, p1, p2, p3⟩ := frBlk HBP.out (Ext.refl _)); clear hx)
        | fail)
    all_goals
      go_wp2_with fail
      go_meet
      first
        | exact ⟨_, rfl, Blk.new _ _ _, HD.out.alloc _⟩
        | exact ⟨_, rfl, (HBP.out.set_ 0 _).set_ 1 _, (HD.out.setCell (p := ⟨_, 0, none⟩) HLE.out _).setCell (p := ⟨_, 1, none⟩) HLE.out _⟩
  case rest =>
    obtain ⟨P, rfl, hbp, hxw⟩ := hcut
    have HBR := Lib.hid hbp
    replace HB := Lib.hid (HB.out.ext hxw)
    replace HX := Lib.hid (HX.out.trans hxw)
    clear hbp hxw O1 S1 q0 q1
    go_wp2_with fail
    refine (HR.out.o2 _).mono ?_
    rintro e w3 ⟨rfl, hx1⟩
    replace HB := Lib.hid (HB.out.ext hx1)
    replace HBR := Lib.hid (HBR.out.ext hx1)
    replace HX := Lib.hid (HX.out.trans hx1)
    clear hx1
    have HBZ := Lib.hid (Blk.new w3 28 #[.string (bs z.num), .string (bs z.den)])
    replace HX := Lib.hid (HX.out.alloc (.cells #[.string (bs z.num), .string (bs z.den)] 28))
    replace HB := Lib.hid (HB.out.alloc (.cells #[.string (bs z.num), .string (bs z.den)] 28))
    replace HBR := Lib.hid (HBR.out.alloc (.cells #[.string (bs z.num), .string (bs z.den)] 28))
    go_upto_region 4 with fail
    generalize w3.alloc (.cells #[.string (bs z.num), .string (bs z.den)] 28) = W3 at *
    generalize w3.heap.size = Z at *
    obtain ⟨z0, z1, _, _⟩ := frBlk HBZ.out (Ext.refl _)
    obtain ⟨r0, r1, _, _⟩ := frBlk HBR.out (Ext.refl _)
    go_wp2_with fail
    refine (HR.out.k0 _).mono ?_
    rintro e w4 ⟨rfl, hx1⟩
    replace HB := Lib.hid (HB.out.ext hx1)
    replace HBR := Lib.hid (HBR.out.ext hx1)
    replace HBZ := Lib.hid (HBZ.out.ext hx1)
    replace HX := Lib.hid (HX.out.trans hx1)
    clear hx1
    clear z0 z1 r0 r1
    by_cases hc0 : c0 = 0
    · have g : (c0 == 0) = true := beq_iff_eq.2 hc0
      have e := N0.out hc0
      have HE := Lib.hid e
      clear e hc0
      go_wp2_with fail
      go_ret
      exact ⟨by rw [HE.out]; rfl, HX.out⟩
    have g : (c0 == 0) = false := by rw [beq_eq_false_iff_ne]; exact hc0
    clear hc0 N0
    go_wp2_with fail
    refine (HR.out.ad _).mono ?_
    rintro e v8 ⟨rfl, hx1⟩
    replace HB := Lib.hid (HB.out.ext hx1)
    replace HBR := Lib.hid (HBR.out.ext hx1)
    replace HBZ := Lib.hid (HBZ.out.ext hx1)
    replace HX := Lib.hid (HX.out.trans hx1)
    clear hx1
    go_wp2_with fail
    refine (HR.out.hf _).mono ?_
    rintro e w5 ⟨rfl, hx1⟩
    replace HB := Lib.hid (HB.out.ext hx1)
    replace HBR := Lib.hid (HBR.out.ext hx1)
    replace HBZ := Lib.hid (HBZ.out.ext hx1)
    replace HX := Lib.hid (HX.out.trans hx1)
    clear hx1
    have HBH := Lib.hid (Blk.new w5 28 #[.string (bs h.num), .string (bs h.den)])
    replace HX := Lib.hid (HX.out.alloc (.cells #[.string (bs h.num), .string (bs h.den)] 28))
    replace HB := Lib.hid (HB.out.alloc (.cells #[.string (bs h.num), .string (bs h.den)] 28))
    replace HBR := Lib.hid (HBR.out.alloc (.cells #[.string (bs h.num), .string (bs h.den)] 28))
    replace HBZ := Lib.hid (HBZ.out.alloc (.cells #[.string (bs h.num), .string (bs h.den)] 28))
    go_upto_region 8 with fail
    generalize w5.alloc (.cells #[.string (bs h.num), .string (bs h.den)] 28) = W5 at *
    generalize w5.heap.size = H at *
    obtain ⟨h0, h1, _, _⟩ := frBlk HBH.out (Ext.refl _)
    obtain ⟨r0, r1, _, _⟩ := frBlk HBR.out (Ext.refl _)
    go_wp2_with fail
    refine (HR.out.k1 _).mono ?_
    rintro e w6 ⟨rfl, hx1⟩
    replace HB := Lib.hid (HB.out.ext hx1)
    replace HBZ := Lib.hid (HBZ.out.ext hx1)
    replace HX := Lib.hid (HX.out.trans hx1)
    clear hx1
    clear h0 h1 r0 r1 HBH HBR
    obtain ⟨q0, q1, _, _⟩ := frBlk HB.out (Ext.refl _)
    obtain ⟨z0, z1, _, _⟩ := frBlk HBZ.out (Ext.refl _)
    go_wp2_with fail
    refine (HR.out.k2 _).mono ?_
    rintro e w7 ⟨rfl, hx1⟩
    replace HX := Lib.hid (HX.out.trans hx1)
    clear hx1
    clear q0 q1 z0 z1
    by_cases hp : 0 < c1
    · have g1 : decide (0 < c1) = true := decide_eq_true hp
      have HE := Lib.hid (N4.out hp)
      clear hp
      go_wp2_with fail
      go_ret
      exact ⟨by rw [HE.out]; rfl, HX.out⟩
    have g1 : decide (0 < c1) = false := decide_eq_false hp
    by_cases hz : c1 = 0
    · have g2 : (c1 == 0) = true := beq_iff_eq.2 hz
      have M2 := Lib.hid (N2.out hz)
      have M3 := Lib.hid (N3.out hz)
      clear hp hz N1 N2 N3 N4
      cases hev : ev
      · have HE := Lib.hid (M3.out (fun h => by have := HEV.out.1 h; rw [hev] at this; cases this))
        have HV := Lib.hid HR.out.ev
        rw [hev] at HV
        clear HEV hev M2 M3 HR
        go_wp2_with fail
        refine (HV.out _).mono ?_
        rintro e v13 ⟨rfl, hx1⟩
        replace HX := Lib.hid (HX.out.trans hx1)
        clear hx1
        go_wp2_with fail
        go_ret
        exact ⟨by rw [HE.out]; rfl, HX.out⟩
      · have HE := Lib.hid (M2.out (HEV.out.2 hev))
        have HV := Lib.hid HR.out.ev
        rw [hev] at HV
        clear HEV hev M2 M3 HR
        go_wp2_with fail
        refine (HV.out _).mono ?_
        rintro e v15 ⟨rfl, hx1⟩
        replace HX := Lib.hid (HX.out.trans hx1)
        clear hx1
        go_wp2_with fail
        go_ret
        exact ⟨by rw [HE.out]; rfl, HX.out⟩
    have g2 : (c1 == 0) = false := by rw [beq_eq_false_iff_ne]; exact hz
    have HE := Lib.hid (N1.out (by omega))
    clear hp hz
    go_wp2_with fail
    go_ret
    exact ⟨by rw [HE.out]; rfl, HX.out⟩
set_option maxRecDepth 100000 in
set_option maxHeartbeats 2000000 in
theorem refMode (w : World) : Calls Tryz.prog 145 #[.int .i64 1] w fun e w' => e = .returned (.bool true) ∧ Ext w w' := by
  go_enter Tryz.func145, Tryz.ntmps145
  go_wp2_with fail
  go_ret
  exact ⟨rfl, Ext.refl _⟩
set_option maxRecDepth 100000 in
set_option maxHeartbeats 2000000 in
theorem refRound (f : Fr) (h1 : f.num.length ≤ 8000) (h2 : f.den.length ≤ 8000) : PureR 94 #[fv f, .int .i64 1] (.tuple #[.string (bs (ofI (roundQ (frQ f)))), .int .i64 0]) := by
  intro w
  have HR := Lib.hid (refRoundTo f h1 h2)
  have HM := Lib.hid refMode
  generalize ofI (roundQ (frQ f)) = r at *
  obtain ⟨n1, e1⟩ := f
  clear h1 h2
  have HB := Lib.hid (Blk.new w 28 #[.string (bs n1), .string (bs e1)])
  have HX : Hid (Ext w (w.alloc (.cells #[.string (bs n1), .string (bs e1)] 28))) := Lib.hid (Ext.new _ _)
  go_enter Tryz.func94, Tryz.ntmps94
  go_wp2_with fail
  refine (HM.out _).mono ?_
  rintro e v18 ⟨rfl, hx1⟩
  replace HB := Lib.hid (HB.out.ext hx1)
  replace HX := Lib.hid (HX.out.trans hx1)
  clear hx1
  obtain ⟨q0, q1, _, _⟩ := frBlk HB.out (Ext.refl _)
  go_wp2_with fail
  refine (HR.out _).mono ?_
  rintro e v19 ⟨rfl, hx1⟩
  replace HX := Lib.hid (HX.out.trans hx1)
  clear hx1
  go_wp2_with fail
  go_ret2
  exact ⟨rfl, HX.out⟩
theorem checkR (a : Bs) (ha : a.length ≤ 100000) : PureR 22 #[.string (bs a)] (.int .i64 (checkI a)) := fun W => still (refCheckI a W (by omega))
theorem cmp0R (a : Bs) (ha : a.length ≤ 100000) : PureR 55 #[.string (bs a), .string ⟨#[]⟩] (.int .i64 (cmpI (valI a) 0)) := fun W => still (refCmp0 a W (by omega))
set_option maxRecDepth 100000 in
theorem refNegative (a : Bs) (ha : a.length ≤ 100000) : PureR 92 #[.string (bs a)] (.bool (decide (valI a < 0))) := by
  intro w
  have HC := Lib.hid (cmp0R a ha)
  have hv : decide (valI a < 0) = decide (cmpI (valI a) 0 < 0) := by rw [Bool.eq_iff_iff, decide_eq_true_iff, decide_eq_true_iff, cmpI_neg]
  rw [hv]
  clear hv
  generalize cmpI (valI a) 0 = cc at *
  have HX := Lib.hid (Ext.refl w)
  go_enter Tryz.func92, Tryz.ntmps92
  go_wp2_with fail
  refine (HC.out _).mono ?_
  rintro e v20 ⟨rfl, hx1⟩
  replace HX := Lib.hid (HX.out.trans hx1)
  clear hx1
  go_wp2_with fail
  go_ret
  exact ⟨rfl, HX.out⟩
set_option maxRecDepth 100000 in
set_option maxHeartbeats 2000000 in
/-- the part of a cost that belongs to a quantity, and the rest -/
theorem refShare (t p a : Bs) (lt : t.length ≤ 1900) (lp : p.length ≤ 1900) (la : a.length ≤ 1900) (ht : checkI t = 0) (hp : checkI p = 0) (ha : checkI a = 0) (h0 : 0 < valI a) (h1 : 0 ≤ valI p) (h2 : valI p ≤ valI a) :
    PureR 56 #[.string (bs t), .string (bs p), .string (bs a)] (.tuple #[.string (bs (ofI (shareZ (valI t) (valI p) (valI a)))), .string (bs (ofI (valI t - shareZ (valI t) (valI p) (valI a)))), .int .i64 0]) := by
  intro w
  have k1 := checkR t (by omega)
  have k2 := checkR p (by omega)
  have k3 := checkR a (by omega)
  rw [ht] at k1
  rw [hp] at k2
  rw [ha] at k3
  have n1 := refNegative a (by omega)
  have n2 := refNegative p (by omega)
  rw [decide_eq_false (by omega)] at n1 n2
  have c1 := cmpR p a (by omega) (by omega)
  have g1 : decide (0 < cmpI (valI p) (valI a)) = false := by rw [decide_eq_false_iff_not, cmpI_pos]; omega
  have m1 := mulR t p (by omega) (by omega)
  have ml := mul_len lt lp
  have hq := qb_ratio (t := t) (p := p) (a := a) (L := 1900) (by omega) lt lp la
  have l1 := hq.num_len
  have l2 := hq.den_len
  have r1 := refNew (ofI (valI t * valI p)) a (by omega) (by omega) (by omega)
  rw [valI_ofI] at r1
  have r2 := refRound (ofQ (Rat.divInt (valI t * valI p) (valI a))) (by omega) (by omega)
  rw [frQ_ofQ, show roundQ (Rat.divInt (valI t * valI p) (valI a)) = shareZ (valI t) (valI p) (valI a) from rfl] at r2
  have rl := round_len hq
  rw [show roundQ (Rat.divInt (valI t * valI p) (valI a)) = shareZ (valI t) (valI p) (valI a) from rfl] at rl
  have s1 := subR t (ofI (shareZ (valI t) (valI p) (valI a))) (by omega) (by omega)
  rw [valI_ofI] at s1
  have hae : a.isEmpty = false := by
    cases h : a with
    | nil => rw [h, valI_nil] at h0; omega
    | cons _ _ => rfl
  have K1 := Lib.hid k1
  have K2 := Lib.hid k2
  have K3 := Lib.hid k3
  have N1 := Lib.hid n1
  have N2 := Lib.hid n2
  have C1 := Lib.hid c1
  have M1 := Lib.hid m1
  have R1 := Lib.hid r1
  have R2 := Lib.hid r2
  have S1 := Lib.hid s1
  clear k1 k2 k3 n1 n2 c1 m1 r1 r2 s1 ml hq l1 l2 rl lt lp la ht hp ha h0 h1 h2
  generalize ofI (valI t - shareZ (valI t) (valI p) (valI a)) = z2 at *
  generalize ofI (shareZ (valI t) (valI p) (valI a)) = z1 at *
  generalize ofQ (Rat.divInt (valI t * valI p) (valI a)) = fr at *
  generalize ofI (valI t * valI p) = mm at *
  generalize cmpI (valI p) (valI a) = cc at *
  have HX := Lib.hid (Ext.refl w)
  go_enter Tryz.func56, Tryz.ntmps56
  go_wp2_with fail
  refine (K1.out _).mono ?_
  rintro e v22 ⟨rfl, hx1⟩
  replace HX := Lib.hid (HX.out.trans hx1)
  clear hx1
  go_wp2_with fail
  refine (K2.out _).mono ?_
  rintro e v23 ⟨rfl, hx1⟩
  replace HX := Lib.hid (HX.out.trans hx1)
  clear hx1
  go_wp2_with fail
  refine (K3.out _).mono ?_
  rintro e v24 ⟨rfl, hx1⟩
  replace HX := Lib.hid (HX.out.trans hx1)
  clear hx1
  go_wp2_with fail
  refine (N1.out _).mono ?_
  rintro e v25 ⟨rfl, hx1⟩
  replace HX := Lib.hid (HX.out.trans hx1)
  clear hx1
  go_wp2_with fail
  refine (N2.out _).mono ?_
  rintro e v26 ⟨rfl, hx1⟩
  replace HX := Lib.hid (HX.out.trans hx1)
  clear hx1
  go_wp2_with fail
  refine (C1.out _).mono ?_
  rintro e v27 ⟨rfl, hx1⟩
  replace HX := Lib.hid (HX.out.trans hx1)
  clear hx1
  go_wp2_with fail
  refine (M1.out _).mono ?_
  rintro e v28 ⟨rfl, hx1⟩
  replace HX := Lib.hid (HX.out.trans hx1)
  clear hx1
  go_wp2_with fail
  refine (R1.out _).mono ?_
  rintro e w5 ⟨rfl, hx1⟩
  replace HX := Lib.hid (HX.out.trans hx1)
  clear hx1
  have HB := Lib.hid (Blk.new w5 28 #[.string (bs fr.num), .string (bs fr.den)])
  replace HX := Lib.hid (HX.out.alloc (.cells #[.string (bs fr.num), .string (bs fr.den)] 28))
  go_upto_region 8 with fail
  generalize w5.alloc (.cells #[.string (bs fr.num), .string (bs fr.den)] 28) = W5 at *
  generalize w5.heap.size = P at *
  obtain ⟨q0, q1, _, _⟩ := frBlk HB.out (Ext.refl _)
  go_wp2_with fail
  refine (R2.out _).mono ?_
  rintro e v30 ⟨rfl, hx1⟩
  replace HX := Lib.hid (HX.out.trans hx1)
  clear hx1
  go_wp2_with fail
  refine (S1.out _).mono ?_
  rintro e v31 ⟨rfl, hx1⟩
  replace HX := Lib.hid (HX.out.trans hx1)
  clear hx1
  go_wp2_with fail
  go_ret3
  exact ⟨rfl, HX.out⟩
end Go.Proofs.YtikehdbkiplleaaGreatDoor

/- Plain: what the law of the average cost of a quantity says. No program in sight. -/
namespace Go.Proofs.YtikehdbkiplleaaGreatDoor
open Go.RowKit

theorem take_none {ls : List LotV} {ins qty : Bs} (hv : checkAllL ls = 0) (hq : checkI qty = 0) (h : totQ ls ins = 0) : takeV ls ins qty = ([], [], 6) := by
  unfold takeV; rw [if_neg (by rw [avgE_ok hv (by simpa using hq)]; decide), if_pos h]
theorem take_low {ls : List LotV} {ins qty : Bs} (hv : checkAllL ls = 0) (hq : checkI qty = 0) (h : 0 < totQ ls ins) (h1 : valI qty ≤ 0) : takeV ls ins qty = ([], [], 2) := by
  unfold takeV; rw [if_neg (by rw [avgE_ok hv (by simpa using hq)]; decide), if_neg (by omega), if_pos h1]
theorem take_high {ls : List LotV} {ins qty : Bs} (hv : checkAllL ls = 0) (hq : checkI qty = 0) (h : 0 < totQ ls ins) (h1 : totQ ls ins < valI qty) : takeV ls ins qty = ([], [], 15) := by
  unfold takeV; rw [if_neg (by rw [avgE_ok hv (by simpa using hq)]; decide), if_neg (by omega), if_neg (by omega), if_pos h1]
theorem take_ok {ls : List LotV} {ins qty : Bs} (hv : checkAllL ls = 0) (hq : checkI qty = 0) (h : 0 < totQ ls ins) (h1 : ¬ valI qty ≤ 0) (h2 : ¬ totQ ls ins < valI qty) :
    takeV ls ins qty = (ofI (shareZ (totC ls ins) (valI qty) (totQ ls ins)), ofI (totC ls ins - shareZ (totC ls ins) (valI qty) (totQ ls ins)), 0) := by
  unfold takeV; rw [if_neg (by rw [avgE_ok hv (by simpa using hq)]; decide), if_neg (by omega), if_neg h1, if_neg h2]
theorem take_all {ls : List LotV} {ins : Bs} (hv : checkAllL ls = 0) (h : 0 < totQ ls ins) : takeV ls ins (ofI (totQ ls ins)) = (ofI (totC ls ins), [], 0) := by
  rw [take_ok hv (checkI_ofI _) h (by rw [valI_ofI]; omega) (by rw [valI_ofI]; omega), valI_ofI, shareZ_all _ _ (by omega), Int.sub_self, ofI_nil.2 rfl]
theorem priceV_ok {ls : List LotV} {ins : Bs} (hv : checkAllL ls = 0) (h : 0 < totQ ls ins) : priceV ls ins = (ofQ (Rat.divInt (totC ls ins) (totQ ls ins)), 0) := by
  unfold priceV; rw [if_neg (by rw [avgE_ok hv (by simp)]; decide), prV_ok h]
theorem priceV_no {ls : List LotV} {ins : Bs} (hv : checkAllL ls = 0) (h : totQ ls ins = 0) : priceV ls ins = (⟨[], []⟩, 6) := by
  unfold priceV prV; rw [if_neg (by rw [avgE_ok hv (by simp)]; decide), if_pos h]
theorem share_qbL {t p a : Bs} {L : Nat} (h0 : 0 < L) (lt : t.length ≤ L) (lp : p.length ≤ L) (la : a.length ≤ L) : QB (L + L + 1) ((roundQ (Rat.divInt (valI t * valI p) (valI a)) : Int) : Rat) :=
  qb_int (by omega) (roundQ_abs (qb_ratio h0 lt lp la))
theorem share_qb {w : World} {A : Option Addr} {ls : List LotV} (h : LotsAt w A ls) (ins qty : Bs) (hq : qty.length ≤ 2000) : QB 4001 ((shareZ (totC ls ins) (valI qty) (totQ ls ins) : Int) : Rat) := by
  have h1 := share_qbL (t := ofI (totC ls ins)) (p := qty) (a := ofI (totQ ls ins)) (L := 2000) (by omega) (totC_le h ins) hq (totQ_le h ins)
  rw [valI_ofI, valI_ofI] at h1
  exact h1.mono (by omega)
theorem share_len {w : World} {A : Option Addr} {ls : List LotV} (h : LotsAt w A ls) (ins qty : Bs) (hq : qty.length ≤ 2000) : (ofI (shareZ (totC ls ins) (valI qty) (totQ ls ins))).length ≤ 4002 := by
  have h1 := qb_ratio (t := ofI (totC ls ins)) (p := qty) (a := ofI (totQ ls ins)) (L := 2000) (by omega) (totC_le h ins) hq (totQ_le h ins)
  rw [valI_ofI, valI_ofI] at h1
  exact round_len h1
theorem avg_qb {w : World} {A : Option Addr} {ls : List LotV} (h : LotsAt w A ls) (ins : Bs) : QB 2000 (Rat.divInt (totC ls ins) (totQ ls ins)) := by
  rw [← valI_ofI (totC ls ins), ← valI_ofI (totQ ls ins)]
  exact qb_two (totC_le h ins) (totQ_le h ins) (by omega)
theorem half_frQ : frQ ⟨[49], [50]⟩ = 1 / 2 := by
  unfold frQ frN frD
  rw [show valI [49] = 1 by decide, show valI [50] = 2 by decide, if_neg (by decide), Rat.divInt_eq_div]
  simp
end Go.Proofs.YtikehdbkiplleaaGreatDoor

/- The reference's Total, average, Price, Take, After. -/
namespace Go.Proofs.YtikehdbkiplleaaGreatDoor
open Go.RowKit
attribute [local go_sem] size_bs toList_bs

set_option maxRecDepth 100000 in
set_option maxHeartbeats 4000000 in
theorem refTotal (ls : List LotV) (A : Option Addr) (c : Nat) (ins : Bs) (w : World) (hA : RdL w A ls) (hs : ∀ x ∈ ls, SmallL x) (hn : ls.length ≤ 100000) :
    Calls Tryz.prog 51 #[.slice A ls.length c, .string (bs ins)] w fun e w' => e = .returned (.tuple #[.string (bs (ofI (totQ ls ins))), .string (bs (ofI (totC ls ins)))]) ∧ Ext w w' := by
  have HA := Lib.hid hA
  have HS := Lib.hid hs
  have HLQ := Lib.hid (fun k => totQ_len ins k hs hn)
  have HLC := Lib.hid (fun k => totC_len ins k hs hn)
  clear hA hs
  go_enter Tryz.func51, Tryz.ntmps51
  go_wp2_with fail
  go_loopw [6, 7, 8] (fun q cc i wr => ∃ k : Nat, k ≤ ls.length ∧ i = .int .i64 k ∧ q = .string (bs (ofI (totQ (ls.take k) ins))) ∧ cc = .string (bs (ofI (totC (ls.take k) ins))) ∧ Ext w wr) (fun _ _ i _ => ls.length - (intOf i).toNat)
  case atStart => exact ⟨0, by omega, rfl, by simp [totQ, ofL, ofI_nil.2 rfl]; rfl, by simp [totC, ofL, ofI_nil.2 rfl]; rfl, Ext.refl _⟩
  case round =>
    obtain ⟨k, hk, rfl, rfl, rfl, hx⟩ := hrel
    have HX := Lib.hid hx
    clear hx
    by_cases hlt : k < ls.length
    · obtain ⟨b, o, rfl, hb, c0, c1', c2', c3, c4, c5, c6⟩ := (HA.out.ext HX.out).at_ hlt
      clear c0 c2' c3 c6
      have hki : (k : Int) < (ls.length : Int) := by omega
      have hk0 : (0 : Int) ≤ (k : Int) := by omega
      by_cases he : (ls[k]'hlt).ins = ins
      · have hq := totQ_hit hlt he
        have hcc := totC_hit hlt he
        have hsm := HS.out _ (List.getElem_mem hlt)
        have l1 := HLQ.out k
        have l2 := HLC.out k
        have a1 := addR (ofI (totQ (ls.take k) ins)) (ls[k]'hlt).q (by omega) (by have := hsm.2.2.1; omega)
        have a2 := addR (ofI (totC (ls.take k) ins)) (ls[k]'hlt).c (by omega) (by have := hsm.2.2.2.1; omega)
        rw [valI_ofI, ← hq] at a1
        rw [valI_ofI, ← hcc] at a2
        have A1 := Lib.hid (fun W0 => a1.x W0)
        have A2 := Lib.hid (fun W0 => a2.x W0)
        have g : ((ls[k]'hlt).ins == ins) = true := beq_iff_eq.2 he
        clear hq hcc hsm l1 l2 a1 a2 he
        generalize (ls[k]'hlt) = x at *
        generalize hq1 : ofI (totQ (ls.take (k + 1)) ins) = q1 at *
        generalize hc1 : ofI (totC (ls.take (k + 1)) ins) = cc1 at *
        have HQ1 := Lib.hid hq1
        have HC1 := Lib.hid hc1
        clear hq1 hc1
        generalize ofI (totQ (ls.take k) ins) = q0 at *
        generalize ofI (totC (ls.take k) ins) = cc0 at *
        have HR := Lib.hid (fun W (h : Ext wr W) => h.rules)
        have hbs : b < wr.heap.size := hb
        go_wp2_with fail
        replace A1 := Lib.hid (A1.out wr)
        replace A2 := Lib.hid (A2.out wr)
        have HD : Hid (Ext wr wr.drew) := Lib.hid (Ext.refl wr).drew
        go_region_held3 (fun w' => w'.cell? ⟨b, o + k * 7 + 4, none⟩ = some (.string (bs x.q)) ∧ w'.cell? ⟨b, o + k * 7 + 5, none⟩ = some (.string (bs x.c)))
          (go_keep)
          (first
            | (go_at_call 57; ((with_reducible refine (A1.out _ HD.out).mono ?_); rintro e w5 ⟨rfl, hx⟩); (replace HD := Lib.hid (HD.out.trans hx)); (have d4 := (HD.out.cell (p := ⟨b, o + k * 7 + 4, none⟩) hbs).trans c4); (have d5 := (HD.out.cell (p := ⟨b, o + k * 7 + 5, none⟩) hbs).trans c5); clear hx)
            | (go_at_call 57; ((with_reducible refine (A2.out _ HD.out).mono ?_); rintro e w5 ⟨rfl, hx⟩); (replace HD := Lib.hid (HD.out.trans hx)); (have d4 := (HD.out.cell (p := ⟨b, o + k * 7 + 4, none⟩) hbs).trans c4); (have d5 := (HD.out.cell (p := ⟨b, o + k * 7 + 5, none⟩) hbs).trans c5); clear hx))
        all_goals
          go_wp2_with fail
          exact ⟨⟨k + 1, by omega, by go_num, by rw [HQ1.out], by rw [HC1.out], HX.out.trans HD.out⟩, by simp [intOf]; omega⟩
      · have hq : totQ (ls.take k) ins = totQ (ls.take (k + 1)) ins := by unfold totQ; rw [ofL_take_skip hlt he]
        have hcc : totC (ls.take k) ins = totC (ls.take (k + 1)) ins := by unfold totC; rw [ofL_take_skip hlt he]
        have HQ := Lib.hid hq
        have HC := Lib.hid hcc
        have g := bs_ne he
        clear he hq hcc
        generalize (ls[k]'hlt) = x at *
        go_wp2_with fail
        exact ⟨⟨k + 1, by omega, by go_num, by rw [← HQ.out], by rw [← HC.out], HX.out⟩, by simp [intOf]; omega⟩
    · have hkk : k = ls.length := by omega
      subst hkk
      rw [List.take_length]
      go_wp2_with fail
      go_ret2
      exact ⟨rfl, HX.out⟩
set_option maxRecDepth 100000 in
set_option maxHeartbeats 2000000 in
theorem refAverage (n d : Bs) (hn : n.length ≤ 80000) (hd : d.length ≤ 80000) (h0 : valI d ≠ 0) : PureR 52 #[.string (bs n), .string (bs d)] (fv (ofQ (Rat.divInt (valI n) (valI d)))) := by
  intro w
  have HN := Lib.hid (refNew n d hn hd h0)
  generalize ofQ (Rat.divInt (valI n) (valI d)) = r at *
  clear hn hd h0
  have HB := Lib.hid (Blk.new w 28 #[.string ⟨#[]⟩, .string ⟨#[]⟩])
  have HX : Hid (Ext w (w.alloc (.cells #[.string ⟨#[]⟩, .string ⟨#[]⟩] 28))) := Lib.hid (Ext.new _ _)
  go_enter Tryz.func52, Tryz.ntmps52
  go_wp2_with fail
  refine (HN.out _).mono ?_
  rintro e w5 ⟨rfl, hx1⟩
  replace HB := Lib.hid (HB.out.ext hx1)
  replace HX := Lib.hid (HX.out.trans hx1)
  clear hx1
  have hgw : w.heap.size < w5.heap.size := HB.out.lt
  have HBR := Lib.hid (Blk.new w5 28 #[.string (bs r.num), .string (bs r.den)])
  replace HX := Lib.hid (HX.out.alloc (.cells #[.string (bs r.num), .string (bs r.den)] 28))
  replace HB := Lib.hid (HB.out.alloc (.cells #[.string (bs r.num), .string (bs r.den)] 28))
  go_upto_region 2 with fail
  generalize w5.alloc (.cells #[.string (bs r.num), .string (bs r.den)] 28) = W5 at *
  generalize w5.heap.size = P at *
  obtain ⟨r0, r1, _, _⟩ := frBlk HBR.out (Ext.refl _)
  obtain ⟨q0, q1, f0, f1⟩ := frBlk HB.out (Ext.refl _)
  go_wp2_with fail
  refine bodyPost_ret (results_fr rfl _ _ (w.heap.size) (.string (bs r.num)) (.string (bs r.den)) rfl ((HB.out.set_ 0 _).set_ 1 _)) rfl ?_
  exact ⟨rfl, (HX.out.setCell (p := ⟨w.heap.size, 0, none⟩) (Nat.le_refl _) _).setCell (p := ⟨w.heap.size, 1, none⟩) (Nat.le_refl _) _⟩
theorem qs_full {ls : List LotV} {ins : Bs} (h : totQ ls ins ≠ 0) : (ofI (totQ ls ins)).isEmpty = false := ofI_full h
set_option maxRecDepth 100000 in
set_option maxHeartbeats 2000000 in
theorem refPrice (ls : List LotV) (A : Option Addr) (c : Nat) (ins : Bs) (w : World) (hc : ls.length ≤ c) (hL : LotsAt w A ls) :
    Calls Tryz.prog 14 #[.slice A ls.length c, .string (bs ins)] w fun e w' => e = .returned (.tuple #[fv (priceV ls ins).1, .int .i64 (priceV ls ins).2]) ∧ Ext w w' := by
  have HB := Lib.hid (Blk.new w 28 #[.string ⟨#[]⟩, .string ⟨#[]⟩])
  have HX : Hid (Ext w (w.alloc (.cells #[.string ⟨#[]⟩, .string ⟨#[]⟩] 28))) := Lib.hid (Ext.new _ _)
  have HK := Lib.hid (fun W (hx : Ext w W) => refCheckAll ls A c W (hL.rd.ext hx) hL.sm hL.le hc)
  have HT := Lib.hid (fun W (hx : Ext w W) => refTotal ls A c ins W (hL.rd.ext hx) hL.sm hL.le)
  by_cases hv : checkAllL ls = 0
  · rw [hv] at HK
    by_cases h0 : totQ ls ins = 0
    · rw [priceV_no hv h0]
      rw [h0, ofI_nil.2 rfl] at HT
      generalize ofI (totC ls ins) = cs at *
      clear hv h0 hL hc
      go_enter Tryz.func14, Tryz.ntmps14
      go_wp2_with fail
      refine (HK.out _ HX.out).mono ?_
      rintro e v4 ⟨rfl, hx1⟩
      replace HB := Lib.hid (HB.out.ext hx1)
      replace HX := Lib.hid (HX.out.trans hx1)
      clear hx1
      go_wp2_with fail
      refine (HT.out _ HX.out).mono ?_
      rintro e v5 ⟨rfl, hx1⟩
      replace HB := Lib.hid (HB.out.ext hx1)
      replace HX := Lib.hid (HX.out.trans hx1)
      clear hx1
      obtain ⟨q0, q1, f0, f1⟩ := frBlk HB.out (Ext.refl _)
      go_wp2_with fail
      refine bodyPost_ret (results_fr2 rfl _ _ (w.heap.size) (.string ⟨#[]⟩) (.string ⟨#[]⟩) (.int .i64 6) rfl rfl ((HB.out.set_ 0 _).set_ 1 _)) rfl ?_
      exact ⟨rfl, (HX.out.setCell (p := ⟨w.heap.size, 0, none⟩) (Nat.le_refl _) _).setCell (p := ⟨w.heap.size, 1, none⟩) (Nat.le_refl _) _⟩
    · have hp : 0 < totQ ls ins := by have := totQ_nonneg (ins := ins) hv; omega
      rw [priceV_ok hv hp]
      have hq := qs_full h0
      have ha := refAverage (ofI (totC ls ins)) (ofI (totQ ls ins)) (by have := totC_le hL ins; omega) (by have := totQ_le hL ins; omega) (by rw [valI_ofI]; exact h0)
      rw [valI_ofI, valI_ofI] at ha
      have HA := Lib.hid ha
      generalize ofQ (Rat.divInt (totC ls ins) (totQ ls ins)) = r at *
      generalize ofI (totC ls ins) = cs at *
      generalize ofI (totQ ls ins) = qs at *
      clear hv h0 hp hL ha hc
      go_enter Tryz.func14, Tryz.ntmps14
      go_wp2_with fail
      refine (HK.out _ HX.out).mono ?_
      rintro e v8 ⟨rfl, hx1⟩
      replace HB := Lib.hid (HB.out.ext hx1)
      replace HX := Lib.hid (HX.out.trans hx1)
      clear hx1
      go_wp2_with fail
      refine (HT.out _ HX.out).mono ?_
      rintro e v9 ⟨rfl, hx1⟩
      replace HB := Lib.hid (HB.out.ext hx1)
      replace HX := Lib.hid (HX.out.trans hx1)
      clear hx1
      go_wp2_with fail
      refine (HA.out _).mono ?_
      rintro e v10 ⟨rfl, hx1⟩
      replace HB := Lib.hid (HB.out.ext hx1)
      replace HX := Lib.hid (HX.out.trans hx1)
      clear hx1
      obtain ⟨q0, q1, f0, f1⟩ := frBlk HB.out (Ext.refl _)
      go_wp2_with fail
      refine bodyPost_ret (results_fr2 rfl _ _ (w.heap.size) (.string (bs r.num)) (.string (bs r.den)) (.int .i64 0) rfl rfl ((HB.out.set_ 0 _).set_ 1 _)) rfl ?_
      exact ⟨rfl, (HX.out.setCell (p := ⟨w.heap.size, 0, none⟩) (Nat.le_refl _) _).setCell (p := ⟨w.heap.size, 1, none⟩) (Nat.le_refl _) _⟩
  · have he : priceV ls ins = (⟨[], []⟩, 1) := by
      have h1 : avgE ls [] = 1 := by unfold avgE; rw [if_pos hv]
      unfold priceV; rw [if_pos (by rw [h1]; decide), h1]
    rw [he]
    have g : (checkAllL ls != 0) = true := by rw [bne_iff_ne]; exact hv
    generalize checkAllL ls = ck at *
    clear hv he hL hc HT
    go_enter Tryz.func14, Tryz.ntmps14
    go_wp2_with fail
    refine (HK.out _ HX.out).mono ?_
    rintro e v13 ⟨rfl, hx1⟩
    replace HB := Lib.hid (HB.out.ext hx1)
    replace HX := Lib.hid (HX.out.trans hx1)
    clear hx1
    obtain ⟨q0, q1, f0, f1⟩ := frBlk HB.out (Ext.refl _)
    go_wp2_with fail
    refine bodyPost_ret (results_fr2 rfl _ _ (w.heap.size) (.string ⟨#[]⟩) (.string ⟨#[]⟩) (.int .i64 1) rfl rfl ((HB.out.set_ 0 _).set_ 1 _)) rfl ?_
    exact ⟨rfl, (HX.out.setCell (p := ⟨w.heap.size, 0, none⟩) (Nat.le_refl _) _).setCell (p := ⟨w.heap.size, 1, none⟩) (Nat.le_refl _) _⟩
theorem signR (a : Bs) (ha : a.length ≤ 100000) : PureR 54 #[.string (bs a)] (.int .i64 (cmpI (valI a) 0)) := fun W => still (refSign a W (by omega))
theorem avgE_one {ls : List LotV} {ns : List Bs} (h : checkAllL ls ≠ 0 ∨ ns.any (fun a => checkI a != 0) = true) : avgE ls ns = 1 := by
  unfold avgE
  rcases h with h | h
  · rw [if_pos h]
  · by_cases h2 : checkAllL ls ≠ 0
    · rw [if_pos h2]
    · rw [if_neg h2, if_pos h]
set_option maxRecDepth 100000 in
set_option maxHeartbeats 4000000 in
theorem refTake (ls : List LotV) (A : Option Addr) (c : Nat) (ins qty : Bs) (w : World) (hc : ls.length ≤ c) (hL : LotsAt w A ls) (hs : ∀ x ∈ ls, x.q.length ≤ 1000 ∧ x.c.length ≤ 1000) (hq : qty.length ≤ 1000) :
    Calls Tryz.prog 16 #[.slice A ls.length c, .string (bs ins), .string (bs qty)] w fun e w' => e = .returned (.tuple #[.string (bs (takeV ls ins qty).1), .string (bs (takeV ls ins qty).2.1), .int .i64 (takeV ls ins qty).2.2]) ∧ Ext w w' := by
  have HX := Lib.hid (Ext.refl w)
  have HK := Lib.hid (fun W (hx : Ext w W) => refCheckAll ls A c W (hL.rd.ext hx) hL.sm hL.le hc)
  have HT := Lib.hid (fun W (hx : Ext w W) => refTotal ls A c ins W (hL.rd.ext hx) hL.sm hL.le)
  have HCK := Lib.hid (checkR qty (by omega))
  have HSG := Lib.hid (signR qty (by omega))
  by_cases hv : checkAllL ls = 0
  rotate_left
  · have he : takeV ls ins qty = ([], [], 1) := by unfold takeV; rw [avgE_one (.inl hv), if_pos (by decide)]
    rw [he]
    have g : (checkAllL ls != 0) = true := by rw [bne_iff_ne]; exact hv
    generalize checkAllL ls = ck at *
    clear hv he hL hc HT
    go_enter Tryz.func16, Tryz.ntmps16
    go_wp2_with fail
    refine (HK.out _ HX.out).mono ?_
    rintro e v16 ⟨rfl, hx1⟩
    replace HX := Lib.hid (HX.out.trans hx1)
    clear hx1
    go_wp2_with fail
    go_ret3
    exact ⟨rfl, HX.out⟩
  rw [hv] at HK
  by_cases h3 : checkI qty = 0
  rotate_left
  · have he : takeV ls ins qty = ([], [], 1) := by unfold takeV; rw [avgE_one (.inr (by simpa using h3)), if_pos (by decide)]
    rw [he]
    have g : (checkI qty != 0) = true := by rw [bne_iff_ne]; exact h3
    generalize checkI qty = ck at *
    clear hv he hL hc HT h3
    go_enter Tryz.func16, Tryz.ntmps16
    go_wp2_with fail
    refine (HK.out _ HX.out).mono ?_
    rintro e v19 ⟨rfl, hx1⟩
    replace HX := Lib.hid (HX.out.trans hx1)
    clear hx1
    go_wp2_with fail
    refine (HCK.out _).mono ?_
    rintro e v20 ⟨rfl, hx1⟩
    replace HX := Lib.hid (HX.out.trans hx1)
    clear hx1
    go_wp2_with fail
    go_ret3
    exact ⟨rfl, HX.out⟩
  rw [h3] at HCK
  by_cases h0 : totQ ls ins = 0
  · rw [take_none hv h3 h0]
    rw [h0, ofI_nil.2 rfl] at HT
    generalize ofI (totC ls ins) = cs at *
    clear hv h0 h3 hL hc
    go_enter Tryz.func16, Tryz.ntmps16
    go_wp2_with fail
    refine (HK.out _ HX.out).mono ?_
    rintro e v23 ⟨rfl, hx1⟩
    replace HX := Lib.hid (HX.out.trans hx1)
    clear hx1
    go_wp2_with fail
    refine (HCK.out _).mono ?_
    rintro e v24 ⟨rfl, hx1⟩
    replace HX := Lib.hid (HX.out.trans hx1)
    clear hx1
    go_wp2_with fail
    refine (HT.out _ HX.out).mono ?_
    rintro e v25 ⟨rfl, hx1⟩
    replace HX := Lib.hid (HX.out.trans hx1)
    clear hx1
    go_wp2_with fail
    go_ret3
    exact ⟨rfl, HX.out⟩
  have hp : 0 < totQ ls ins := by have := totQ_nonneg (ins := ins) hv; omega
  have hqf := qs_full h0
  by_cases h4 : valI qty ≤ 0
  · rw [take_low hv h3 hp h4]
    have g : decide (cmpI (valI qty) 0 ≤ 0) = true := by rw [decide_eq_true_iff]; have := cmpI_pos (x := valI qty) (y := 0); omega
    generalize cmpI (valI qty) 0 = sg at *
    generalize ofI (totC ls ins) = cs at *
    generalize ofI (totQ ls ins) = qs at *
    clear hv h0 h3 h4 hp hL hc
    go_enter Tryz.func16, Tryz.ntmps16
    go_wp2_with fail
    refine (HK.out _ HX.out).mono ?_
    rintro e v28 ⟨rfl, hx1⟩
    replace HX := Lib.hid (HX.out.trans hx1)
    clear hx1
    go_wp2_with fail
    refine (HCK.out _).mono ?_
    rintro e v29 ⟨rfl, hx1⟩
    replace HX := Lib.hid (HX.out.trans hx1)
    clear hx1
    go_wp2_with fail
    refine (HT.out _ HX.out).mono ?_
    rintro e v30 ⟨rfl, hx1⟩
    replace HX := Lib.hid (HX.out.trans hx1)
    clear hx1
    go_wp2_with fail
    refine (HSG.out _).mono ?_
    rintro e v31 ⟨rfl, hx1⟩
    replace HX := Lib.hid (HX.out.trans hx1)
    clear hx1
    go_wp2_with fail
    go_ret3
    exact ⟨rfl, HX.out⟩
  have g4 : decide (cmpI (valI qty) 0 ≤ 0) = false := by rw [decide_eq_false_iff_not]; have := cmpI_pos (x := valI qty) (y := 0); omega
  generalize cmpI (valI qty) 0 = sg at *
  have hcm := cmpR qty (ofI (totQ ls ins)) (by omega) (by have := totQ_le hL ins; omega)
  rw [valI_ofI] at hcm
  have HCM := Lib.hid hcm
  by_cases h5 : totQ ls ins < valI qty
  · rw [take_high hv h3 hp h5]
    have g : decide (0 < cmpI (valI qty) (totQ ls ins)) = true := by rw [decide_eq_true_iff]; exact cmpI_pos.2 h5
    generalize cmpI (valI qty) (totQ ls ins) = cc at *
    generalize ofI (totC ls ins) = cs at *
    generalize ofI (totQ ls ins) = qs at *
    clear hv h0 h3 h4 h5 hp hL hc hcm
    go_enter Tryz.func16, Tryz.ntmps16
    go_wp2_with fail
    refine (HK.out _ HX.out).mono ?_
    rintro e v34 ⟨rfl, hx1⟩
    replace HX := Lib.hid (HX.out.trans hx1)
    clear hx1
    go_wp2_with fail
    refine (HCK.out _).mono ?_
    rintro e v35 ⟨rfl, hx1⟩
    replace HX := Lib.hid (HX.out.trans hx1)
    clear hx1
    go_wp2_with fail
    refine (HT.out _ HX.out).mono ?_
    rintro e v36 ⟨rfl, hx1⟩
    replace HX := Lib.hid (HX.out.trans hx1)
    clear hx1
    go_wp2_with fail
    refine (HSG.out _).mono ?_
    rintro e v37 ⟨rfl, hx1⟩
    replace HX := Lib.hid (HX.out.trans hx1)
    clear hx1
    go_wp2_with fail
    refine (HCM.out _).mono ?_
    rintro e v38 ⟨rfl, hx1⟩
    replace HX := Lib.hid (HX.out.trans hx1)
    clear hx1
    go_wp2_with fail
    go_ret3
    exact ⟨rfl, HX.out⟩
  rw [take_ok hv h3 hp h4 h5]
  have g : decide (0 < cmpI (valI qty) (totQ ls ins)) = false := by rw [decide_eq_false_iff_not, cmpI_pos]; exact h5
  have t1 := tot_lenL (fun x => x.c) 1000 (ofL ls ins) (fun z hz => (hs z (ofL_mem' hz).1).2) (Nat.le_trans (List.length_filter_le _ _) hL.le)
  have t2 := tot_lenL (fun x => x.q) 1000 (ofL ls ins) (fun z hz => (hs z (ofL_mem' hz).1).1) (Nat.le_trans (List.length_filter_le _ _) hL.le)
  have hsh := refShare (ofI (totC ls ins)) qty (ofI (totQ ls ins)) (Nat.le_trans t1 (by omega)) (by omega) (Nat.le_trans t2 (by omega)) (checkI_ofI _) h3 (checkI_ofI _) (by rw [valI_ofI]; exact hp) (by omega) (by rw [valI_ofI]; omega)
  rw [valI_ofI, valI_ofI] at hsh
  have HSH := Lib.hid hsh
  clear hsh t1 t2 hcm
  generalize ofI (totC ls ins - shareZ (totC ls ins) (valI qty) (totQ ls ins)) = z2 at *
  generalize ofI (shareZ (totC ls ins) (valI qty) (totQ ls ins)) = z1 at *
  generalize cmpI (valI qty) (totQ ls ins) = cc at *
  generalize ofI (totC ls ins) = cs at *
  generalize ofI (totQ ls ins) = qs at *
  clear hv h0 h3 h4 h5 hp hL hc
  go_enter Tryz.func16, Tryz.ntmps16
  go_wp2_with fail
  refine (HK.out _ HX.out).mono ?_
  rintro e v41 ⟨rfl, hx1⟩
  replace HX := Lib.hid (HX.out.trans hx1)
  clear hx1
  go_wp2_with fail
  refine (HCK.out _).mono ?_
  rintro e v42 ⟨rfl, hx1⟩
  replace HX := Lib.hid (HX.out.trans hx1)
  clear hx1
  go_wp2_with fail
  refine (HT.out _ HX.out).mono ?_
  rintro e v43 ⟨rfl, hx1⟩
  replace HX := Lib.hid (HX.out.trans hx1)
  clear hx1
  go_wp2_with fail
  refine (HSG.out _).mono ?_
  rintro e v44 ⟨rfl, hx1⟩
  replace HX := Lib.hid (HX.out.trans hx1)
  clear hx1
  go_wp2_with fail
  refine (HCM.out _).mono ?_
  rintro e v45 ⟨rfl, hx1⟩
  replace HX := Lib.hid (HX.out.trans hx1)
  clear hx1
  go_wp2_with fail
  refine (HSH.out _).mono ?_
  rintro e v46 ⟨rfl, hx1⟩
  replace HX := Lib.hid (HX.out.trans hx1)
  clear hx1
  go_wp2_with fail
  go_ret3
  exact ⟨rfl, HX.out⟩
end Go.Proofs.YtikehdbkiplleaaGreatDoor

/- The reference's After and Gap. -/
namespace Go.Proofs.YtikehdbkiplleaaGreatDoor
open Go.RowKit
attribute [local go_sem] size_bs toList_bs
theorem after_bad {ls : List LotV} {ins qty cost : Bs} (h : checkAllL ls ≠ 0 ∨ checkI qty ≠ 0 ∨ checkI cost ≠ 0) : afterV ls ins qty cost = (⟨[], []⟩, 1) := by
  have h1 : avgE ls [qty, cost] = 1 := avgE_one (by
    rcases h with h | h | h
    · exact .inl h
    · exact .inr (by simp [h])
    · exact .inr (by simp [h]))
  unfold afterV; rw [if_pos (by rw [h1]; decide), h1]
theorem after_ok {ls : List LotV} {qty cost : Bs} (hv : checkAllL ls = 0) (h1 : checkI qty = 0) (h2 : checkI cost = 0) : avgE ls [qty, cost] = 0 := avgE_ok hv (by
  intro a ha
  simp at ha
  rcases ha with rfl | rfl
  · exact h1
  · exact h2)
set_option maxRecDepth 100000 in
set_option maxHeartbeats 4000000 in
theorem refAfter (ls : List LotV) (A : Option Addr) (c : Nat) (ins qty cost : Bs) (w : World) (hc : ls.length ≤ c) (hL : LotsAt w A ls) (hq : qty.length ≤ 1000) (hcl : cost.length ≤ 1000) :
    Calls Tryz.prog 18 #[.slice A ls.length c, .string (bs ins), .string (bs qty), .string (bs cost)] w fun e w' => e = .returned (.tuple #[fv (afterV ls ins qty cost).1, .int .i64 (afterV ls ins qty cost).2]) ∧ Ext w w' := by
  have HB := Lib.hid (Blk.new w 28 #[.string ⟨#[]⟩, .string ⟨#[]⟩])
  have HX : Hid (Ext w (w.alloc (.cells #[.string ⟨#[]⟩, .string ⟨#[]⟩] 28))) := Lib.hid (Ext.new _ _)
  have HK := Lib.hid (fun W (hx : Ext w W) => refCheckAll ls A c W (hL.rd.ext hx) hL.sm hL.le hc)
  have HT := Lib.hid (fun W (hx : Ext w W) => refTotal ls A c ins W (hL.rd.ext hx) hL.sm hL.le)
  have HK1 := Lib.hid (checkR qty (by omega))
  have HK2 := Lib.hid (checkR cost (by omega))
  have HS1 := Lib.hid (signR qty (by omega))
  have HS2 := Lib.hid (signR cost (by omega))
  by_cases hv : checkAllL ls = 0
  rotate_left
  · rw [after_bad (.inl hv)]
    have g : (checkAllL ls != 0) = true := by rw [bne_iff_ne]; exact hv
    generalize checkAllL ls = ck at *
    clear hv hL hc HT
    go_enter Tryz.func18, Tryz.ntmps18
    go_wp2_with fail
    refine (HK.out _ HX.out).mono ?_
    rintro e v2 ⟨rfl, hx1⟩
    replace HB := Lib.hid (HB.out.ext hx1)
    replace HX := Lib.hid (HX.out.trans hx1)
    clear hx1
    obtain ⟨q0, q1, f0, f1⟩ := frBlk HB.out (Ext.refl _)
    go_wp2_with fail
    refine bodyPost_ret (results_fr2 rfl _ _ (w.heap.size) (.string ⟨#[]⟩) (.string ⟨#[]⟩) (.int .i64 1) rfl rfl ((HB.out.set_ 0 _).set_ 1 _)) rfl ?_
    exact ⟨rfl, (HX.out.setCell (p := ⟨w.heap.size, 0, none⟩) (Nat.le_refl _) _).setCell (p := ⟨w.heap.size, 1, none⟩) (Nat.le_refl _) _⟩
  rw [hv] at HK
  by_cases h3 : checkI qty = 0
  rotate_left
  · rw [after_bad (.inr (.inl h3))]
    have g : (checkI qty != 0) = true := by rw [bne_iff_ne]; exact h3
    generalize checkI qty = ck at *
    clear hv h3 hL hc HT
    go_enter Tryz.func18, Tryz.ntmps18
    go_wp2_with fail
    refine (HK.out _ HX.out).mono ?_
    rintro e v5 ⟨rfl, hx1⟩
    replace HB := Lib.hid (HB.out.ext hx1)
    replace HX := Lib.hid (HX.out.trans hx1)
    clear hx1
    go_wp2_with fail
    refine (HK1.out _).mono ?_
    rintro e v6 ⟨rfl, hx1⟩
    replace HB := Lib.hid (HB.out.ext hx1)
    replace HX := Lib.hid (HX.out.trans hx1)
    clear hx1
    obtain ⟨q0, q1, f0, f1⟩ := frBlk HB.out (Ext.refl _)
    go_wp2_with fail
    refine bodyPost_ret (results_fr2 rfl _ _ (w.heap.size) (.string ⟨#[]⟩) (.string ⟨#[]⟩) (.int .i64 1) rfl rfl ((HB.out.set_ 0 _).set_ 1 _)) rfl ?_
    exact ⟨rfl, (HX.out.setCell (p := ⟨w.heap.size, 0, none⟩) (Nat.le_refl _) _).setCell (p := ⟨w.heap.size, 1, none⟩) (Nat.le_refl _) _⟩
  rw [h3] at HK1
  by_cases h4 : checkI cost = 0
  rotate_left
  · rw [after_bad (.inr (.inr h4))]
    have g : (checkI cost != 0) = true := by rw [bne_iff_ne]; exact h4
    generalize checkI cost = ck at *
    clear hv h3 h4 hL hc HT
    go_enter Tryz.func18, Tryz.ntmps18
    go_wp2_with fail
    refine (HK.out _ HX.out).mono ?_
    rintro e v9 ⟨rfl, hx1⟩
    replace HB := Lib.hid (HB.out.ext hx1)
    replace HX := Lib.hid (HX.out.trans hx1)
    clear hx1
    go_wp2_with fail
    refine (HK1.out _).mono ?_
    rintro e v10 ⟨rfl, hx1⟩
    replace HB := Lib.hid (HB.out.ext hx1)
    replace HX := Lib.hid (HX.out.trans hx1)
    clear hx1
    go_wp2_with fail
    refine (HK2.out _).mono ?_
    rintro e v11 ⟨rfl, hx1⟩
    replace HB := Lib.hid (HB.out.ext hx1)
    replace HX := Lib.hid (HX.out.trans hx1)
    clear hx1
    obtain ⟨q0, q1, f0, f1⟩ := frBlk HB.out (Ext.refl _)
    go_wp2_with fail
    refine bodyPost_ret (results_fr2 rfl _ _ (w.heap.size) (.string ⟨#[]⟩) (.string ⟨#[]⟩) (.int .i64 1) rfl rfl ((HB.out.set_ 0 _).set_ 1 _)) rfl ?_
    exact ⟨rfl, (HX.out.setCell (p := ⟨w.heap.size, 0, none⟩) (Nat.le_refl _) _).setCell (p := ⟨w.heap.size, 1, none⟩) (Nat.le_refl _) _⟩
  rw [h4] at HK2
  have hav := after_ok hv h3 h4
  by_cases h5 : valI qty ≤ 0
  · have he : afterV ls ins qty cost = (⟨[], []⟩, 2) := by unfold afterV; rw [if_neg (by rw [hav]; decide), if_pos h5]
    rw [he]
    have g : decide (cmpI (valI qty) 0 ≤ 0) = true := by rw [decide_eq_true_iff]; have := cmpI_pos (x := valI qty) (y := 0); omega
    generalize cmpI (valI qty) 0 = sg at *
    clear hv h3 h4 h5 hL hc HT hav he
    go_enter Tryz.func18, Tryz.ntmps18
    go_wp2_with fail
    refine (HK.out _ HX.out).mono ?_
    rintro e v14 ⟨rfl, hx1⟩
    replace HB := Lib.hid (HB.out.ext hx1)
    replace HX := Lib.hid (HX.out.trans hx1)
    clear hx1
    go_wp2_with fail
    refine (HK1.out _).mono ?_
    rintro e v15 ⟨rfl, hx1⟩
    replace HB := Lib.hid (HB.out.ext hx1)
    replace HX := Lib.hid (HX.out.trans hx1)
    clear hx1
    go_wp2_with fail
    refine (HK2.out _).mono ?_
    rintro e v16 ⟨rfl, hx1⟩
    replace HB := Lib.hid (HB.out.ext hx1)
    replace HX := Lib.hid (HX.out.trans hx1)
    clear hx1
    go_wp2_with fail
    refine (HS1.out _).mono ?_
    rintro e v17 ⟨rfl, hx1⟩
    replace HB := Lib.hid (HB.out.ext hx1)
    replace HX := Lib.hid (HX.out.trans hx1)
    clear hx1
    obtain ⟨q0, q1, f0, f1⟩ := frBlk HB.out (Ext.refl _)
    go_wp2_with fail
    refine bodyPost_ret (results_fr2 rfl _ _ (w.heap.size) (.string ⟨#[]⟩) (.string ⟨#[]⟩) (.int .i64 2) rfl rfl ((HB.out.set_ 0 _).set_ 1 _)) rfl ?_
    exact ⟨rfl, (HX.out.setCell (p := ⟨w.heap.size, 0, none⟩) (Nat.le_refl _) _).setCell (p := ⟨w.heap.size, 1, none⟩) (Nat.le_refl _) _⟩
  have g5 : decide (cmpI (valI qty) 0 ≤ 0) = false := by rw [decide_eq_false_iff_not]; have := cmpI_pos (x := valI qty) (y := 0); omega
  generalize cmpI (valI qty) 0 = sg at *
  by_cases h6 : valI cost < 0
  · have he : afterV ls ins qty cost = (⟨[], []⟩, 2) := by unfold afterV; rw [if_neg (by rw [hav]; decide), if_neg h5, if_pos h6]
    rw [he]
    have g : decide (cmpI (valI cost) 0 < 0) = true := by rw [decide_eq_true_iff]; exact cmpI_neg.2 h6
    generalize cmpI (valI cost) 0 = sg2 at *
    clear hv h3 h4 h5 h6 hL hc HT hav he
    go_enter Tryz.func18, Tryz.ntmps18
    go_wp2_with fail
    refine (HK.out _ HX.out).mono ?_
    rintro e v20 ⟨rfl, hx1⟩
    replace HB := Lib.hid (HB.out.ext hx1)
    replace HX := Lib.hid (HX.out.trans hx1)
    clear hx1
    go_wp2_with fail
    refine (HK1.out _).mono ?_
    rintro e v21 ⟨rfl, hx1⟩
    replace HB := Lib.hid (HB.out.ext hx1)
    replace HX := Lib.hid (HX.out.trans hx1)
    clear hx1
    go_wp2_with fail
    refine (HK2.out _).mono ?_
    rintro e v22 ⟨rfl, hx1⟩
    replace HB := Lib.hid (HB.out.ext hx1)
    replace HX := Lib.hid (HX.out.trans hx1)
    clear hx1
    go_wp2_with fail
    refine (HS1.out _).mono ?_
    rintro e v23 ⟨rfl, hx1⟩
    replace HB := Lib.hid (HB.out.ext hx1)
    replace HX := Lib.hid (HX.out.trans hx1)
    clear hx1
    go_wp2_with fail
    refine (HS2.out _).mono ?_
    rintro e v24 ⟨rfl, hx1⟩
    replace HB := Lib.hid (HB.out.ext hx1)
    replace HX := Lib.hid (HX.out.trans hx1)
    clear hx1
    obtain ⟨q0, q1, f0, f1⟩ := frBlk HB.out (Ext.refl _)
    go_wp2_with fail
    refine bodyPost_ret (results_fr2 rfl _ _ (w.heap.size) (.string ⟨#[]⟩) (.string ⟨#[]⟩) (.int .i64 2) rfl rfl ((HB.out.set_ 0 _).set_ 1 _)) rfl ?_
    exact ⟨rfl, (HX.out.setCell (p := ⟨w.heap.size, 0, none⟩) (Nat.le_refl _) _).setCell (p := ⟨w.heap.size, 1, none⟩) (Nat.le_refl _) _⟩
  have g6 : decide (cmpI (valI cost) 0 < 0) = false := by rw [decide_eq_false_iff_not, cmpI_neg]; exact h6
  generalize cmpI (valI cost) 0 = sg2 at *
  have hQ := totQ_nonneg (ins := ins) hv
  have hne : totQ ls ins + valI qty ≠ 0 := by omega
  have he : afterV ls ins qty cost = (ofQ (Rat.divInt (totC ls ins + valI cost) (totQ ls ins + valI qty)), 0) := by
    unfold afterV; rw [if_neg (by rw [hav]; decide), if_neg h5, if_neg h6]; unfold newV; rw [if_neg hne]
  rw [he]
  have t1 := totC_le hL ins
  have t2 := totQ_le hL ins
  have a1 := addR (ofI (totC ls ins)) cost (by omega) (by omega)
  have a2 := addR (ofI (totQ ls ins)) qty (by omega) (by omega)
  have k1 := add_len (x := ofI (totC ls ins)) (y := cost) (L := 2000) t1 (by omega)
  have k2 := add_len (x := ofI (totQ ls ins)) (y := qty) (L := 2000) t2 (by omega)
  rw [valI_ofI] at a1 a2 k1 k2
  have av := refAverage (ofI (totC ls ins + valI cost)) (ofI (totQ ls ins + valI qty)) (by omega) (by omega) (by rw [valI_ofI]; exact hne)
  rw [valI_ofI, valI_ofI] at av
  have A1 := Lib.hid a1
  have A2 := Lib.hid a2
  have AV := Lib.hid av
  clear a1 a2 av k1 k2 t1 t2 he
  generalize ofQ (Rat.divInt (totC ls ins + valI cost) (totQ ls ins + valI qty)) = r at *
  generalize ofI (totC ls ins + valI cost) = s1 at *
  generalize ofI (totQ ls ins + valI qty) = s2 at *
  generalize ofI (totC ls ins) = cs at *
  generalize ofI (totQ ls ins) = qs at *
  clear hv h3 h4 h5 h6 hL hc hav hQ hne
  go_enter Tryz.func18, Tryz.ntmps18
  go_wp2_with fail
  refine (HK.out _ HX.out).mono ?_
  rintro e v27 ⟨rfl, hx1⟩
  replace HB := Lib.hid (HB.out.ext hx1)
  replace HX := Lib.hid (HX.out.trans hx1)
  clear hx1
  go_wp2_with fail
  refine (HK1.out _).mono ?_
  rintro e v28 ⟨rfl, hx1⟩
  replace HB := Lib.hid (HB.out.ext hx1)
  replace HX := Lib.hid (HX.out.trans hx1)
  clear hx1
  go_wp2_with fail
  refine (HK2.out _).mono ?_
  rintro e v29 ⟨rfl, hx1⟩
  replace HB := Lib.hid (HB.out.ext hx1)
  replace HX := Lib.hid (HX.out.trans hx1)
  clear hx1
  go_wp2_with fail
  refine (HS1.out _).mono ?_
  rintro e v30 ⟨rfl, hx1⟩
  replace HB := Lib.hid (HB.out.ext hx1)
  replace HX := Lib.hid (HX.out.trans hx1)
  clear hx1
  go_wp2_with fail
  refine (HS2.out _).mono ?_
  rintro e v31 ⟨rfl, hx1⟩
  replace HB := Lib.hid (HB.out.ext hx1)
  replace HX := Lib.hid (HX.out.trans hx1)
  clear hx1
  go_wp2_with fail
  refine (HT.out _ HX.out).mono ?_
  rintro e v32 ⟨rfl, hx1⟩
  replace HB := Lib.hid (HB.out.ext hx1)
  replace HX := Lib.hid (HX.out.trans hx1)
  clear hx1
  go_wp2_with fail
  refine (A1.out _).mono ?_
  rintro e v33 ⟨rfl, hx1⟩
  replace HB := Lib.hid (HB.out.ext hx1)
  replace HX := Lib.hid (HX.out.trans hx1)
  clear hx1
  go_wp2_with fail
  refine (A2.out _).mono ?_
  rintro e v34 ⟨rfl, hx1⟩
  replace HB := Lib.hid (HB.out.ext hx1)
  replace HX := Lib.hid (HX.out.trans hx1)
  clear hx1
  go_wp2_with fail
  refine (AV.out _).mono ?_
  rintro e v35 ⟨rfl, hx1⟩
  replace HB := Lib.hid (HB.out.ext hx1)
  replace HX := Lib.hid (HX.out.trans hx1)
  clear hx1
  obtain ⟨q0, q1, f0, f1⟩ := frBlk HB.out (Ext.refl _)
  go_wp2_with fail
  refine bodyPost_ret (results_fr2 rfl _ _ (w.heap.size) (.string (bs r.num)) (.string (bs r.den)) (.int .i64 0) rfl rfl ((HB.out.set_ 0 _).set_ 1 _)) rfl ?_
  exact ⟨rfl, (HX.out.setCell (p := ⟨w.heap.size, 0, none⟩) (Nat.le_refl _) _).setCell (p := ⟨w.heap.size, 1, none⟩) (Nat.le_refl _) _⟩
end Go.Proofs.YtikehdbkiplleaaGreatDoor

/- The reference's Gap. -/
namespace Go.Proofs.YtikehdbkiplleaaGreatDoor
open Go.RowKit
attribute [local go_sem] size_bs toList_bs
def BoxAtS (W : World) (r : Fr) (p : Value) (wx : World) : Prop := ∃ P, p = .pointer (some ⟨P, 0, none⟩) ∧ W.heap.size ≤ P ∧ Blk wx P 28 #[.string (bs r.num), .string (bs r.den)] ∧ Ext W wx
set_option maxRecDepth 100000 in
set_option maxHeartbeats 4000000 in
theorem refGap (ls : List LotV) (A : Option Addr) (c : Nat) (id : Bs) (w : World) (hc : ls.length ≤ c) (hL : LotsAt w A ls) :
    Calls Tryz.prog 20 #[.slice A ls.length c, .string (bs id)] w fun e w' => e = .returned (.tuple #[fv (gapV ls id).1, .int .i64 (gapV ls id).2]) ∧ Ext w w' := by
  have HB := Lib.hid (Blk.new w 28 #[.string ⟨#[]⟩, .string ⟨#[]⟩])
  have HX : Hid (Ext w (w.alloc (.cells #[.string ⟨#[]⟩, .string ⟨#[]⟩] 28))) := Lib.hid (Ext.new _ _)
  have HK := Lib.hid (fun W (hx : Ext w W) => refCheckAll ls A c W (hL.rd.ext hx) hL.sm hL.le hc)
  have HT := Lib.hid (fun ins W (hx : Ext w W) => refTotal ls A c ins W (hL.rd.ext hx) hL.sm hL.le)
  have HF := Lib.hid (fun W (hx : Ext w W) => refFind ls id A c W (hL.rd.ext hx) (by have := hL.le; omega))
  have HL := Lib.hid hL
  by_cases hv : checkAllL ls = 0
  rotate_left
  · have he : gapV ls id = (⟨[], []⟩, 1) := by
      have h1 : avgE ls [] = 1 := avgE_one (.inl hv)
      unfold gapV; rw [if_pos (by rw [h1]; decide), h1]
    rw [he]
    have g : (checkAllL ls != 0) = true := by rw [bne_iff_ne]; exact hv
    generalize checkAllL ls = ck at *
    clear hv he hL HL hc HT HF
    go_enter Tryz.func20, Tryz.ntmps20
    go_wp2_with fail
    refine (HK.out _ HX.out).mono ?_
    rintro e v2 ⟨rfl, hx1⟩
    replace HB := Lib.hid (HB.out.ext hx1)
    replace HX := Lib.hid (HX.out.trans hx1)
    clear hx1
    obtain ⟨q0, q1, f0, f1⟩ := frBlk HB.out (Ext.refl _)
    go_wp2_with fail
    refine bodyPost_ret (results_fr2 rfl _ _ (w.heap.size) (.string ⟨#[]⟩) (.string ⟨#[]⟩) (.int .i64 1) rfl rfl ((HB.out.set_ 0 _).set_ 1 _)) rfl ?_
    exact ⟨rfl, (HX.out.setCell (p := ⟨w.heap.size, 0, none⟩) (Nat.le_refl _) _).setCell (p := ⟨w.heap.size, 1, none⟩) (Nat.le_refl _) _⟩
  rw [hv] at HK
  cases hf : findL ls id with
  | none =>
    have he : gapV ls id = (⟨[], []⟩, 6) := by
      unfold gapV; rw [if_neg (by rw [avgE_ok hv (by simp)]; decide), hf]
    rw [he]
    rw [hf] at HF
    clear hv he hL HL hc HT hf
    go_enter Tryz.func20, Tryz.ntmps20
    go_wp2_with fail
    refine (HK.out _ HX.out).mono ?_
    rintro e v5 ⟨rfl, hx1⟩
    replace HB := Lib.hid (HB.out.ext hx1)
    replace HX := Lib.hid (HX.out.trans hx1)
    clear hx1
    go_wp2_with fail
    refine (HF.out _ HX.out).mono ?_
    rintro e v6 ⟨rfl, rfl⟩
    obtain ⟨q0, q1, f0, f1⟩ := frBlk HB.out (Ext.refl _)
    go_wp2_with fail
    refine bodyPost_ret (results_fr2 rfl _ _ (w.heap.size) (.string ⟨#[]⟩) (.string ⟨#[]⟩) (.int .i64 6) rfl rfl ((HB.out.set_ 0 _).set_ 1 _)) rfl ?_
    exact ⟨rfl, (HX.out.setCell (p := ⟨w.heap.size, 0, none⟩) (Nat.le_refl _) _).setCell (p := ⟨w.heap.size, 1, none⟩) (Nat.le_refl _) _⟩
  | some k =>
    obtain ⟨hk, _⟩ := findL_lt hf
    have hgd : ls.getD k default = ls[k]'hk := by rw [List.getD_eq_getElem?_getD, List.getElem?_eq_getElem hk]; rfl
    have hp : 0 < totQ ls (ls[k]'hk).ins := totQ_pos hv (ofL_pos hk rfl)
    have he : gapV ls id = (ofQ (((valI (ls[k]'hk).c : Int) : Rat) - Rat.divInt (totC ls (ls[k]'hk).ins) (totQ ls (ls[k]'hk).ins) * ((valI (ls[k]'hk).q : Int) : Rat)), 0) := by
      unfold gapV
      rw [if_neg (by rw [avgE_ok hv (by simp)]; decide), hf]
      simp only [hgd]
      rw [prV_ok hp, frQ_ofQ]
    rw [he]
    have hsm := hL.sm (ls[k]'hk) (List.getElem_mem _)
    have t1 := totC_le hL (ls[k]'hk).ins
    have t2 := totQ_le hL (ls[k]'hk).ins
    have av := refAverage (ofI (totC ls (ls[k]'hk).ins)) (ofI (totQ ls (ls[k]'hk).ins)) (by omega) (by omega) (by rw [valI_ofI]; omega)
    rw [valI_ofI, valI_ofI] at av
    have o1 := refOfF (ls[k]'hk).c (by have := hsm.2.2.2.1; omega)
    have o2 := refOfF (ls[k]'hk).q (by have := hsm.2.2.1; omega)
    have b1 : QB 1000 ((valI (ls[k]'hk).c : Int) : Rat) := qb_val hsm.2.2.2.1 (by omega)
    have b2 : QB 1000 ((valI (ls[k]'hk).q : Int) : Rat) := qb_val hsm.2.2.1 (by omega)
    have b3 := avg_qb hL (ls[k]'hk).ins
    have b4 := b3.mul b2
    have l1 := b1.num_len
    have l1' := b1.den_len
    have l2 := b2.num_len
    have l2' := b2.den_len
    have l3 := b3.num_len
    have l3' := b3.den_len
    have l4 := b4.num_len
    have l4' := b4.den_len
    have m1 := refMulF (ofQ (Rat.divInt (totC ls (ls[k]'hk).ins) (totQ ls (ls[k]'hk).ins))) (ofQ ((valI (ls[k]'hk).q : Int) : Rat)) (by omega) (by omega) (by omega) (by omega)
    rw [frQ_ofQ, frQ_ofQ] at m1
    have s1 := refSubF (ofQ ((valI (ls[k]'hk).c : Int) : Rat)) (ofQ (Rat.divInt (totC ls (ls[k]'hk).ins) (totQ ls (ls[k]'hk).ins) * ((valI (ls[k]'hk).q : Int) : Rat))) (by omega) (by omega) (by omega) (by omega)
    rw [frQ_ofQ, frQ_ofQ] at s1
    have AV := Lib.hid (fun W0 => av.x W0)
    have O1 := Lib.hid (fun W0 => o1.x W0)
    have O2 := Lib.hid (fun W0 => o2.x W0)
    have M1 := Lib.hid (fun W0 => m1.x W0)
    have S1 := Lib.hid (fun W0 => s1.x W0)
    have hT := fun W hx => HT.out (ls[k]'hk).ins W hx
    have HT2 := Lib.hid hT
    have hfz : foundZ (some k) = (k : Int) := rfl
    rw [hf, hfz] at HF
    clear av o1 o2 m1 s1 b1 b2 b3 b4 l1 l1' l2 l2' l3 l3' l4 l4' t1 t2 hsm hp he hT HT hf hfz hgd hv hL
    generalize ofQ (((valI (ls[k]'hk).c : Int) : Rat) - Rat.divInt (totC ls (ls[k]'hk).ins) (totQ ls (ls[k]'hk).ins) * ((valI (ls[k]'hk).q : Int) : Rat)) = r at *
    generalize ofQ (Rat.divInt (totC ls (ls[k]'hk).ins) (totQ ls (ls[k]'hk).ins) * ((valI (ls[k]'hk).q : Int) : Rat)) = rm at *
    generalize ofQ (Rat.divInt (totC ls (ls[k]'hk).ins) (totQ ls (ls[k]'hk).ins)) = rp at *
    generalize ofQ ((valI (ls[k]'hk).c : Int) : Rat) = rc at *
    generalize ofQ ((valI (ls[k]'hk).q : Int) : Rat) = rq at *
    generalize ofI (totC ls (ls[k]'hk).ins) = cs at *
    generalize ofI (totQ ls (ls[k]'hk).ins) = qs at *
    have hki : (k : Int) < (ls.length : Int) := by omega
    have hk0 : (0 : Int) ≤ (k : Int) := by omega
    go_enter Tryz.func20, Tryz.ntmps20
    go_wp2_with fail
    refine (HK.out _ HX.out).mono ?_
    rintro e w3 ⟨rfl, hx1⟩
    replace HB := Lib.hid (HB.out.ext hx1)
    replace HX := Lib.hid (HX.out.trans hx1)
    clear hx1
    go_wp2_with fail
    refine (HF.out _ HX.out).mono ?_
    rintro e v10 ⟨rfl, rfl⟩
    obtain ⟨b, o, rfl, hb, c0, c1, c2, c3, c4, c5, c6⟩ := (HL.out.rd.ext HX.out).at_ hk
    have hbw : b < w.heap.size := by
      obtain ⟨b', o', e', hb', _⟩ := HL.out.rd.at_ hk
      injection e' with e'
      injection e' with e1 e2
      subst e1
      exact hb'
    generalize ls[k]'hk = x at *
    go_wp2_with fail
    refine (HT2.out _ HX.out).mono ?_
    rintro e W ⟨rfl, hx1⟩
    replace c4 := (hx1.cell (p := ⟨b, o + k * 7 + 4, none⟩) hb).trans c4
    replace c5 := (hx1.cell (p := ⟨b, o + k * 7 + 5, none⟩) hb).trans c5
    have hbs : b < W.heap.size := Nat.lt_of_lt_of_le hb hx1.size
    replace HB := Lib.hid (HB.out.ext hx1)
    replace HX := Lib.hid (HX.out.trans hx1)
    clear hx1 c0 c1 c2 c3 c6 hb HT2 HF HK HL
    replace AV := Lib.hid (AV.out W)
    replace O2 := Lib.hid (O2.out W)
    replace M1 := Lib.hid (M1.out W)
    have hbG : b ≠ w.heap.size := Nat.ne_of_lt hbw
    have hGb : w.heap.size ≠ b := Nat.ne_of_gt hbw
    go_upto_region 7 with fail
    go_cut [10] (fun p10 wx => BoxAtS W rm p10 wx)
    case first =>
      have HD : Hid (Ext W W.drew) := Lib.hid (Ext.refl W).drew
      have HBP := Lib.hid (HB.out.drew)
      go_region_held3 (fun w' => w'.cell? ⟨b, o + k * 7 + 4, none⟩ = some (.string (bs x.q)))
        (go_keep)
        (first
          | (go_at_call 52; ((with_reducible refine (AV.out _ HD.out).mono ?_); rintro e w5 ⟨rfl, hx⟩); (replace HD := Lib.hid (HD.out.trans hx)); (have d4 := (HD.out.cell (p := ⟨b, o + k * 7 + 4, none⟩) hbs).trans c4); (replace HBP := Lib.hid (HBP.out.ext hx)); (obtain ⟨p0, p1, p2, p3⟩ := frBlk HBP.out (Ext.refl _)); (have hq5 := Nat.ne_of_lt (Nat.lt_of_lt_of_le hbs HD.out.size)); (have hq6 := Nat.ne_of_gt (Nat.lt_of_lt_of_le hbs HD.out.size)); clear hx)
          | (go_at_call 52; ((with_reducible refine (AV.out _ (HD.out.alloc _)).mono ?_); rintro e w5 ⟨rfl, hx⟩); (have HLE := Lib.hid HD.out.size); (have hpq := Nat.ne_of_lt (Nat.lt_of_lt_of_le hbs HLE.out)); (have hqp := Nat.ne_of_gt (Nat.lt_of_lt_of_le hbs HLE.out)); (have HBP := Lib.hid ((Blk.new _ _ _).ext hx)); (replace HD := Lib.hid ((HD.out.alloc _).trans hx)); (have d4 := (HD.out.cell (p := ⟨b, o + k * 7 + 4, none⟩) hbs).trans c4); (obtain ⟨p0, p1, p2, p3⟩ := frBlk HBP.out (Ext.refl _)); clear hx)
          | (go_at_call 52; ((with_reducible refine (AV.out _ ((Ext.new _ _).drew)).mono ?_); rintro e w5 ⟨rfl, hx⟩); (have HLE := Lib.hid (Nat.le_refl W.heap.size)); (have hpq := Nat.ne_of_lt (Nat.lt_of_lt_of_le hbs HLE.out)); (have hqp := Nat.ne_of_gt (Nat.lt_of_lt_of_le hbs HLE.out)); (have HBP := Lib.hid (((Blk.new _ _ _).drew).ext hx)); (replace HD := Lib.hid (((Ext.new W _).drew).trans hx)); (have d4 := (HD.out.cell (p := ⟨b, o + k * 7 + 4, none⟩) hbs).trans c4); (obtain ⟨p0, p1, p2, p3⟩ := frBlk HBP.out (Ext.refl _)); clear hx)
          | (go_at_call 61; ((with_reducible refine (O2.out _ HD.out).mono ?_); rintro e w5 ⟨rfl, hx⟩); (replace HD := Lib.hid (HD.out.trans hx)); (have d4 := (HD.out.cell (p := ⟨b, o + k * 7 + 4, none⟩) hbs).trans c4); (replace HBP := Lib.hid (HBP.out.ext hx)); (obtain ⟨p0, p1, p2, p3⟩ := frBlk HBP.out (Ext.refl _)); (have hq5 := Nat.ne_of_lt (Nat.lt_of_lt_of_le hbs HD.out.size)); (have hq6 := Nat.ne_of_gt (Nat.lt_of_lt_of_le hbs HD.out.size)); clear hx)
          | (go_at_call 61; ((with_reducible refine (O2.out _ (HD.out.alloc _)).mono ?_); rintro e w5 ⟨rfl, hx⟩); (have HLE := Lib.hid HD.out.size); (have hpq := Nat.ne_of_lt (Nat.lt_of_lt_of_le hbs HLE.out)); (have hqp := Nat.ne_of_gt (Nat.lt_of_lt_of_le hbs HLE.out)); (have HBP := Lib.hid ((Blk.new _ _ _).ext hx)); (replace HD := Lib.hid ((HD.out.alloc _).trans hx)); (have d4 := (HD.out.cell (p := ⟨b, o + k * 7 + 4, none⟩) hbs).trans c4); (obtain ⟨p0, p1, p2, p3⟩ := frBlk HBP.out (Ext.refl _)); clear hx)
          | (go_at_call 61; ((with_reducible refine (O2.out _ ((Ext.new _ _).drew)).mono ?_); rintro e w5 ⟨rfl, hx⟩); (have HLE := Lib.hid (Nat.le_refl W.heap.size)); (have hpq := Nat.ne_of_lt (Nat.lt_of_lt_of_le hbs HLE.out)); (have hqp := Nat.ne_of_gt (Nat.lt_of_lt_of_le hbs HLE.out)); (have HBP := Lib.hid (((Blk.new _ _ _).drew).ext hx)); (replace HD := Lib.hid (((Ext.new W _).drew).trans hx)); (have d4 := (HD.out.cell (p := ⟨b, o + k * 7 + 4, none⟩) hbs).trans c4); (obtain ⟨p0, p1, p2, p3⟩ := frBlk HBP.out (Ext.refl _)); clear hx)
          | (go_at_call 60; ((with_reducible refine (M1.out _ HD.out).mono ?_); rintro e w5 ⟨rfl, hx⟩); (replace HD := Lib.hid (HD.out.trans hx)); (have d4 := (HD.out.cell (p := ⟨b, o + k * 7 + 4, none⟩) hbs).trans c4); (replace HBP := Lib.hid (HBP.out.ext hx)); (obtain ⟨p0, p1, p2, p3⟩ := frBlk HBP.out (Ext.refl _)); (have hq5 := Nat.ne_of_lt (Nat.lt_of_lt_of_le hbs HD.out.size)); (have hq6 := Nat.ne_of_gt (Nat.lt_of_lt_of_le hbs HD.out.size)); clear hx)
          | (go_at_call 60; ((with_reducible refine (M1.out _ (HD.out.alloc _)).mono ?_); rintro e w5 ⟨rfl, hx⟩); (have HLE := Lib.hid HD.out.size); (have hpq := Nat.ne_of_lt (Nat.lt_of_lt_of_le hbs HLE.out)); (have hqp := Nat.ne_of_gt (Nat.lt_of_lt_of_le hbs HLE.out)); (have HBP := Lib.hid ((Blk.new _ _ _).ext hx)); (replace HD := Lib.hid ((HD.out.alloc _).trans hx)); (have d4 := (HD.out.cell (p := ⟨b, o + k * 7 + 4, none⟩) hbs).trans c4); (obtain ⟨p0, p1, p2, p3⟩ := frBlk HBP.out (Ext.refl _)); clear hx)
          | fail)
      all_goals
        go_wp2_with fail
        go_meet
        first
          | exact ⟨_, rfl, HD.out.size, Blk.new _ _ _, HD.out.alloc _⟩
          | exact ⟨_, rfl, HLE.out, (HBP.out.set_ 0 _).set_ 1 _, (HD.out.setCell (p := ⟨_, 0, none⟩) HLE.out _).setCell (p := ⟨_, 1, none⟩) HLE.out _⟩
    case rest =>
      obtain ⟨P, rfl, hPW, hbp, hxw⟩ := hcut
      have HBZ := Lib.hid hbp
      replace c5 := (hxw.cell (p := ⟨b, o + k * 7 + 5, none⟩) hbs).trans c5
      have hGP : w.heap.size ≠ P := by have := HB.out.lt; omega
      have hPG : P ≠ w.heap.size := fun e => hGP e.symm
      replace hbs : b < wc.heap.size := Nat.lt_of_lt_of_le hbs hxw.size
      replace HB := Lib.hid (HB.out.ext hxw)
      replace HX := Lib.hid (HX.out.trans hxw)
      replace O1 := Lib.hid (O1.out wc)
      replace S1 := Lib.hid (S1.out wc)
      clear hbp hxw hPW c4 AV O2 M1
      obtain ⟨z0, z1, _, _⟩ := frBlk HBZ.out (Ext.refl _)
      obtain ⟨y0, y1, y2, y3⟩ := frBlk HB.out (Ext.refl _)
      have HD : Hid (Ext wc wc.drew) := Lib.hid (Ext.refl wc).drew
      go_wp2_with fail
      go_region_held3 (fun w' => w'.cell? ⟨b, o + k * 7 + 5, none⟩ = some (.string (bs x.c)) ∧ w'.cell? ⟨P, 0, none⟩ = some (.string (bs rm.num)) ∧ w'.cell? ⟨P, 1, none⟩ = some (.string (bs rm.den)))
        (go_keep)
        (first
          | (go_at_call 61; ((with_reducible refine (O1.out _ HD.out).mono ?_); rintro e w5 ⟨rfl, hx⟩); (replace HD := Lib.hid (HD.out.trans hx)); (have d5 := (HD.out.cell (p := ⟨b, o + k * 7 + 5, none⟩) hbs).trans c5); (obtain ⟨z2, z3, _, _⟩ := frBlk HBZ.out HD.out); (obtain ⟨y0, y1, y2, y3⟩ := frBlk HB.out HD.out); clear hx)
          | (go_at_call 62; ((with_reducible refine (S1.out _ HD.out).mono ?_); rintro e w5 ⟨rfl, hx⟩); (replace HD := Lib.hid (HD.out.trans hx)); (have d5 := (HD.out.cell (p := ⟨b, o + k * 7 + 5, none⟩) hbs).trans c5); (obtain ⟨z2, z3, _, _⟩ := frBlk HBZ.out HD.out); (obtain ⟨y0, y1, y2, y3⟩ := frBlk HB.out HD.out); clear hx)
          | fail)
      all_goals
        go_wp2_with fail
        refine bodyPost_ret (results_fr2 rfl _ _ w.heap.size (.string (bs r.num)) (.string (bs r.den)) (.int .i64 0) rfl rfl (((HB.out.ext HD.out).set_ 0 _).set_ 1 _)) rfl ?_
        exact ⟨rfl, ((HX.out.trans HD.out).setCell (p := ⟨w.heap.size, 0, none⟩) (Nat.le_refl _) _).setCell (p := ⟨w.heap.size, 1, none⟩) (Nat.le_refl _) _⟩
end Go.Proofs.YtikehdbkiplleaaGreatDoor
