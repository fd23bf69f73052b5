/- The seat's texts, part 7. -/
import Derived.Test.YthgpheopnhajaaaGreatDoorV6
import Derived.Deep.RegionHeld3
import Derived.Lib.ItoaNum
import Derived.Lib.AtoiAll
import Derived.Test.YthgpheopnhajaaaGreatDoorProg
import Derived.Lib.SplitLaws
import Derived.WideMake
import Derived.BigQuiet

/- The program's Check and Floor of fractions. -/
namespace Go.Proofs.YthgpheopnhajaaaGreatDoor
open Go.RowKit
attribute [local go_sem] size_bs toList_bs
def checkF (f : Fr) : Int := if (ofQ (frQ f)).num = f.num ∧ (ofQ (frQ f)).den = f.den then 0 else 1
theorem fr_eq {a b : Fr} : a = b ↔ a.num = b.num ∧ a.den = b.den := by cases a; cases b; simp
theorem frQ_dn (f : Fr) : Rat.divInt (valI f.num) (valI (dn f)) = frQ f := by
  rw [valI_dn]; rfl
theorem dn_ne (f : Fr) : valI (dn f) ≠ 0 := by
  unfold dn
  split
  · rw [valI_one]; decide
  · assumption
theorem bs_ne' {a b : Bs} (h : a ≠ b) : (a == b) = false := by rw [beq_eq_false_iff_ne]; exact h
set_option maxRecDepth 100000 in
set_option maxHeartbeats 2000000 in
theorem fracCheckP (f : Fr) (h1 : f.num.length ≤ 80000) (h2 : f.den.length ≤ 80000) : Pure 48 #[fv f] (.int .i64 (checkF f)) := by
  intro w hE
  have HE := Lib.hid hE
  have HP := Lib.hid (fracParts f (by omega))
  have hm := fracMade f.num (dn f) (by omega) (Nat.le_trans (dn_len f (L := 80000) (by omega) (by omega)) (by omega)) (dn_ne f)
  rw [frQ_dn] at hm
  have HM := Lib.hid hm
  have HC1 : Hid (ofQ (frQ f) = f → checkF f = 0) := Lib.hid (fun h => by unfold checkF; rw [if_pos (fr_eq.1 h)])
  have HC2 : Hid (ofQ (frQ f) ≠ f → checkF f = 1) := Lib.hid (fun h => by unfold checkF; rw [if_neg (fun k => h (fr_eq.2 k))])
  generalize checkF f = k at *
  generalize ofQ (frQ f) = r at *
  generalize dn f = d at *
  obtain ⟨n1, e1⟩ := f
  obtain ⟨n2, e2⟩ := r
  clear hm hE h1 h2
  have HB := Lib.hid (Blk.new w 26 #[.string (bs n1), .string (bs e1)])
  have HX : Hid (Ext w (w.alloc (.cells #[.string (bs n1), .string (bs e1)] 26))) := Lib.hid (Ext.new _ _)
  have HD : Hid (Ext w (w.alloc (.cells #[.string (bs n1), .string (bs e1)] 26)).drew) := Lib.hid HX.out.drew
  have HBD := Lib.hid HB.out.drew
  by_cases a1 : n1 = n2
  rotate_left
  · have q := bs_ne' a1
    have HK := Lib.hid (HC2.out (fun h => a1 (by injection h with h1 h2; exact h1.symm)))
    rw [HK.out]
    clear HC1 HC2 HK a1
    go_enter Tryz.func48, Tryz.ntmps48
    go_upto_region 1 with fail
    go_cut [9] (fun p9 wx => p9 = .bool true ∧ Ext w wx)
    case first =>
      obtain ⟨r0, r1, _, _⟩ := frBlk HB.out (Ext.refl _)
      go_region_held3 (fun w' => w'.cell? ⟨w.heap.size, 0, none⟩ = some (.string (bs n1)) ∧ w'.cell? ⟨w.heap.size, 1, none⟩ = some (.string (bs e1)))
        (go_keep)
        (first
          | (go_at_call 96; ((with_reducible refine (HP.out _ (HE.out.ext HD.out)).mono ?_); rintro e w4 ⟨rfl, hx⟩); (replace HD := Lib.hid (HD.out.trans hx)); (replace HBD := Lib.hid (HBD.out.ext hx)); (obtain ⟨y0, y1, _, _⟩ := frBlk HBD.out (Ext.refl _)); clear hx HP)
          | (go_at_call 93; ((with_reducible refine (HM.out _ (HE.out.ext HD.out)).mono ?_); rintro e w5 ⟨rfl, hx⟩); (replace HD := Lib.hid (HD.out.trans hx)); (replace HBD := Lib.hid (HBD.out.ext hx)); (obtain ⟨z0, z1, _, _⟩ := frBlk HBD.out (Ext.refl _)); clear hx HM))
      all_goals (go_wp2_with fail; go_meet; exact ⟨rfl, HD.out⟩)
    case rest =>
      obtain ⟨rfl, hx⟩ := hcut
      have HXE := Lib.hid hx
      clear hx
      go_wp2_with fail
      go_ret
      exact ⟨rfl, HXE.out⟩
  subst a1
  by_cases a2 : e1 = e2
  rotate_left
  · have q := bs_ne' a2
    have HK := Lib.hid (HC2.out (fun h => a2 (by injection h with h1 h2; exact h2.symm)))
    rw [HK.out]
    clear HC1 HC2 HK a2
    go_enter Tryz.func48, Tryz.ntmps48
    go_upto_region 1 with fail
    go_cut [9] (fun p9 wx => p9 = .bool true ∧ Ext w wx)
    case first =>
      obtain ⟨r0, r1, _, _⟩ := frBlk HB.out (Ext.refl _)
      go_region_held3 (fun w' => w'.cell? ⟨w.heap.size, 0, none⟩ = some (.string (bs n1)) ∧ w'.cell? ⟨w.heap.size, 1, none⟩ = some (.string (bs e1)))
        (go_keep)
        (first
          | (go_at_call 96; ((with_reducible refine (HP.out _ (HE.out.ext HD.out)).mono ?_); rintro e w4 ⟨rfl, hx⟩); (replace HD := Lib.hid (HD.out.trans hx)); (replace HBD := Lib.hid (HBD.out.ext hx)); (obtain ⟨y0, y1, _, _⟩ := frBlk HBD.out (Ext.refl _)); clear hx HP)
          | (go_at_call 93; ((with_reducible refine (HM.out _ (HE.out.ext HD.out)).mono ?_); rintro e w5 ⟨rfl, hx⟩); (replace HD := Lib.hid (HD.out.trans hx)); (replace HBD := Lib.hid (HBD.out.ext hx)); (obtain ⟨z0, z1, _, _⟩ := frBlk HBD.out (Ext.refl _)); clear hx HM))
      all_goals (go_wp2_with fail; go_meet; exact ⟨rfl, HD.out⟩)
    case rest =>
      obtain ⟨rfl, hx⟩ := hcut
      have HXE := Lib.hid hx
      clear hx
      go_wp2_with fail
      go_ret
      exact ⟨rfl, HXE.out⟩
  subst a2
  have HK := Lib.hid (HC1.out rfl)
  rw [HK.out]
  clear HC1 HC2 HK
  go_enter Tryz.func48, Tryz.ntmps48
  go_upto_region 1 with fail
  go_cut [9] (fun p9 wx => p9 = .bool false ∧ Ext w wx)
  case first =>
    obtain ⟨r0, r1, _, _⟩ := frBlk HB.out (Ext.refl _)
    go_region_held3 (fun w' => w'.cell? ⟨w.heap.size, 0, none⟩ = some (.string (bs n1)) ∧ w'.cell? ⟨w.heap.size, 1, none⟩ = some (.string (bs e1)))
      (go_keep)
      (first
        | (go_at_call 96; ((with_reducible refine (HP.out _ (HE.out.ext HD.out)).mono ?_); rintro e w4 ⟨rfl, hx⟩); (replace HD := Lib.hid (HD.out.trans hx)); (replace HBD := Lib.hid (HBD.out.ext hx)); (obtain ⟨y0, y1, _, _⟩ := frBlk HBD.out (Ext.refl _)); clear hx HP)
        | (go_at_call 93; ((with_reducible refine (HM.out _ (HE.out.ext HD.out)).mono ?_); rintro e w5 ⟨rfl, hx⟩); (replace HD := Lib.hid (HD.out.trans hx)); (replace HBD := Lib.hid (HBD.out.ext hx)); (obtain ⟨z0, z1, _, _⟩ := frBlk HBD.out (Ext.refl _)); clear hx HM))
    all_goals (go_wp2_with fail; go_meet; exact ⟨rfl, HD.out⟩)
  case rest =>
    obtain ⟨rfl, hx⟩ := hcut
    have HXE := Lib.hid hx
    clear hx
    go_wp2_with fail
    go_ret
    exact ⟨rfl, HXE.out⟩
theorem divF_floor {n d : Int} (hd : d ≠ 0) : divF n d = floorQ (Rat.divInt n d) := by
  unfold divF
  split
  · rw [floor_div (by omega), Rat.neg_divInt_neg]
  · rw [floor_div (by omega)]
set_option maxRecDepth 100000 in
set_option maxHeartbeats 2000000 in
theorem fracFloorP (f : Fr) (h1 : f.num.length ≤ 80000) (h2 : f.den.length ≤ 80000) : Pure 234 #[fv f] (.string (bs (ofI (floorQ (frQ f))))) := by
  intro w hE
  have HE := Lib.hid hE
  have HP := Lib.hid (fracParts f (by omega))
  have hm := divP f.num (dn f) (by omega) (Nat.le_trans (dn_len f (L := 80000) (by omega) (by omega)) (by omega)) (dn_ne f)
  rw [divF_floor (dn_ne f), frQ_dn] at hm
  have HM := Lib.hid hm
  generalize ofI (floorQ (frQ f)) = r at *
  generalize ofI (modF (valI f.num) (valI (dn f))) = r2 at *
  generalize dn f = d at *
  obtain ⟨n1, e1⟩ := f
  clear hm hE h1 h2
  have HB := Lib.hid (Blk.new w 26 #[.string (bs n1), .string (bs e1)])
  have HX : Hid (Ext w (w.alloc (.cells #[.string (bs n1), .string (bs e1)] 26))) := Lib.hid (Ext.new _ _)
  go_enter Tryz.func234, Tryz.ntmps234
  obtain ⟨r0, r1, _, _⟩ := frBlk HB.out (Ext.refl _)
  go_wp2_with fail
  refine (HP.out _ (HE.out.ext HX.out)).mono ?_
  rintro e v5 ⟨rfl, hx1⟩
  replace HB := Lib.hid (HB.out.ext hx1)
  replace HX := Lib.hid (HX.out.trans hx1)
  clear hx1
  go_wp2_with fail
  refine (HM.out _ (HE.out.ext HX.out)).mono ?_
  rintro e v6 ⟨rfl, hx1⟩
  replace HX := Lib.hid (HX.out.trans hx1)
  clear hx1
  go_wp2_with fail
  go_ret
  exact ⟨rfl, HX.out⟩
end Go.Proofs.YthgpheopnhajaaaGreatDoor

/- Plain: names, and the number of digits. -/
namespace Go.Proofs.YthgpheopnhajaaaGreatDoor
open Go.RowKit
/-- a byte that a name may have -/
def isN (c : UInt8) : Bool := (decide (97 ≤ c.toNat) && decide (c.toNat ≤ 122)) || (decide (48 ≤ c.toNat) && decide (c.toNat ≤ 57)) || decide (c.toNat = 95)
def isName (l : Bs) : Bool := decide (1 ≤ l.length) && decide (l.length ≤ 16) && l.all isN
theorem isName_bad (l : Bs) (k : Nat) (hk : k < l.length) (h : isN (l[k]'hk) = false) : isName l = false := by
  have : l.all isN = false := by rw [List.all_eq_false]; exact ⟨_, List.getElem_mem hk, by simp [h]⟩
  simp [isName, this]
theorem takeN_succ (l : Bs) (k : Nat) (hk : k < l.length) (h : (l.take k).all isN = true) (hc : isN (l[k]'hk) = true) : (l.take (k + 1)).all isN = true := by
  rw [List.take_succ_eq_append_getElem hk, List.all_append, h]; simp [hc]
theorem isName_good (l : Bs) (k : Nat) (hk : ¬ k < l.length) (h : (l.take k).all isN = true) (h1 : 1 ≤ l.length) (h2 : l.length ≤ 16) : isName l = true := by
  rw [List.take_of_length_le (by omega)] at h
  unfold isName; rw [h]; simp [h1, h2]
theorem isN_good {c : UInt8} (h : ((97 ≤ (c.toNat : Int) ∧ (c.toNat : Int) ≤ 122) ∨ (48 ≤ (c.toNat : Int) ∧ (c.toNat : Int) ≤ 57)) ∨ (95 ≤ (c.toNat : Int) ∧ (c.toNat : Int) ≤ 95)) : isN c = true := by
  unfold isN; rcases h with (h | h) | h
  · have h1 : 97 ≤ c.toNat := by omega
    have h2 : c.toNat ≤ 122 := by omega
    simp [h1, h2]
  · have h1 : 48 ≤ c.toNat := by omega
    have h2 : c.toNat ≤ 57 := by omega
    simp [h1, h2]
  · have h1 : c.toNat = 95 := by omega
    simp [h1]
theorem isN_bad {c : UInt8} (h : ¬ (((97 ≤ (c.toNat : Int) ∧ (c.toNat : Int) ≤ 122) ∨ (48 ≤ (c.toNat : Int) ∧ (c.toNat : Int) ≤ 57)) ∨ (95 ≤ (c.toNat : Int) ∧ (c.toNat : Int) ≤ 95))) : isN c = false := by
  cases hn : isN c with
  | false => rfl
  | true =>
    exfalso; apply h; unfold isN at hn
    simp only [Bool.or_eq_true, Bool.and_eq_true, decide_eq_true_eq] at hn
    omega
end Go.Proofs.YthgpheopnhajaaaGreatDoor

/- Plain: lots: their ids, when they are valid, finding one, totals. No program in sight. -/
namespace Go.Proofs.YthgpheopnhajaaaGreatDoor
open Go.RowKit
/-- a lot -/
structure LotV where
  id : Bs
  ins : Bs
  acq : Int
  opn : Int
  q : Bs
  c : Bs
  u : Bs
instance : Inhabited LotV := ⟨⟨[], [], 0, 0, [], [], []⟩⟩
def lotCells (x : LotV) : List Value := [.string (bs x.id), .string (bs x.ins), .int .i64 x.acq, .int .i64 x.opn, .string (bs x.q), .string (bs x.c), .string (bs x.u)]
/-- the first slash -/
def cut47 : Bs → Bs × Bs
  | [] => ([], [])
  | x :: r => if x = 47 then ([], r) else (x :: (cut47 r).1, (cut47 r).2)
/-- a number from 1 to 9999 -/
def numOK (t : Bs) : Bool := decide (1 ≤ t.length) && decide (t.length ≤ 4) && !(t.headD 48 == 48) && t.all isD
def isId (l : Bs) : Bool := isName (cut47 l).1 && numOK (cut47 l).2
theorem lead_of_head {t : Bs} (h : (!(t.headD 48 == 48)) = true) : Lead t := by
  intro c r e; subst e; simpa using h
theorem numOK_iff {t : Bs} : numOK t = true ↔ ∃ n : Nat, 1 ≤ n ∧ n ≤ 9999 ∧ t = dig10 n := by
  constructor
  · intro h
    simp only [numOK, Bool.and_eq_true, decide_eq_true_eq] at h
    obtain ⟨⟨⟨h1, h2⟩, h3⟩, h4⟩ := h
    have hl := lead_of_head h3
    have hlt := natOf_lt h4
    have hp : 10 ^ t.length ≤ 10 ^ 4 := Nat.pow_le_pow_right (by decide) h2
    refine ⟨natOf t, ?_, by omega, (dig10_natOf h4 hl).symm⟩
    rcases Nat.eq_zero_or_pos (natOf t) with h0 | h0
    · have := (natOf_zero h4 hl).1 h0
      subst this; simp at h1
    · exact h0
  · rintro ⟨n, h1, h2, rfl⟩
    have hlen := dig10_len (g := n) (L := 4) (by omega)
    have hne := dig10_ne (n := n) (by omega)
    have hlead : Lead (dig10 n) := by
      have : ∀ m, m ≠ 0 → Lead (dig10 m) := by
        intro m
        induction m using Nat.strongRecOn with
        | ind m ih =>
          intro hm
          rw [dig10_pos hm]
          by_cases h10 : m / 10 = 0
          · rw [h10, dig10_zero]
            intro c r e
            simp only [List.nil_append, List.cons.injEq] at e
            rw [← e.1]
            intro e2
            have := congrArg UInt8.toNat e2
            rw [UInt8.toNat_ofNat_of_lt' (by show _ < 256; omega)] at this
            have h48 : (48 : UInt8).toNat = 48 := rfl
            omega
          · have hl := ih (m / 10) (by omega) h10
            have hn := dig10_ne h10
            intro c r e
            obtain ⟨c', r', e'⟩ := List.exists_cons_of_ne_nil hn
            rw [e'] at e
            simp only [List.cons_append, List.cons.injEq] at e
            rw [← e.1]
            exact hl c' r' e'
      exact this n (by omega)
    obtain ⟨c, r, e⟩ := List.exists_cons_of_ne_nil hne
    have hc := hlead c r e
    simp only [numOK, Bool.and_eq_true, decide_eq_true_eq]
    refine ⟨⟨⟨by rw [e]; simp, hlen⟩, ?_⟩, dig10_all n⟩
    rw [e]; simpa using hc
theorem decDigits_dig10 (n : Nat) (h : 1 ≤ n) : Lib.decDigits n = dig10 n := by
  induction n using Nat.strongRecOn with
  | ind n ih =>
    rw [Lib.decDigits, dig10_pos (by omega)]
    split
    · rename_i h10
      rw [show n / 10 = 0 by omega, dig10_zero, show n % 10 = n by omega]; rfl
    · rw [ih (n / 10) (by omega) (by omega)]
theorem parse_dig : ∀ (l : Bs) (acc : Nat), l.all isD = true → acc * 10 ^ l.length + natOf l < 1000000000000 → Lib.parseUint10 acc l = .ok (acc * 10 ^ l.length + natOf l)
  | [], acc, _, _ => by simp [Lib.parseUint10, natOf]
  | c :: r, acc, h, hb => by
    simp only [List.all_cons, Bool.and_eq_true] at h
    have hc := (isD_iff c).1 h.1
    have e : natOf (c :: r) = dval c * 10 ^ r.length + natOf r := by
      have := natOf_append [c] r
      rw [show natOf [c] = dval c by show 10 * 0 + dval c = _; omega] at this
      exact this
    have hd : dval c = c.toNat - 48 := rfl
    have e2 : acc * 10 ^ (c :: r).length + natOf (c :: r) = (acc * 10 + (c.toNat - 48)) * 10 ^ r.length + natOf r := by
      rw [List.length_cons, Nat.pow_succ, e, hd, Nat.add_mul, Nat.mul_comm (10 ^ r.length) 10, ← Nat.mul_assoc]; omega
    have hp : 0 < 10 ^ r.length := Nat.pow_pos (by decide)
    have hle : acc * 10 + (c.toNat - 48) ≤ (acc * 10 + (c.toNat - 48)) * 10 ^ r.length := Nat.le_mul_of_pos_right _ hp
    rw [e2] at hb ⊢
    have ih := parse_dig r (acc * 10 + (c.toNat - 48)) h.2 hb
    rw [Lib.parseUint10, if_pos hc, if_neg (by omega), if_neg (by omega), ih]
theorem atoi_num {t : Bs} (h : numOK t = true) : ∃ n : Nat, 1 ≤ n ∧ n ≤ 9999 ∧ t = dig10 n ∧ Lib.atoiAll t = .ok (n : Int) := by
  obtain ⟨n, h1, h2, rfl⟩ := numOK_iff.1 h
  refine ⟨n, h1, h2, rfl, ?_⟩
  have hne := dig10_ne (n := n) (by omega)
  have hall := dig10_all n
  have hval := natOf_dig10 n
  generalize dig10 n = t at *
  obtain ⟨c, r, rfl⟩ := List.exists_cons_of_ne_nil hne
  have hc : isD c = true := by simp only [List.all_cons, Bool.and_eq_true] at hall; exact hall.1
  have hc2 := (isD_iff c).1 hc
  have hp := parse_dig (c :: r) 0 hall (by omega)
  rw [Nat.zero_mul, Nat.zero_add, hval] at hp
  unfold Lib.atoiAll
  simp only
  rw [if_neg (by omega), Lib.parseMag, if_neg (by simp), hp]
  simp only
  rw [if_neg (by omega), if_neg (by omega), if_neg (by omega)]
/-- the program's test of a number -/
theorem numOK_prog {t : Bs} {v : Int} (h : Lib.atoiAll t = .ok v) : numOK t = (decide (1 ≤ v) && decide (v ≤ 9999) && (Lib.itoa v == t)) := by
  rw [Bool.eq_iff_iff]
  constructor
  · intro k
    obtain ⟨n, h1, h2, rfl, h3⟩ := atoi_num k
    rw [h] at h3
    injection h3 with h3
    subst h3
    simp only [Bool.and_eq_true, decide_eq_true_eq, beq_iff_eq]
    refine ⟨⟨by omega, by omega⟩, ?_⟩
    unfold Lib.itoa
    rw [if_neg (by omega), Int.toNat_natCast, decDigits_dig10 n h1]
  · intro k
    simp only [Bool.and_eq_true, decide_eq_true_eq, beq_iff_eq] at k
    refine numOK_iff.2 ⟨v.toNat, by omega, by omega, ?_⟩
    rw [← k.2]
    unfold Lib.itoa
    rw [if_neg (by omega), decDigits_dig10 _ (by omega)]
theorem numOK_bad {t : Bs} (h : ∀ v, Lib.atoiAll t ≠ .ok v) : numOK t = false := by
  cases k : numOK t with
  | false => rfl
  | true => obtain ⟨n, _, _, _, h3⟩ := atoi_num k; exact absurd h3 (h _)
/-- why a lot is not valid -/
def dayOK (d : Int) : Bool := decide (-25567 ≤ d) && decide (d ≤ 84005)
def checkL (x : LotV) : Int :=
  if !(isId x.id) || !(isName x.ins) then 23 else if !(dayOK x.acq) || !(dayOK x.opn) then 13 else if x.opn < x.acq then 8
  else if checkI x.q ≠ 0 ∨ checkI x.c ≠ 0 ∨ checkI x.u ≠ 0 then 1
  else if valI x.q ≤ 0 ∨ valI x.c < 0 ∨ (x.u ≠ [] ∧ x.u ≠ x.q) then 2 else 0
def goAll (seen : List Bs) : List LotV → Int
  | [] => 0
  | x :: r => if checkL x ≠ 0 then checkL x else if x.id ∈ seen then 5 else goAll (seen ++ [x.id]) r
def checkAllL (ls : List LotV) : Int := if 1000 < ls.length then 4 else goAll [] ls
/-- the first lot with an id -/
def findL : List LotV → Bs → Option Nat
  | [], _ => none
  | x :: r, id => if x.id = id then some 0 else (findL r id).map (· + 1)
/-- a lot with short strings -/
def SmallL (x : LotV) : Prop := x.id.length ≤ 1000 ∧ x.ins.length ≤ 1000 ∧ x.q.length ≤ 1000 ∧ x.c.length ≤ 1000 ∧ x.u.length ≤ 1000
/-- the values of the lots of an instrument -/
def ofL (ls : List LotV) (ins : Bs) : List LotV := ls.filter (fun x => decide (x.ins = ins))
def totQ (ls : List LotV) (ins : Bs) : Int := ((ofL ls ins).map (fun x => valI x.q)).sum
def totC (ls : List LotV) (ins : Bs) : Int := ((ofL ls ins).map (fun x => valI x.c)).sum
end Go.Proofs.YthgpheopnhajaaaGreatDoor

/- The walks: names (program and reference), numbers of digits. -/
namespace Go.Proofs.YthgpheopnhajaaaGreatDoor
open Go.RowKit
attribute [local go_sem] size_bs toList_bs extract_bs get_bs append_bs lit_append append_lit
set_option maxHeartbeats 400000 in
theorem insName (l : Bs) (w : World) (hs : l.length ≤ 1000000000) :
    Calls Tryz.prog 87 #[.string (bs l)] w fun e w' => e = .returned (.bool (isName l)) ∧ Ext w w' := by
  by_cases h0 : l.length = 0
  · obtain rfl : l = [] := List.eq_nil_of_length_eq_zero h0
    go_enter Tryz.func87, Tryz.ntmps87
    go_wp2_with fail
    go_ret
    exact ⟨rfl, Ext.refl _⟩
  have h0b : ((l.length : Int) == 0) = false := by rw [beq_eq_false_iff_ne]; omega
  by_cases h1 : 16 < l.length
  · have h1b : decide (16 < (l.length : Int)) = true := by simp; omega
    clear h0
    go_enter Tryz.func87, Tryz.ntmps87
    go_wp2_with fail
    go_ret
    exact ⟨by simp [isName]; omega, Ext.refl _⟩
  have h1b : decide (16 < (l.length : Int)) = false := by simp; omega
  obtain ⟨cap, w1, hrun, hx, hsz, hcell⟩ := conv_bytes (P := Tryz.prog) w 9 191 5 l Tryz.underlying9 Tryz.underlying191 Tryz.underlying5
  have HC := Lib.hid hcell
  have HN : Hid (1 ≤ l.length) := Lib.hid (by omega)
  clear hcell hsz h0
  go_enter Tryz.func87, Tryz.ntmps87
  go_wp2_with fail
  go_loop [16] (fun i => ∃ k : Nat, k ≤ l.length ∧ i = .int .i64 k ∧ (l.take k).all isN = true) (fun i => l.length - (intOf i).toNat)
  case atStart => exact ⟨0, Nat.zero_le _, rfl, rfl⟩
  case round =>
    obtain ⟨k, hk, rfl, hd⟩ := hrel
    have HD := Lib.hid hd
    clear hd hrun
    by_cases hlt : k < l.length
    · have hc := HC.out k hlt
      by_cases h95 : ((l[k]'hlt).toNat : Int) = 95
      · have h95a : ((l[k]'hlt).toNat : Int) ≤ 95 := by omega
        have h95c : 95 ≤ ((l[k]'hlt).toNat : Int) := by omega
        have h95b : (((l[k]'hlt).toNat : Int) != 95) = false := by rw [bne_eq_false_iff_eq]; exact h95
        clear h95
        go_wp2_with fail
        all_goals
          go_round
          case rel => exact ⟨k + 1, by omega, by go_num, takeN_succ l k hlt HD.out (isN_good (by omega))⟩
          case measure => simp [intOf]; omega
      · have h95b : (((l[k]'hlt).toNat : Int) != 95) = true := by rw [bne_iff_ne]; exact h95
        go_wp2_with fail
        all_goals first
          | (go_ret
             exact ⟨by rw [isName_bad l k hlt (isN_bad (by omega))]; rfl, hx⟩)
          | (go_round
             case rel => exact ⟨k + 1, by omega, by go_num, takeN_succ l k hlt HD.out (isN_good (by omega))⟩
             case measure => simp [intOf]; omega)
    · go_wp2_with fail
      go_ret
      exact ⟨by rw [isName_good l k hlt HD.out HN.out (by omega)]; rfl, hx⟩

end Go.Proofs.YthgpheopnhajaaaGreatDoor

/- The walks over the program's lots: isId, valid, Check. -/
namespace Go.Proofs.YthgpheopnhajaaaGreatDoor
open Go.RowKit Go.Shelf
attribute [local go_sem] size_bs toList_bs
theorem cut_slash (l : Bs) : (Lib.cut l [47]).1 = (cut47 l).1 ∧ (Lib.cut l [47]).2.1 = (cut47 l).2 := by
  unfold Lib.cut
  rw [Lib.index_one]
  have key : ∀ l : Bs, (Lib.indexByte l 47 = -1 ∧ cut47 l = (l, [])) ∨ ∃ k : Nat, Lib.indexByte l 47 = (k : Int) ∧ cut47 l = (l.take k, l.drop (k + 1)) := by
    intro l
    induction l with
    | nil => left; exact ⟨rfl, rfl⟩
    | cons x r ih =>
      by_cases h : x = 47
      · right; refine ⟨0, by simp [Lib.indexByte, h], by simp [cut47, h]⟩
      · rcases ih with ⟨h1, h2⟩ | ⟨k, h1, h2⟩
        · left; exact ⟨by simp [Lib.indexByte, h, h1], by simp [cut47, h, h2]⟩
        · right
          have : ¬ ((k : Nat) : Int) = -1 := by omega
          exact ⟨k + 1, by simp [Lib.indexByte, h, h1, this], by simp [cut47, h, h2]⟩
  rcases key l with ⟨h1, h2⟩ | ⟨k, h1, h2⟩
  · rw [h1, h2]; exact ⟨rfl, rfl⟩
  · rw [h1, h2, if_pos (by omega), Int.toNat_natCast]; exact ⟨rfl, rfl⟩
theorem cut47_len (l : Bs) : (cut47 l).1.length ≤ l.length ∧ (cut47 l).2.length ≤ l.length := by
  induction l with
  | nil => exact ⟨Nat.le_refl _, Nat.le_refl _⟩
  | cons x r ih =>
    unfold cut47
    split
    · simp
    · simp only [List.length_cons]; omega
theorem cutSlash (l : Bs) (w : World) (hl : l.length ≤ 1000000) (hE : Env w) :
    Calls Tryz.prog 214 #[.string (bs l), .string { data := #[47] }] w fun e w' => (∃ b, e = .returned (.tuple #[.string (bs (cut47 l).1), .string (bs (cut47 l).2), .bool b])) ∧ Ext w w' := by
  obtain ⟨m, hm⟩ := hE.len
  refine (Tryz.strings_Cut (bs l) (bs [47]) m w (by rw [size_bs]; omega) hm).mono ?_
  rintro e w' ⟨rfl, n, rfl⟩
  refine ⟨⟨(Lib.cut l [47]).2.2, ?_⟩, (Ext.refl w).drewN n⟩
  have h := cut_slash l
  rw [data_bs, data_bs, ← h.1, ← h.2]; rfl
theorem ext_bytes (w : World) (t : TypeId) (b : ByteArray) : Ext w (Lib.bytesWorld w t b) :=
  ⟨rfl, rfl, rfl, by rw [Lib.bytesWorld_size]; omega, fun k hk => Lib.bytesWorld_at_old w t b k hk⟩
theorem atoi_ok (t : Bs) (v : Int) (h : Lib.atoiAll t = .ok v) (ht : t.length ≤ 1000000) (w : World) :
    Calls Tryz.prog 215 #[.string (bs t)] w fun e w' => e = .returned (.tuple #[.int .i64 v, .nilIface]) ∧ Ext w w' := by
  refine (Tryz.strconv_Atoi_ok (bs t) (by rw [size_bs]; omega) v (by rw [data_bs]; exact h) w).mono ?_
  rintro e w' ⟨rfl, rfl | ⟨q, rfl⟩⟩
  · exact ⟨rfl, Ext.refl _⟩
  · exact ⟨rfl, ext_bytes _ _ _⟩
theorem atoi_no (t : Bs) (h : ∀ v, Lib.atoiAll t ≠ .ok v) (ht : t.length ≤ 1000000) (w : World) (hE : Env w) :
    Calls Tryz.prog 215 #[.string (bs t)] w fun e w' => (∃ n p, e = .returned (.tuple #[.int .i64 n, .iface 275 p])) ∧ Ext w w' := by
  cases k : Lib.atoiAll t
  · exact absurd k (h _)
  · obtain ⟨ev, hv, hev⟩ := hE.syn
    have hs : Calls Tryz.prog 215 #[.string (bs t)] w fun e w' => ∃ N, e = .returned (.tuple #[.int .i64 0, .iface 275 (.pointer (some ⟨N, 0, none⟩))]) ∧ w.heap.size ≤ N ∧ w'.heap[N]? = some (.cells #[.string ⟨#[65, 116, 111, 105]⟩, .string (bs t), ev] 305 (0, 0)) ∧ Below w.heap.size w w' :=
      Go.Proofs.Any.strconv_Atoi_syntax Tryz.laysC172 (bs t) (by rw [size_bs]; omega) (by rw [data_bs]; exact k) ev w hv hev
    refine hs.mono ?_
    rintro e w' ⟨N, rfl, _, _, hb⟩
    exact ⟨⟨_, _, rfl⟩, hb⟩
  · obtain ⟨ev, hv, hev⟩ := hE.rng
    refine (Tryz.strconv_Atoi_range (bs t) (by rw [size_bs]; omega) (by rw [data_bs]; exact k) ev w hv hev).mono ?_
    rintro e w' ⟨N, rfl, _, _, hb⟩
    exact ⟨⟨_, _, rfl⟩, hb⟩
set_option maxRecDepth 100000 in
set_option maxHeartbeats 2000000 in
theorem lotIsId (l : Bs) (hl : l.length ≤ 100000) : Pure 146 #[.string (bs l)] (.bool (isId l)) := by
  intro w hE
  have HE := Lib.hid hE
  have hcl := cut47_len l
  have HC := Lib.hid (fun W h => cutSlash l W (by omega) h)
  have HN := Lib.hid (fun W => insName (cut47 l).1 W (by omega))
  unfold isId
  rcases Classical.em (∃ v, Lib.atoiAll (cut47 l).2 = .ok v) with ⟨v, hk⟩ | hk
  · have HA := Lib.hid (fun W => atoi_ok (cut47 l).2 v hk (by omega) W)
    have HP := Lib.hid (numOK_prog hk)
    rw [HP.out]
    generalize (cut47 l).1 = nm at *
    generalize (cut47 l).2 = nu at *
    generalize isName nm = ok at *
    clear hk hcl hE HP
    by_cases h1 : 1 ≤ v
    · by_cases h2 : v ≤ 9999
      · have HI := Lib.hid (fun W h => itoa_any v W (by omega) (by omega) h)
        generalize Lib.itoa v = it at *
        have g1 : decide (1 ≤ v) = true := by simpa using h1
        have g2 : decide (v ≤ 9999) = true := by simpa using h2
        by_cases h3 : it = nu
        · have g3 : (it == nu) = true := by simpa using h3
          have H3 : Hid (ok = (ok && (decide (1 ≤ v) && decide (v ≤ 9999) && (it == nu)))) := Lib.hid (by rw [g1, g2, g3]; simp)
          rw [← H3.out]
          clear h3
          go_enter Tryz.func146, Tryz.ntmps146
          go_wp2_with fail
          refine (HC.out _ HE.out).mono ?_
          rintro e w1 ⟨⟨b, rfl⟩, hx1⟩
          have HX := Lib.hid hx1
          clear hx1
          go_wp2_with fail
          refine (HA.out _).mono ?_
          rintro e w2 ⟨rfl, hx1⟩
          replace HX := Lib.hid (HX.out.trans hx1)
          clear hx1
          go_wp2_with fail
          refine (HI.out _ (HE.out.ext HX.out)).mono ?_
          rintro e w3 ⟨rfl, hx1⟩
          replace HX := Lib.hid (HX.out.trans hx1)
          clear hx1
          go_wp2_with fail
          refine (HN.out _).mono ?_
          rintro e w4 ⟨rfl, hx1⟩
          replace HX := Lib.hid (HX.out.trans hx1)
          clear hx1
          go_wp2_with fail
          go_ret
          exact ⟨rfl, HX.out⟩
        · have g3 : (it == nu) = false := by simpa using h3
          have H3 : Hid (false = (ok && (decide (1 ≤ v) && decide (v ≤ 9999) && (it == nu)))) := Lib.hid (by rw [g1, g2, g3]; simp)
          rw [← H3.out]
          clear h3
          go_enter Tryz.func146, Tryz.ntmps146
          go_wp2_with fail
          refine (HC.out _ HE.out).mono ?_
          rintro e w1 ⟨⟨b, rfl⟩, hx1⟩
          have HX := Lib.hid hx1
          clear hx1
          go_wp2_with fail
          refine (HA.out _).mono ?_
          rintro e w2 ⟨rfl, hx1⟩
          replace HX := Lib.hid (HX.out.trans hx1)
          clear hx1
          go_wp2_with fail
          refine (HI.out _ (HE.out.ext HX.out)).mono ?_
          rintro e w3 ⟨rfl, hx1⟩
          replace HX := Lib.hid (HX.out.trans hx1)
          clear hx1
          go_wp2_with fail
          go_ret
          exact ⟨rfl, HX.out⟩
      · have g1 : decide (1 ≤ v) = true := by simpa using h1
        have g2 : decide (v ≤ 9999) = false := by simpa using h2
        generalize Lib.itoa v = it at *
        have H3 : Hid (false = (ok && (decide (1 ≤ v) && decide (v ≤ 9999) && (it == nu)))) := Lib.hid (by rw [g1, g2]; simp)
        rw [← H3.out]
        go_enter Tryz.func146, Tryz.ntmps146
        go_wp2_with fail
        refine (HC.out _ HE.out).mono ?_
        rintro e w1 ⟨⟨b, rfl⟩, hx1⟩
        have HX := Lib.hid hx1
        clear hx1
        go_wp2_with fail
        refine (HA.out _).mono ?_
        rintro e w2 ⟨rfl, hx1⟩
        replace HX := Lib.hid (HX.out.trans hx1)
        clear hx1
        go_wp2_with fail
        go_ret
        exact ⟨rfl, HX.out⟩
    · have g1 : decide (1 ≤ v) = false := by simpa using h1
      generalize Lib.itoa v = it at *
      have H3 : Hid (false = (ok && (decide (1 ≤ v) && decide (v ≤ 9999) && (it == nu)))) := Lib.hid (by rw [g1]; simp)
      rw [← H3.out]
      go_enter Tryz.func146, Tryz.ntmps146
      go_wp2_with fail
      refine (HC.out _ HE.out).mono ?_
      rintro e w1 ⟨⟨b, rfl⟩, hx1⟩
      have HX := Lib.hid hx1
      clear hx1
      go_wp2_with fail
      refine (HA.out _).mono ?_
      rintro e w2 ⟨rfl, hx1⟩
      replace HX := Lib.hid (HX.out.trans hx1)
      clear hx1
      go_wp2_with fail
      go_ret
      exact ⟨rfl, HX.out⟩
  · have hk' : ∀ v, Lib.atoiAll (cut47 l).2 ≠ .ok v := fun v h => hk ⟨v, h⟩
    have HA := Lib.hid (fun W h => atoi_no (cut47 l).2 hk' (by omega) W h)
    rw [numOK_bad hk', Bool.and_false]
    generalize (cut47 l).1 = nm at *
    generalize (cut47 l).2 = nu at *
    clear hk hk' hcl hE HN
    go_enter Tryz.func146, Tryz.ntmps146
    go_wp2_with fail
    refine (HC.out _ HE.out).mono ?_
    rintro e w1 ⟨⟨b, rfl⟩, hx1⟩
    have HX := Lib.hid hx1
    clear hx1
    go_wp2_with fail
    refine (HA.out _ (HE.out.ext HX.out)).mono ?_
    rintro e w2 ⟨⟨n, p, rfl⟩, hx1⟩
    replace HX := Lib.hid (HX.out.trans hx1)
    clear hx1
    go_wp2_with fail
    go_ret
    exact ⟨rfl, HX.out⟩
set_option maxRecDepth 100000 in
theorem lotValid (d : Int) (w : World) : Calls Tryz.prog 147 #[.int .i64 d] w fun e w' => e = .returned (.bool (dayOK d)) ∧ w = w' := by
  unfold dayOK
  by_cases h : -25567 ≤ d
  · have g : decide (-25567 ≤ d) = true := by simpa using h
    rw [g, Bool.true_and]
    go_enter Tryz.func147, Tryz.ntmps147
    go_wp2_with fail
    go_ret
    exact ⟨rfl, rfl⟩
  · have g : decide (-25567 ≤ d) = false := by simpa using h
    rw [g, Bool.false_and]
    go_enter Tryz.func147, Tryz.ntmps147
    go_wp2_with fail
    go_ret
    exact ⟨rfl, rfl⟩
end Go.Proofs.YthgpheopnhajaaaGreatDoor

/- The walk over the program's Check of a lot. -/
namespace Go.Proofs.YthgpheopnhajaaaGreatDoor
open Go.RowKit Go.Shelf
attribute [local go_sem] size_bs toList_bs
abbrev lv (x : LotV) : Value := .agg #[.string (bs x.id), .string (bs x.ins), .int .i64 x.acq, .int .i64 x.opn, .string (bs x.q), .string (bs x.c), .string (bs x.u)]
abbrev lc (x : LotV) : Array Value := #[.string (bs x.id), .string (bs x.ins), .int .i64 x.acq, .int .i64 x.opn, .string (bs x.q), .string (bs x.c), .string (bs x.u)]
theorem lotBlk {w w' : World} {g : Nat} {x : LotV} (h : Blk w g 71 (lc x)) (hx : Ext w w') : w'.cell? ⟨g, 0, none⟩ = some (.string (bs x.id)) ∧ w'.cell? ⟨g, 1, none⟩ = some (.string (bs x.ins)) ∧ w'.cell? ⟨g, 2, none⟩ = some (.int .i64 x.acq) ∧ w'.cell? ⟨g, 3, none⟩ = some (.int .i64 x.opn) ∧ w'.cell? ⟨g, 4, none⟩ = some (.string (bs x.q)) ∧ w'.cell? ⟨g, 5, none⟩ = some (.string (bs x.c)) ∧ w'.cell? ⟨g, 6, none⟩ = some (.string (bs x.u)) := by
  have k := h.ext hx
  have h0 := k.cell 0
  have h1 := k.cell 1
  have h2 := k.cell 2
  have h3 := k.cell 3
  have h4 := k.cell 4
  have h5 := k.cell 5
  have h6 := k.cell 6
  simp only [List.getElem?_toArray, List.getElem?_cons_zero, List.getElem?_cons_succ] at h0 h1 h2 h3 h4 h5 h6
  exact ⟨h0, h1, h2, h3, h4, h5, h6⟩
/-- the tests of Check, one after the other -/
structure CkL (x : LotV) (r : Int) : Prop where
  k1 : isId x.id = false → r = 23
  k2 : isId x.id = true → isName x.ins = false → r = 23
  k3 : isId x.id = true → isName x.ins = true → dayOK x.acq = false → r = 13
  k4 : isId x.id = true → isName x.ins = true → dayOK x.acq = true → dayOK x.opn = false → r = 13
  k5 : isId x.id = true → isName x.ins = true → dayOK x.acq = true → dayOK x.opn = true → x.opn < x.acq → r = 8
  k6 : isId x.id = true → isName x.ins = true → dayOK x.acq = true → dayOK x.opn = true → ¬ x.opn < x.acq → (checkI x.q ≠ 0 ∨ checkI x.c ≠ 0 ∨ checkI x.u ≠ 0) → r = 1
  k7 : isId x.id = true → isName x.ins = true → dayOK x.acq = true → dayOK x.opn = true → ¬ x.opn < x.acq → ¬ (checkI x.q ≠ 0 ∨ checkI x.c ≠ 0 ∨ checkI x.u ≠ 0) → (valI x.q ≤ 0 ∨ valI x.c < 0 ∨ (x.u ≠ [] ∧ x.u ≠ x.q)) → r = 2
  k8 : isId x.id = true → isName x.ins = true → dayOK x.acq = true → dayOK x.opn = true → ¬ x.opn < x.acq → ¬ (checkI x.q ≠ 0 ∨ checkI x.c ≠ 0 ∨ checkI x.u ≠ 0) → ¬ (valI x.q ≤ 0 ∨ valI x.c < 0 ∨ (x.u ≠ [] ∧ x.u ≠ x.q)) → r = 0
theorem ckL (x : LotV) : CkL x (checkL x) := by
  unfold checkL
  constructor
  · intro h; simp [h]
  · intro h1 h2; simp [h1, h2]
  · intro h1 h2 h3; simp [h1, h2, h3]
  · intro h1 h2 h3 h4; simp [h1, h2, h3, h4]
  · intro h1 h2 h3 h4 h5; simp [h1, h2, h3, h4, h5]
  · intro h1 h2 h3 h4 h5 h6; rw [if_neg (by simp [h1, h2]), if_neg (by simp [h3, h4]), if_neg h5, if_pos h6]
  · intro h1 h2 h3 h4 h5 h6 h7; rw [if_neg (by simp [h1, h2]), if_neg (by simp [h3, h4]), if_neg h5, if_neg h6, if_pos h7]
  · intro h1 h2 h3 h4 h5 h6 h7; rw [if_neg (by simp [h1, h2]), if_neg (by simp [h3, h4]), if_neg h5, if_neg h6, if_neg h7]
theorem sl3 {w w' : World} {g : Nat} {a b c : Value} (h : Blk w g 24 #[a, b, c]) (hx : Ext w w') : w'.cell? ⟨g, 0, none⟩ = some a ∧ w'.cell? ⟨g, 1, none⟩ = some b ∧ w'.cell? ⟨g, 2, none⟩ = some c := by
  have k := h.ext hx
  have h0 := k.cell 0
  have h1 := k.cell 1
  have h2 := k.cell 2
  simp only [List.getElem?_toArray, List.getElem?_cons_zero, List.getElem?_cons_succ] at h0 h1 h2
  exact ⟨h0, h1, h2⟩
set_option maxRecDepth 100000 in
set_option maxHeartbeats 4000000 in
theorem lotCheck (x : LotV) (hs : SmallL x) : Pure 84 #[lv x] (.int .i64 (checkL x)) := by
  intro w hE
  obtain ⟨s1, s2, s3, s4, s5⟩ := hs
  have HE := Lib.hid hE
  have HK := Lib.hid (ckL x)
  generalize checkL x = r at *
  have H1 := Lib.hid (lotIsId x.id (by omega))
  have H2 := Lib.hid (fun W => insName x.ins W (by omega))
  have H3 := Lib.hid (checkP x.q (by omega))
  have H4 := Lib.hid (checkP x.c (by omega))
  have H5 := Lib.hid (checkP x.u (by omega))
  have H6 := Lib.hid (cmp0P x.q (by omega))
  have H7 := Lib.hid (cmp0P x.c (by omega))
  clear hE s1 s2 s3 s4 s5
  have HB := Lib.hid (Blk.new w 71 (lc x))
  have HX : Hid (Ext w (w.alloc (.cells (lc x) 71))) := Lib.hid (Ext.new _ _)
  obtain ⟨xi, xn, xa, xo, xq, xc, xu⟩ := x
  simp only at *
  go_enter Tryz.func84, Tryz.ntmps84
  go_wp2_with fail
  refine (H1.out _ (HE.out.ext HX.out)).mono ?_
  rintro e w1 ⟨rfl, hx1⟩
  obtain ⟨p0, p1, p2, p3, p4, p5, p6⟩ := lotBlk HB.out hx1
  replace HB := Lib.hid (HB.out.ext hx1)
  replace HX := Lib.hid (HX.out.trans hx1)
  clear hx1
  cases hb1 : isId xi
  · have HR := Lib.hid (HK.out.k1 hb1)
    clear hb1 HK
    go_wp2_with fail
    go_ret
    exact ⟨by rw [HR.out]; rfl, HX.out⟩
  · have B1 := Lib.hid hb1
    clear hb1
    go_wp2_with fail
    refine (H2.out _).mono ?_
    rintro e w2 ⟨rfl, hx1⟩
    obtain ⟨p0, p1, p2, p3, p4, p5, p6⟩ := lotBlk HB.out hx1
    replace HB := Lib.hid (HB.out.ext hx1)
    replace HX := Lib.hid (HX.out.trans hx1)
    clear hx1
    cases hb2 : isName xn
    · have HR := Lib.hid (HK.out.k2 B1.out hb2)
      clear hb2 HK
      go_wp2_with fail
      go_ret
      exact ⟨by rw [HR.out]; rfl, HX.out⟩
    · have B2 := Lib.hid hb2
      clear hb2
      go_wp2_with fail
      refine (lotValid xa _).mono ?_
      rintro e w3 ⟨rfl, rfl⟩
      cases hb3 : dayOK xa
      · have HR := Lib.hid (HK.out.k3 B1.out B2.out hb3)
        clear hb3 HK
        go_wp2_with fail
        go_ret
        exact ⟨by rw [HR.out]; rfl, HX.out⟩
      · have B3 := Lib.hid hb3
        clear hb3
        go_wp2_with fail
        refine (lotValid xo _).mono ?_
        rintro e w4 ⟨rfl, rfl⟩
        cases hb4 : dayOK xo
        · have HR := Lib.hid (HK.out.k4 B1.out B2.out B3.out hb4)
          clear hb4 HK
          go_wp2_with fail
          go_ret
          exact ⟨by rw [HR.out]; rfl, HX.out⟩
        · have B4 := Lib.hid hb4
          clear hb4
          by_cases hb5 : xo < xa
          · have HR := Lib.hid (HK.out.k5 B1.out B2.out B3.out B4.out hb5)
            have g5 : decide (xo < xa) = true := by simpa using hb5
            clear HK
            go_wp2_with fail
            go_ret
            exact ⟨by rw [HR.out]; rfl, HX.out⟩
          · have B5 := Lib.hid hb5
            have g5 : decide (xo < xa) = false := by simpa using hb5
            have HS := Lib.hid (Blk.new w2 24 #[.string (bs xq), .string (bs xc), .string (bs xu)])
            go_wp2_with fail
            have HXW : Hid (Ext w2 (w2.alloc (.cells #[.string (bs xq), .string (bs xc), .string (bs xu)] 24))) := Lib.hid (Ext.new _ _)
            replace HB := Lib.hid (HB.out.ext HXW.out)
            replace HX := Lib.hid (HX.out.trans HXW.out)
            clear HXW
            generalize hgs : w2.heap.size = gs at *
            generalize w2.alloc (.cells #[.string (bs xq), .string (bs xc), .string (bs xu)] 24) = W2 at *
            clear hgs
            obtain ⟨s0, s1, s2⟩ := sl3 HS.out (Ext.refl W2)
            refine wp_loop_rounds 4 ?_
            rw [rounds_succ]
            go_wp2_with fail
            refine (H3.out _ (HE.out.ext HX.out)).mono ?_
            rintro e w5 ⟨rfl, hx1⟩
            obtain ⟨p0, p1, p2, p3, p4, p5, p6⟩ := lotBlk HB.out hx1
            replace HB := Lib.hid (HB.out.ext hx1)
            obtain ⟨s0, s1, s2⟩ := sl3 HS.out hx1
            replace HS := Lib.hid (HS.out.ext hx1)
            replace HX := Lib.hid (HX.out.trans hx1)
            clear hx1
            by_cases hq : checkI xq = 0
            · rw [hq]
              have Q1 := Lib.hid hq
              clear hq
              go_wp2_with fail
              rw [rounds_succ]
              go_wp2_with fail
              refine (H4.out _ (HE.out.ext HX.out)).mono ?_
              rintro e w6 ⟨rfl, hx1⟩
              obtain ⟨p0, p1, p2, p3, p4, p5, p6⟩ := lotBlk HB.out hx1
              replace HB := Lib.hid (HB.out.ext hx1)
              obtain ⟨s0, s1, s2⟩ := sl3 HS.out hx1
              replace HS := Lib.hid (HS.out.ext hx1)
              replace HX := Lib.hid (HX.out.trans hx1)
              clear hx1
              by_cases hc : checkI xc = 0
              · rw [hc]
                have Q2 := Lib.hid hc
                clear hc
                go_wp2_with fail
                rw [rounds_succ]
                go_wp2_with fail
                refine (H5.out _ (HE.out.ext HX.out)).mono ?_
                rintro e w7 ⟨rfl, hx1⟩
                obtain ⟨p0, p1, p2, p3, p4, p5, p6⟩ := lotBlk HB.out hx1
                replace HB := Lib.hid (HB.out.ext hx1)
                obtain ⟨s0, s1, s2⟩ := sl3 HS.out hx1
                replace HS := Lib.hid (HS.out.ext hx1)
                replace HX := Lib.hid (HX.out.trans hx1)
                clear hx1
                by_cases hu : checkI xu = 0
                · rw [hu]
                  have Q3 := Lib.hid hu
                  clear hu
                  go_wp2_with fail
                  rw [rounds_succ]
                  have HQ : Hid (¬ (checkI xq ≠ 0 ∨ checkI xc ≠ 0 ∨ checkI xu ≠ 0)) := Lib.hid (by
                    rintro (h | h | h)
                    · exact h Q1.out
                    · exact h Q2.out
                    · exact h Q3.out)
                  have HK7 := Lib.hid (HK.out.k7 B1.out B2.out B3.out B4.out (Int.not_lt.2 B5.out) HQ.out)
                  have HK8 := Lib.hid (HK.out.k8 B1.out B2.out B3.out B4.out (Int.not_lt.2 B5.out) HQ.out)
                  clear HK hb5 g5 HQ
                  go_wp2_with fail
                  refine (H6.out _ (HE.out.ext HX.out)).mono ?_
                  rintro e w8 ⟨rfl, hx1⟩
                  obtain ⟨p0, p1, p2, p3, p4, p5, p6⟩ := lotBlk HB.out hx1
                  replace HB := Lib.hid (HB.out.ext hx1)
                  replace HX := Lib.hid (HX.out.trans hx1)
                  clear hx1
                  by_cases hv : valI xq ≤ 0
                  · have g7 : decide (cmpI (valI xq) 0 ≤ 0) = true := by
                      rw [decide_eq_true_iff]; have := cmpI_pos (x := valI xq) (y := 0); omega
                    have HR := Lib.hid (HK7.out (.inl hv))
                    generalize cmpI (valI xq) 0 = cc at *
                    clear hv HK7 HK8
                    go_wp2_with fail
                    go_ret
                    exact ⟨by rw [HR.out]; rfl, HX.out⟩
                  · have g7 : decide (cmpI (valI xq) 0 ≤ 0) = false := by
                      rw [decide_eq_false_iff_not]; have := cmpI_pos (x := valI xq) (y := 0); omega
                    generalize cmpI (valI xq) 0 = cc at *
                    have V1 := Lib.hid hv
                    clear hv
                    go_wp2_with fail
                    refine (H7.out _ (HE.out.ext HX.out)).mono ?_
                    rintro e w9 ⟨rfl, hx1⟩
                    obtain ⟨p0, p1, p2, p3, p4, p5, p6⟩ := lotBlk HB.out hx1
                    replace HB := Lib.hid (HB.out.ext hx1)
                    replace HX := Lib.hid (HX.out.trans hx1)
                    clear hx1
                    by_cases hv2 : valI xc < 0
                    · have g8 : decide (cmpI (valI xc) 0 < 0) = true := by rw [decide_eq_true_iff, cmpI_neg]; exact hv2
                      have HR := Lib.hid (HK7.out (.inr (.inl hv2)))
                      generalize cmpI (valI xc) 0 = cd at *
                      clear hv2 HK7 HK8
                      go_wp2_with fail
                      go_ret
                      exact ⟨by rw [HR.out]; rfl, HX.out⟩
                    · have g8 : decide (cmpI (valI xc) 0 < 0) = false := by rw [decide_eq_false_iff_not, cmpI_neg]; exact hv2
                      generalize cmpI (valI xc) 0 = cd at *
                      have V2 := Lib.hid hv2
                      clear hv2
                      by_cases hu0 : xu = []
                      · have g9 : (!xu.isEmpty) = false := by rw [hu0]; rfl
                        have HR := Lib.hid (HK8.out (by
                          rintro (h | h | h)
                          · have := V1.out; omega
                          · have := V2.out; omega
                          · exact h.1 hu0))
                        clear hu0 HK7 HK8
                        go_wp2_with fail
                        go_ret
                        exact ⟨by rw [HR.out]; rfl, HX.out⟩
                      · have g9 : (!xu.isEmpty) = true := by simpa using hu0
                        by_cases hu1 : xu = xq
                        · have g10 : (xu != xq) = false := by rw [bne_eq_false_iff_eq]; exact hu1
                          have g11 : (xu == xq) = true := by rw [beq_iff_eq]; exact hu1
                          have HR := Lib.hid (HK8.out (by
                            rintro (h | h | h)
                            · have := V1.out; omega
                            · have := V2.out; omega
                            · exact h.2 hu1))
                          clear hu0 hu1 HK7 HK8
                          go_wp2_with fail
                          go_ret
                          exact ⟨by rw [HR.out]; rfl, HX.out⟩
                        · have g10 : (xu != xq) = true := by rw [bne_iff_ne]; exact hu1
                          have g11 : (xu == xq) = false := by rw [beq_eq_false_iff_ne]; exact hu1
                          have HR := Lib.hid (HK7.out (.inr (.inr ⟨hu0, hu1⟩)))
                          clear hu0 hu1 HK7 HK8
                          go_wp2_with fail
                          go_ret
                          exact ⟨by rw [HR.out]; rfl, HX.out⟩
                · have HR := Lib.hid (HK.out.k6 B1.out B2.out B3.out B4.out (Int.not_lt.2 B5.out) (.inr (.inr hu)))
                  have g6 : (checkI xu != 0) = true := by rw [bne_iff_ne]; exact hu
                  clear HK hu hb5
                  go_wp2_with fail
                  go_ret
                  exact ⟨by rw [HR.out]; rfl, HX.out⟩
              · have HR := Lib.hid (HK.out.k6 B1.out B2.out B3.out B4.out (Int.not_lt.2 B5.out) (.inr (.inl hc)))
                have g6 : (checkI xc != 0) = true := by rw [bne_iff_ne]; exact hc
                clear HK hc hb5
                go_wp2_with fail
                go_ret
                exact ⟨by rw [HR.out]; rfl, HX.out⟩
            · have HR := Lib.hid (HK.out.k6 B1.out B2.out B3.out B4.out (Int.not_lt.2 B5.out) (.inl hq))
              have g6 : (checkI xq != 0) = true := by rw [bne_iff_ne]; exact hq
              clear HK hq hb5
              go_wp2_with fail
              go_ret
              exact ⟨by rw [HR.out]; rfl, HX.out⟩
end Go.Proofs.YthgpheopnhajaaaGreatDoor

/- How lists lie in memory. -/
namespace Go.Proofs.YthgpheopnhajaaaGreatDoor
open Go.RowKit
def scells (ls : List Bs) : List Value := ls.map fun l => .string (bs l)
theorem flat_at {α : Type} (f : α → List Value) (n : Nat) (hf : ∀ a, (f a).length = n) : ∀ (l : List α) (k j : Nat) (h : k < l.length), j < n → (l.flatMap f)[k * n + j]? = (f (l[k]'h))[j]? := by
  intro l; induction l with
  | nil => intro k j h; simp at h
  | cons a r ih =>
    intro k j h hj
    rw [List.flatMap_cons]
    cases k with
    | zero => rw [Nat.zero_mul, Nat.zero_add, List.getElem?_append_left (by rw [hf]; exact hj)]; rfl
    | succ k =>
      rw [List.getElem?_append_right (by rw [hf, Nat.succ_mul]; omega), hf, show (k + 1) * n + j - n = k * n + j by rw [Nat.succ_mul]; omega]
      exact ih k j (by simpa using h) hj
theorem flat_len {α : Type} (f : α → List Value) (n : Nat) (hf : ∀ a, (f a).length = n) : ∀ (l : List α), (l.flatMap f).length = l.length * n := by
  intro l; induction l with
  | nil => simp
  | cons a r ih => rw [List.flatMap_cons, List.length_append, hf, ih, List.length_cons, Nat.succ_mul]; omega
def RdS (w : World) (A : Option Addr) (ls : List Bs) : Prop := Reads w 1 A ls.length (scells ls)
theorem RdS.ext {w w' : World} {A : Option Addr} {ls : List Bs} (h : RdS w A ls) (he : Ext w w') : RdS w' A ls := Reads.ext h he
theorem RdS.at_ {w : World} {A : Option Addr} {ls : List Bs} (h : RdS w A ls) {k : Nat} (hk : k < ls.length) :
    ∃ b o, A = some ⟨b, o, none⟩ ∧ b < w.heap.size ∧ w.cell? ⟨b, o + k, none⟩ = some (.string (bs (ls[k]'hk))) := by
  obtain ⟨b, o, rfl, hb⟩ := Reads.at_ h (by omega)
  exact ⟨b, o, rfl, hb, Reads.cell h (by simp [scells, hk])⟩
end Go.Proofs.YthgpheopnhajaaaGreatDoor

/- Lots in memory, and a map of ids. -/
namespace Go.Proofs.YthgpheopnhajaaaGreatDoor
open Go.RowKit Go.Shelf
attribute [local go_sem] size_bs toList_bs
theorem lotCells_len (x : LotV) : (lotCells x).length = 7 := rfl
/-- a slice that reads as lots -/
def RdL (w : World) (A : Option Addr) (ls : List LotV) : Prop := Reads w 7 A ls.length (ls.flatMap lotCells)
theorem RdL.ext {w w' : World} {A : Option Addr} {ls : List LotV} (h : RdL w A ls) (he : Ext w w') : RdL w' A ls := Reads.ext h he
theorem RdL.at_ {w : World} {A : Option Addr} {ls : List LotV} (h : RdL w A ls) {k : Nat} (hk : k < ls.length) :
    ∃ b o, A = some ⟨b, o, none⟩ ∧ b < w.heap.size ∧ w.cell? ⟨b, o + k * 7, none⟩ = some (.string (bs (ls[k]'hk).id)) ∧ w.cell? ⟨b, o + k * 7 + 1, none⟩ = some (.string (bs (ls[k]'hk).ins)) ∧ w.cell? ⟨b, o + k * 7 + 2, none⟩ = some (.int .i64 (ls[k]'hk).acq) ∧ w.cell? ⟨b, o + k * 7 + 3, none⟩ = some (.int .i64 (ls[k]'hk).opn) ∧
      w.cell? ⟨b, o + k * 7 + 4, none⟩ = some (.string (bs (ls[k]'hk).q)) ∧ w.cell? ⟨b, o + k * 7 + 5, none⟩ = some (.string (bs (ls[k]'hk).c)) ∧ w.cell? ⟨b, o + k * 7 + 6, none⟩ = some (.string (bs (ls[k]'hk).u)) := by
  obtain ⟨b, o, rfl, hb⟩ := Reads.at_ h (by omega)
  have key : ∀ j (_ : j < 7), w.cell? ⟨b, o + k * 7 + j, none⟩ = (lotCells (ls[k]'hk))[j]? := fun j hj => by
    have h1 := flat_at lotCells 7 lotCells_len ls k j hk hj
    have hl : j < (lotCells (ls[k]'hk)).length := by rw [lotCells_len]; exact hj
    rw [List.getElem?_eq_getElem hl] at h1 ⊢
    have h2 := Reads.cell h h1
    rw [← Nat.add_assoc] at h2
    exact h2
  exact ⟨b, o, rfl, hb, key 0 (by decide), key 1 (by decide), key 2 (by decide), key 3 (by decide), key 4 (by decide), key 5 (by decide), key 6 (by decide)⟩
section
variable {P : Program} {w : World}
theorem run_ins (mty kt et : TypeId) (r clock : Nat) (es : Array MapEntry) (s : ByteArray) (val : Value) (hm : P.underlying mty = some (.map kt et)) (hk : P.underlying kt = some .string) (hb : w.heap[r]? = some (.map es clock))
    (hf : Instr.findNow .string (.string s) es.toList 0 = some none) :
    (Instr.mapUpdate mty (.map (some r)) (.string s) val).run P w = .ok () (w.putObj r (.map (es.push { key := .string s, val := val, born := clock }) (clock + 1))) := by
  have hc : (Instr.checkKey false 10000 kt (.string s)).run P w = .ok () w := MapKept.run_checkKey (k := .string s) hk (by simp [MapKept.IsKey]) false 9999
  simp [Instr.mapUpdate, run_underlying hm, MapKept.run_getObj_map hb, hc, MapKept.run_findKey hk hf, MapKept.run_setObj_map _ hb, Result.andThen, World.putObj]
theorem run_look (mty kt et : TypeId) (r clock : Nat) (es : Array MapEntry) (s : ByteArray) (i : Nat) (val : Value) (hm : P.underlying mty = some (.map kt et)) (hk : P.underlying kt = some .string) (hb : w.heap[r]? = some (.map es clock))
    (hf : Instr.findNow .string (.string s) es.toList 0 = some (some (i, val))) :
    (Instr.lookup mty (.map (some r)) (.string s) false).run P w = .ok val w := by
  have hc : (Instr.checkKey es.isEmpty 10000 kt (.string s)).run P w = .ok () w := MapKept.run_checkKey (k := .string s) hk (by simp [MapKept.IsKey]) es.isEmpty 9999
  simp [Instr.lookup, run_underlying hm, MapKept.run_getObj_map hb, hc, MapKept.run_findKey hk hf, Result.andThen]
theorem run_look_no (mty kt et : TypeId) (r clock : Nat) (es : Array MapEntry) (s : ByteArray) (z : Value) (hm : P.underlying mty = some (.map kt et)) (hk : P.underlying kt = some .string) (hb : w.heap[r]? = some (.map es clock))
    (hf : Instr.findNow .string (.string s) es.toList 0 = some none) (hz : (zeroValue et).run P w = .ok z w) :
    (Instr.lookup mty (.map (some r)) (.string s) false).run P w = .ok z w := by
  have hc : (Instr.checkKey es.isEmpty 10000 kt (.string s)).run P w = .ok () w := MapKept.run_checkKey (k := .string s) hk (by simp [MapKept.IsKey]) es.isEmpty 9999
  simp [Instr.lookup, run_underlying hm, MapKept.run_getObj_map hb, hc, MapKept.run_findKey hk hf, hz, Result.andThen]
end
/-- the entries of a set of ids -/
def entsL : List Bs → Nat → List MapEntry
  | [], _ => []
  | s :: r, i => { key := .string (bs s), val := .bool true, born := i } :: entsL r (i + 1)
theorem entsL_snoc (l : List Bs) (s : Bs) (i : Nat) : entsL (l ++ [s]) i = entsL l i ++ [{ key := .string (bs s), val := .bool true, born := i + l.length }] := by
  induction l generalizing i with
  | nil => rfl
  | cons a r ih => simp only [List.cons_append, entsL, ih, List.length_cons]; rw [show i + 1 + r.length = i + (r.length + 1) by omega]
theorem bs_beq (a b : Bs) : ((bs a : ByteArray) == bs b) = decide (a = b) := by
  rw [Bool.eq_iff_iff, MapKept.bytes_beq, decide_eq_true_iff]
  constructor
  · intro h; have := congrArg (fun b => b.data.toList) h; simpa [bs] using this
  · intro h; rw [h]
theorem find_in (s : Bs) : ∀ (l : List Bs) (i n : Nat), s ∈ l → ∃ k, Instr.findNow .string (.string (bs s)) (entsL l i) n = some (some (k, .bool true))
  | [], _, _, h => by simp at h
  | a :: r, i, n, h => by
    by_cases e : s = a
    · exact ⟨n, by simp [entsL, Instr.findNow, Instr.sameNow, bs_beq, e]⟩
    · obtain ⟨k, hk⟩ := find_in s r (i + 1) (n + 1) (by simpa [e] using h)
      exact ⟨k, by simp [entsL, Instr.findNow, Instr.sameNow, bs_beq, e, hk]⟩
theorem find_out (s : Bs) : ∀ (l : List Bs) (i n : Nat), s ∉ l → Instr.findNow .string (.string (bs s)) (entsL l i) n = some none
  | [], _, _, _ => rfl
  | a :: r, i, n, h => by
    have e : s ≠ a := by rintro rfl; simp at h
    have := find_out s r (i + 1) (n + 1) (by simp at h; exact h.2)
    simp [entsL, Instr.findNow, Instr.sameNow, bs_beq, e, this]
/-- a map that holds a set of ids -/
def IdsAt (W : World) (r : Nat) (ids : List Bs) : Prop := W.heap[r]? = some (.map (entsL ids 0).toArray ids.length)
end Go.Proofs.YthgpheopnhajaaaGreatDoor

/- The library's slices.IndexFunc and ContainsFunc; the program's Find of a lot. -/
namespace Go.Proofs.YthgpheopnhajaaaGreatDoor
open Go.RowKit Go.Shelf
attribute [local go_sem] size_bs toList_bs
def idxZ {α : Type} (p : α → Bool) (l : List α) : Int := match l.findIdx? p with | some i => (i : Int) | none => -1
theorem idx_miss {α : Type} {p : α → Bool} {l : List α} (h : ∀ x ∈ l, p x = false) : idxZ p l = -1 := by
  unfold idxZ; rw [List.findIdx?_eq_none_iff.2 h]
theorem idx_hit {α : Type} {p : α → Bool} {l : List α} {k : Nat} (hk : k < l.length) (h : ∀ x ∈ l.take k, p x = false) (hp : p (l[k]'hk) = true) : idxZ p l = k := by
  have : l.findIdx? p = some k := by
    rw [List.findIdx?_eq_some_iff_getElem]
    refine ⟨hk, hp, fun j hj => ?_⟩
    have := h (l[j]'(by omega)) (List.mem_take_iff_getElem.2 ⟨j, by omega, rfl⟩)
    simp [this]
  unfold idxZ; rw [this]
theorem idx_next {α : Type} {p : α → Bool} {l : List α} {k : Nat} (hk : k < l.length) (h : ∀ x ∈ l.take k, p x = false) (hp : p (l[k]'hk) = false) : ∀ x ∈ l.take (k + 1), p x = false := by
  intro x hx
  rw [List.take_succ_eq_append_getElem hk] at hx
  rcases List.mem_append.1 hx with hx | hx
  · exact h x hx
  · simp at hx; rw [hx]; exact hp
theorem idx_any {α : Type} (p : α → Bool) (l : List α) : decide (0 ≤ idxZ p l) = l.any p := by
  unfold idxZ
  cases h : l.findIdx? p with
  | none =>
    rw [List.findIdx?_eq_none_iff] at h
    rw [show l.any p = false by rw [List.any_eq_false]; intro x hx; simp [h x hx]]; rfl
  | some i =>
    rw [List.findIdx?_eq_some_iff_getElem] at h
    obtain ⟨hi, hp, _⟩ := h
    rw [show l.any p = true by rw [List.any_eq_true]; exact ⟨_, List.getElem_mem hi, hp⟩]
    simp
set_option maxRecDepth 100000 in
set_option maxHeartbeats 2000000 in
theorem idxFuncI (kf : Nat) (cb : Array Value) (ek : ∀ args w, (callFunc kf args).run Tryz.prog w = .ok (.enter kf args) w) (p : Bs → Bool) (ls : List Bs) (A : Option Addr) (c : Nat) (w : World) (hA : RdS w A ls) (hn : ls.length ≤ 1000000)
    (hF : ∀ x ∈ ls, ∀ W, Ext w W → Calls Tryz.prog kf (#[.string (bs x)] ++ cb) W fun e w' => e = .returned (.bool (p x)) ∧ Ext W w') :
    Calls Tryz.prog 127 #[.slice A ls.length c, .func (.func kf) #[] cb] w fun e w' => e = .returned (.int .i64 (idxZ p ls)) ∧ Ext w w' := by
  have HA := Lib.hid hA
  have HF := Lib.hid hF
  clear hA hF
  go_enter Tryz.func127, Tryz.ntmps127
  go_wp2_with fail
  go_loopw [8, 5] (fun i _ wr => ∃ k : Nat, k ≤ ls.length ∧ i = .int .i64 k ∧ (∀ x ∈ ls.take k, p x = false) ∧ Ext w wr) (fun i _ _ => ls.length - (intOf i).toNat)
  case atStart => exact ⟨0, by omega, rfl, by simp, Ext.refl _⟩
  case round =>
    obtain ⟨k, hk, rfl, hz, hx⟩ := hrel
    have HZ := Lib.hid hz
    have HX := Lib.hid hx
    clear hz hx
    by_cases hlt : k < ls.length
    · obtain ⟨b, o, rfl, hb, c0⟩ := (HA.out.ext HX.out).at_ hlt
      have HC := Lib.hid (HF.out (ls[k]'hlt) (List.getElem_mem _))
      have HN : Hid (p (ls[k]'hlt) = false → ∀ x ∈ ls.take (k + 1), p x = false) := Lib.hid (fun h => idx_next hlt HZ.out h)
      have HI : Hid (p (ls[k]'hlt) = true → idxZ p ls = k) := Lib.hid (fun h => idx_hit hlt HZ.out h)
      generalize (ls[k]'hlt) = x at *
      go_wp2_with fail
      refine (HC.out _ HX.out).mono ?_
      rintro e w1 ⟨rfl, hx1⟩
      replace HX := Lib.hid (HX.out.trans hx1)
      clear hx1
      cases hp : p x
      · have HN1 := Lib.hid (HN.out hp)
        clear hp
        go_wp2_with fail
        go_roundw
        case rel => exact ⟨k + 1, by omega, by go_num, HN1.out, HX.out⟩
        case measure => simp [intOf]; omega
      · have HI1 := Lib.hid (HI.out hp)
        clear hp
        go_wp2_with fail
        go_ret
        exact ⟨by rw [HI1.out]; rfl, HX.out⟩
    · have HI : Hid (idxZ p ls = -1) := Lib.hid (idx_miss (by have := HZ.out; rwa [List.take_of_length_le (by omega)] at this))
      go_wp2_with fail
      go_ret
      exact ⟨by rw [HI.out]; rfl, HX.out⟩
set_option maxRecDepth 100000 in
theorem contFuncI (kf : Nat) (cb : Array Value) (ek : ∀ args w, (callFunc kf args).run Tryz.prog w = .ok (.enter kf args) w) (p : Bs → Bool) (ls : List Bs) (A : Option Addr) (c : Nat) (w : World) (hA : RdS w A ls) (hn : ls.length ≤ 1000000)
    (hF : ∀ x ∈ ls, ∀ W, Ext w W → Calls Tryz.prog kf (#[.string (bs x)] ++ cb) W fun e w' => e = .returned (.bool (p x)) ∧ Ext W w') :
    Calls Tryz.prog 69 #[.slice A ls.length c, .func (.func kf) #[] cb] w fun e w' => e = .returned (.bool (ls.any p)) ∧ Ext w w' := by
  have HI := Lib.hid (idxFuncI kf cb ek p ls A c w hA hn hF)
  have HZ : Hid (decide (0 ≤ idxZ p ls) = ls.any p) := Lib.hid (idx_any p ls)
  generalize ls.any p = b at *
  generalize idxZ p ls = z at *
  clear hA hF
  go_enter Tryz.func69, Tryz.ntmps69
  go_wp2_with fail
  refine HI.out.mono ?_
  rintro e w1 ⟨rfl, hx1⟩
  have HX := Lib.hid hx1
  clear hx1
  go_wp2_with fail
  go_ret
  exact ⟨by rw [← HZ.out]; rfl, HX.out⟩
set_option maxRecDepth 100000 in
set_option maxHeartbeats 2000000 in
theorem idxFuncL (kf : Nat) (cb : Array Value) (ek : ∀ args w, (callFunc kf args).run Tryz.prog w = .ok (.enter kf args) w) (p : LotV → Bool) (ls : List LotV) (A : Option Addr) (c : Nat) (w : World) (hA : RdL w A ls) (hn : ls.length ≤ 1000000)
    (hF : ∀ x ∈ ls, ∀ W, Ext w W → Calls Tryz.prog kf (#[lv x] ++ cb) W fun e w' => e = .returned (.bool (p x)) ∧ Ext W w') :
    Calls Tryz.prog 85 #[.slice A ls.length c, .func (.func kf) #[] cb] w fun e w' => e = .returned (.int .i64 (idxZ p ls)) ∧ Ext w w' := by
  have HA := Lib.hid hA
  have HF := Lib.hid hF
  clear hA hF
  go_enter Tryz.func85, Tryz.ntmps85
  go_wp2_with fail
  go_loopw [8, 5] (fun i _ wr => ∃ k : Nat, k ≤ ls.length ∧ i = .int .i64 k ∧ (∀ x ∈ ls.take k, p x = false) ∧ Ext w wr) (fun i _ _ => ls.length - (intOf i).toNat)
  case atStart => exact ⟨0, by omega, rfl, by simp, Ext.refl _⟩
  case round =>
    obtain ⟨k, hk, rfl, hz, hx⟩ := hrel
    have HZ := Lib.hid hz
    have HX := Lib.hid hx
    clear hz hx
    by_cases hlt : k < ls.length
    · obtain ⟨b, o, rfl, hb, c0, c1, c2, c3, c4, c5, c6⟩ := (HA.out.ext HX.out).at_ hlt
      have HC := Lib.hid (HF.out (ls[k]'hlt) (List.getElem_mem _))
      have HN : Hid (p (ls[k]'hlt) = false → ∀ x ∈ ls.take (k + 1), p x = false) := Lib.hid (fun h => idx_next hlt HZ.out h)
      have HI : Hid (p (ls[k]'hlt) = true → idxZ p ls = k) := Lib.hid (fun h => idx_hit hlt HZ.out h)
      generalize (ls[k]'hlt) = x at *
      go_wp2_with fail
      refine (HC.out _ HX.out).mono ?_
      rintro e w1 ⟨rfl, hx1⟩
      replace HX := Lib.hid (HX.out.trans hx1)
      clear hx1
      cases hp : p x
      · have HN1 := Lib.hid (HN.out hp)
        clear hp
        go_wp2_with fail
        go_roundw
        case rel => exact ⟨k + 1, by omega, by go_num, HN1.out, HX.out⟩
        case measure => simp [intOf]; omega
      · have HI1 := Lib.hid (HI.out hp)
        clear hp
        go_wp2_with fail
        go_ret
        exact ⟨by rw [HI1.out]; rfl, HX.out⟩
    · have HI : Hid (idxZ p ls = -1) := Lib.hid (idx_miss (by have := HZ.out; rwa [List.take_of_length_le (by omega)] at this))
      go_wp2_with fail
      go_ret
      exact ⟨by rw [HI.out]; rfl, HX.out⟩
theorem findL_idx (ls : List LotV) (id : Bs) : idxZ (fun x => x.id == id) ls = match findL ls id with | some i => (i : Int) | none => -1 := by
  have : ls.findIdx? (fun x => x.id == id) = findL ls id := by
    induction ls with
    | nil => rfl
    | cons x r ih =>
      rw [List.findIdx?_cons, findL]
      by_cases h : x.id = id
      · simp [h]
      · simp [h, ih]
  unfold idxZ; rw [this]
set_option maxRecDepth 100000 in
theorem lotFind1 (x : LotV) (id : Bs) (g : Nat) (W : World) (hb : Blk W g 9 #[.string (bs id)]) :
    Calls Tryz.prog 86 #[lv x, .pointer (some ⟨g, 0, none⟩)] W fun e w' => e = .returned (.bool (x.id == id)) ∧ Ext W w' := by
  have q0 := (hb.alloc (.cells (lc x) 71)).cell 0
  simp only [List.getElem?_toArray, List.getElem?_cons_zero] at q0
  have hlt := hb.lt
  have HX : Hid (Ext W (W.alloc (.cells (lc x) 71))) := Lib.hid (Ext.new _ _)
  obtain ⟨xi, xn, xa, xo, xq, xc, xu⟩ := x
  clear hb
  go_enter Tryz.func86, Tryz.ntmps86
  go_wp2_with fail
  go_ret
  exact ⟨rfl, HX.out⟩
def findI (ls : List LotV) (id : Bs) : Int := match findL ls id with | some i => (i : Int) | none => 0
set_option maxRecDepth 100000 in
theorem lotFind (ls : List LotV) (A : Option Addr) (c : Nat) (id : Bs) (w : World) (hA : RdL w A ls) (hn : ls.length ≤ 1000000) :
    Calls Tryz.prog 32 #[.slice A ls.length c, .string (bs id)] w fun e w' => e = .returned (.tuple #[.int .i64 (findI ls id), .bool (findL ls id).isSome]) ∧ Ext w w' := by
  have HB := Lib.hid (Blk.new w 9 #[.string (bs id)])
  have HX0 : Hid (Ext w (w.alloc (.cells #[.string (bs id)] 9))) := Lib.hid (Ext.new _ _)
  have hi := idxFuncL 86 #[.pointer (some ⟨w.heap.size, 0, none⟩)] (fun _ _ => by rfl) (fun x => x.id == id) ls A c _ (hA.ext HX0.out) hn (fun x _ W hx => lotFind1 x id w.heap.size W (HB.out.ext hx))
  rw [findL_idx] at hi
  have HI := Lib.hid hi
  have HZ : Hid (max (match findL ls id with | some i => (i : Int) | none => -1) 0 = findI ls id ∧ decide (0 ≤ (match findL ls id with | some i => (i : Int) | none => -1)) = (findL ls id).isSome) := Lib.hid (by
    unfold findI
    cases findL ls id with
    | none => exact ⟨rfl, rfl⟩
    | some i => exact ⟨by simp only; omega, by simp⟩)
  generalize (match findL ls id with | some i => (i : Int) | none => -1) = z at *
  generalize findI ls id = y at *
  generalize (findL ls id).isSome = b at *
  clear hi hA
  go_enter Tryz.func32, Tryz.ntmps32
  go_wp2_with fail
  refine HI.out.mono ?_
  rintro e w1 ⟨rfl, hx1⟩
  have HX := Lib.hid (HX0.out.trans hx1)
  clear hx1
  go_wp2_with fail
  go_ret2
  exact ⟨by rw [← HZ.out.1, ← HZ.out.2]; rfl, HX.out⟩
end Go.Proofs.YthgpheopnhajaaaGreatDoor

/- What of a gain counts in an exchange: the program's and the reference's recognized, Recognized. -/
namespace Go.Proofs.YthgpheopnhajaaaGreatDoor
open Go.RowKit
attribute [local go_sem] size_bs toList_bs
/-- what of a gain counts -/
def recG (cost cash value : Int) : Int := if cash < (if value + cash - cost < 0 then 0 else value + cash - cost) then cash else (if value + cash - cost < 0 then 0 else value + cash - cost)
def recV (cost cash value : Bs) : Bs × Bs × Int :=
  if [cost, cash, value].any (fun a => checkI a != 0) = true then ([], [], 1) else if [cost, cash, value].any (fun a => decide (valI a < 0)) = true then ([], [], 2)
  else (ofI (recG (valI cost) (valI cash) (valI value)), ofI (valI cost + recG (valI cost) (valI cash) (valI value) - valI cash), 0)
theorem listS {W : World} {g : Nat} {l : List Bs} (h : Blk W g 24 (scells l).toArray) : RdS W (some ⟨g, 0, none⟩) l :=
  ⟨by simp [scells], fun _ => ⟨g, 0, rfl, h.lt, fun j u hu => by rw [Nat.zero_add, h.cell j, List.getElem?_toArray]; exact hu⟩⟩
section
variable {L : Nat} {cost cash value : Bs}
theorem gain_len (h1 : cost.length ≤ L) (h2 : cash.length ≤ L) (h3 : value.length ≤ L) : (ofI (valI value + valI cash)).length ≤ L + 2 ∧ (ofI (valI value + valI cash - valI cost)).length ≤ L + 5 := by
  have e1 := add_len h3 h2
  have e2 := sub_len (x := ofI (valI value + valI cash)) (y := cost) (L := L + 2) e1 (by omega)
  rw [valI_ofI] at e2
  exact ⟨e1, by omega⟩
end
set_option maxRecDepth 100000 in
set_option maxHeartbeats 4000000 in
theorem mgRec (cost cash value : Bs) (h1 : cost.length ≤ 1000) (h2 : cash.length ≤ 1000) (h3 : value.length ≤ 1000) (hc : checkI cash = 0) (hn : 0 ≤ valI cash) :
    Pure 54 #[.string (bs cost), .string (bs cash), .string (bs value)] (.tuple #[.string (bs (ofI (recG (valI cost) (valI cash) (valI value)))), .string (bs (ofI (valI cost + recG (valI cost) (valI cash) (valI value) - valI cash)))]) := by
  intro w hE
  have HE := Lib.hid hE
  obtain ⟨l1, l2⟩ := gain_len (L := 1000) h1 h2 h3
  have hcc := checkI_ok.1 hc
  have z1 := addP value cash (by omega) (by omega)
  have z2 := subP (ofI (valI value + valI cash)) cost (by omega) (by omega)
  have z3 := cmp0P (ofI (valI value + valI cash - valI cost)) (by omega)
  rw [valI_ofI] at z2 z3
  have A1 := Lib.hid z1
  have S1 := Lib.hid z2
  have C1 := Lib.hid z3
  have HX : Hid (Ext w w) := Lib.hid (Ext.refl w)
  generalize hgz : valI value + valI cash - valI cost = gz at *
  by_cases n1 : gz < 0
  · have g1 : decide (cmpI gz 0 < 0) = true := decide_eq_true (cmpI_neg.2 n1)
    have z4 := cmpP cash [] (by omega) (by simp)
    rw [valI_nil] at z4
    have g2 : decide (cmpI (valI cash) 0 < 0) = false := decide_eq_false (fun h => by have := cmpI_neg.1 h; omega)
    have z5 := addP cost [] (by omega) (by simp)
    have k5 := add_len (x := cost) (y := []) (L := 1000) (by omega) (by simp)
    rw [valI_nil, Int.add_zero] at z5 k5
    have z6 := subP (ofI (valI cost)) cash (by omega) (by omega)
    rw [valI_ofI] at z6
    have er : recG (valI cost) (valI cash) (valI value) = 0 := by unfold recG; rw [hgz, if_pos n1, if_neg (by omega)]
    rw [er, Int.add_zero, show ofI 0 = [] from ofI_nil.2 rfl]
    have C2 : Hid (Pure 20 #[.string (bs cash), .string ⟨#[]⟩] (.int .i64 (cmpI (valI cash) 0))) := Lib.hid z4
    have A2 : Hid (Pure 21 #[.string (bs cost), .string ⟨#[]⟩] (.string (bs (ofI (valI cost))))) := Lib.hid z5
    have S2 := Lib.hid z6
    clear z1 z2 z3 z4 z5 z6 l1 l2 k5 hcc hE er hgz n1
    generalize cmpI gz 0 = q1 at *
    generalize cmpI (valI cash) 0 = q2 at *
    go_enter Tryz.func54, Tryz.ntmps54
    go_wp2_with fail
    refine (A1.out _ (HE.out.ext HX.out)).mono ?_
    rintro e v1 ⟨rfl, hx1⟩
    replace HX := Lib.hid (HX.out.trans hx1)
    clear hx1
    go_wp2_with fail
    refine (S1.out _ (HE.out.ext HX.out)).mono ?_
    rintro e v2 ⟨rfl, hx1⟩
    replace HX := Lib.hid (HX.out.trans hx1)
    clear hx1
    go_wp2_with fail
    refine (C1.out _ (HE.out.ext HX.out)).mono ?_
    rintro e v3 ⟨rfl, hx1⟩
    replace HX := Lib.hid (HX.out.trans hx1)
    clear hx1
    go_wp2_with fail
    refine (C2.out _ (HE.out.ext HX.out)).mono ?_
    rintro e v4 ⟨rfl, hx1⟩
    replace HX := Lib.hid (HX.out.trans hx1)
    clear hx1
    go_wp2_with fail
    refine (A2.out _ (HE.out.ext HX.out)).mono ?_
    rintro e v5 ⟨rfl, hx1⟩
    replace HX := Lib.hid (HX.out.trans hx1)
    clear hx1
    go_wp2_with fail
    refine (S2.out _ (HE.out.ext HX.out)).mono ?_
    rintro e v6 ⟨rfl, hx1⟩
    replace HX := Lib.hid (HX.out.trans hx1)
    clear hx1
    go_wp2_with fail
    go_ret2
    exact ⟨rfl, HX.out⟩
  · have g1 : decide (cmpI gz 0 < 0) = false := decide_eq_false (fun h => n1 (cmpI_neg.1 h))
    have z4 := cmpP cash (ofI gz) (by omega) (by omega)
    rw [valI_ofI] at z4
    have C2 := Lib.hid z4
    by_cases n2 : valI cash < gz
    · have g2 : decide (cmpI (valI cash) gz < 0) = true := decide_eq_true (cmpI_neg.2 n2)
      have er : recG (valI cost) (valI cash) (valI value) = valI cash := by unfold recG; rw [hgz, if_neg n1, if_pos n2]
      rw [er, hcc]
      have z5 := addP cost cash (by omega) (by omega)
      have k5 := add_len (x := cost) (y := cash) (L := 1000) (by omega) (by omega)
      have z6 := subP (ofI (valI cost + valI cash)) cash (by omega) (by omega)
      rw [valI_ofI] at z6
      have A2 := Lib.hid z5
      have S2 := Lib.hid z6
      clear z1 z2 z3 z4 z5 z6 l1 l2 k5 hcc hE er hgz n1 n2
      generalize ofI (valI cost + valI cash - valI cash) = r2 at *
      generalize cmpI gz 0 = q1 at *
      generalize cmpI (valI cash) gz = q2 at *
      go_enter Tryz.func54, Tryz.ntmps54
      go_wp2_with fail
      refine (A1.out _ (HE.out.ext HX.out)).mono ?_
      rintro e v7 ⟨rfl, hx1⟩
      replace HX := Lib.hid (HX.out.trans hx1)
      clear hx1
      go_wp2_with fail
      refine (S1.out _ (HE.out.ext HX.out)).mono ?_
      rintro e v8 ⟨rfl, hx1⟩
      replace HX := Lib.hid (HX.out.trans hx1)
      clear hx1
      go_wp2_with fail
      refine (C1.out _ (HE.out.ext HX.out)).mono ?_
      rintro e v9 ⟨rfl, hx1⟩
      replace HX := Lib.hid (HX.out.trans hx1)
      clear hx1
      go_wp2_with fail
      refine (C2.out _ (HE.out.ext HX.out)).mono ?_
      rintro e v10 ⟨rfl, hx1⟩
      replace HX := Lib.hid (HX.out.trans hx1)
      clear hx1
      go_wp2_with fail
      refine (A2.out _ (HE.out.ext HX.out)).mono ?_
      rintro e v11 ⟨rfl, hx1⟩
      replace HX := Lib.hid (HX.out.trans hx1)
      clear hx1
      go_wp2_with fail
      refine (S2.out _ (HE.out.ext HX.out)).mono ?_
      rintro e v12 ⟨rfl, hx1⟩
      replace HX := Lib.hid (HX.out.trans hx1)
      clear hx1
      go_wp2_with fail
      go_ret2
      exact ⟨rfl, HX.out⟩
    · have g2 : decide (cmpI (valI cash) gz < 0) = false := decide_eq_false (fun h => n2 (cmpI_neg.1 h))
      have er : recG (valI cost) (valI cash) (valI value) = gz := by unfold recG; rw [hgz, if_neg n1, if_neg n2]
      rw [er]
      have z5 := addP cost (ofI gz) (by omega) (by omega)
      have k5 := add_len (x := cost) (y := ofI gz) (L := 1005) (by omega) (by omega)
      rw [valI_ofI] at z5 k5
      have z6 := subP (ofI (valI cost + gz)) cash (by omega) (by omega)
      rw [valI_ofI] at z6
      have A2 := Lib.hid z5
      have S2 := Lib.hid z6
      clear z1 z2 z3 z4 z5 z6 l1 l2 k5 hcc hE er hgz n1 n2
      generalize cmpI gz 0 = q1 at *
      generalize cmpI (valI cash) gz = q2 at *
      go_enter Tryz.func54, Tryz.ntmps54
      go_wp2_with fail
      refine (A1.out _ (HE.out.ext HX.out)).mono ?_
      rintro e v13 ⟨rfl, hx1⟩
      replace HX := Lib.hid (HX.out.trans hx1)
      clear hx1
      go_wp2_with fail
      refine (S1.out _ (HE.out.ext HX.out)).mono ?_
      rintro e v14 ⟨rfl, hx1⟩
      replace HX := Lib.hid (HX.out.trans hx1)
      clear hx1
      go_wp2_with fail
      refine (C1.out _ (HE.out.ext HX.out)).mono ?_
      rintro e v15 ⟨rfl, hx1⟩
      replace HX := Lib.hid (HX.out.trans hx1)
      clear hx1
      go_wp2_with fail
      refine (C2.out _ (HE.out.ext HX.out)).mono ?_
      rintro e v16 ⟨rfl, hx1⟩
      replace HX := Lib.hid (HX.out.trans hx1)
      clear hx1
      go_wp2_with fail
      refine (A2.out _ (HE.out.ext HX.out)).mono ?_
      rintro e v17 ⟨rfl, hx1⟩
      replace HX := Lib.hid (HX.out.trans hx1)
      clear hx1
      go_wp2_with fail
      refine (S2.out _ (HE.out.ext HX.out)).mono ?_
      rintro e v18 ⟨rfl, hx1⟩
      replace HX := Lib.hid (HX.out.trans hx1)
      clear hx1
      go_wp2_with fail
      go_ret2
      exact ⟨rfl, HX.out⟩
set_option maxRecDepth 100000 in
theorem mgRec1 (a : Bs) (ha : a.length ≤ 90000) : Pure 71 #[.string (bs a)] (.bool (checkI a != 0)) := by
  intro w hE
  have HE := Lib.hid hE
  have C := Lib.hid (checkP a (by omega))
  have HX : Hid (Ext w w) := Lib.hid (Ext.refl w)
  generalize checkI a = k at *
  clear hE ha
  go_enter Tryz.func71, Tryz.ntmps71
  go_wp2_with fail
  refine (C.out _ (HE.out.ext HX.out)).mono ?_
  rintro e v19 ⟨rfl, hx1⟩
  replace HX := Lib.hid (HX.out.trans hx1)
  clear hx1
  go_wp2_with fail
  go_ret
  exact ⟨rfl, HX.out⟩
set_option maxRecDepth 100000 in
theorem mgRec2 (a : Bs) (ha : a.length ≤ 90000) : Pure 73 #[.string (bs a)] (.bool (decide (valI a < 0))) := by
  intro w hE
  have HE := Lib.hid hE
  have C := Lib.hid (cmp0P a (by omega))
  have HX : Hid (Ext w w) := Lib.hid (Ext.refl w)
  have HQ : Hid (decide (valI a < 0) = decide (cmpI (valI a) 0 < 0)) := Lib.hid (by rw [Bool.eq_iff_iff, decide_eq_true_iff, decide_eq_true_iff, cmpI_neg])
  rw [HQ.out]
  generalize cmpI (valI a) 0 = cc at *
  clear hE ha HQ
  go_enter Tryz.func73, Tryz.ntmps73
  go_wp2_with fail
  refine (C.out _ (HE.out.ext HX.out)).mono ?_
  rintro e v21 ⟨rfl, hx1⟩
  replace HX := Lib.hid (HX.out.trans hx1)
  clear hx1
  go_wp2_with fail
  go_ret
  exact ⟨rfl, HX.out⟩
theorem recV_bad {cost cash value : Bs} (h : [cost, cash, value].any (fun a => checkI a != 0) = true) : recV cost cash value = ([], [], 1) := by unfold recV; rw [if_pos h]
theorem recV_low {cost cash value : Bs} (h : [cost, cash, value].any (fun a => checkI a != 0) = false) (h2 : [cost, cash, value].any (fun a => decide (valI a < 0)) = true) : recV cost cash value = ([], [], 2) := by unfold recV; rw [if_neg (by rw [h]; decide), if_pos h2]
theorem recV_ok {cost cash value : Bs} (h : [cost, cash, value].any (fun a => checkI a != 0) = false) (h2 : [cost, cash, value].any (fun a => decide (valI a < 0)) = false) : recV cost cash value = (ofI (recG (valI cost) (valI cash) (valI value)), ofI (valI cost + recG (valI cost) (valI cash) (valI value) - valI cash), 0) := by unfold recV; rw [if_neg (by rw [h]; decide), if_neg (by rw [h2]; decide)]
theorem rec_facts {cost cash value : Bs} (h : [cost, cash, value].any (fun a => checkI a != 0) = false) (h2 : [cost, cash, value].any (fun a => decide (valI a < 0)) = false) : checkI cost = 0 ∧ checkI cash = 0 ∧ checkI value = 0 ∧ 0 ≤ valI cost ∧ 0 ≤ valI cash ∧ 0 ≤ valI value := by
  simp only [List.any_cons, List.any_nil, Bool.or_false, Bool.or_eq_false_iff, bne_eq_false_iff_eq, decide_eq_false_iff_not] at h h2
  exact ⟨h.1, h.2.1, h.2.2, by omega, by omega, by omega⟩
set_option maxRecDepth 100000 in
set_option maxHeartbeats 4000000 in
theorem mgRecognized (cost cash value : Bs) (h1 : cost.length ≤ 1000) (h2 : cash.length ≤ 1000) (h3 : value.length ≤ 1000) :
    Pure 18 #[.string (bs cost), .string (bs cash), .string (bs value)] (.tuple #[.string (bs (recV cost cash value).1), .string (bs (recV cost cash value).2.1), .int .i64 (recV cost cash value).2.2]) := by
  intro w hE
  have HE := Lib.hid hE
  have HB := Lib.hid (Blk.new w 24 #[.string (bs cost), .string (bs cash), .string (bs value)])
  have HX : Hid (Ext w (w.alloc (.cells #[.string (bs cost), .string (bs cash), .string (bs value)] 24))) := Lib.hid (Ext.new _ _)
  have hr : ∀ W, Blk W w.heap.size 24 #[.string (bs cost), .string (bs cash), .string (bs value)] → RdS W (some ⟨w.heap.size, 0, none⟩) [cost, cash, value] := fun W h => listS h
  have hm : ∀ a ∈ [cost, cash, value], a.length ≤ 90000 := by
    intro a ha
    simp only [List.mem_cons, List.not_mem_nil, or_false] at ha
    rcases ha with rfl | rfl | rfl <;> omega
  have K1 := Lib.hid (fun W hx h => contFuncI 71 #[] (fun _ _ => by rfl) (fun a => checkI a != 0) [cost, cash, value] (some ⟨w.heap.size, 0, none⟩) 3 W (hr W h) (by simp) (fun a ha V hv => mgRec1 a (hm a ha) V ((hE.ext hx).ext hv)))
  have K2 := Lib.hid (fun W hx h => contFuncI 73 #[] (fun _ _ => by rfl) (fun a => decide (valI a < 0)) [cost, cash, value] (some ⟨w.heap.size, 0, none⟩) 3 W (hr W h) (by simp) (fun a ha V hv => mgRec2 a (hm a ha) V ((hE.ext hx).ext hv)))
  have B1 := Lib.hid (@recV_bad cost cash value)
  have B2 := Lib.hid (@recV_low cost cash value)
  have B3 := Lib.hid (fun a b => And.intro (@recV_ok cost cash value a b) (mgRec cost cash value h1 h2 h3 (rec_facts a b).2.1 (rec_facts a b).2.2.2.2.1))
  clear hE hr hm h1 h2 h3
  generalize recV cost cash value = rv at *
  generalize [cost, cash, value].any (fun a => checkI a != 0) = b1 at *
  generalize [cost, cash, value].any (fun a => decide (valI a < 0)) = b2 at *
  simp only [List.length_cons, List.length_nil, Nat.zero_add, Nat.reduceAdd] at K1 K2
  go_enter Tryz.func18, Tryz.ntmps18
  go_wp2_with fail
  refine (K1.out _ HX.out HB.out).mono ?_
  rintro e v23 ⟨rfl, hx1⟩
  replace HB := Lib.hid (HB.out.ext hx1)
  replace HX := Lib.hid (HX.out.trans hx1)
  clear hx1
  cases b1
  rotate_left
  · have e := B1.out (by trivial)
    subst e
    go_wp2_with fail
    go_ret3
    exact ⟨rfl, HX.out⟩
  go_wp2_with fail
  refine (K2.out _ HX.out HB.out).mono ?_
  rintro e v24 ⟨rfl, hx1⟩
  replace HX := Lib.hid (HX.out.trans hx1)
  clear hx1
  cases b2
  rotate_left
  · have e := B2.out (by trivial) (by trivial)
    subst e
    go_wp2_with fail
    go_ret3
    exact ⟨rfl, HX.out⟩
  obtain ⟨e, hrec⟩ := B3.out (by trivial) (by trivial)
  have R := Lib.hid hrec
  subst e
  clear hrec K1 K2 B1 B2 B3
  go_wp2_with fail
  refine (R.out _ (HE.out.ext HX.out)).mono ?_
  rintro e v25 ⟨rfl, hx1⟩
  replace HX := Lib.hid (HX.out.trans hx1)
  clear hx1
  go_wp2_with fail
  go_ret3
  exact ⟨rfl, HX.out⟩
end Go.Proofs.YthgpheopnhajaaaGreatDoor

/- Options: how many digits numbers have, and why a number is not valid. -/
namespace Go.Proofs.YthgpheopnhajaaaGreatDoor
open Go.RowKit
attribute [local go_sem] size_bs toList_bs get_bs
/-- the number of digits -/
def digN (l : Bs) : Nat := (strip l).length
theorem dig_cases (l : Bs) : (∃ t, l = 45 :: t ∧ digN l = t.length) ∨ (digN l = l.length ∧ ∃ h0 : 0 < l.length, ((l[0].toNat : Int) == 45) = false) ∨ (l = [] ∧ digN l = 0) := by
  cases l with
  | nil => exact .inr (.inr ⟨rfl, rfl⟩)
  | cons c r =>
    by_cases h : c = 45
    · subst h; exact .inl ⟨r, rfl, rfl⟩
    · refine .inr (.inl ⟨by simp [digN, strip, isMin, h], by simp, ?_⟩)
      have := byte_ne (c := c) (d := 45) h
      simpa using this
set_option maxRecDepth 100000 in
set_option maxHeartbeats 1000000 in
theorem mgDigits (l : Bs) (hl : l.length ≤ 1000000) (w : World) : Calls Tryz.prog 102 #[.string (bs l)] w fun e w' => e = .returned (.int .i64 (digN l : Nat)) ∧ w = w' := by
  rcases dig_cases l with ⟨t, rfl, e⟩ | ⟨e, h0, h1⟩ | ⟨rfl, e⟩
  · have hl2 : t.length ≤ 1000000 := by simp only [List.length_cons] at hl; omega
    have hw : IntKind.i64.wrap ((t.length : Int)) = (t.length : Int) := IntWalk.i64_in _ (by omega)
    have hw2 : wrap64 ((t.length : Int)) = (t.length : Int) := by simp only [wrap64]; omega
    rw [e]
    go_enter Tryz.func102, Tryz.ntmps102
    go_wp2
    go_ret
    exact ⟨by first | rfl | (rw [hw2]; done) | (simp [hw2]; done) | (congr 1; simp; omega), rfl⟩
  all_goals
    rw [e]
    go_enter Tryz.func102, Tryz.ntmps102
    go_wp2
    go_ret
    exact ⟨by first | rfl | (simp; done) | (congr 1; simp; omega), rfl⟩
end Go.Proofs.YthgpheopnhajaaaGreatDoor

/- The reference's Check and Sign of fractions, Number, and number of an option. -/
namespace Go.Proofs.YthgpheopnhajaaaGreatDoor
open Go.RowKit
attribute [local go_sem] size_bs toList_bs
theorem frQ_nilN : frQ ⟨[], []⟩ = 0 := by
  have := frQ_ofQ 0
  rwa [ofQ_zero] at this
/-- why a number is not canonical, or too long; why it is no number of an option -/
def numA (f : Fr) : Int := if checkF f ≠ 0 then 1 else if 40 < digN f.num ∨ 40 < digN f.den then 4 else 0
def numE (f : Fr) : Int := if numA f ≠ 0 then numA f else if frQ f < 0 then 2 else 0
end Go.Proofs.YthgpheopnhajaaaGreatDoor

/- Options of exchanges: why one is not valid; the reference's Check. -/
namespace Go.Proofs.YthgpheopnhajaaaGreatDoor
open Go.RowKit
attribute [local go_sem] size_bs toList_bs
structure OptV where
  other : Bs
  r : Fr
  p : Fr
  v : Fr
abbrev ov (o : OptV) : Value := .agg #[.string (bs o.other), .string (bs o.r.num), .string (bs o.r.den), .string (bs o.p.num), .string (bs o.p.den), .string (bs o.v.num), .string (bs o.v.den)]
abbrev oc (o : OptV) : Array Value := #[.string (bs o.other), .string (bs o.r.num), .string (bs o.r.den), .string (bs o.p.num), .string (bs o.p.den), .string (bs o.v.num), .string (bs o.v.den)]
/-- an option that does not fit -/
def optBad (o : OptV) : Bool := if o.other = [] then !(o.r.num.isEmpty && o.r.den.isEmpty && o.v.num.isEmpty && o.v.den.isEmpty) else o.r.num.isEmpty && o.r.den.isEmpty
def optE (o : OptV) : Int :=
  if o.other ≠ [] ∧ isName o.other = false then 23 else if numE o.r ≠ 0 then numE o.r else if numE o.p ≠ 0 then numE o.p else if numE o.v ≠ 0 then numE o.v else if optBad o = true then 2 else 0
def OptSm (L : Nat) (o : OptV) : Prop := o.other.length ≤ L ∧ o.r.num.length ≤ L ∧ o.r.den.length ≤ L ∧ o.p.num.length ≤ L ∧ o.p.den.length ≤ L ∧ o.v.num.length ≤ L ∧ o.v.den.length ≤ L
theorem optBlk {w w' : World} {g : Nat} {o : OptV} (h : Blk w g 50 (oc o)) (hx : Ext w w') : w'.cell? ⟨g, 0, none⟩ = some (.string (bs o.other)) ∧ w'.cell? ⟨g, 1, none⟩ = some (.string (bs o.r.num)) ∧ w'.cell? ⟨g, 2, none⟩ = some (.string (bs o.r.den)) ∧ w'.cell? ⟨g, 3, none⟩ = some (.string (bs o.p.num)) ∧ w'.cell? ⟨g, 4, none⟩ = some (.string (bs o.p.den)) ∧ w'.cell? ⟨g, 5, none⟩ = some (.string (bs o.v.num)) ∧ w'.cell? ⟨g, 6, none⟩ = some (.string (bs o.v.den)) := by
  have k := h.ext hx
  have h0 := k.cell 0
  have h1 := k.cell 1
  have h2 := k.cell 2
  have h3 := k.cell 3
  have h4 := k.cell 4
  have h5 := k.cell 5
  have h6 := k.cell 6
  simp only [List.getElem?_toArray, List.getElem?_cons_zero, List.getElem?_cons_succ] at h0 h1 h2 h3 h4 h5 h6
  exact ⟨h0, h1, h2, h3, h4, h5, h6⟩
/-- what the last test of Check says -/
structure OptT (o : OptV) (e : Int) : Prop where
  n : o.other ≠ [] → isName o.other = false → e = 23
  r : (o.other = [] ∨ isName o.other = true) → numE o.r ≠ 0 → e = numE o.r
  p : (o.other = [] ∨ isName o.other = true) → numE o.r = 0 → numE o.p ≠ 0 → e = numE o.p
  v : (o.other = [] ∨ isName o.other = true) → numE o.r = 0 → numE o.p = 0 → numE o.v ≠ 0 → e = numE o.v
  b : (o.other = [] ∨ isName o.other = true) → numE o.r = 0 → numE o.p = 0 → numE o.v = 0 → optBad o = true → e = 2
  k : (o.other = [] ∨ isName o.other = true) → numE o.r = 0 → numE o.p = 0 → numE o.v = 0 → optBad o = false → e = 0
theorem optT (o : OptV) : OptT o (optE o) := by
  refine ⟨fun a b => ?_, fun a b => ?_, fun a b c => ?_, fun a b c d => ?_, fun a b c d e => ?_, fun a b c d e => ?_⟩
  · unfold optE; rw [if_pos ⟨a, b⟩]
  · unfold optE; rw [if_neg (by rintro ⟨k1, k2⟩; rcases a with a | a <;> simp_all), if_pos b]
  · unfold optE; rw [if_neg (by rintro ⟨k1, k2⟩; rcases a with a | a <;> simp_all), if_neg (by simpa using b), if_pos c]
  · unfold optE; rw [if_neg (by rintro ⟨k1, k2⟩; rcases a with a | a <;> simp_all), if_neg (by simpa using b), if_neg (by simpa using c), if_pos d]
  · unfold optE; rw [if_neg (by rintro ⟨k1, k2⟩; rcases a with a | a <;> simp_all), if_neg (by simpa using b), if_neg (by simpa using c), if_neg (by simpa using d), if_pos e]
  · unfold optE; rw [if_neg (by rintro ⟨k1, k2⟩; rcases a with a | a <;> simp_all), if_neg (by simpa using b), if_neg (by simpa using c), if_neg (by simpa using d), if_neg (by rw [e]; decide)]
end Go.Proofs.YthgpheopnhajaaaGreatDoor


