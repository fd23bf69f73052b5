/- The seat's texts, part 7. -/
import Derived.Test.YteeampgbmpolfaaGreatDoorZ6
import Derived.Lib.ParseIntB
import Derived.Deep.RegionLaw
import Derived.IntWalk
import Derived.BigQuiet
import Derived.Laws.MakeOwn
import Derived.Laws.IdiomCopy
import Derived.Deep.RegionHeld3
import Derived.Lib.AppendIntMem
import Derived.Laws.Runes

/- Plain: the values of numbers: decimal digits, groups of nine digits. No program in sight. -/
namespace Go.Proofs.YteeampgbmpolfaaGreatDoor
open Go.RowKit

theorem snocInd {α : Type} {P : List α → Prop} (h0 : P []) (h1 : ∀ l a, P l → P (l ++ [a])) (l : List α) : P l := by
  have key : ∀ q : List α, P q.reverse := by
    intro q; induction q with
    | nil => exact h0
    | cons a r ih => rw [List.reverse_cons]; exact h1 _ _ ih
  have := key l.reverse; rwa [List.reverse_reverse] at this
def dval (c : UInt8) : Nat := c.toNat - 48
/-- the value of digits -/
def natOf (l : Bs) : Nat := l.foldl (fun n c => 10 * n + dval c) 0
theorem natOf_nil : natOf [] = 0 := rfl
theorem natOf_snoc (l : Bs) (c : UInt8) : natOf (l ++ [c]) = 10 * natOf l + dval c := by simp [natOf]
theorem natOf_append (a b : Bs) : natOf (a ++ b) = natOf a * 10 ^ b.length + natOf b := by
  induction b using snocInd with
  | h0 => simp [natOf]
  | h1 b c ih =>
    rw [← List.append_assoc, natOf_snoc, ih, natOf_snoc, List.length_append, List.length_singleton, Nat.pow_succ]
    generalize 10 ^ b.length = q
    generalize natOf a = x
    generalize natOf b = y
    rw [Nat.mul_add, ← Nat.mul_assoc, Nat.mul_comm 10 x, Nat.mul_assoc x 10 q, Nat.mul_comm 10 q]; omega
theorem dval_lt {c : UInt8} (h : isD c = true) : dval c < 10 := by have := (isD_iff c).1 h; unfold dval; omega
theorem natOf_lt {l : Bs} (h : l.all isD = true) : natOf l < 10 ^ l.length := by
  induction l using snocInd with
  | h0 => simp [natOf]
  | h1 l c ih =>
    rw [List.all_append, Bool.and_eq_true] at h
    have h1 := ih h.1
    have h2 := dval_lt (c := c) (by simpa using h.2)
    rw [natOf_snoc, List.length_append, List.length_singleton, Nat.pow_succ]; omega
/-- the digits of a number, none for 0 -/
def dig10 (n : Nat) : Bs := if _h : n = 0 then [] else dig10 (n / 10) ++ [UInt8.ofNat (48 + n % 10)]
termination_by n
decreasing_by omega
theorem dig10_zero : dig10 0 = [] := by rw [dig10]; rfl
theorem dig10_pos {n : Nat} (h : n ≠ 0) : dig10 n = dig10 (n / 10) ++ [UInt8.ofNat (48 + n % 10)] := by rw [dig10, dif_neg h]
theorem dval_dig {n : Nat} (h : n < 10) : dval (UInt8.ofNat (48 + n)) = n := by
  unfold dval; rw [UInt8.toNat_ofNat_of_lt' (by show _ < 256; omega)]; omega
theorem natOf_dig10 (n : Nat) : natOf (dig10 n) = n := by
  induction n using Nat.strongRecOn with
  | ind n ih =>
    by_cases h : n = 0
    · subst h; rw [dig10_zero]; rfl
    · rw [dig10_pos h, natOf_snoc, ih (n / 10) (by omega), dval_dig (Nat.mod_lt _ (by decide))]; omega
theorem dig10_all (n : Nat) : (dig10 n).all isD = true := by
  induction n using Nat.strongRecOn with
  | ind n ih =>
    by_cases h : n = 0
    · subst h; rw [dig10_zero]; rfl
    · rw [dig10_pos h, List.all_append, ih (n / 10) (by omega)]
      simp only [List.all_cons, List.all_nil, Bool.and_true, Bool.true_and]
      exact (dig_of _ (Nat.mod_lt _ (by decide))).1
theorem dig10_ne {n : Nat} (h : n ≠ 0) : dig10 n ≠ [] := by rw [dig10_pos h]; simp
/-- no digit 0 ahead -/
def Lead (l : Bs) : Prop := ∀ c r, l = c :: r → c ≠ 48
theorem noZeros_lead (l : Bs) : Lead (noZeros l) := by
  induction l with
  | nil => intro c r h; cases h
  | cons x q ih =>
    by_cases hx : (x == 48) = true
    · have e : noZeros (x :: q) = noZeros q := by simp only [noZeros]; rw [if_pos hx]
      rw [e]; exact ih
    · have e : noZeros (x :: q) = x :: q := by simp only [noZeros]; rw [if_neg hx]
      rw [e]; intro c r h; injection h with h1 h2; subst h1; simpa using hx
theorem lead_noZeros {l : Bs} (h : Lead l) : noZeros l = l := by
  cases l with
  | nil => rfl
  | cons c r => simp only [noZeros]; rw [if_neg (by simpa using h c r rfl)]
theorem mag_lead (l : Bs) : Lead (mag l) := by
  show Lead (magT (strip l))
  unfold magT; split
  · exact noZeros_lead _
  · intro c r h; cases h
theorem mag_all (l : Bs) : (mag l).all isD = true := magT_all _
theorem lead_pos {c : UInt8} {r : Bs} (hd : (c :: r).all isD = true) (h : Lead (c :: r)) : 10 ^ r.length ≤ natOf (c :: r) := by
  have hc := h c r rfl
  have h1 : isD c = true := by simp only [List.all_cons, Bool.and_eq_true] at hd; exact hd.1
  have h2 := (isD_iff c).1 h1
  have h3 : 1 ≤ dval c := by
    unfold dval
    have : c.toNat ≠ 48 := fun e => hc (UInt8.toNat_inj.1 (by rw [e]; rfl))
    omega
  have e : natOf (c :: r) = natOf [c] * 10 ^ r.length + natOf r := natOf_append [c] r
  have e2 : natOf [c] = dval c := by simp [natOf]
  rw [e, e2]
  have : 1 * 10 ^ r.length ≤ dval c * 10 ^ r.length := Nat.mul_le_mul_right _ h3
  omega
theorem natOf_zero {l : Bs} (hd : l.all isD = true) (h : Lead l) : natOf l = 0 ↔ l = [] := by
  constructor
  · intro h0
    cases l with
    | nil => rfl
    | cons c r =>
      have := lead_pos hd h
      have hp : 0 < 10 ^ r.length := Nat.pow_pos (by decide)
      omega
  · rintro rfl; rfl
theorem lead_init {l : Bs} {c : UInt8} (h : Lead (l ++ [c])) (hl : l ≠ []) : Lead l := by
  intro x r e; subst e; exact h x (r ++ [c]) rfl
theorem dig10_natOf {l : Bs} (hd : l.all isD = true) (h : Lead l) : dig10 (natOf l) = l := by
  induction l using snocInd with
  | h0 => rw [natOf_nil, dig10_zero]
  | h1 l c ih =>
    have hd' := hd
    rw [List.all_append, Bool.and_eq_true] at hd
    have hc : isD c = true := by simpa using hd.2
    have hc2 := dval_lt hc
    have hz : natOf (l ++ [c]) ≠ 0 := by
      rw [Ne, natOf_zero hd' h]; simp
    have e : UInt8.ofNat (48 + dval c) = c := by
      have := (isD_iff c).1 hc
      apply UInt8.toNat_inj.1
      rw [UInt8.toNat_ofNat_of_lt' (by show _ < 256; unfold dval; omega)]; unfold dval; omega
    rw [dig10_pos hz, natOf_snoc, show (10 * natOf l + dval c) / 10 = natOf l by omega, show (10 * natOf l + dval c) % 10 = dval c by omega, e]
    congr 1
    by_cases hl : l = []
    · subst hl; rw [natOf_nil, dig10_zero]
    · exact ih hd.1 (lead_init h hl)
/-- the value of a string -/
def valI (l : Bs) : Int := if neg l then -(natOf (mag l) : Int) else natOf (mag l)
/-- the canonical string of a value -/
def ofI (z : Int) : Bs := if z < 0 then 45 :: dig10 z.natAbs else dig10 z.natAbs
theorem neg_mag {l : Bs} (h : neg l = true) : natOf (mag l) ≠ 0 := by
  rw [Ne, natOf_zero (mag_all l) (mag_lead l)]
  intro e
  have : neg l = (isMin l && !(mag l).isEmpty) := rfl
  rw [this, e] at h; simp at h
theorem canon_ofI (l : Bs) : canon l = ofI (valI l) := by
  unfold canon ofI valI
  by_cases h : neg l = true
  · have h0 := neg_mag h
    rw [if_pos h, if_pos h, if_pos (by omega), show (-(natOf (mag l) : Int)).natAbs = natOf (mag l) by omega, dig10_natOf (mag_all l) (mag_lead l)]
  · rw [if_neg h, if_neg h, if_neg (by omega), show ((natOf (mag l) : Int)).natAbs = natOf (mag l) by omega, dig10_natOf (mag_all l) (mag_lead l)]

/-- groups of nine digits, the lowest one first -/
def B9 : Nat := 1000000000
def gr (n : Nat) : List Nat := if _h : n = 0 then [] else (n % B9) :: gr (n / B9)
termination_by n
decreasing_by exact Nat.div_lt_self (by omega) (by decide)
theorem gr_zero : gr 0 = [] := by rw [gr]; rfl
theorem gr_pos {n : Nat} (h : n ≠ 0) : gr n = (n % B9) :: gr (n / B9) := by rw [gr, dif_neg h]
def gval : List Nat → Nat | [] => 0 | g :: r => g + B9 * gval r
theorem gval_gr (n : Nat) : gval (gr n) = n := by
  induction n using Nat.strongRecOn with
  | ind n ih =>
    by_cases h : n = 0
    · subst h; rw [gr_zero]; rfl
    · rw [gr_pos h]; unfold gval; rw [ih (n / B9) (Nat.div_lt_self (by omega) (by decide))]; exact Nat.mod_add_div n B9
theorem gr_lt (n : Nat) : ∀ g ∈ gr n, g < B9 := by
  induction n using Nat.strongRecOn with
  | ind n ih =>
    by_cases h : n = 0
    · subst h; rw [gr_zero]; simp
    · rw [gr_pos h]; intro g hg
      rcases List.mem_cons.1 hg with rfl | hg
      · exact Nat.mod_lt _ (by decide)
      · exact ih (n / B9) (Nat.div_lt_self (by omega) (by decide)) g hg
/-- groups without zeros at the end -/
def Top (l : List Nat) : Prop := ∀ r g, l = r ++ [g] → g ≠ 0
theorem gr_gval {l : List Nat} (hb : ∀ g ∈ l, g < B9) (ht : Top l) : gr (gval l) = l := by
  induction l with
  | nil => exact gr_zero
  | cons g r ih =>
    have hg := hb g (by simp)
    have hne : gval (g :: r) ≠ 0 := by
      intro e
      have : ∀ (q : List Nat), gval q = 0 → ∀ x ∈ q, x = 0 := by
        intro q; induction q with
        | nil => intro _ x hx; cases hx
        | cons y s ihs =>
          intro h x hx
          have h1 : y = 0 := by unfold gval at h; omega
          have h2 : gval s = 0 := by
            unfold gval at h
            have : B9 * gval s = 0 := by omega
            rcases Nat.mul_eq_zero.1 this with h | h
            · exact absurd h (by decide)
            · exact h
          rcases List.mem_cons.1 hx with rfl | hx
          · exact h1
          · exact ihs h2 x hx
      have hall := this _ e
      obtain ⟨q, x, hq⟩ : ∃ q x, g :: r = q ++ [x] := by
        rcases List.eq_nil_or_concat (g :: r) with h | ⟨q, x, h⟩
        · cases h
        · exact ⟨q, x, by simpa using h⟩
      exact ht q x hq (hall x (by rw [hq]; simp))
    rw [gr_pos hne]
    have eg : gval (g :: r) = g + B9 * gval r := rfl
    have e1 : gval (g :: r) % B9 = g := by rw [eg]; rw [Nat.add_mul_mod_self_left]; exact Nat.mod_eq_of_lt hg
    have e2 : gval (g :: r) / B9 = gval r := by rw [eg]; rw [Nat.add_mul_div_left _ _ (by decide), Nat.div_eq_of_lt hg, Nat.zero_add]
    rw [e1, e2, ih (fun x hx => hb x (by simp [hx])) (fun q x hq => ht (g :: q) x (by rw [hq]; rfl))]
theorem gr_top (n : Nat) : Top (gr n) := by
  induction n using Nat.strongRecOn with
  | ind n ih =>
    by_cases h : n = 0
    · subst h; rw [gr_zero]; intro r g e; simp at e
    · rw [gr_pos h]; intro r g e
      cases r with
      | nil =>
        simp only [List.nil_append, List.cons.injEq] at e
        have hz : n / B9 = 0 := by
          by_cases h0 : n / B9 = 0
          · exact h0
          · rw [gr_pos h0] at e; cases e.2
        have := Nat.mod_add_div n B9
        rw [hz] at this; rw [← e.1]; omega
      | cons y q =>
        simp only [List.cons_append, List.cons.injEq] at e
        exact ih (n / B9) (Nat.div_lt_self (by omega) (by decide)) q g e.2
end Go.Proofs.YteeampgbmpolfaaGreatDoor

/- Plain: sums, differences and order of numbers in groups of nine digits. No program in sight. -/
namespace Go.Proofs.YteeampgbmpolfaaGreatDoor
open Go.RowKit

/-- the k-th group, 0 beyond the end -/
def at0 (l : List Nat) (k : Nat) : Nat := l.getD k 0
theorem at0_lt {l : List Nat} {k : Nat} (h : k < l.length) : at0 l k = l[k] := by simp [at0, h]
theorem at0_ge {l : List Nat} {k : Nat} (h : l.length ≤ k) : at0 l k = 0 := by simp [at0, List.getElem?_eq_none h]
theorem at0_bd {l : List Nat} (hb : ∀ g ∈ l, g < B9) (k : Nat) : at0 l k < B9 := by
  rcases Nat.lt_or_ge k l.length with h | h
  · rw [at0_lt h]; exact hb _ (List.getElem_mem h)
  · rw [at0_ge h]; decide
def gsum (f : Nat → Nat) : Nat → Nat | 0 => 0 | L + 1 => gsum f L + f L * B9 ^ L
theorem gsum_shift (f : Nat → Nat) (L : Nat) : gsum f (L + 1) = f 0 + B9 * gsum (fun k => f (k + 1)) L := by
  induction L with
  | zero => simp [gsum]
  | succ L ih =>
    rw [show gsum f (L + 1 + 1) = gsum f (L + 1) + f (L + 1) * B9 ^ (L + 1) from rfl, ih, show gsum (fun k => f (k + 1)) (L + 1) = gsum (fun k => f (k + 1)) L + f (L + 1) * B9 ^ L from rfl, Nat.mul_add, Nat.pow_succ, Nat.add_assoc]
    congr 2
    rw [← Nat.mul_assoc, Nat.mul_comm (f (L + 1) * B9 ^ L) B9]
theorem gval_gsum : ∀ (l : List Nat) (L : Nat), l.length ≤ L → gval l = gsum (at0 l) L
  | [], L, _ => by
    have : ∀ L, gsum (at0 []) L = 0 := by
      intro L; induction L with
      | zero => rfl
      | succ L ih => unfold gsum; rw [ih, at0_ge (by simp)]; simp
    rw [this]; rfl
  | g :: r, 0, h => by simp at h
  | g :: r, L + 1, h => by
    rw [gsum_shift]
    have e : (fun k => at0 (g :: r) (k + 1)) = at0 r := by funext k; simp [at0]
    rw [e, ← gval_gsum r L (by simpa using h)]; rfl
theorem gsum_congr {f g : Nat → Nat} {L : Nat} (h : ∀ k, k < L → f k = g k) : gsum f L = gsum g L := by
  induction L with
  | zero => rfl
  | succ L ih => unfold gsum; rw [ih (fun k hk => h k (by omega)), h L (by omega)]
theorem gsum_lt {f : Nat → Nat} (hb : ∀ k, f k < B9) (L : Nat) : gsum f L < B9 ^ L := by
  induction L with
  | zero => simp [gsum]
  | succ L ih =>
    unfold gsum; rw [Nat.pow_succ]
    have h1 : f L * B9 ^ L ≤ (B9 - 1) * B9 ^ L := Nat.mul_le_mul_right _ (by have := hb L; omega)
    generalize B9 ^ L = q at *
    have h2 : q * B9 = q + (B9 - 1) * q := by
      have e : B9 = 1000000000 := rfl
      rw [e]; omega
    omega
/-- a list told by its groups -/
theorem gval_range (f : Nat → Nat) (L : Nat) : gval ((List.range L).map f) = gsum f L := by
  rw [gval_gsum _ L (by simp)]
  apply gsum_congr; intro k hk
  rw [at0_lt (by simpa using hk)]; simp

/-- the carry into the k-th group of a sum, and the group -/
def cy (a b : Nat → Nat) : Nat → Nat | 0 => 0 | k + 1 => (a k + b k + cy a b k) / B9
def pl (a b : Nat → Nat) (k : Nat) : Nat := (a k + b k + cy a b k) % B9
theorem pl_lt (a b : Nat → Nat) (k : Nat) : pl a b k < B9 := Nat.mod_lt _ (by decide)
theorem cy_le {a b : Nat → Nat} (ha : ∀ k, a k < B9) (hb : ∀ k, b k < B9) (k : Nat) : cy a b k ≤ 1 := by
  induction k with
  | zero => simp [cy]
  | succ k ih =>
    unfold cy
    have h1 := ha k; have h2 := hb k
    have e : B9 = 1000000000 := rfl
    rw [e] at h1 h2 ⊢; omega
theorem plus_sum (a b : Nat → Nat) (L : Nat) : gsum (pl a b) L + cy a b L * B9 ^ L = gsum a L + gsum b L := by
  induction L with
  | zero => simp [gsum, cy]
  | succ L ih =>
    have e1 : gsum (pl a b) (L + 1) = gsum (pl a b) L + pl a b L * B9 ^ L := rfl
    have e2 : gsum a (L + 1) = gsum a L + a L * B9 ^ L := rfl
    have e3 : gsum b (L + 1) = gsum b L + b L * B9 ^ L := rfl
    have e4 : cy a b (L + 1) = (a L + b L + cy a b L) / B9 := rfl
    have e5 : pl a b L = (a L + b L + cy a b L) % B9 := rfl
    have h := Nat.mod_add_div (a L + b L + cy a b L) B9
    rw [← e4, ← e5] at h
    rw [e1, e2, e3, Nat.pow_succ]
    generalize cy a b (L + 1) = c' at *
    generalize cy a b L = c at *
    generalize pl a b L = p at *
    generalize B9 ^ L = q at *
    have h2 : (p + B9 * c') * q = (a L + b L + c) * q := by rw [h]
    rw [Nat.add_mul, Nat.add_mul, Nat.add_mul] at h2
    have h3 : B9 * c' * q = c' * (q * B9) := by rw [Nat.mul_comm B9 c', Nat.mul_assoc, Nat.mul_comm B9 q]
    rw [h3] at h2
    omega
/-- what is borrowed from the k-th group of a difference, and the group -/
def bw (a b : Nat → Nat) : Nat → Nat | 0 => 0 | k + 1 => if a k < b k + bw a b k then 1 else 0
def mi (a b : Nat → Nat) (k : Nat) : Nat := if a k < b k + bw a b k then a k + B9 - (b k + bw a b k) else a k - (b k + bw a b k)
theorem bw_le (a b : Nat → Nat) (k : Nat) : bw a b k ≤ 1 := by
  cases k with
  | zero => simp [bw]
  | succ k => unfold bw; split <;> omega
theorem mi_lt {a b : Nat → Nat} (ha : ∀ k, a k < B9) (hb : ∀ k, b k < B9) (k : Nat) : mi a b k < B9 := by
  have h1 := ha k; have h2 := hb k; have h3 := bw_le a b k
  unfold mi; split <;> omega
theorem minus_sum {a b : Nat → Nat} (ha : ∀ k, a k < B9) (hb : ∀ k, b k < B9) (L : Nat) : gsum (mi a b) L + gsum b L = gsum a L + bw a b L * B9 ^ L := by
  induction L with
  | zero => simp [gsum, bw]
  | succ L ih =>
    have e1 : gsum (mi a b) (L + 1) = gsum (mi a b) L + mi a b L * B9 ^ L := rfl
    have e2 : gsum a (L + 1) = gsum a L + a L * B9 ^ L := rfl
    have e3 : gsum b (L + 1) = gsum b L + b L * B9 ^ L := rfl
    have h1 := ha L; have h2 := hb L; have h3 := bw_le a b L
    have key : mi a b L + (b L + bw a b L) = a L + bw a b (L + 1) * B9 := by
      have e4 : bw a b (L + 1) = if a L < b L + bw a b L then 1 else 0 := rfl
      rw [e4]; unfold mi
      split
      · omega
      · omega
    rw [e1, e2, e3, Nat.pow_succ]
    generalize bw a b (L + 1) = c' at *
    generalize bw a b L = c at *
    generalize mi a b L = p at *
    generalize B9 ^ L = q at *
    have h4 : (p + (b L + c)) * q = (a L + c' * B9) * q := by rw [key]
    rw [Nat.add_mul, Nat.add_mul, Nat.add_mul] at h4
    have h5 : c' * B9 * q = c' * (q * B9) := by rw [Nat.mul_assoc, Nat.mul_comm B9 q]
    rw [h5] at h4
    omega
theorem bw_zero {a b : Nat → Nat} (ha : ∀ k, a k < B9) (hb : ∀ k, b k < B9) {L : Nat} (h : gsum b L ≤ gsum a L) : bw a b L = 0 := by
  have h1 := minus_sum ha hb L
  have h2 := gsum_lt (mi_lt ha hb) L
  have h3 := bw_le a b L
  rcases Nat.eq_zero_or_pos (bw a b L) with h0 | h0
  · exact h0
  · have : bw a b L = 1 := by omega
    rw [this, Nat.one_mul] at h1; omega
theorem minus_val {a b : Nat → Nat} (ha : ∀ k, a k < B9) (hb : ∀ k, b k < B9) {L : Nat} (h : gsum b L ≤ gsum a L) : gsum (mi a b) L = gsum a L - gsum b L := by
  have h1 := minus_sum ha hb L
  rw [bw_zero ha hb h] at h1; omega
/-- the highest group that differs decides -/
theorem gsum_less {a b : Nat → Nat} (ha : ∀ k, a k < B9) (k : Nat) (h : a k < b k) : ∀ (L : Nat), k < L → (∀ j, k < j → j < L → a j = b j) → gsum a L < gsum b L
  | 0, hk, _ => by omega
  | L + 1, hk, he => by
    unfold gsum
    rcases Nat.lt_or_ge k L with h1 | h1
    · have := gsum_less ha k h L h1 (fun j hj hl => he j hj (by omega))
      rw [he L h1 (by omega)]; omega
    · obtain rfl : k = L := by omega
      have h2 := gsum_lt ha k
      have h3 : (a k + 1) * B9 ^ k ≤ b k * B9 ^ k := Nat.mul_le_mul_right _ h
      rw [Nat.add_mul, Nat.one_mul] at h3
      omega
/-- without the zeros at the end -/
def cutL (l : List Nat) : List Nat := (l.reverse.dropWhile (· == 0)).reverse
theorem cutL_snoc_zero (l : List Nat) : cutL (l ++ [0]) = cutL l := by simp [cutL]
theorem cutL_snoc (l : List Nat) {g : Nat} (h : g ≠ 0) : cutL (l ++ [g]) = l ++ [g] := by simp [cutL, h]
theorem gval_snoc (l : List Nat) (g : Nat) : gval (l ++ [g]) = gval l + g * B9 ^ l.length := by
  induction l with
  | nil => simp [gval]
  | cons a r ih =>
    have e1 : gval ((a :: r) ++ [g]) = a + B9 * gval (r ++ [g]) := rfl
    have e2 : gval (a :: r) = a + B9 * gval r := rfl
    rw [e1, e2, ih, Nat.mul_add, List.length_cons, Nat.pow_succ, Nat.add_assoc]
    congr 2
    rw [Nat.mul_left_comm, Nat.mul_comm (B9 ^ r.length) B9]
theorem cutL_gr {l : List Nat} (hb : ∀ g ∈ l, g < B9) : cutL l = gr (gval l) := by
  induction l using snocInd with
  | h0 => rw [show gval [] = 0 from rfl, gr_zero]; rfl
  | h1 l g ih =>
    by_cases h : g = 0
    · subst h
      rw [cutL_snoc_zero, gval_snoc, Nat.zero_mul, Nat.add_zero]
      exact ih (fun x hx => hb x (by simp [hx]))
    · rw [cutL_snoc l h, gr_gval hb]
      intro r x e
      have := List.append_inj' e rfl
      simp at this; rw [← this.2]; exact h
theorem gr_len_le {n L : Nat} (h : n < B9 ^ L) : (gr n).length ≤ L := by
  induction L generalizing n with
  | zero => have : n = 0 := by simpa using h
            subst this; rw [gr_zero]; simp
  | succ L ih =>
    by_cases h0 : n = 0
    · subst h0; rw [gr_zero]; simp
    · rw [gr_pos h0, List.length_cons]
      have : n / B9 < B9 ^ L := by
        rw [Nat.div_lt_iff_lt_mul (by decide)]; rw [Nat.pow_succ] at h; exact h
      have := ih this; omega
end Go.Proofs.YteeampgbmpolfaaGreatDoor

/- Plain: a number read in groups of nine digits. No program in sight. -/
namespace Go.Proofs.YteeampgbmpolfaaGreatDoor
open Go.RowKit

/-- the groups of a text of digits, the lowest one first -/
def groupsOf (s : Bs) : List Nat := if h : s = [] then [] else natOf (s.drop (s.length - 9)) :: groupsOf (s.take (s.length - 9))
termination_by s.length
decreasing_by
  have : 0 < s.length := List.length_pos_iff.2 h
  rw [List.length_take]; omega
theorem groupsOf_nil : groupsOf [] = [] := by rw [groupsOf]; rfl
theorem groupsOf_pos {s : Bs} (h : s ≠ []) : groupsOf s = natOf (s.drop (s.length - 9)) :: groupsOf (s.take (s.length - 9)) := by rw [groupsOf, dif_neg h]
theorem groupsOf_len (s : Bs) : (groupsOf s).length ≤ s.length := by
  induction hn : s.length using Nat.strongRecOn generalizing s with
  | ind n ih =>
    subst hn
    by_cases h : s = []
    · subst h; rw [groupsOf_nil]; simp
    · have hp : 0 < s.length := List.length_pos_iff.2 h
      have := ih (s.take (s.length - 9)).length (by rw [List.length_take]; omega) (s.take (s.length - 9)) rfl
      rw [List.length_take] at this
      rw [groupsOf_pos h, List.length_cons]; omega
theorem lead_take {s : Bs} (h : Lead s) (n : Nat) : Lead (s.take n) := by
  intro c r e
  cases s with
  | nil => simp at e
  | cons x q =>
    cases n with
    | zero => simp at e
    | succ n => rw [List.take_succ_cons] at e; injection e with e1 e2; subst e1; exact h x q rfl
theorem all_take {s : Bs} (h : s.all isD = true) (n : Nat) : (s.take n).all isD = true := by
  rw [List.all_eq_true] at h ⊢; exact fun x hx => h x (List.mem_of_mem_take hx)
theorem all_drop {s : Bs} (h : s.all isD = true) (n : Nat) : (s.drop n).all isD = true := by
  rw [List.all_eq_true] at h ⊢; exact fun x hx => h x (List.mem_of_mem_drop hx)
theorem last9_lt {s : Bs} (h : s.all isD = true) : natOf (s.drop (s.length - 9)) < B9 := by
  have h1 := natOf_lt (all_drop h (s.length - 9))
  have h2 : (s.drop (s.length - 9)).length ≤ 9 := by rw [List.length_drop]; omega
  have h3 : 10 ^ (s.drop (s.length - 9)).length ≤ 10 ^ 9 := Nat.pow_le_pow_right (by decide) h2
  exact Nat.lt_of_lt_of_le h1 h3
theorem natOf_split (s : Bs) : natOf s = natOf (s.take (s.length - 9)) * B9 + natOf (s.drop (s.length - 9)) := by
  conv => lhs; rw [← List.take_append_drop (s.length - 9) s, natOf_append]
  by_cases h : 9 ≤ s.length
  · rw [show (s.drop (s.length - 9)).length = 9 by rw [List.length_drop]; omega]; rfl
  · rw [show s.length - 9 = 0 by omega, List.take_zero, natOf_nil]; simp
theorem groupsOf_gr (s : Bs) (hd : s.all isD = true) (hl : Lead s) : groupsOf s = gr (natOf s) := by
  induction hn : s.length using Nat.strongRecOn generalizing s with
  | ind n ih =>
    subst hn
    by_cases h : s = []
    · subst h; rw [groupsOf_nil, natOf_nil, gr_zero]
    · have hp : 0 < s.length := List.length_pos_iff.2 h
      have hz : natOf s ≠ 0 := fun e => h ((natOf_zero hd hl).1 e)
      have h9 := last9_lt hd
      have hs := natOf_split s
      rw [groupsOf_pos h, gr_pos hz, ih _ (by rw [List.length_take]; omega) (s.take (s.length - 9)) (all_take hd _) (lead_take hl _) rfl]
      congr 1
      · rw [hs, Nat.add_comm, Nat.add_mul_mod_self_right, Nat.mod_eq_of_lt h9]
      · rw [hs, Nat.add_comm, Nat.add_mul_div_right _ _ (by decide), Nat.div_eq_of_lt h9, Nat.zero_add]
/-- the state of the loop that reads: what is read, and how many digits are left -/
theorem groups_step {s : Bs} {e : Nat} (h0 : 0 < e) (he : e ≤ s.length) : groupsOf (s.take e) = natOf ((s.take e).drop (e - 9)) :: groupsOf (s.take (e - 9)) := by
  have hl : (s.take e).length = e := by rw [List.length_take]; omega
  have hne : s.take e ≠ [] := by intro h; rw [h] at hl; simp at hl; omega
  rw [groupsOf_pos hne, hl, List.take_take, Nat.min_eq_left (by omega)]
theorem parse_small (l : Bs) (hd : l.all isD = true) (h0 : l ≠ []) (hl : l.length ≤ 9) : Lib.parseUintB 64 l = .ok (natOf l) := by
  have key : ∀ (l : Bs) (acc : Nat), l.all isD = true → acc * 10 ^ l.length + 10 ^ l.length ≤ 1000000000 → Lib.parseUintM (2 ^ 64 - 1) acc l = .ok (acc * 10 ^ l.length + natOf l) := by
    intro l; induction l with
    | nil => intro acc _ _; simp [Lib.parseUintM, natOf]
    | cons c r ih =>
      intro acc hd hb
      simp only [List.all_cons, Bool.and_eq_true] at hd
      have hc := (isD_iff c).1 hd.1
      rw [List.length_cons, Nat.pow_succ] at hb
      have hp : 1 ≤ 10 ^ r.length := Nat.pow_pos (by decide)
      have hb2 : (acc * 10 + (c.toNat - 48)) * 10 ^ r.length + 10 ^ r.length ≤ 1000000000 := by
        have h1 : (c.toNat - 48 + 1) * 10 ^ r.length ≤ 10 * 10 ^ r.length := Nat.mul_le_mul_right _ (by omega)
        rw [Nat.add_mul, Nat.one_mul] at h1
        rw [Nat.add_mul, Nat.mul_assoc]
        rw [Nat.mul_comm (10 ^ r.length) 10] at hb
        generalize 10 ^ r.length = q at *
        generalize acc * (10 * q) = u at *
        generalize (c.toNat - 48) * q = v at *
        omega
      have ha : acc ≤ 1000000000 := by
        have : acc * 1 ≤ acc * (10 ^ r.length * 10) := Nat.mul_le_mul_left _ (by omega)
        omega
      have e : natOf (c :: r) = (c.toNat - 48) * 10 ^ r.length + natOf r := by
        have := natOf_append [c] r
        rw [show natOf [c] = c.toNat - 48 by simp [natOf, dval]] at this
        exact this
      unfold Lib.parseUintM
      rw [if_pos hc, if_neg (by omega), if_neg (by omega), ih _ hd.2 hb2, e, List.length_cons, Nat.pow_succ]
      congr 1
      rw [Nat.add_mul, Nat.mul_assoc, Nat.mul_comm 10 (10 ^ r.length)]; omega
  unfold Lib.parseUintB
  rw [if_neg h0, key l 0 hd (by
    have : 10 ^ l.length ≤ 10 ^ 9 := Nat.pow_le_pow_right (by decide) hl
    omega)]
  simp
end Go.Proofs.YteeampgbmpolfaaGreatDoor

/- Plain: cutting and comparing groups. No program in sight. -/
namespace Go.Proofs.YteeampgbmpolfaaGreatDoor
open Go.RowKit
theorem cutL_nil : cutL [] = [] := rfl
theorem cutL_prefix (l : List Nat) : cutL l = l.take (cutL l).length := by
  induction l using snocInd with
  | h0 => rfl
  | h1 l g ih =>
    by_cases h : g = 0
    · subst h
      rw [cutL_snoc_zero]
      have hle : (cutL l).length ≤ l.length := by rw [ih, List.length_take]; omega
      rw [List.take_append_of_le_length hle]; exact ih
    · rw [cutL_snoc l h, List.take_length]
theorem cutL_le (l : List Nat) : (cutL l).length ≤ l.length := by
  have := congrArg List.length (cutL_prefix l); rw [List.length_take] at this; omega
theorem cutL_gr_self (n : Nat) : cutL (gr n) = gr n := by rw [cutL_gr (gr_lt n), gval_gr]
theorem gr_pow {n : Nat} (h : n ≠ 0) : B9 ^ ((gr n).length - 1) ≤ n := by
  induction n using Nat.strongRecOn with
  | ind n ih =>
    rw [gr_pos h, List.length_cons, Nat.add_sub_cancel]
    by_cases h0 : n / B9 = 0
    · rw [h0, gr_zero]; simp; omega
    · have h1 := ih (n / B9) (Nat.div_lt_self (by omega) (by decide)) h0
      have hl : (gr (n / B9)).length = (gr (n / B9)).length - 1 + 1 := by
        rw [gr_pos h0, List.length_cons]; omega
      rw [hl, Nat.pow_succ]
      have h2 := Nat.mul_le_mul_right B9 h1
      have h3 := Nat.div_mul_le_self n B9
      omega
theorem gr_lt_pow (n : Nat) : n < B9 ^ (gr n).length := by
  have h := gsum_lt (at0_bd (gr_lt n)) (gr n).length
  rw [← gval_gsum _ _ (Nat.le_refl _), gval_gr] at h; exact h
theorem gr_shorter {x y : Nat} (h : (gr x).length < (gr y).length) : x < y := by
  have h0 : y ≠ 0 := by intro e; subst e; rw [gr_zero] at h; simp at h
  have h1 := gr_lt_pow x
  have h2 := gr_pow h0
  have h3 : B9 ^ (gr x).length ≤ B9 ^ ((gr y).length - 1) := Nat.pow_le_pow_right (by decide) (by omega)
  omega
theorem gr_inj {x y : Nat} (h : gr x = gr y) : x = y := by rw [← gval_gr x, h, gval_gr]
/-- the highest group that differs decides -/
theorem gr_less {x y k : Nat} (hl : (gr x).length = (gr y).length) (hk : k < (gr x).length) (hk' : k < (gr y).length) (he : ∀ (j : Nat) (h1 : j < (gr x).length) (h2 : j < (gr y).length), k < j → (gr x)[j] = (gr y)[j]) (h : (gr x)[k] < (gr y)[k]) : x < y := by
  have := gsum_less (a := at0 (gr x)) (b := at0 (gr y)) (at0_bd (gr_lt x)) k (by rw [at0_lt hk, at0_lt hk']; exact h) (gr x).length hk (fun j hj hjl => by rw [at0_lt hjl, at0_lt (by omega)]; exact he j hjl (by omega) hj)
  rw [← gval_gsum _ _ (Nat.le_refl _), ← gval_gsum _ _ (by omega), gval_gr, gval_gr] at this
  exact this
end Go.Proofs.YteeampgbmpolfaaGreatDoor

/- The walks over the program's integers: reading the groups of nine digits. -/
namespace Go.Proofs.YteeampgbmpolfaaGreatDoor
open Go.RowKit Go.Shelf
attribute [local go_sem] size_bs toList_bs extract_bs get_bs append_bs lit_append append_lit

def ucells (gs : List Nat) : List Value := gs.map fun g : Nat => Value.int .u64 (g : Int)
def RdU (w : World) (A : Option Addr) (gs : List Nat) : Prop := Reads w 1 A gs.length (ucells gs)
theorem RdU.ext {w w' : World} {A : Option Addr} {gs : List Nat} (h : RdU w A gs) (he : Ext w w') : RdU w' A gs := Reads.ext h he
theorem RdU.at_ {w : World} {A : Option Addr} {gs : List Nat} (h : RdU w A gs) {k : Nat} (hk : k < gs.length) :
    ∃ b o, A = some ⟨b, o, none⟩ ∧ b < w.heap.size ∧ w.cell? ⟨b, o + k, none⟩ = some (.int .u64 (gs[k]'hk)) := by
  obtain ⟨b, o, rfl, hb⟩ := Reads.at_ h (by omega)
  exact ⟨b, o, rfl, hb, Reads.cell h (by simp [ucells, hk])⟩
theorem u64Info : (Tryz.prog.info? 143).map (fun i => (i.zero, i.size, i.bytes)) = some (some (.int .u64 0), 1, 8) := by kernel_rfl
theorem parseU (l : Bs) (w : World) (hd : l.all isD = true) (h0 : l ≠ []) (hl : l.length ≤ 9) :
    Calls Tryz.prog 110 #[.string (bs l), .int .i64 10, .int .i64 64] w fun e w' => e = .returned (.tuple #[.int .u64 (natOf l), .nilIface]) ∧ Ext w w' := by
  refine (Tryz.strconv_ParseUint_10_at64_ok (bs l) (by rw [size_bs]; omega) (natOf l) (by rw [data_bs]; exact parse_small l hd h0 hl) w).mono ?_
  rintro e w' ⟨rfl, rfl | rfl⟩
  · exact ⟨rfl, Ext.refl _⟩
  · exact ⟨rfl, rfl, rfl, rfl, by rw [Lib.bytesWorld_size]; omega, fun k hk => Lib.bytesWorld_at_old w _ (bs l) k hk⟩
theorem results_num {fn : Func} {a : Tmp} (h : fn.results = #[.cell a 111]) (tmps : Array Value) (w : World) (g : Nat) (x y : Value) (ha : tmps.getD a undef = .pointer (some ⟨g, 0, none⟩)) (hb : Blk w g 111 #[x, y]) :
    (results fn tmps).run Tryz.prog w = .ok (.agg #[x, y]) w := by
  have h0 := hb.cell 0
  have h1 := hb.cell 1
  simp only [List.getElem?_toArray, List.getElem?_cons_zero, List.getElem?_cons_succ] at h0 h1
  unfold results
  rw [h]
  simp only [List.mapM_toArray, List.mapM_cons, List.mapM_nil, ha]
  go_simp
/-- a number: its sign, and its groups in memory -/
def NumEnds (neg : Bool) (gs : List Nat) (w : World) (e : Ending) (w' : World) : Prop :=
  ∃ A c, e = .returned (.agg #[.bool neg, .slice A gs.length c]) ∧ RdU w' A gs ∧ Ext w w' ∧ gs.length ≤ c ∧ c ≤ maxLen
theorem own_slice {w : World} {base : Nat} {e : TypeId} {size n : Nat} {v : Value} {xs : List Value} (h : w.ownsRow base e size v n xs) : ∃ A c, v = .slice A n c := by
  rcases h.2 with ⟨rfl, rfl⟩ | ⟨g, cap, cur, rfl, _⟩
  · exact ⟨none, 0, rfl⟩
  · exact ⟨_, _, rfl⟩
theorem own_cap {w : World} {base : Nat} {e : TypeId} {size n c : Nat} {A : Option Addr} {xs : List Value} (h : w.ownsRow base e size (.slice A n c) n xs) : n ≤ c ∧ c ≤ maxLen := by
  rcases h.2 with ⟨h1, h2⟩ | ⟨g, cap, cur, h1, _, _, h4, h5, _⟩
  · injection h1 with _ h3 h4; subst h3; subst h4; exact ⟨Nat.le_refl _, by unfold maxLen; omega⟩
  · injection h1 with _ _ h3; subst h3; exact ⟨h4, h5⟩
theorem own_ext2 {w w' : World} {base : Nat} {e : TypeId} {size n : Nat} {v : Value} {xs : List Value} (h : w.ownsRow base e size v n xs) (hx : Ext w w') : w'.ownsRow base e size v n xs := by
  rcases h.2 with ⟨h1, h2⟩ | ⟨g, cap, cur, h1, h2, h3, h4⟩
  · exact ⟨h.1, .inl ⟨h1, h2⟩⟩
  · have hlt : g < w.heap.size := (Array.getElem?_eq_some_iff.1 h3).1
    exact ⟨h.1, .inr ⟨g, cap, cur, h1, h2, (hx.block g hlt).trans h3, h4⟩⟩
theorem own_base {w : World} {base : Nat} {e : TypeId} {size n : Nat} {v : Value} {xs : List Value} (h : w.ownsRow base e size v n xs) : ∀ k, v.ownBlock = some k → base ≤ k := by
  rcases h.2 with ⟨rfl, _⟩ | ⟨g, cap, cur, rfl, h2, _⟩
  · intro k hk; cases hk
  · intro k hk; injection hk with hk; subst hk; exact h2
theorem Ext.grown {a w w' : World} {row : Option Nat} (h : Ext a w) (hg : w.grownBy w' row) (hr : ∀ k, row = some k → a.heap.size ≤ k) : Ext a w' :=
  ⟨hg.os.trans h.os, hg.tape.trans h.tape, hg.output.trans h.output, Nat.le_trans h.size hg.size, fun i hi => (hg.block i (Nat.lt_of_lt_of_le hi h.size) (fun e => by have := hr i e.symm; omega)).trans (h.block i hi)⟩
/-- how the loop of read stands -/
def ReadAt (m : Bs) (N : Nat) (w : World) (v z : Value) (wr : World) : Prop :=
  ∃ (y : Int) (done : List Nat), z = .int .i64 y ∧ -9 < y ∧ y ≤ m.length ∧ wr.ownsRow (w.heap.size + 1) 143 1 v done.length (ucells done) ∧ done ++ groupsOf (m.take y.toNat) = gr N ∧ Ext w wr ∧ Blk wr w.heap.size 111 #[.bool false, .slice none 0 0]
set_option maxRecDepth 100000 in
set_option maxHeartbeats 1000000 in
theorem intRead (l : Bs) (w : World) (hs : l.length ≤ 1000000) :
    Calls Tryz.prog 78 #[.string (bs l)] w (NumEnds (neg l) (gr (natOf (mag l))) w) := by
  obtain ⟨i0, hI, hz0, hz1, hz2⟩ := info_parts u64Info
  have hml := mag_le l
  have HG := Lib.hid (groupsOf_gr (mag l) (mag_all l) (mag_lead l))
  have HD := Lib.hid (mag_all l)
  have HGL : Hid ((gr (natOf (mag l))).length ≤ 1000000) := Lib.hid (by rw [← groupsOf_gr (mag l) (mag_all l) (mag_lead l)]; have := groupsOf_len (mag l); omega)
  have HI := Lib.hid hI
  have HS := Lib.hid (Nat.le_trans hml hs)
  have hls : l.length ≤ 1000000000 := by omega
  have HDIG := Lib.hid (fun w => intDigits l w hls)
  clear hI hml
  generalize hm : mag l = m at *
  generalize hN : natOf m = N at *
  generalize hng : neg l = ng at *
  clear hm hng hls hs hN
  go_enter Tryz.func78, Tryz.ntmps78
  go_wp2_with fail
  refine (HDIG.out _).mono ?_
  rintro e w1 ⟨rfl, hx1⟩
  have HBX := Lib.hid ((Blk.new w 111 #[.bool false, .slice none 0 0]).ext hx1)
  have HX1 := Lib.hid (Ext.of_alloc hx1)
  clear hx1 HDIG
  have hsm := HS.out
  go_wp2_with fail
  go_loopw [5, 6, 7, 8] (fun v z _ _ wr => ReadAt m N w v z wr) (fun _ z _ _ _ => (intOf z).toNat)
  case atStart => exact ⟨m.length, [], rfl, by omega, by omega, ⟨rfl, .inl ⟨rfl, rfl⟩⟩, by rw [Int.toNat_natCast, List.take_of_length_le (Nat.le_refl _), List.nil_append]; exact HG.out, HX1.out, HBX.out⟩
  case round =>
    obtain ⟨z, done, rfl, hz1', hz2', hown, hsum, hx, hbx⟩ := hrel
    have HOWN := Lib.hid hown
    have HSUM := Lib.hid hsum
    have HX := Lib.hid hx
    have HBXr := Lib.hid hbx
    clear hown hsum hx hbx
    by_cases hpos : 0 < z
    · obtain ⟨e, rfl⟩ : ∃ e : Nat, z = (e : Int) := ⟨z.toNat, by omega⟩
      have hel : e ≤ m.length := by omega
      have he0 : 0 < e := by omega
      have hck : ((m.take e).drop (e - 9)).length ≤ 9 := by rw [List.length_drop, List.length_take]; omega
      have HCK := Lib.hid hck
      have HCN : Hid ((m.take e).drop (e - 9) ≠ []) := Lib.hid (by intro h; have := congrArg List.length h; rw [List.length_drop, List.length_take] at this; simp at this; omega)
      have HCD : Hid (((m.take e).drop (e - 9)).all isD = true) := Lib.hid (all_drop (all_take HD.out e) _)
      have HST := Lib.hid (groups_step he0 hel)
      have hcc : List.take (e - (e - 9)) (List.drop (e - 9) m) = (m.take e).drop (e - 9) := List.drop_take.symm
      have hcc2 : (e : Int) < 9 → List.take e m = (m.take e).drop (e - 9) := by intro h; rw [show e - 9 = 0 by omega, List.drop_zero]
      have HLN : Hid (done.length ≤ 1000000) := Lib.hid (by
        have h1 := congrArg List.length HSUM.out
        rw [List.length_append] at h1
        have h2 := HGL.out; omega)
      clear hck
      have HNX : Hid (∀ (x : Nat), natOf ((m.take e).drop (e - 9)) = x → done ++ [x] ++ groupsOf (m.take (e - 9)) = gr N) := Lib.hid (fun x hx => by
        rw [← HSUM.out, Int.toNat_natCast, HST.out, hx]; simp)
      generalize (m.take e).drop (e - 9) = ch at *
      by_cases h9 : 9 ≤ (e : Int)
      · have hmx : max (0 : Int) ((e : Int) - 9) = (e : Int) - 9 := by omega
        go_wp2_with fail
        refine (parseU ch _ HCD.out HCN.out HCK.out).mono ?_
        generalize hx0 : natOf ch = x at *
        rintro e' w2 ⟨rfl, hx2⟩
        have HX2 := Lib.hid (HX.out.trans hx2)
        have HOW2 := Lib.hid (own_ext2 HOWN.out hx2)
        have HBX2 := Lib.hid (HBXr.out.ext hx2)
        have hln := HLN.out
        clear hx2 hcc hcc2
        go_wp2_with (at_builtin; refine wpList_append_lies _ rfl (.tmp 30) (.tmp 32) 109 rfl (w.heap.size + 1) 143 i0 _ 1 8 Tryz.underlying109 HI.out hz0 hz1 hz2 rfl (by decide) _ done.length (ucells done) rfl (own_ext2 HOW2.out (Ext.new _ _)) ⟨w2.heap.size, 0, none⟩ 1 1 [.int .u64 x] rfl rfl (World.news_of_block (heap_alloc_new w2 _)) (by simp [Value.oneCell']) (by omega) (by simp only [maxLen]; omega) (by omega) (by have := HX2.out.size; have := HBX2.out.lt; simp; omega) _ rfl ?_; intro g' cap' w' hown hgrow hat hlt')
        refine ⟨⟨(e : Int) - 9, done ++ [x], rfl, by omega, by omega, by simpa [ucells] using hown, by rw [show ((e : Int) - 9).toNat = e - 9 by omega]; exact HNX.out x rfl, Ext.grown (HX2.out.trans (Ext.new _ _)) hgrow (fun k hk => by have := own_base HOW2.out k hk; omega), (hgrow.block w.heap.size (by have := HBX2.out.lt; simp; omega) (fun e => by have := own_base HOW2.out w.heap.size e.symm; omega)).trans (HBX2.out.alloc _)⟩, by simp [intOf]; omega⟩
      · have hmx : max (0 : Int) ((e : Int) - 9) = 0 := by omega
        have hcd := hcc2 (by omega)
        clear hcc hcc2
        go_wp2_with fail
        refine (parseU ch _ HCD.out HCN.out HCK.out).mono ?_
        generalize hx0 : natOf ch = x at *
        rintro e' w2 ⟨rfl, hx2⟩
        have HX2 := Lib.hid (HX.out.trans hx2)
        have HOW2 := Lib.hid (own_ext2 HOWN.out hx2)
        have HBX2 := Lib.hid (HBXr.out.ext hx2)
        have hln := HLN.out
        clear hx2
        go_wp2_with (at_builtin; refine wpList_append_lies _ rfl (.tmp 30) (.tmp 32) 109 rfl (w.heap.size + 1) 143 i0 _ 1 8 Tryz.underlying109 HI.out hz0 hz1 hz2 rfl (by decide) _ done.length (ucells done) rfl (own_ext2 HOW2.out (Ext.new _ _)) ⟨w2.heap.size, 0, none⟩ 1 1 [.int .u64 x] rfl rfl (World.news_of_block (heap_alloc_new w2 _)) (by simp [Value.oneCell']) (by omega) (by simp only [maxLen]; omega) (by omega) (by have := HX2.out.size; have := HBX2.out.lt; simp; omega) _ rfl ?_; intro g' cap' w' hown hgrow hat hlt')
        refine ⟨⟨(e : Int) - 9, done ++ [x], rfl, by omega, by omega, by simpa [ucells] using hown, by rw [show ((e : Int) - 9).toNat = e - 9 by omega]; exact HNX.out x rfl, Ext.grown (HX2.out.trans (Ext.new _ _)) hgrow (fun k hk => by have := own_base HOW2.out k hk; omega), (hgrow.block w.heap.size (by have := HBX2.out.lt; simp; omega) (fun e => by have := own_base HOW2.out w.heap.size e.symm; omega)).trans (HBX2.out.alloc _)⟩, by simp [intOf]; omega⟩
    · have HDN : Hid (done = gr N) := Lib.hid (by have := HSUM.out; rw [show z.toNat = 0 by omega, List.take_zero, groupsOf_nil, List.append_nil] at this; exact this)
      obtain ⟨A, c, rfl⟩ := own_slice HOWN.out
      have q0 := HBXr.out.cell 0
      have q1 := HBXr.out.cell 1
      have f0 := HBXr.out.frozen 0
      have f1 := HBXr.out.frozen 1
      simp only [List.getElem?_toArray, List.getElem?_cons_zero, List.getElem?_cons_succ] at q0 q1
      go_wp2_with fail
      have hnb : (Value.slice A done.length c).ownBlock ≠ some w.heap.size := fun h => by have := own_base HOWN.out _ h; omega
      have hfin := own_set (own_set HOWN.out hnb (i := 0) (.bool ng)) hnb (i := 1) (.slice A done.length c)
      refine bodyPost_ret (results_num rfl _ _ w.heap.size (.bool ng) (.slice A done.length c) rfl ((HBXr.out.set_ 0 (.bool ng)).set_ 1 (.slice A done.length c))) rfl ?_
      have hcp := own_cap hfin
      rw [HDN.out] at hfin hcp ⊢
      exact ⟨A, c, rfl, Reads.own hfin, (HX.out.setCell (p := ⟨w.heap.size, 0, none⟩) (Nat.le_refl _) _).setCell (p := ⟨w.heap.size, 1, none⟩) (Nat.le_refl _) _, hcp.1, hcp.2⟩
end Go.Proofs.YteeampgbmpolfaaGreatDoor

/- The walks over the program's integers: cutting and comparing magnitudes. -/
namespace Go.Proofs.YteeampgbmpolfaaGreatDoor
open Go.RowKit
attribute [local go_sem] size_bs toList_bs

def slLen : Value → Nat | .slice _ n _ => n | _ => 0
theorem RdU.take {w : World} {A : Option Addr} {gs : List Nat} (h : RdU w A gs) (n : Nat) : RdU w A (gs.take n) := by
  refine ⟨by simp [ucells], fun hn => ?_⟩
  have h0 : 0 < gs.length := by rw [List.length_take] at hn; omega
  obtain ⟨b, o, rfl, hb, hc⟩ := h.2 h0
  refine ⟨b, o, rfl, hb, fun j u hu => hc j u ?_⟩
  unfold ucells at hu ⊢
  rw [List.map_take, List.getElem?_take] at hu
  split at hu
  · exact hu
  · cases hu
set_option maxHeartbeats 1000000 in
theorem intCut (gs : List Nat) (A : Option Addr) (c : Nat) (w : World) (hA : RdU w A gs) (hc : gs.length ≤ c) (hm : c ≤ maxLen) (hb : ∀ g ∈ gs, g < B9) :
    Calls Tryz.prog 111 #[.slice A gs.length c] w fun e w' => e = .returned (.slice A (cutL gs).length c) ∧ w = w' := by
  have HA := Lib.hid hA
  have HB := Lib.hid hb
  unfold maxLen at hm
  clear hA hb
  go_enter Tryz.func111, Tryz.ntmps111
  go_wp2_with fail
  go_loop [0] (fun v => ∃ k : Nat, k ≤ gs.length ∧ v = .slice A k c ∧ cutL (gs.take k) = cutL gs) (fun v => slLen v)
  case atStart => exact ⟨gs.length, Nat.le_refl _, rfl, by rw [List.take_length]⟩
  case round =>
    obtain ⟨k, hk, rfl, hz⟩ := hrel
    have HZ := Lib.hid hz
    clear hz
    rcases Nat.eq_zero_or_pos k with h0 | h0
    · subst h0
      have HL : Hid ((cutL gs).length = 0) := Lib.hid (by rw [← HZ.out]; rfl)
      go_wp2_with fail
      go_ret
      exact ⟨by rw [HL.out]; rfl, rfl⟩
    · obtain ⟨j, rfl⟩ : ∃ j, k = j + 1 := ⟨k - 1, by omega⟩
      have hj : j < gs.length := by omega
      obtain ⟨b, o, rfl, hbw, hcell⟩ := HA.out.at_ hj
      have hts : gs.take (j + 1) = gs.take j ++ [gs[j]] := List.take_succ_eq_append_getElem hj
      have HTS := Lib.hid hts
      clear hts
      by_cases hg : gs[j] = 0
      · have HN : Hid (cutL (gs.take j) = cutL gs) := Lib.hid (by rw [← HZ.out, HTS.out, hg, cutL_snoc_zero])
        rw [hg] at hcell
        clear hg
        go_wp2_with fail
        go_round
        case rel => exact ⟨j, by omega, rfl, HN.out⟩
        case measure => simp [slLen]
      · have HL : Hid ((cutL gs).length = j + 1) := Lib.hid (by rw [← HZ.out, HTS.out, cutL_snoc _ hg]; simp; omega)
        have hgb : ((gs[j] : Int) == 0) = false := by rw [beq_eq_false_iff_ne]; omega
        clear hg
        generalize (gs[j]'hj) = g at *
        go_wp2_with fail
        go_ret
        exact ⟨by rw [HL.out]; rfl, rfl⟩

def CmpEnds (x y : Nat) (w : World) (e : Ending) (w' : World) : Prop := Ext w w' ∧ ∃ r : Int, e = .returned (.int .i64 r) ∧ ((r < 0 ∧ x < y) ∨ (r = 0 ∧ x = y) ∨ (0 < r ∧ y < x))
set_option maxRecDepth 100000 in
set_option maxHeartbeats 1000000 in
theorem intCompare (x y : Nat) (A A' : Option Addr) (c c' : Nat) (w : World) (hA : RdU w A (gr x)) (hA' : RdU w A' (gr y)) (hn : (gr x).length ≤ 1000000) (hn' : (gr y).length ≤ 1000000) :
    Calls Tryz.prog 107 #[.slice A (gr x).length c, .slice A' (gr y).length c'] w (CmpEnds x y w) := by
  have HA := Lib.hid hA
  have HA' := Lib.hid hA'
  clear hA hA'
  by_cases hl : (gr x).length = (gr y).length
  · have HLL := Lib.hid hl
    have hbl : (((gr x).length : Int) != ((gr y).length : Int)) = false := by rw [bne_eq_false_iff_eq]; omega
    have HLS := Lib.hid (fun k (a : k < (gr x).length) (b : k < (gr y).length) he h => gr_less (x := x) (y := y) (k := k) hl a b he h)
    have HGT := Lib.hid (fun k (a : k < (gr y).length) (b : k < (gr x).length) he h => gr_less (x := y) (y := x) (k := k) hl.symm a b he h)
    have HEQ : Hid (gr x = gr y → x = y) := Lib.hid gr_inj
    generalize gr x = gx at *
    generalize gr y = gy at *
    clear hl
    go_enter Tryz.func107, Tryz.ntmps107
    go_wp2_with fail
    go_loopw [5, 23, 33] (fun z _ _ wr => ∃ k : Nat, k ≤ gx.length ∧ z = .int .i64 ((k : Int) - 1) ∧ (∀ (j : Nat) (h1 : j < gx.length) (h2 : j < gy.length), k ≤ j → gx[j] = gy[j]) ∧ Ext w wr) (fun z _ _ _ => (intOf z + 1).toNat)
    case atStart => exact ⟨gx.length, Nat.le_refl _, rfl, fun j h1 _ hj => absurd h1 (by omega), Ext.refl _⟩
    case round =>
      obtain ⟨k, hk, rfl, hz, hx⟩ := hrel
      have HZ := Lib.hid hz
      have HX := Lib.hid hx
      clear hz hx
      rcases Nat.eq_zero_or_pos k with h0 | h0
      · subst h0
        have HY : Hid (x = y) := Lib.hid (HEQ.out (List.ext_getElem HLL.out (fun j h1 h2 => HZ.out j h1 h2 (by omega))))
        go_wp2_with fail
        go_ret
        exact ⟨HX.out, 0, rfl, .inr (.inl ⟨rfl, HY.out⟩)⟩
      · obtain ⟨j, rfl⟩ : ∃ j, k = j + 1 := ⟨k - 1, by omega⟩
        have hj : j < gx.length := by omega
        have hj' : j < gy.length := by have := HLL.out; omega
        obtain ⟨b, o, rfl, hbw, hcell⟩ := (HA.out.ext HX.out).at_ hj
        obtain ⟨b', o', rfl, hbw', hcell'⟩ := (HA'.out.ext HX.out).at_ hj'
        have e0 : ((j + 1 : Nat) : Int) - 1 = (j : Int) := by omega
        rw [e0]
        clear e0
        rcases Nat.lt_trichotomy (gx[j]'hj) (gy[j]'hj') with h | h | h
        · have HY : Hid (x < y) := Lib.hid (HLS.out j hj hj' (fun i h1 h2 hi => HZ.out i h1 h2 (by omega)) h)
          generalize (gx[j]'hj) = p at *
          generalize (gy[j]'hj') = q at *
          go_wp2_with fail
          go_quiet (fail)
          go_wp2_with fail
          go_ret
          exact ⟨HX.out.drewN _, -1, rfl, .inl ⟨by decide, HY.out⟩⟩
        · have HNX := Lib.hid (fun i (h1 : i < gx.length) (h2 : i < gy.length) (hi : j ≤ i) => (by
            rcases Nat.lt_or_ge j i with h' | h'
            · exact HZ.out i h1 h2 (by omega)
            · obtain rfl : i = j := by omega
              exact h : gx[i] = gy[i]))
          rw [← h] at hcell'
          generalize (gx[j]'hj) = p at *
          clear h
          go_wp2_with fail
          go_quiet (fail)
          go_wp2_with fail
          go_quiet (fail)
          go_wp2_with fail
          go_roundw
          case rel => exact ⟨j, by omega, rfl, HNX.out, HX.out.drewN _⟩
          case measure => simp [intOf]
        · have HY : Hid (y < x) := Lib.hid (HGT.out j hj' hj (fun i h1 h2 hi => (HZ.out i h2 h1 (by omega)).symm) h)
          have hb1 : ¬ (gx[j]'hj) < (gy[j]'hj') := by omega
          generalize (gx[j]'hj) = p at *
          generalize (gy[j]'hj') = q at *
          go_wp2_with fail
          go_quiet (fail)
          go_wp2_with fail
          go_quiet (fail)
          go_wp2_with fail
          go_ret
          exact ⟨(HX.out.drewN _).drewN _, 1, rfl, .inr (.inr ⟨by decide, HY.out⟩)⟩
  · have hbl : (((gr x).length : Int) != ((gr y).length : Int)) = true := by rw [bne_iff_ne]; omega
    have HY : Hid (((((gr x).length : Int) - (gr y).length < 0) ∧ x < y) ∨ ((((gr x).length : Int) - (gr y).length = 0) ∧ x = y) ∨ ((0 < ((gr x).length : Int) - (gr y).length) ∧ y < x)) := Lib.hid (by
      rcases Nat.lt_or_ge (gr x).length (gr y).length with h | h
      · exact .inl ⟨by omega, gr_shorter h⟩
      · exact .inr (.inr ⟨by omega, gr_shorter (by omega)⟩))
    generalize gr x = gx at *
    generalize gr y = gy at *
    clear hl
    go_enter Tryz.func107, Tryz.ntmps107
    go_wp2_with fail
    go_ret
    exact ⟨Ext.refl _, _, rfl, HY.out⟩
end Go.Proofs.YteeampgbmpolfaaGreatDoor

/- The walks over the program's integers: the difference of magnitudes. -/
namespace Go.Proofs.YteeampgbmpolfaaGreatDoor
open Go.RowKit
attribute [local go_sem] size_bs toList_bs

theorem oneU (gs : List Nat) : ∀ u ∈ ucells gs, u.oneCell' = true := by
  intro u hu; obtain ⟨g, _, rfl⟩ := List.mem_map.1 hu; rfl
def CloneU (gs : List Nat) (w : World) (e : Ending) (w' : World) : Prop :=
  ∃ A c, e = .returned (.slice A gs.length c) ∧ w'.ownsRow w.heap.size 143 1 (.slice A gs.length c) gs.length (ucells gs) ∧ Ext w w'
set_option maxRecDepth 100000 in
set_option maxHeartbeats 1000000 in
theorem cloneU (gs : List Nat) (A : Option Addr) (c : Nat) (w : World) (hA : RdU w A gs) (hn : gs.length ≤ 1000000) :
    Calls Tryz.prog 152 #[.slice A gs.length c] w (CloneU gs w) := by
  obtain ⟨i0, hI, hz0, hz1, hz2⟩ := info_parts u64Info
  have HI := Lib.hid hI
  clear hI
  cases A with
  | none =>
    have h0 : gs = [] := by
      rcases Nat.eq_zero_or_pos gs.length with h | h
      · exact List.length_eq_zero_iff.1 h
      · obtain ⟨b, o, e, _⟩ := hA.2 h; cases e
    subst h0
    clear hA
    have hnil : ∀ W : World, (binOp .eql 109 (.slice none 0 c) (.slice none 0 0)).run Tryz.prog W = .ok (.bool true) W := fun W => Lib.run_eql_slice_nil W _ _ _ _ _ _ _ Tryz.underlying109
    go_enter Tryz.func152, Tryz.ntmps152
    go_wp2_with fail
    go_ret
    exact ⟨none, 0, rfl, ⟨rfl, .inl ⟨rfl, rfl⟩⟩, Ext.refl _⟩
  | some a =>
    have hnil : ∀ W : World, (binOp .eql 109 (.slice (some a) gs.length c) (.slice none 0 0)).run Tryz.prog W = .ok (.bool false) W := fun W => Lib.run_eql_slice_nil W _ _ _ _ _ _ _ Tryz.underlying109
    rcases Nat.eq_zero_or_pos gs.length with h0 | h0
    · have h1 : gs = [] := List.length_eq_zero_iff.1 h0
      subst h1
      simp only [List.length_nil] at hnil
      clear hA h0
      go_enter Tryz.func152, Tryz.ntmps152
      have hr : ∀ ty, (Builtin.append_ #[109, 109] ty #[.slice (some ⟨w.heap.size, 0, none⟩) 0 0, .slice (some a) 0 c]).run Tryz.prog (w.alloc (.cells #[] 143)) = .ok (.slice (some ⟨w.heap.size, 0, none⟩) 0 0) (w.alloc (.cells #[] 143)) := fun ty =>
        run_append_room_cells _ _ ty 143 i0 Tryz.underlying109 HI.out w.heap.size 0 0 0 a 0 c [] (by simp) (by simp) (by simp) (Nat.le_refl _) (by simp) (by simp)
      go_wp2_with (at_builtin; refine Lib.wpList_append_run _ rfl (.tmp 5) (.tmp 6) _ _ rfl _ _ rfl rfl _ _ (hr _) ?_)
      go_ret
      exact ⟨some ⟨w.heap.size, 0, none⟩, 0, rfl, ⟨rfl, .inr ⟨w.heap.size, 0, #[], rfl, Nat.le_refl _, heap_alloc_new w _, Nat.le_refl _, by decide, rfl, rfl⟩⟩, Ext.new _ _⟩
    · obtain ⟨b, o, e, hb, hc⟩ := hA.2 h0
      injection e with e
      subst e
      have HC : Hid (∀ j u, (ucells gs)[j]? = some u → (w.alloc (.cells #[] 143)).cell? ((⟨b, o, none⟩ : Addr).add j) = some u) := Lib.hid (fun j u hu => by
        rw [Addr.add_lit]; exact ((Ext.new w _).cell (p := ⟨b, o + j, none⟩) hb).trans (hc j u hu))
      have HL : Hid ((ucells gs).length = gs.length * 1) := Lib.hid (by simp [ucells])
      clear hc hA
      go_enter Tryz.func152, Tryz.ntmps152
      go_wp2_with (at_builtin; refine wpList_append_lies _ rfl (.tmp 5) (.tmp 6) 109 rfl w.heap.size 143 i0 _ 1 8 Tryz.underlying109 HI.out hz0 hz1 hz2 rfl (by decide) _ 0 [] rfl ⟨rfl, .inr ⟨w.heap.size, 0, #[], rfl, Nat.le_refl _, heap_alloc_new w _, Nat.le_refl _, by decide, rfl, rfl⟩⟩ ⟨b, o, none⟩ gs.length c (ucells gs) rfl HL.out HC.out (oneU gs) h0 (by simp only [maxLen]; omega) (by omega) (by simp) _ rfl ?_; intro g cap w' hown hgrow hat hlt)
      go_ret
      simp only [Nat.zero_add, List.nil_append] at hown
      exact ⟨some ⟨g, 0, none⟩, cap, rfl, hown, Ext.only (Ext.new w (.cells #[] 143)) hgrow (Nat.le_refl _)⟩
/-- the groups of a difference, the first k of them done -/
def mixed (f : Nat → Nat) (gs : List Nat) (k : Nat) : List Nat := (List.range k).map f ++ gs.drop k
theorem mixed_len (f : Nat → Nat) (gs : List Nat) (k : Nat) (h : k ≤ gs.length) : (mixed f gs k).length = gs.length := by simp [mixed]; omega
theorem mixed_zero (f : Nat → Nat) (gs : List Nat) : mixed f gs 0 = gs := by simp [mixed]
theorem mixed_at (f : Nat → Nat) (gs : List Nat) (k : Nat) (h : k < gs.length) : (mixed f gs k)[k]? = some (gs[k]) := by
  unfold mixed; rw [List.getElem?_append_right (by simp)]; simp [h]
theorem mixed_set (f : Nat → Nat) (gs : List Nat) (k : Nat) (h : k < gs.length) : (mixed f gs k).set k (f k) = mixed f gs (k + 1) := by
  unfold mixed
  rw [List.set_append_right _ _ (by simp), List.range_succ, List.map_append]
  simp only [List.length_map, List.length_range, Nat.sub_self]
  rw [List.drop_eq_getElem_cons h, List.set_cons_zero, List.append_assoc]; rfl
theorem mixed_end (f : Nat → Nat) (gs : List Nat) : mixed f gs gs.length = (List.range gs.length).map f := by simp [mixed]
/-- a row of uint64 groups in a block of its own -/
def RowU (w : World) (g cap : Nat) (gs : List Nat) : Prop := ∃ cur, Row w g 143 1 gs.length cap (ucells gs) cur
theorem RowU.cell {w : World} {g cap : Nat} {gs : List Nat} (h : RowU w g cap gs) {k x : Nat} (hk : gs[k]? = some x) : w.cell? ⟨g, k, none⟩ = some (.int .u64 x) := by
  obtain ⟨cur, h⟩ := h; exact h.cell (by simp [ucells, hk])
theorem RowU.frozen {w : World} {g cap : Nat} {gs : List Nat} (h : RowU w g cap gs) (k : Nat) : w.frozen? ⟨g, k, none⟩ = false := by
  obtain ⟨cur, h⟩ := h; exact h.frozen k
theorem RowU.lt {w : World} {g cap : Nat} {gs : List Nat} (h : RowU w g cap gs) : g < w.heap.size := by obtain ⟨cur, h⟩ := h; exact h.blk.lt
theorem RowU.reads {w : World} {g cap : Nat} {gs : List Nat} (h : RowU w g cap gs) : RdU w (some ⟨g, 0, none⟩) gs := by obtain ⟨cur, h⟩ := h; exact h.reads
theorem RowU.caps {w : World} {g cap : Nat} {gs : List Nat} (h : RowU w g cap gs) : gs.length ≤ cap ∧ cap ≤ maxLen := by obtain ⟨cur, h⟩ := h; exact ⟨h.le, h.big⟩
theorem RowU.ext {w w' : World} {g cap : Nat} {gs : List Nat} (h : RowU w g cap gs) (hx : Ext w w') : RowU w' g cap gs := by obtain ⟨cur, h⟩ := h; exact ⟨cur, h.ext hx⟩
theorem RowU.set_ {w : World} {g cap : Nat} {gs : List Nat} (h : RowU w g cap gs) (k x : Nat) (_hk : k < gs.length) : RowU (w.setCell ⟨g, k, none⟩ (.int .u64 x)) g cap (gs.set k x) := by
  obtain ⟨cur, h⟩ := h
  have h1 := h.blk.set_ k (.int .u64 x)
  rw [List.setIfInBounds_toArray] at h1
  refine ⟨cur.set k (.int .u64 x), h1, by simp [ucells], by simpa using h.le, h.big, by simpa using h.full, ?_⟩
  rw [List.length_set, List.take_set, h.take]; simp [ucells, List.map_set]
end Go.Proofs.YteeampgbmpolfaaGreatDoor

/- The walk over the program's difference of magnitudes. -/
namespace Go.Proofs.YteeampgbmpolfaaGreatDoor
open Go.RowKit
attribute [local go_sem] size_bs toList_bs

def MagEnds (n : Nat) (w : World) (e : Ending) (w' : World) : Prop :=
  ∃ A c, e = .returned (.slice A (gr n).length c) ∧ RdU w' A (gr n) ∧ Ext w w' ∧ (gr n).length ≤ c ∧ c ≤ maxLen
theorem cut_mixed {x y : Nat} (h : y ≤ x) : cutL ((List.range (gr x).length).map (mi (at0 (gr x)) (at0 (gr y)))) = gr (x - y) := by
  have hl : (gr y).length ≤ (gr x).length := by
    rcases Nat.lt_or_ge (gr x).length (gr y).length with h1 | h1
    · have := gr_shorter h1; omega
    · exact h1
  have ha := at0_bd (gr_lt x)
  have hb := at0_bd (gr_lt y)
  have e1 : gsum (at0 (gr x)) (gr x).length = x := by rw [← gval_gsum _ _ (Nat.le_refl _), gval_gr]
  have e2 : gsum (at0 (gr y)) (gr x).length = y := by rw [← gval_gsum _ _ hl, gval_gr]
  rw [cutL_gr (by intro g hg; obtain ⟨k, _, rfl⟩ := List.mem_map.1 hg; exact mi_lt ha hb k), gval_range, minus_val ha hb (by rw [e1, e2]; exact h), e1, e2]
theorem RowU.put {w : World} {g cap : Nat} {gs : List Nat} (h : RowU w g cap gs) (k : Nat) (z : Int) (x : Nat) (hk : k < gs.length) (hz : z = (x : Int)) : RowU (w.setCell ⟨g, k, none⟩ (.int .u64 z)) g cap (gs.set k x) := by
  subst hz; exact h.set_ k x hk
theorem RowU.step1 {w : World} {g cap : Nat} {gs : List Nat} {f : Nat → Nat} {k : Nat} (h : RowU w g cap (mixed f gs k)) (hk : k < gs.length) (z : Int) (hz : z = (f k : Nat)) : RowU (w.setCell ⟨g, k, none⟩ (.int .u64 z)) g cap (mixed f gs (k + 1)) := by
  rw [← mixed_set f gs k hk]; exact h.put k z (f k) (by rw [mixed_len f gs k (by omega)]; exact hk) hz
theorem RowU.step2 {w : World} {g cap : Nat} {gs : List Nat} {f : Nat → Nat} {k : Nat} (h : RowU w g cap (mixed f gs k)) (hk : k < gs.length) (z1 z : Int) (u : Nat) (h1 : z1 = (u : Int)) (hz : z = (f k : Nat)) : RowU ((w.setCell ⟨g, k, none⟩ (.int .u64 z1)).setCell ⟨g, k, none⟩ (.int .u64 z)) g cap (mixed f gs (k + 1)) := by
  have hl : k < (mixed f gs k).length := by rw [mixed_len f gs k (by omega)]; exact hk
  have := (h.put k z1 u hl h1).put k z (f k) (by rw [List.length_set]; exact hl) hz
  rw [List.set_set, mixed_set f gs k hk] at this; exact this
set_option maxRecDepth 100000 in
set_option maxHeartbeats 2000000 in
theorem intMinus (x y : Nat) (hle : y ≤ x) (A A' : Option Addr) (c c' : Nat) (w : World) (hA : RdU w A (gr x)) (hA' : RdU w A' (gr y)) (hn : (gr x).length ≤ 1000000) (_hn' : (gr y).length ≤ 1000000) :
    Calls Tryz.prog 108 #[.slice A (gr x).length c, .slice A' (gr y).length c'] w (MagEnds (x - y) w) := by
  have HA := Lib.hid hA
  have HA' := Lib.hid hA'
  have HCM := Lib.hid (cut_mixed hle)
  have HBX := Lib.hid (at0_bd (gr_lt x))
  have HBY := Lib.hid (at0_bd (gr_lt y))
  have HZX : Hid (gr x = [] → x - y = 0) := Lib.hid (fun h => by have : x = 0 := gr_inj (by rw [h, gr_zero]); omega)
  generalize x - y = d at *
  generalize gr x = gx at *
  generalize gr y = gy at *
  clear hA hA' hle
  go_enter Tryz.func108, Tryz.ntmps108
  go_wp2_with fail
  refine (cloneU gx A c _ HA.out hn).mono ?_
  rintro e w1 ⟨A1, c1, rfl, hown, hx1⟩
  rcases Nat.eq_zero_or_pos gx.length with h0 | h0
  · have h1 : gx = [] := List.length_eq_zero_iff.1 h0
    subst h1
    have HD : Hid (gr d = []) := Lib.hid (by rw [HZX.out rfl, gr_zero])
    have HOW := Lib.hid (own_cap hown)
    have HX1 := Lib.hid hx1
    have HRD := Lib.hid (show RdU w1 A1 [] from Reads.own hown)
    clear hown hx1 h0
    simp only [List.length_nil] at *
    go_wp2_with fail
    go_loopw [13, 6, 7, 8] (fun i _ _ _ wr => i = .int .i64 0 ∧ wr = w1) (fun _ _ _ _ _ => 0)
    case atStart => exact ⟨rfl, rfl⟩
    case round =>
      obtain ⟨rfl, rfl⟩ := hrel
      go_wp2_with fail
      refine (intCut [] A1 c1 _ HRD.out HOW.out.1 HOW.out.2 (by simp)).mono ?_
      rintro e w9 ⟨rfl, rfl⟩
      go_wp2_with fail
      go_ret
      exact ⟨A1, c1, by rw [HD.out]; rfl, by rw [HD.out]; exact HRD.out, HX1.out, by rw [HD.out]; simp, HOW.out.2⟩
  · obtain ⟨g, cap, e1, hg, hlt⟩ := hown.form h0
    injection e1 with e1 _ e3
    subst e1; subst e3
    obtain ⟨hgb, cur, hrow⟩ := Row.of_own hown
    have HROW : Hid (RowU w1 g c1 (mixed (mi (at0 gx) (at0 gy)) gx 0)) := Lib.hid (by rw [mixed_zero]; exact ⟨cur, hrow⟩)
    have HX1 := Lib.hid hx1
    clear hrow hown hx1
    go_wp2_with fail
    go_loopw [13, 6, 7, 8] (fun i bo _ _ wr => ∃ k : Nat, k ≤ gx.length ∧ i = .int .i64 k ∧ bo = .int .u64 (bw (at0 gx) (at0 gy) k : Nat) ∧ RowU wr g c1 (mixed (mi (at0 gx) (at0 gy)) gx k) ∧ Ext w wr) (fun i _ _ _ _ => gx.length - (intOf i).toNat)
    case atStart => exact ⟨0, by omega, rfl, rfl, HROW.out, HX1.out⟩
    case round =>
      obtain ⟨k, hk, rfl, rfl, hrow, hx⟩ := hrel
      have HR := Lib.hid hrow
      have HX := Lib.hid hx
      clear hrow hx
      by_cases hlt2 : k < gx.length
      · have hcell := HR.out.cell (mixed_at (mi (at0 gx) (at0 gy)) gx k hlt2)
        have hfz := HR.out.frozen k
        have hax := HBX.out k
        have hby := HBY.out k
        have hbw := bw_le (at0 gx) (at0 gy) k
        have HST := Lib.hid (mixed_set (mi (at0 gx) (at0 gy)) gx k hlt2)
        have HMI : Hid (mi (at0 gx) (at0 gy) k = if at0 gx k < at0 gy k + bw (at0 gx) (at0 gy) k then at0 gx k + B9 - (at0 gy k + bw (at0 gx) (at0 gy) k) else at0 gx k - (at0 gy k + bw (at0 gx) (at0 gy) k)) := Lib.hid rfl
        have HBW : Hid (bw (at0 gx) (at0 gy) (k + 1) = if at0 gx k < at0 gy k + bw (at0 gx) (at0 gy) k then 1 else 0) := Lib.hid rfl
        rw [← at0_lt hlt2] at hcell
        have e9 : B9 = 1000000000 := rfl
        rw [e9] at hax hby
        clear e9
        by_cases hk2 : k < gy.length
        · obtain ⟨b, o, rfl, hbb, hcy⟩ := (HA'.out.ext HX.out).at_ hk2
          rw [← at0_lt hk2] at hcy
          generalize hpa : at0 gx k = p at *
          generalize hqa : at0 gy k = q at *
          generalize hra : bw (at0 gx) (at0 gy) k = r at *
          clear hpa hqa hra
          by_cases hlt3 : (p : Int) < (r : Int) + (q : Int)
          · have HZ : Hid ((p : Int) + 1000000000 - ((r : Int) + (q : Int)) = (mi (at0 gx) (at0 gy) k : Nat)) := Lib.hid (by rw [HMI.out, if_pos (by omega), show B9 = 1000000000 from rfl]; omega)
            have HB1 : Hid (bw (at0 gx) (at0 gy) (k + 1) = 1) := Lib.hid (by rw [HBW.out, if_pos (by omega)])
            go_wp2_with fail
            exact ⟨⟨k + 1, by omega, by go_num, by rw [HB1.out]; rfl, RowU.step2 HR.out hlt2 _ _ (p + 1000000000) (by omega) HZ.out, (HX.out.setCell (p := ⟨g, k, none⟩) hgb _).setCell (p := ⟨g, k, none⟩) hgb _⟩, by simp [intOf]; omega⟩
          · have HZ : Hid ((p : Int) - ((r : Int) + (q : Int)) = (mi (at0 gx) (at0 gy) k : Nat)) := Lib.hid (by rw [HMI.out, if_neg (by omega)]; omega)
            have HB1 : Hid (bw (at0 gx) (at0 gy) (k + 1) = 0) := Lib.hid (by rw [HBW.out, if_neg (by omega)])
            go_wp2_with fail
            exact ⟨⟨k + 1, by omega, by go_num, by rw [HB1.out]; rfl, RowU.step1 HR.out hlt2 _ HZ.out, HX.out.setCell (p := ⟨g, k, none⟩) hgb _⟩, by simp [intOf]; omega⟩
        · have hq0 : at0 gy k = 0 := at0_ge (by omega)
          rw [hq0] at HMI HBW hby
          generalize hpa : at0 gx k = p at *
          generalize hra : bw (at0 gx) (at0 gy) k = r at *
          clear hpa hra hq0
          by_cases hlt3 : (p : Int) < (r : Int)
          · have HZ : Hid ((p : Int) + 1000000000 - ((r : Int)) = (mi (at0 gx) (at0 gy) k : Nat)) := Lib.hid (by rw [HMI.out, if_pos (by omega), show B9 = 1000000000 from rfl]; omega)
            have HB1 : Hid (bw (at0 gx) (at0 gy) (k + 1) = 1) := Lib.hid (by rw [HBW.out, if_pos (by omega)])
            go_wp2_with fail
            exact ⟨⟨k + 1, by omega, by go_num, by rw [HB1.out]; rfl, RowU.step2 HR.out hlt2 _ _ (p + 1000000000) (by omega) HZ.out, (HX.out.setCell (p := ⟨g, k, none⟩) hgb _).setCell (p := ⟨g, k, none⟩) hgb _⟩, by simp [intOf]; omega⟩
          · have HZ : Hid ((p : Int) - ((r : Int)) = (mi (at0 gx) (at0 gy) k : Nat)) := Lib.hid (by rw [HMI.out, if_neg (by omega)]; omega)
            have HB1 : Hid (bw (at0 gx) (at0 gy) (k + 1) = 0) := Lib.hid (by rw [HBW.out, if_neg (by omega)])
            go_wp2_with fail
            exact ⟨⟨k + 1, by omega, by go_num, by rw [HB1.out]; rfl, RowU.step1 HR.out hlt2 _ HZ.out, HX.out.setCell (p := ⟨g, k, none⟩) hgb _⟩, by simp [intOf]; omega⟩
      · have hkl : k = gx.length := by omega
        have HRD := Lib.hid (show RdU wr (some ⟨g, 0, none⟩) ((List.range gx.length).map (mi (at0 gx) (at0 gy))) by have := HR.out.reads; rw [hkl, mixed_end] at this; exact this)
        have HCP := Lib.hid (show ((List.range gx.length).map (mi (at0 gx) (at0 gy))).length ≤ c1 ∧ c1 ≤ maxLen by have := HR.out.caps; rw [hkl, mixed_end] at this; exact this)
        have HML : Hid (∀ z ∈ (List.range gx.length).map (mi (at0 gx) (at0 gy)), z < B9) := Lib.hid (by intro z hz; obtain ⟨j, _, rfl⟩ := List.mem_map.1 hz; exact mi_lt HBX.out HBY.out j)
        have hll : ((List.range gx.length).map (mi (at0 gx) (at0 gy))).length = gx.length := by simp
        have HCUT := Lib.hid (fun W (hW : RdU W (some ⟨g, 0, none⟩) _) => intCut ((List.range gx.length).map (mi (at0 gx) (at0 gy))) (some ⟨g, 0, none⟩) c1 W hW HCP.out.1 HCP.out.2 HML.out)
        rw [hll, HCM.out] at HCUT
        have HPR := Lib.hid (cutL_prefix ((List.range gx.length).map (mi (at0 gx) (at0 gy))))
        have HLE := Lib.hid (cutL_le ((List.range gx.length).map (mi (at0 gx) (at0 gy))))
        rw [HCM.out] at HPR HLE
        clear hll hkl
        generalize (List.range gx.length).map (mi (at0 gx) (at0 gy)) = fin at *
        go_wp2_with fail
        refine (HCUT.out _ HRD.out).mono ?_
        rintro e w9 ⟨rfl, rfl⟩
        go_wp2_with fail
        go_ret
        exact ⟨some ⟨g, 0, none⟩, c1, rfl, by rw [HPR.out]; exact HRD.out.take _, HX.out, by have := HCP.out.1; have := HLE.out; omega, HCP.out.2⟩
end Go.Proofs.YteeampgbmpolfaaGreatDoor

/- The walk over the program's sum of magnitudes. -/
namespace Go.Proofs.YteeampgbmpolfaaGreatDoor
open Go.RowKit
attribute [local go_sem] size_bs toList_bs

theorem gr_len_mono {x y : Nat} (h : x ≤ y) : (gr x).length ≤ (gr y).length := by
  rcases Nat.lt_or_ge (gr y).length (gr x).length with h1 | h1
  · have := gr_shorter h1; omega
  · exact h1
theorem plus_no {x y : Nat} (hl : (gr y).length ≤ (gr x).length) (hc : cy (at0 (gr x)) (at0 (gr y)) (gr x).length = 0) : (List.range (gr x).length).map (pl (at0 (gr x)) (at0 (gr y))) = gr (x + y) := by
  have e1 : gsum (at0 (gr x)) (gr x).length = x := by rw [← gval_gsum _ _ (Nat.le_refl _), gval_gr]
  have e2 : gsum (at0 (gr y)) (gr x).length = y := by rw [← gval_gsum _ _ hl, gval_gr]
  have hs := plus_sum (at0 (gr x)) (at0 (gr y)) (gr x).length
  rw [hc, e1, e2, Nat.zero_mul, Nat.add_zero] at hs
  have hcut : cutL ((List.range (gr x).length).map (pl (at0 (gr x)) (at0 (gr y)))) = gr (x + y) := by
    rw [cutL_gr (by intro g hg; obtain ⟨k, _, rfl⟩ := List.mem_map.1 hg; exact pl_lt _ _ k), gval_range, hs]
  have hp := cutL_prefix ((List.range (gr x).length).map (pl (at0 (gr x)) (at0 (gr y))))
  rw [hcut] at hp
  have hlen := gr_len_mono (show x ≤ x + y by omega)
  rw [List.take_of_length_le (by simp; exact hlen)] at hp
  exact hp.symm
theorem plus_yes {x y : Nat} (hl : (gr y).length ≤ (gr x).length) (hc : cy (at0 (gr x)) (at0 (gr y)) (gr x).length ≠ 0) : (List.range (gr x).length).map (pl (at0 (gr x)) (at0 (gr y))) ++ [cy (at0 (gr x)) (at0 (gr y)) (gr x).length] = gr (x + y) := by
  have e1 : gsum (at0 (gr x)) (gr x).length = x := by rw [← gval_gsum _ _ (Nat.le_refl _), gval_gr]
  have e2 : gsum (at0 (gr y)) (gr x).length = y := by rw [← gval_gsum _ _ hl, gval_gr]
  have hs := plus_sum (at0 (gr x)) (at0 (gr y)) (gr x).length
  rw [e1, e2] at hs
  have hb := cy_le (at0_bd (gr_lt x)) (at0_bd (gr_lt y)) (gr x).length
  have hg : gval ((List.range (gr x).length).map (pl (at0 (gr x)) (at0 (gr y))) ++ [cy (at0 (gr x)) (at0 (gr y)) (gr x).length]) = x + y := by
    rw [gval_snoc, gval_range, List.length_map, List.length_range, hs]
  rw [← hg]; symm
  apply gr_gval
  · intro g hg
    rcases List.mem_append.1 hg with h | h
    · obtain ⟨k, _, rfl⟩ := List.mem_map.1 h; exact pl_lt _ _ k
    · simp at h; subst h; have : (1 : Nat) < B9 := by decide
      omega
  · intro r g e
    have := List.append_inj' e rfl
    simp at this; rw [← this.2]; exact hc
theorem RowU.drew {w : World} {g cap : Nat} {gs : List Nat} (h : RowU w g cap gs) : RowU w.drew g cap gs := by obtain ⟨cur, h⟩ := h; exact ⟨cur, h.drew⟩
theorem RowU.step3 {w : World} {g cap : Nat} {gs : List Nat} {f : Nat → Nat} {k : Nat} (h : RowU w g cap (mixed f gs k)) (hk : k < gs.length) (z1 z2 z : Int) (u1 u2 : Nat) (h1 : z1 = (u1 : Int)) (h2 : z2 = (u2 : Int)) (hz : z = (f k : Nat)) :
    RowU ((((w.setCell ⟨g, k, none⟩ (.int .u64 z1)).setCell ⟨g, k, none⟩ (.int .u64 z2)).setCell ⟨g, k, none⟩ (.int .u64 z)).drew) g cap (mixed f gs (k + 1)) := by
  have hl : k < (mixed f gs k).length := by rw [mixed_len f gs k (by omega)]; exact hk
  have := ((h.put k z1 u1 hl h1).put k z2 u2 (by rw [List.length_set]; exact hl) h2).put k z (f k) (by rw [List.length_set, List.length_set]; exact hl) hz
  rw [List.set_set, List.set_set, mixed_set f gs k hk] at this; exact this.drew
set_option maxRecDepth 100000 in
set_option maxHeartbeats 2000000 in
theorem intPlusGe (x y : Nat) (A A' : Option Addr) (c c' : Nat) (w : World) (hl : (gr y).length ≤ (gr x).length) (hA : RdU w A (gr x)) (hA' : RdU w A' (gr y)) (hn : (gr x).length ≤ 1000000) :
    Calls Tryz.prog 106 #[.slice A (gr x).length c, .slice A' (gr y).length c'] w (MagEnds (x + y) w) := by
  have HA := Lib.hid hA
  have HA' := Lib.hid hA'
  have HN := Lib.hid (fun h => plus_no (x := x) (y := y) hl h)
  have HY := Lib.hid (fun h => plus_yes (x := x) (y := y) hl h)
  have HBX := Lib.hid (at0_bd (gr_lt x))
  have HBY := Lib.hid (at0_bd (gr_lt y))
  generalize x + y = d at *
  generalize gr x = gx at *
  generalize gr y = gy at *
  clear hA hA'
  obtain ⟨i0, hI, hz0, hz1, hz2⟩ := info_parts u64Info
  have hsz : (Tryz.prog.info? 143).map (·.size) = some 1 := by rw [hI]; simp [hz1]
  have hlt : ¬ gx.length < gy.length := by omega
  obtain ⟨ROW, hRW, hmk⟩ : ∃ ROW : List Value, ROW.length = gx.length + 1 ∧ (Instr.makeSlice 109 (.int .i64 (gx.length : Int)) (.int .i64 ((gx.length : Int) + 1))).run Tryz.prog w = .ok (.slice (some ⟨w.heap.size, 0, none⟩) gx.length (gx.length + 1)) (w.alloc (.cells ROW.toArray 143)) := by
    have h := run_make (P := Tryz.prog) w 109 143 i0 _ Tryz.underlying109 hI hz0 .i64 .i64 (gx.length : Int) ((gx.length : Int) + 1) (by omega) (by omega) (by rw [hz2]; omega) (by omega)
    rw [hz1, show ((gx.length : Int) + 1).toNat = gx.length + 1 by omega, Int.toNat_natCast] at h
    exact ⟨(madeCells (Value.int .u64 0).cells ((gx.length + 1) * 1)).toList, by rw [Array.length_toList, size_madeCells]; simp, by rw [Array.toArray_toList]; exact h⟩
  have hR0 : Row (w.alloc (.cells ROW.toArray 143)) w.heap.size 143 1 0 (gx.length + 1) [] ROW := ⟨Blk.new w _ _, rfl, Nat.zero_le _, by unfold maxLen; omega, by rw [hRW]; simp, by simp⟩
  have hul : (ucells gx).length = gx.length := by simp [ucells]
  have hR1 : Row ((w.alloc (.cells ROW.toArray 143)).setCells w.heap.size 0 (ucells gx)) w.heap.size 143 1 gx.length (gx.length + 1) (ucells gx) (lsplice ROW 0 (ucells gx)) := hR0.put _ _ (by rw [hul]; omega) (by omega) (by rw [hul]; simp) (by unfold lsplice; simp [ucells])
  have hcp : ∀ ty, (Builtin.copy_ #[109, 109] ty #[.slice (some ⟨w.heap.size, 0, none⟩) gx.length (gx.length + 1), .slice A gx.length c]).run Tryz.prog (w.alloc (.cells ROW.toArray 143)) = .ok (goInt (gx.length : Nat)) ((w.alloc (.cells ROW.toArray 143)).setCells w.heap.size 0 (ucells gx)) := fun ty => by
    rcases Nat.eq_zero_or_pos gx.length with h0 | h0
    · have h1 : gx = [] := List.length_eq_zero_iff.1 h0
      subst h1
      exact run_copy_none _ _ _ ty 143 _ _ _ _ _ _ Tryz.underlying109 hsz rfl
    · obtain ⟨b, o, rfl, hb, hc⟩ := HA.out.2 h0
      exact run_copy_k _ _ _ ty 143 1 w.heap.size 0 gx.length (gx.length + 1) ⟨b, o, none⟩ gx.length c (ucells gx) Tryz.underlying109 hsz gx.length (Nat.min_self _) (by rw [hul]; simp)
        (fun j v hj => by rw [Addr.add_lit]; exact ((Ext.new w _).cell (p := ⟨b, o + j, none⟩) hb).trans (hc j v hj))
        (fun j hj => hR0.isSome_ (by rw [hul] at hj; omega)) (fun j _ => hR0.frozen _) (oneU gx)
  have HROW : Hid (RowU ((w.alloc (.cells ROW.toArray 143)).setCells w.heap.size 0 (ucells gx)) w.heap.size (gx.length + 1) (mixed (pl (at0 gx) (at0 gy)) gx 0)) := Lib.hid (by rw [mixed_zero]; exact ⟨_, hR1⟩)
  have HX1 : Hid (Ext w ((w.alloc (.cells ROW.toArray 143)).setCells w.heap.size 0 (ucells gx))) := Lib.hid (ext_sets _ _ _ () (Ext.new _ _) (Nat.le_refl _))
  have HI := Lib.hid hI
  clear hR0 hR1 hRW hul hsz hI
  generalize ucells gx = ucs at *
  go_enter Tryz.func106, Tryz.ntmps106
  go_wp2_with fail
  generalize (w.alloc (.cells ROW.toArray 143)).setCells w.heap.size 0 ucs = W0 at *
  clear hcp hmk
  go_loopw [26, 6, 7] (fun i ca _ wr => ∃ k : Nat, k ≤ gx.length ∧ i = .int .i64 k ∧ ca = .int .u64 (cy (at0 gx) (at0 gy) k : Nat) ∧ RowU wr w.heap.size (gx.length + 1) (mixed (pl (at0 gx) (at0 gy)) gx k) ∧ Ext w wr) (fun i _ _ _ => gx.length - (intOf i).toNat)
  case atStart => exact ⟨0, by omega, rfl, rfl, HROW.out, HX1.out⟩
  case round =>
    obtain ⟨k, hk, rfl, rfl, hrow, hx⟩ := hrel
    have HR := Lib.hid hrow
    have HX := Lib.hid hx
    clear hrow hx
    by_cases hlt2 : k < gx.length
    · have hcell := HR.out.cell (mixed_at (pl (at0 gx) (at0 gy)) gx k hlt2)
      have hfz := HR.out.frozen k
      have hgl := HR.out.lt
      have hax := HBX.out k
      have hby := HBY.out k
      have hcy := cy_le HBX.out HBY.out k
      have HPL : Hid (pl (at0 gx) (at0 gy) k = (at0 gx k + at0 gy k + cy (at0 gx) (at0 gy) k) % B9) := Lib.hid rfl
      have HCY : Hid (cy (at0 gx) (at0 gy) (k + 1) = (at0 gx k + at0 gy k + cy (at0 gx) (at0 gy) k) / B9) := Lib.hid rfl
      rw [← at0_lt hlt2] at hcell
      have e9 : B9 = 1000000000 := rfl
      rw [e9] at hax hby HPL HCY
      clear e9
      by_cases hk2 : k < gy.length
      · obtain ⟨b, o, rfl, hb0, hcy1⟩ := HA'.out.at_ hk2
        have hcb := (HX.out.cell (p := ⟨b, o + k, none⟩) hb0).trans hcy1
        have hbg : b ≠ w.heap.size := by omega
        have hbg' : w.heap.size ≠ b := by omega
        rw [← at0_lt hk2] at hcb
        generalize hpa : at0 gx k = p at *
        generalize hqa : at0 gy k = q at *
        generalize hra : cy (at0 gx) (at0 gy) k = r at *
        clear hpa hqa hra hcy1
        have HC1 : Hid (((p : Int) + (r : Int) + (q : Int)) / 1000000000 = (cy (at0 gx) (at0 gy) (k + 1) : Nat)) := Lib.hid (by rw [HCY.out]; omega)
        have HP1 : Hid (((p : Int) + (r : Int) + (q : Int)) % 1000000000 = (pl (at0 gx) (at0 gy) k : Nat)) := Lib.hid (by rw [HPL.out]; omega)
        go_wp2_with fail
        go_region
        go_wp2_with fail
        refine ⟨⟨k + 1, by omega, by go_num, by rw [HC1.out], ?_, ?_⟩, by simp [intOf]; omega⟩
        · exact RowU.step3 HR.out hlt2 _ _ _ (p + r) (p + r + q) (by omega) (by omega) HP1.out
        · exact (((HX.out.setCell (p := ⟨w.heap.size, k, none⟩) (Nat.le_refl _) _).setCell (p := ⟨w.heap.size, k, none⟩) (Nat.le_refl _) _).setCell (p := ⟨w.heap.size, k, none⟩) (Nat.le_refl _) _).drew
      · have hq0 : at0 gy k = 0 := at0_ge (by omega)
        rw [hq0] at HPL HCY hby
        generalize hpa : at0 gx k = p at *
        generalize hra : cy (at0 gx) (at0 gy) k = r at *
        clear hpa hra hq0
        have HC1 : Hid (((p : Int) + (r : Int)) / 1000000000 = (cy (at0 gx) (at0 gy) (k + 1) : Nat)) := Lib.hid (by rw [HCY.out]; omega)
        have HP1 : Hid (((p : Int) + (r : Int)) % 1000000000 = (pl (at0 gx) (at0 gy) k : Nat)) := Lib.hid (by rw [HPL.out]; omega)
        go_wp2_with fail
        exact ⟨⟨k + 1, by omega, by go_num, by rw [HC1.out], RowU.step2 HR.out hlt2 _ _ (p + r) (by omega) HP1.out, (HX.out.setCell (p := ⟨w.heap.size, k, none⟩) (Nat.le_refl _) _).setCell (p := ⟨w.heap.size, k, none⟩) (Nat.le_refl _) _⟩, by simp [intOf]; omega⟩
    · have hkl : k = gx.length := by omega
      have HRF : Hid (RowU wr w.heap.size (gx.length + 1) ((List.range gx.length).map (pl (at0 gx) (at0 gy)))) := Lib.hid (by have := HR.out; rw [hkl, mixed_end] at this; exact this)
      subst hkl
      by_cases hc0 : cy (at0 gx) (at0 gy) gx.length = 0
      · have HG := Lib.hid (HN.out hc0)
        rw [hc0]
        have hll : ((List.range gx.length).map (pl (at0 gx) (at0 gy))).length = gx.length := by simp
        have HGL : Hid ((gr d).length = gx.length) := Lib.hid (by rw [← HG.out]; exact hll)
        clear hc0 hll
        go_wp2_with fail
        go_ret
        exact ⟨some ⟨w.heap.size, 0, none⟩, gx.length + 1, by rw [HGL.out]; rfl, by rw [← HG.out]; exact HRF.out.reads, HX.out, by rw [HGL.out]; omega, by unfold maxLen; omega⟩
      · have HG := Lib.hid (HY.out hc0)
        obtain ⟨cur, hrw⟩ := HRF.out
        have hll : ((List.range gx.length).map (pl (at0 gx) (at0 gy))).length = gx.length := by simp
        rw [hll] at hrw
        have HOW := Lib.hid (hrw.own (base := w.heap.size) (Nat.le_refl _))
        have hgl := hrw.blk.lt
        generalize (List.range gx.length).map (pl (at0 gx) (at0 gy)) = fin at *
        generalize cy (at0 gx) (at0 gy) gx.length = r at *
        have hr0 : 0 < r := by omega
        have HFL : Hid (fin.length = gx.length) := Lib.hid hll
        clear hrw hll hc0
        go_wp2_with (at_builtin; refine wpList_append_lies _ rfl (.tmp 64) (.tmp 66) 109 rfl w.heap.size 143 i0 _ 1 8 Tryz.underlying109 HI.out hz0 hz1 hz2 rfl (by decide) _ gx.length (ucells fin) rfl (own_ext2 HOW.out (Ext.new _ _)) ⟨wr.heap.size, 0, none⟩ 1 1 [.int .u64 r] rfl rfl (World.news_of_block (heap_alloc_new wr _)) (by simp [Value.oneCell']) (by omega) (by simp only [maxLen]; omega) (by omega) (by simp; omega) _ rfl ?_; intro g' cap' w' hown hgrow hat hlt')
        go_ret
        have hcp := own_cap hown
        have hrd : RdU w' (some ⟨g', 0, none⟩) (fin ++ [r]) := by
          have := Reads.own hown
          unfold RdU; rw [List.length_append, HFL.out]; simpa [ucells] using this
        rw [HG.out] at hrd
        have hgd : (gr d).length = gx.length + 1 := by rw [← HG.out, List.length_append, HFL.out]; rfl
        exact ⟨some ⟨g', 0, none⟩, cap', by rw [hgd]; rfl, hrd, Ext.grown (HX.out.trans (Ext.new _ _)) hgrow (fun k hk => by have := own_base HOW.out k hk; omega), by rw [hgd]; exact hcp.1, hcp.2⟩
set_option maxRecDepth 100000 in
set_option maxHeartbeats 2000000 in
theorem intPlusLt (x y : Nat) (A A' : Option Addr) (c c' : Nat) (w : World) (hl' : (gr y).length < (gr x).length) (hA : RdU w A (gr x)) (hA' : RdU w A' (gr y)) (hn : (gr x).length ≤ 1000000) :
    Calls Tryz.prog 106 #[.slice A' (gr y).length c', .slice A (gr x).length c] w (MagEnds (x + y) w) := by
  have hl : (gr y).length ≤ (gr x).length := by omega
  have HA := Lib.hid hA
  have HA' := Lib.hid hA'
  have HN := Lib.hid (fun h => plus_no (x := x) (y := y) hl h)
  have HY := Lib.hid (fun h => plus_yes (x := x) (y := y) hl h)
  have HBX := Lib.hid (at0_bd (gr_lt x))
  have HBY := Lib.hid (at0_bd (gr_lt y))
  generalize x + y = d at *
  generalize gr x = gx at *
  generalize gr y = gy at *
  clear hA hA'
  obtain ⟨i0, hI, hz0, hz1, hz2⟩ := info_parts u64Info
  have hsz : (Tryz.prog.info? 143).map (·.size) = some 1 := by rw [hI]; simp [hz1]
  have hlt : gy.length < gx.length := by omega
  obtain ⟨ROW, hRW, hmk⟩ : ∃ ROW : List Value, ROW.length = gx.length + 1 ∧ (Instr.makeSlice 109 (.int .i64 (gx.length : Int)) (.int .i64 ((gx.length : Int) + 1))).run Tryz.prog w = .ok (.slice (some ⟨w.heap.size, 0, none⟩) gx.length (gx.length + 1)) (w.alloc (.cells ROW.toArray 143)) := by
    have h := run_make (P := Tryz.prog) w 109 143 i0 _ Tryz.underlying109 hI hz0 .i64 .i64 (gx.length : Int) ((gx.length : Int) + 1) (by omega) (by omega) (by rw [hz2]; omega) (by omega)
    rw [hz1, show ((gx.length : Int) + 1).toNat = gx.length + 1 by omega, Int.toNat_natCast] at h
    exact ⟨(madeCells (Value.int .u64 0).cells ((gx.length + 1) * 1)).toList, by rw [Array.length_toList, size_madeCells]; simp, by rw [Array.toArray_toList]; exact h⟩
  have hR0 : Row (w.alloc (.cells ROW.toArray 143)) w.heap.size 143 1 0 (gx.length + 1) [] ROW := ⟨Blk.new w _ _, rfl, Nat.zero_le _, by unfold maxLen; omega, by rw [hRW]; simp, by simp⟩
  have hul : (ucells gx).length = gx.length := by simp [ucells]
  have hR1 : Row ((w.alloc (.cells ROW.toArray 143)).setCells w.heap.size 0 (ucells gx)) w.heap.size 143 1 gx.length (gx.length + 1) (ucells gx) (lsplice ROW 0 (ucells gx)) := hR0.put _ _ (by rw [hul]; omega) (by omega) (by rw [hul]; simp) (by unfold lsplice; simp [ucells])
  have hcp : ∀ ty, (Builtin.copy_ #[109, 109] ty #[.slice (some ⟨w.heap.size, 0, none⟩) gx.length (gx.length + 1), .slice A gx.length c]).run Tryz.prog (w.alloc (.cells ROW.toArray 143)) = .ok (goInt (gx.length : Nat)) ((w.alloc (.cells ROW.toArray 143)).setCells w.heap.size 0 (ucells gx)) := fun ty => by
    rcases Nat.eq_zero_or_pos gx.length with h0 | h0
    · have h1 : gx = [] := List.length_eq_zero_iff.1 h0
      subst h1
      exact run_copy_none _ _ _ ty 143 _ _ _ _ _ _ Tryz.underlying109 hsz rfl
    · obtain ⟨b, o, rfl, hb, hc⟩ := HA.out.2 h0
      exact run_copy_k _ _ _ ty 143 1 w.heap.size 0 gx.length (gx.length + 1) ⟨b, o, none⟩ gx.length c (ucells gx) Tryz.underlying109 hsz gx.length (Nat.min_self _) (by rw [hul]; simp)
        (fun j v hj => by rw [Addr.add_lit]; exact ((Ext.new w _).cell (p := ⟨b, o + j, none⟩) hb).trans (hc j v hj))
        (fun j hj => hR0.isSome_ (by rw [hul] at hj; omega)) (fun j _ => hR0.frozen _) (oneU gx)
  have HROW : Hid (RowU ((w.alloc (.cells ROW.toArray 143)).setCells w.heap.size 0 (ucells gx)) w.heap.size (gx.length + 1) (mixed (pl (at0 gx) (at0 gy)) gx 0)) := Lib.hid (by rw [mixed_zero]; exact ⟨_, hR1⟩)
  have HX1 : Hid (Ext w ((w.alloc (.cells ROW.toArray 143)).setCells w.heap.size 0 (ucells gx))) := Lib.hid (ext_sets _ _ _ () (Ext.new _ _) (Nat.le_refl _))
  have HI := Lib.hid hI
  clear hR0 hR1 hRW hul hsz hI
  generalize ucells gx = ucs at *
  go_enter Tryz.func106, Tryz.ntmps106
  go_wp2_with fail
  generalize (w.alloc (.cells ROW.toArray 143)).setCells w.heap.size 0 ucs = W0 at *
  clear hcp hmk
  go_loopw [26, 6, 7] (fun i ca _ wr => ∃ k : Nat, k ≤ gx.length ∧ i = .int .i64 k ∧ ca = .int .u64 (cy (at0 gx) (at0 gy) k : Nat) ∧ RowU wr w.heap.size (gx.length + 1) (mixed (pl (at0 gx) (at0 gy)) gx k) ∧ Ext w wr) (fun i _ _ _ => gx.length - (intOf i).toNat)
  case atStart => exact ⟨0, by omega, rfl, rfl, HROW.out, HX1.out⟩
  case round =>
    obtain ⟨k, hk, rfl, rfl, hrow, hx⟩ := hrel
    have HR := Lib.hid hrow
    have HX := Lib.hid hx
    clear hrow hx
    by_cases hlt2 : k < gx.length
    · have hcell := HR.out.cell (mixed_at (pl (at0 gx) (at0 gy)) gx k hlt2)
      have hfz := HR.out.frozen k
      have hgl := HR.out.lt
      have hax := HBX.out k
      have hby := HBY.out k
      have hcy := cy_le HBX.out HBY.out k
      have HPL : Hid (pl (at0 gx) (at0 gy) k = (at0 gx k + at0 gy k + cy (at0 gx) (at0 gy) k) % B9) := Lib.hid rfl
      have HCY : Hid (cy (at0 gx) (at0 gy) (k + 1) = (at0 gx k + at0 gy k + cy (at0 gx) (at0 gy) k) / B9) := Lib.hid rfl
      rw [← at0_lt hlt2] at hcell
      have e9 : B9 = 1000000000 := rfl
      rw [e9] at hax hby HPL HCY
      clear e9
      by_cases hk2 : k < gy.length
      · obtain ⟨b, o, rfl, hb0, hcy1⟩ := HA'.out.at_ hk2
        have hcb := (HX.out.cell (p := ⟨b, o + k, none⟩) hb0).trans hcy1
        have hbg : b ≠ w.heap.size := by omega
        have hbg' : w.heap.size ≠ b := by omega
        rw [← at0_lt hk2] at hcb
        generalize hpa : at0 gx k = p at *
        generalize hqa : at0 gy k = q at *
        generalize hra : cy (at0 gx) (at0 gy) k = r at *
        clear hpa hqa hra hcy1
        have HC1 : Hid (((p : Int) + (r : Int) + (q : Int)) / 1000000000 = (cy (at0 gx) (at0 gy) (k + 1) : Nat)) := Lib.hid (by rw [HCY.out]; omega)
        have HP1 : Hid (((p : Int) + (r : Int) + (q : Int)) % 1000000000 = (pl (at0 gx) (at0 gy) k : Nat)) := Lib.hid (by rw [HPL.out]; omega)
        go_wp2_with fail
        go_region
        go_wp2_with fail
        refine ⟨⟨k + 1, by omega, by go_num, by rw [HC1.out], ?_, ?_⟩, by simp [intOf]; omega⟩
        · exact RowU.step3 HR.out hlt2 _ _ _ (p + r) (p + r + q) (by omega) (by omega) HP1.out
        · exact (((HX.out.setCell (p := ⟨w.heap.size, k, none⟩) (Nat.le_refl _) _).setCell (p := ⟨w.heap.size, k, none⟩) (Nat.le_refl _) _).setCell (p := ⟨w.heap.size, k, none⟩) (Nat.le_refl _) _).drew
      · have hq0 : at0 gy k = 0 := at0_ge (by omega)
        rw [hq0] at HPL HCY hby
        generalize hpa : at0 gx k = p at *
        generalize hra : cy (at0 gx) (at0 gy) k = r at *
        clear hpa hra hq0
        have HC1 : Hid (((p : Int) + (r : Int)) / 1000000000 = (cy (at0 gx) (at0 gy) (k + 1) : Nat)) := Lib.hid (by rw [HCY.out]; omega)
        have HP1 : Hid (((p : Int) + (r : Int)) % 1000000000 = (pl (at0 gx) (at0 gy) k : Nat)) := Lib.hid (by rw [HPL.out]; omega)
        go_wp2_with fail
        exact ⟨⟨k + 1, by omega, by go_num, by rw [HC1.out], RowU.step2 HR.out hlt2 _ _ (p + r) (by omega) HP1.out, (HX.out.setCell (p := ⟨w.heap.size, k, none⟩) (Nat.le_refl _) _).setCell (p := ⟨w.heap.size, k, none⟩) (Nat.le_refl _) _⟩, by simp [intOf]; omega⟩
    · have hkl : k = gx.length := by omega
      have HRF : Hid (RowU wr w.heap.size (gx.length + 1) ((List.range gx.length).map (pl (at0 gx) (at0 gy)))) := Lib.hid (by have := HR.out; rw [hkl, mixed_end] at this; exact this)
      subst hkl
      by_cases hc0 : cy (at0 gx) (at0 gy) gx.length = 0
      · have HG := Lib.hid (HN.out hc0)
        rw [hc0]
        have hll : ((List.range gx.length).map (pl (at0 gx) (at0 gy))).length = gx.length := by simp
        have HGL : Hid ((gr d).length = gx.length) := Lib.hid (by rw [← HG.out]; exact hll)
        clear hc0 hll
        go_wp2_with fail
        go_ret
        exact ⟨some ⟨w.heap.size, 0, none⟩, gx.length + 1, by rw [HGL.out]; rfl, by rw [← HG.out]; exact HRF.out.reads, HX.out, by rw [HGL.out]; omega, by unfold maxLen; omega⟩
      · have HG := Lib.hid (HY.out hc0)
        obtain ⟨cur, hrw⟩ := HRF.out
        have hll : ((List.range gx.length).map (pl (at0 gx) (at0 gy))).length = gx.length := by simp
        rw [hll] at hrw
        have HOW := Lib.hid (hrw.own (base := w.heap.size) (Nat.le_refl _))
        have hgl := hrw.blk.lt
        generalize (List.range gx.length).map (pl (at0 gx) (at0 gy)) = fin at *
        generalize cy (at0 gx) (at0 gy) gx.length = r at *
        have hr0 : 0 < r := by omega
        have HFL : Hid (fin.length = gx.length) := Lib.hid hll
        clear hrw hll hc0
        go_wp2_with (at_builtin; refine wpList_append_lies _ rfl (.tmp 64) (.tmp 66) 109 rfl w.heap.size 143 i0 _ 1 8 Tryz.underlying109 HI.out hz0 hz1 hz2 rfl (by decide) _ gx.length (ucells fin) rfl (own_ext2 HOW.out (Ext.new _ _)) ⟨wr.heap.size, 0, none⟩ 1 1 [.int .u64 r] rfl rfl (World.news_of_block (heap_alloc_new wr _)) (by simp [Value.oneCell']) (by omega) (by simp only [maxLen]; omega) (by omega) (by simp; omega) _ rfl ?_; intro g' cap' w' hown hgrow hat hlt')
        go_ret
        have hcp := own_cap hown
        have hrd : RdU w' (some ⟨g', 0, none⟩) (fin ++ [r]) := by
          have := Reads.own hown
          unfold RdU; rw [List.length_append, HFL.out]; simpa [ucells] using this
        rw [HG.out] at hrd
        have hgd : (gr d).length = gx.length + 1 := by rw [← HG.out, List.length_append, HFL.out]; rfl
        exact ⟨some ⟨g', 0, none⟩, cap', by rw [hgd]; rfl, hrd, Ext.grown (HX.out.trans (Ext.new _ _)) hgrow (fun k hk => by have := own_base HOW.out k hk; omega), by rw [hgd]; exact hcp.1, hcp.2⟩
theorem intPlus (x y : Nat) (A A' : Option Addr) (c c' : Nat) (w : World) (hA : RdU w A (gr x)) (hA' : RdU w A' (gr y)) (hn : (gr x).length ≤ 1000000) (hn' : (gr y).length ≤ 1000000) :
    Calls Tryz.prog 106 #[.slice A (gr x).length c, .slice A' (gr y).length c'] w (MagEnds (x + y) w) := by
  rcases Nat.lt_or_ge (gr x).length (gr y).length with h | h
  · rw [Nat.add_comm]; exact intPlusLt y x A' A c' c w h hA' hA hn'
  · exact intPlusGe x y A A' c c' w h hA hA' hn
end Go.Proofs.YteeampgbmpolfaaGreatDoor

/- The walk over the program's sum of numbers. -/
namespace Go.Proofs.YteeampgbmpolfaaGreatDoor
open Go.RowKit
attribute [local go_sem] size_bs toList_bs

theorem blk_at (w : World) (t : TypeId) (cs : Array Value) (g : Nat) (hg : w.heap.size = g) : Blk (w.alloc (.cells cs t)) g t cs := by subst hg; exact Blk.new w t cs
theorem RdU.far {w : World} {A : Option Addr} {gs : List Nat} (h : RdU w A gs) {g i : Nat} (u : Value) (hne : 0 < gs.length → ∀ b o, A = some ⟨b, o, none⟩ → b ≠ g) : RdU (w.setCell ⟨g, i, none⟩ u) A gs := by
  refine ⟨h.1, fun hn => ?_⟩
  obtain ⟨b, o, rfl, hb, hc⟩ := h.2 hn
  have hbg := hne hn b o rfl
  refine ⟨b, o, rfl, by simpa [World.setCell] using hb, fun j v hv => ?_⟩
  rw [← hc j v hv]
  unfold World.cell?
  rw [Below.heap_setCell w ⟨g, i, none⟩ u b hbg]
/-- groups don't lie in a box that holds a number -/
theorem RdU.box {w : World} {A : Option Addr} {gs : List Nat} (h : RdU w A gs) {g : Nat} {t : TypeId} {x : Bool} {B : Option Addr} {n c : Nat} (hb : Blk w g t #[.bool x, .slice B n c]) : 0 < gs.length → ∀ b o, A = some ⟨b, o, none⟩ → b ≠ g := by
  intro hn b o e hbg
  subst e; subst hbg
  have h0 := Reads.cell h (j := 0) (u := .int .u64 (gs[0]'hn)) (by simp [ucells, hn])
  rw [Nat.add_zero, hb.cell o] at h0
  match o, h0 with
  | 0, h0 => simp at h0
  | 1, h0 => simp at h0
  | o + 2, h0 => simp at h0
def sgn (b : Bool) (n : Nat) : Int := if b then -(n : Int) else n
def AddEnds (z : Int) (w : World) (e : Ending) (w' : World) : Prop :=
  ∃ b n A c, e = .returned (.agg #[.bool b, .slice A (gr n).length c]) ∧ sgn b n = z ∧ RdU w' A (gr n) ∧ Ext w w' ∧ (gr n).length ≤ c ∧ c ≤ maxLen
set_option maxRecDepth 100000 in
set_option maxHeartbeats 2000000 in
theorem intAdd_same (b : Bool) (x y : Nat) (A A' : Option Addr) (c c' : Nat) (w : World) (hA : RdU w A (gr x)) (hA' : RdU w A' (gr y)) (hn : (gr x).length ≤ 1000000) (hn' : (gr y).length ≤ 1000000) :
    Calls Tryz.prog 77 #[.agg #[.bool b, .slice A (gr x).length c], .agg #[.bool b, .slice A' (gr y).length c']] w (AddEnds (sgn b x + sgn b y) w) := by
  have HA := Lib.hid hA
  have HA' := Lib.hid hA'
  have HPL := Lib.hid (fun W h1 h2 => intPlus x y A A' c c' W h1 h2 hn hn')
  have HS : Hid (sgn b (x + y) = sgn b x + sgn b y) := Lib.hid (by unfold sgn; cases b <;> simp; omega)
  generalize gr x = gx at *
  generalize gr y = gy at *
  clear hA hA'
  have HX0 : Hid (Ext w (((w.alloc (.cells #[.bool b, .slice A gx.length c] 111)).alloc (.cells #[.bool b, .slice A' gy.length c'] 111)).alloc (.cells #[.bool false, .slice none 0 0] 111))) := Lib.hid (((Ext.new _ _).alloc _).alloc _)
  have HBR := Lib.hid (blk_at ((w.alloc (.cells #[.bool b, .slice A gx.length c] 111)).alloc (.cells #[.bool b, .slice A' gy.length c'] 111)) 111 #[.bool false, .slice none 0 0] (w.heap.size + 1 + 1) (by simp))
  have hn1 : w.heap.size ≠ w.heap.size + 1 + 1 := by omega
  have hn2 : w.heap.size + 1 + 1 ≠ w.heap.size := by omega
  have hn3 : ¬ (w.heap.size = w.heap.size + 1 + 1) := by omega
  go_enter Tryz.func77, Tryz.ntmps77
  go_wp2_with fail
  go_region_held3 (fun w' => w'.cell? ⟨w.heap.size, 0, none⟩ = some (.bool b) ∧ w'.cell? ⟨w.heap.size, 1, none⟩ = some (.slice A gx.length c) ∧ w'.cell? ⟨w.heap.size + 1, 1, none⟩ = some (.slice A' gy.length c'))
    (go_keep)
    (first
      | (go_at_call 106; refine (HPL.out _ (HA.out.ext HX0.out.drew) (HA'.out.ext HX0.out.drew)).mono ?_; rintro e w1 ⟨A1, c1, rfl, hrd, hx1, hc1, hc2⟩; have hbr := HBR.out.drew.ext hx1; have hq0 := hbr.cell 0; have hq1 := hbr.cell 1; have hf0 := hbr.frozen 0; have hf1 := hbr.frozen 1; have hbx := ((((blk_at w 111 #[.bool b, .slice A gx.length c] w.heap.size rfl).alloc (.cells #[.bool b, .slice A' gy.length c'] 111)).alloc (.cells #[.bool false, .slice none 0 0] 111)).drew).ext hx1; have hy0 := hbx.cell 0; have hy1 := hbx.cell 1; have hby := (((blk_at (w.alloc (.cells #[.bool b, .slice A gx.length c] 111)) 111 #[.bool b, .slice A' gy.length c'] (w.heap.size + 1) (by simp)).alloc (.cells #[.bool false, .slice none 0 0] 111)).drew).ext hx1; have hz1 := hby.cell 1; simp only [List.getElem?_toArray, List.getElem?_cons_zero, List.getElem?_cons_succ] at hq0 hq1 hy0 hy1 hz1; have HBR1 := Lib.hid hbr; have HX1 := Lib.hid (HX0.out.drew.trans hx1); have HRD := Lib.hid hrd; have HC := Lib.hid (And.intro hc1 hc2); clear hbr hbx hby hx1 hrd hc1 hc2))
  all_goals
    go_wp2_with fail
    refine bodyPost_ret (results_num rfl _ _ (w.heap.size + 1 + 1) (.bool b) (.slice A1 (gr (x + y)).length c1) rfl ((HBR1.out.set_ 0 (.bool b)).set_ 1 (.slice A1 (gr (x + y)).length c1))) rfl ?_
    have hne := HRD.out.box HBR1.out
    exact ⟨b, x + y, A1, c1, rfl, HS.out, (HRD.out.far (.bool b) hne).far _ hne, (HX1.out.setCell (p := ⟨w.heap.size + 1 + 1, 0, none⟩) (by show w.heap.size ≤ w.heap.size + 1 + 1; omega) _).setCell (p := ⟨w.heap.size + 1 + 1, 1, none⟩) (by show w.heap.size ≤ w.heap.size + 1 + 1; omega) _, HC.out.1, HC.out.2⟩
end Go.Proofs.YteeampgbmpolfaaGreatDoor

/- The walk over the program's sum of numbers of different signs. -/
namespace Go.Proofs.YteeampgbmpolfaaGreatDoor
open Go.RowKit
attribute [local go_sem] size_bs toList_bs

set_option maxRecDepth 100000 in
set_option maxHeartbeats 2000000 in
theorem intAdd_diff (b : Bool) (x y : Nat) (A A' : Option Addr) (c c' : Nat) (w : World) (hA : RdU w A (gr x)) (hA' : RdU w A' (gr y)) (hn : (gr x).length ≤ 1000000) (hn' : (gr y).length ≤ 1000000) :
    Calls Tryz.prog 77 #[.agg #[.bool b, .slice A (gr x).length c], .agg #[.bool (!b), .slice A' (gr y).length c']] w (AddEnds (sgn b x + sgn (!b) y) w) := by
  have HA := Lib.hid hA
  have HA' := Lib.hid hA'
  have HCP := Lib.hid (fun W h1 h2 => intCompare x y A A' c c' W h1 h2 hn hn')
  have HM1 := Lib.hid (fun h W h1 h2 => intMinus x y h A A' c c' W h1 h2 hn hn')
  have HM2 := Lib.hid (fun h W h1 h2 => intMinus y x h A' A c' c W h1 h2 hn' hn)
  have HS1 : Hid (y ≤ x → sgn b (x - y) = sgn b x + sgn (!b) y) := Lib.hid (by intro h; unfold sgn; cases b <;> simp <;> omega)
  have HS2 : Hid (x ≤ y → sgn (!b) (y - x) = sgn b x + sgn (!b) y) := Lib.hid (by intro h; unfold sgn; cases b <;> simp <;> omega)
  generalize gr x = gx at *
  generalize gr y = gy at *
  clear hA hA'
  have hbb : (b == !b) = false := by cases b <;> rfl
  generalize hnb : (!b) = nb at *
  clear hnb
  have HX0 : Hid (Ext w (((w.alloc (.cells #[.bool b, .slice A gx.length c] 111)).alloc (.cells #[.bool nb, .slice A' gy.length c'] 111)).alloc (.cells #[.bool false, .slice none 0 0] 111))) := Lib.hid (((Ext.new _ _).alloc _).alloc _)
  have HBR := Lib.hid (blk_at ((w.alloc (.cells #[.bool b, .slice A gx.length c] 111)).alloc (.cells #[.bool nb, .slice A' gy.length c'] 111)) 111 #[.bool false, .slice none 0 0] (w.heap.size + 1 + 1) (by simp))
  have HBX := Lib.hid (((blk_at w 111 #[.bool b, .slice A gx.length c] w.heap.size rfl).alloc (.cells #[.bool nb, .slice A' gy.length c'] 111)).alloc (.cells #[.bool false, .slice none 0 0] 111))
  have HBY := Lib.hid ((blk_at (w.alloc (.cells #[.bool b, .slice A gx.length c] 111)) 111 #[.bool nb, .slice A' gy.length c'] (w.heap.size + 1) (by simp)).alloc (.cells #[.bool false, .slice none 0 0] 111))
  have hn1 : w.heap.size ≠ w.heap.size + 1 + 1 := by omega
  have hn2 : w.heap.size + 1 + 1 ≠ w.heap.size := by omega
  have hn3 : ¬ (w.heap.size = w.heap.size + 1 + 1) := by omega
  go_enter Tryz.func77, Tryz.ntmps77
  go_wp2_with fail
  refine (HCP.out _ (HA.out.ext HX0.out) (HA'.out.ext HX0.out)).mono ?_
  rintro e w1 ⟨hx1, r, rfl, hcase⟩
  have hbx := HBX.out.ext hx1
  have hby := HBY.out.ext hx1
  have hbr := HBR.out.ext hx1
  have x0 := hbx.cell 0
  have x1 := hbx.cell 1
  have y0 := hby.cell 0
  have y1 := hby.cell 1
  have xf0 := hbx.frozen 0
  have xf1 := hbx.frozen 1
  have yf0 := hby.frozen 0
  have yf1 := hby.frozen 1
  simp only [List.getElem?_toArray, List.getElem?_cons_zero, List.getElem?_cons_succ] at x0 x1 y0 y1
  have HX1 := Lib.hid (HX0.out.trans hx1)
  have HBX1 := Lib.hid hbx
  have HBY1 := Lib.hid hby
  have HBR1 := Lib.hid hbr
  clear hbx hby hbr hx1 HX0 HBX HBY HBR
  by_cases hr : r < 0
  · have hle : x ≤ y := by omega
    have HM := Lib.hid (HM2.out hle)
    have HS := Lib.hid (HS2.out hle)
    clear hcase hle
    have HBXW : Hid (Blk ((((w1.setCell ⟨w.heap.size, 0, none⟩ (.bool nb)).setCell ⟨w.heap.size, 1, none⟩ (.slice A' gy.length c')).setCell ⟨w.heap.size + 1, 0, none⟩ (.bool b)).setCell ⟨w.heap.size + 1, 1, none⟩ (.slice A gx.length c)) w.heap.size 111 #[.bool nb, .slice A' gy.length c']) := Lib.hid ((((HBX1.out.set_ 0 (.bool nb)).set_ 1 (.slice A' gy.length c')).far (p := ⟨w.heap.size + 1, 0, none⟩) (by show w.heap.size ≠ w.heap.size + 1; omega) _).far (p := ⟨w.heap.size + 1, 1, none⟩) (by show w.heap.size ≠ w.heap.size + 1; omega) _)
    have HBYW : Hid (Blk ((((w1.setCell ⟨w.heap.size, 0, none⟩ (.bool nb)).setCell ⟨w.heap.size, 1, none⟩ (.slice A' gy.length c')).setCell ⟨w.heap.size + 1, 0, none⟩ (.bool b)).setCell ⟨w.heap.size + 1, 1, none⟩ (.slice A gx.length c)) (w.heap.size + 1) 111 #[.bool b, .slice A gx.length c]) := Lib.hid ((((HBY1.out.far (p := ⟨w.heap.size, 0, none⟩) (by show w.heap.size + 1 ≠ w.heap.size; omega) (.bool nb)).far (p := ⟨w.heap.size, 1, none⟩) (by show w.heap.size + 1 ≠ w.heap.size; omega) (.slice A' gy.length c')).set_ 0 (.bool b)).set_ 1 (.slice A gx.length c))
    have HBRW : Hid (Blk ((((w1.setCell ⟨w.heap.size, 0, none⟩ (.bool nb)).setCell ⟨w.heap.size, 1, none⟩ (.slice A' gy.length c')).setCell ⟨w.heap.size + 1, 0, none⟩ (.bool b)).setCell ⟨w.heap.size + 1, 1, none⟩ (.slice A gx.length c)) (w.heap.size + 1 + 1) 111 #[.bool false, .slice none 0 0]) := Lib.hid ((((HBR1.out.far (p := ⟨w.heap.size, 0, none⟩) (by show w.heap.size + 1 + 1 ≠ w.heap.size; omega) _).far (p := ⟨w.heap.size, 1, none⟩) (by show w.heap.size + 1 + 1 ≠ w.heap.size; omega) _).far (p := ⟨w.heap.size + 1, 0, none⟩) (by show w.heap.size + 1 + 1 ≠ w.heap.size + 1; omega) _).far (p := ⟨w.heap.size + 1, 1, none⟩) (by show w.heap.size + 1 + 1 ≠ w.heap.size + 1; omega) _)
    have HXW : Hid (Ext w ((((w1.setCell ⟨w.heap.size, 0, none⟩ (.bool nb)).setCell ⟨w.heap.size, 1, none⟩ (.slice A' gy.length c')).setCell ⟨w.heap.size + 1, 0, none⟩ (.bool b)).setCell ⟨w.heap.size + 1, 1, none⟩ (.slice A gx.length c))) := Lib.hid ((((HX1.out.setCell (p := ⟨w.heap.size, 0, none⟩) (Nat.le_refl _) _).setCell (p := ⟨w.heap.size, 1, none⟩) (Nat.le_refl _) _).setCell (p := ⟨w.heap.size + 1, 0, none⟩) (Nat.le_succ _) _).setCell (p := ⟨w.heap.size + 1, 1, none⟩) (Nat.le_succ _) _)
    go_wp2_with fail
    generalize ((((w1.setCell ⟨w.heap.size, 0, none⟩ (.bool nb)).setCell ⟨w.heap.size, 1, none⟩ (.slice A' gy.length c')).setCell ⟨w.heap.size + 1, 0, none⟩ (.bool b)).setCell ⟨w.heap.size + 1, 1, none⟩ (.slice A gx.length c)) = W at *
    have x0' := HBXW.out.cell 0
    have x1' := HBXW.out.cell 1
    have y1' := HBYW.out.cell 1
    simp only [List.getElem?_toArray, List.getElem?_cons_zero, List.getElem?_cons_succ] at x0' x1' y1'
    go_region_held3 (fun w' => w'.cell? ⟨w.heap.size, 0, none⟩ = some (.bool nb) ∧ w'.cell? ⟨w.heap.size, 1, none⟩ = some (.slice A' gy.length c') ∧ w'.cell? ⟨w.heap.size + 1, 1, none⟩ = some (.slice A gx.length c))
      (go_keep)
      (first
        | (go_at_call 108; refine (HM.out _ (HA'.out.ext HXW.out.drew) (HA.out.ext HXW.out.drew)).mono ?_; rintro e w2 ⟨A1, c1, rfl, hrd, hx2, hc1, hc2⟩; have hbr := HBRW.out.drew.ext hx2; have q0 := hbr.cell 0; have q1 := hbr.cell 1; have f0 := hbr.frozen 0; have f1 := hbr.frozen 1; have hbx := HBXW.out.drew.ext hx2; have u0 := hbx.cell 0; have u1 := hbx.cell 1; have hby := HBYW.out.drew.ext hx2; have v1 := hby.cell 1; simp only [List.getElem?_toArray, List.getElem?_cons_zero, List.getElem?_cons_succ] at q0 q1 u0 u1 v1; have HBR2 := Lib.hid hbr; have HX2 := Lib.hid (HXW.out.drew.trans hx2); have HRD := Lib.hid hrd; have HC := Lib.hid (And.intro hc1 hc2); clear hbr hbx hby hx2 hrd hc1 hc2))
    all_goals
      go_wp2_with fail
      refine bodyPost_ret (results_num rfl _ _ (w.heap.size + 1 + 1) (.bool nb) (.slice A1 (gr (y - x)).length c1) rfl ((HBR2.out.set_ 0 (.bool nb)).set_ 1 (.slice A1 (gr (y - x)).length c1))) rfl ?_
      have hne := HRD.out.box HBR2.out
      exact ⟨nb, y - x, A1, c1, rfl, HS.out, (HRD.out.far (.bool nb) hne).far _ hne, (HX2.out.setCell (p := ⟨w.heap.size + 1 + 1, 0, none⟩) (by show w.heap.size ≤ w.heap.size + 1 + 1; omega) _).setCell (p := ⟨w.heap.size + 1 + 1, 1, none⟩) (by show w.heap.size ≤ w.heap.size + 1 + 1; omega) _, HC.out.1, HC.out.2⟩
  · have hle : y ≤ x := by omega
    have HM := Lib.hid (HM1.out hle)
    have HS := Lib.hid (HS1.out hle)
    clear hcase hle
    go_wp2_with fail
    have HBXW := HBX1
    have HBYW := HBY1
    have HBRW := HBR1
    have HXW := HX1
    go_region_held3 (fun w' => w'.cell? ⟨w.heap.size, 0, none⟩ = some (.bool b) ∧ w'.cell? ⟨w.heap.size, 1, none⟩ = some (.slice A gx.length c) ∧ w'.cell? ⟨w.heap.size + 1, 1, none⟩ = some (.slice A' gy.length c'))
      (go_keep)
      (first
        | (go_at_call 108; refine (HM.out _ (HA.out.ext HXW.out.drew) (HA'.out.ext HXW.out.drew)).mono ?_; rintro e w2 ⟨A1, c1, rfl, hrd, hx2, hc1, hc2⟩; have hbr := HBRW.out.drew.ext hx2; have q0 := hbr.cell 0; have q1 := hbr.cell 1; have f0 := hbr.frozen 0; have f1 := hbr.frozen 1; have hbx := HBXW.out.drew.ext hx2; have u0 := hbx.cell 0; have u1 := hbx.cell 1; have hby := HBYW.out.drew.ext hx2; have v1 := hby.cell 1; simp only [List.getElem?_toArray, List.getElem?_cons_zero, List.getElem?_cons_succ] at q0 q1 u0 u1 v1; have HBR2 := Lib.hid hbr; have HX2 := Lib.hid (HXW.out.drew.trans hx2); have HRD := Lib.hid hrd; have HC := Lib.hid (And.intro hc1 hc2); clear hbr hbx hby hx2 hrd hc1 hc2))
    all_goals
      go_wp2_with fail
      refine bodyPost_ret (results_num rfl _ _ (w.heap.size + 1 + 1) (.bool b) (.slice A1 (gr (x - y)).length c1) rfl ((HBR2.out.set_ 0 (.bool b)).set_ 1 (.slice A1 (gr (x - y)).length c1))) rfl ?_
      have hne := HRD.out.box HBR2.out
      exact ⟨b, x - y, A1, c1, rfl, HS.out, (HRD.out.far (.bool b) hne).far _ hne, (HX2.out.setCell (p := ⟨w.heap.size + 1 + 1, 0, none⟩) (by show w.heap.size ≤ w.heap.size + 1 + 1; omega) _).setCell (p := ⟨w.heap.size + 1 + 1, 1, none⟩) (by show w.heap.size ≤ w.heap.size + 1 + 1; omega) _, HC.out.1, HC.out.2⟩
theorem intAdd (b b' : Bool) (x y : Nat) (A A' : Option Addr) (c c' : Nat) (w : World) (hA : RdU w A (gr x)) (hA' : RdU w A' (gr y)) (hn : (gr x).length ≤ 1000000) (hn' : (gr y).length ≤ 1000000) :
    Calls Tryz.prog 77 #[.agg #[.bool b, .slice A (gr x).length c], .agg #[.bool b', .slice A' (gr y).length c']] w (AddEnds (sgn b x + sgn b' y) w) := by
  by_cases h : b' = b
  · subst h; exact intAdd_same b' x y A A' c c' w hA hA' hn hn'
  · have e : b' = !b := by cases b <;> cases b' <;> simp_all
    subst e; exact intAdd_diff b x y A A' c c' w hA hA' hn hn'
end Go.Proofs.YteeampgbmpolfaaGreatDoor

/- Plain: the digits of a number out of its groups. No program in sight. -/
namespace Go.Proofs.YteeampgbmpolfaaGreatDoor
open Go.RowKit
/-- what a machine number's text is: 0 has one digit -/
def fmtU (g : Nat) : Bs := if g = 0 then [48] else dig10 g
def pad9 (g : Nat) : Bs := List.replicate (9 - (fmtU g).length) 48 ++ fmtU g
theorem dig10_len {g L : Nat} (h : g < 10 ^ L) : (dig10 g).length ≤ L := by
  induction L generalizing g with
  | zero => have : g = 0 := by simpa using h
            subst this; rw [dig10_zero]; simp
  | succ L ih =>
    by_cases h0 : g = 0
    · subst h0; rw [dig10_zero]; simp
    · rw [dig10_pos h0, List.length_append, List.length_singleton]
      have : g / 10 < 10 ^ L := by rw [Nat.div_lt_iff_lt_mul (by decide)]; rw [Nat.pow_succ] at h; exact h
      have := ih this; omega
theorem fmtU_all (g : Nat) : (fmtU g).all isD = true := by unfold fmtU; split; rfl; exact dig10_all g
theorem fmtU_val (g : Nat) : natOf (fmtU g) = g := by
  unfold fmtU; split
  · rename_i h; rw [h]; rfl
  · exact natOf_dig10 g
theorem fmtU_len {g : Nat} (h : g < B9) : (fmtU g).length ≤ 9 := by
  unfold fmtU; split
  · simp
  · exact dig10_len (L := 9) h
theorem fmtU_pos (g : Nat) : 1 ≤ (fmtU g).length := by
  unfold fmtU; split
  · simp
  · rename_i h; have := dig10_ne h; cases hh : dig10 g with
    | nil => exact absurd hh this
    | cons => simp
theorem natOf_zeros (k : Nat) (l : Bs) : natOf (List.replicate k 48 ++ l) = natOf l := by
  rw [natOf_append]
  have : natOf (List.replicate k 48) = 0 := by
    induction k with
    | zero => rfl
    | succ k ih => rw [List.replicate_succ', natOf_snoc, ih]; decide
  rw [this]; simp
theorem pad9_val (g : Nat) : natOf (pad9 g) = g := by unfold pad9; rw [natOf_zeros, fmtU_val]
theorem pad9_len {g : Nat} (h : g < B9) : (pad9 g).length = 9 := by
  have := fmtU_len h; unfold pad9; rw [List.length_append, List.length_replicate]; omega
theorem pad9_all (g : Nat) : (pad9 g).all isD = true := by
  unfold pad9; rw [List.all_append, fmtU_all, Bool.and_true, List.all_eq_true]
  intro x hx; rw [List.eq_of_mem_replicate hx]; decide
/-- the lower groups, written behind the highest one -/
def lowT (r : List Nat) : Bs := r.reverse.flatMap pad9
theorem lowT_snoc (r : List Nat) (g : Nat) : lowT (r ++ [g]) = pad9 g ++ lowT r := by unfold lowT; simp
theorem lowT_cons (g : Nat) (r : List Nat) : lowT (g :: r) = lowT r ++ pad9 g := by unfold lowT; simp
theorem lowT_all (r : List Nat) : (lowT r).all isD = true := by
  induction r with
  | nil => rfl
  | cons g r ih => rw [lowT_cons, List.all_append, ih, pad9_all]; rfl
theorem top_val (top : Nat) : ∀ (r : List Nat), (∀ g ∈ r, g < B9) → natOf (fmtU top ++ lowT r) = gval (r ++ [top])
  | [], _ => by simp [lowT, gval, fmtU_val]
  | g :: r, h => by
    have hg := h g (by simp)
    rw [lowT_cons, ← List.append_assoc, natOf_append, pad9_len hg, pad9_val, top_val top r (fun x hx => h x (by simp [hx]))]
    show _ = g + B9 * gval (r ++ [top])
    rw [show (10 : Nat) ^ 9 = B9 from rfl, Nat.mul_comm]; omega
/-- THE TEXT OF THE GROUPS IS THE NUMBER's -/
theorem text_gr {n top : Nat} {r : List Nat} (h : gr n = r ++ [top]) : fmtU top ++ lowT r = dig10 n := by
  have hb := gr_lt n
  rw [h] at hb
  have ht : top ≠ 0 := gr_top n r top h
  have hv := top_val top r (fun g hg => hb g (by simp [hg]))
  rw [← h, gval_gr] at hv
  rw [← hv, dig10_natOf]
  · rw [List.all_append, fmtU_all, lowT_all]; rfl
  · intro c q e
    have hf : fmtU top = dig10 top := by unfold fmtU; rw [if_neg ht]
    rw [hf] at e
    have hne := dig10_ne ht
    cases hd : dig10 top with
    | nil => exact absurd hd hne
    | cons x s =>
      rw [hd] at e; injection e with e1 e2; subst e1
      intro hx; subst hx
      have h1 := natOf_dig10 top
      have h2 : natOf (48 :: s) = natOf s := natOf_zeros 1 s
      rw [hd, h2] at h1
      have h3 : (dig10 top).length ≤ s.length := dig10_len (by rw [← h1]; exact natOf_lt (by have := dig10_all top; rw [hd] at this; simp only [List.all_cons, Bool.and_eq_true] at this; exact this.2))
      rw [hd] at h3; simp at h3; omega
end Go.Proofs.YteeampgbmpolfaaGreatDoor

/- The walk over the library's FormatUint. -/
namespace Go.Proofs.YteeampgbmpolfaaGreatDoor
open Go.RowKit Go.Lib Go.Sort

set_option maxRecDepth 100000 in
set_option maxHeartbeats 2000000 in
theorem fmtIn (u : Nat) (hu64 : u < 9223372036854775808) (w : World) (hE : Env w) :
    Calls Tryz.prog 158 #[.int .u64 u, .int .i64 10] w fun e w' => e = .returned (.string (bs (Lib.decDigits u))) ∧ Ext w w' := by
  by_cases hs : u < 100
  · go_enter Tryz.func158, Tryz.ntmps158
    go_wp2_with fail
    refine (Tryz.internal_strconv_small u hs _).mono ?_
    rintro e w' ⟨rfl, rfl⟩
    go_wp2_with fail
    go_ret
    exact ⟨rfl, Ext.refl _⟩
  · have hu1 : 1 ≤ u := by omega
    have hu : u < 18446744073709551616 := by omega
    have hnd20 : Lib.nDigits u ≤ 20 := by have := Lib.numDigits_eq u hu1 hu; split at this <;> omega
    have hH0 := Lib.holds_zero0 w 213 (Lib.nDigits u) (by omega)
    have hfmt := Tryz.internal_strconv_formatBase10 w.heap.size 0 24 u (Array.replicate (Lib.nDigits u) 0) (w.alloc (.cells Lib.zeros24 213)) hH0 (by rw [Array.size_replicate]; exact Lib.lt_pow_nDigits u) hu (by rw [Array.size_replicate]; omega)
    rw [Array.size_replicate] at hfmt
    have HH0 := Lib.hid hH0
    have HF := Lib.hid hfmt
    have HT := Lib.hid (Lib.tabIs_alloc hE.tab (.cells Lib.zeros24 213))
    clear hH0 hfmt
    have hal : Tryz.prog.arrayLen 213 = 24 := by kernel_rfl
    have hsl : ∀ W, (Instr.sliceAt 213 (.pointer (some ⟨w.heap.size, 0, none⟩)) none (some (.int .i64 (Lib.nDigits u : Int))) none).run Tryz.prog W = .ok (.slice (some ⟨w.heap.size, 0, none⟩) (Lib.nDigits u) 24) W := fun W => by
      rw [run_sliceAt_array_h W 213 ⟨w.heap.size, 0, none⟩ (by simp [Program.arrayLen, Program.elem, Tryz.underlying213]) .i64 (Lib.nDigits u : Int) (by omega) (by rw [hal]; omega)]
      rw [hal, Int.toNat_natCast, show Tryz.prog.elem 213 = 5 from by kernel_rfl, Tryz.sizeOf5]
      simp [Result.andThen, slicedAt, Addr.add]
    clear hal
    go_enter Tryz.func158, Tryz.ntmps158
    go_wp2_with fail
    refine (Tryz.internal_strconv_numDigits u hu1 hu _ HT.out).mono ?_
    rintro e w' ⟨rfl, rfl⟩
    go_wp2_with fail
    refine HF.out.mono ?_
    rintro e w' ⟨rfl, k, v', dk, rfl, hF⟩
    have hcv : (convert 67 9 (.slice (some ⟨w.heap.size, 0, none⟩) (Lib.nDigits u) 24)).run Tryz.prog ((putRow (fun (b : UInt8) => Value.int .u8 (b.toNat : Int)) (w.alloc (.cells Lib.zeros24 213)) w.heap.size 0 dk).drewN k) = .ok (.string ⟨(Lib.decDigits u).toArray⟩) ((putRow (fun (b : UInt8) => Value.int .u8 (b.toNat : Int)) (w.alloc (.cells Lib.zeros24 213)) w.heap.size 0 dk).drewN k) := by
      have h := run_convert_bytes_back (P := Tryz.prog) ((putRow (fun (b : UInt8) => Value.int .u8 (b.toNat : Int)) (w.alloc (.cells Lib.zeros24 213)) w.heap.size 0 dk).drewN k) 67 9 5 ⟨w.heap.size, 0, none⟩ 24 (Lib.decDigits u) Tryz.underlying67 Tryz.underlying5 Tryz.underlying9 (fun j hj => by
        rw [Lib.row_is_numeral hF j hj, Lib.add_plain, World.cell?_drewN]
        exact cell?_putRow (fun (b : UInt8) => Value.int .u8 (b.toNat : Int)) _ w.heap.size 0 _ dk HH0.out (by rw [hF.size, Array.size_replicate]) j (by rw [hF.size]; rw [Lib.decDigits_length] at hj; exact hj))
      rw [Lib.decDigits_length] at h
      exact h
    obtain ⟨os, eo⟩ := Lib.fin_at w (.cells Lib.zeros24 213) dk k 0
    have HX : Hid (Ext w ((putRow (fun (b : UInt8) => Value.int .u8 (b.toNat : Int)) (w.alloc (.cells Lib.zeros24 213)) w.heap.size 0 dk).drewN k)) := Lib.hid (by rw [eo]; exact Lib.below_grow _ w (Nat.le_refl _) k os)
    clear eo hF
    generalize (putRow (fun (b : UInt8) => Value.int .u8 (b.toNat : Int)) (w.alloc (.cells Lib.zeros24 213)) w.heap.size 0 dk).drewN k = W at *
    go_wp2_with fail
    go_ret
    exact ⟨rfl, HX.out⟩
theorem dec_pos (u : Nat) (h : u ≠ 0) : Lib.decDigits u = dig10 u := by
  induction u using Nat.strongRecOn with
  | ind u ih =>
    rw [Lib.decDigits]
    by_cases h10 : u < 10
    · rw [dif_pos h10, dig10_pos h, show u / 10 = 0 by omega, dig10_zero, Nat.mod_eq_of_lt h10]; rfl
    · rw [dif_neg h10, dig10_pos h, ih (u / 10) (by omega) (by omega)]
theorem dec_fmtU (u : Nat) : Lib.decDigits u = fmtU u := by
  unfold fmtU; split
  · rename_i h; subst h; rw [Lib.decDigits]; rfl
  · exact dec_pos u (by assumption)
theorem fmtUint (u : Nat) (hu64 : u < 9223372036854775808) (w : World) (hE : Env w) :
    Calls Tryz.prog 113 #[.int .u64 u, .int .i64 10] w fun e w' => e = .returned (.string (bs (fmtU u))) ∧ Ext w w' := by
  go_enter Tryz.func113, Tryz.ntmps113
  go_wp2_with fail
  refine (fmtIn u hu64 _ hE).mono ?_
  rw [dec_fmtU]
  rintro e w' ⟨rfl, hx⟩
  go_wp2_with fail
  go_ret
  exact ⟨rfl, hx⟩
end Go.Proofs.YteeampgbmpolfaaGreatDoor

/- Plain: the values of strings that are written digit by digit. No program in sight. -/
namespace Go.Proofs.YteeampgbmpolfaaGreatDoor
open Go.RowKit

theorem natOf_noZeros (t : Bs) : natOf (noZeros t) = natOf t := by
  induction t with
  | nil => rfl
  | cons c r ih =>
    by_cases hc : (c == 48) = true
    · have e : noZeros (c :: r) = noZeros r := by simp only [noZeros]; rw [if_pos hc]
      obtain rfl : c = 48 := by simpa using hc
      rw [e, ih]; exact (natOf_zeros 1 r).symm
    · have e : noZeros (c :: r) = c :: r := by simp only [noZeros]; rw [if_neg hc]
      rw [e]
theorem isMin_dig {t : Bs} (h : t.all isD = true) : isMin t = false := by
  cases t with
  | nil => rfl
  | cons c r =>
    simp only [List.all_cons, Bool.and_eq_true] at h
    have := (isD_iff c).1 h.1
    simp only [isMin, beq_eq_false_iff_ne]
    rintro rfl; revert this; decide
theorem valI_dig {t : Bs} (h : t.all isD = true) : valI t = (natOf t : Int) := by
  have hm : mag t = noZeros t := by
    show magT (strip t) = _
    unfold strip; rw [isMin_dig h]; exact magT_good t h
  have hn : neg t = false := by show negT (isMin t) (strip t) = false; rw [isMin_dig h]; rfl
  unfold valI; rw [hn, hm, natOf_noZeros]; rfl
theorem valI_min {t : Bs} (h : t.all isD = true) : valI (45 :: t) = -(natOf t : Int) := by
  have hm : mag (45 :: t) = noZeros t := magT_good t h
  have hn : neg (45 :: t) = !(noZeros t).isEmpty := by
    show negT true t = _
    unfold negT; rw [magT_good t h]; rfl
  unfold valI; rw [hn, hm, natOf_noZeros]
  cases hz : noZeros t with
  | nil =>
    have := natOf_noZeros t
    rw [hz, natOf_nil] at this
    rw [← this]; rfl
  | cons c r => rfl
theorem valI_ofI (z : Int) : valI (ofI z) = z := by
  unfold ofI; split
  · rw [valI_min (dig10_all _), natOf_dig10]; omega
  · rw [valI_dig (dig10_all _), natOf_dig10]; omega
theorem lowT_val : ∀ (r : List Nat), (∀ g ∈ r, g < B9) → natOf (lowT r) = gval r
  | [], _ => rfl
  | g :: r, h => by
    rw [lowT_cons, natOf_append, pad9_len (h g (by simp)), pad9_val, lowT_val r (fun x hx => h x (by simp [hx]))]
    show _ = g + B9 * gval r
    rw [show (10 : Nat) ^ 9 = B9 from rfl, Nat.mul_comm]; omega
/-- the canonical text of a sign and groups -/
theorem canon_low (b : Bool) (gs : List Nat) (h : ∀ g ∈ gs, g < B9) : canon (if b then 45 :: lowT gs else lowT gs) = ofI (if b then -(gval gs : Int) else gval gs) := by
  rw [canon_ofI]
  cases b
  · rw [if_neg (by decide), if_neg (by decide), valI_dig (lowT_all gs), lowT_val gs h]
  · rw [if_pos rfl, if_pos rfl, valI_min (lowT_all gs), lowT_val gs h]
theorem ofI_nil_iff (z : Int) : ofI z = [] ↔ z = 0 := by
  constructor
  · intro h
    have := valI_ofI z
    rw [h] at this; rw [← this]; decide
  · rintro rfl; unfold ofI; rw [if_neg (by decide)]; exact dig10_zero
/-- the digits from below: the text of the last j digits of n, nine of them are pad9 -/
def lastT (n : Nat) : Nat → Bs | 0 => [] | j + 1 => UInt8.ofNat (48 + n / 10 ^ j % 10) :: lastT n j
theorem lastT_len (n j : Nat) : (lastT n j).length = j := by induction j with | zero => rfl | succ j ih => simp [lastT, ih]
theorem dig_isD (n : Nat) : isD (UInt8.ofNat (48 + n % 10)) = true := (dig_of _ (Nat.mod_lt _ (by decide))).1
theorem lastT_all (n j : Nat) : (lastT n j).all isD = true := by
  induction j with
  | zero => rfl
  | succ j ih => rw [lastT, List.all_cons, ih, Bool.and_true]; exact dig_isD _
theorem lastT_val (n j : Nat) : natOf (lastT n j) = n % 10 ^ j := by
  induction j with
  | zero => simp [lastT, natOf, Nat.mod_one]
  | succ j ih =>
    have e : natOf (lastT n (j + 1)) = natOf [UInt8.ofNat (48 + n / 10 ^ j % 10)] * 10 ^ (lastT n j).length + natOf (lastT n j) := natOf_append [_] (lastT n j)
    have e2 : natOf [UInt8.ofNat (48 + n / 10 ^ j % 10)] = n / 10 ^ j % 10 := by
      show 10 * 0 + dval _ = _
      rw [dval_dig (Nat.mod_lt _ (by decide))]; omega
    rw [e, e2, lastT_len, ih, Nat.pow_succ, Nat.mod_mul, Nat.mul_comm]; omega
theorem dig_inj : ∀ {a b : Bs}, a.all isD = true → b.all isD = true → a.length = b.length → natOf a = natOf b → a = b := by
  intro a
  induction a using snocInd with
  | h0 => intro b _ _ hl _; exact (List.length_eq_zero_iff.1 hl.symm).symm
  | h1 a x ih =>
    intro b ha hb hl hv
    have hne : b ≠ [] := by intro h; subst h; simp at hl
    obtain ⟨b', y, rfl⟩ : ∃ b' y, b = b' ++ [y] := ⟨b.dropLast, b.getLast hne, (List.dropLast_concat_getLast hne).symm⟩
    rw [List.all_append, Bool.and_eq_true] at ha hb
    rw [natOf_snoc, natOf_snoc] at hv
    have hx : isD x = true := by simpa using ha.2
    have hy : isD y = true := by simpa using hb.2
    have h1 := dval_lt hx
    have h2 := dval_lt hy
    have h3 : dval x = dval y := by omega
    have h4 : natOf a = natOf b' := by omega
    rw [ih ha.1 hb.1 (by simpa using hl) h4]
    have hx' := (isD_iff x).1 hx
    have hy' := (isD_iff y).1 hy
    have : x = y := UInt8.toNat_inj.1 (by unfold dval at h3; omega)
    rw [this]
theorem lastT_nine {g : Nat} (h : g < B9) : lastT g 9 = pad9 g := by
  refine dig_inj (lastT_all g 9) (pad9_all g) (by rw [lastT_len, pad9_len h]) ?_
  rw [lastT_val, pad9_val]; exact Nat.mod_eq_of_lt h
theorem natOf_take_succ (m : Bs) (k : Nat) (h : k < m.length) : natOf (m.take (k + 1)) = 10 * natOf (m.take k) + dval (m[k]'h) := by
  rw [List.take_succ_eq_append_getElem h, natOf_snoc]
theorem lowT_len (r : List Nat) (h : ∀ g ∈ r, g < B9) : (lowT r).length = 9 * r.length := by
  induction r with
  | nil => rfl
  | cons g r ih => rw [lowT_cons, List.length_append, ih (fun x hx => h x (by simp [hx])), pad9_len (h g (by simp)), List.length_cons]; omega
end Go.Proofs.YteeampgbmpolfaaGreatDoor

/- The walk over the program's text of a number. -/
namespace Go.Proofs.YteeampgbmpolfaaGreatDoor
open Go.RowKit
attribute [local go_sem] size_bs toList_bs extract_bs get_bs append_bs lit_append append_lit

theorem bldWrite (B b : Nat) (cur l : Bs) (w : World) (hB : Bld B b cur w) (hl : cur.length + l.length ≤ 1000000000) (hBw : B ≤ w.heap.size) :
    Calls Tryz.prog 41 #[.pointer (some ⟨b, 0, none⟩), .string (bs l)] w fun e w' => e = .returned (.tuple #[.int .i64 l.length, .nilIface]) ∧ Bld B b (cur ++ l) w' ∧ Below B w w' := by
  refine (Tryz.Builder_WriteString_k B b (Lib.byteCells cur) (bs l) w hB (by rw [Lib.byteCells_length, size_bs]; omega) hBw).mono ?_
  rintro e w' ⟨rfl, h1, h2, _⟩
  have e : Lib.byteCells cur ++ Lib.strCells (bs l) = Lib.byteCells (cur ++ l) := by
    unfold Lib.strCells Lib.byteCells; rw [data_bs]; exact List.map_append.symm
  rw [e] at h1
  exact ⟨by rw [size_bs], .inr h1, h2⟩
theorem bldMinus (B b : Nat) (cur : Bs) (w : World) (hB : Bld B b cur w) (hl : cur.length ≤ 1000000000) (hBw : B ≤ w.heap.size) :
    Calls Tryz.prog 112 #[.pointer (some ⟨b, 0, none⟩), .int .u8 45] w fun e w' => e = .returned .nilIface ∧ Bld B b (cur ++ [45]) w' ∧ Below B w w' := by
  refine (Tryz.Builder_WriteByte_k B b (Lib.byteCells cur) 45 w hB (by rw [Lib.byteCells_length]; omega) hBw).mono ?_
  rintro e w' ⟨rfl, h1, h2, _⟩
  have e : Lib.byteCells cur ++ [.int .u8 45] = Lib.byteCells (cur ++ [45]) := by
    unfold Lib.byteCells; rw [List.map_append]; rfl
  rw [e] at h1
  exact ⟨rfl, .inr h1, h2⟩
theorem repeat_zero (k : Nat) : Lib.repeatL [48] k = List.replicate k 48 := by
  induction k with
  | zero => rfl
  | succ k ih => rw [List.replicate_succ, ← ih]; simp [Lib.repeatL]
def txt (b : Bool) (n : Nat) : Bs := if n = 0 then [] else if b then 45 :: dig10 n else dig10 n
theorem txt_ofI (b : Bool) (n : Nat) : txt b n = ofI (sgn b n) := by
  by_cases h : n = 0
  · subst h
    have e : sgn b 0 = 0 := by cases b <;> rfl
    rw [e, (ofI_nil_iff 0).2 rfl]; rfl
  · cases b
    · have e : sgn false n = (n : Int) := rfl
      have h2 : ofI (n : Int) = dig10 n := by unfold ofI; rw [if_neg (by omega), Int.natAbs_natCast]
      rw [e, h2]; unfold txt; rw [if_neg h]; rfl
    · have e : sgn true n = -(n : Int) := rfl
      have h2 : ofI (-(n : Int)) = 45 :: dig10 n := by unfold ofI; rw [if_pos (by omega), Int.natAbs_neg, Int.natAbs_natCast]
      rw [e, h2]; unfold txt; rw [if_neg h]; rfl
def preT (b : Bool) : Bs := if b then [45] else []
/-- how the loop of text stands -/
def TextAt (b : Bool) (top : Nat) (r : List Nat) (_w w1 : World) (z : Value) (wr : World) : Prop :=
  ∃ k : Nat, k ≤ r.length ∧ z = .int .i64 ((k : Int) - 1) ∧ Bld w1.heap.size w1.heap.size (preT b ++ fmtU top ++ lowT (r.drop k)) wr ∧ Ext w1 wr
set_option maxRecDepth 100000 in
set_option maxHeartbeats 4000000 in
theorem intText (b : Bool) (n : Nat) (A : Option Addr) (c : Nat) (w : World) (hA : RdU w A (gr n)) (hn : (gr n).length ≤ 1000000) (hc : (gr n).length ≤ c) (hm : c ≤ maxLen) (hE : Env w) :
    Calls Tryz.prog 79 #[.agg #[.bool b, .slice A (gr n).length c]] w fun e w' => e = .returned (.string (bs (txt b n))) ∧ Ext w w' := by
  have HCUT := Lib.hid (fun W h => intCut (gr n) A c W h hc hm (gr_lt n))
  rw [cutL_gr_self] at HCUT
  have HE := Lib.hid hE
  clear hE
  by_cases h0 : n = 0
  · subst h0
    have HA := Lib.hid hA
    clear hA
    rw [gr_zero] at *
    go_enter Tryz.func79, Tryz.ntmps79
    go_wp2_with fail
    refine (HCUT.out _ (HA.out.ext (Ext.new _ _))).mono ?_
    rintro e w1 ⟨rfl, rfl⟩
    go_wp2_with fail
    go_ret
    exact ⟨rfl, Ext.new _ _⟩
  · obtain ⟨r, top, hr⟩ : ∃ r top, gr n = r ++ [top] := by
      have : gr n ≠ [] := by rw [gr_pos h0]; simp
      exact ⟨(gr n).dropLast, (gr n).getLast this, (List.dropLast_concat_getLast this).symm⟩
    have HT : Hid (preT b ++ fmtU top ++ lowT r = txt b n) := Lib.hid (by
      rw [List.append_assoc, text_gr hr]; unfold preT txt; rw [if_neg h0]; cases b <;> rfl)
    have hb := gr_lt n
    rw [hr] at hb hA hc HCUT hn ⊢
    have HB := Lib.hid (fun g (hg : g ∈ r) => hb g (List.mem_append_left _ hg))
    have htop : top < 1000000000 := hb top (by simp)
    have hrl : (r ++ [top]).length = r.length + 1 := by simp
    rw [hrl] at hc hn HCUT ⊢
    have hln : r.length ≤ 1000000 := by omega
    have HA := Lib.hid hA
    have hft := fmtU_len (g := top) htop
    clear hA hb hr hrl h0
    go_enter Tryz.func79, Tryz.ntmps79
    go_wp2_with fail
    refine (HCUT.out _ (HA.out.ext (Ext.new _ _))).mono ?_
    rintro e w0 ⟨rfl, rfl⟩
    obtain ⟨ab, ao, rfl, hab, hcell0⟩ := HA.out.at_ (k := r.length) (by simp)
    have HCT : Hid (w.cell? ⟨ab, ao + r.length, none⟩ = some (.int .u64 top)) := Lib.hid (by simpa using hcell0)
    have HCR : Hid (∀ (k : Nat) (h : k < r.length), w.cell? ⟨ab, ao + k, none⟩ = some (.int .u64 (r[k]'h))) := Lib.hid (fun k h => by
      have := Reads.cell HA.out (j := k) (u := .int .u64 (r[k]'h)) (by rw [ucells, List.map_append, List.getElem?_append_left (by simpa using h)]; simp [h])
      exact this)
    clear hcell0
    have HX0 : Hid (Ext w (w.alloc (.cells #[.bool b, .slice (some ⟨ab, ao, none⟩) (r.length + 1) c] 111))) := Lib.hid (Ext.new _ _)
    have HBX := Lib.hid (blk_at w 111 #[.bool b, .slice (some ⟨ab, ao, none⟩) (r.length + 1) c] w.heap.size rfl)
    have x0 := HBX.out.cell 0
    simp only [List.getElem?_toArray, List.getElem?_cons_zero] at x0
    generalize (w.alloc (.cells #[.bool b, .slice (some ⟨ab, ao, none⟩) (r.length + 1) c] 111)) = w1 at *
    have hl1 := HBX.out.lt
    have hlz : ((r.length : Int) + 1 == 0) = false := by rw [beq_eq_false_iff_ne]; omega
    have hab1 : ab < w1.heap.size := Nat.lt_of_lt_of_le hab HX0.out.size
    have hct := (HX0.out.cell (p := ⟨ab, ao + r.length, none⟩) hab).trans HCT.out
    cases b
    · go_wp2_with fail
      refine (fmtUint top (by omega) _ (HE.out.ext (HX0.out.trans (Ext.new _ _)))).mono ?_
      rintro e w2 ⟨rfl, hx2⟩
      have HX2 := Lib.hid hx2
      clear hx2
      go_wp2_with fail
      refine (bldWrite w1.heap.size w1.heap.size [] (fmtU top) _ ((Bld.new w1).ext HX2.out) (by simp; omega) (HX2.out.of_alloc).size).mono ?_
      rintro e w3 ⟨rfl, hB3, hb3⟩
      have HB3 : Hid (Bld w1.heap.size w1.heap.size (preT false ++ fmtU top ++ lowT (r.drop r.length)) w3) := Lib.hid (by
        rw [List.drop_length]; simpa [preT, lowT] using hB3)
      have HX3 : Hid (Ext w1 w3) := Lib.hid (Below.trans (HX2.out.of_alloc) hb3)
      clear hB3 hb3 HX2 hct
      go_wp2_with fail
      go_loopw [5, 6] (fun z _ wr => TextAt false top r w w1 z wr) (fun z _ _ => (intOf z + 1).toNat)
      case atStart => exact ⟨r.length, Nat.le_refl _, by first | rfl | go_num | (congr 1; omega), HB3.out, HX3.out⟩
      case round =>
        clear HB3 HX3
        obtain ⟨k, hk, rfl, hB, hx⟩ := hrel
        have HBr := Lib.hid hB
        have HXr := Lib.hid hx
        clear hB hx
        rcases Nat.eq_zero_or_pos k with h0 | h0
        · subst h0
          have HB9 : Hid (Bld w1.heap.size w1.heap.size (txt false n) wr) := Lib.hid (by rw [← HT.out]; exact HBr.out)
          go_wp2_with fail
          refine (Tryz.Builder_String_any_f w1.heap.size w1.heap.size (txt false n) _ HB9.out HXr.out.size).mono ?_
          rintro e w6 ⟨rfl, _, hb6⟩
          go_wp2_with fail
          go_ret
          exact ⟨rfl, HX0.out.trans (Below.trans HXr.out hb6)⟩
        · obtain ⟨j, rfl⟩ : ∃ j, k = j + 1 := ⟨k - 1, by omega⟩
          have hj : j < r.length := by omega
          have hcj := (HXr.out.cell (p := ⟨ab, ao + j, none⟩) hab1).trans ((HX0.out.cell (p := ⟨ab, ao + j, none⟩) hab).trans (HCR.out j hj))
          have hg : (r[j]'hj) < 1000000000 := HB.out _ (List.getElem_mem hj)
          have HGL := Lib.hid (fmtU_len (g := r[j]'hj) hg)
          have HNX : Hid (preT false ++ fmtU top ++ lowT (r.drop (j + 1)) ++ (List.replicate (9 - (fmtU (r[j]'hj)).length) 48 ++ fmtU (r[j]'hj)) = preT false ++ fmtU top ++ lowT (r.drop j)) := Lib.hid (by
            rw [List.drop_eq_getElem_cons hj, lowT_cons]; unfold pad9; simp only [List.append_assoc])
          have HCL : Hid ((preT false ++ fmtU top ++ lowT (r.drop (j + 1))).length ≤ 9000100) := Lib.hid (by
            rw [List.length_append, List.length_append, lowT_len _ (fun g hg => HB.out g (List.mem_of_mem_drop hg)), List.length_drop]
            have : (preT false).length ≤ 1 := by decide
            omega)
          have e0 : ((j + 1 : Nat) : Int) - 1 = (j : Int) := by omega
          rw [e0]
          clear e0
          generalize r[j]'hj = g at *
          go_wp2_with fail
          refine (fmtUint g (by omega) _ (HE.out.ext (HX0.out.trans HXr.out))).mono ?_
          rintro e w4 ⟨rfl, hx4⟩
          have HX4 := Lib.hid hx4
          clear hx4
          have hfl := HGL.out
          generalize fmtU g = fg at *
          go_wp2_with fail
          refine (repeat_any [48] (9 - (fg.length : Int)) _ (by omega) (by omega) (by simp)).mono ?_
          rintro e w5 ⟨rfl, hx5⟩
          have er : Lib.repeatL [48] (9 - (fg.length : Int)).toNat = List.replicate (9 - fg.length) 48 := by rw [repeat_zero]; congr 1; omega
          rw [er]
          have HX5 := Lib.hid (HX4.out.trans hx5)
          clear hx5 er
          have hrl : (List.replicate (9 - fg.length) (48 : UInt8)).length ≤ 9 := by simp
          generalize hrp : List.replicate (9 - fg.length) (48 : UInt8) = rp at *
          clear hrp
          go_wp2_with fail
          refine (bldWrite w1.heap.size w1.heap.size _ (rp ++ fg) _ (HBr.out.ext HX5.out) (by have := HCL.out; have h2 : (rp ++ fg).length = rp.length + fg.length := List.length_append; omega) (Nat.le_trans HXr.out.size HX5.out.size)).mono ?_
          rintro e w7 ⟨rfl, hB7, hb7⟩
          rw [HNX.out] at hB7
          have HB7 := Lib.hid hB7
          have HX7 : Hid (Ext w1 w7) := Lib.hid (Below.trans (HXr.out.trans HX5.out) hb7)
          clear hB7 hb7
          go_wp2_with fail
          exact ⟨⟨j, by omega, by first | rfl | go_num, HB7.out, HX7.out⟩, by simp [intOf] <;> omega⟩
    · go_wp2_with fail
      refine (bldMinus w1.heap.size w1.heap.size [] _ (Bld.new w1) (by simp) (Ext.new w1 _).size).mono ?_
      rintro e w2 ⟨rfl, hB2, hb2⟩
      have HX2 : Hid (Ext w1 w2) := Lib.hid (Below.trans (Ext.new w1 _) hb2)
      have HB2 := Lib.hid hB2
      have hct2 := (HX2.out.cell (p := ⟨ab, ao + r.length, none⟩) hab1).trans hct
      clear hB2 hb2 hct
      go_wp2_with fail
      refine (fmtUint top (by omega) _ (HE.out.ext (HX0.out.trans HX2.out))).mono ?_
      rintro e w4 ⟨rfl, hx4⟩
      have HX4 := Lib.hid hx4
      clear hx4 hct2
      go_wp2_with fail
      refine (bldWrite w1.heap.size w1.heap.size _ (fmtU top) _ (HB2.out.ext HX4.out) (by simp; omega) (HX2.out.trans HX4.out).size).mono ?_
      rintro e w3 ⟨rfl, hB3, hb3⟩
      have HB3 : Hid (Bld w1.heap.size w1.heap.size (preT true ++ fmtU top ++ lowT (r.drop r.length)) w3) := Lib.hid (by
        rw [List.drop_length]; simpa [preT, lowT] using hB3)
      have HX3 : Hid (Ext w1 w3) := Lib.hid (Below.trans (HX2.out.trans HX4.out) hb3)
      clear hB3 hb3 HX2 HX4 HB2
      go_wp2_with fail
      go_loopw [5, 6] (fun z _ wr => TextAt true top r w w1 z wr) (fun z _ _ => (intOf z + 1).toNat)
      case atStart => exact ⟨r.length, Nat.le_refl _, by first | rfl | go_num | (congr 1; omega), HB3.out, HX3.out⟩
      case round =>
        clear HB3 HX3
        obtain ⟨k, hk, rfl, hB, hx⟩ := hrel
        have HBr := Lib.hid hB
        have HXr := Lib.hid hx
        clear hB hx
        rcases Nat.eq_zero_or_pos k with h0 | h0
        · subst h0
          have HB9 : Hid (Bld w1.heap.size w1.heap.size (txt true n) wr) := Lib.hid (by rw [← HT.out]; exact HBr.out)
          go_wp2_with fail
          refine (Tryz.Builder_String_any_f w1.heap.size w1.heap.size (txt true n) _ HB9.out HXr.out.size).mono ?_
          rintro e w6 ⟨rfl, _, hb6⟩
          go_wp2_with fail
          go_ret
          exact ⟨rfl, HX0.out.trans (Below.trans HXr.out hb6)⟩
        · obtain ⟨j, rfl⟩ : ∃ j, k = j + 1 := ⟨k - 1, by omega⟩
          have hj : j < r.length := by omega
          have hcj := (HXr.out.cell (p := ⟨ab, ao + j, none⟩) hab1).trans ((HX0.out.cell (p := ⟨ab, ao + j, none⟩) hab).trans (HCR.out j hj))
          have hg : (r[j]'hj) < 1000000000 := HB.out _ (List.getElem_mem hj)
          have HGL := Lib.hid (fmtU_len (g := r[j]'hj) hg)
          have HNX : Hid (preT true ++ fmtU top ++ lowT (r.drop (j + 1)) ++ (List.replicate (9 - (fmtU (r[j]'hj)).length) 48 ++ fmtU (r[j]'hj)) = preT true ++ fmtU top ++ lowT (r.drop j)) := Lib.hid (by
            rw [List.drop_eq_getElem_cons hj, lowT_cons]; unfold pad9; simp only [List.append_assoc])
          have HCL : Hid ((preT true ++ fmtU top ++ lowT (r.drop (j + 1))).length ≤ 9000100) := Lib.hid (by
            rw [List.length_append, List.length_append, lowT_len _ (fun g hg => HB.out g (List.mem_of_mem_drop hg)), List.length_drop]
            have : (preT true).length ≤ 1 := by decide
            omega)
          have e0 : ((j + 1 : Nat) : Int) - 1 = (j : Int) := by omega
          rw [e0]
          clear e0
          generalize r[j]'hj = g at *
          go_wp2_with fail
          refine (fmtUint g (by omega) _ (HE.out.ext (HX0.out.trans HXr.out))).mono ?_
          rintro e w4 ⟨rfl, hx4⟩
          have HX4 := Lib.hid hx4
          clear hx4
          have hfl := HGL.out
          generalize fmtU g = fg at *
          go_wp2_with fail
          refine (repeat_any [48] (9 - (fg.length : Int)) _ (by omega) (by omega) (by simp)).mono ?_
          rintro e w5 ⟨rfl, hx5⟩
          have er : Lib.repeatL [48] (9 - (fg.length : Int)).toNat = List.replicate (9 - fg.length) 48 := by rw [repeat_zero]; congr 1; omega
          rw [er]
          have HX5 := Lib.hid (HX4.out.trans hx5)
          clear hx5 er
          have hrl : (List.replicate (9 - fg.length) (48 : UInt8)).length ≤ 9 := by simp
          generalize hrp : List.replicate (9 - fg.length) (48 : UInt8) = rp at *
          clear hrp
          go_wp2_with fail
          refine (bldWrite w1.heap.size w1.heap.size _ (rp ++ fg) _ (HBr.out.ext HX5.out) (by have := HCL.out; have h2 : (rp ++ fg).length = rp.length + fg.length := List.length_append; omega) (Nat.le_trans HXr.out.size HX5.out.size)).mono ?_
          rintro e w7 ⟨rfl, hB7, hb7⟩
          rw [HNX.out] at hB7
          have HB7 := Lib.hid hB7
          have HX7 : Hid (Ext w1 w7) := Lib.hid (Below.trans (HXr.out.trans HX5.out) hb7)
          clear hB7 hb7
          go_wp2_with fail
          exact ⟨⟨j, by omega, by first | rfl | go_num, HB7.out, HX7.out⟩, by simp [intOf] <;> omega⟩
end Go.Proofs.YteeampgbmpolfaaGreatDoor

/- The walks over the reference's short numbers: short, Of, Neg. -/
namespace Go.Proofs.YteeampgbmpolfaaGreatDoor
open Go.RowKit
attribute [local go_sem] size_bs toList_bs extract_bs get_bs append_bs lit_append append_lit

theorem encode_one (n : Nat) (h : n < 128) : Utf8.encode (n : Int) = bs [UInt8.ofNat n] := by
  unfold Utf8.encode
  have hv : Utf8.valid (n : Int) = true := by simp [Utf8.valid]; omega
  rw [hv]
  simp only [if_true, Int.toNat_natCast]
  rw [if_pos h]; rfl
theorem encode_dig (q : Nat) : Utf8.encode (48 + (q : Int) % 10) = bs [UInt8.ofNat (48 + q % 10)] := by
  have : (48 + (q : Int) % 10) = ((48 + q % 10 : Nat) : Int) := by omega
  rw [this]; exact encode_one _ (by omega)
theorem dig10_step {q n : Nat} {l : Bs} (h0 : q ≠ 0) (h : dig10 q ++ l = dig10 n) : dig10 (q / 10) ++ (UInt8.ofNat (48 + q % 10) :: l) = dig10 n := by
  rw [← h, dig10_pos h0]; simp
theorem dval_u8 {c : UInt8} (h : isD c = true) : 48 ≤ (c.toNat : Int) ∧ (c.toNat : Int) ≤ 57 ∧ (dval c : Int) = (c.toNat : Int) - 48 := by
  have := (isD_iff c).1 h
  unfold dval; omega


set_option maxRecDepth 100000 in
set_option maxHeartbeats 1000000 in
theorem refOf_pos (n : Nat) (hn : n ≤ 4000000000000000000) (w : World) :
    Calls Tryz.prog 148 #[.int .i64 (n : Int)] w fun e w' => e = .returned (.string (bs (ofI n))) ∧ w = w' := by
  by_cases h0 : n = 0
  · subst h0
    go_enter Tryz.func148, Tryz.ntmps148
    go_wp2_with fail
    go_ret
    exact ⟨by rw [show ofI ((0 : Nat) : Int) = [] from (ofI_nil_iff 0).2 rfl]; rfl, rfl⟩
  · have hb : ((n : Int) == 0) = false := by rw [beq_eq_false_iff_ne]; omega
    have hng : ¬ ((n : Int) < 0) := by omega
    have HO : Hid (dig10 n = ofI (n : Int)) := Lib.hid (by unfold ofI; rw [if_neg (by omega), Int.natAbs_natCast])
    have HLN : Hid ((dig10 n).length ≤ 19) := Lib.hid (dig10_len (by omega))
    clear h0
    go_enter Tryz.func148, Tryz.ntmps148
    go_wp2_with fail
    go_loop [3, 4, 5] (fun t v _ => ∃ (q : Nat) (l : Bs), q ≤ n ∧ v = .int .i64 (q : Int) ∧ t = .string (bs l) ∧ dig10 q ++ l = dig10 n) (fun _ v _ => (intOf v).toNat)
    case atStart => exact ⟨n, [], Nat.le_refl _, rfl, rfl, by simp⟩
    case round =>
      obtain ⟨q, l, hq, rfl, rfl, hl⟩ := hrel
      have hll : l.length ≤ 19 := by have h1 := congrArg List.length hl; have h2 := HLN.out; rw [List.length_append] at h1; omega
      by_cases hz : q = 0
      · subst hz
        have HL : Hid (l = ofI (n : Int)) := Lib.hid (by rw [dig10_zero, List.nil_append] at hl; rw [hl]; exact HO.out)
        clear hl
        go_wp2_with fail
        go_ret
        exact ⟨by rw [HL.out]; rfl, rfl⟩
      · have HL := Lib.hid (dig10_step hz hl)
        have hqb : ((q : Int) == 0) = false := by rw [beq_eq_false_iff_ne]; omega
        have hqb2 : ((q : Int) != 0) = true := by rw [bne_iff_ne]; omega
        have hd : ¬ ((q : Int) % 10 < 0) := by omega
        have he := encode_dig q
        clear hl
        have hcv : ∀ W : World, (convert 21 9 (.int .i32 (48 + (q : Int) % 10))).run Tryz.prog W = .ok (.string (bs [UInt8.ofNat (48 + q % 10)])) W := fun W => by rw [run_convert_int_string W _ _ _ _ (by rw [Tryz.underlying21]; rfl) Tryz.underlying9, he]
        clear he
        generalize hdd : UInt8.ofNat (48 + q % 10) = dd at *
        clear hdd
        go_wp2_with fail
        go_round
        case rel => exact ⟨q / 10, _, by omega, by go_num, rfl, HL.out⟩
        case measure => simp [intOf]; omega
theorem tmod_neg (q : Nat) : (-(q : Int)).tmod 10 = -((q % 10 : Nat) : Int) := by
  rw [Int.neg_tmod]; rfl
theorem tdiv_neg (q : Nat) : (-(q : Int)).tdiv 10 = -((q / 10 : Nat) : Int) := by
  rw [Int.neg_tdiv]; rfl
set_option maxRecDepth 100000 in
set_option maxHeartbeats 1000000 in
theorem refOf_neg (n : Nat) (h0 : n ≠ 0) (hn : n ≤ 4000000000000000000) (w : World) :
    Calls Tryz.prog 148 #[.int .i64 (-(n : Int))] w fun e w' => e = .returned (.string (bs (ofI (-(n : Int))))) ∧ w = w' := by
  have hb : (-(n : Int) == 0) = false := by rw [beq_eq_false_iff_ne]; omega
  have hng : -(n : Int) < 0 := by omega
  have HO : Hid (45 :: dig10 n = ofI (-(n : Int))) := Lib.hid (by unfold ofI; rw [if_pos (by omega), Int.natAbs_neg, Int.natAbs_natCast])
  have HLN : Hid ((dig10 n).length ≤ 19) := Lib.hid (dig10_len (by omega))
  clear h0
  go_enter Tryz.func148, Tryz.ntmps148
  go_wp2_with fail
  go_loop [3, 4, 5] (fun t v _ => ∃ (q : Nat) (l : Bs), q ≤ n ∧ v = .int .i64 (-(q : Int)) ∧ t = .string (bs l) ∧ dig10 q ++ l = dig10 n) (fun _ v _ => (- intOf v).toNat)
  case atStart => exact ⟨n, [], Nat.le_refl _, rfl, rfl, by simp⟩
  case round =>
    obtain ⟨q, l, hq, rfl, rfl, hl⟩ := hrel
    have hll : l.length ≤ 19 := by have h1 := congrArg List.length hl; have h2 := HLN.out; rw [List.length_append] at h1; omega
    by_cases hz : q = 0
    · subst hz
      have HL : Hid (45 :: l = ofI (-(n : Int))) := Lib.hid (by rw [dig10_zero, List.nil_append] at hl; rw [hl]; exact HO.out)
      clear hl
      go_wp2_with fail
      go_ret
      exact ⟨by rw [← HL.out]; rfl, rfl⟩
    · have HL := Lib.hid (dig10_step hz hl)
      have hqb : (-(q : Int) == 0) = false := by rw [beq_eq_false_iff_ne]; omega
      have hqb2 : (-(q : Int) != 0) = true := by rw [bne_iff_ne]; omega
      have hr := tmod_neg q
      have ht := tdiv_neg q
      have hr9 : q % 10 < 10 := Nat.mod_lt _ (by decide)
      have htq : q / 10 < q := by omega
      have HQ : Hid (q / 10 ≤ n) := Lib.hid (by omega)
      clear hl
      generalize q % 10 = r at *
      have he : Utf8.encode (48 + (r : Int)) = bs [UInt8.ofNat (48 + r)] := by
        have : (48 + (r : Int)) = ((48 + r : Nat) : Int) := by omega
        rw [this]; exact encode_one _ (by omega)
      have hcv : ∀ W : World, (convert 21 9 (.int .i32 (48 + (r : Int)))).run Tryz.prog W = .ok (.string (bs [UInt8.ofNat (48 + r)])) W := fun W => by rw [run_convert_int_string W _ _ _ _ (by rw [Tryz.underlying21]; rfl) Tryz.underlying9, he]
      clear he
      by_cases hr0 : r = 0
      · subst hr0
        have hr' : (-(q : Int)).tmod 10 = 0 := hr
        have hcv' : ∀ W : World, (convert 21 9 (.int .i32 48)).run Tryz.prog W = .ok (.string (bs [UInt8.ofNat (48 + 0)])) W := fun W => hcv W
        clear hr hcv
        generalize hdd : UInt8.ofNat (48 + 0) = dd at *
        clear hdd
        generalize q / 10 = p at *
        go_wp2_with fail
        go_round
        case rel => exact ⟨p, _, HQ.out, by go_num, rfl, HL.out⟩
        case measure => simp [intOf]; omega
      · have hneg : -(r : Int) < 0 := by omega
        have hr1 : (r : Int) < 10 := by omega
        generalize hdd : UInt8.ofNat (48 + r) = dd at *
        clear hdd
        generalize q / 10 = p at *
        go_wp2_with fail
        go_round
        case rel => exact ⟨p, _, HQ.out, by go_num, rfl, HL.out⟩
        case measure => simp [intOf]; omega
theorem refIntOf (z : Int) (h1 : -4000000000000000000 ≤ z) (h2 : z ≤ 4000000000000000000) (w : World) :
    Calls Tryz.prog 148 #[.int .i64 z] w fun e w' => e = .returned (.string (bs (ofI z))) ∧ w = w' := by
  by_cases h : 0 ≤ z
  · obtain ⟨n, rfl⟩ := Int.eq_ofNat_of_zero_le h
    exact refOf_pos n (by omega) w
  · obtain ⟨n, rfl⟩ : ∃ n : Nat, z = -(n : Int) := ⟨z.natAbs, by omega⟩
    exact refOf_neg n (by omega) (by omega) w
theorem natOf_take_lt {m : Bs} (hd : m.all isD = true) (hl : m.length ≤ 17) (k : Nat) : natOf (m.take k) < 100000000000000000 := by
  have h1 := natOf_lt (l := m.take k) (all_take hd k)
  have h2 : (m.take k).length ≤ 17 := by rw [List.length_take]; omega
  exact Nat.lt_of_lt_of_le h1 (Nat.le_trans (Nat.pow_le_pow_right (by decide) h2) (by decide))
theorem all_at {m : Bs} (h : m.all isD = true) {k : Nat} (hk : k < m.length) : isD (m[k]'hk) = true := List.all_eq_true.1 h _ (List.getElem_mem hk)
set_option maxRecDepth 100000 in
set_option maxHeartbeats 1000000 in
theorem refShort (l : Bs) (w : World) (hs : l.length ≤ 1000000000) (hl : (mag l).length ≤ 17) :
    Calls Tryz.prog 147 #[.string (bs l)] w fun e w' => e = .returned (.tuple #[.int .i64 (valI l), .bool true]) ∧ w = w' := by
  have HDIG := Lib.hid (fun w => refDigits l w hs)
  have HD := Lib.hid (mag_all l)
  have HV : Hid (valI l = if neg l then -(natOf (mag l) : Int) else natOf (mag l)) := Lib.hid rfl
  generalize valI l = z at *
  generalize mag l = m at *
  generalize neg l = b at *
  clear hs
  have HL := Lib.hid hl
  have hlb : ¬ (17 < (m.length : Int)) := by omega
  clear hl
  go_enter Tryz.func147, Tryz.ntmps147
  go_wp2_with fail
  refine (HDIG.out _).mono ?_
  rintro e w1 ⟨rfl, rfl⟩
  go_wp2_with fail
  go_loop [6, 7] (fun v i => ∃ k : Nat, k ≤ m.length ∧ i = .int .i64 k ∧ v = .int .i64 (natOf (m.take k) : Nat)) (fun _ i => m.length - (intOf i).toNat)
  case atStart => exact ⟨0, Nat.zero_le _, rfl, rfl⟩
  case round =>
    obtain ⟨k, hk, rfl, rfl⟩ := hrel
    by_cases hlt : k < m.length
    · have hv := natOf_take_lt HD.out HL.out k
      have HS := Lib.hid (natOf_take_succ m k hlt)
      obtain ⟨hc1, hc2, hc3⟩ := dval_u8 (all_at HD.out hlt)
      have HC := Lib.hid hc3
      clear hc3
      generalize natOf (m.take k) = p at *
      go_wp2_with fail
      go_round
      case rel => exact ⟨k + 1, by omega, by go_num, by rw [HS.out]; have := HC.out; congr 1; omega⟩
      case measure => simp [intOf]; omega
    · have hv := natOf_take_lt HD.out HL.out k
      have HT : Hid (natOf (m.take k) = natOf m) := Lib.hid (by rw [List.take_of_length_le (by omega)])
      generalize natOf (m.take k) = p at *
      cases b
      · go_wp2_with fail
        go_ret2
        exact ⟨by rw [HV.out, ← HT.out]; rfl, rfl⟩
      · go_wp2_with fail
        go_ret2
        exact ⟨by rw [HV.out, ← HT.out]; rfl, rfl⟩
set_option maxRecDepth 100000 in
set_option maxHeartbeats 1000000 in
theorem refShort_no (l : Bs) (w : World) (hs : l.length ≤ 1000000000) (hl : ¬ (mag l).length ≤ 17) :
    Calls Tryz.prog 147 #[.string (bs l)] w fun e w' => e = .returned (.tuple #[.int .i64 0, .bool false]) ∧ w = w' := by
  have HDIG := Lib.hid (fun w => refDigits l w hs)
  generalize mag l = m at *
  generalize neg l = b at *
  clear hs
  have hlb : 17 < (m.length : Int) := by omega
  clear hl
  go_enter Tryz.func147, Tryz.ntmps147
  go_wp2_with fail
  refine (HDIG.out _).mono ?_
  rintro e w1 ⟨rfl, rfl⟩
  go_wp2_with fail
  go_ret2
  exact ⟨rfl, rfl⟩
theorem ofI_neg (l : Bs) : ofI (-(valI l)) = if neg l = true ∨ mag l = [] then mag l else 45 :: mag l := by
  have hd := dig10_natOf (mag_all l) (mag_lead l)
  by_cases h : neg l = true
  · have h0 := neg_mag h
    have hv : valI l = -(natOf (mag l) : Int) := by unfold valI; rw [if_pos h]
    rw [if_pos (Or.inl h), hv, Int.neg_neg]
    unfold ofI
    rw [if_neg (by omega), Int.natAbs_natCast, hd]
  · have hv : valI l = (natOf (mag l) : Int) := by unfold valI; rw [if_neg h]
    by_cases hm : mag l = []
    · rw [if_pos (Or.inr hm), hv, hm]; exact (ofI_nil_iff 0).2 rfl
    · have hp : natOf (mag l) ≠ 0 := by rw [Ne, natOf_zero (mag_all l) (mag_lead l)]; exact hm
      have hno : ¬ (neg l = true ∨ mag l = []) := fun x => x.elim h hm
      rw [if_neg hno, hv]
      unfold ofI
      rw [if_pos (by omega), Int.natAbs_neg, Int.natAbs_natCast, hd]
set_option maxHeartbeats 1000000 in
theorem refNeg (l : Bs) (w : World) (hs : l.length ≤ 1000000000) :
    Calls Tryz.prog 105 #[.string (bs l)] w fun e w' => e = .returned (.string (bs (ofI (-(valI l))))) ∧ w = w' := by
  have HDIG := Lib.hid (fun w => refDigits l w hs)
  have HO := Lib.hid (ofI_neg l)
  have HML : Hid ((mag l).length ≤ 1000000000) := Lib.hid (Nat.le_trans (mag_le l) hs)
  generalize ofI (-(valI l)) = r at *
  generalize mag l = m at *
  generalize neg l = b at *
  clear hs
  by_cases h : b = true ∨ m = []
  · have HR : Hid (r = m) := Lib.hid (by rw [HO.out, if_pos h])
    clear HO
    rcases h with h | h
    · subst h
      go_enter Tryz.func105, Tryz.ntmps105
      go_wp2_with fail
      refine (HDIG.out _).mono ?_
      rintro e w1 ⟨rfl, rfl⟩
      go_wp2_with fail
      go_ret
      exact ⟨by rw [HR.out]; rfl, rfl⟩
    · subst h
      go_enter Tryz.func105, Tryz.ntmps105
      go_wp2_with fail
      refine (HDIG.out _).mono ?_
      rintro e w1 ⟨rfl, rfl⟩
      cases b
      all_goals
        go_wp2_with fail
        go_ret
        exact ⟨by rw [HR.out]; rfl, rfl⟩
  · have HR : Hid (r = 45 :: m) := Lib.hid (by rw [HO.out, if_neg h])
    clear HO
    have hb : b = false := by cases b; rfl; exact absurd (.inl rfl) h
    have hm : m ≠ [] := fun e => h (.inr e)
    subst hb
    have hmb : m.isEmpty = false := by simpa using hm
    have hmb2 : (m == []) = false := by simpa using hm
    have hml := HML.out
    clear h hm
    go_enter Tryz.func105, Tryz.ntmps105
    go_wp2_with fail
    refine (HDIG.out _).mono ?_
    rintro e w1 ⟨rfl, rfl⟩
    go_wp2_with fail
    go_ret
    exact ⟨by rw [HR.out]; rfl, rfl⟩
end Go.Proofs.YteeampgbmpolfaaGreatDoor

/- The walks over the reference's groups: group, trim, order. -/
namespace Go.Proofs.YteeampgbmpolfaaGreatDoor
open Go.RowKit
attribute [local go_sem] size_bs toList_bs

def icells (gs : List Nat) : List Value := gs.map fun g : Nat => Value.int .i64 (g : Int)
def RdI (w : World) (A : Option Addr) (gs : List Nat) : Prop := Reads w 1 A gs.length (icells gs)
theorem RdI.ext {w w' : World} {A : Option Addr} {gs : List Nat} (h : RdI w A gs) (he : Ext w w') : RdI w' A gs := Reads.ext h he
theorem RdI.at_ {w : World} {A : Option Addr} {gs : List Nat} (h : RdI w A gs) {k : Nat} (hk : k < gs.length) :
    ∃ b o, A = some ⟨b, o, none⟩ ∧ b < w.heap.size ∧ w.cell? ⟨b, o + k, none⟩ = some (.int .i64 (gs[k]'hk)) := by
  obtain ⟨b, o, rfl, hb⟩ := Reads.at_ h (by omega)
  exact ⟨b, o, rfl, hb, Reads.cell h (by simp [icells, hk])⟩
theorem RdI.take {w : World} {A : Option Addr} {gs : List Nat} (h : RdI w A gs) (n : Nat) : RdI w A (gs.take n) := by
  refine ⟨by simp [icells], fun hn => ?_⟩
  have h0 : 0 < gs.length := by rw [List.length_take] at hn; omega
  obtain ⟨b, o, rfl, hb, hc⟩ := h.2 h0
  refine ⟨b, o, rfl, hb, fun j u hu => hc j u ?_⟩
  unfold icells at hu ⊢
  rw [List.map_take, List.getElem?_take] at hu
  split at hu
  · exact hu
  · cases hu
set_option maxHeartbeats 1000000 in
theorem refTrim (gs : List Nat) (A : Option Addr) (c : Nat) (w : World) (hA : RdI w A gs) (hc : gs.length ≤ c) (hm : c ≤ maxLen) (hb : ∀ g ∈ gs, g < B9) :
    Calls Tryz.prog 207 #[.slice A gs.length c] w fun e w' => e = .returned (.slice A (cutL gs).length c) ∧ w = w' := by
  have HA := Lib.hid hA
  have HB := Lib.hid hb
  unfold maxLen at hm
  clear hA hb
  go_enter Tryz.func207, Tryz.ntmps207
  go_wp2_with fail
  go_loop [0] (fun v => ∃ k : Nat, k ≤ gs.length ∧ v = .slice A k c ∧ cutL (gs.take k) = cutL gs) (fun v => slLen v)
  case atStart => exact ⟨gs.length, Nat.le_refl _, rfl, by rw [List.take_length]⟩
  case round =>
    obtain ⟨k, hk, rfl, hz⟩ := hrel
    have HZ := Lib.hid hz
    clear hz
    rcases Nat.eq_zero_or_pos k with h0 | h0
    · subst h0
      have HL : Hid ((cutL gs).length = 0) := Lib.hid (by rw [← HZ.out]; rfl)
      go_wp2_with fail
      go_ret
      exact ⟨by rw [HL.out]; rfl, rfl⟩
    · obtain ⟨j, rfl⟩ : ∃ j, k = j + 1 := ⟨k - 1, by omega⟩
      have hj : j < gs.length := by omega
      obtain ⟨b, o, rfl, hbw, hcell⟩ := HA.out.at_ hj
      have hts : gs.take (j + 1) = gs.take j ++ [gs[j]] := List.take_succ_eq_append_getElem hj
      have HTS := Lib.hid hts
      clear hts
      by_cases hg : gs[j] = 0
      · have HN : Hid (cutL (gs.take j) = cutL gs) := Lib.hid (by rw [← HZ.out, HTS.out, hg, cutL_snoc_zero])
        rw [hg] at hcell
        clear hg
        go_wp2_with fail
        go_round
        case rel => exact ⟨j, by omega, rfl, HN.out⟩
        case measure => simp [slLen]
      · have HL : Hid ((cutL gs).length = j + 1) := Lib.hid (by rw [← HZ.out, HTS.out, cutL_snoc _ hg]; simp; omega)
        have hgb : ((gs[j] : Int) == 0) = false := by rw [beq_eq_false_iff_ne]; omega
        clear hg
        generalize (gs[j]'hj) = g at *
        go_wp2_with fail
        go_ret
        exact ⟨by rw [HL.out]; rfl, rfl⟩

set_option maxHeartbeats 400000 in
theorem refGroup (gs : List Nat) (A : Option Addr) (c k : Nat) (w : World) (hA : RdI w A gs) (_hn : gs.length ≤ 1000000) :
    Calls Tryz.prog 206 #[.slice A gs.length c, .int .i64 (k : Int)] w fun e w' => e = .returned (.int .i64 (at0 gs k : Nat)) ∧ w = w' := by
  have HA := Lib.hid hA
  clear hA
  by_cases h : k < gs.length
  · obtain ⟨b, o, rfl, hb, hcell⟩ := HA.out.at_ h
    have HV := Lib.hid (at0_lt h)
    generalize gs[k]'h = g at *
    go_enter Tryz.func206, Tryz.ntmps206
    go_wp2_with fail
    go_ret
    exact ⟨by rw [HV.out]; rfl, rfl⟩
  · have HV := Lib.hid (at0_ge (l := gs) (k := k) (by omega))
    go_enter Tryz.func206, Tryz.ntmps206
    go_wp2_with fail
    go_ret
    exact ⟨by rw [HV.out]; rfl, rfl⟩
set_option maxRecDepth 100000 in
set_option maxHeartbeats 1000000 in
theorem refOrder (x y : Nat) (A A' : Option Addr) (c c' : Nat) (w : World) (hA : RdI w A (gr x)) (hA' : RdI w A' (gr y)) (hn : (gr x).length ≤ 1000000) (_hn' : (gr y).length ≤ 1000000) :
    Calls Tryz.prog 178 #[.slice A (gr x).length c, .slice A' (gr y).length c'] w (CmpEnds x y w) := by
  have HA := Lib.hid hA
  have HA' := Lib.hid hA'
  clear hA hA'
  by_cases hl : (gr x).length = (gr y).length
  · have HLL := Lib.hid hl
    have hbl : (((gr x).length : Int) != ((gr y).length : Int)) = false := by rw [bne_eq_false_iff_eq]; omega
    have HLS := Lib.hid (fun k (a : k < (gr x).length) (b : k < (gr y).length) he h => gr_less (x := x) (y := y) (k := k) hl a b he h)
    have HGT := Lib.hid (fun k (a : k < (gr y).length) (b : k < (gr x).length) he h => gr_less (x := y) (y := x) (k := k) hl.symm a b he h)
    have HEQ : Hid (gr x = gr y → x = y) := Lib.hid gr_inj
    generalize gr x = gx at *
    generalize gr y = gy at *
    clear hl
    go_enter Tryz.func178, Tryz.ntmps178
    go_wp2_with fail
    go_loopw [5, 31, 40] (fun z _ _ wr => ∃ k : Nat, k ≤ gx.length ∧ z = .int .i64 ((k : Int) - 1) ∧ (∀ (j : Nat) (h1 : j < gx.length) (h2 : j < gy.length), k ≤ j → gx[j] = gy[j]) ∧ Ext w wr) (fun z _ _ _ => (intOf z + 1).toNat)
    case atStart => exact ⟨gx.length, Nat.le_refl _, rfl, fun j h1 _ hj => absurd h1 (by omega), Ext.refl _⟩
    case round =>
      obtain ⟨k, hk, rfl, hz, hx⟩ := hrel
      have HZ := Lib.hid hz
      have HX := Lib.hid hx
      clear hz hx
      rcases Nat.eq_zero_or_pos k with h0 | h0
      · subst h0
        have HY : Hid (x = y) := Lib.hid (HEQ.out (List.ext_getElem HLL.out (fun j h1 h2 => HZ.out j h1 h2 (by omega))))
        go_wp2_with fail
        go_ret
        exact ⟨HX.out, 0, rfl, .inr (.inl ⟨rfl, HY.out⟩)⟩
      · obtain ⟨j, rfl⟩ : ∃ j, k = j + 1 := ⟨k - 1, by omega⟩
        have hj : j < gx.length := by omega
        have hj' : j < gy.length := by have := HLL.out; omega
        obtain ⟨b, o, rfl, hbw, hcell⟩ := (HA.out.ext HX.out).at_ hj
        obtain ⟨b', o', rfl, hbw', hcell'⟩ := (HA'.out.ext HX.out).at_ hj'
        have e0 : ((j + 1 : Nat) : Int) - 1 = (j : Int) := by omega
        rw [e0]
        clear e0
        rcases Nat.lt_trichotomy (gx[j]'hj) (gy[j]'hj') with h | h | h
        · have HY : Hid (x < y) := Lib.hid (HLS.out j hj hj' (fun i h1 h2 hi => HZ.out i h1 h2 (by omega)) h)
          generalize (gx[j]'hj) = p at *
          generalize (gy[j]'hj') = q at *
          go_wp2_with fail
          go_quiet (fail)
          go_wp2_with fail
          go_ret
          exact ⟨HX.out.drewN _, -1, rfl, .inl ⟨by decide, HY.out⟩⟩
        · have HNX := Lib.hid (fun i (h1 : i < gx.length) (h2 : i < gy.length) (hi : j ≤ i) => (by
            rcases Nat.lt_or_ge j i with h' | h'
            · exact HZ.out i h1 h2 (by omega)
            · obtain rfl : i = j := by omega
              exact h : gx[i] = gy[i]))
          rw [← h] at hcell'
          generalize (gx[j]'hj) = p at *
          clear h
          go_wp2_with fail
          go_quiet (fail)
          go_wp2_with fail
          go_quiet (fail)
          go_wp2_with fail
          go_roundw
          case rel => exact ⟨j, by omega, rfl, HNX.out, HX.out.drewN _⟩
          case measure => simp [intOf]
        · have HY : Hid (y < x) := Lib.hid (HGT.out j hj' hj (fun i h1 h2 hi => (HZ.out i h2 h1 (by omega)).symm) h)
          have hb1 : ¬ (gx[j]'hj) < (gy[j]'hj') := by omega
          generalize (gx[j]'hj) = p at *
          generalize (gy[j]'hj') = q at *
          go_wp2_with fail
          go_quiet (fail)
          go_wp2_with fail
          go_quiet (fail)
          go_wp2_with fail
          go_ret
          exact ⟨(HX.out.drewN _).drewN _, 1, rfl, .inr (.inr ⟨by decide, HY.out⟩)⟩
  · have hbl : (((gr x).length : Int) != ((gr y).length : Int)) = true := by rw [bne_iff_ne]; omega
    rcases Nat.lt_or_ge (gr x).length (gr y).length with h | h
    · have HY : Hid (x < y) := Lib.hid (gr_shorter h)
      generalize gr x = gx at *
      generalize gr y = gy at *
      clear hl
      go_enter Tryz.func178, Tryz.ntmps178
      go_wp2_with fail
      go_ret
      exact ⟨Ext.refl _, -1, rfl, .inl ⟨by decide, HY.out⟩⟩
    · have HY : Hid (y < x) := Lib.hid (gr_shorter (by omega))
      have h' : ¬ (gr x).length < (gr y).length := by omega
      generalize gr x = gx at *
      generalize gr y = gy at *
      clear hl
      go_enter Tryz.func178, Tryz.ntmps178
      go_wp2_with fail
      go_ret
      exact ⟨Ext.refl _, 1, rfl, .inr (.inr ⟨by decide, HY.out⟩)⟩
end Go.Proofs.YteeampgbmpolfaaGreatDoor

/- The walks over the reference's numbers: read, write. -/
namespace Go.Proofs.YteeampgbmpolfaaGreatDoor
open Go.RowKit Go.Shelf
attribute [local go_sem] size_bs toList_bs extract_bs get_bs append_bs lit_append append_lit

theorem i64Info : (Tryz.prog.info? 3).map (fun i => (i.zero, i.size, i.bytes)) = some (some (.int .i64 0), 1, 8) := by kernel_rfl
theorem results_numI {fn : Func} {a : Tmp} (h : fn.results = #[.cell a 184]) (tmps : Array Value) (w : World) (g : Nat) (x y : Value) (ha : tmps.getD a undef = .pointer (some ⟨g, 0, none⟩)) (hb : Blk w g 184 #[x, y]) :
    (results fn tmps).run Tryz.prog w = .ok (.agg #[x, y]) w := by
  have h0 := hb.cell 0
  have h1 := hb.cell 1
  simp only [List.getElem?_toArray, List.getElem?_cons_zero, List.getElem?_cons_succ] at h0 h1
  unfold results
  rw [h]
  simp only [List.mapM_toArray, List.mapM_cons, List.mapM_nil, ha]
  go_simp
/-- a number of the reference: its sign, and its groups in memory -/
def NumEndsI (neg : Bool) (gs : List Nat) (w : World) (e : Ending) (w' : World) : Prop :=
  ∃ A c, e = .returned (.agg #[.bool neg, .slice A gs.length c]) ∧ RdI w' A gs ∧ Ext w w' ∧ gs.length ≤ c ∧ c ≤ maxLen
/-- how the loop of read stands -/
def ReadAtI (m : Bs) (N : Nat) (ng : Bool) (w : World) (z : Value) (wr : World) : Prop :=
  ∃ (y : Int) (done : List Nat) (v : Value), z = .int .i64 y ∧ -9 < y ∧ y ≤ m.length ∧ wr.ownsRow (w.heap.size + 2) 3 1 v done.length (icells done) ∧ done ++ groupsOf (m.take y.toNat) = gr N ∧ Ext w wr ∧ Blk wr w.heap.size 184 #[.bool false, .slice none 0 0] ∧ Blk wr (w.heap.size + 1) 184 #[.bool ng, v]
theorem drop_snoc (m : Bs) (a k : Nat) (ha : a ≤ k) (hk : k < m.length) : natOf ((m.take (k + 1)).drop a) = 10 * natOf ((m.take k).drop a) + dval (m[k]'hk) := by
  rw [List.take_succ_eq_append_getElem hk, List.drop_append_of_le_length (by rw [List.length_take]; omega), natOf_snoc]
theorem nine_lt {m : Bs} (hd : m.all isD = true) (a k : Nat) (h : k ≤ a + 9) : natOf ((m.take k).drop a) < 1000000000 := by
  have h1 := natOf_lt (l := (m.take k).drop a) (all_drop (all_take hd k) a)
  have h2 : ((m.take k).drop a).length ≤ 9 := by rw [List.length_drop, List.length_take]; omega
  exact Nat.lt_of_lt_of_le h1 (Nat.le_trans (Nat.pow_le_pow_right (by decide) h2) (by decide))
set_option maxRecDepth 100000 in
set_option maxHeartbeats 2000000 in
theorem refReadN (l : Bs) (w : World) (hs : l.length ≤ 1000000) :
    Calls Tryz.prog 151 #[.string (bs l)] w (NumEndsI (neg l) (gr (natOf (mag l))) w) := by
  obtain ⟨i0, hI, hz0, hz1, hz2⟩ := info_parts i64Info
  have hml := mag_le l
  have HG := Lib.hid (groupsOf_gr (mag l) (mag_all l) (mag_lead l))
  have HD := Lib.hid (mag_all l)
  have HGL : Hid ((gr (natOf (mag l))).length ≤ 1000000) := Lib.hid (by rw [← groupsOf_gr (mag l) (mag_all l) (mag_lead l)]; have := groupsOf_len (mag l); omega)
  have HI := Lib.hid hI
  have HS := Lib.hid (Nat.le_trans hml hs)
  have HDIG := Lib.hid (fun w => refDigits l w (by omega))
  clear hI hml
  generalize hm : mag l = m at *
  generalize hN : natOf m = N at *
  generalize hng : neg l = ng at *
  clear hm hng hs hN
  have HX0 : Hid (Ext w ((w.alloc (.cells #[.bool false, .slice none 0 0] 184)).alloc (.cells #[.bool ng, .slice none 0 0] 184))) := Lib.hid ((Ext.new _ _).alloc _)
  have HB0 : Hid (Blk ((w.alloc (.cells #[.bool false, .slice none 0 0] 184)).alloc (.cells #[.bool ng, .slice none 0 0] 184)) w.heap.size 184 #[.bool false, .slice none 0 0]) := Lib.hid ((blk_at w _ _ w.heap.size rfl).alloc _)
  have HB1 : Hid (Blk ((w.alloc (.cells #[.bool false, .slice none 0 0] 184)).alloc (.cells #[.bool ng, .slice none 0 0] 184)) (w.heap.size + 1) 184 #[.bool ng, .slice none 0 0]) := Lib.hid (blk_at (w.alloc (.cells #[.bool false, .slice none 0 0] 184)) _ _ (w.heap.size + 1) (by simp))
  go_enter Tryz.func151, Tryz.ntmps151
  go_wp2_with fail
  refine (HDIG.out _).mono ?_
  rintro e w1 ⟨rfl, rfl⟩
  clear HDIG
  have hsm := HS.out
  go_wp2_with fail
  go_loopw [6, 7, 8] (fun z _ _ wr => ReadAtI m N ng w z wr) (fun z _ _ _ => (intOf z).toNat)
  case atStart => exact ⟨m.length, [], .slice none 0 0, rfl, by omega, by omega, ⟨rfl, .inl ⟨rfl, rfl⟩⟩, by rw [Int.toNat_natCast, List.take_of_length_le (Nat.le_refl _), List.nil_append]; exact HG.out, HX0.out, HB0.out, HB1.out⟩
  case round =>
    clear HX0 HB0 HB1
    obtain ⟨z, done, v, rfl, hz1', hz2', hown, hsum, hx, hb0, hb1⟩ := hrel
    have HOWN := Lib.hid hown
    have HSUM := Lib.hid hsum
    have HX := Lib.hid hx
    have HBR := Lib.hid hb0
    have HBO := Lib.hid hb1
    clear hown hsum hx hb0 hb1
    by_cases hpos : 0 < z
    · obtain ⟨e, rfl⟩ : ∃ e : Nat, z = (e : Int) := ⟨z.toNat, by omega⟩
      have hel : e ≤ m.length := by omega
      have he0 : 0 < e := by omega
      have HST := Lib.hid (groups_step he0 hel)
      have HLN : Hid (done.length ≤ 1000000) := Lib.hid (by
        have h1 := congrArg List.length HSUM.out
        rw [List.length_append] at h1
        have h2 := HGL.out; omega)
      have HNX : Hid (done ++ [natOf ((m.take e).drop (e - 9))] ++ groupsOf (m.take (e - 9)) = gr N) := Lib.hid (by
        rw [← HSUM.out, Int.toNat_natCast, HST.out]; simp)
      have hmx : max (0 : Int) ((e : Int) - 9) = ((e - 9 : Nat) : Int) := by omega
      have ha9 : e - 9 ≤ e := by omega
      have ha10 : e ≤ (e - 9) + 9 := by omega
      have HEA : Hid (((e : Int) - 9).toNat = e - 9) := Lib.hid (by omega)
      clear HST
      generalize hea : e - 9 = a at *
      go_wp2_with fail
      clear hmx
      go_loop [7, 8] (fun nv iv => ∃ k : Nat, a ≤ k ∧ k ≤ e ∧ iv = .int .i64 k ∧ nv = .int .i64 (natOf ((m.take k).drop a) : Nat)) (fun _ iv => e - (intOf iv).toNat)
      case atStart => exact ⟨a, Nat.le_refl _, ha9, rfl, by rw [List.drop_eq_nil_of_le (by rw [List.length_take]; omega)]; rfl⟩
      case round =>
        obtain ⟨k, hak, hke, rfl, rfl⟩ := hrel
        by_cases hlt : k < e
        · have hkm : k < m.length := by omega
          have hv := nine_lt HD.out a k (by omega)
          have HDS := Lib.hid (drop_snoc m a k hak hkm)
          obtain ⟨hc1, hc2, hc3⟩ := dval_u8 (all_at HD.out hkm)
          have HC := Lib.hid hc3
          clear hc3
          generalize natOf ((m.take k).drop a) = p at *
          go_wp2_with fail
          go_round
          case rel => exact ⟨k + 1, by omega, by omega, by go_num, by rw [HDS.out]; have := HC.out; congr 1; omega⟩
          case measure => simp [intOf]; omega
        · obtain rfl : k = e := by omega
          have hv := nine_lt HD.out a k ha10
          generalize natOf ((m.take k).drop a) = p at *
          have hln := HLN.out
          have q1 := HBO.out.cell 1
          simp only [List.getElem?_toArray, List.getElem?_cons_zero, List.getElem?_cons_succ] at q1
          go_wp2_with (at_builtin; refine wpList_append_lies _ rfl (.tmp 39) (.tmp 41) 182 rfl (w.heap.size + 2) 3 i0 _ 1 8 Tryz.underlying182 HI.out hz0 hz1 hz2 rfl (by decide) _ done.length (icells done) rfl (own_ext2 HOWN.out (Ext.new _ _)) ⟨wr.heap.size, 0, none⟩ 1 1 [.int .i64 p] rfl rfl (World.news_of_block (heap_alloc_new wr _)) (by simp [Value.oneCell']) (by omega) (by simp only [maxLen]; omega) (by omega) (by have := HBO.out.lt; simp; omega) _ rfl ?_; intro g' cap' w' hown hgrow hat hlt'; have HGR := Lib.hid hgrow; have HON := Lib.hid hown; have hbo := (hgrow.block (w.heap.size + 1) (by have := HBO.out.lt; simp; omega) (fun e => by have := own_base HOWN.out (w.heap.size + 1) e.symm; omega)).trans (HBO.out.alloc _); have HBO2 : Hid (Blk w' (w.heap.size + 1) 184 #[.bool ng, v]) := Lib.hid hbo; have HBR2 : Hid (Blk w' w.heap.size 184 #[.bool false, .slice none 0 0]) := Lib.hid ((hgrow.block w.heap.size (by have := HBR.out.lt; simp; omega) (fun e => by have := own_base HOWN.out w.heap.size e.symm; omega)).trans (HBR.out.alloc _)); have HX2 : Hid (Ext w w') := Lib.hid (Ext.grown (HX.out.trans (Ext.new _ _)) hgrow (fun k hk => by have := own_base HOWN.out k hk; omega)); have r1 := HBO2.out.cell 1; have f1 := HBO2.out.frozen 1; simp only [List.getElem?_toArray, List.getElem?_cons_zero, List.getElem?_cons_succ] at r1; clear hown hgrow hat hbo)
          refine ⟨⟨(k : Int) - 9, done ++ [p], .slice (some ⟨g', 0, none⟩) (done.length + 1) cap', rfl, by omega, by omega, ?_, ?_, ?_, ?_, ?_⟩, by simp [intOf]; omega⟩
          · have hnb : (Value.slice (some ⟨g', 0, none⟩) (done.length + 1) cap').ownBlock ≠ some (w.heap.size + 1) := fun h => by have := own_base HON.out _ h; omega
            simpa [icells] using own_set HON.out hnb (i := 1) (.slice (some ⟨g', 0, none⟩) (done.length + 1) cap')
          · rw [HEA.out]; exact HNX.out
          · exact HX2.out.setCell (p := ⟨w.heap.size + 1, 1, none⟩) (Nat.le_succ _) _
          · exact HBR2.out.far (p := ⟨w.heap.size + 1, 1, none⟩) (by show w.heap.size ≠ w.heap.size + 1; omega) _
          · exact HBO2.out.set_ 1 _
    · have HDN : Hid (done = gr N) := Lib.hid (by have := HSUM.out; rw [show z.toNat = 0 by omega, List.take_zero, groupsOf_nil, List.append_nil] at this; exact this)
      obtain ⟨A, c, rfl⟩ := own_slice HOWN.out
      have q0 := HBO.out.cell 0
      have q1 := HBO.out.cell 1
      have r0 := HBR.out.cell 0
      have r1 := HBR.out.cell 1
      have f0 := HBR.out.frozen 0
      have f1 := HBR.out.frozen 1
      simp only [List.getElem?_toArray, List.getElem?_cons_zero, List.getElem?_cons_succ] at q0 q1 r0 r1
      go_wp2_with fail
      have hnb : (Value.slice A done.length c).ownBlock ≠ some w.heap.size := fun h => by have := own_base HOWN.out _ h; omega
      have hfin := own_set (own_set HOWN.out hnb (i := 0) (.bool ng)) hnb (i := 1) (.slice A done.length c)
      refine bodyPost_ret (results_numI rfl _ _ w.heap.size (.bool ng) (.slice A done.length c) rfl ((HBR.out.set_ 0 (.bool ng)).set_ 1 (.slice A done.length c))) rfl ?_
      have hcp := own_cap hfin
      rw [HDN.out] at hfin hcp ⊢
      exact ⟨A, c, rfl, Reads.own hfin, (HX.out.setCell (p := ⟨w.heap.size, 0, none⟩) (Nat.le_refl _) _).setCell (p := ⟨w.heap.size, 1, none⟩) (Nat.le_refl _) _, hcp.1, hcp.2⟩
theorem lastT_step (g q : Nat) (l : Bs) : lastT g (q + 1) ++ l = UInt8.ofNat (48 + g / 10 ^ q % 10) :: (lastT g q ++ l) := rfl
theorem canon_sgn (b : Bool) (gs : List Nat) (h : ∀ g ∈ gs, g < B9) : canon (if b then 45 :: lowT gs else lowT gs) = ofI (sgn b (gval gs)) := canon_low b gs h
set_option maxRecDepth 100000 in
set_option maxHeartbeats 2000000 in
theorem refWrite (b : Bool) (gs : List Nat) (A : Option Addr) (c : Nat) (w : World) (hA : RdI w A gs) (hn : gs.length ≤ 1000000) (hb : ∀ g ∈ gs, g < B9) :
    Calls Tryz.prog 149 #[.agg #[.bool b, .slice A gs.length c]] w fun e w' => e = .returned (.string (bs (ofI (sgn b (gval gs))))) ∧ Ext w w' := by
  have HC := Lib.hid (canon_sgn b gs hb)
  generalize ofI (sgn b (gval gs)) = r at *
  have HA := Lib.hid (hA.ext (Ext.new w (.cells #[.bool b, .slice A gs.length c] 184)))
  have HB := Lib.hid hb
  have HTL := Lib.hid (fun k => (show (lowT (gs.take k)).length ≤ 9 * gs.length from by rw [lowT_len _ (fun g hg => hb g (List.mem_of_mem_take hg)), List.length_take]; omega))
  clear hA hb
  go_enter Tryz.func149, Tryz.ntmps149
  go_wp2_with fail
  go_loop [3, 4, 5, 6] (fun t i _ _ => ∃ k : Nat, k ≤ gs.length ∧ i = .int .i64 k ∧ t = .string (bs (lowT (gs.take k)))) (fun _ i _ _ => gs.length - (intOf i).toNat)
  case atStart => exact ⟨0, Nat.zero_le _, rfl, rfl⟩
  case round =>
    obtain ⟨k, hk, rfl, rfl⟩ := hrel
    have hlt9 := HTL.out k
    by_cases hlt : k < gs.length
    · obtain ⟨ab, ao, rfl, hab, hcell⟩ := HA.out.at_ hlt
      have hg := HB.out _ (List.getElem_mem hlt)
      have HNX : Hid (lastT (gs[k]'hlt) 9 ++ lowT (gs.take k) = lowT (gs.take (k + 1))) := Lib.hid (by
        rw [lastT_nine hg, List.take_succ_eq_append_getElem hlt, lowT_snoc])
      generalize gs[k]'hlt = g at *
      generalize lowT (gs.take k) = low at *
      have hg' : g < 1000000000 := hg
      clear hg
      go_wp2_with fail
      clear hcell
      go_loop [3, 5, 6] (fun t v j => ∃ q : Nat, q ≤ 9 ∧ j = .int .i64 q ∧ v = .int .i64 (g / 10 ^ q : Nat) ∧ t = .string (bs (lastT g q ++ low))) (fun _ _ j => 9 - (intOf j).toNat)
      case atStart => exact ⟨0, Nat.zero_le _, rfl, by rw [Nat.pow_zero, Nat.div_one], rfl⟩
      case round =>
        obtain ⟨q, hq, rfl, rfl, rfl⟩ := hrel
        by_cases hq9 : q < 9
        · have HS := Lib.hid (lastT_step g q low)
          have HV : Hid (g / 10 ^ q / 10 = g / 10 ^ (q + 1)) := Lib.hid (by rw [Nat.pow_succ, Nat.div_div_eq_div_mul])
          have hvl : g / 10 ^ q ≤ g := Nat.div_le_self _ _
          have hll : (lastT g q ++ low).length ≤ 9 + 9 * gs.length := by rw [List.length_append, lastT_len]; omega
          generalize lastT g q ++ low = t at *
          generalize g / 10 ^ q = v at *
          have hcv : ∀ W : World, (convert 21 9 (.int .i32 (48 + (v : Int) % 10))).run Tryz.prog W = .ok (.string (bs [UInt8.ofNat (48 + v % 10)])) W := fun W => by rw [run_convert_int_string W _ _ _ _ (by rw [Tryz.underlying21]; rfl) Tryz.underlying9, encode_dig]
          generalize UInt8.ofNat (48 + v % 10) = dd at *
          go_wp2_with fail
          go_round
          case rel => exact ⟨q + 1, by omega, by go_num, by rw [← HV.out] <;> go_num, by rw [HS.out]⟩
          case measure => simp [intOf]; omega
        · obtain rfl : q = 9 := by omega
          rw [HNX.out]
          generalize g / 10 ^ 9 = v at *
          go_wp2_with fail
          go_round
          case rel => exact ⟨k + 1, by omega, by go_num, rfl⟩
          case measure => simp [intOf]; omega
    · have HT : Hid (lowT (gs.take k) = lowT gs) := Lib.hid (by rw [List.take_of_length_le (by omega)])
      cases b
      · have HC' : Hid (canon (lowT gs) = r) := Lib.hid HC.out
        rw [← HT.out] at HC'
        clear HT HC
        generalize lowT (gs.take k) = t at *
        go_wp2_with fail
        refine (refCanonical t _ (by omega)).mono ?_
        rintro e w1 ⟨rfl, rfl⟩
        go_wp2_with fail
        go_ret
        exact ⟨by rw [HC'.out]; rfl, Ext.new _ _⟩
      · have HC' : Hid (canon (45 :: lowT gs) = r) := Lib.hid HC.out
        rw [← HT.out] at HC'
        clear HT HC
        generalize lowT (gs.take k) = t at *
        go_wp2_with fail
        refine (refCanonical (45 :: t) _ (by rw [List.length_cons]; omega)).mono ?_
        rintro e w1 ⟨rfl, rfl⟩
        go_wp2_with fail
        go_ret
        exact ⟨by rw [HC'.out]; rfl, Ext.new _ _⟩
end Go.Proofs.YteeampgbmpolfaaGreatDoor

/- The walks over the reference's sums and differences of groups. -/
namespace Go.Proofs.YteeampgbmpolfaaGreatDoor
open Go.RowKit Go.Shelf
attribute [local go_sem] size_bs toList_bs

def MagEndsI (n : Nat) (w : World) (e : Ending) (w' : World) : Prop :=
  ∃ A c, e = .returned (.slice A (gr n).length c) ∧ RdI w' A (gr n) ∧ Ext w w' ∧ (gr n).length ≤ c ∧ c ≤ maxLen
theorem RdI.cut {w : World} {A : Option Addr} {gs : List Nat} (h : RdI w A gs) : RdI w A (cutL gs) := by rw [cutL_prefix]; exact h.take _
theorem icells_snoc (l : List Nat) (x : Nat) (z : Int) (h : z = (x : Int)) : icells (l ++ [x]) = icells l ++ [.int .i64 z] := by subst h; simp [icells]
/-- how a loop stands that writes the groups f one after the other, with a carry -/
def SumAt (f g : Nat → Nat) (L : Nat) (w : World) (v cv z : Value) (wr : World) : Prop :=
  ∃ k : Nat, k ≤ L ∧ z = .int .i64 k ∧ cv = .int .i64 (g k : Nat) ∧ wr.ownsRow w.heap.size 3 1 v k (icells ((List.range k).map f)) ∧ Ext w wr
theorem own_next {w : World} {base k g c : Nat} {e : TypeId} {f : Nat → Nat} {z : Int} (h : w.ownsRow base e 1 (.slice (some ⟨g, 0, none⟩) (k + 1) c) (k + 1) (icells ((List.range k).map f) ++ [.int .i64 z])) (hz : z = (f k : Nat)) : w.ownsRow base e 1 (.slice (some ⟨g, 0, none⟩) (k + 1) c) (k + 1) (icells ((List.range (k + 1)).map f)) := by
  rw [List.range_succ, List.map_append, List.map_cons, List.map_nil, icells_snoc _ _ _ hz]; exact h
theorem plus_all {x y k : Nat} (h1 : (gr x).length ≤ k) (h2 : (gr y).length ≤ k) (hc : cy (at0 (gr x)) (at0 (gr y)) k = 0) : cutL ((List.range k).map (pl (at0 (gr x)) (at0 (gr y)))) = gr (x + y) := by
  rw [cutL_gr (by intro g hg; obtain ⟨j, _, rfl⟩ := List.mem_map.1 hg; exact pl_lt _ _ _), gval_range]
  have h := plus_sum (at0 (gr x)) (at0 (gr y)) k
  rw [hc, Nat.zero_mul, Nat.add_zero, ← gval_gsum (gr x) k h1, ← gval_gsum (gr y) k h2, gval_gr, gval_gr] at h
  rw [h]
set_option maxRecDepth 100000 in
set_option maxHeartbeats 4000000 in
theorem refPlus (x y : Nat) (A A' : Option Addr) (c c' : Nat) (w : World) (hA : RdI w A (gr x)) (hA' : RdI w A' (gr y)) (hn : (gr x).length ≤ 1000000) (hn' : (gr y).length ≤ 1000000) :
    Calls Tryz.prog 177 #[.slice A (gr x).length c, .slice A' (gr y).length c'] w (MagEndsI (x + y) w) := by
  obtain ⟨i0, hI, hz0, hz1, hz2⟩ := info_parts i64Info
  have HI := Lib.hid hI
  have HA := Lib.hid hA
  have HA' := Lib.hid hA'
  have HFIN := Lib.hid (fun k => plus_all (x := x) (y := y) (k := k))
  have HL1 := Lib.hid (fun k => at0_bd (gr_lt x) k)
  have HL2 := Lib.hid (fun k => at0_bd (gr_lt y) k)
  have HCY := Lib.hid (fun k => cy_le (HL1.out) (HL2.out) k)
  have HZA := Lib.hid (fun k h => at0_ge (l := gr x) (k := k) h)
  have HZB := Lib.hid (fun k h => at0_ge (l := gr y) (k := k) h)
  clear hI hA hA'
  generalize gr x = gx at *
  generalize gr y = gy at *
  go_enter Tryz.func177, Tryz.ntmps177
  go_wp2_with fail
  go_loopw [5, 6, 7, 8] (fun v cv z _ wr => SumAt (pl (at0 gx) (at0 gy)) (cy (at0 gx) (at0 gy)) (max gx.length gy.length + 1) w v cv z wr) (fun _ _ z _ _ => max gx.length gy.length + 2 - (intOf z).toNat)
  case atStart => exact ⟨0, by omega, rfl, rfl, ⟨rfl, .inr ⟨w.heap.size, 0, #[], rfl, Nat.le_refl _, heap_alloc_new w _, Nat.le_refl _, by decide, rfl, rfl⟩⟩, Ext.new _ _⟩
  case round =>
    obtain ⟨k, hk, rfl, rfl, hown, hx⟩ := hrel
    have HOWN := Lib.hid hown
    have HX := Lib.hid hx
    clear hown hx
    have hpk := HL1.out k
    have hqk := HL2.out k
    have hck := HCY.out k
    have hkk : k ≤ 1000001 := by omega
    by_cases hgo : k < gx.length ∨ k < gy.length ∨ 0 < cy (at0 gx) (at0 gy) k
    · have hkL : k ≤ max gx.length gy.length := by
        rcases Nat.lt_or_ge (max gx.length gy.length) k with h | h
        · exfalso
          obtain ⟨j, rfl⟩ : ∃ j, k = j + 1 := ⟨k - 1, by omega⟩
          have e1 := HZA.out j (by omega)
          have e2 := HZB.out j (by omega)
          have h3 := HCY.out j
          have e3 : cy (at0 gx) (at0 gy) (j + 1) = (at0 gx j + at0 gy j + cy (at0 gx) (at0 gy) j) / B9 := rfl
          rw [e1, e2] at e3
          have e4 : (0 + 0 + cy (at0 gx) (at0 gy) j) / B9 = 0 := Nat.div_eq_of_lt (by show _ < 1000000000; omega)
          omega
        · exact h
      have HP : Hid ((((at0 gx k : Nat) : Int) + (at0 gy k : Nat) + (cy (at0 gx) (at0 gy) k : Nat)) % 1000000000 = (pl (at0 gx) (at0 gy) k : Nat)) := Lib.hid (by show _ = (((at0 gx k + at0 gy k + cy (at0 gx) (at0 gy) k) % 1000000000 : Nat) : Int); omega)
      have HQ : Hid ((((at0 gx k : Nat) : Int) + (at0 gy k : Nat) + (cy (at0 gx) (at0 gy) k : Nat)) / 1000000000 = (cy (at0 gx) (at0 gy) (k + 1) : Nat)) := Lib.hid (by show _ = (((at0 gx k + at0 gy k + cy (at0 gx) (at0 gy) k) / 1000000000 : Nat) : Int); omega)
      have hpk' : at0 gx k < 1000000000 := hpk
      have hqk' : at0 gy k < 1000000000 := hqk
      clear hpk hqk
      have HG1 := Lib.hid (fun W h => refGroup gx A c k W h hn)
      have HG2 := Lib.hid (fun W h => refGroup gy A' c' k W h hn')
      have hcases : k < gx.length ∨ (¬ k < gx.length ∧ k < gy.length) ∨ (¬ k < gx.length ∧ ¬ k < gy.length ∧ 0 < cy (at0 gx) (at0 gy) k) := by omega
      generalize at0 gx k = p at *
      generalize at0 gy k = q at *
      generalize cy (at0 gx) (at0 gy) k = cc at *
      clear hgo
      rcases hcases with h1 | ⟨h1, h2⟩ | ⟨h1, h2, h3⟩
      all_goals
        go_wp2_with fail
        refine (HG1.out _ (HA.out.ext HX.out)).mono ?_
        rintro e w1 ⟨rfl, rfl⟩
        go_wp2_with fail
        refine (HG2.out _ (HA'.out.ext HX.out)).mono ?_
        rintro e w1 ⟨rfl, rfl⟩
        go_wp2_with (at_builtin; refine wpList_append_lies _ rfl (.tmp 35) (.tmp 38) 182 rfl w.heap.size 3 i0 _ 1 8 Tryz.underlying182 HI.out hz0 hz1 hz2 rfl (by decide) _ k (icells ((List.range k).map (pl (at0 gx) (at0 gy)))) rfl (own_ext2 HOWN.out (Ext.new _ _)) ⟨wr.heap.size, 0, none⟩ 1 1 [.int .i64 (((p : Int) + (q : Int) + (cc : Int)) % 1000000000)] rfl rfl (World.news_of_block (heap_alloc_new wr _)) (by simp [Value.oneCell']) (by omega) (by simp only [maxLen]; omega) (by omega) (by have := HX.out.size; simp; omega) _ rfl ?_; intro g' cap' w' hown hgrow hat hlt'; have HX2 : Hid (Ext w w') := Lib.hid (Ext.grown (HX.out.trans (Ext.new _ _)) hgrow (fun k hk => own_base HOWN.out k hk)); have HON := Lib.hid (own_next hown HP.out); clear hown hgrow hat)
        refine ⟨⟨k + 1, by omega, by go_num, by rw [← HQ.out], HON.out, HX2.out⟩, by simp [intOf]; omega⟩
    · have h1 : ¬ k < gx.length := by omega
      have h2 : ¬ k < gy.length := by omega
      have h3 : cy (at0 gx) (at0 gy) k = 0 := by omega
      have HF := Lib.hid (HFIN.out k (by omega) (by omega) h3)
      rw [h3]
      clear hgo h3 hck hpk hqk HFIN
      obtain ⟨A1, c1, rfl⟩ := own_slice HOWN.out
      have hcp := own_cap HOWN.out
      have hlen : ((List.range k).map (pl (at0 gx) (at0 gy))).length = k := by simp
      have HRD : Hid (RdI wr A1 ((List.range k).map (pl (at0 gx) (at0 gy)))) := Lib.hid (by
        have := Reads.own HOWN.out
        unfold RdI; rw [hlen]; exact this)
      have HTR := Lib.hid (refTrim ((List.range k).map (pl (at0 gx) (at0 gy))) A1 c1 wr HRD.out (by rw [hlen]; exact hcp.1) hcp.2 (by intro g hg; obtain ⟨j, _, rfl⟩ := List.mem_map.1 hg; exact pl_lt _ _ _))
      rw [hlen, HF.out] at HTR
      have HRC : Hid (RdI wr A1 (gr (x + y))) := Lib.hid (by rw [← HF.out]; exact HRD.out.cut)
      have HCL : Hid ((gr (x + y)).length ≤ c1 ∧ c1 ≤ maxLen) := Lib.hid ⟨by rw [← HF.out]; have := cutL_le ((List.range k).map (pl (at0 gx) (at0 gy))); omega, hcp.2⟩
      clear hlen hcp
      go_wp2_with fail
      refine HTR.out.mono ?_
      rintro e w1 ⟨rfl, rfl⟩
      go_wp2_with fail
      go_ret
      exact ⟨A1, c1, rfl, HRC.out, HX.out, HCL.out.1, HCL.out.2⟩
theorem quiet_same {P : Program} {f : FuncId} {args : Array Value} {w : World} {n : Nat} {v : Value}
    (h : Calls P f args (w.drewN n) fun e w' => e = .returned v ∧ w.drewN n = w') : Calls P f args (w.drewN n) fun e w'' => e = .returned v ∧ ∃ m, w'' = w.drewN m :=
  h.mono fun _ _ ⟨he, hm⟩ => ⟨he, n, hm.symm⟩
theorem own_drewN {w : World} {base : Nat} {e : TypeId} {size n : Nat} {v : Value} {xs : List Value} (h : w.ownsRow base e size v n xs) (k : Nat) : (w.drewN k).ownsRow base e size v n xs := own_ext2 h ((Ext.refl w).drewN k)
set_option maxRecDepth 100000 in
set_option maxHeartbeats 4000000 in
theorem refMinus (x y : Nat) (hle : y ≤ x) (A A' : Option Addr) (c c' : Nat) (w : World) (hA : RdI w A (gr x)) (hA' : RdI w A' (gr y)) (hn : (gr x).length ≤ 1000000) (hn' : (gr y).length ≤ 1000000) :
    Calls Tryz.prog 179 #[.slice A (gr x).length c, .slice A' (gr y).length c'] w (MagEndsI (x - y) w) := by
  obtain ⟨i0, hI, hz0, hz1, hz2⟩ := info_parts i64Info
  have HI := Lib.hid hI
  have HA := Lib.hid hA
  have HA' := Lib.hid hA'
  have HFIN := Lib.hid (cut_mixed hle)
  have HL1 := Lib.hid (fun k => at0_bd (gr_lt x) k)
  have HL2 := Lib.hid (fun k => at0_bd (gr_lt y) k)
  have HMI := Lib.hid (fun k => mi_lt (HL1.out) (HL2.out) k)
  have HV1 := Lib.hid (fun k (h : k < (gr x).length) => at0_lt h)
  clear hI hA hA' hle
  generalize gr x = gx at *
  generalize gr y = gy at *
  go_enter Tryz.func179, Tryz.ntmps179
  go_wp2_with fail
  go_loopw [5, 6, 7, 8] (fun v cv z _ wr => SumAt (mi (at0 gx) (at0 gy)) (bw (at0 gx) (at0 gy)) gx.length w v cv z wr) (fun _ _ z _ _ => gx.length - (intOf z).toNat)
  case atStart => exact ⟨0, by omega, rfl, rfl, ⟨rfl, .inr ⟨w.heap.size, 0, #[], rfl, Nat.le_refl _, heap_alloc_new w _, Nat.le_refl _, by decide, rfl, rfl⟩⟩, Ext.new _ _⟩
  case round =>
    obtain ⟨k, hk, rfl, rfl, hown, hx⟩ := hrel
    have HOWN := Lib.hid hown
    have HX := Lib.hid hx
    clear hown hx
    by_cases hlt : k < gx.length
    · have hpk : at0 gx k < 1000000000 := HL1.out k
      have hqk : at0 gy k < 1000000000 := HL2.out k
      have hbk : bw (at0 gx) (at0 gy) k ≤ 1 := bw_le _ _ k
      obtain ⟨ab, ao, rfl, hab, hcell⟩ := (HA.out.ext HX.out).at_ hlt
      rw [← HV1.out k hlt] at hcell
      have HG2 := Lib.hid (fun W h => refGroup gy A' c' k W h hn')
      have HM1 : Hid (at0 gx k < at0 gy k + bw (at0 gx) (at0 gy) k → ((at0 gx k : Nat) : Int) - (at0 gy k : Nat) - (bw (at0 gx) (at0 gy) k : Nat) + 1000000000 = (mi (at0 gx) (at0 gy) k : Nat) ∧ bw (at0 gx) (at0 gy) (k + 1) = 1) := Lib.hid (fun h => by
        have e1 : mi (at0 gx) (at0 gy) k = at0 gx k + 1000000000 - (at0 gy k + bw (at0 gx) (at0 gy) k) := by unfold mi; rw [if_pos h]; rfl
        have e2 : bw (at0 gx) (at0 gy) (k + 1) = 1 := by show (if _ then 1 else 0) = 1; rw [if_pos h]
        exact ⟨by omega, e2⟩)
      have HM2 : Hid (¬ at0 gx k < at0 gy k + bw (at0 gx) (at0 gy) k → ((at0 gx k : Nat) : Int) - (at0 gy k : Nat) - (bw (at0 gx) (at0 gy) k : Nat) = (mi (at0 gx) (at0 gy) k : Nat) ∧ bw (at0 gx) (at0 gy) (k + 1) = 0) := Lib.hid (fun h => by
        have e1 : mi (at0 gx) (at0 gy) k = at0 gx k - (at0 gy k + bw (at0 gx) (at0 gy) k) := by unfold mi; rw [if_neg h]
        have e2 : bw (at0 gx) (at0 gy) (k + 1) = 0 := by show (if _ then 1 else 0) = 0; rw [if_neg h]
        exact ⟨by omega, e2⟩)
      generalize at0 gx k = p at *
      generalize at0 gy k = q at *
      generalize bw (at0 gx) (at0 gy) k = bb at *
      have hw1 : IntKind.i64.wrap ((p : Int) - (q : Int)) = (p : Int) - q := IntWalk.i64_in _ (by omega)
      have hw2 : IntKind.i64.wrap ((p : Int) - (q : Int) - (bb : Int)) = (p : Int) - q - bb := IntWalk.i64_in _ (by omega)
      by_cases hbo : p < q + bb
      · obtain ⟨he1, he2⟩ := HM1.out hbo
        have HP := Lib.hid he1
        have HQ := Lib.hid he2
        have hneg : (p : Int) - (q : Int) - (bb : Int) < 0 := by omega
        clear HM1 HM2 he1 he2
        go_wp2_with fail
        go_quiet ((go_at_call 206; exact quiet_same (HG2.out _ (HA'.out.ext (HX.out.drewN _)))))
        clear hw1 hw2
        go_wp2_with (at_builtin; refine wpList_append_lies _ rfl (.tmp 30) (.tmp 32) 182 rfl w.heap.size 3 i0 _ 1 8 Tryz.underlying182 HI.out hz0 hz1 hz2 rfl (by decide) _ k (icells ((List.range k).map (mi (at0 gx) (at0 gy)))) rfl (own_ext2 (own_drewN HOWN.out _) (Ext.new _ _)) ⟨wr.heap.size, 0, none⟩ 1 1 [.int .i64 ((p : Int) - (q : Int) - (bb : Int) + 1000000000)] rfl rfl (World.news_of_block (heap_alloc_new _ _)) (by simp [Value.oneCell']) (by omega) (by simp only [maxLen]; omega) (by omega) (by have := HX.out.size; simp; omega) _ rfl ?_; intro g' cap' w' hown hgrow hat hlt'; have HX2 : Hid (Ext w w') := Lib.hid (Ext.grown ((HX.out.drewN _).trans (Ext.new _ _)) hgrow (fun k hk => own_base HOWN.out k hk)); have HON := Lib.hid (own_next hown HP.out); clear hown hgrow hat)
        refine ⟨⟨k + 1, by omega, by go_num, by rw [HQ.out]; rfl, HON.out, HX2.out⟩, by simp [intOf]; omega⟩
      · obtain ⟨he1, he2⟩ := HM2.out hbo
        have HP := Lib.hid he1
        have HQ := Lib.hid he2
        have hneg : ¬ (p : Int) - (q : Int) - (bb : Int) < 0 := by omega
        clear HM1 HM2 he1 he2
        go_wp2_with fail
        go_quiet ((go_at_call 206; exact quiet_same (HG2.out _ (HA'.out.ext (HX.out.drewN _)))))
        clear hw1 hw2
        go_wp2_with (at_builtin; refine wpList_append_lies _ rfl (.tmp 30) (.tmp 32) 182 rfl w.heap.size 3 i0 _ 1 8 Tryz.underlying182 HI.out hz0 hz1 hz2 rfl (by decide) _ k (icells ((List.range k).map (mi (at0 gx) (at0 gy)))) rfl (own_ext2 (own_drewN HOWN.out _) (Ext.new _ _)) ⟨wr.heap.size, 0, none⟩ 1 1 [.int .i64 ((p : Int) - (q : Int) - (bb : Int))] rfl rfl (World.news_of_block (heap_alloc_new _ _)) (by simp [Value.oneCell']) (by omega) (by simp only [maxLen]; omega) (by omega) (by have := HX.out.size; simp; omega) _ rfl ?_; intro g' cap' w' hown hgrow hat hlt'; have HX2 : Hid (Ext w w') := Lib.hid (Ext.grown ((HX.out.drewN _).trans (Ext.new _ _)) hgrow (fun k hk => own_base HOWN.out k hk)); have HON := Lib.hid (own_next hown HP.out); clear hown hgrow hat)
        refine ⟨⟨k + 1, by omega, by go_num, by rw [HQ.out]; rfl, HON.out, HX2.out⟩, by simp [intOf]; omega⟩
    · obtain rfl : k = gx.length := by omega
      generalize bw (at0 gx) (at0 gy) gx.length = bb at *
      obtain ⟨A1, c1, rfl⟩ := own_slice HOWN.out
      have hcp := own_cap HOWN.out
      have hlen : ((List.range gx.length).map (mi (at0 gx) (at0 gy))).length = gx.length := by simp
      have HRD : Hid (RdI wr A1 ((List.range gx.length).map (mi (at0 gx) (at0 gy)))) := Lib.hid (by
        have := Reads.own HOWN.out
        unfold RdI; rw [hlen]; exact this)
      have HTR := Lib.hid (refTrim ((List.range gx.length).map (mi (at0 gx) (at0 gy))) A1 c1 wr HRD.out (by rw [hlen]; exact hcp.1) hcp.2 (by intro g hg; obtain ⟨j, _, rfl⟩ := List.mem_map.1 hg; exact HMI.out _))
      rw [hlen, HFIN.out] at HTR
      have HRC : Hid (RdI wr A1 (gr (x - y))) := Lib.hid (by rw [← HFIN.out]; exact HRD.out.cut)
      have HCL : Hid ((gr (x - y)).length ≤ c1 ∧ c1 ≤ maxLen) := Lib.hid ⟨by rw [← HFIN.out]; have := cutL_le ((List.range gx.length).map (mi (at0 gx) (at0 gy))); omega, hcp.2⟩
      clear hlen hcp
      go_wp2_with fail
      refine HTR.out.mono ?_
      rintro e w1 ⟨rfl, rfl⟩
      go_wp2_with fail
      go_ret
      exact ⟨A1, c1, rfl, HRC.out, HX.out, HCL.out.1, HCL.out.2⟩
end Go.Proofs.YteeampgbmpolfaaGreatDoor

/- The walks over the reference's sum of numbers: add, Add, Sub. (printed by refaddgen.py) -/
namespace Go.Proofs.YteeampgbmpolfaaGreatDoor
open Go.RowKit
attribute [local go_sem] size_bs toList_bs

theorem RdI.far {w : World} {A : Option Addr} {gs : List Nat} (h : RdI w A gs) {g i : Nat} (u : Value) (hne : 0 < gs.length → ∀ b o, A = some ⟨b, o, none⟩ → b ≠ g) : RdI (w.setCell ⟨g, i, none⟩ u) A gs := by
  refine ⟨h.1, fun hn => ?_⟩
  obtain ⟨b, o, rfl, hb, hc⟩ := h.2 hn
  have hbg := hne hn b o rfl
  refine ⟨b, o, rfl, by simpa [World.setCell] using hb, fun j v hv => ?_⟩
  rw [← hc j v hv]
  unfold World.cell?
  rw [Below.heap_setCell w ⟨g, i, none⟩ u b hbg]
theorem RdI.box {w : World} {A : Option Addr} {gs : List Nat} (h : RdI w A gs) {g : Nat} {t : TypeId} {x : Bool} {B : Option Addr} {n c : Nat} (hb : Blk w g t #[.bool x, .slice B n c]) : 0 < gs.length → ∀ b o, A = some ⟨b, o, none⟩ → b ≠ g := by
  intro hn b o e hbg
  subst e; subst hbg
  have h0 := Reads.cell h (j := 0) (u := .int .i64 (gs[0]'hn)) (by simp [icells, hn])
  rw [Nat.add_zero, hb.cell o] at h0
  match o, h0 with
  | 0, h0 => simp at h0
  | 1, h0 => simp at h0
  | o + 2, h0 => simp at h0
def AddEndsI (z : Int) (w : World) (e : Ending) (w' : World) : Prop :=
  ∃ b n A c, e = .returned (.agg #[.bool b, .slice A (gr n).length c]) ∧ sgn b n = z ∧ RdI w' A (gr n) ∧ Ext w w' ∧ (gr n).length ≤ c ∧ c ≤ maxLen
set_option maxRecDepth 100000 in
set_option maxHeartbeats 2000000 in
theorem refAdd_same (b : Bool) (x y : Nat) (A A' : Option Addr) (c c' : Nat) (w : World) (hA : RdI w A (gr x)) (hA' : RdI w A' (gr y)) (hn : (gr x).length ≤ 1000000) (hn' : (gr y).length ≤ 1000000) :
    Calls Tryz.prog 150 #[.agg #[.bool b, .slice A (gr x).length c], .agg #[.bool b, .slice A' (gr y).length c']] w (AddEndsI (sgn b x + sgn b y) w) := by
  have HA := Lib.hid hA
  have HA' := Lib.hid hA'
  have HPL := Lib.hid (fun W h1 h2 => refPlus x y A A' c c' W h1 h2 hn hn')
  have HS : Hid (sgn b (x + y) = sgn b x + sgn b y) := Lib.hid (by unfold sgn; cases b <;> simp; omega)
  generalize gr x = gx at *
  generalize gr y = gy at *
  clear hA hA'
  have HX0 : Hid (Ext w (((w.alloc (.cells #[.bool b, .slice A gx.length c] 184)).alloc (.cells #[.bool b, .slice A' gy.length c'] 184)).alloc (.cells #[.bool false, .slice none 0 0] 184))) := Lib.hid (((Ext.new _ _).alloc _).alloc _)
  have HBR := Lib.hid (blk_at ((w.alloc (.cells #[.bool b, .slice A gx.length c] 184)).alloc (.cells #[.bool b, .slice A' gy.length c'] 184)) 184 #[.bool false, .slice none 0 0] (w.heap.size + 1 + 1) (by simp))
  have HBX := Lib.hid (((blk_at w 184 #[.bool b, .slice A gx.length c] w.heap.size rfl).alloc (.cells #[.bool b, .slice A' gy.length c'] 184)).alloc (.cells #[.bool false, .slice none 0 0] 184))
  have HBY := Lib.hid ((blk_at (w.alloc (.cells #[.bool b, .slice A gx.length c] 184)) 184 #[.bool b, .slice A' gy.length c'] (w.heap.size + 1) (by simp)).alloc (.cells #[.bool false, .slice none 0 0] 184))
  have hn1 : w.heap.size ≠ w.heap.size + 1 + 1 := by omega
  have hn2 : w.heap.size + 1 + 1 ≠ w.heap.size := by omega
  have hn3 : ¬ (w.heap.size = w.heap.size + 1 + 1) := by omega
  go_enter Tryz.func150, Tryz.ntmps150
  go_wp2_with fail
  have HXW := HX0
  have HBRW := HBR
  have HBXW := HBX
  have HBYW := HBY
  skip
  go_region_held3 (fun w' => w'.cell? ⟨w.heap.size, 0, none⟩ = some (.bool b) ∧ w'.cell? ⟨w.heap.size, 1, none⟩ = some (.slice A gx.length c) ∧ w'.cell? ⟨w.heap.size + 1, 1, none⟩ = some (.slice A' gy.length c'))
    (go_keep)
    (first
      | (go_at_call 177; refine (HPL.out _ (HA.out.ext HXW.out.drew) (HA'.out.ext HXW.out.drew)).mono ?_; rintro e w2 ⟨A1, c1, rfl, hrd, hx2, hc1, hc2⟩; have hbr := HBRW.out.drew.ext hx2; have q0 := hbr.cell 0; have q1 := hbr.cell 1; have f0 := hbr.frozen 0; have f1 := hbr.frozen 1; have hba := HBXW.out.drew.ext hx2; have u0 := hba.cell 0; have u1 := hba.cell 1; have hbb := HBYW.out.drew.ext hx2; have v1 := hbb.cell 1; simp only [List.getElem?_toArray, List.getElem?_cons_zero, List.getElem?_cons_succ] at q0 q1 u0 u1 v1; have HBR2 := Lib.hid hbr; have HX2 := Lib.hid (HXW.out.drew.trans hx2); have HRD := Lib.hid hrd; have HC := Lib.hid (And.intro hc1 hc2); clear hbr hba hbb hx2 hrd hc1 hc2))
  all_goals
    go_wp2_with fail
    refine bodyPost_ret (results_numI rfl _ _ (w.heap.size + 1 + 1) (.bool b) (.slice A1 (gr (x + y)).length c1) rfl ((HBR2.out.set_ 0 (.bool b)).set_ 1 (.slice A1 (gr (x + y)).length c1))) rfl ?_
    have hne := HRD.out.box HBR2.out
    exact ⟨b, x + y, A1, c1, rfl, HS.out, (HRD.out.far (.bool b) hne).far _ hne, (HX2.out.setCell (p := ⟨w.heap.size + 1 + 1, 0, none⟩) (by show w.heap.size ≤ w.heap.size + 1 + 1; omega) _).setCell (p := ⟨w.heap.size + 1 + 1, 1, none⟩) (by show w.heap.size ≤ w.heap.size + 1 + 1; omega) _, HC.out.1, HC.out.2⟩
set_option maxRecDepth 100000 in
set_option maxHeartbeats 2000000 in
theorem refAdd_diff (b : Bool) (x y : Nat) (A A' : Option Addr) (c c' : Nat) (w : World) (hA : RdI w A (gr x)) (hA' : RdI w A' (gr y)) (hn : (gr x).length ≤ 1000000) (hn' : (gr y).length ≤ 1000000) :
    Calls Tryz.prog 150 #[.agg #[.bool b, .slice A (gr x).length c], .agg #[.bool (!b), .slice A' (gr y).length c']] w (AddEndsI (sgn b x + sgn (!b) y) w) := by
  have HA := Lib.hid hA
  have HA' := Lib.hid hA'
  have HCP := Lib.hid (fun W h1 h2 => refOrder x y A A' c c' W h1 h2 hn hn')
  have HM1 := Lib.hid (fun h W h1 h2 => refMinus x y h A A' c c' W h1 h2 hn hn')
  have HM2 := Lib.hid (fun h W h1 h2 => refMinus y x h A' A c' c W h1 h2 hn' hn)
  have HS1 : Hid (y ≤ x → sgn b (x - y) = sgn b x + sgn (!b) y) := Lib.hid (by intro h; unfold sgn; cases b <;> simp <;> omega)
  have HS2 : Hid (x ≤ y → sgn (!b) (y - x) = sgn b x + sgn (!b) y) := Lib.hid (by intro h; unfold sgn; cases b <;> simp <;> omega)
  generalize gr x = gx at *
  generalize gr y = gy at *
  clear hA hA'
  have hbb : (b == !b) = false := by cases b <;> rfl
  generalize hnb : (!b) = nb at *
  clear hnb
  have HX0 : Hid (Ext w (((w.alloc (.cells #[.bool b, .slice A gx.length c] 184)).alloc (.cells #[.bool nb, .slice A' gy.length c'] 184)).alloc (.cells #[.bool false, .slice none 0 0] 184))) := Lib.hid (((Ext.new _ _).alloc _).alloc _)
  have HBR := Lib.hid (blk_at ((w.alloc (.cells #[.bool b, .slice A gx.length c] 184)).alloc (.cells #[.bool nb, .slice A' gy.length c'] 184)) 184 #[.bool false, .slice none 0 0] (w.heap.size + 1 + 1) (by simp))
  have HBX := Lib.hid (((blk_at w 184 #[.bool b, .slice A gx.length c] w.heap.size rfl).alloc (.cells #[.bool nb, .slice A' gy.length c'] 184)).alloc (.cells #[.bool false, .slice none 0 0] 184))
  have HBY := Lib.hid ((blk_at (w.alloc (.cells #[.bool b, .slice A gx.length c] 184)) 184 #[.bool nb, .slice A' gy.length c'] (w.heap.size + 1) (by simp)).alloc (.cells #[.bool false, .slice none 0 0] 184))
  have hn1 : w.heap.size ≠ w.heap.size + 1 + 1 := by omega
  have hn2 : w.heap.size + 1 + 1 ≠ w.heap.size := by omega
  have hn3 : ¬ (w.heap.size = w.heap.size + 1 + 1) := by omega
  go_enter Tryz.func150, Tryz.ntmps150
  go_wp2_with fail
  refine (HCP.out _ (HA.out.ext HX0.out) (HA'.out.ext HX0.out)).mono ?_
  rintro e w1 ⟨hx1, r, rfl, hcase⟩
  have hbx := HBX.out.ext hx1
  have hby := HBY.out.ext hx1
  have hbr := HBR.out.ext hx1
  have x0 := hbx.cell 0
  have x1 := hbx.cell 1
  have y0 := hby.cell 0
  have y1 := hby.cell 1
  simp only [List.getElem?_toArray, List.getElem?_cons_zero, List.getElem?_cons_succ] at x0 x1 y0 y1
  have HXW := Lib.hid (HX0.out.trans hx1)
  have HBXW := Lib.hid hbx
  have HBYW := Lib.hid hby
  have HBRW := Lib.hid hbr
  clear hbx hby hbr hx1 HX0 HBX HBY HBR
  by_cases hr : r < 0
  · have hle : x ≤ y := by omega
    have HM := Lib.hid (HM2.out hle)
    have HS := Lib.hid (HS2.out hle)
    have hr' : ¬ 0 ≤ r := by omega
    clear hcase hle
    go_wp2_with fail
    go_region_held3 (fun w' => w'.cell? ⟨w.heap.size + 1, 0, none⟩ = some (.bool nb) ∧ w'.cell? ⟨w.heap.size + 1, 1, none⟩ = some (.slice A' gy.length c') ∧ w'.cell? ⟨w.heap.size, 1, none⟩ = some (.slice A gx.length c))
      (go_keep)
      (first
        | (go_at_call 179; refine (HM.out _ (HA'.out.ext HXW.out.drew) (HA.out.ext HXW.out.drew)).mono ?_; rintro e w2 ⟨A1, c1, rfl, hrd, hx2, hc1, hc2⟩; have hbr := HBRW.out.drew.ext hx2; have q0 := hbr.cell 0; have q1 := hbr.cell 1; have f0 := hbr.frozen 0; have f1 := hbr.frozen 1; have hba := HBYW.out.drew.ext hx2; have u0 := hba.cell 0; have u1 := hba.cell 1; have hbb := HBXW.out.drew.ext hx2; have v1 := hbb.cell 1; simp only [List.getElem?_toArray, List.getElem?_cons_zero, List.getElem?_cons_succ] at q0 q1 u0 u1 v1; have HBR2 := Lib.hid hbr; have HX2 := Lib.hid (HXW.out.drew.trans hx2); have HRD := Lib.hid hrd; have HC := Lib.hid (And.intro hc1 hc2); clear hbr hba hbb hx2 hrd hc1 hc2))
    all_goals
      go_wp2_with fail
      refine bodyPost_ret (results_numI rfl _ _ (w.heap.size + 1 + 1) (.bool nb) (.slice A1 (gr (y - x)).length c1) rfl ((HBR2.out.set_ 0 (.bool nb)).set_ 1 (.slice A1 (gr (y - x)).length c1))) rfl ?_
      have hne := HRD.out.box HBR2.out
      exact ⟨nb, y - x, A1, c1, rfl, HS.out, (HRD.out.far (.bool nb) hne).far _ hne, (HX2.out.setCell (p := ⟨w.heap.size + 1 + 1, 0, none⟩) (by show w.heap.size ≤ w.heap.size + 1 + 1; omega) _).setCell (p := ⟨w.heap.size + 1 + 1, 1, none⟩) (by show w.heap.size ≤ w.heap.size + 1 + 1; omega) _, HC.out.1, HC.out.2⟩
  · have hle : y ≤ x := by omega
    have HM := Lib.hid (HM1.out hle)
    have HS := Lib.hid (HS1.out hle)
    have hr' : 0 ≤ r := by omega
    clear hcase hle
    go_wp2_with fail
    go_region_held3 (fun w' => w'.cell? ⟨w.heap.size, 0, none⟩ = some (.bool b) ∧ w'.cell? ⟨w.heap.size, 1, none⟩ = some (.slice A gx.length c) ∧ w'.cell? ⟨w.heap.size + 1, 1, none⟩ = some (.slice A' gy.length c'))
      (go_keep)
      (first
        | (go_at_call 179; refine (HM.out _ (HA.out.ext HXW.out.drew) (HA'.out.ext HXW.out.drew)).mono ?_; rintro e w2 ⟨A1, c1, rfl, hrd, hx2, hc1, hc2⟩; have hbr := HBRW.out.drew.ext hx2; have q0 := hbr.cell 0; have q1 := hbr.cell 1; have f0 := hbr.frozen 0; have f1 := hbr.frozen 1; have hba := HBXW.out.drew.ext hx2; have u0 := hba.cell 0; have u1 := hba.cell 1; have hbb := HBYW.out.drew.ext hx2; have v1 := hbb.cell 1; simp only [List.getElem?_toArray, List.getElem?_cons_zero, List.getElem?_cons_succ] at q0 q1 u0 u1 v1; have HBR2 := Lib.hid hbr; have HX2 := Lib.hid (HXW.out.drew.trans hx2); have HRD := Lib.hid hrd; have HC := Lib.hid (And.intro hc1 hc2); clear hbr hba hbb hx2 hrd hc1 hc2))
    all_goals
      go_wp2_with fail
      refine bodyPost_ret (results_numI rfl _ _ (w.heap.size + 1 + 1) (.bool b) (.slice A1 (gr (x - y)).length c1) rfl ((HBR2.out.set_ 0 (.bool b)).set_ 1 (.slice A1 (gr (x - y)).length c1))) rfl ?_
      have hne := HRD.out.box HBR2.out
      exact ⟨b, x - y, A1, c1, rfl, HS.out, (HRD.out.far (.bool b) hne).far _ hne, (HX2.out.setCell (p := ⟨w.heap.size + 1 + 1, 0, none⟩) (by show w.heap.size ≤ w.heap.size + 1 + 1; omega) _).setCell (p := ⟨w.heap.size + 1 + 1, 1, none⟩) (by show w.heap.size ≤ w.heap.size + 1 + 1; omega) _, HC.out.1, HC.out.2⟩
theorem refAddN (b b' : Bool) (x y : Nat) (A A' : Option Addr) (c c' : Nat) (w : World) (hA : RdI w A (gr x)) (hA' : RdI w A' (gr y)) (hn : (gr x).length ≤ 1000000) (hn' : (gr y).length ≤ 1000000) :
    Calls Tryz.prog 150 #[.agg #[.bool b, .slice A (gr x).length c], .agg #[.bool b', .slice A' (gr y).length c']] w (AddEndsI (sgn b x + sgn b' y) w) := by
  by_cases h : b' = b
  · subst h; exact refAdd_same b' x y A A' c c' w hA hA' hn hn'
  · have e : b' = !b := by cases b <;> cases b' <;> simp_all
    subst e; exact refAdd_diff b x y A A' c c' w hA hA' hn hn'
end Go.Proofs.YteeampgbmpolfaaGreatDoor

/- The walks over the reference's Add and Sub. -/
namespace Go.Proofs.YteeampgbmpolfaaGreatDoor
open Go.RowKit
attribute [local go_sem] size_bs toList_bs

theorem gr_len10 {n L : Nat} (h : n < 10 ^ L) : (gr n).length ≤ L := gr_len_le (Nat.lt_of_lt_of_le h (Nat.pow_le_pow_left (by decide) L))
theorem natOf_mag_lt (l : Bs) : natOf (mag l) < 10 ^ l.length := Nat.lt_of_lt_of_le (natOf_lt (mag_all l)) (Nat.pow_le_pow_right (by decide) (mag_le l))
theorem sum_len {b b1 b2 : Bool} {n x y L : Nat} (h : sgn b n = sgn b1 x + sgn b2 y) (hx : x < 10 ^ L) (hy : y < 10 ^ L) : (gr n).length ≤ L + 1 := by
  refine gr_len10 ?_
  have hn : n ≤ x + y := by unfold sgn at h; cases b <;> cases b1 <;> cases b2 <;> simp at h <;> omega
  rw [Nat.pow_succ]; omega
theorem mag_pow (l : Bs) {L : Nat} (h : l.length ≤ L) : natOf (mag l) < 10 ^ L := Nat.lt_of_lt_of_le (natOf_mag_lt l) (Nat.pow_le_pow_right (by decide) h)
theorem valI_sgn (l : Bs) : valI l = sgn (neg l) (natOf (mag l)) := rfl
theorem valI_short {l : Bs} (h : (mag l).length ≤ 17) : -1000000000000000000 ≤ valI l ∧ valI l ≤ 1000000000000000000 := by
  have h1 : natOf (mag l) < 100000000000000000 := by
    have := natOf_take_lt (mag_all l) h (mag l).length
    rwa [List.take_of_length_le (Nat.le_refl _)] at this
  unfold valI; split <;> omega
set_option maxRecDepth 100000 in
set_option maxHeartbeats 2000000 in
theorem refAdd_long (a b : Bs) (w : World) (ha : a.length ≤ 100000) (hb : b.length ≤ 100000) (m n : Int) (is also : Bool) (hno : (is && also) = false)
    (h1 : ∀ w, Calls Tryz.prog 147 #[.string (bs a)] w fun e w' => e = .returned (.tuple #[.int .i64 m, .bool is]) ∧ w = w')
    (h2 : ∀ w, Calls Tryz.prog 147 #[.string (bs b)] w fun e w' => e = .returned (.tuple #[.int .i64 n, .bool also]) ∧ w = w') :
    Calls Tryz.prog 104 #[.string (bs a), .string (bs b)] w fun e w' => e = .returned (.string (bs (ofI (valI a + valI b)))) ∧ Ext w w' := by
  have HR1 := Lib.hid (fun W => refReadN a W (by omega))
  have HR2 := Lib.hid (fun W => refReadN b W (by omega))
  obtain ⟨L, hLa, hLb, hL⟩ : ∃ L : Nat, a.length ≤ L ∧ b.length ≤ L ∧ L ≤ 100000 := ⟨max a.length b.length, by omega, by omega, by omega⟩
  have HL1 : Hid ((gr (natOf (mag a))).length ≤ 1000000) := Lib.hid (by have := gr_len10 (mag_pow a hLa); omega)
  have HL2 : Hid ((gr (natOf (mag b))).length ≤ 1000000) := Lib.hid (by have := gr_len10 (mag_pow b hLb); omega)
  have HP1 := Lib.hid (mag_pow a hLa)
  have HP2 := Lib.hid (mag_pow b hLb)
  have HV : Hid (valI a + valI b = sgn (neg a) (natOf (mag a)) + sgn (neg b) (natOf (mag b))) := Lib.hid rfl
  generalize valI a + valI b = z at *
  generalize natOf (mag a) = x at *
  generalize natOf (mag b) = y at *
  generalize neg a = ba at *
  generalize neg b = bb at *
  have H1 := Lib.hid h1
  have H2 := Lib.hid h2
  clear h1 h2 ha hb hLa hLb
  have hcase : (is = true ∧ also = false) ∨ is = false := by cases is <;> cases also <;> simp_all
  clear hno
  rcases hcase with ⟨rfl, rfl⟩ | rfl
  all_goals
    go_enter Tryz.func104, Tryz.ntmps104
    go_wp2_with fail
    refine (H1.out _).mono ?_
    rintro e w1 ⟨rfl, rfl⟩
    go_wp2_with fail
    refine (H2.out _).mono ?_
    rintro e w1 ⟨rfl, rfl⟩
    go_wp2_with fail
    refine (HR1.out _).mono ?_
    rintro e w2 ⟨A, c, rfl, hrd1, hx1, _, _⟩
    go_wp2_with fail
    refine (HR2.out _).mono ?_
    rintro e w3 ⟨A', c', rfl, hrd2, hx2, _, _⟩
    have HD1 := Lib.hid (hrd1.ext hx2)
    have HD2 := Lib.hid hrd2
    have HX := Lib.hid (hx1.trans hx2)
    clear hrd1 hrd2 hx1 hx2
    go_wp2_with fail
    refine (refAddN ba bb x y A A' c c' _ HD1.out HD2.out HL1.out HL2.out).mono ?_
    rintro e w4 ⟨bs', n', A1, c1, rfl, hs, hrd, hx, _, _⟩
    have HS := Lib.hid hs
    have HD := Lib.hid hrd
    have HX4 := Lib.hid (HX.out.trans hx)
    have HLN : Hid ((gr n').length ≤ 1000000) := Lib.hid (by have := sum_len hs HP1.out HP2.out; omega)
    clear hs hrd hx
    have HW := Lib.hid (refWrite bs' (gr n') A1 c1 w4 HD.out HLN.out (gr_lt n'))
    rw [gval_gr, HS.out, ← HV.out] at HW
    go_wp2_with fail
    refine HW.out.mono ?_
    rintro e w5 ⟨rfl, hx5⟩
    go_wp2_with fail
    go_ret
    exact ⟨rfl, HX4.out.trans hx5⟩
set_option maxRecDepth 100000 in
set_option maxHeartbeats 2000000 in
theorem refAdd (a b : Bs) (w : World) (ha : a.length ≤ 100000) (hb : b.length ≤ 100000) :
    Calls Tryz.prog 104 #[.string (bs a), .string (bs b)] w fun e w' => e = .returned (.string (bs (ofI (valI a + valI b)))) ∧ Ext w w' := by
  by_cases h1 : (mag a).length ≤ 17
  · by_cases h2 : (mag b).length ≤ 17
    · have HS1 := Lib.hid (fun w => refShort a w (by omega) h1)
      have HS2 := Lib.hid (fun w => refShort b w (by omega) h2)
      obtain ⟨p1, p2⟩ := valI_short h1
      obtain ⟨q1, q2⟩ := valI_short h2
      have HOF := Lib.hid (fun w => refIntOf (valI a + valI b) (by omega) (by omega) w)
      clear h1 h2 ha hb
      generalize valI a = m at *
      generalize valI b = n at *
      go_enter Tryz.func104, Tryz.ntmps104
      go_wp2_with fail
      refine (HS1.out _).mono ?_
      rintro e w1 ⟨rfl, rfl⟩
      go_wp2_with fail
      refine (HS2.out _).mono ?_
      rintro e w1 ⟨rfl, rfl⟩
      go_wp2_with fail
      refine (HOF.out _).mono ?_
      rintro e w1 ⟨rfl, rfl⟩
      go_wp2_with fail
      go_ret
      exact ⟨rfl, Ext.refl _⟩
    · exact refAdd_long a b w ha hb _ _ true false rfl (fun w => refShort a w (by omega) h1) (fun w => refShort_no b w (by omega) h2)
  · by_cases h2 : (mag b).length ≤ 17
    · exact refAdd_long a b w ha hb _ _ false true rfl (fun w => refShort_no a w (by omega) h1) (fun w => refShort b w (by omega) h2)
    · exact refAdd_long a b w ha hb _ _ false false rfl (fun w => refShort_no a w (by omega) h1) (fun w => refShort_no b w (by omega) h2)
theorem ofI_len {z : Int} {L : Nat} (h : z.natAbs < 10 ^ L) : (ofI z).length ≤ L + 1 := by
  have := dig10_len h
  unfold ofI; split <;> simp <;> omega
theorem valI_abs (l : Bs) : (valI l).natAbs < 10 ^ l.length := by
  have := natOf_mag_lt l
  unfold valI; split <;> omega
set_option maxHeartbeats 1000000 in
theorem refSub (a b : Bs) (w : World) (ha : a.length ≤ 90000) (hb : b.length ≤ 90000) :
    Calls Tryz.prog 71 #[.string (bs a), .string (bs b)] w fun e w' => e = .returned (.string (bs (ofI (valI a - valI b)))) ∧ Ext w w' := by
  have HN := Lib.hid (fun w => refNeg b w (by omega))
  have HA := Lib.hid (fun w => refAdd a (ofI (-(valI b))) w (by omega) (by
    have h1 := valI_abs b
    have h2 : (ofI (-(valI b))).length ≤ b.length + 1 := ofI_len (by rwa [Int.natAbs_neg])
    omega))
  rw [valI_ofI, ← Int.sub_eq_add_neg] at HA
  clear ha hb
  generalize ofI (-(valI b)) = c at *
  generalize ofI (valI a - valI b) = r at *
  go_enter Tryz.func71, Tryz.ntmps71
  go_wp2_with fail
  refine (HN.out _).mono ?_
  rintro e w1 ⟨rfl, rfl⟩
  go_wp2_with fail
  refine (HA.out _).mono ?_
  rintro e w2 ⟨rfl, hx⟩
  go_wp2_with fail
  go_ret
  exact ⟨rfl, hx⟩
end Go.Proofs.YteeampgbmpolfaaGreatDoor

/- The walks over the program's Add, Sub, Neg. -/
namespace Go.Proofs.YteeampgbmpolfaaGreatDoor
open Go.RowKit
attribute [local go_sem] size_bs toList_bs

set_option maxRecDepth 100000 in
set_option maxHeartbeats 2000000 in
theorem intAddS (a b : Bs) (w : World) (ha : a.length ≤ 100000) (hb : b.length ≤ 100000) (hE : Env w) :
    Calls Tryz.prog 34 #[.string (bs a), .string (bs b)] w fun e w' => e = .returned (.string (bs (ofI (valI a + valI b)))) ∧ Ext w w' := by
  have HR1 := Lib.hid (fun W => intRead a W (by omega))
  have HR2 := Lib.hid (fun W => intRead b W (by omega))
  obtain ⟨L, hLa, hLb, hL⟩ : ∃ L : Nat, a.length ≤ L ∧ b.length ≤ L ∧ L ≤ 100000 := ⟨max a.length b.length, by omega, by omega, by omega⟩
  have HL1 : Hid ((gr (natOf (mag a))).length ≤ 1000000) := Lib.hid (by have := gr_len10 (mag_pow a hLa); omega)
  have HL2 : Hid ((gr (natOf (mag b))).length ≤ 1000000) := Lib.hid (by have := gr_len10 (mag_pow b hLb); omega)
  have HP1 := Lib.hid (mag_pow a hLa)
  have HP2 := Lib.hid (mag_pow b hLb)
  have HE := Lib.hid hE
  have HV : Hid (valI a + valI b = sgn (neg a) (natOf (mag a)) + sgn (neg b) (natOf (mag b))) := Lib.hid rfl
  generalize valI a + valI b = z at *
  generalize natOf (mag a) = x at *
  generalize natOf (mag b) = y at *
  generalize neg a = ba at *
  generalize neg b = bb at *
  clear ha hb hLa hLb hE
  go_enter Tryz.func34, Tryz.ntmps34
  go_wp2_with fail
  refine (HR1.out _).mono ?_
  rintro e w2 ⟨A, c, rfl, hrd1, hx1, _, _⟩
  go_wp2_with fail
  refine (HR2.out _).mono ?_
  rintro e w3 ⟨A', c', rfl, hrd2, hx2, _, _⟩
  have HD1 := Lib.hid (hrd1.ext hx2)
  have HD2 := Lib.hid hrd2
  have HX := Lib.hid (hx1.trans hx2)
  clear hrd1 hrd2 hx1 hx2
  go_wp2_with fail
  refine (intAdd ba bb x y A A' c c' _ HD1.out HD2.out HL1.out HL2.out).mono ?_
  rintro e w4 ⟨bs', n', A1, c1, rfl, hs, hrd, hx, hc1, hc2⟩
  have HD := Lib.hid hrd
  have HX4 := Lib.hid (HX.out.trans hx)
  have HC := Lib.hid (And.intro hc1 hc2)
  have HLN : Hid ((gr n').length ≤ 1000000) := Lib.hid (by have := sum_len hs HP1.out HP2.out; omega)
  have HS : Hid (txt bs' n' = ofI z) := Lib.hid (by rw [txt_ofI, hs, ← HV.out])
  clear hs hrd hx hc1 hc2
  go_wp2_with fail
  refine (intText bs' n' A1 c1 _ HD.out HLN.out HC.out.1 HC.out.2 (HE.out.ext HX4.out)).mono ?_
  rintro e w5 ⟨rfl, hx5⟩
  rw [HS.out]
  go_wp2_with fail
  go_ret
  exact ⟨rfl, HX4.out.trans hx5⟩
theorem sgn_not (b : Bool) (n : Nat) : sgn (!b) n = -(sgn b n) := by cases b <;> simp [sgn]
set_option maxRecDepth 100000 in
set_option maxHeartbeats 4000000 in
theorem intSub (a b : Bs) (w : World) (ha : a.length ≤ 100000) (hb : b.length ≤ 100000) (hE : Env w) :
    Calls Tryz.prog 70 #[.string (bs a), .string (bs b)] w fun e w' => e = .returned (.string (bs (ofI (valI a - valI b)))) ∧ Ext w w' := by
  have HR1 := Lib.hid (fun W => intRead a W (by omega))
  have HR2 := Lib.hid (fun W => intRead b W (by omega))
  obtain ⟨L, hLa, hLb, hL⟩ : ∃ L : Nat, a.length ≤ L ∧ b.length ≤ L ∧ L ≤ 100000 := ⟨max a.length b.length, by omega, by omega, by omega⟩
  have HL1 : Hid ((gr (natOf (mag a))).length ≤ 1000000) := Lib.hid (by have := gr_len10 (mag_pow a hLa); omega)
  have HL2 : Hid ((gr (natOf (mag b))).length ≤ 1000000) := Lib.hid (by have := gr_len10 (mag_pow b hLb); omega)
  have HP1 := Lib.hid (mag_pow a hLa)
  have HP2 := Lib.hid (mag_pow b hLb)
  have HE := Lib.hid hE
  have HV : Hid (valI a - valI b = sgn (neg a) (natOf (mag a)) + sgn (!neg b) (natOf (mag b))) := Lib.hid (by rw [sgn_not]; exact Int.sub_eq_add_neg)
  generalize valI a - valI b = z at *
  generalize natOf (mag a) = x at *
  generalize natOf (mag b) = y at *
  generalize neg a = ba at *
  generalize neg b = bb at *
  clear ha hb hLa hLb hE
  go_enter Tryz.func70, Tryz.ntmps70
  go_wp2_with fail
  refine (HR2.out _).mono ?_
  rintro e w1 ⟨A', c', rfl, hrd2, hx1, _, _⟩
  have HD2 := Lib.hid hrd2
  have HX1 := Lib.hid hx1
  clear hrd2 hx1
  generalize hnb : (!bb) = nb at *
  go_wp2_with fail
  clear hnb
  have HBX := Lib.hid (blk_at w1 111 #[.bool nb, .slice A' (gr y).length c'] w1.heap.size rfl)
  have HXW := Lib.hid (HX1.out.trans (Ext.new w1 (.cells #[.bool nb, .slice A' (gr y).length c'] 111)))
  have HDW := Lib.hid (HD2.out.ext (Ext.new w1 (.cells #[.bool nb, .slice A' (gr y).length c'] 111)))
  have HBW := Lib.hid (Ext.refl (w1.alloc (.cells #[.bool nb, .slice A' (gr y).length c'] 111)))
  generalize (w1.alloc (.cells #[.bool nb, .slice A' (gr y).length c'] 111)) = W at *
  generalize w1.heap.size = g at *
  have x0 := HBX.out.cell 0
  have x1 := HBX.out.cell 1
  simp only [List.getElem?_toArray, List.getElem?_cons_zero, List.getElem?_cons_succ] at x0 x1
  go_region_held3 (fun w' => w'.cell? ⟨g, 0, none⟩ = some (.bool nb) ∧ w'.cell? ⟨g, 1, none⟩ = some (.slice A' (gr y).length c'))
    (go_keep)
    (first
      | (go_at_call 78; ((with_reducible refine (HR1.out _).mono ?_); rintro e w2 ⟨A, c, rfl, hrd1, hx2, _, _⟩); have hbx := HBX.out.drew.ext hx2; have u0 := hbx.cell 0; have u1 := hbx.cell 1; simp only [List.getElem?_toArray, List.getElem?_cons_zero, List.getElem?_cons_succ] at u0 u1; have HX2 := Lib.hid (HXW.out.drew.trans hx2); have HD1 := Lib.hid hrd1; have HD2W := Lib.hid ((HDW.out.ext HBW.out.drew).ext hx2); have HBX2 := Lib.hid hbx; clear hbx hx2 hrd1)
      | (go_at_call 77; ((with_reducible refine (intAdd ba nb x y A A' c c' _ HD1.out HD2W.out HL1.out HL2.out).mono ?_); rintro e w4 ⟨bs', n', A1, c1, rfl, hs, hrd, hx, hc1, hc2⟩); have HD := Lib.hid hrd; have hbx := HBX2.out.ext hx; have v0 := hbx.cell 0; have v1 := hbx.cell 1; simp only [List.getElem?_toArray, List.getElem?_cons_zero, List.getElem?_cons_succ] at v0 v1; have HBX4 := Lib.hid hbx; have HX4 := Lib.hid (HX2.out.trans hx); have HC := Lib.hid (And.intro hc1 hc2); have HLN : Hid ((gr n').length ≤ 1000000) := Lib.hid (by have := sum_len hs HP1.out HP2.out; omega); have HS : Hid (txt bs' n' = ofI z) := Lib.hid (by rw [txt_ofI, hs, ← HV.out]); clear hs hrd hx hc1 hc2 hbx)
      | (go_at_call 79; ((with_reducible refine (intText bs' n' A1 c1 _ HD.out HLN.out HC.out.1 HC.out.2 (HE.out.ext HX4.out)).mono ?_); rintro e w5 ⟨rfl, hx5⟩); have hbx := HBX4.out.ext hx5; have y0 := hbx.cell 0; have y1 := hbx.cell 1; simp only [List.getElem?_toArray, List.getElem?_cons_zero, List.getElem?_cons_succ] at y0 y1; have HX5 := Lib.hid (HX4.out.trans hx5); clear hx5 hbx))
  all_goals
    rw [HS.out]
    go_wp2_with fail
    go_ret
    exact ⟨rfl, HX5.out⟩
end Go.Proofs.YteeampgbmpolfaaGreatDoor
