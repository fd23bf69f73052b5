/- The walks over the program's dates: Print, dayText. -/
import Derived.Test.YteeampgbmpolfaaGreatDoorDate2
namespace Go.Proofs.YteeampgbmpolfaaGreatDoor
open Go.RowKit
attribute [local go_sem] size_bs toList_bs extract_bs get_bs append_bs lit_append append_lit

theorem dec1 (u : Nat) (h : u < 10) : Lib.decDigits u = [UInt8.ofNat (48 + u)] := by rw [Lib.decDigits, dif_pos h]
theorem decS (u : Nat) (h : ¬ u < 10) : Lib.decDigits u = Lib.decDigits (u / 10) ++ [UInt8.ofNat (48 + u % 10)] := by rw [Lib.decDigits, dif_neg h]
theorem two_dec (u : Nat) (h : u < 100) : Lib.repeatL [48] (2 - (Lib.decDigits u).length) ++ Lib.decDigits u = two (u : Int) := by
  unfold two; rw [Int.toNat_natCast]
  by_cases h1 : u < 10
  · rw [dec1 u h1]
    have : u / 10 = 0 := by omega
    simp [Lib.repeatL, this, Nat.mod_eq_of_lt h1]
  · rw [decS u h1, dec1 (u / 10) (by omega)]
    simp [Lib.repeatL, Nat.mod_eq_of_lt (show u / 10 < 10 by omega)]
theorem dec_len (u : Nat) (h : u < 100) : 1 ≤ (Lib.decDigits u).length ∧ (Lib.decDigits u).length ≤ 2 := by
  by_cases h1 : u < 10
  · rw [dec1 u h1]; simp
  · rw [decS u h1, dec1 (u / 10) (by omega)]; simp
theorem itoa_four (y : Int) (h0 : 1000 ≤ y) (h1 : y ≤ 9999) : Lib.itoa y = four y := by
  obtain ⟨u, rfl⟩ := Int.eq_ofNat_of_zero_le (show 0 ≤ y by omega)
  unfold Lib.itoa four; rw [if_neg (by omega), Int.toNat_natCast]
  rw [decS u (by omega), decS (u / 10) (by omega), decS (u / 10 / 10) (by omega), dec1 (u / 10 / 10 / 10) (by omega)]
  have e1 : u / 1000 % 10 = u / 10 / 10 / 10 := by omega
  have e2 : u / 100 % 10 = u / 10 / 10 % 10 := by omega
  rw [e1, e2]; rfl

theorem itoa_small (i : Nat) (w : World) (hi : i < 100) :
    Calls Tryz.prog 118 #[.int .i64 i] w fun e w' => e = .returned (.string (bs (Lib.decDigits i))) ∧ w = w' :=
  (Tryz.strconv_Itoa_small i hi w).mono fun _ _ h => ⟨h.1, h.2.symm⟩

theorem two_eq (n : Nat) (d : Bs) (hd : Lib.decDigits n = d) (h : n < 100) : Lib.repeatL [48] (2 - (d.length : Int)).toNat ++ d = two (n : Int) := by
  subst hd
  have := dec_len n h
  rw [← two_dec n h, show (2 - ((Lib.decDigits n).length : Int)).toNat = 2 - (Lib.decDigits n).length by omega]

set_option maxHeartbeats 400000 in
theorem datTwo (n : Int) (w : World) (h0 : 0 ≤ n) (h1 : n < 100) :
    Calls Tryz.prog 117 #[.int .i64 n] w fun e w' => e = .returned (.string (bs (two n))) ∧ Ext w w' := by
  obtain ⟨i, rfl⟩ := Int.eq_ofNat_of_zero_le h0
  have hl := dec_len i (by omega)
  have H2 := fun d hd => Lib.hid (two_eq i d hd (by omega))
  have hI := fun W => Lib.hid (itoa_small i W (by omega))
  generalize hd : Lib.decDigits i = d at *
  have HH := H2 d rfl
  have HD := Lib.hid hd
  clear hd H2
  have HI := Lib.hid hI
  clear hI
  go_enter Tryz.func117, Tryz.ntmps117
  go_wp2_with fail
  refine (HI.out _).out.mono ?_
  rintro e w1 ⟨rfl, rfl⟩
  go_wp2_with fail
  refine (repeat_any [48] (2 - (d.length : Int)) _ (by omega) (by omega) (by simp)).mono ?_
  rintro e w1 ⟨rfl, hx⟩
  have hrl := Lib.repeatL_length [48] (2 - (d.length : Int)).toNat
  have hrb : (Lib.repeatL [48] (2 - (d.length : Int)).toNat).length ≤ 2 := by rw [hrl]; simp
  clear hrl
  have HH2 := HH.out
  generalize hz : Lib.repeatL [48] (2 - (d.length : Int)).toNat = z at *
  have HZ := Lib.hid hz
  have HH3 := Lib.hid HH2
  clear hz HH2
  go_wp2_with fail
  refine (HI.out _).out.mono ?_
  rintro e w2 ⟨rfl, rfl⟩
  go_wp2_with fail
  go_ret
  exact ⟨by rw [← HH3.out]; rfl, hx⟩

set_option maxHeartbeats 400000 in
theorem datPrint (d : Int) (w : World) (hE : Env w) :
    Calls Tryz.prog 82 #[.int .i64 d] w fun e w' => e = .returned (.tuple #[.string (bs (dateText d)), .int .i64 (dateErr d)]) ∧ Ext w w' := by
  cases h : okDay d with
  | false =>
    have H := Lib.hid h
    clear h
    go_enter Tryz.func82, Tryz.ntmps82
    go_wp2_with fail
    refine (datParts_no d _ H.out).mono ?_
    rintro e w1 ⟨rfl, rfl⟩
    go_wp2_with fail
    go_ret2
    exact ⟨by unfold dateText dateErr; rw [H.out]; rfl, Ext.refl _⟩
  | true =>
    obtain ⟨a1, a2, _, _⟩ := dYear_spec h
    obtain ⟨b1, b2, b3, b4⟩ := dMonth_spec h
    have hml := mlen_bd (dYear d) (dMonth d)
    have H := Lib.hid h
    clear h
    have hI4 := itoa_four (dYear d) (by omega) (by omega)
    have HI4 := Lib.hid hI4
    clear hI4
    go_enter Tryz.func82, Tryz.ntmps82
    go_wp2_with fail
    refine (datParts_yes d _ H.out).mono ?_
    rintro e w1 ⟨rfl, hx1⟩
    go_wp2_with fail
    refine (itoa_any (dYear d) _ (by omega) (by omega) (hE.ext hx1)).mono ?_
    rintro e w2 ⟨rfl, hx2⟩
    rw [HI4.out]
    have hf4 : (four (dYear d)).length ≤ 4 := by simp [four]
    go_wp2_with fail
    refine (datTwo (dMonth d) _ (by omega) (by omega)).mono ?_
    rintro e w3 ⟨rfl, hx3⟩
    have hf2 : (two (dMonth d)).length ≤ 2 := by simp [two]
    go_wp2_with fail
    refine (datTwo (dDay d) _ (by omega) (by omega)).mono ?_
    rintro e w4 ⟨rfl, hx4⟩
    have hf3 : (two (dDay d)).length ≤ 2 := by simp [two]
    go_wp2_with fail
    go_ret2
    exact ⟨by unfold dateText dateErr; rw [if_pos H.out, if_pos H.out]; simp, ((hx1.trans hx2).trans hx3).trans hx4⟩

theorem stDayText (d : Int) (w : World) (hE : Env w) :
    Calls Tryz.prog 42 #[.int .i64 d] w fun e w' => e = .returned (.string (bs (dateText d))) ∧ Ext w w' := by
  go_enter Tryz.func42, Tryz.ntmps42
  go_wp2_with fail
  refine (datPrint d _ hE).mono ?_
  rintro e w1 ⟨rfl, hx1⟩
  go_wp2_with fail
  go_ret
  exact ⟨rfl, hx1⟩
end Go.Proofs.YteeampgbmpolfaaGreatDoor
