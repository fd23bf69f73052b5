/- From a row's reading to what the walks take: statements as arguments, the library's variables, and the row's last step. -/
import Derived.Test.YteeampgbmpolfaaGreatDoorCells
import Derived.Test.YteeampgbmpolfaaGreatDoorMem
import Derived.Test.YteeampgbmpolfaaGreatDoorRows
import Derived.ProofKit
import Derived.OpenShut
import Derived.Deep.Slices
import Derived.Deep.Fields
import Derived.Lib.SmallJoins
import Derived.ChangeSame
import Derived.WideKeyArgs
import Derived.Stop.LaidErr
namespace Go.Proofs.YteeampgbmpolfaaGreatDoor
open Go.ChangeShapes Go.WideShapes Go.ChangeAt Go.RowKit Go.Deep Go.Joins

theorem list_of {α : Type} [Inhabited α] (n : Nat) (Q : Nat → α → Prop) (h : ∀ i, i < n → ∃ a, Q i a) : ∃ xs : List α, xs.length = n ∧ ∀ (i : Nat) (hi : i < xs.length), Q i (xs[i]'hi) := by
  induction n with
  | zero => exact ⟨[], rfl, fun i hi => absurd hi (by simp)⟩
  | succ n ih =>
    obtain ⟨xs, hl, hx⟩ := ih (fun i hi => h i (by omega))
    obtain ⟨a, ha⟩ := h n (by omega)
    refine ⟨xs ++ [a], by simp [hl], fun i hi => ?_⟩
    rcases Nat.lt_or_ge i xs.length with h1 | h1
    · rw [List.getElem_append_left h1]; exact hx i h1
    · have : i = n := by simp at hi; omega
      subst this
      rw [List.getElem_append_right h1]
      simpa [hl] using ha
section
variable {H : Type} {enc : TypeId × Value → H} {P : Program} {w : World} {base : Nat} {spare : Nat → Bool} {held : Bool}
/-- a slice that came in, element by element, whatever its elements are -/
theorem open_list {α : Type} [Inhabited α] (f : α → List Value) (k : Nat) (hk : 0 < k) (hf : ∀ a, (f a).length = k) {t e : TypeId} {fuel : Nat} {cs : List Value} {x : DataW H × List MemPlace} (ht : P.underlying t = some (.slice e)) (hC : P.cellsOf e = k)
    (ho : ∀ n cs' y, DataW.trod enc P w base spare held n e cs' = some y → ∃ a, cs' = f a) (h : DataW.trod enc P w base spare held fuel t cs = some x) :
    ∃ (A : Option Addr) (c : Nat) (xs : List α), cs = [.slice A xs.length c] ∧ Reads w k A xs.length (xs.flatMap f) ∧ xs.length ≤ c ∧ (xs = [] ∨ ∃ el sp, x.1 = .slice el sp ∧ el.length = xs.length) := by
  rcases open_slice ht h with ⟨rfl, _⟩ | ⟨a, len, cap, m, n, D, Pl, rfl, _, hlc, _, hm, hx, hi⟩
  · exact ⟨none, 0, [], rfl, Reads.nil, Nat.le_refl _, .inl rfl⟩
  · have hml : len ≤ m := by rw [hm]; split <;> omega
    obtain ⟨xs, hl, hq⟩ := list_of len (fun i b => ∀ j, j < k → w.cell? (a.add (i * k + j)) = (f b)[j]?) (fun i hlt => by
      obtain ⟨cs', hc, ht'⟩ := hi i (by omega)
      obtain ⟨b, rfl⟩ := ho _ _ _ ht'
      obtain ⟨_, hcl, hat⟩ := World.cells?_some hc
      rw [hC] at hat
      exact ⟨b, fun j hj => by rw [← hat j hj, Go.Deep.add_add]⟩)
    subst hl
    refine ⟨some a, cap, xs, rfl, ⟨flat_len f k hf xs, fun hn => ?_⟩, hlc, .inr ⟨_, _, by rw [hx], by simp⟩⟩
    have h00 := hq 0 hn 0 hk
    rw [Nat.zero_mul, Nat.zero_add] at h00
    have h0 : w.cell? a = (f (xs[0]'hn))[0]? := h00
    have hl0 : 0 < (f (xs[0]'hn)).length := by rw [hf]; exact hk
    rw [List.getElem?_eq_getElem hl0] at h0
    obtain ⟨b, o, sp⟩ := a
    have hsp : sp = none ∧ b < w.heap.size := by
      unfold World.cell? at h0
      cases hb : w.heap[b]? with
      | none => simp [hb] at h0
      | some ob =>
        have hlt := (Array.getElem?_eq_some_iff.1 hb).1
        cases sp with
        | none => exact ⟨rfl, hlt⟩
        | some q =>
          exfalso
          simp only [hb] at h0
          cases ob <;> simp at h0
    obtain ⟨rfl, hlt⟩ := hsp
    refine ⟨b, o, rfl, hlt, fun j u hu => ?_⟩
    have hj : j < xs.length * k := by
      have := (List.getElem?_eq_some_iff.1 hu).1; rw [flat_len f k hf xs] at this; exact this
    have hjk : j / k < xs.length := (Nat.div_lt_iff_lt_mul hk).2 hj
    have he : j = (j / k) * k + j % k := by have := Nat.div_add_mod j k; rw [Nat.mul_comm] at this; omega
    have h1 := flat_at f k hf xs (j / k) (j % k) hjk (Nat.mod_lt _ hk)
    rw [← he, hu] at h1
    have h2 := hq (j / k) hjk (j % k) (Nat.mod_lt _ hk)
    rw [← he, ← h1] at h2
    rw [← h2]
    unfold Addr.add
    rcases Nat.eq_zero_or_pos j with h0 | h0
    · subst h0; rfl
    · rw [if_neg (by omega)]
theorem open_hd {t ti tq : TypeId} {n : Nat} {cs : List Value} {y : DataW H × List MemPlace} {f0 f1 : Field} (hs : P.underlying t = some (.struct #[f0, f1])) (hone : oneCellFields P #[f0, f1] = true) (hC : P.cellsOf t = 2) (h0 : f0.type = ti) (h1 : f1.type = tq)
    (hi : P.underlying ti = some .string) (hq : P.underlying tq = some .string) (h : DataW.trod enc P w base spare held n t cs = some y) : ∃ a : Hd, cs = [.string (bs a.ins), .string (bs a.qty)] := by
  obtain ⟨xs, n, _, _, hlen, hl, hg⟩ := DataW.trod_struct hs h
  rw [hC] at hlen
  obtain ⟨o0, k0⟩ := hone_of hone 0 f0 rfl
  obtain ⟨o1, k1⟩ := hone_of hone 1 f1 rfl
  match cs, hlen, xs, hl with
  | [c0, c1], _, [y0, y1], _ =>
    have g0 := hg 0 f0 rfl
    have g1 := hg 1 f1 rfl
    rw [o0, k0, h0] at g0
    rw [o1, k1, h1] at g1
    obtain ⟨s0, e0, _⟩ := DataW.trod_string hi (x := y0) (by simpa using g0)
    obtain ⟨s1, e1, _⟩ := DataW.trod_string hq (x := y1) (by simpa using g1)
    simp at e0 e1
    subst e0; subst e1
    exact ⟨⟨L s0, L s1⟩, by simp only [bs_L]⟩
theorem open_mv {t tr td ti tq ta : TypeId} {n : Nat} {cs : List Value} {y : DataW H × List MemPlace} {f0 f1 f2 f3 f4 : Field} (hs : P.underlying t = some (.struct #[f0, f1, f2, f3, f4])) (hone : oneCellFields P #[f0, f1, f2, f3, f4] = true) (hC : P.cellsOf t = 5)
    (h0 : f0.type = tr) (h1 : f1.type = td) (h2 : f2.type = ti) (h3 : f3.type = tq) (h4 : f4.type = ta)
    (hr : P.underlying tr = some .string) (hd : P.underlying td = some (.int .i64)) (hi : P.underlying ti = some .string) (hq : P.underlying tq = some .string) (ha : P.underlying ta = some .string) (h : DataW.trod enc P w base spare held n t cs = some y) :
    ∃ a : Mv, cs = [.string (bs a.ref), .int .i64 a.day, .string (bs a.ins), .string (bs a.qty), .string (bs a.amt)] := by
  obtain ⟨xs, n, _, _, hlen, hl, hg⟩ := DataW.trod_struct hs h
  rw [hC] at hlen
  obtain ⟨o0, k0⟩ := hone_of hone 0 f0 rfl
  obtain ⟨o1, k1⟩ := hone_of hone 1 f1 rfl
  obtain ⟨o2, k2⟩ := hone_of hone 2 f2 rfl
  obtain ⟨o3, k3⟩ := hone_of hone 3 f3 rfl
  obtain ⟨o4, k4⟩ := hone_of hone 4 f4 rfl
  match cs, hlen, xs, hl with
  | [c0, c1, c2, c3, c4], _, [y0, y1, y2, y3, y4], _ =>
    have g0 := hg 0 f0 rfl
    have g1 := hg 1 f1 rfl
    have g2 := hg 2 f2 rfl
    have g3 := hg 3 f3 rfl
    have g4 := hg 4 f4 rfl
    rw [o0, k0, h0] at g0
    rw [o1, k1, h1] at g1
    rw [o2, k2, h2] at g2
    rw [o3, k3, h3] at g3
    rw [o4, k4, h4] at g4
    obtain ⟨s0, e0, _⟩ := DataW.trod_string hr (x := y0) (by simpa using g0)
    obtain ⟨s1, e1, _⟩ := DataW.trod_int hd (x := y1) (by simpa using g1)
    obtain ⟨s2, e2, _⟩ := DataW.trod_string hi (x := y2) (by simpa using g2)
    obtain ⟨s3, e3, _⟩ := DataW.trod_string hq (x := y3) (by simpa using g3)
    obtain ⟨s4, e4, _⟩ := DataW.trod_string ha (x := y4) (by simpa using g4)
    simp at e0 e1 e2 e3 e4
    subst e0; subst e1; subst e2; subst e3; subst e4
    exact ⟨⟨L s0, s1, L s2, L s3, L s4⟩, by simp only [bs_L]⟩
end
/-- below the heap's old size nothing has turned: all arguments read as they did -/
theorem trodAll_stays {H : Type} {enc : TypeId × Value → H} {P : Program} (hl : laidOutB P = true) {W W' : World} (hb : Below W.heap.size W W') {sp : Nat → Bool} :
    ∀ {ts : List TypeId} {vs : List Value} {ds : List (DataW H)} {ps : List MemPlace}, (ts.all fun t => P.readableRec t && decide (t < P.types.size)) = true → DataW.TrodAll enc P W 0 (fun _ => true) true ts vs ds ps → (∀ p ∈ ps, p.block < W.heap.size) → (∀ p ∈ ps, sp p.block = true) →
      DataW.TrodAll enc P W' 0 sp true ts vs ds ps
  | [], vs, ds, ps, _, h, _, _ => by
    obtain ⟨rfl, rfl, rfl⟩ := trodAll_nil h
    exact trodAll_mk0
  | t :: ts, vs, ds, ps, hr, h, h1, h2 => by
    obtain ⟨v0, vs0, d0, ds0, p0, q0, rfl, rfl, rfl, h0, r0⟩ := trodAll_cons h
    simp only [List.all_cons, Bool.and_eq_true, decide_eq_true_eq] at hr
    refine trodAll_cons_mk (WideElems.Trod_stays hl hr.1.1 hr.1.2 h0 (fun x hx => hb.same (h1 x (by simp [hx]))) (fun x hx => h2 x (by simp [hx]))) ?_
    exact trodAll_stays hl hb (by simpa using hr.2) r0 (fun p hp => h1 p (by simp [hp])) (fun p hp => h2 p (by simp [hp]))
/-- THE ROW's LAST STEP OF A LAW: it has returned true, and what lay in memory lies as it did -/
theorem post_law {H : Type} {enc : TypeId × Value → H} {P : Program} {f : Func} {s : ChangeSpec} {apart fresh handsOn again : Bool} {W W' : World} {args : Array Value} {tb : TypeId} {ds gs : List (DataW H)} {before : List MemPlace}
    (hl : laidOutB P = true) (hts : (f.params.toList.all fun t => P.readableRec t && decide (t < P.types.size)) = true) (hrt : f.resultTypes = #[tb]) (hbt : P.underlying tb = some .bool) (hvs : s.vars = [])
    (hW : DataW.Whole enc P f.params.toList s.vars apart W args.toList ds gs before) (hsr : (s.fn H (ds ++ gs)).results = [.lit (.bool true)]) (hsa : (s.fn H (ds ++ gs)).args = ds) (hsv : (s.fn H (ds ++ gs)).vars = []) (hb : Below W.heap.size W W') :
    s.post enc P f apart fresh handsOn again W args (.bool true) W' := by
  have hlt : ∀ p ∈ before, p.block < W.heap.size := fun p hp => hW.lt p hp
  have hold : ∀ p ∈ before, (fun b => decide (b < W.heap.size)) p.block = true := fun p hp => by simpa using hlt p hp
  have hW0 := hW
  obtain ⟨pa, pv, hA, hV, hpp, hz, hn⟩ := hW0
  rw [hvs] at hV
  obtain ⟨rfl, rfl⟩ := trodVars_none hV
  rw [List.append_nil] at hpp
  subst hpp
  have hres : ∀ (b : Nat) (sp : Nat → Bool) (hd : Bool), DataW.TrodAll enc P W' b sp hd f.resultTypes.toList ((Value.bool true).resultList f.resultTypes.size) (s.fn H (ds ++ [])).results [] := by
    intro b sp hd; rw [hrt, hsr]; exact trodAll_cons_mk (shut_bool hbt _) trodAll_mk0
  have hargs : ∀ sp : Nat → Bool, (∀ p ∈ before, sp p.block = true) → DataW.TrodAll enc P W' 0 sp true f.params.toList args.toList (s.fn H (ds ++ [])).args before := by
    intro sp hsp; rw [hsa]; exact trodAll_stays hl hb hts hA hlt hsp
  have hvars : ∀ sp : Nat → Bool, DataW.TrodVars enc P W' sp s.vars (s.fn H (ds ++ [])).vars [] := by
    intro sp; rw [hvs, hsv]; exact rfl
  have hok : ∀ (j : Nat) (t : TypeId) (r : Value), f.resultTypes[j]? = some t → ((Value.bool true).resultList f.resultTypes.size)[j]? = some r → Value.okWide P W' .any 0 t r :=
    ok_one hrt rfl (okWide_bool_mk hbt _)
  refine ⟨ds, [], before, [], before, [], hW, hres _ _ _, hargs _ hold, hvars _, World.keptBut_mono (fun p hp => ⟨hp, Or.inr (by simpa using hp)⟩) (hb.frame (· ∈ before)), fun _ => ⟨hok, _, _, ([] ++ before) ++ [], ⟨[] ++ before, [], trodAll_append (hargs _ (fun _ _ => rfl)) (hres _ _ _), hvars _, rfl, ?_, ?_⟩, ?_⟩⟩
  · intro b off hp
    have hin : MemPlace.cell b off ∈ before := by simpa using hp
    rw [hb.frozen (hlt _ hin)]
    exact hz b off hin
  · intro ha
    simpa using hn ha
  · intro p hp _
    simpa using hp
end Go.Proofs.YteeampgbmpolfaaGreatDoor
