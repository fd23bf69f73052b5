/- The seat's texts, part 3 of 5. -/
import Derived.Test.YteeampgbmpolfaaGreatDoorZ2
import Derived.RangeFuncNested
import Derived.RangeFuncBound
import Derived.RangeFuncCalls
import Derived.RangeFuncLeaves
import Derived.Shelf.Abstract
import Derived.Shelf.RegionOpen
import Derived.OwnWalkIn
import Derived.TacticsInMore
import Derived.LoopNIn
import Derived.LoopIn
import Derived.Test.YteeampgbmpolfaaGreatDoorProg
import Derived.OwnWalk
import Derived.Deep.AppendLies
import Derived.Deep.RegionLaw
import Derived.IntWalk
import Derived.WideMake
import Derived.RangeFuncRecord

/- A range over a function whose iterator keeps its state in cells of its own (a captured variable): one round as a step of the iterator's walk, and the statement. -/
namespace Go.Proofs.YteeampgbmpolfaaGreatDoor
open Go Go.RowKit Go.Shelf

section
variable {F : Fence} {n m : Nat} {P : Program}

/-- how a round of the loop with the record 'rec' in block l may be left: off its end, or by 'return' -/
def roundEnds (l : Nat) (rec : Loop) (R : Ending → World → Prop) : Exit → Act → World → Prop
  | .normal, _, W => W.heap[l]? = some (.loop { rec with state := .busy }) ∧ R (.returned (.bool true)) (W.putObj l (.loop { rec with state := .ready, pending := none }))
  | .ret, _, W => W.heap[l]? = some (.loop { rec with state := .busy }) ∧ R (.returned (.bool false)) (W.putObj l (.loop { rec with state := .done, pending := some .ret }))
  | .exit _, _, _ => False
  | .goto _, _, _ => False
  | .panic _, _, _ => False
  | .outgrown, _, _ => False

/-- ONE ROUND, as the iterator's walk meets it at its call of yield -/
theorem yield_round {l : Nat} {rec : Loop} {args : Array Value} {W : World} {R : Ending → World → Prop} (hl : W.heap[l]? = some (.loop rec)) (hs : rec.state = .ready) (hps : args.size = rec.params.size) (hfn : F.fn rec.fn)
    (h : rec.assign.wpIn (F.inRound l) m P (Exit.then (fun a1 Wa => Wa.heap[l]? = some (.loop rec) ∧ rec.body.wpIn (F.inRound l) m P (roundEnds l rec R) a1 (Wa.putObj l (.loop { rec with state := .busy }))) (fun _ _ _ => False))
      { tmps := (rec.params.zip args).foldl (fun tmps (t, a) => tmps.setIfInBounds t a) rec.tmps, defers := [] } W) :
    YieldAt F m P l args W R := by
  refine ⟨_, _, _, _, run_yield hl hps, roundIn_of_wpIn hfn (wpIn_mono h ?_)⟩
  intro e a1 Wa hp
  cases e with
  | normal =>
    obtain ⟨hla, hb⟩ := hp
    refine ⟨_, run_beginRound hla hs, wpIn_mono hb ?_⟩
    intro e a2 W2 hq
    cases e with
    | normal =>
      obtain ⟨h2, hR⟩ := hq
      exact ⟨_, _, run_endRound none h2, hR⟩
    | ret =>
      obtain ⟨h2, hR⟩ := hq
      exact ⟨_, _, run_endRound (some .ret) h2, hR⟩
    | exit id => exact hq.elim
    | goto t => exact hq.elim
    | panic c => exact hq.elim
    | outgrown => exact hq.elim
  | ret => exact hp.elim
  | exit id => exact hp.elim
  | goto t => exact hp.elim
  | panic c => exact hp.elim
  | outgrown => exact hp.elim

/-- the same, the record's parts as letters -/
theorem yield_round' {l : Nat} {rec : Loop} {args : Array Value} {W : World} {R : Ending → World → Prop} (hl : W.heap[l]? = some (.loop rec)) (hs : rec.state = .ready) (hps : args.size = rec.params.size) (hfn : F.fn rec.fn)
    {assign body : Code} {tmps tmps0 : Array Value} {ps : Array Tmp} (ha : rec.assign = assign) (hb : rec.body = body) (hp : rec.params = ps) (ht0 : rec.tmps = tmps0) (ht : (ps.zip args).foldl (fun tmps (t, a) => tmps.setIfInBounds t a) tmps0 = tmps) {rb : Loop} (hrb : { rec with state := .busy } = rb)
    (h : assign.wpIn (F.inRound l) m P (Exit.then (fun a1 Wa => Wa.heap[l]? = some (.loop rec) ∧ body.wpIn (F.inRound l) m P (roundEnds l rec R) a1 (Wa.putObj l (.loop rb))) (fun _ _ _ => False)) { tmps, defers := [] } W) :
    YieldAt F m P l args W R := by
  subst ha; subst hb; subst hp; subst ht0; subst ht; subst hrb
  exact yield_round hl hs hps hfn h

/-- the record that the statement lays -/
def recOf (fn : FuncId) (a : Act) (ps : Array Tmp) (assign body : Code) (D : Nat) : Loop := { state := .ready, pending := none, fn, tmps := a.tmps, params := ps, assign, body, defers := D }

/-- THE STATEMENT: what is owed is the iterator's call, with the record laid; it ends with the record ready (all have come) or done (a round has returned). -/
theorem range_outer {g : Operand} {ps : Array Tmp} {assign body : Code} {Q : Exit → Act → World → Prop} {a : Act} {w : World} (hro : F.round = none) (h1 : 1 ≤ n) {gf : Nat} {lb : Array Value}
    (hg : a.eval g = .func (.func gf) #[] lb) (hFg : F.fn gf) (eg : ∀ args w, (callFunc gf args).run P w = .ok (.enter gf args) w)
    (h : ∀ fn, F.fn fn → CallsIn F (n - 1) P gf (#[.func (.yield (w.heap.size + 1)) #[] #[]] ++ lb) ((w.alloc (.deferred (some []))).alloc (.loop (recOf fn a ps assign body w.heap.size)))
      (fun e W => (∃ v, e = .returned v) ∧
        ((W.heap[w.heap.size + 1]? = some (.loop (recOf fn a ps assign body w.heap.size)) ∧ Q .normal { a with defers := { target := .collected w.heap.size, args := #[] } :: a.defers } (W.putObj (w.heap.size + 1) (.loop { recOf fn a ps assign body w.heap.size with state := .exhausted }))) ∨
         (W.heap[w.heap.size + 1]? = some (.loop { recOf fn a ps assign body w.heap.size with state := .done, pending := some .ret }) ∧ Code.ret.wpIn F n P Q { a with defers := { target := .collected w.heap.size, args := #[] } :: a.defers } (W.putObj (w.heap.size + 1) (.loop { recOf fn a ps assign body w.heap.size with state := .exhausted, pending := some .ret })))))) :
    (Code.rangeFunc g ps assign body).wpIn F n P Q a w := by
  refine wpIn_rangeFunc ?_
  intro fn hfn
  rw [hro]
  obtain ⟨W1, hW1⟩ : ∃ W1, (w.alloc (.deferred (some []))).alloc (.loop (recOf fn a ps assign body w.heap.size)) = W1 := ⟨_, rfl⟩
  refine ⟨w.heap.size + 1, [{ target := .collected w.heap.size, args := #[] }], W1, { target := .fn (.func gf) lb, args := #[.func (.yield (w.heap.size + 1)) #[] #[]] }, W1, gf,
    #[.func (.yield (w.heap.size + 1)) #[] #[]] ++ lb, W1, ?_, ?_, ?_, ?_, fun _ => h1, ?_⟩
  · rw [← hW1]; exact run_enterLoop_outer _ _ _ _ _
  · simp only [resolve, hg]
    simp [go_sem]
  · intro f' hf'; simp [Target.leads] at hf'; subst hf'; exact hFg
  · simp [invoke, go_sem, eg]
  · rw [← hW1]
    refine (h fn hfn).mono ?_
    rintro e W ⟨⟨v, rfl⟩, (⟨hl, hq⟩ | ⟨hl, hq⟩)⟩
    · exact ⟨none, _, run_endLoop hl (by simp [recOf]), hq⟩
    · exact ⟨some .ret, _, run_endLoop hl (by simp), hq⟩

/-- the same, the record, its block and the world as letters -/
theorem range_outer' {g : Operand} {ps : Array Tmp} {assign body : Code} {Q : Exit → Act → World → Prop} {a : Act} {w : World} (hro : F.round = none) (h1 : 1 ≤ n) {gf : Nat} {lb : Array Value} (D : Nat) (hD : w.heap.size = D)
    (hg : a.eval g = .func (.func gf) #[] lb) (hFg : F.fn gf) (eg : ∀ args w, (callFunc gf args).run P w = .ok (.enter gf args) w)
    (h : ∀ fn rec W1, rec = recOf fn a ps assign body D → W1 = (w.alloc (.deferred (some []))).alloc (.loop rec) → F.fn fn → CallsIn F (n - 1) P gf (#[.func (.yield (D + 1)) #[] #[]] ++ lb) W1
      (fun e W => (∃ v, e = .returned v) ∧
        ((W.heap[D + 1]? = some (.loop rec) ∧ Q .normal { a with defers := { target := .collected D, args := #[] } :: a.defers } (W.putObj (D + 1) (.loop { rec with state := .exhausted }))) ∨
         (W.heap[D + 1]? = some (.loop { rec with state := .done, pending := some .ret }) ∧ Code.ret.wpIn F n P Q { a with defers := { target := .collected D, args := #[] } :: a.defers } (W.putObj (D + 1) (.loop { rec with state := .exhausted, pending := some .ret })))))) :
    (Code.rangeFunc g ps assign body).wpIn F n P Q a w := by
  subst hD
  exact range_outer hro h1 hg hFg eg (fun fn hfn => h fn _ _ rfl rfl hfn)
end
end Go.Proofs.YteeampgbmpolfaaGreatDoor

/- Plain: a text cut at a byte. No program in sight. -/
namespace Go.Proofs.YteeampgbmpolfaaGreatDoor
open Go.RowKit
def splitOn (c : UInt8) : Bs → List Bs
  | [] => [[]]
  | x :: r => if x = c then [] :: splitOn c r else match splitOn c r with | [] => [[x]] | h :: t => (x :: h) :: t
theorem splitOn_ne (c : UInt8) (l : Bs) : splitOn c l ≠ [] := by
  cases l with
  | nil => simp [splitOn]
  | cons x r =>
    unfold splitOn; split
    · simp
    · split <;> simp
theorem splitOn_none (c : UInt8) (p : Bs) (h : ∀ x ∈ p, x ≠ c) : splitOn c p = [p] := by
  induction p with
  | nil => rfl
  | cons x r ih =>
    have h1 := h x (by simp)
    unfold splitOn; rw [if_neg h1, ih (fun y hy => h y (by simp [hy]))]
theorem splitOn_cut (c : UInt8) (p r : Bs) (h : ∀ x ∈ p, x ≠ c) : splitOn c (p ++ c :: r) = p :: splitOn c r := by
  induction p with
  | nil => simp [splitOn]
  | cons x q ih =>
    have h1 := h x (by simp)
    rw [List.cons_append, splitOn, if_neg h1, ih (fun y hy => h y (by simp [hy]))]
theorem splitOn_len (c : UInt8) (l : Bs) : (splitOn c l).length ≤ l.length + 1 := by
  induction l with
  | nil => simp [splitOn]
  | cons x r ih =>
    unfold splitOn; split
    · simp; exact ih
    · split
      · simp
      · rename_i h t he; rw [he] at ih; simp at ih ⊢; omega
theorem splitOn_mem (c : UInt8) (l : Bs) : ∀ p ∈ splitOn c l, p.length ≤ l.length := by
  induction l with
  | nil => simp [splitOn]
  | cons x r ih =>
    unfold splitOn; split
    · intro p hp; simp at hp; rcases hp with rfl | hp
      · simp
      · have := ih p hp; simp; omega
    · split
      · simp
      · rename_i h t he; rw [he] at ih
        intro p hp; simp at hp; rcases hp with rfl | hp
        · have := ih h (by simp); simp; omega
        · have := ih p (by simp [hp]); simp; omega
theorem splitOn_no (c : UInt8) (l : Bs) : ∀ p ∈ splitOn c l, ∀ x ∈ p, x ≠ c := by
  induction l with
  | nil => simp [splitOn]
  | cons y r ih =>
    unfold splitOn; split
    · intro p hp; simp at hp; rcases hp with rfl | hp
      · simp
      · exact ih p hp
    · rename_i hy
      split
      · intro p hp; simp at hp; subst hp; simp; exact hy
      · rename_i h t he; rw [he] at ih
        intro p hp; simp at hp; rcases hp with rfl | hp
        · intro x hx; simp at hx; rcases hx with rfl | hx
          · exact hy
          · exact ih h (by simp) x hx
        · exact ih p (by simp [hp])
/-- the state of a scan: what is cut already, and where the open piece begins -/
structure Scan (c : UInt8) (l : Bs) (i : Nat) (out : List Bs) (from_ : Nat) : Prop where
  le : from_ ≤ i
  li : i ≤ l.length
  all : splitOn c l = out ++ splitOn c (l.drop from_)
  no : ∀ x ∈ (l.drop from_).take (i - from_), x ≠ c
theorem Scan.start (c : UInt8) (l : Bs) : Scan c l 0 [] 0 := ⟨Nat.le_refl _, Nat.zero_le _, by simp, by simp⟩
theorem Scan.skip {c : UInt8} {l : Bs} {i : Nat} {out : List Bs} {f : Nat} (h : Scan c l i out f) (hi : i < l.length) (hc : l[i]'hi ≠ c) : Scan c l (i + 1) out f := by
  refine ⟨by have := h.le; omega, hi, h.all, ?_⟩
  have hf := h.le
  rw [show i + 1 - f = (i - f) + 1 by omega, List.take_succ_eq_append_getElem (by simp; omega)]
  intro x hx; simp at hx; rcases hx with hx | rfl
  · exact h.no x (by simpa using hx)
  · have e : f + (i - f) = i := by omega
    simp only [e]; exact hc
theorem Scan.cut {c : UInt8} {l : Bs} {i : Nat} {out : List Bs} {f : Nat} (h : Scan c l i out f) (hi : i < l.length) (hc : l[i]'hi = c) : Scan c l (i + 1) (out ++ [(l.drop f).take (i - f)]) (i + 1) := by
  have hf := h.le
  refine ⟨Nat.le_refl _, hi, ?_, by simp⟩
  have e : l.drop f = (l.drop f).take (i - f) ++ c :: l.drop (i + 1) := by
    have h1 : l.drop f = (l.drop f).take (i - f) ++ (l.drop f).drop (i - f) := (List.take_append_drop _ _).symm
    have h2 : (l.drop f).drop (i - f) = c :: l.drop (i + 1) := by
      rw [List.drop_drop, show f + (i - f) = i by omega, List.drop_eq_getElem_cons hi, hc]
    rw [h2] at h1; exact h1
  rw [h.all]
  conv => lhs; rw [e]
  rw [splitOn_cut c _ _ h.no]; simp
theorem Scan.end_ {c : UInt8} {l : Bs} {out : List Bs} {f i : Nat} (h : Scan c l i out f) (hi : ¬ i < l.length) : splitOn c l = out ++ [l.drop f] := by
  have hl := h.li
  rw [h.all]; congr 1
  apply splitOn_none
  intro x hx; apply h.no x
  rw [List.take_of_length_le (by simp; omega)]; exact hx
end Go.Proofs.YteeampgbmpolfaaGreatDoor

/- The walk over the reference's Cut. -/
namespace Go.Proofs.YteeampgbmpolfaaGreatDoor
open Go.RowKit
attribute [local go_sem] size_bs toList_bs extract_bs get_bs append_bs lit_append append_lit

theorem strInfo : (Tryz.prog.info? 9).map (fun i => (i.zero, i.size, i.bytes)) = some (some (.string ⟨#[]⟩), 1, 16) := by kernel_rfl

theorem out_len {c : UInt8} {l : Bs} {i : Nat} {out : List Bs} {f : Nat} (h : Scan c l i out f) : out.length ≤ l.length + 1 := by
  have h1 := splitOn_len c l
  rw [h.all, List.length_append] at h1; omega
theorem own_ge {w : World} {base : Nat} {e : TypeId} {size : Nat} {v : Value} {n : Nat} {xs : List Value} (h : w.ownsRow base e size v n xs) : ∀ k, v.ownBlock = some k → base ≤ k := by
  intro k hk
  rcases h.2 with ⟨rfl, _⟩ | ⟨g, cap, cur, rfl, hb, _⟩
  · simp [Value.ownBlock] at hk
  · simp [Value.ownBlock] at hk; omega

theorem own_form {w : World} {base : Nat} {e : TypeId} {size : Nat} {v : Value} {n : Nat} {xs : List Value} (h : w.ownsRow base e size v n xs) (hn : 0 < n) : ∃ g cap, v = .slice (some ⟨g, 0, none⟩) n cap := by
  rcases h.2 with ⟨_, h0⟩ | ⟨g, cap, cur, rfl, _⟩
  · omega
  · exact ⟨g, cap, rfl⟩

set_option maxHeartbeats 1000000 in
set_option maxRecDepth 100000 in
theorem refCut (l : Bs) (c : UInt8) (w : World) (hl : l.length ≤ 1000000) :
    Calls Tryz.prog 50 #[.string (bs l), .int .u8 (c.toNat : Int)] w fun e w' => ∃ A cap, e = .returned (.slice A (splitOn c l).length cap) ∧ RdS w' A (splitOn c l) ∧ Ext w w' := by
  obtain ⟨i0, hi, hz0, hz1, hz2⟩ := info_parts strInfo
  go_enter Tryz.func50, Tryz.ntmps50
  go_wp2_with fail
  go_loopw [5, 6, 7] (fun v f i wr => ∃ (k fr : Nat) (out : List Bs), i = .int .i64 k ∧ f = .int .i64 fr ∧ Scan c l k out fr ∧ wr.ownsRow w.heap.size 9 1 v out.length (scells out) ∧ Ext w wr) (fun _ _ i _ => l.length - (intOf i).toNat)
  case atStart =>
    refine ⟨0, 0, [], rfl, rfl, Scan.start c l, ?_, Ext.new _ _⟩
    exact ⟨by simp [scells], .inr ⟨w.heap.size, 0, #[], rfl, Nat.le_refl _, heap_alloc_new w _, Nat.le_refl _, by decide, by simp, by simp [scells]⟩⟩
  case round =>
    obtain ⟨k, fr, out, rfl, rfl, hsc, hown, hx⟩ := hrel
    have hol := out_len hsc
    have hfl := hsc.le
    have hkl := hsc.li
    have HSC := Lib.hid hsc
    have HOW := Lib.hid hown
    clear hsc hown
    by_cases hlt : k < l.length
    · by_cases hc : l[k]'hlt = c
      · have hcb : (((l[k]'hlt).toNat : Int) == (c.toNat : Int)) = true := byte_eq hc
        have HC := Lib.hid hc
        clear hc
        go_wp2_with (at_builtin; refine wpList_append_own _ rfl (.tmp 20) (.tmp 25) 37 rfl w.heap.size 9 i0 (.string ⟨#[]⟩) 1 16 Tryz.underlying37 hi hz0 hz1 hz2 rfl (by decide) _ _ _ rfl (HOW.out.alloc _) ⟨wr.heap.size, 0, none⟩ 1 1 [.string (bs ((l.drop fr).take (k - fr)))] rfl rfl ?c1 ?c2 ?c3 ?c4 ?c5 ?_)
        case c1 => exact cell_one_new _ _ _
        case c2 => simp [Value.oneCell']
        case c3 => simp only [maxLen]; omega
        case c4 => omega
        case c5 => have := hx.size; simp; omega
        intro v' w1 hown' hgrow _
        have hx1 : Ext w w1 := (Below.alloc hx hx.size _).grown hgrow (by have := hx.size; simp; omega) (own_ge HOW.out)
        have HOW1 := Lib.hid hown'
        clear hown' hgrow
        go_wp2_with fail
        go_roundw
        case rel =>
          refine ⟨k + 1, k + 1, out ++ [(l.drop fr).take (k - fr)], by go_num, by go_num, HSC.out.cut hlt HC.out, ?_, hx1⟩
          have := HOW1.out
          simpa [scells] using this
        case measure => simp [intOf]; omega
      · have hcb : (((l[k]'hlt).toNat : Int) == (c.toNat : Int)) = false := byte_ne hc
        have HC := Lib.hid hc
        clear hc
        go_wp2_with fail
        go_roundw
        case rel => exact ⟨k + 1, fr, out, by go_num, rfl, HSC.out.skip hlt HC.out, HOW.out, hx⟩
        case measure => simp [intOf]; omega
    · have HEND := Lib.hid (HSC.out.end_ hlt)
      go_wp2_with (at_builtin; refine wpList_append_own _ rfl (.tmp 29) (.tmp 33) 37 rfl w.heap.size 9 i0 (.string ⟨#[]⟩) 1 16 Tryz.underlying37 hi hz0 hz1 hz2 rfl (by decide) _ _ _ rfl (HOW.out.alloc _) ⟨wr.heap.size, 0, none⟩ 1 1 [.string (bs ((l.drop fr).take (l.length - fr)))] rfl rfl ?c1 ?c2 ?c3 ?c4 ?c5 ?_)
      case c1 => exact cell_one_new _ _ _
      case c2 => simp [Value.oneCell']
      case c3 => simp only [maxLen]; omega
      case c4 => omega
      case c5 => have := hx.size; simp; omega
      intro v' w1 hown' hgrow _
      have hx1 : Ext w w1 := (Below.alloc hx hx.size _).grown hgrow (by have := hx.size; simp; omega) (own_ge HOW.out)
      obtain ⟨g', cap', rfl⟩ := own_form hown' (by omega)
      have HOW1 := Lib.hid hown'
      clear hown' hgrow
      go_wp2_with fail
      go_ret
      have e1 : (l.drop fr).take (l.length - fr) = l.drop fr := List.take_of_length_le (by simp)
      have h1 := HOW1.out
      rw [e1] at h1
      have hlen : (splitOn c l).length = out.length + 1 := by rw [HEND.out]; simp
      have hsc : scells (splitOn c l) = scells out ++ [.string (bs (l.drop fr))] := by rw [HEND.out]; simp [scells]
      refine ⟨some ⟨g', 0, none⟩, cap', ?_, ?_, hx1⟩
      · rw [hlen]; rfl
      · unfold RdS; rw [hlen, hsc]; exact Reads.own h1
end Go.Proofs.YteeampgbmpolfaaGreatDoor

/- Plain: the statement with a text. No program in sight. -/
namespace Go.Proofs.YteeampgbmpolfaaGreatDoor
open Go.RowKit

def zeroS : St := ⟨0, [], []⟩
/-- what a line does to a statement -/
def stepW (s : St) (first : Bool) (ws : List Bs) : Option St :=
  match ws with
  | [a, b] => if first = true ∧ a = wStatement ∧ parseDE b = 0 then some { s with day := parseDV b } else none
  | [a, b, c] => if first = false ∧ a = wHolding ∧ s.ms = [] ∧ b ≠ [] ∧ parseIE c = 0 then some { s with hs := s.hs ++ [⟨b, parseIV c⟩] } else none
  | [a, b, c, d, e, f] => if first = false ∧ a = wMovement ∧ b ≠ [] ∧ d ≠ [] ∧ parseDE c = 0 ∧ parseIE e = 0 ∧ parseIE f = 0 then some { s with ms := s.ms ++ [⟨b, parseDV c, d, parseIV e, parseIV f⟩] } else none
  | _ => none
def stepLine (s : St) (first : Bool) (line : Bs) : Option St := stepW s first (splitOn 32 line)
/-- all lines, from the k-th on: the statement, or the number of the first wrong line -/
def goLines : St → Nat → List Bs → St × Int
  | s, _, [] => (s, 0)
  | s, k, [x] => if 0 < k ∧ x = [] then (s, 0) else (s, (k : Int) + 1)
  | s, k, x :: y :: r => match stepLine s (k == 0) x with | some s' => goLines s' (k + 1) (y :: r) | none => (s, (k : Int) + 1)
def resL (t : Bs) : St × Int := goLines zeroS 0 (splitOn 10 t)
def parseSt (t : Bs) : St := if 65536 < t.length then zeroS else if (resL t).2 ≠ 0 then zeroS else if checkS (resL t).1 ≠ 0 then zeroS else (resL t).1
def parseSN (t : Bs) : Int := if 65536 < t.length then 0 else (resL t).2
def parseSE (t : Bs) : Int := if 65536 < t.length then 4 else if (resL t).2 ≠ 0 then 3 else checkS (resL t).1

theorem parseDE_nil : parseDE [] = 3 := by rfl
theorem parseIE_nil : parseIE [] = 3 := by decide
theorem goLines_one (s : St) (k : Nat) (x : Bs) : goLines s k [x] = if 0 < k ∧ x = [] then (s, 0) else (s, (k : Int) + 1) := by simp [goLines]
theorem goLines_ok {s s' : St} {k : Nat} {x y : Bs} {r : List Bs} (h : stepLine s (k == 0) x = some s') : goLines s k (x :: y :: r) = goLines s' (k + 1) (y :: r) := by simp [goLines, h]
theorem goLines_bad {s : St} {k : Nat} {x y : Bs} {r : List Bs} (h : stepLine s (k == 0) x = none) : goLines s k (x :: y :: r) = (s, (k : Int) + 1) := by simp [goLines, h]
/-- the sizes of what is read -/
def Sized (n : Nat) (s : St) : Prop := (∀ h ∈ s.hs, h.ins.length ≤ n ∧ h.qty.length ≤ n) ∧ (∀ m ∈ s.ms, m.ref.length ≤ n ∧ m.ins.length ≤ n ∧ m.qty.length ≤ n ∧ m.amt.length ≤ n)
theorem parseIV_len (l : Bs) : (parseIV l).length ≤ l.length := by
  have := canon_le l; unfold parseIV; split
  · simp
  · split
    · simp
    · exact this
theorem stepW_sized {n : Nat} {s s' : St} {first : Bool} {ws : List Bs} (hs : Sized n s) (hw : ∀ p ∈ ws, p.length ≤ n) (h : stepW s first ws = some s') : Sized n s' ∧ s'.hs.length ≤ s.hs.length + 1 ∧ s'.ms.length ≤ s.ms.length + 1 := by
  unfold stepW at h
  split at h
  · split at h
    · injection h with h; subst h; exact ⟨hs, by simp, by simp⟩
    · cases h
  · rename_i a b c
    split at h
    · injection h with h; subst h
      refine ⟨⟨?_, hs.2⟩, by simp, by simp⟩
      intro x hx; simp at hx; rcases hx with hx | rfl
      · exact hs.1 x hx
      · have := parseIV_len c; have h1 := hw b (by simp); have h2 := hw c (by simp); simp only; omega
    · cases h
  · rename_i a b c d e f
    split at h
    · injection h with h; subst h
      refine ⟨⟨hs.1, ?_⟩, by simp, by simp⟩
      intro x hx; simp at hx; rcases hx with hx | rfl
      · exact hs.2 x hx
      · have := parseIV_len e; have := parseIV_len f
        have h1 := hw b (by simp); have h2 := hw d (by simp); have h3 := hw e (by simp); have h4 := hw f (by simp); simp only; omega
    · cases h
  · cases h
end Go.Proofs.YteeampgbmpolfaaGreatDoor

/- A statement that a reader builds up in memory. -/
namespace Go.Proofs.YteeampgbmpolfaaGreatDoor
open Go.RowKit

/-- w' is w but for block g and what lies from block 'base' on -/
structure BelG (base g : Nat) (w w' : World) : Prop where
  os : w'.os = w.os
  tape : w'.tape = w.tape
  output : w'.output = w.output
  size : w.heap.size ≤ w'.heap.size
  block : ∀ i, i < base → i ≠ g → w'.heap[i]? = w.heap[i]?
section
variable {base g : Nat} {w w' : World}
theorem BelG.of (h : Below base w w') : BelG base g w w' := ⟨h.os, h.tape, h.output, h.size, fun i hi _ => h.block i hi⟩
theorem BelG.setCell (h : BelG base g w w') (i : Nat) (u : Value) : BelG base g w (w'.setCell ⟨g, i, none⟩ u) :=
  ⟨h.os, h.tape, h.output, by have := h.size; simpa using this, fun k hk hne => (Below.heap_setCell w' ⟨g, i, none⟩ u k hne).trans (h.block k hk hne)⟩
theorem BelG.below (h : BelG base g w w') (hg : base ≤ g) : Below base w w' := ⟨h.os, h.tape, h.output, h.size, fun i hi => h.block i hi (by omega)⟩
theorem BelG.trans {w'' : World} (h : BelG base g w w') (k : BelG base g w' w'') : BelG base g w w'' :=
  ⟨k.os.trans h.os, k.tape.trans h.tape, k.output.trans h.output, Nat.le_trans h.size k.size, fun i hi hne => (k.block i hi hne).trans (h.block i hi hne)⟩
end
/-- block g (of type t) holds the statement s, and then the cells 'more'; its rows are the call's own, from block 'base' on -/
def StAtV (w : World) (base g : Nat) (t : TypeId) (more : List Value) (s : St) (vA vB : Value) : Prop :=
  Blk w g t (Value.int .i64 s.day :: vA :: vB :: more).toArray ∧ True ∧ w.ownsRow base 45 2 vA s.hs.length (hcells s.hs) ∧ w.ownsRow base 50 5 vB s.ms.length (mcells s.ms)
def StAt (w : World) (base g : Nat) (t : TypeId) (more : List Value) (s : St) : Prop := ∃ vA vB, StAtV w base g t more s vA vB
theorem own_ext {w w' : World} {base : Nat} {e : TypeId} {size : Nat} {v : Value} {n : Nat} {xs : List Value} (h : w.ownsRow base e size v n xs) (hx : Ext w w') : w'.ownsRow base e size v n xs :=
  h.kept (row := none) ⟨hx.os, hx.tape, hx.output, hx.size, fun i hi _ => hx.block i hi⟩ (by cases v.ownBlock <;> simp)
theorem StAtV.ext {w w' : World} {base g : Nat} {t : TypeId} {more : List Value} {s : St} {vA vB : Value} (h : StAtV w base g t more s vA vB) (hx : Ext w w') : StAtV w' base g t more s vA vB :=
  ⟨h.1.ext hx, h.2.1, own_ext h.2.2.1 hx, own_ext h.2.2.2 hx⟩
theorem StAt.ext {w w' : World} {base g : Nat} {t : TypeId} {more : List Value} {s : St} (h : StAt w base g t more s) (hx : Ext w w') : StAt w' base g t more s := by
  obtain ⟨vA, vB, h⟩ := h
  exact ⟨vA, vB, h.ext hx⟩
theorem own_ne {w : World} {base : Nat} {e : TypeId} {size n : Nat} {v : Value} {xs : List Value} {g : Nat} {t : TypeId} {cs : Array Value} (h : w.ownsRow base e size v n xs) (hg : Blk w g t cs) (hne : e ≠ t) : v.ownBlock ≠ some g := by
  rcases h.2 with ⟨rfl, _⟩ | ⟨g', cap, cur, rfl, _, hh, _⟩
  · simp [Value.ownBlock]
  · intro he
    have : g' = g := by simpa [Value.ownBlock] using he
    subst this
    unfold Blk at hg; rw [hg] at hh; injection hh with hh; injection hh with _ ht; exact hne ht.symm
theorem own_own_ne {w : World} {base base' : Nat} {e e' : TypeId} {size size' n n' : Nat} {v v' : Value} {xs xs' : List Value} (h : w.ownsRow base e size v n xs) (h' : w.ownsRow base' e' size' v' n' xs') (hne : e ≠ e') : v.ownBlock = none ∨ v.ownBlock ≠ v'.ownBlock := by
  rcases h.2 with ⟨rfl, _⟩ | ⟨g, cap, cur, rfl, _, hh, _⟩
  · left; rfl
  · right
    rcases h'.2 with ⟨rfl, _⟩ | ⟨g', cap', cur', rfl, _, hh', _⟩
    · simp [Value.ownBlock]
    · intro he
      have : g = g' := by simpa [Value.ownBlock] using he
      subst this
      rw [hh] at hh'; injection hh' with hh'; injection hh' with _ ht; exact hne ht
theorem own_set {w : World} {base : Nat} {e : TypeId} {size n : Nat} {v : Value} {xs : List Value} {g i : Nat} (h : w.ownsRow base e size v n xs) (hne : v.ownBlock ≠ some g) (u : Value) : (w.setCell ⟨g, i, none⟩ u).ownsRow base e size v n xs :=
  h.kept (row := some g) (Only.setCell (Only.refl g w) i u) (.inr hne)
section
variable {w w' : World} {base g : Nat} {t : TypeId} {more : List Value} {s : St} {vA vB : Value}
theorem StAtV.set_ (h : StAtV w base g t more s vA vB) (hA : 45 ≠ t) (hB : 50 ≠ t) (d : Int) (more' : List Value) (i : Nat) (u : Value) (hi : (Value.int .i64 s.day :: vA :: vB :: more).set i u = Value.int .i64 d :: vA :: vB :: more') :
    StAtV (w.setCell ⟨g, i, none⟩ u) base g t more' { s with day := d } vA vB := by
  refine ⟨?_, h.2.1, own_set h.2.2.1 (own_ne h.2.2.1 h.1 hA) u, own_set h.2.2.2 (own_ne h.2.2.2 h.1 hB) u⟩
  have := h.1.set_ i u
  rw [List.setIfInBounds_toArray, hi] at this
  exact this
theorem StAtV.growA (h : StAtV w base g t more s vA vB) (hA : 45 ≠ t) (hg : w.grownBy w' vA.ownBlock) : Blk w' g t (Value.int .i64 s.day :: vA :: vB :: more).toArray :=
  (hg.block g h.1.lt (fun he => own_ne h.2.2.1 h.1 hA he.symm)).trans h.1
theorem StAtV.growB (h : StAtV w base g t more s vA vB) (hB : 50 ≠ t) (hg : w.grownBy w' vB.ownBlock) : Blk w' g t (Value.int .i64 s.day :: vA :: vB :: more).toArray :=
  (hg.block g h.1.lt (fun he => own_ne h.2.2.2 h.1 hB he.symm)).trans h.1
theorem StAtV.addH (h : StAtV w base g t more s vA vB) (hA : 45 ≠ t) (hB : 50 ≠ t) (hg : w.grownBy w' vA.ownBlock) {v' : Value} {x : Hd}
    (ho : w'.ownsRow base 45 2 v' (s.hs.length + 1) (hcells s.hs ++ [.string (bs x.ins), .string (bs x.qty)])) :
    StAt (w'.setCell ⟨g, 1, none⟩ v') base g t more { s with hs := s.hs ++ [x] } := by
  have hb := h.growA hA hg
  have hB' := h.2.2.2.kept hg (own_own_ne h.2.2.2 h.2.2.1 (by decide))
  have h1 := own_ne ho hb hA
  have h2 := own_ne hB' hb hB
  refine ⟨v', vB, ?_, h.2.1, ?_, own_set hB' h2 v'⟩
  · have := hb.set_ 1 v'
    rw [List.setIfInBounds_toArray] at this
    exact this
  · have := own_set (i := 1) ho h1 v'
    simpa [hcells] using this
theorem StAtV.addM (h : StAtV w base g t more s vA vB) (hA : 45 ≠ t) (hB : 50 ≠ t) (hg : w.grownBy w' vB.ownBlock) {v' : Value} {x : Mv}
    (ho : w'.ownsRow base 50 5 v' (s.ms.length + 1) (mcells s.ms ++ [.string (bs x.ref), .int .i64 x.day, .string (bs x.ins), .string (bs x.qty), .string (bs x.amt)])) :
    StAt (w'.setCell ⟨g, 2, none⟩ v') base g t more { s with ms := s.ms ++ [x] } := by
  have hb := h.growB hB hg
  have hA' := h.2.2.1.kept hg (own_own_ne h.2.2.1 h.2.2.2 (by decide))
  have h1 := own_ne ho hb hB
  have h2 := own_ne hA' hb hA
  refine ⟨vA, v', ?_, h.2.1, own_set hA' h2 v', ?_⟩
  · have := hb.set_ 2 v'
    rw [List.setIfInBounds_toArray] at this
    exact this
  · have := own_set (i := 2) ho h1 v'
    simpa [mcells] using this
theorem own_len {e : TypeId} {size n : Nat} {v : Value} {xs : List Value} (h : w.ownsRow base e size v n xs) : ∃ A c, v = .slice A n c := by
  rcases h.2 with ⟨rfl, rfl⟩ | ⟨g, cap, cur, rfl, _⟩
  · exact ⟨_, _, rfl⟩
  · exact ⟨_, _, rfl⟩
end
theorem holdInfo : (Tryz.prog.info? 45).map (fun i => (i.zero, i.size, i.bytes)) = some (some (.agg #[.string ⟨#[]⟩, .string ⟨#[]⟩]), 2, 32) := by kernel_rfl
theorem movInfo : (Tryz.prog.info? 50).map (fun i => (i.zero, i.size, i.bytes)) = some (some (.agg #[.string ⟨#[]⟩, .int .i64 0, .string ⟨#[]⟩, .string ⟨#[]⟩, .string ⟨#[]⟩]), 5, 72) := by kernel_rfl
end Go.Proofs.YteeampgbmpolfaaGreatDoor

/- The walk over the reference's read. -/
namespace Go.Proofs.YteeampgbmpolfaaGreatDoor
open Go.RowKit
attribute [local go_sem] size_bs toList_bs extract_bs get_bs append_bs lit_append append_lit

/-- how a line's reading ends -/
def ReadEnds (base g : Nat) (t : TypeId) (more : Bool → List Value) (s : St) (first : Bool) (ws : List Bs) (w : World) (e : Ending) (w' : World) : Prop :=
  ∃ ok : Bool, e = .returned (.bool ok) ∧ BelG base g w w' ∧ (∀ s', stepW s first ws = some s' → (ok = true ∧ StAt w' base g t (more true) s')) ∧ (stepW s first ws = none → ok = false)
theorem ReadEnds.no {base g : Nat} {t : TypeId} {more : Bool → List Value} {s : St} {first : Bool} {ws : List Bs} {w w' : World} (h : stepW s first ws = none) (hb : Below base w w') : ReadEnds base g t more s first ws w (.returned (.bool false)) w' :=
  ⟨false, rfl, BelG.of hb, (fun s' h' => by rw [h] at h'; cases h'), (fun _ => rfl)⟩
theorem stepW_empty {s : St} {first : Bool} {ws : List Bs} (h : [] ∈ ws) : stepW s first ws = none := by
  unfold stepW
  split
  · rename_i a b
    rw [if_neg]; rintro ⟨_, h1, h2⟩
    simp at h; rcases h with h | h
    · rw [h] at h1; cases h1
    · rw [h, parseDE_nil] at h2; cases h2
  · rename_i a b c
    rw [if_neg]; rintro ⟨_, h1, _, h2, h3⟩
    simp at h; rcases h with h | h | h
    · rw [h] at h1; cases h1
    · exact h2 h
    · rw [h, parseIE_nil] at h3; cases h3
  · rename_i a b c d e f
    rw [if_neg]; rintro ⟨_, h1, h2, h3, h4, h5, h6⟩
    simp at h; rcases h with h | h | h | h | h | h
    · rw [h] at h1; cases h1
    · exact h2 h
    · rw [h, parseDE_nil] at h4; cases h4
    · exact h3 h
    · rw [h, parseIE_nil] at h5; cases h5
    · rw [h, parseIE_nil] at h6; cases h6
  · rfl

theorem ReadEnds.yes {base g : Nat} {t : TypeId} {more : Bool → List Value} {s s2 : St} {first : Bool} {ws : List Bs} {w w' : World} {c : Prop} [Decidable c] {ok : Bool} (h : stepW s first ws = if c then some s2 else none) (hok : ok = decide c) (hb : BelG base g w w') (hS : StAt w' base g t (more true) s2) : ReadEnds base g t more s first ws w (.returned (.bool ok)) w' := by
  refine ⟨ok, rfl, hb, ?_, ?_⟩
  · intro s' h'
    rw [h] at h'
    split at h'
    · rename_i hc; injection h' with h'; subst h'; exact ⟨by rw [hok, decide_eq_true hc], hS⟩
    · cases h'
  · intro h'
    rw [h] at h'
    split at h'
    · cases h'
    · rename_i hc; rw [hok, decide_eq_false hc]
theorem stepW_len {s : St} {first : Bool} {ws : List Bs} (h2 : first = true → ws.length ≠ 2) (h3 : first = false → ws.length ≠ 3) (h6 : first = false → ws.length ≠ 6) : stepW s first ws = none := by
  unfold stepW
  split
  · rw [if_neg]; rintro ⟨h, _⟩; exact h2 h rfl
  · rw [if_neg]; rintro ⟨h, _⟩; exact h3 h rfl
  · rw [if_neg]; rintro ⟨h, _⟩; exact h6 h rfl
  · rfl
theorem len2 {ws : List Bs} (h : ws.length = 2) : ∃ a b, ws = [a, b] := by
  match ws, h with
  | [a, b], _ => exact ⟨a, b, rfl⟩
theorem len3 {ws : List Bs} (h : ws.length = 3) : ∃ a b c, ws = [a, b, c] := by
  match ws, h with
  | [a, b, c], _ => exact ⟨a, b, c, rfl⟩
theorem len6 {ws : List Bs} (h : ws.length = 6) : ∃ a b c d e f, ws = [a, b, c, d, e, f] := by
  match ws, h with
  | [a, b, c, d, e, f], _ => exact ⟨a, b, c, d, e, f, rfl⟩
theorem RdS.cells {w : World} {b o : Nat} {ls : List Bs} (h : RdS w (some ⟨b, o, none⟩) ls) {k : Nat} {x : Bs} (hk : ls[k]? = some x) : w.cell? ⟨b, o + k, none⟩ = some (.string (bs x)) :=
  Reads.cell h (by simp [scells, hk])

set_option maxRecDepth 100000 in
set_option maxHeartbeats 4000000 in
theorem refRead (s : St) (line : Bs) (ws : List Bs) (hws : splitOn 32 line = ws) (first : Bool) (base g : Nat) (w : World) (hS : StAt w base g 26 [] s) (hbw : base ≤ w.heap.size) (hl : line.length ≤ 100000) (hn1 : s.hs.length ≤ 1000000) (hn2 : s.ms.length ≤ 1000000) :
    Calls Tryz.prog 51 #[.pointer (some ⟨g, 0, none⟩), .string (bs line), .bool first] w (ReadEnds base g 26 (fun _ => []) s first ws w) := by
  obtain ⟨iH, hiH, hzH0, hzH1, hzH2⟩ := info_parts holdInfo
  obtain ⟨iM, hiM, hzM0, hzM1, hzM2⟩ := info_parts movInfo
  obtain ⟨vA, vB, hS⟩ := hS
  have HIH := Lib.hid hiH
  have HIM := Lib.hid hiM
  clear hiH hiM
  have HS := Lib.hid hS
  have hgw := hS.1.lt
  obtain ⟨aA, cA, rfl⟩ := own_len hS.2.2.1
  obtain ⟨aB, cB, rfl⟩ := own_len hS.2.2.2
  clear hS
  have hwl := splitOn_len 32 line
  have hwm := splitOn_mem 32 line
  rw [hws] at hwl hwm
  have HWM := Lib.hid hwm
  clear hwm
  go_enter Tryz.func51, Tryz.ntmps51
  go_wp2_with fail
  refine (refCut line 32 _ (by omega)).mono ?_
  rw [hws]
  rintro e w1 ⟨A, cap, rfl, hR, hx1⟩
  clear hws
  have HR := Lib.hid hR
  clear hR
  go_wp2_with fail
  go_loop [8] (fun i => ∃ k : Nat, k ≤ ws.length ∧ i = .int .i64 k ∧ (∀ (j : Nat) (hj : j < ws.length), j < k → (ws[j]'hj) ≠ [])) (fun i => ws.length - (intOf i).toNat)
  case atStart => exact ⟨0, by omega, rfl, fun j _ hj => absurd hj (by omega)⟩
  case round =>
    obtain ⟨k, hk, rfl, hz⟩ := hrel
    have HZ := Lib.hid hz
    clear hz
    by_cases hlt : k < ws.length
    · obtain ⟨b, o, rfl, hb, hc⟩ := HR.out.at_ hlt
      by_cases he : (ws[k]'hlt) = []
      · have heb : (ws[k]'hlt).isEmpty = true := by simp [he]
        have HN := Lib.hid (stepW_empty (s := s) (first := first) (ws := ws) (by rw [← he]; exact List.getElem_mem hlt))
        clear he
        go_wp2_with fail
        go_ret
        exact ReadEnds.no HN.out (Below.mono hx1 hbw)
      · have heb : (ws[k]'hlt).isEmpty = false := by simpa using he
        have HE := Lib.hid he
        clear he
        go_wp2_with fail
        go_round
        case rel =>
          refine ⟨k + 1, by omega, by go_num, fun j hj hjk => ?_⟩
          rcases Nat.lt_or_ge j k with h | h
          · exact HZ.out j hj h
          · obtain rfl : j = k := by omega
            exact HE.out
        case measure => simp [intOf]; omega
    · have HALL : Hid (∀ p ∈ ws, p ≠ []) := Lib.hid (fun p hp => by
        obtain ⟨j, hj, rfl⟩ := List.mem_iff_getElem.1 hp
        exact HZ.out j hj (by omega))
      clear HZ
      cases first with
      | true =>
        by_cases h2 : ws.length = 2
        · obtain ⟨a, b, rfl⟩ := len2 h2
          obtain rfl : k = 2 := by simp at hk hlt; omega
          clear h2 hk hlt
          obtain ⟨bb, oo, rfl, hbb, hc0⟩ := HR.out.at_ (k := 0) (by simp)
          have hc1 := HR.out.cells (k := 1) rfl
          simp only [List.getElem_cons_zero, Nat.add_zero] at hc0
          have hbl : b.length ≤ line.length := HWM.out b (by simp)
          by_cases ha : a = wStatement
          · have hab : (a == [115, 116, 97, 116, 101, 109, 101, 110, 116]) = true := by rw [beq_iff_eq]; exact ha
            have HST : Hid (stepW s true [a, b] = if parseDE b = 0 then some { s with day := parseDV b } else none) := Lib.hid (by simp [stepW, ha])
            clear ha
            go_wp2_with fail
            refine (refParseD b _ (by omega)).mono ?_
            rintro e w2 ⟨rfl, hx2⟩
            have hS2 := (HS.out.ext hx1).ext hx2
            have hd0 := hS2.1.cell 0
            have hd1 := hS2.1.frozen 0
            simp only [List.getElem?_toArray, List.getElem?_cons_zero] at hd0
            have HS2 := Lib.hid hS2
            clear hS2
            generalize hdv : parseDV b = dv at *
            generalize hde : parseDE b = de at *
            go_wp2_with fail
            go_ret
            refine ReadEnds.yes HST.out ?_ ?_ ?_
            · rfl
            · exact (BelG.of (Below.mono (hx1.trans hx2) hbw)).setCell _ _
            · exact ⟨_, _, HS2.out.set_ (by decide) (by decide) dv [] 0 _ rfl⟩
          · have hab : (a == [115, 116, 97, 116, 101, 109, 101, 110, 116]) = false := by rw [beq_eq_false_iff_ne]; exact ha
            have HST : Hid (stepW s true [a, b] = none) := Lib.hid (by simp [stepW, ha])
            clear ha
            go_wp2_with fail
            go_ret
            exact ReadEnds.no HST.out (Below.mono hx1 hbw)
        · have hb2 : ((ws.length : Int) != 2) = true := by rw [bne_iff_ne]; omega
          have HST : Hid (stepW s true ws = none) := Lib.hid (stepW_len (fun _ => h2) (fun h => by cases h) (fun h => by cases h))
          clear h2
          go_wp2_with fail
          go_ret
          exact ReadEnds.no HST.out (Below.mono hx1 hbw)
      | false =>
        by_cases h3 : ws.length = 3
        · obtain ⟨a, b, c, rfl⟩ := len3 h3
          obtain rfl : k = 3 := by simp at hk hlt; omega
          clear h3 hk hlt
          obtain ⟨bb, oo, rfl, hbb, hc0⟩ := HR.out.at_ (k := 0) (by simp)
          have hc1 := HR.out.cells (k := 1) rfl
          have hc2 := HR.out.cells (k := 2) rfl
          simp only [List.getElem_cons_zero, Nat.add_zero] at hc0
          have hbl : c.length ≤ line.length := HWM.out c (by simp)
          have hbne : b ≠ [] := HALL.out b (by simp)
          have HBNE := Lib.hid hbne
          clear hbne
          have hS1 := HS.out.ext hx1
          have hd1 := hS1.1.cell 1
          have hd2 := hS1.1.cell 2
          have hf1 := hS1.1.frozen 1
          simp only [List.getElem?_toArray, List.getElem?_cons_zero, List.getElem?_cons_succ] at hd1 hd2
          have hgw1 := hS1.1.lt
          have HS1 := Lib.hid hS1
          clear hS1
          by_cases ha : a = wHolding
          · have hab : (a == [104, 111, 108, 100, 105, 110, 103]) = true := by rw [beq_iff_eq]; exact ha
            by_cases hms : s.ms = []
            · have HST : Hid (stepW s false [a, b, c] = if parseIE c = 0 then some { s with hs := s.hs ++ [⟨b, parseIV c⟩] } else none) := Lib.hid (by simp [stepW, ha, hms, HBNE.out])
              have hm0 : s.ms.length = 0 := by rw [hms]; rfl
              have hmb : ((s.ms.length : Int) == 0) = true := by rw [hm0]; rfl
              clear ha hms
              go_wp2_with fail
              refine (refParseI c _ (by omega)).mono ?_
              rintro e w2 ⟨rfl, rfl⟩
              generalize hdv : parseIV c = dv at *
              generalize hde : parseIE c = de at *
              go_wp2_with fail
              go_region_law ((refine step_append_lies _ (by rfl) (.tmp 83) (.tmp 89) 23 (by rfl) base 45 iH _ 2 32 Tryz.underlying23 HIH.out hzH0 hzH1 hzH2 rfl (by decide) (.slice aA s.hs.length cA) s.hs.length (hcells s.hs) (by simp [Act.eval]) (HS1.out.2.2.1.drew.alloc _) ⟨w1.heap.size, 0, none⟩ 1 1 [.string (bs b), .string (bs dv)] (by simp [Act.eval]) rfl (World.news_of_block (heap_alloc_new w1.drew _)) (by simp [Value.oneCell']) (by omega) (by simp only [maxLen]; omega) (by omega) (by have := hx1.size; simp; omega) _ rfl ?_); intro g' cap' w' hown hgrow hat hlt'; (have hb' := StAtV.growA ((HS1.out.ext (Ext.refl w1).drew).ext (Ext.new _ _)) (by decide) hgrow); (have hg1 := hb'.cell 1); (have hg2 := hb'.frozen 1); (simp only [List.getElem?_toArray, List.getElem?_cons_zero, List.getElem?_cons_succ] at hg1); clear hb')
              all_goals
                go_wp2_with fail
                go_ret
                refine ReadEnds.yes HST.out ?_ ?_ ?_
                · rfl
                · exact (BelG.of (Below.grown (Below.alloc (Below.mono hx1 hbw).drew (by have := hx1.size; simp; omega) _) hgrow (by have := hx1.size; simp; omega) (own_ge HS1.out.2.2.1))).setCell _ _
                · exact StAtV.addH (x := ⟨b, dv⟩) ((HS1.out.ext (Ext.refl w1).drew).ext (Ext.new _ _)) (by decide) (by decide) hgrow hown
            · have HST : Hid (stepW s false [a, b, c] = none) := Lib.hid (by simp [stepW, hms])
              have hm0 : 0 < s.ms.length := List.length_pos_iff.2 hms
              have hmb : ((s.ms.length : Int) == 0) = false := by rw [beq_eq_false_iff_ne]; omega
              clear ha hms
              go_wp2_with fail
              go_ret
              exact ReadEnds.no HST.out (Below.mono hx1 hbw)
          · have hab : (a == [104, 111, 108, 100, 105, 110, 103]) = false := by rw [beq_eq_false_iff_ne]; exact ha
            have HST : Hid (stepW s false [a, b, c] = none) := Lib.hid (by simp [stepW, ha])
            clear ha
            go_wp2_with fail
            go_ret
            exact ReadEnds.no HST.out (Below.mono hx1 hbw)
        by_cases h6 : ws.length = 6
        · obtain ⟨a, b, c, d, e, f, rfl⟩ := len6 h6
          obtain rfl : k = 6 := by simp at hk hlt; omega
          clear h3 h6 hk hlt
          obtain ⟨bb, oo, rfl, hbb, hc0⟩ := HR.out.at_ (k := 0) (by simp)
          have hc1 := HR.out.cells (k := 1) rfl
          have hc2 := HR.out.cells (k := 2) rfl
          have hc3 := HR.out.cells (k := 3) rfl
          have hc4 := HR.out.cells (k := 4) rfl
          have hc5 := HR.out.cells (k := 5) rfl
          simp only [List.getElem_cons_zero, Nat.add_zero] at hc0
          have hlc : c.length ≤ line.length := HWM.out c (by simp)
          have hle : e.length ≤ line.length := HWM.out e (by simp)
          have hlf : f.length ≤ line.length := HWM.out f (by simp)
          have HBNE := Lib.hid (HALL.out b (by simp))
          have HDNE := Lib.hid (HALL.out d (by simp))
          by_cases ha : a = wMovement
          · have hab : (a == [109, 111, 118, 101, 109, 101, 110, 116]) = true := by rw [beq_iff_eq]; exact ha
            have HST : Hid (stepW s false [a, b, c, d, e, f] = if parseDE c = 0 ∧ parseIE e = 0 ∧ parseIE f = 0 then some { s with ms := s.ms ++ [⟨b, parseDV c, d, parseIV e, parseIV f⟩] } else none) := Lib.hid (by simp [stepW, ha, HDNE.out, HBNE.out])
            clear ha
            go_wp2_with fail
            refine (refParseD c _ (by omega)).mono ?_
            rintro e2 w2 ⟨rfl, hx2⟩
            have hr1 := (hx2.cell (p := ⟨bb, oo + 1, none⟩) hbb).trans hc1
            have hr3 := (hx2.cell (p := ⟨bb, oo + 3, none⟩) hbb).trans hc3
            have hr4 := (hx2.cell (p := ⟨bb, oo + 4, none⟩) hbb).trans hc4
            have hr5 := (hx2.cell (p := ⟨bb, oo + 5, none⟩) hbb).trans hc5
            have hbb2 : bb < w2.heap.size := Nat.lt_of_lt_of_le hbb hx2.size
            clear hc0 hc1 hc2 hc3 hc4 hc5 hbb
            have hx12 := hx1.trans hx2
            have hS2 := HS.out.ext hx12
            have hd1 := hS2.1.cell 1
            have hd2 := hS2.1.cell 2
            have hf2 := hS2.1.frozen 2
            simp only [List.getElem?_toArray, List.getElem?_cons_zero, List.getElem?_cons_succ] at hd1 hd2
            have hgw2 := hS2.1.lt
            have HS2 := Lib.hid hS2
            clear hS2 hx1 hx2
            generalize hdv : parseDV c = dv at *
            generalize hde : parseDE c = de at *
            go_wp2_with fail
            refine (refParseI e _ (by omega)).mono ?_
            rintro e3 w3 ⟨rfl, rfl⟩
            generalize hqv : parseIV e = qv at *
            generalize hqe : parseIE e = qe at *
            go_wp2_with fail
            refine (refParseI f _ (by omega)).mono ?_
            rintro e3 w3 ⟨rfl, rfl⟩
            generalize hav : parseIV f = av at *
            generalize hae : parseIE f = ae at *
            have HE1 := Lib.hid hdv
            have HE2 := Lib.hid hde
            have HE3 := Lib.hid hqv
            have HE4 := Lib.hid hqe
            have HE5 := Lib.hid hav
            have HE6 := Lib.hid hae
            clear hdv hde hqv hqe hav hae
            go_wp2_with fail
            go_region_law ((refine step_append_lies _ (by rfl) (.tmp 129) (.tmp 140) 24 (by rfl) base 50 iM _ 5 72 Tryz.underlying24 HIM.out hzM0 hzM1 hzM2 rfl (by decide) (.slice aB s.ms.length cB) s.ms.length (mcells s.ms) (by simp [Act.eval]) (HS2.out.2.2.2.drew.alloc _) ⟨w2.heap.size, 0, none⟩ 1 1 [.string (bs b), .int .i64 dv, .string (bs d), .string (bs qv), .string (bs av)] (by simp [Act.eval]) rfl (World.news_of_block (heap_alloc_new w2.drew _)) (by simp [Value.oneCell']) (by omega) (by simp only [maxLen]; omega) (by omega) (by have := hx12.size; simp; omega) _ rfl ?_); intro g' cap' w' hown hgrow hat hlt'; (have hb' := StAtV.growB ((HS2.out.ext (Ext.refl w2).drew).ext (Ext.new _ _)) (by decide) hgrow); (have hg1 := hb'.cell 2); (have hg2 := hb'.frozen 2); (simp only [List.getElem?_toArray, List.getElem?_cons_zero, List.getElem?_cons_succ] at hg1); clear hb')
            all_goals
              have HFIN : ∀ ok : Bool, ok = decide (de = 0 ∧ qe = 0 ∧ ae = 0) → ReadEnds base g 26 (fun _ => []) s false [a, b, c, d, e, f] w (.returned (.bool ok)) (w'.setCell ⟨g, 2, none⟩ (.slice (some ⟨g', 0, none⟩) (s.ms.length + 1) cap')) := fun ok hok => by
                refine ReadEnds.yes HST.out hok ?_ ?_
                · exact (BelG.of (Below.grown (Below.alloc (Below.mono hx12 hbw).drew (by have := hx12.size; simp; omega) _) hgrow (by have := hx12.size; simp; omega) (own_ge HS2.out.2.2.2))).setCell _ _
                · exact StAtV.addM (x := ⟨b, dv, d, qv, av⟩) ((HS2.out.ext (Ext.refl w2).drew).ext (Ext.new _ _)) (by decide) (by decide) hgrow hown
              have HF := Lib.hid HFIN
              clear HFIN hown hgrow hat
              by_cases h1 : de = 0
              · have h1b : (de == 0) = true := by rw [beq_iff_eq]; exact h1
                by_cases h2 : qe = 0
                · have h2b : (qe == 0) = true := by rw [beq_iff_eq]; exact h2
                  have HF2 : Hid (∀ ok : Bool, ok = decide (ae = 0) → ReadEnds base g 26 (fun _ => []) s false [a, b, c, d, e, f] w (.returned (.bool ok)) (w'.setCell ⟨g, 2, none⟩ (.slice (some ⟨g', 0, none⟩) (s.ms.length + 1) cap'))) := Lib.hid (fun ok hok => HF.out ok (by rw [hok]; simp [h1, h2]))
                  clear h1 h2 HF
                  go_wp2_with fail
                  go_ret
                  exact HF2.out _ rfl
                · have h2b : (qe == 0) = false := by rw [beq_eq_false_iff_ne]; exact h2
                  have HF2 := Lib.hid (HF.out false (by simp [h2]))
                  clear h1 h2 HF
                  go_wp2_with fail
                  go_ret
                  exact HF2.out
              · have h1b : (de == 0) = false := by rw [beq_eq_false_iff_ne]; exact h1
                have HF2 := Lib.hid (HF.out false (by simp [h1]))
                clear h1 HF
                go_wp2_with fail
                go_ret
                exact HF2.out
          · have hab : (a == [109, 111, 118, 101, 109, 101, 110, 116]) = false := by rw [beq_eq_false_iff_ne]; exact ha
            have HST : Hid (stepW s false [a, b, c, d, e, f] = none) := Lib.hid (by simp [stepW, ha])
            clear ha
            go_wp2_with fail
            go_ret
            exact ReadEnds.no HST.out (Below.mono hx1 hbw)
        · have hb3 : ((ws.length : Int) == 3) = false := by rw [beq_eq_false_iff_ne]; omega
          have hb6 : ((ws.length : Int) == 6) = false := by rw [beq_eq_false_iff_ne]; omega
          have HST : Hid (stepW s false ws = none) := Lib.hid (stepW_len (fun h => by cases h) (fun _ => h3) (fun _ => h6))
          clear h3 h6
          go_wp2_with fail
          go_ret
          exact ReadEnds.no HST.out (Below.mono hx1 hbw)
end Go.Proofs.YteeampgbmpolfaaGreatDoor

/- A statement as a result, through a cell. -/
namespace Go.Proofs.YteeampgbmpolfaaGreatDoor
open Go.RowKit

theorem results_st {fn : Func} {a b c : Tmp} (h : fn.results = #[.cell a 26, .tmp b, .tmp c]) (tmps : Array Value) (w : World) (g : Nat) (x y z : Value) (ha : tmps.getD a undef = .pointer (some ⟨g, 0, none⟩)) (hb : Blk w g 26 #[x, y, z]) :
    (results fn tmps).run Tryz.prog w = .ok (.tuple #[.agg #[x, y, z], tmps.getD b undef, tmps.getD c undef]) w := by
  have h0 := hb.cell 0
  have h1 := hb.cell 1
  have h2 := hb.cell 2
  simp only [List.getElem?_toArray, List.getElem?_cons_zero, List.getElem?_cons_succ] at h0 h1 h2
  unfold results
  rw [h]
  simp only [List.mapM_toArray, List.mapM_cons, List.mapM_nil, ha]
  go_simp
end Go.Proofs.YteeampgbmpolfaaGreatDoor

/- The walk over the reference's Parse of a statement. -/
namespace Go.Proofs.YteeampgbmpolfaaGreatDoor
open Go.RowKit
attribute [local go_sem] size_bs toList_bs extract_bs get_bs append_bs lit_append append_lit

/-- how the parsing ends -/
def ParseEnds (r : St) (n err : Int) (w : World) (e : Ending) (w' : World) : Prop :=
  ∃ A c B d, e = .returned (.tuple #[.agg #[.int .i64 r.day, .slice A r.hs.length c, .slice B r.ms.length d], .int .i64 n, .int .i64 err]) ∧ RdH w' A r.hs ∧ RdM w' B r.ms ∧ Ext w w'
theorem ParseEnds.zero {n err : Int} {w w' : World} (hx : Ext w w') : ParseEnds zeroS n err w (.returned (.tuple #[.agg #[.int .i64 0, .slice none 0 0, .slice none 0 0], .int .i64 n, .int .i64 err])) w' :=
  ⟨none, 0, none, 0, rfl, Reads.nil, Reads.nil, hx⟩
/-- the state of the reading at a line -/
structure Lined (t : Bs) (lines : List Bs) (k : Nat) (s : St) : Prop where
  lt : k < lines.length
  same : resL t = goLines s k (lines.drop k)
  hs : s.hs.length ≤ k
  ms : s.ms.length ≤ k
  sized : Sized 100000 s
theorem Lined.start {t : Bs} {lines : List Bs} (h : splitOn 10 t = lines) : Lined t lines 0 zeroS := by
  refine ⟨?_, by simp [resL, h], by simp [zeroS], by simp [zeroS], by simp [Sized, zeroS]⟩
  rw [← h]; exact List.length_pos_iff.2 (splitOn_ne 10 t)
theorem Lined.last {t : Bs} {lines : List Bs} {k : Nat} {s : St} (h : Lined t lines k s) (hk : k + 1 = lines.length) : resL t = if 0 < k ∧ (lines[k]'h.lt) = [] then (s, 0) else (s, (k : Int) + 1) := by
  rw [h.same, List.drop_eq_getElem_cons h.lt, List.drop_of_length_le (by omega), goLines_one]
theorem Lined.bad {t : Bs} {lines : List Bs} {k : Nat} {s : St} (h : Lined t lines k s) (hk : k + 1 < lines.length) (hb : stepLine s (k == 0) (lines[k]'h.lt) = none) : resL t = (s, (k : Int) + 1) := by
  rw [h.same, List.drop_eq_getElem_cons h.lt, List.drop_eq_getElem_cons hk, goLines_bad hb]
theorem Lined.ok {t : Bs} {lines : List Bs} {k : Nat} {s s' : St} (h : Lined t lines k s) (hk : k + 1 < lines.length) (hl : (lines[k]'h.lt).length ≤ 100000) (hb : stepLine s (k == 0) (lines[k]'h.lt) = some s') : Lined t lines (k + 1) s' := by
  have h3 := stepW_sized h.sized (fun p hp => Nat.le_trans (splitOn_mem 32 _ p hp) hl) hb
  have := h.hs; have := h.ms
  refine ⟨hk, ?_, by omega, by omega, h3.1⟩
  rw [h.same, List.drop_eq_getElem_cons h.lt, List.drop_eq_getElem_cons hk, goLines_ok hb]
theorem Lined.small {t : Bs} {lines : List Bs} {k : Nat} {s : St} (h : Lined t lines k s) (hl : lines.length ≤ 100000) : SmallS s := by
  have := h.hs; have := h.ms; have := h.lt
  refine ⟨by omega, by omega, fun x hx => ?_, fun x hx => ?_⟩
  · have := h.sized.1 x hx; unfold SmallH; omega
  · have := h.sized.2 x hx; unfold SmallM; omega

set_option maxRecDepth 100000 in
set_option maxHeartbeats 4000000 in
theorem refParseS (t : Bs) (w : World) (ht : t.length ≤ 1000000000) :
    Calls Tryz.prog 14 #[.string (bs t)] w (ParseEnds (parseSt t) (parseSN t) (parseSE t) w) := by
  by_cases hbig : 65536 < t.length
  · have H1 : Hid (parseSt t = zeroS ∧ parseSN t = 0 ∧ parseSE t = 4) := Lib.hid (by unfold parseSt parseSN parseSE; simp [hbig])
    rw [H1.out.1, H1.out.2.1, H1.out.2.2]
    go_enter Tryz.func14, Tryz.ntmps14
    go_wp2_with fail
    refine bodyPost_ret (results_st rfl _ _ _ _ _ _ rfl (Blk.new _ _ _)) rfl ?_
    exact ParseEnds.zero (Ext.new w _)
  · have H1 : Hid ((resL t).2 ≠ 0 → parseSt t = zeroS ∧ parseSN t = (resL t).2 ∧ parseSE t = 3) := Lib.hid (by unfold parseSt parseSN parseSE; intro h; simp [hbig, h])
    have H2 : Hid ((resL t).2 = 0 → checkS (resL t).1 ≠ 0 → parseSt t = zeroS ∧ parseSN t = 0 ∧ parseSE t = checkS (resL t).1) := Lib.hid (by unfold parseSt parseSN parseSE; intro h h'; simp [hbig, h, h'])
    have H3 : Hid ((resL t).2 = 0 → checkS (resL t).1 = 0 → parseSt t = (resL t).1 ∧ parseSN t = 0 ∧ parseSE t = 0) := Lib.hid (by unfold parseSt parseSN parseSE; intro h h'; simp [hbig, h, h'])
    have hwl := splitOn_len 10 t
    have hwm := splitOn_mem 10 t
    generalize hR : parseSt t = R at *
    generalize hN : parseSN t = N at *
    generalize hE : parseSE t = E at *
    clear hR hN hE
    generalize hws : splitOn 10 t = lines at *
    have HWM := Lib.hid hwm
    clear hwm
    have HST := Lib.hid (Lined.start hws)
    go_enter Tryz.func14, Tryz.ntmps14
    go_wp2_with fail
    refine (refCut t 10 _ (by omega)).mono ?_
    rw [hws]
    rintro e w1 ⟨A, cap, rfl, hRd, hx1⟩
    have HB0 := Lib.hid ((Blk.new w _ _).ext hx1)
    have HX1 := Lib.hid (Ext.of_alloc hx1)
    have hsz : w.heap.size < w1.heap.size := by have := hx1.size; simp at this; omega
    clear hws hx1
    have HR := Lib.hid hRd
    clear hRd
    go_wp2_with fail
    go_loopw [7] (fun i wr => ∃ (k : Nat) (s : St), i = .int .i64 k ∧ Lined t lines k s ∧ StAt wr w1.heap.size w1.heap.size 26 [] s ∧ Ext w1 wr) (fun i _ => lines.length - (intOf i).toNat)
    case atStart => exact ⟨0, zeroS, rfl, HST.out, ⟨_, _, Blk.new _ _ _, trivial, ⟨rfl, .inl ⟨rfl, rfl⟩⟩, ⟨rfl, .inl ⟨rfl, rfl⟩⟩⟩, Ext.new _ _⟩
    case round =>
      obtain ⟨k, s, rfl, hL, hS, hx⟩ := hrel
      have hlt := hL.lt
      have HL := Lib.hid hL
      have HS := Lib.hid hS
      obtain ⟨b, o, rfl, hb, hc⟩ := (HR.out.ext hx).at_ hlt
      have HLL := Lib.hid (HWM.out _ (List.getElem_mem hlt))
      have hres := HB0.out.ext hx
      have hq0 := hres.cell 0
      have hq1 := hres.cell 1
      have hq2 := hres.cell 2
      have hp0 := hres.frozen 0
      have hp1 := hres.frozen 1
      have hp2 := hres.frozen 2
      simp only [List.getElem?_toArray, List.getElem?_cons_zero, List.getElem?_cons_succ] at hq0 hq1 hq2
      have HRS := Lib.hid hres
      clear hL hS hres
      by_cases hlast : k + 1 = lines.length
      · have hlb : ((k : Int) == (lines.length : Int) - 1) = true := by rw [beq_iff_eq]; omega
        have HLA := Lib.hid (HL.out.last hlast)
        by_cases hfin : 0 < k ∧ (lines[k]'hlt) = []
        · have heb : (lines[k]'hlt).isEmpty = true := by simp [hfin.2]
          have hk0 := hfin.1
          rw [if_pos hfin] at HLA
          clear hfin
          obtain ⟨vA, vB, hS⟩ := HS.out
          obtain ⟨aA, cA, rfl⟩ := own_len hS.2.2.1
          obtain ⟨aB, cB, rfl⟩ := own_len hS.2.2.2
          have hd0 := hS.1.cell 0
          have hd1 := hS.1.cell 1
          have hd2 := hS.1.cell 2
          simp only [List.getElem?_toArray, List.getElem?_cons_zero, List.getElem?_cons_succ] at hd0 hd1 hd2
          have HSV := Lib.hid hS
          clear hS
          go_wp2_with fail
          refine (refCheckS s aA aB cA cB _ (Reads.own HSV.out.2.2.1) (Reads.own HSV.out.2.2.2) (HL.out.small (by omega))).mono ?_
          rintro e w3 ⟨rfl, hx3⟩
          have hS3 := HSV.out.ext hx3
          have hd30 := hS3.1.cell 0
          have hd31 := hS3.1.cell 1
          have hd32 := hS3.1.cell 2
          have hres3 := HRS.out.ext hx3
          have hq30 := hres3.cell 0
          have hq31 := hres3.cell 1
          have hq32 := hres3.cell 2
          have hp30 := hres3.frozen 0
          have hp31 := hres3.frozen 1
          have hp32 := hres3.frozen 2
          have hne1 : w.heap.size ≠ w1.heap.size := by omega
          have hX3 := Lib.hid ((HX1.out.trans hx).trans hx3)
          simp only [List.getElem?_toArray, List.getElem?_cons_zero, List.getElem?_cons_succ] at hd30 hd31 hd32 hq30 hq31 hq32
          have HS3 := Lib.hid hS3
          have HR3 := Lib.hid hres3
          clear hS3 hres3
          by_cases hok : checkS s = 0
          · have HF := Lib.hid (H3.out (by rw [HLA.out]) (by rw [HLA.out]; exact hok))
            rw [HLA.out] at HF
            rw [hok]
            clear hok
            go_wp2_with fail
            refine bodyPost_ret (results_st rfl _ _ _ _ _ _ rfl ((((HR3.out.set_ 0 _).set_ 1 _).set_ 2 _))) rfl ?_
            rw [HF.out.1, HF.out.2.1, HF.out.2.2]
            have hnA : (Value.slice aA s.hs.length cA).ownBlock ≠ some w.heap.size := fun h => by have := own_ge HS3.out.2.2.1 _ h; omega
            have hnB : (Value.slice aB s.ms.length cB).ownBlock ≠ some w.heap.size := fun h => by have := own_ge HS3.out.2.2.2 _ h; omega
            exact ⟨aA, cA, aB, cB, rfl, Reads.own (own_set (own_set (own_set HS3.out.2.2.1 hnA _) hnA _) hnA _), Reads.own (own_set (own_set (own_set HS3.out.2.2.2 hnB _) hnB _) hnB _), ((hX3.out.setCell (by simp) _).setCell (by simp) _).setCell (by simp) _⟩
          · have HF := Lib.hid (H2.out (by rw [HLA.out]) (by rw [HLA.out]; exact hok))
            rw [HLA.out] at HF
            generalize hcs : checkS s = cs at *
            have hokb : (cs != 0) = true := by rw [bne_iff_ne]; exact hok
            clear hok hcs
            go_wp2_with fail
            refine bodyPost_ret (results_st rfl _ _ _ _ _ _ rfl ((((HR3.out.set_ 0 _).set_ 1 _).set_ 2 _))) rfl ?_
            rw [HF.out.1, HF.out.2.1, HF.out.2.2]
            exact ParseEnds.zero (((hX3.out.setCell (by simp) _).setCell (by simp) _).setCell (by simp) _)
        · rw [if_neg hfin] at HLA
          have HF := Lib.hid (H1.out (by rw [HLA.out]; show (k : Int) + 1 ≠ 0; omega))
          rw [HLA.out] at HF
          have hX := Lib.hid (HX1.out.trans hx)
          by_cases hk0 : k = 0
          · subst hk0
            have hl1 : (lines.length : Int) = 1 := by omega
            have hlb2 : ((0 : Int) == (lines.length : Int) - 1) = true := by rw [hl1]; rfl
            clear hfin hlb hlast
            go_wp2_with fail
            refine bodyPost_ret (results_st rfl _ _ _ _ _ _ rfl ((((HRS.out.set_ 0 _).set_ 1 _).set_ 2 _))) rfl ?_
            rw [HF.out.1, HF.out.2.1, HF.out.2.2]
            exact ParseEnds.zero (((hX.out.setCell (by simp) _).setCell (by simp) _).setCell (by simp) _)
          · have heb : (lines[k]'hlt).isEmpty = false := by
              have : ¬ (lines[k]'hlt) = [] := fun h => hfin ⟨by omega, h⟩
              simpa using this
            have hk1 : 0 < k := by omega
            clear hfin hk0
            go_wp2_with fail
            refine bodyPost_ret (results_st rfl _ _ _ _ _ _ rfl ((((HRS.out.set_ 0 _).set_ 1 _).set_ 2 _))) rfl ?_
            rw [HF.out.1, HF.out.2.1, HF.out.2.2]
            exact ParseEnds.zero (((hX.out.setCell (by simp) _).setCell (by simp) _).setCell (by simp) _)
      · have hlb : ((k : Int) == (lines.length : Int) - 1) = false := by rw [beq_eq_false_iff_ne]; omega
        have hk1 : k + 1 < lines.length := by omega
        have hll := HLL.out
        have hsl := HL.out.hs
        have hsm := HL.out.ms
        have hsz2 := hx.size
        have hkb : ((k : Int) == 0) = (k == 0) := by rw [Bool.eq_iff_iff, beq_iff_eq, beq_iff_eq]; omega
        clear hlast
        go_wp2_with fail
        refine (refRead s (lines[k]'hlt) _ rfl (k == 0) w1.heap.size w1.heap.size _ HS.out (by omega) (by omega) (by omega) (by omega)).mono ?_
        rintro e w3 ⟨ok, rfl, hb3, hy, hn⟩
        have hx3 := Lib.hid (Below.trans hx (hb3.below (Nat.le_refl _)))
        cases hst : stepLine s (k == 0) (lines[k]'hlt) with
        | some s' =>
          obtain ⟨rfl, hS3⟩ := hy s' hst
          have HL3 := Lib.hid (HL.out.ok hk1 (by omega) hst)
          have HS3 := Lib.hid hS3
          clear hy hn hst hS3 hb3
          go_wp2_with fail
          go_roundw
          case rel => exact ⟨k + 1, s', by go_num, HL3.out, HS3.out, hx3.out⟩
          case measure => simp [intOf]; omega
        | none =>
          obtain rfl := hn hst
          have HLA := Lib.hid (HL.out.bad hk1 hst)
          have HF := Lib.hid (H1.out (by rw [HLA.out]; show (k : Int) + 1 ≠ 0; omega))
          rw [HLA.out] at HF
          have hX := Lib.hid (HX1.out.trans hx3.out)
          clear hy hn hst hb3
          have hres3 := HB0.out.ext hx3.out
          have hq30 := hres3.cell 0
          have hq31 := hres3.cell 1
          have hq32 := hres3.cell 2
          have hp30 := hres3.frozen 0
          have hp31 := hres3.frozen 1
          have hp32 := hres3.frozen 2
          simp only [List.getElem?_toArray, List.getElem?_cons_zero, List.getElem?_cons_succ] at hq30 hq31 hq32
          have HR3 := Lib.hid hres3
          clear hres3
          go_wp2_with fail
          refine bodyPost_ret (results_st rfl _ _ _ _ _ _ rfl ((((HR3.out.set_ 0 _).set_ 1 _).set_ 2 _))) rfl ?_
          rw [HF.out.1, HF.out.2.1, HF.out.2.2]
          exact ParseEnds.zero (((hX.out.setCell (by simp) _).setCell (by simp) _).setCell (by simp) _)
end Go.Proofs.YteeampgbmpolfaaGreatDoor

/- The walks over the program's readers of one line. -/
namespace Go.Proofs.YteeampgbmpolfaaGreatDoor
open Go.RowKit
attribute [local go_sem] size_bs toList_bs extract_bs get_bs append_bs lit_append append_lit

theorem stReadDay (l : Bs) (w : World) (hl : l.length ≤ 1000000000) :
    Calls Tryz.prog 123 #[.string (bs l)] w fun e w' => e = .returned (.tuple #[.int .i64 (parseDV l), .bool (parseDE l == 0)]) ∧ Ext w w' := by
  go_enter Tryz.func123, Tryz.ntmps123
  go_wp2_with fail
  refine (datParse l _ hl).mono ?_
  rintro e w1 ⟨rfl, hx⟩
  go_wp2_with fail
  go_ret2
  exact ⟨rfl, hx⟩
theorem stReadNumber (l : Bs) (w : World) (hl : l.length ≤ 1000000000) :
    Calls Tryz.prog 124 #[.string (bs l)] w fun e w' => e = .returned (.tuple #[.string (bs (parseIV l)), .bool (parseIE l == 0)]) ∧ Ext w w' := by
  go_enter Tryz.func124, Tryz.ntmps124
  go_wp2_with fail
  refine (intParse l _ hl).mono ?_
  rintro e w1 ⟨rfl, hx⟩
  go_wp2_with fail
  go_ret2
  exact ⟨rfl, hx⟩

def moreB (b : Bool) : List Value := [.bool b]

set_option maxHeartbeats 4000000 in
theorem stBegin (s : St) (b : Bs) (first : Bool) (base g bb : Nat) (vA vB : Value) (w : World) (hS : StAtV w base g 81 (moreB (!first)) s vA vB) (hW : Blk w bb 9 (scells [wStatement, b]).toArray) (hbw : base ≤ w.heap.size) (hl : b.length ≤ 100000) :
    Calls Tryz.prog 89 #[.pointer (some ⟨g, 0, none⟩), .slice (some ⟨bb, 0, none⟩) 2 2] w (ReadEnds base g 81 moreB s first [wStatement, b] w) := by
  have hc1 := hW.cell 1
  simp only [scells, List.map_cons, List.map_nil, List.getElem?_toArray, List.getElem?_cons_zero, List.getElem?_cons_succ] at hc1
  have HS := Lib.hid hS
  clear hS hW
  go_enter Tryz.func89, Tryz.ntmps89
  go_wp2_with fail
  refine (stReadDay b _ (by omega)).mono ?_
  rintro e w1 ⟨rfl, hx⟩
  have hS1 := HS.out.ext hx
  have hd0 := hS1.1.cell 0
  have hd3 := hS1.1.cell 3
  have hf0 := hS1.1.frozen 0
  have hf3 := hS1.1.frozen 3
  simp only [moreB, List.getElem?_toArray, List.getElem?_cons_zero, List.getElem?_cons_succ] at hd0 hd3
  have HS1 := Lib.hid hS1
  clear hS1
  have HST : Hid (stepW s first [wStatement, b] = if first = true ∧ parseDE b = 0 then some { s with day := parseDV b } else none) := Lib.hid (by simp [stepW])
  have hFin : ∀ ok : Bool, ok = decide (first = true ∧ parseDE b = 0) → ReadEnds base g 81 moreB s first [wStatement, b] w (.returned (.bool ok)) ((w1.setCell ⟨g, 0, none⟩ (.int .i64 (parseDV b))).setCell ⟨g, 3, none⟩ (.bool true)) := fun ok hok => by
    refine ReadEnds.yes HST.out hok ?_ ?_
    · exact ((BelG.of (Below.mono hx hbw)).setCell _ _).setCell _ _
    · exact ⟨_, _, (HS1.out.set_ (by decide) (by decide) (parseDV b) _ 0 _ rfl).set_ (by decide) (by decide) (parseDV b) (moreB true) 3 _ rfl⟩
  have HF := Lib.hid hFin
  clear hFin
  generalize hdv : parseDV b = dv at *
  by_cases hde : parseDE b = 0
  · have hdb : (parseDE b == 0) = true := by rw [beq_iff_eq]; exact hde
    rw [hdb]
    have HF2 := Lib.hid (HF.out first (by simp [hde]))
    clear hdb hde HF
    cases first
    · simp only [Bool.not_false] at hd3
      go_wp2_with fail
      go_ret
      exact HF2.out
    · simp only [Bool.not_true] at hd3
      go_wp2_with fail
      go_ret
      exact HF2.out
  · have hdb : (parseDE b == 0) = false := by rw [beq_eq_false_iff_ne]; exact hde
    rw [hdb]
    have HF2 := Lib.hid (HF.out false (by simp [hde]))
    clear hdb hde HF
    go_wp2_with fail
    go_ret
    exact HF2.out

set_option maxRecDepth 100000 in
set_option maxHeartbeats 4000000 in
theorem stHold (s : St) (b c : Bs) (base g bb : Nat) (vA vB : Value) (w : World) (hS : StAtV w base g 81 (moreB true) s vA vB) (hW : Blk w bb 9 (scells [wHolding, b, c]).toArray) (hbw : base ≤ w.heap.size) (hl : c.length ≤ 100000) (hn : s.hs.length ≤ 1000000) :
    Calls Tryz.prog 90 #[.pointer (some ⟨g, 0, none⟩), .slice (some ⟨bb, 0, none⟩) 3 3] w (ReadEnds base g 81 moreB s false [wHolding, b, c] w) := by
  obtain ⟨iH, hiH, hzH0, hzH1, hzH2⟩ := info_parts holdInfo
  have HIH := Lib.hid hiH
  clear hiH
  have hc2 := hW.cell 2
  simp only [scells, List.map_cons, List.map_nil, List.getElem?_toArray, List.getElem?_cons_zero, List.getElem?_cons_succ] at hc2
  have HS := Lib.hid hS
  have HW := Lib.hid hW
  obtain ⟨aA, cA, rfl⟩ := own_len hS.2.2.1
  obtain ⟨aB, cB, rfl⟩ := own_len hS.2.2.2
  clear hS hW
  go_enter Tryz.func90, Tryz.ntmps90
  go_wp2_with fail
  refine (stReadNumber c _ (by omega)).mono ?_
  rintro e w1 ⟨rfl, hx⟩
  have hS1 := HS.out.ext hx
  have hd1 := hS1.1.cell 1
  have hd2 := hS1.1.cell 2
  have hf1 := hS1.1.frozen 1
  have hW1 := HW.out.ext hx
  have he1 := hW1.cell 1
  simp only [moreB, scells, List.map_cons, List.map_nil, List.getElem?_toArray, List.getElem?_cons_zero, List.getElem?_cons_succ] at hd1 hd2 he1
  have hgw1 := hS1.1.lt
  have HS1 := Lib.hid hS1
  have HW1 := Lib.hid hW1
  have HST : Hid (stepW s false [wHolding, b, c] = if (s.ms = [] ∧ b ≠ [] ∧ parseIE c = 0) then some { s with hs := s.hs ++ [⟨b, parseIV c⟩] } else none) := Lib.hid (by simp [stepW])
  clear hS1 hW1
  generalize hdv : parseIV c = dv at *
  have HDV := Lib.hid hdv
  clear hdv
  go_wp2_with fail
  go_region_law ((refine step_append_lies _ (by rfl) (.tmp 19) (.tmp 25) 23 (by rfl) base 45 iH _ 2 32 Tryz.underlying23 HIH.out hzH0 hzH1 hzH2 rfl (by decide) (.slice aA s.hs.length cA) s.hs.length (hcells s.hs) (by simp [Act.eval]) (HS1.out.2.2.1.drew.alloc _) ⟨w1.heap.size, 0, none⟩ 1 1 [.string (bs b), .string (bs dv)] (by simp [Act.eval]) rfl (World.news_of_block (heap_alloc_new w1.drew _)) (by simp [Value.oneCell']) (by omega) (by simp only [maxLen]; omega) (by omega) (by have := hx.size; simp; omega) _ rfl ?_); intro g' cap' w' hown hgrow hat hlt'; (have hb' := StAtV.growA ((HS1.out.ext (Ext.refl w1).drew).ext (Ext.new _ _)) (by decide) hgrow); (have hg1 := hb'.cell 1); (have hg2 := hb'.frozen 1); (have hg3 := hb'.cell 2); (have hm1 := (World.grownBy.cell_far hgrow ⟨bb, 1, none⟩ (by have := HW1.out.lt; simp; omega) (fun he => own_ne HS1.out.2.2.1 HW1.out (by decide) he.symm)).trans (((HW1.out.drew).alloc _).cell 1)); (simp only [scells, List.map_cons, List.map_nil, List.getElem?_toArray, List.getElem?_cons_zero, List.getElem?_cons_succ] at hg1 hg3 hm1); (have hbg2 := own_ne HS1.out.2.2.1 HW1.out (by decide)); (have hne := Blk.lt HW1.out); clear hb')
  all_goals
    have hbbg : ¬ bb = g := fun he => by subst he; have h1 := HW1.out; have h2 := HS1.out.1; unfold Blk at h1 h2; rw [h1] at h2; injection h2 with h2; injection h2 with _ h2; exact absurd h2 (by decide)
    have HFIN : ∀ ok : Bool, ok = decide (s.ms = [] ∧ b ≠ [] ∧ parseIE c = 0) → ReadEnds base g 81 moreB s false [wHolding, b, c] w (.returned (.bool ok)) (w'.setCell ⟨g, 1, none⟩ (.slice (some ⟨g', 0, none⟩) (s.hs.length + 1) cap')) := fun ok hok => by
      refine ReadEnds.yes HST.out hok ?_ ?_
      · exact (BelG.of (Below.grown (Below.alloc (Below.mono hx hbw).drew (by have := hx.size; simp; omega) _) hgrow (by have := hx.size; simp; omega) (own_ge HS1.out.2.2.1))).setCell _ _
      · exact StAtV.addH (x := ⟨b, dv⟩) ((HS1.out.ext (Ext.refl w1).drew).ext (Ext.new _ _)) (by decide) (by decide) hgrow hown
    have HF := Lib.hid HFIN
    clear HFIN hown hgrow hat
    by_cases h1 : parseIE c = 0
    · have h1b : (parseIE c == 0) = true := by rw [beq_iff_eq]; exact h1
      by_cases h2 : b = []
      · have h2b : b.isEmpty = true := by simp [h2]
        have HF2 := Lib.hid (HF.out false (by simp [h2]))
        clear h1 h2 HF
        rw [h1b]
        clear h1b
        go_wp2_with fail
        go_ret
        exact HF2.out
      · have h2b : b.isEmpty = false := by simpa using h2
        have HF2 := Lib.hid (HF.out (decide (s.ms = [])) (by simp [h1, h2]))
        clear h1 h2 HF
        by_cases hms : s.ms = []
        · have hm0 : s.ms.length = 0 := by rw [hms]; rfl
          have HF3 := Lib.hid (by have := HF2.out; rw [decide_eq_true hms] at this; exact this)
          have hmb : ((s.ms.length : Int) == 0) = true := by rw [hm0]; rfl
          clear hms HF2
          rw [h1b]
          clear h1b
          go_wp2_with fail
          go_ret
          exact HF3.out
        · have hm0 : 0 < s.ms.length := List.length_pos_iff.2 hms
          have hmb : ((s.ms.length : Int) == 0) = false := by rw [beq_eq_false_iff_ne]; omega
          have HF3 := Lib.hid (by have := HF2.out; rw [decide_eq_false hms] at this; exact this)
          clear hms HF2
          rw [h1b]
          clear h1b
          go_wp2_with fail
          go_ret
          exact HF3.out
    · have h1b : (parseIE c == 0) = false := by rw [beq_eq_false_iff_ne]; exact h1
      have HF2 := Lib.hid (HF.out false (by simp [h1]))
      clear h1 HF
      rw [h1b]
      clear h1b
      go_wp2_with fail
      go_ret
      exact HF2.out
end Go.Proofs.YteeampgbmpolfaaGreatDoor

/- The map of the commands. -/
namespace Go.Proofs.YteeampgbmpolfaaGreatDoor
open Go.RowKit

theorem run_ins {P : Program} {w : World} (mty kt et : TypeId) (r clock : Nat) (es : Array MapEntry) (s : ByteArray) (val : Value) (hm : P.underlying mty = some (.map kt et)) (hk : P.underlying kt = some .string) (hb : w.heap[r]? = some (.map es clock))
    (hf : Instr.findNow .string (.string s) es.toList 0 = some none) :
    (Instr.mapUpdate mty (.map (some r)) (.string s) val).run P w = .ok () (w.putObj r (.map (es.push { key := .string s, val := val, born := clock }) (clock + 1))) := by
  have hc : (Instr.checkKey false 10000 kt (.string s)).run P w = .ok () w := MapKept.run_checkKey (k := .string s) hk (by simp [MapKept.IsKey]) false 9999
  simp [Instr.mapUpdate, run_underlying hm, MapKept.run_getObj_map hb, hc, MapKept.run_findKey hk hf, MapKept.run_setObj_map _ hb, Result.andThen, World.putObj]
theorem run_look {P : Program} {w : World} (mty kt et : TypeId) (r clock : Nat) (es : Array MapEntry) (s : ByteArray) (i : Nat) (val : Value) (hm : P.underlying mty = some (.map kt et)) (hk : P.underlying kt = some .string) (hb : w.heap[r]? = some (.map es clock))
    (hf : Instr.findNow .string (.string s) es.toList 0 = some (some (i, val))) :
    (Instr.lookup mty (.map (some r)) (.string s) true).run P w = .ok (.tuple #[val, .bool true]) w := by
  have hc : (Instr.checkKey es.isEmpty 10000 kt (.string s)).run P w = .ok () w := MapKept.run_checkKey (k := .string s) hk (by simp [MapKept.IsKey]) es.isEmpty 9999
  simp [Instr.lookup, run_underlying hm, MapKept.run_getObj_map hb, hc, MapKept.run_findKey hk hf, Result.andThen]
theorem run_look_no {P : Program} {w : World} (mty kt et : TypeId) (r clock : Nat) (es : Array MapEntry) (s : ByteArray) (z : Value) (hm : P.underlying mty = some (.map kt et)) (hk : P.underlying kt = some .string) (hb : w.heap[r]? = some (.map es clock))
    (hf : Instr.findNow .string (.string s) es.toList 0 = some none) (hz : (zeroValue et).run P w = .ok z w) :
    (Instr.lookup mty (.map (some r)) (.string s) true).run P w = .ok (.tuple #[z, .bool false]) w := by
  have hc : (Instr.checkKey es.isEmpty 10000 kt (.string s)).run P w = .ok () w := MapKept.run_checkKey (k := .string s) hk (by simp [MapKept.IsKey]) es.isEmpty 9999
  simp [Instr.lookup, run_underlying hm, MapKept.run_getObj_map hb, hc, MapKept.run_findKey hk hf, hz, Result.andThen]
theorem zCommand (w : World) : (zeroValue 127).run Tryz.prog w = .ok (.agg #[.int .i64 0, .nilFunc]) w := by
  kernel_rfl
def kSt : ByteArray := { data := #[115, 116, 97, 116, 101, 109, 101, 110, 116] }
def kHo : ByteArray := { data := #[104, 111, 108, 100, 105, 110, 103] }
def kMo : ByteArray := { data := #[109, 111, 118, 101, 109, 101, 110, 116] }
def vSt : Value := .agg #[.int .i64 2, .func (.func 89) #[] #[]]
def vHo : Value := .agg #[.int .i64 3, .func (.func 90) #[] #[]]
def vMo : Value := .agg #[.int .i64 6, .func (.func 91) #[] #[]]
def cmds : Array MapEntry := #[⟨.string kSt, vSt, 0⟩, ⟨.string kHo, vHo, 1⟩, ⟨.string kMo, vMo, 2⟩]
theorem Ext.putObj {a b : World} (h : Ext a b) {r : Nat} (hr : a.heap.size ≤ r) (o : Obj) : Ext a (b.putObj r o) :=
  ⟨h.os, h.tape, h.output, by have := h.size; simpa using this, fun i hi => (World.putObj_heap_other (by omega)).trans (h.block i hi)⟩
theorem cmdMap (w : World) : ∃ W1 W2 W3, (Instr.mapUpdate 128 (.map (some w.heap.size)) (.string kSt) vSt).run Tryz.prog (w.alloc (.map #[] 0)) = .ok () W1 ∧ (Instr.mapUpdate 128 (.map (some w.heap.size)) (.string kHo) vHo).run Tryz.prog W1 = .ok () W2 ∧
    (Instr.mapUpdate 128 (.map (some w.heap.size)) (.string kMo) vMo).run Tryz.prog W2 = .ok () W3 ∧ W3.heap[w.heap.size]? = some (.map cmds 3) ∧ Ext w W3 ∧ W3.heap.size = w.heap.size + 1 := by
  have h0 : (w.alloc (.map #[] 0)).heap[w.heap.size]? = some (.map #[] 0) := heap_alloc_new w _
  have r1 := run_ins (P := Tryz.prog) _ _ _ _ 0 #[] kSt vSt Tryz.underlying128 Tryz.underlying9 h0 (by rfl)
  have hs1 : w.heap.size < (w.alloc (.map #[] 0)).heap.size := by simp
  have h1 := World.putObj_heap_same (o := .map (#[].push { key := .string kSt, val := vSt, born := 0 }) (0 + 1)) hs1
  have r2 := run_ins (P := Tryz.prog) _ _ _ _ _ _ kHo vHo Tryz.underlying128 Tryz.underlying9 h1 (by rfl)
  have hs2 : w.heap.size < ((w.alloc (.map #[] 0)).putObj w.heap.size (.map (#[].push { key := .string kSt, val := vSt, born := 0 }) (0 + 1))).heap.size := by simp
  have h2 := World.putObj_heap_same (o := .map ((#[].push { key := .string kSt, val := vSt, born := 0 }).push { key := .string kHo, val := vHo, born := 1 }) (0 + 1 + 1)) hs2
  have r3 := run_ins (P := Tryz.prog) _ _ _ _ _ _ kMo vMo Tryz.underlying128 Tryz.underlying9 h2 (by rfl)
  refine ⟨_, _, _, r1, r2, r3, ?_, (((Ext.new w _).putObj (Nat.le_refl _) _).putObj (Nat.le_refl _) _).putObj (Nat.le_refl _) _, by simp⟩
  rw [World.putObj_heap_same (by simp)]
  rfl
theorem cmdFind (a : Bs) : Instr.findNow .string (.string (bs a)) cmds.toList 0 = if a = wStatement then some (some (0, vSt)) else if a = wHolding then some (some (1, vHo)) else if a = wMovement then some (some (2, vMo)) else some none := by
  have hb : ∀ (l : Bs), ((bs a : ByteArray) == bs l) = decide (a = l) := fun l => by
    rw [Bool.eq_iff_iff, MapKept.bytes_beq, decide_eq_true_iff]
    constructor
    · intro h; have := congrArg (fun b => b.data.toList) h; simpa [bs] using this
    · intro h; rw [h]
  have e1 : kSt = bs wStatement := rfl
  have e2 : kHo = bs wHolding := rfl
  have e3 : kMo = bs wMovement := rfl
  simp only [cmds, Instr.findNow, Instr.sameNow, e1, e2, e3, hb]
  by_cases h1 : a = wStatement
  · simp [h1]
  · by_cases h2 : a = wHolding
    · simp [h2, show ¬ wHolding = wStatement by decide]
    · by_cases h3 : a = wMovement
      · simp [h3, show ¬ wMovement = wStatement by decide, show ¬ wMovement = wHolding by decide]
      · simp [h1, h2, h3]
end Go.Proofs.YteeampgbmpolfaaGreatDoor
