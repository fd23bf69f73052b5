/- A range over a function whose iterator keeps its state in cells of its own (a captured variable): one round as a step of the iterator's walk, and the statement. -/
import Derived.RangeFuncNested
import Derived.RangeFuncBound
import Derived.RangeFuncCalls
import Derived.RangeFuncLeaves
import Derived.Shelf.Abstract
import Derived.Shelf.RegionOpen
import Derived.OwnWalkIn
import Derived.TacticsInMore
import Derived.LoopNIn
import Derived.LoopIn
import Derived.Test.YteeampgbmpolfaaGreatDoorMem2
namespace Go.Proofs.YteeampgbmpolfaaGreatDoor
open Go Go.RowKit Go.Shelf

section
variable {F : Fence} {n m : Nat} {P : Program}

/-- how a round of the loop with the record 'rec' in block l may be left: off its end, or by 'return' -/
def roundEnds (l : Nat) (rec : Loop) (R : Ending → World → Prop) : Exit → Act → World → Prop
  | .normal, _, W => W.heap[l]? = some (.loop { rec with state := .busy }) ∧ R (.returned (.bool true)) (W.putObj l (.loop { rec with state := .ready, pending := none }))
  | .ret, _, W => W.heap[l]? = some (.loop { rec with state := .busy }) ∧ R (.returned (.bool false)) (W.putObj l (.loop { rec with state := .done, pending := some .ret }))
  | .exit _, _, _ => False
  | .goto _, _, _ => False
  | .panic _, _, _ => False
  | .outgrown, _, _ => False

/-- ONE ROUND, as the iterator's walk meets it at its call of yield -/
theorem yield_round {l : Nat} {rec : Loop} {args : Array Value} {W : World} {R : Ending → World → Prop} (hl : W.heap[l]? = some (.loop rec)) (hs : rec.state = .ready) (hps : args.size = rec.params.size) (hfn : F.fn rec.fn)
    (h : rec.assign.wpIn (F.inRound l) m P (Exit.then (fun a1 Wa => Wa.heap[l]? = some (.loop rec) ∧ rec.body.wpIn (F.inRound l) m P (roundEnds l rec R) a1 (Wa.putObj l (.loop { rec with state := .busy }))) (fun _ _ _ => False))
      { tmps := (rec.params.zip args).foldl (fun tmps (t, a) => tmps.setIfInBounds t a) rec.tmps, defers := [] } W) :
    YieldAt F m P l args W R := by
  refine ⟨_, _, _, _, run_yield hl hps, roundIn_of_wpIn hfn (wpIn_mono h ?_)⟩
  intro e a1 Wa hp
  cases e with
  | normal =>
    obtain ⟨hla, hb⟩ := hp
    refine ⟨_, run_beginRound hla hs, wpIn_mono hb ?_⟩
    intro e a2 W2 hq
    cases e with
    | normal =>
      obtain ⟨h2, hR⟩ := hq
      exact ⟨_, _, run_endRound none h2, hR⟩
    | ret =>
      obtain ⟨h2, hR⟩ := hq
      exact ⟨_, _, run_endRound (some .ret) h2, hR⟩
    | exit id => exact hq.elim
    | goto t => exact hq.elim
    | panic c => exact hq.elim
    | outgrown => exact hq.elim
  | ret => exact hp.elim
  | exit id => exact hp.elim
  | goto t => exact hp.elim
  | panic c => exact hp.elim
  | outgrown => exact hp.elim

/-- the same, the record's parts as letters -/
theorem yield_round' {l : Nat} {rec : Loop} {args : Array Value} {W : World} {R : Ending → World → Prop} (hl : W.heap[l]? = some (.loop rec)) (hs : rec.state = .ready) (hps : args.size = rec.params.size) (hfn : F.fn rec.fn)
    {assign body : Code} {tmps tmps0 : Array Value} {ps : Array Tmp} (ha : rec.assign = assign) (hb : rec.body = body) (hp : rec.params = ps) (ht0 : rec.tmps = tmps0) (ht : (ps.zip args).foldl (fun tmps (t, a) => tmps.setIfInBounds t a) tmps0 = tmps) {rb : Loop} (hrb : { rec with state := .busy } = rb)
    (h : assign.wpIn (F.inRound l) m P (Exit.then (fun a1 Wa => Wa.heap[l]? = some (.loop rec) ∧ body.wpIn (F.inRound l) m P (roundEnds l rec R) a1 (Wa.putObj l (.loop rb))) (fun _ _ _ => False)) { tmps, defers := [] } W) :
    YieldAt F m P l args W R := by
  subst ha; subst hb; subst hp; subst ht0; subst ht; subst hrb
  exact yield_round hl hs hps hfn h

/-- the record that the statement lays -/
def recOf (fn : FuncId) (a : Act) (ps : Array Tmp) (assign body : Code) (D : Nat) : Loop := { state := .ready, pending := none, fn, tmps := a.tmps, params := ps, assign, body, defers := D }

/-- THE STATEMENT: what is owed is the iterator's call, with the record laid; it ends with the record ready (all have come) or done (a round has returned). -/
theorem range_outer {g : Operand} {ps : Array Tmp} {assign body : Code} {Q : Exit → Act → World → Prop} {a : Act} {w : World} (hro : F.round = none) (h1 : 1 ≤ n) {gf : Nat} {lb : Array Value}
    (hg : a.eval g = .func (.func gf) #[] lb) (hFg : F.fn gf) (eg : ∀ args w, (callFunc gf args).run P w = .ok (.enter gf args) w)
    (h : ∀ fn, F.fn fn → CallsIn F (n - 1) P gf (#[.func (.yield (w.heap.size + 1)) #[] #[]] ++ lb) ((w.alloc (.deferred (some []))).alloc (.loop (recOf fn a ps assign body w.heap.size)))
      (fun e W => (∃ v, e = .returned v) ∧
        ((W.heap[w.heap.size + 1]? = some (.loop (recOf fn a ps assign body w.heap.size)) ∧ Q .normal { a with defers := { target := .collected w.heap.size, args := #[] } :: a.defers } (W.putObj (w.heap.size + 1) (.loop { recOf fn a ps assign body w.heap.size with state := .exhausted }))) ∨
         (W.heap[w.heap.size + 1]? = some (.loop { recOf fn a ps assign body w.heap.size with state := .done, pending := some .ret }) ∧ Code.ret.wpIn F n P Q { a with defers := { target := .collected w.heap.size, args := #[] } :: a.defers } (W.putObj (w.heap.size + 1) (.loop { recOf fn a ps assign body w.heap.size with state := .exhausted, pending := some .ret })))))) :
    (Code.rangeFunc g ps assign body).wpIn F n P Q a w := by
  refine wpIn_rangeFunc ?_
  intro fn hfn
  rw [hro]
  obtain ⟨W1, hW1⟩ : ∃ W1, (w.alloc (.deferred (some []))).alloc (.loop (recOf fn a ps assign body w.heap.size)) = W1 := ⟨_, rfl⟩
  refine ⟨w.heap.size + 1, [{ target := .collected w.heap.size, args := #[] }], W1, { target := .fn (.func gf) lb, args := #[.func (.yield (w.heap.size + 1)) #[] #[]] }, W1, gf,
    #[.func (.yield (w.heap.size + 1)) #[] #[]] ++ lb, W1, ?_, ?_, ?_, ?_, fun _ => h1, ?_⟩
  · rw [← hW1]; exact run_enterLoop_outer _ _ _ _ _
  · simp only [resolve, hg]
    simp [go_sem]
  · intro f' hf'; simp [Target.leads] at hf'; subst hf'; exact hFg
  · simp [invoke, go_sem, eg]
  · rw [← hW1]
    refine (h fn hfn).mono ?_
    rintro e W ⟨⟨v, rfl⟩, (⟨hl, hq⟩ | ⟨hl, hq⟩)⟩
    · exact ⟨none, _, run_endLoop hl (by simp [recOf]), hq⟩
    · exact ⟨some .ret, _, run_endLoop hl (by simp), hq⟩

/-- the same, the record, its block and the world as letters -/
theorem range_outer' {g : Operand} {ps : Array Tmp} {assign body : Code} {Q : Exit → Act → World → Prop} {a : Act} {w : World} (hro : F.round = none) (h1 : 1 ≤ n) {gf : Nat} {lb : Array Value} (D : Nat) (hD : w.heap.size = D)
    (hg : a.eval g = .func (.func gf) #[] lb) (hFg : F.fn gf) (eg : ∀ args w, (callFunc gf args).run P w = .ok (.enter gf args) w)
    (h : ∀ fn rec W1, rec = recOf fn a ps assign body D → W1 = (w.alloc (.deferred (some []))).alloc (.loop rec) → F.fn fn → CallsIn F (n - 1) P gf (#[.func (.yield (D + 1)) #[] #[]] ++ lb) W1
      (fun e W => (∃ v, e = .returned v) ∧
        ((W.heap[D + 1]? = some (.loop rec) ∧ Q .normal { a with defers := { target := .collected D, args := #[] } :: a.defers } (W.putObj (D + 1) (.loop { rec with state := .exhausted }))) ∨
         (W.heap[D + 1]? = some (.loop { rec with state := .done, pending := some .ret }) ∧ Code.ret.wpIn F n P Q { a with defers := { target := .collected D, args := #[] } :: a.defers } (W.putObj (D + 1) (.loop { rec with state := .exhausted, pending := some .ret })))))) :
    (Code.rangeFunc g ps assign body).wpIn F n P Q a w := by
  subst hD
  exact range_outer hro h1 hg hFg eg (fun fn hfn => h fn _ _ rfl rfl hfn)
end
end Go.Proofs.YteeampgbmpolfaaGreatDoor
