/- The seat's texts, part 6. -/
import Derived.Test.YthgpheopnhajaaaGreatDoorV5
import Derived.RangeFuncNested
import Derived.RangeFuncBound
import Derived.RangeFuncCalls
import Derived.RangeFuncLeaves
import Derived.Shelf.Abstract
import Derived.Shelf.RegionOpen
import Derived.OwnWalkIn
import Derived.TacticsInMore
import Derived.LoopNIn
import Derived.LoopIn
import Derived.RangeFuncRecord
import Derived.RangeFuncStops
import Derived.Deep.RegionHeld3
import Derived.Laws.EntriesVeiled
import Derived.BigQuiet
import Derived.Maps.AppendAt
import Derived.Deep.AppendLies
import Derived.RegionTactic
import Derived.OwnWalk

/- Contracts of functions that only compute ('Pure'): on texts they return a value, and leave all that lay there as it was. The program's integers in this form. -/
namespace Go.Proofs.YthgpheopnhajaaaGreatDoor
open Go.RowKit
attribute [local go_sem] size_bs toList_bs
abbrev Pure (f : FuncId) (args : Array Value) (v : Value) : Prop := ∀ W, Env W → Calls Tryz.prog f args W fun e w' => e = .returned v ∧ Ext W w'
theorem addP (a b : Bs) (ha : a.length ≤ 100000) (hb : b.length ≤ 100000) : Pure 21 #[.string (bs a), .string (bs b)] (.string (bs (ofI (valI a + valI b)))) := fun W h => intAddS a b W ha hb h
theorem subP (a b : Bs) (ha : a.length ≤ 100000) (hb : b.length ≤ 100000) : Pure 27 #[.string (bs a), .string (bs b)] (.string (bs (ofI (valI a - valI b)))) := fun W h => intSub a b W ha hb h
theorem mulP (a b : Bs) (ha : a.length ≤ 100000) (hb : b.length ≤ 100000) : Pure 160 #[.string (bs a), .string (bs b)] (.string (bs (ofI (valI a * valI b)))) := fun W h => intMul a b W ha hb h
theorem negP (a : Bs) (ha : a.length ≤ 100000) : Pure 222 #[.string (bs a)] (.string (bs (ofI (-(valI a))))) := fun W h => intNeg a W ha h
theorem cmpP (a b : Bs) (ha : a.length ≤ 100000) (hb : b.length ≤ 100000) : Pure 20 #[.string (bs a), .string (bs b)] (.int .i64 (cmpI (valI a) (valI b))) := fun W _ => intCmp a b W ha hb
theorem valI_nil : valI [] = 0 := by decide
theorem cmp0P (a : Bs) (ha : a.length ≤ 100000) : Pure 20 #[.string (bs a), .string ⟨#[]⟩] (.int .i64 (cmpI (valI a) 0)) := by
  have := cmpP a [] ha (by simp)
  rw [valI_nil] at this; exact this
theorem natOf_abs (l : Bs) : natOf (mag l) = (valI l).natAbs := by unfold valI; split <;> omega
theorem divP (a b : Bs) (ha : a.length ≤ 100000) (hb : b.length ≤ 100000) (h : valI b ≠ 0) : Pure 144 #[.string (bs a), .string (bs b)] (.tuple #[.string (bs (ofI (divF (valI a) (valI b)))), .string (bs (ofI (modF (valI a) (valI b)))), .int .i64 0]) := fun W hE => intDiv_some a b W ha hb (by rw [natOf_abs]; omega) hE
theorem checkP (a : Bs) (ha : a.length ≤ 100000) : Pure 72 #[.string (bs a)] (.int .i64 (checkI a)) := fun W _ => intCheck a W (by omega)
theorem divF_pos {x y : Int} (h : 0 < y) : divF x y = x / y := by unfold divF; rw [if_neg (by omega)]
theorem modF_pos {x y : Int} (h : 0 < y) : modF x y = x % y := by unfold modF; rw [divF_pos h, Int.emod_def]
theorem ofI_nil {z : Int} : ofI z = [] ↔ z = 0 := by
  constructor
  · intro h; rw [← valI_ofI z, h, valI_nil]
  · rintro rfl; unfold ofI; simp [dig10_zero]
theorem ofI_inj {a b : Int} (h : ofI a = ofI b) : a = b := by rw [← valI_ofI a, h, valI_ofI]
theorem ofI_one : ofI 1 = [49] := by decide +kernel
theorem valI_one : valI [49] = 1 := by decide +kernel
/-- canonical: it is the text of its value -/
theorem checkI_ok {l : Bs} : checkI l = 0 ↔ ofI (valI l) = l := by
  unfold checkI; rw [canon_ofI]; split
  · simp [*]
  · simp [*]
end Go.Proofs.YthgpheopnhajaaaGreatDoor

/- A range over a function whose iterator keeps its state in cells of its own (a captured variable): one round as a step of the iterator's walk, and the statement. -/
namespace Go.Proofs.YthgpheopnhajaaaGreatDoor
open Go Go.RowKit Go.Shelf
section
variable {F : Fence} {n m : Nat} {P : Program}
/-- how a round of the loop with the record 'rec' in block l may be left: off its end, or by 'return' -/
def roundEnds (l : Nat) (rec : Loop) (R : Ending → World → Prop) : Exit → Act → World → Prop
  | .normal, _, W => W.heap[l]? = some (.loop { rec with state := .busy }) ∧ R (.returned (.bool true)) (W.putObj l (.loop { rec with state := .ready, pending := none }))
  | .ret, _, W => W.heap[l]? = some (.loop { rec with state := .busy }) ∧ R (.returned (.bool false)) (W.putObj l (.loop { rec with state := .done, pending := some .ret }))
  | .exit _, _, _ => False
  | .goto _, _, _ => False
  | .panic _, _, _ => False
  | .outgrown, _, _ => False

/-- ONE ROUND, as the iterator's walk meets it at its call of yield -/
theorem yield_round {l : Nat} {rec : Loop} {args : Array Value} {W : World} {R : Ending → World → Prop} (hl : W.heap[l]? = some (.loop rec)) (hs : rec.state = .ready) (hps : args.size = rec.params.size) (hfn : F.fn rec.fn)
    (h : rec.assign.wpIn (F.inRound l) m P (Exit.then (fun a1 Wa => Wa.heap[l]? = some (.loop rec) ∧ rec.body.wpIn (F.inRound l) m P (roundEnds l rec R) a1 (Wa.putObj l (.loop { rec with state := .busy }))) (fun _ _ _ => False))
      { tmps := (rec.params.zip args).foldl (fun tmps (t, a) => tmps.setIfInBounds t a) rec.tmps, defers := [] } W) :
    YieldAt F m P l args W R := by
  refine ⟨_, _, _, _, run_yield hl hps, roundIn_of_wpIn hfn (wpIn_mono h ?_)⟩
  intro e a1 Wa hp
  cases e with
  | normal =>
    obtain ⟨hla, hb⟩ := hp
    refine ⟨_, run_beginRound hla hs, wpIn_mono hb ?_⟩
    intro e a2 W2 hq
    cases e with
    | normal =>
      obtain ⟨h2, hR⟩ := hq
      exact ⟨_, _, run_endRound none h2, hR⟩
    | ret =>
      obtain ⟨h2, hR⟩ := hq
      exact ⟨_, _, run_endRound (some .ret) h2, hR⟩
    | exit id => exact hq.elim
    | goto t => exact hq.elim
    | panic c => exact hq.elim
    | outgrown => exact hq.elim
  | ret => exact hp.elim
  | exit id => exact hp.elim
  | goto t => exact hp.elim
  | panic c => exact hp.elim
  | outgrown => exact hp.elim

/-- the same, the record's parts as letters -/
theorem yield_round' {l : Nat} {rec : Loop} {args : Array Value} {W : World} {R : Ending → World → Prop} (hl : W.heap[l]? = some (.loop rec)) (hs : rec.state = .ready) (hps : args.size = rec.params.size) (hfn : F.fn rec.fn)
    {assign body : Code} {tmps tmps0 : Array Value} {ps : Array Tmp} (ha : rec.assign = assign) (hb : rec.body = body) (hp : rec.params = ps) (ht0 : rec.tmps = tmps0) (ht : (ps.zip args).foldl (fun tmps (t, a) => tmps.setIfInBounds t a) tmps0 = tmps) {rb : Loop} (hrb : { rec with state := .busy } = rb)
    (h : assign.wpIn (F.inRound l) m P (Exit.then (fun a1 Wa => Wa.heap[l]? = some (.loop rec) ∧ body.wpIn (F.inRound l) m P (roundEnds l rec R) a1 (Wa.putObj l (.loop rb))) (fun _ _ _ => False)) { tmps, defers := [] } W) :
    YieldAt F m P l args W R := by
  subst ha; subst hb; subst hp; subst ht0; subst ht; subst hrb
  exact yield_round hl hs hps hfn h

/-- the record that the statement lays -/
def recOf (fn : FuncId) (a : Act) (ps : Array Tmp) (assign body : Code) (D : Nat) : Loop := { state := .ready, pending := none, fn, tmps := a.tmps, params := ps, assign, body, defers := D }

/-- THE STATEMENT: what is owed is the iterator's call, with the record laid; it ends with the record ready (all have come) or done (a round has returned). -/
theorem range_outer {g : Operand} {ps : Array Tmp} {assign body : Code} {Q : Exit → Act → World → Prop} {a : Act} {w : World} (hro : F.round = none) (h1 : 1 ≤ n) {gf : Nat} {lb : Array Value}
    (hg : a.eval g = .func (.func gf) #[] lb) (hFg : F.fn gf) (eg : ∀ args w, (callFunc gf args).run P w = .ok (.enter gf args) w)
    (h : ∀ fn, F.fn fn → CallsIn F (n - 1) P gf (#[.func (.yield (w.heap.size + 1)) #[] #[]] ++ lb) ((w.alloc (.deferred (some []))).alloc (.loop (recOf fn a ps assign body w.heap.size)))
      (fun e W => (∃ v, e = .returned v) ∧
        ((W.heap[w.heap.size + 1]? = some (.loop (recOf fn a ps assign body w.heap.size)) ∧ Q .normal { a with defers := { target := .collected w.heap.size, args := #[] } :: a.defers } (W.putObj (w.heap.size + 1) (.loop { recOf fn a ps assign body w.heap.size with state := .exhausted }))) ∨
         (W.heap[w.heap.size + 1]? = some (.loop { recOf fn a ps assign body w.heap.size with state := .done, pending := some .ret }) ∧ Code.ret.wpIn F n P Q { a with defers := { target := .collected w.heap.size, args := #[] } :: a.defers } (W.putObj (w.heap.size + 1) (.loop { recOf fn a ps assign body w.heap.size with state := .exhausted, pending := some .ret })))))) :
    (Code.rangeFunc g ps assign body).wpIn F n P Q a w := by
  refine wpIn_rangeFunc ?_
  intro fn hfn
  rw [hro]
  obtain ⟨W1, hW1⟩ : ∃ W1, (w.alloc (.deferred (some []))).alloc (.loop (recOf fn a ps assign body w.heap.size)) = W1 := ⟨_, rfl⟩
  refine ⟨w.heap.size + 1, [{ target := .collected w.heap.size, args := #[] }], W1, { target := .fn (.func gf) lb, args := #[.func (.yield (w.heap.size + 1)) #[] #[]] }, W1, gf,
    #[.func (.yield (w.heap.size + 1)) #[] #[]] ++ lb, W1, ?_, ?_, ?_, ?_, fun _ => h1, ?_⟩
  · rw [← hW1]; exact run_enterLoop_outer _ _ _ _ _
  · simp only [resolve, hg]
    simp [go_sem]
  · intro f' hf'; simp [Target.leads] at hf'; subst hf'; exact hFg
  · simp [invoke, go_sem, eg]
  · rw [← hW1]
    refine (h fn hfn).mono ?_
    rintro e W ⟨⟨v, rfl⟩, (⟨hl, hq⟩ | ⟨hl, hq⟩)⟩
    · exact ⟨none, _, run_endLoop hl (by simp [recOf]), hq⟩
    · exact ⟨some .ret, _, run_endLoop hl (by simp), hq⟩

/-- the same, the record, its block and the world as letters -/
theorem range_outer' {g : Operand} {ps : Array Tmp} {assign body : Code} {Q : Exit → Act → World → Prop} {a : Act} {w : World} (hro : F.round = none) (h1 : 1 ≤ n) {gf : Nat} {lb : Array Value} (D : Nat) (hD : w.heap.size = D)
    (hg : a.eval g = .func (.func gf) #[] lb) (hFg : F.fn gf) (eg : ∀ args w, (callFunc gf args).run P w = .ok (.enter gf args) w)
    (h : ∀ fn rec W1, rec = recOf fn a ps assign body D → W1 = (w.alloc (.deferred (some []))).alloc (.loop rec) → F.fn fn → CallsIn F (n - 1) P gf (#[.func (.yield (D + 1)) #[] #[]] ++ lb) W1
      (fun e W => (∃ v, e = .returned v) ∧
        ((W.heap[D + 1]? = some (.loop rec) ∧ Q .normal { a with defers := { target := .collected D, args := #[] } :: a.defers } (W.putObj (D + 1) (.loop { rec with state := .exhausted }))) ∨
         (W.heap[D + 1]? = some (.loop { rec with state := .done, pending := some .ret }) ∧ Code.ret.wpIn F n P Q { a with defers := { target := .collected D, args := #[] } :: a.defers } (W.putObj (D + 1) (.loop { rec with state := .exhausted, pending := some .ret })))))) :
    (Code.rangeFunc g ps assign body).wpIn F n P Q a w := by
  subst hD
  exact range_outer hro h1 hg hFg eg (fun fn hfn => h fn _ _ rfl rfl hfn)
end
end Go.Proofs.YthgpheopnhajaaaGreatDoor

/- A range over a function: small laws on the blocks that it lays. -/
namespace Go.Proofs.YthgpheopnhajaaaGreatDoor
open Go.RowKit
theorem Ext.putObj {a b : World} (h : Ext a b) {r : Nat} (hr : a.heap.size ≤ r) (o : Obj) : Ext a (b.putObj r o) :=
  ⟨h.os, h.tape, h.output, by have := h.size; simpa using this, fun i hi => (World.putObj_heap_other (by omega)).trans (h.block i hi)⟩
theorem Blk.put {w : World} {g : Nat} {t : TypeId} {cs : Array Value} {l : Nat} (h : Blk w g t cs) (o : Obj) (hne : g ≠ l) : Blk (w.putObj l o) g t cs := (World.putObj_heap_other (by omega)).trans h
theorem Blk.newAt (w : World) (t : TypeId) (cs : Array Value) (g : Nat) (hg : w.heap.size = g) : Blk (w.alloc (.cells cs t)) g t cs := by subst hg; exact Blk.new w t cs
theorem newAt (w : World) (o : Obj) (g : Nat) (hg : w.heap.size = g) : (w.alloc o).heap[g]? = some o := by subst hg; exact heap_alloc_new w o
theorem oldAt {w : World} {o o' : Obj} {g : Nat} (h : w.heap[g]? = some o) : (w.alloc o').heap[g]? = some o := (Below.heap_alloc w o' g (Array.getElem?_eq_some_iff.1 h).1).trans h
theorem dfar {W : World} {d g i : Nat} {o : Obj} {u : Value} (h : W.heap[d]? = some o) (hne : d ≠ g) : (W.setCell ⟨g, i, none⟩ u).heap[d]? = some o := (Below.heap_setCell W ⟨g, i, none⟩ u d hne).trans h
theorem drew_heap {W : World} {d : Nat} {o : Obj} (h : W.heap[d]? = some o) : W.drew.heap[d]? = some o := h
theorem ext_heap {W W' : World} {d : Nat} {o : Obj} (h : W.heap[d]? = some o) (hx : Ext W W') : W'.heap[d]? = some o := (hx.block d (Array.getElem?_eq_some_iff.1 h).1).trans h
theorem put_heap {W : World} {d l : Nat} {o o' : Obj} (h : W.heap[d]? = some o) (hne : d ≠ l) : (W.putObj l o').heap[d]? = some o := (World.putObj_heap_other (by omega)).trans h
theorem zip1 (p : Tmp) (x : Value) (T : Array Value) : ((#[p] : Array Tmp).zip #[x]).foldl (fun tmps (t, a) => tmps.setIfInBounds t a) T = T.setIfInBounds p x := by simp [Array.zip]
theorem zip2 (p q : Tmp) (x y : Value) (T : Array Value) : ((#[p, q] : Array Tmp).zip #[x, y]).foldl (fun tmps (t, a) => tmps.setIfInBounds t a) T = (T.setIfInBounds p x).setIfInBounds q y := by simp [Array.zip]
theorem Reads.put {w : World} {size n : Nat} {A : Option Addr} {xs : List Value} (h : Reads w size A n xs) {l : Nat} {o : Obj} (hl : w.heap[l]? = some o) (ho : ∀ cs t z, o ≠ .cells cs t z) (h0 : 0 < xs.length) (o' : Obj) : Reads (w.putObj l o') size A n xs := by
  refine ⟨h.1, fun hn => ?_⟩
  obtain ⟨b, off, rfl, hb, hc⟩ := h.2 hn
  have hne : b ≠ l := by
    rintro rfl
    have h1 := hc 0 (xs[0]'h0) (List.getElem?_eq_getElem h0)
    unfold World.cell? at h1
    simp only [hl] at h1
    cases o <;> simp_all
  refine ⟨b, off, rfl, by simpa using hb, fun j u hu => ?_⟩
  rw [← hc j u hu]
  unfold World.cell?
  rw [World.putObj_heap_other (by simpa using hne)]
end Go.Proofs.YthgpheopnhajaaaGreatDoor

/- The walks over the program's steps of Euclid's algorithm, and Gcd. -/
namespace Go.Proofs.YthgpheopnhajaaaGreatDoor
open Go.RowKit Go.Shelf
attribute [local go_sem] size_bs toList_bs Oper.semAt_some
/-- a variable that holds a magnitude -/
def MagAt (W : World) (g x : Nat) : Prop := ∃ A c, Blk W g 122 #[.slice A (gr x).length c] ∧ RdU W A (gr x) ∧ (gr x).length ≤ c ∧ c ≤ maxLen
theorem RdU.slot {w : World} {A : Option Addr} {gs : List Nat} (h : RdU w A gs) {g : Nat} {t : TypeId} {B : Option Addr} {n c : Nat} (hb : Blk w g t #[.slice B n c]) : 0 < gs.length → ∀ b o, A = some ⟨b, o, none⟩ → b ≠ g := by
  intro hn b o e hbg
  subst e; subst hbg
  have h0 := Reads.cell h (j := 0) (u := .int .u64 (gs[0]'hn)) (by simp [ucells, hn])
  rw [Nat.add_zero, hb.cell o] at h0
  match o, h0 with
  | 0, h0 => simp at h0
  | o + 1, h0 => simp at h0
theorem RdU.put {w : World} {A : Option Addr} {gs : List Nat} (h : RdU w A gs) {l : Nat} {lp : Loop} (hl : w.heap[l]? = some (.loop lp)) (o' : Obj) : RdU (w.putObj l o') A gs := by
  rcases Nat.eq_zero_or_pos gs.length with h0 | h0
  · exact ⟨h.1, fun hn => absurd hn (by omega)⟩
  · exact Reads.put h hl (by simp) (by simpa [ucells] using h0) o'
theorem MagAt.ext {W W' : World} {g x : Nat} (h : MagAt W g x) (hx : Ext W W') : MagAt W' g x := by
  obtain ⟨A, c, h1, h2, h3, h4⟩ := h
  exact ⟨A, c, h1.ext hx, h2.ext hx, h3, h4⟩
theorem MagAt.far {W : World} {g x g' : Nat} {B : Option Addr} {n c : Nat} (h : MagAt W g x) (hb : Blk W g' 122 #[.slice B n c]) (hne : g ≠ g') (u : Value) : MagAt (W.setCell ⟨g', 0, none⟩ u) g x := by
  obtain ⟨A, c', h1, h2, h3, h4⟩ := h
  exact ⟨A, c', h1.far (p := ⟨g', 0, none⟩) hne u, h2.far u (h2.slot hb), h3, h4⟩
theorem MagAt.set_ {W : World} {g x y : Nat} {A : Option Addr} {c : Nat} (h : MagAt W g y) (h2 : RdU W A (gr x)) (h3 : (gr x).length ≤ c) (h4 : c ≤ maxLen) : MagAt (W.setCell ⟨g, 0, none⟩ (.slice A (gr x).length c)) g x := by
  obtain ⟨A', c', k1, k2, k3, k4⟩ := h
  have hb := k1.set_ 0 (.slice A (gr x).length c)
  exact ⟨A, c, hb, h2.far _ (h2.slot k1), h3, h4⟩
theorem MagAt.put {W : World} {g x l : Nat} {lp : Loop} (h : MagAt W g x) (hl : W.heap[l]? = some (.loop lp)) (o' : Obj) (hne : g ≠ l) : MagAt (W.putObj l o') g x := by
  obtain ⟨A, c, h1, h2, h3, h4⟩ := h
  exact ⟨A, c, h1.put o' hne, h2.put hl o', h3, h4⟩
theorem MagAt.unique {W : World} {g x y : Nat} (h : MagAt W g x) (k : MagAt W g y) : x = y := by
  obtain ⟨A, c, h1, h2, _, _⟩ := h
  obtain ⟨A', c', k1, k2, _, _⟩ := k
  have e : some (Obj.cells #[Value.slice A (gr x).length c] 122 (0, 0)) = some (Obj.cells #[Value.slice A' (gr y).length c'] 122 (0, 0)) := by
    unfold Blk at h1 k1; rw [← h1, ← k1]
  simp only [Option.some.injEq, Obj.cells.injEq, Array.mk.injEq, List.cons.injEq, Value.slice.injEq, and_true] at e
  obtain ⟨rfl, hl, rfl⟩ := e
  apply gr_inj
  apply List.ext_getElem hl
  intro i hi1 hi2
  obtain ⟨b, o, e1, _, hc⟩ := h2.at_ hi1
  obtain ⟨b', o', e2, _, hc'⟩ := k2.at_ hi2
  rw [e1] at e2
  injection e2 with e2
  injection e2 with e3 e4
  subst e3; subst e4
  rw [hc] at hc'
  simp only [Option.some.injEq, Value.int.injEq, true_and] at hc'
  omega
/-- how Gcd stands in memory -/
structure GcAt (w : World) (g0 B : Nat) (lp : Loop) (x y o : Nat) (W : World) : Prop where
  ext : Ext w W
  out : MagAt W g0 o
  m : MagAt W B x
  n : MagAt W (B + 1) y
  D : W.heap[B + 1 + 1]? = some (.deferred (some []))
  L : W.heap[B + 1 + 1 + 1]? = some (.loop lp)
  lx : (gr x).length ≤ 900000
  ly : (gr y).length ≤ 900000
  lo : (gr o).length ≤ 900000
  lw : w.heap.size ≤ g0
  lg : g0 < B
section
variable {w : World} {g0 B : Nat} {lp lp' : Loop} {x y o : Nat} {W W' : World}
theorem GcAt.on (h : GcAt w g0 B lp x y o W) (hx : Ext W W') : GcAt w g0 B lp x y o W' :=
  ⟨h.ext.trans hx, h.out.ext hx, h.m.ext hx, h.n.ext hx, ext_heap h.D hx, ext_heap h.L hx, h.lx, h.ly, h.lo, h.lw, h.lg⟩
theorem GcAt.put (h : GcAt w g0 B lp x y o W) : GcAt w g0 B lp' x y o (W.putObj (B + 1 + 1 + 1) (.loop lp')) := by
  have hg := h.lg
  have hw := h.lw
  refine ⟨h.ext.putObj (by omega) _, h.out.put h.L _ (by omega), h.m.put h.L _ (by omega), h.n.put h.L _ (by omega), put_heap h.D (by omega), World.putObj_heap_same (Array.getElem?_eq_some_iff.1 h.L).1, h.lx, h.ly, h.lo, h.lw, h.lg⟩
/-- the body of the loop: out = m -/
theorem GcAt.take (h : GcAt w g0 B lp x y o W) {A : Option Addr} {c : Nat} (_hb : Blk W B 122 #[.slice A (gr x).length c]) (hr : RdU W A (gr x)) (h3 : (gr x).length ≤ c) (h4 : c ≤ maxLen) : GcAt w g0 B lp x y x (W.setCell ⟨g0, 0, none⟩ (.slice A (gr x).length c)) := by
  have hg := h.lg
  have hw := h.lw
  obtain ⟨Ao, co, k1, _⟩ := h.out
  exact ⟨h.ext.setCell hw _, h.out.set_ hr h3 h4, h.m.far k1 (by omega) _, h.n.far k1 (by omega) _, dfar h.D (by omega), dfar h.L (by omega), h.lx, h.ly, h.lx, h.lw, h.lg⟩
/-- the next step: m, n = n, r -/
theorem GcAt.next (h : GcAt w g0 B lp x y o W) {A A2 : Option Addr} {c c2 : Nat} (_hb : Blk W (B + 1) 122 #[.slice A (gr y).length c]) (hr : RdU W A (gr y)) (h3 : (gr y).length ≤ c) (h4 : c ≤ maxLen) {r : Nat} (hr2 : RdU W A2 (gr r)) (h5 : (gr r).length ≤ c2) (h6 : c2 ≤ maxLen) (hl : (gr r).length ≤ 900000) :
    GcAt w g0 B lp y r o ((W.setCell ⟨B, 0, none⟩ (.slice A (gr y).length c)).setCell ⟨B + 1, 0, none⟩ (.slice A2 (gr r).length c2)) := by
  have hg := h.lg
  have hw := h.lw
  obtain ⟨Am, cm, k1, _⟩ := h.m
  have hn' : MagAt (W.setCell ⟨B, 0, none⟩ (.slice A (gr y).length c)) (B + 1) y := h.n.far k1 (by omega) _
  have hm' : MagAt (W.setCell ⟨B, 0, none⟩ (.slice A (gr y).length c)) B y := h.m.set_ hr h3 h4
  have ho' : MagAt (W.setCell ⟨B, 0, none⟩ (.slice A (gr y).length c)) g0 o := h.out.far k1 (by omega) _
  have hr2' : RdU (W.setCell ⟨B, 0, none⟩ (.slice A (gr y).length c)) A2 (gr r) := hr2.far _ (hr2.slot k1)
  have hn2 := hn'
  obtain ⟨An, cn, j1, _⟩ := hn2
  exact ⟨(h.ext.setCell (p := ⟨B, 0, none⟩) (by dsimp only; omega) _).setCell (p := ⟨B + 1, 0, none⟩) (by dsimp only; omega) _, ho'.far j1 (by omega) _, hm'.far j1 (by omega) _, hn'.set_ hr2' h5 h6, dfar (dfar h.D (by omega)) (by omega), dfar (dfar h.L (by omega)) (by omega), h.ly, hl, h.lo, h.lw, h.lg⟩
end
theorem intSteps (A A' : Option Addr) (a c a' c' : Nat) (w : World) :
    Calls Tryz.prog 279 #[.slice A a c, .slice A' a' c'] w fun e w' => e = .returned (.func (.func 309) #[] #[.pointer (some ⟨w.heap.size, 0, none⟩), .pointer (some ⟨w.heap.size + 1, 0, none⟩)]) ∧ w' = (w.alloc (.cells #[.slice A a c] 122)).alloc (.cells #[.slice A' a' c'] 122) := by
  go_enter Tryz.func279, Tryz.ntmps279
  go_wp2_with fail
  go_ret
  exact ⟨rfl, rfl⟩
/-- how a round of the loop ends -/
def GcEnds (w : World) (g0 B : Nat) (lp : Loop) (x y : Nat) (e : Ending) (W' : World) : Prop := e = .returned (.bool true) ∧ GcAt w g0 B lp x y x W'
set_option maxRecDepth 100000 in
set_option maxHeartbeats 2000000 in
theorem intSteps1 (n : Nat) (w : World) (g0 B : Nat) (lp : Loop) (G : Nat)
    (hY : ∀ x y o W A c A' c', GcAt w g0 B lp x y o W → Blk W B 122 #[.slice A (gr x).length c] → RdU W A (gr x) → (gr x).length ≤ c → c ≤ maxLen → YieldAt Fence.wide (n - 1) Tryz.prog (B + 1 + 1 + 1) #[.slice A (gr x).length c, .slice A' (gr y).length c'] W (GcEnds w g0 B lp x y))
    (x y o : Nat) (W : World) (h0 : GcAt w g0 B lp x y o W) (hG : Nat.gcd x y = G) :
    CallsIn Fence.wide n Tryz.prog 309 #[.func (.yield (B + 1 + 1 + 1)) #[] #[], .pointer (some ⟨B, 0, none⟩), .pointer (some ⟨B + 1, 0, none⟩)] W fun e W' => (∃ v, e = .returned v) ∧ ∃ y, GcAt w g0 B lp G y G W' := by
  have hfn : ∀ k, Fence.wide.fn k := fun _ => trivial
  have hdp : Fence.wide.depth.isSome = false := rfl
  have HY := Lib.hid hY
  have HG := Lib.hid hG
  have H0 := Lib.hid h0
  clear hY hG h0
  refine callsIn_of_wp Tryz.func309 rfl trivial ?_ rfl
  simp only [Tryz.ntmps309, List.size_toArray, List.length_cons, List.length_nil, Nat.reduceAdd, Nat.reduceSub, Array.replicate_succ, Array.replicate_zero, List.push_toArray, List.append_toArray, List.nil_append, List.cons_append]
  gi_wp2
  gi_loopw [4, 5] (fun _ _ wr => ∃ x y o : Nat, GcAt w g0 B lp x y o wr ∧ Nat.gcd x y = G) (fun _ _ wr => @Classical.epsilon Nat ⟨0⟩ (fun y => MagAt wr (B + 1) y))
  case atStart => exact ⟨x, y, o, H0.out, HG.out⟩
  case round =>
    clear HG H0
    obtain ⟨x, y, o, h, hg⟩ := hrel
    have HM : Hid (@Classical.epsilon Nat ⟨0⟩ (fun y => MagAt wr (B + 1) y) = y) := Lib.hid ((Classical.epsilon_spec (p := fun y => MagAt wr (B + 1) y) ⟨y, h.n⟩).unique h.n)
    obtain ⟨A, c, k1, k2, k3, k4⟩ := h.m
    obtain ⟨A', c', j1, j2, j3, j4⟩ := h.n
    obtain ⟨fn, tmps, assign, body, hy, hR⟩ := HY.out x y o wr A c A' c' h k1 k2 k3 k4
    have HR := Lib.hid hR
    have H := Lib.hid h
    have HGC := Lib.hid hg
    have x0 := k1.cell 0
    have y0 := j1.cell 0
    simp only [List.getElem?_toArray, List.getElem?_cons_zero] at x0 y0
    clear h hg hR HY k1 k2 k3 k4 j1 j2 j3 j4
    gi_wp2
    refine HR.out.mono ?_
    rintro e W3 ⟨rfl, hK⟩
    clear HR H
    obtain ⟨A, c, k1, k2, k3, k4⟩ := hK.m
    obtain ⟨A', c', j1, j2, j3, j4⟩ := hK.n
    have x0 := k1.cell 0
    have y0 := j1.cell 0
    simp only [List.getElem?_toArray, List.getElem?_cons_zero] at x0 y0
    have HK := Lib.hid hK
    by_cases hy0 : y = 0
    · subst hy0
      rw [Nat.gcd_zero_right] at HGC
      have hl0 : decide (0 < (gr 0).length) = false := by rw [gr_zero]; rfl
      clear hK k1 k2 k3 k4 j1 j2 j3 j4
      gi_wp2
      go_end0
      refine ⟨⟨_, rfl⟩, 0, ?_⟩
      have := HK.out
      rw [HGC.out] at this
      exact this
    · have hl0 : decide (0 < (gr y).length) = true := by
        rw [decide_eq_true_iff]
        rcases Nat.eq_zero_or_pos (gr y).length with e | e
        · exact absurd (gr_inj (by rw [List.length_eq_zero_iff.1 e, gr_zero]) : y = 0) hy0
        · exact e
      have HDV := Lib.hid (fun W h1 h2 => intDivide x y (by omega) A A' c c' W h1 h2 hK.lx hK.ly k3 k4)
      have HR1 := Lib.hid k2
      have HR2 := Lib.hid j2
      have HC2 := Lib.hid (And.intro j3 j4)
      have hgr : (gr (x % y)).length ≤ 900000 := Nat.le_trans (gr_len_mono (Nat.le_of_lt (Nat.mod_lt x (by omega)))) hK.ly
      have HGR := Lib.hid hgr
      have HLT : Hid (x % y < y) := Lib.hid (Nat.mod_lt x (by omega))
      have HG2 : Hid (Nat.gcd y (x % y) = G) := Lib.hid (by rw [← HGC.out, Nat.gcd_comm x y, Nat.gcd_rec y x, Nat.gcd_comm])
      clear hK k1 k2 k3 k4 j1 j2 j3 j4 hgr hy0 HGC
      gi_wp2_with (gi_at_call 213; refine (callsIn_wide.2 (HDV.out _ HR1.out HR2.out)).mono ?_; rintro e w5 ⟨A1, c1, A2, c2, rfl, hq, hr, hx, hqc, hrc⟩; (have HK5 := Lib.hid (HK.out.on hx)); (have HR5 := Lib.hid (HR2.out.ext hx)); (have HRR := Lib.hid hr); (have HRC := Lib.hid hrc); (obtain ⟨Am, cm, m1, _⟩ := HK5.out.m); (obtain ⟨An, cn, n1, n2, n3, n4⟩ := HK5.out.n); (have u0 := m1.cell 0); (have v0 := n1.cell 0); (have u1 := m1.frozen 0); (have v1 := n1.frozen 0); (simp only [List.getElem?_toArray, List.getElem?_cons_zero] at u0 v0); (have HN1 := Lib.hid n1); (have HN2 := Lib.hid n2); (have HN3 := Lib.hid (And.intro n3 n4)); clear hq hr hx hqc hrc m1 n1 n2 n3 n4)
      go_roundw
      case rel => exact ⟨y, x % y, x, HK5.out.next HN1.out HN2.out HN3.out.1 HN3.out.2 HRR.out HRC.out.1 HRC.out.2 HGR.out, HG2.out⟩
      case measure =>
        rw [HM.out]
        have hn := (HK5.out.next HN1.out HN2.out HN3.out.1 HN3.out.2 HRR.out HRC.out.1 HRC.out.2 HGR.out).n
        rw [(Classical.epsilon_spec (p := fun y => MagAt _ (B + 1) y) ⟨_, hn⟩).unique hn]
        exact HLT.out
theorem txt_false (n : Nat) : txt false n = ofI n := by rw [txt_ofI]; rfl
theorem numField (x y : Value) (W : World) : (Instr.field 124 (.agg #[x, y]) 1).run Tryz.prog W = .ok y W := by kernel_rfl
set_option maxRecDepth 100000 in
set_option maxHeartbeats 4000000 in
theorem gcdP (a b : Bs) (ha : a.length ≤ 100000) (hb : b.length ≤ 100000) : Pure 223 #[.string (bs a), .string (bs b)] (.string (bs (ofI (Int.gcd (valI a) (valI b) : Nat)))) := by
  intro w hE
  have hfn : ∀ k, Fence.wide.fn k := fun _ => trivial
  have hdp : Fence.wide.depth.isSome = false := rfl
  have HR1 := Lib.hid (fun W => intRead a W (by omega))
  have HR2 := Lib.hid (fun W => intRead b W (by omega))
  have HL1 : Hid ((gr (natOf (mag a))).length ≤ 900000) := Lib.hid (by have := gr_len10 (mag_pow a ha); omega)
  have HL2 : Hid ((gr (natOf (mag b))).length ≤ 900000) := Lib.hid (by have := gr_len10 (mag_pow b hb); omega)
  have HG : Hid (Nat.gcd (natOf (mag a)) (natOf (mag b)) = Int.gcd (valI a) (valI b)) := Lib.hid (by rw [natOf_abs, natOf_abs]; rfl)
  have HE := Lib.hid hE
  generalize Int.gcd (valI a) (valI b) = G at *
  generalize natOf (mag a) = x at *
  generalize natOf (mag b) = y at *
  generalize neg a = ba at *
  generalize neg b = bb at *
  have hf := numField
  clear ha hb hE
  refine (callsIn_wide (n := 5)).1 ?_
  refine callsIn_of_wp_marks Tryz.func223 rfl trivial ?_ rfl
  simp only [Tryz.ntmps223, List.size_toArray, List.length_cons, List.length_nil, Nat.reduceAdd, Nat.reduceSub, Array.replicate_succ, Array.replicate_zero, List.push_toArray, List.append_toArray, List.nil_append, List.cons_append]
  gi_wp2_with fail
  refine (callsIn_wide.2 (HR1.out _)).mono ?_
  rintro e w1 ⟨A, c, rfl, hrd1, hx1, hc1, hm1⟩
  have HX := Lib.hid ((Ext.new w (.cells #[.slice none 0 0] 122)).trans hx1)
  have HB := Lib.hid ((Blk.new w 122 #[.slice none 0 0]).ext hx1)
  have HD1 := Lib.hid hrd1
  have HC1 := Lib.hid (And.intro hc1 hm1)
  clear hrd1 hx1 hc1 hm1
  gi_wp2_with fail
  refine (callsIn_wide.2 (HR2.out _)).mono ?_
  rintro e w2 ⟨A', c', rfl, hrd2, hx2, hc2, hm2⟩
  replace HX := Lib.hid (HX.out.trans hx2)
  replace HB := Lib.hid (HB.out.ext hx2)
  replace HD1 := Lib.hid (HD1.out.ext hx2)
  have HD2 := Lib.hid hrd2
  have HC2 := Lib.hid (And.intro hc2 hm2)
  clear hrd2 hx2 hc2 hm2
  gi_wp2_with fail
  refine (callsIn_wide.2 (intSteps A A' _ c _ c' w2)).mono ?_
  rintro e w3 ⟨rfl, rfl⟩
  gi_wp2_with fail
  refine range_outer' rfl (by omega) (w2.heap.size + 1 + 1) (by simp) rfl trivial (fun _ _ => by rfl) ?_
  intro fn lp W1 hlp hW1 _
  have hlt := HB.out.lt
  have hex : Ext w2 W1 := by subst hW1; exact (((Ext.new w2 _).alloc _).alloc _).alloc _
  refine (intSteps1 _ w w.heap.size w2.heap.size lp G ?hY x y 0 W1 ?h0 HG.out).mono ?_
  case h0 =>
    refine ⟨HX.out.trans hex, ⟨none, 0, ?_, ?_, ?_, by unfold maxLen; omega⟩, ⟨A, c, ?_, HD1.out.ext hex, HC1.out.1, HC1.out.2⟩, ⟨A', c', ?_, HD2.out.ext hex, HC2.out.1, HC2.out.2⟩, ?_, ?_, HL1.out, HL2.out, by rw [gr_zero]; simp, Nat.le_refl _, hlt⟩
    · rw [gr_zero]; exact HB.out.ext hex
    · rw [gr_zero]; exact Reads.nil
    · rw [gr_zero]; exact Nat.le_refl _
    · subst hW1; exact (((Blk.newAt _ _ _ _ rfl).alloc _).alloc _).alloc _
    · subst hW1; exact ((Blk.newAt _ _ _ _ (by simp)).alloc _).alloc _
    · subst hW1; exact oldAt (newAt _ _ _ (by simp))
    · subst hW1; exact newAt _ _ _ (by simp)
  case hY =>
    intro x y o W A c A' c' h k1 k2 k3 k4
    have e1 := congrArg Loop.assign hlp
    have e2 := congrArg Loop.body hlp
    have e3 := congrArg Loop.tmps hlp
    have e4 := congrArg Loop.params hlp
    have e5 : { lp with state := .ready, pending := none } = lp := by rw [hlp]; rfl
    obtain ⟨lb, hlb⟩ : ∃ lb, { lp with state := .busy } = lb := ⟨_, rfl⟩
    simp only [recOf] at e1 e2 e3 e4
    refine yield_round' (rec := lp) h.L (by rw [hlp]; rfl) (by rw [hlp]; rfl) trivial e1 e2 e4 e3 (zip2 _ _ _ _ _) hlb ?_
    clear e1 e2 e3 e4 hlp hW1 hex
    have HL0 := Lib.hid h.L
    have HP := Lib.hid (h.put (lp' := lb))
    have HK1 := Lib.hid (k1.put (.loop lb) (l := w2.heap.size + 1 + 1 + 1) (by omega))
    have HK2 := Lib.hid (k2.put h.L (.loop lb))
    have HK3 := Lib.hid (And.intro k3 k4)
    have HLB := Lib.hid hlb
    have HE5 := Lib.hid e5
    clear h k1 k2 k3 k4 hlb e5
    gi_wp2
    refine ⟨HL0.out, ?_⟩
    generalize W.putObj (w2.heap.size + 1 + 1 + 1) (.loop lb) = Wb at *
    obtain ⟨Ao, co, o1, _⟩ := HP.out.out
    have u0 := o1.cell 0
    have u1 := o1.frozen 0
    simp only [List.getElem?_toArray, List.getElem?_cons_zero] at u0
    clear o1
    gi_wp2
    have hT := HP.out.take HK1.out HK2.out HK3.out.1 HK3.out.2
    refine ⟨by rw [HLB.out]; exact hT.L, rfl, ?_⟩
    rw [HE5.out]
    exact hT.put
  rintro e W ⟨hv, y', h⟩
  refine ⟨hv, .inl ⟨h.L, ?_⟩⟩
  have hP := h.put (lp' := { lp with state := .exhausted })
  generalize W.putObj (w2.heap.size + 1 + 1 + 1) (.loop { lp with state := .exhausted }) = W3 at *
  clear h hv hW1 hlp W1 hex
  obtain ⟨Ao, co, o1, o2, o3, o4⟩ := hP.out
  have u0 := o1.cell 0
  simp only [List.getElem?_toArray, List.getElem?_cons_zero] at u0
  have HP := Lib.hid hP
  have HT := Lib.hid (fun W hr hE => intText false G Ao co W hr (Nat.le_trans hP.lo (by omega)) o3 o4 hE)
  rw [txt_false] at HT
  have HO := Lib.hid o2
  clear hP o1 o2 o3 o4
  gi_wp2_with (gi_at_call 80; refine (callsIn_wide.2 (HT.out _ HO.out (HE.out.ext HP.out.ext))).mono ?_; rintro e w5 ⟨rfl, hx5⟩; (have HX5 := Lib.hid (HP.out.ext.trans hx5)); (have HD5 := Lib.hid (ext_heap HP.out.D hx5)); clear hx5)
  refine ⟨by simp, .inl ⟨_, _, rfl, run_takeDeferred HD5.out, ?_⟩⟩
  refine ⟨.string (bs (ofI (G : Nat))), by simp [results, Tryz.results223, go_sem], ?_⟩
  exact ⟨rfl, HX5.out.putObj (by have := HP.out.lg; omega) _⟩
end Go.Proofs.YthgpheopnhajaaaGreatDoor

/- The walks over the program's fractions: reduced, made, parts, New, Of, Parts, Neg. -/
namespace Go.Proofs.YthgpheopnhajaaaGreatDoor
open Go.RowKit
attribute [local go_sem] size_bs toList_bs
/-- a fraction as a value -/
abbrev fv (f : Fr) : Value := .agg #[.string (bs f.num), .string (bs f.den)]
def dn (f : Fr) : Bs := if valI f.den = 0 then [49] else f.den
theorem valI_dn (f : Fr) : valI (dn f) = frD f := by unfold dn frD; split; exact valI_one; rfl
theorem dn_len (f : Fr) {L : Nat} (h : f.den.length ≤ L) (h1 : 1 ≤ L) : (dn f).length ≤ L := by unfold dn; split; exact h1; exact h
theorem ofI_lt10' {z : Int} {l : Bs} (h : z.natAbs ≤ (valI l).natAbs) {L : Nat} (hl : l.length ≤ L) : (ofI z).length ≤ L + 1 := ofI_lt10 (Nat.lt_of_le_of_lt h (valI_lt10 hl))
theorem results_fr {fn : Func} {a : Tmp} (h : fn.results = #[.cell a 26]) (tmps : Array Value) (w : World) (g : Nat) (x y : Value) (ha : tmps.getD a undef = .pointer (some ⟨g, 0, none⟩)) (hb : Blk w g 26 #[x, y]) :
    (results fn tmps).run Tryz.prog w = .ok (.agg #[x, y]) w := by
  have h0 := hb.cell 0
  have h1 := hb.cell 1
  simp only [List.getElem?_toArray, List.getElem?_cons_zero, List.getElem?_cons_succ] at h0 h1
  unfold results
  rw [h]
  simp only [List.mapM_toArray, List.mapM_cons, List.mapM_nil, ha]
  go_simp
theorem frBlk {w w' : World} {g : Nat} {x y : Value} (h : Blk w g 26 #[x, y]) (hx : Ext w w') : w'.cell? ⟨g, 0, none⟩ = some x ∧ w'.cell? ⟨g, 1, none⟩ = some y ∧ w'.frozen? ⟨g, 0, none⟩ = false ∧ w'.frozen? ⟨g, 1, none⟩ = false := by
  have k := h.ext hx
  have h0 := k.cell 0
  have h1 := k.cell 1
  simp only [List.getElem?_toArray, List.getElem?_cons_zero, List.getElem?_cons_succ] at h0 h1
  exact ⟨h0, h1, k.frozen 0, k.frozen 1⟩
theorem red_of {n d : Int} (hd : d ≠ 0) : (d < 0 → divF (-n) (Int.gcd (-n) (-d) : Nat) = redN n d ∧ divF (-d) (Int.gcd (-n) (-d) : Nat) = redD n d) ∧ (¬ d < 0 → divF n (Int.gcd n d : Nat) = redN n d ∧ divF d (Int.gcd n d : Nat) = redD n d) := by
  have hg := gcd_pos (n := n) hd
  constructor
  · intro h
    rw [Int.neg_gcd, Int.gcd_neg, divF_pos (by omega), divF_pos (by omega)]
    unfold redN redD
    rw [if_pos h]
    refine ⟨rfl, ?_⟩
    rw [show -d = (d.natAbs : Int) by omega]; rfl
  · intro h
    rw [divF_pos (by omega), divF_pos (by omega)]
    unfold redN redD
    rw [if_neg h]
    refine ⟨rfl, ?_⟩
    have e : d = (d.natAbs : Int) := by omega
    generalize Int.gcd n d = g at *
    rw [e]; simp
theorem gcd_abs_le {n d : Int} (hd : d ≠ 0) : (Int.gcd n d) ≤ d.natAbs := Int.gcd_le_natAbs_right n hd
set_option maxRecDepth 100000 in
set_option maxHeartbeats 2000000 in
theorem fracReduced (n d : Bs) (hn : n.length ≤ 90000) (hd : d.length ≤ 90000) (h0 : valI d ≠ 0) :
    Pure 159 #[.string (bs n), .string (bs d)] (.tuple #[.string (bs (ofI (redN (valI n) (valI d)))), .string (bs (ofI (redD (valI n) (valI d))))]) := by
  intro w hE
  have HE := Lib.hid hE
  have HC := Lib.hid (cmp0P d (by omega))
  have hr := red_of (n := valI n) h0
  have hgp := gcd_pos (n := valI n) h0
  have hgle := gcd_abs_le (n := valI n) h0
  have hgl : (ofI (Int.gcd (valI n) (valI d) : Nat)).length ≤ 90001 := ofI_lt10' (l := d) (by rw [Int.natAbs_natCast]; exact hgle) hd
  by_cases hneg : valI d < 0
  · have hb : decide (cmpI (valI d) 0 < 0) = true := by rw [decide_eq_true_iff, cmpI]; rw [if_pos hneg]; omega
    have HN1 := Lib.hid (negP n (by omega))
    have HN2 := Lib.hid (negP d (by omega))
    have hl1 : (ofI (-(valI n))).length ≤ 90001 := ofI_lt10' (l := n) (by omega) hn
    have hl2 : (ofI (-(valI d))).length ≤ 90001 := ofI_lt10' (l := d) (by omega) hd
    have HG := Lib.hid (gcdP (ofI (-(valI n))) (ofI (-(valI d))) (by omega) (by omega))
    rw [valI_ofI, valI_ofI] at HG
    have hge : Int.gcd (-(valI n)) (-(valI d)) = Int.gcd (valI n) (valI d) := by rw [Int.neg_gcd, Int.gcd_neg]
    have HD1 := Lib.hid (divP (ofI (-(valI n))) (ofI (Int.gcd (-(valI n)) (-(valI d)) : Nat)) (by omega) (by rw [hge]; omega) (by rw [valI_ofI, hge]; omega))
    have HD2 := Lib.hid (divP (ofI (-(valI d))) (ofI (Int.gcd (-(valI n)) (-(valI d)) : Nat)) (by omega) (by rw [hge]; omega) (by rw [valI_ofI, hge]; omega))
    rw [valI_ofI, valI_ofI] at HD1 HD2
    rw [(hr.1 hneg).1] at HD1
    rw [(hr.1 hneg).2] at HD2
    clear hr hgp hgle hgl hl1 hl2 hge hE
    generalize redN (valI n) (valI d) = rn at *
    generalize redD (valI n) (valI d) = rd at *
    generalize modF (-(valI n)) _ = m1 at *
    generalize modF (-(valI d)) _ = m2 at *
    generalize ofI (Int.gcd (-(valI n)) (-(valI d)) : Nat) = gs at *
    generalize ofI (-(valI n)) = nn at *
    generalize ofI (-(valI d)) = dd at *
    generalize cmpI (valI d) 0 = cc at *
    clear h0 hneg hn hd
    go_enter Tryz.func159, Tryz.ntmps159
    go_wp2_with fail
    refine (HC.out _ HE.out).mono ?_
    rintro e w1 ⟨rfl, hx1⟩
    have HX := Lib.hid hx1
    clear hx1
    go_wp2_with fail
    refine (HN1.out _ (HE.out.ext HX.out)).mono ?_
    rintro e w2 ⟨rfl, hx2⟩
    replace HX := Lib.hid (HX.out.trans hx2)
    clear hx2
    go_wp2_with fail
    refine (HN2.out _ (HE.out.ext HX.out)).mono ?_
    rintro e w3 ⟨rfl, hx2⟩
    replace HX := Lib.hid (HX.out.trans hx2)
    clear hx2
    go_wp2_with fail
    refine (HG.out _ (HE.out.ext HX.out)).mono ?_
    rintro e w4 ⟨rfl, hx2⟩
    replace HX := Lib.hid (HX.out.trans hx2)
    clear hx2
    go_wp2_with fail
    refine (HD1.out _ (HE.out.ext HX.out)).mono ?_
    rintro e w5 ⟨rfl, hx2⟩
    replace HX := Lib.hid (HX.out.trans hx2)
    clear hx2
    go_wp2_with fail
    refine (HD2.out _ (HE.out.ext HX.out)).mono ?_
    rintro e w6 ⟨rfl, hx2⟩
    replace HX := Lib.hid (HX.out.trans hx2)
    clear hx2
    go_wp2_with fail
    go_ret2
    exact ⟨rfl, HX.out⟩
  · have hb : decide (cmpI (valI d) 0 < 0) = false := by rw [decide_eq_false_iff_not, cmpI_neg]; omega
    have HG := Lib.hid (gcdP n d (by omega) (by omega))
    have HD1 := Lib.hid (divP n (ofI (Int.gcd (valI n) (valI d) : Nat)) (by omega) (by omega) (by rw [valI_ofI]; omega))
    have HD2 := Lib.hid (divP d (ofI (Int.gcd (valI n) (valI d) : Nat)) (by omega) (by omega) (by rw [valI_ofI]; omega))
    rw [valI_ofI] at HD1 HD2
    rw [(hr.2 hneg).1] at HD1
    rw [(hr.2 hneg).2] at HD2
    clear hr hgp hgle hgl hE
    generalize redN (valI n) (valI d) = rn at *
    generalize redD (valI n) (valI d) = rd at *
    generalize modF (valI n) _ = m1 at *
    generalize modF (valI d) _ = m2 at *
    generalize ofI (Int.gcd (valI n) (valI d) : Nat) = gs at *
    generalize cmpI (valI d) 0 = cc at *
    clear h0 hneg hn hd
    go_enter Tryz.func159, Tryz.ntmps159
    go_wp2_with fail
    refine (HC.out _ HE.out).mono ?_
    rintro e w1 ⟨rfl, hx1⟩
    have HX := Lib.hid hx1
    clear hx1
    go_wp2_with fail
    refine (HG.out _ (HE.out.ext HX.out)).mono ?_
    rintro e w4 ⟨rfl, hx2⟩
    replace HX := Lib.hid (HX.out.trans hx2)
    clear hx2
    go_wp2_with fail
    refine (HD1.out _ (HE.out.ext HX.out)).mono ?_
    rintro e w5 ⟨rfl, hx2⟩
    replace HX := Lib.hid (HX.out.trans hx2)
    clear hx2
    go_wp2_with fail
    refine (HD2.out _ (HE.out.ext HX.out)).mono ?_
    rintro e w6 ⟨rfl, hx2⟩
    replace HX := Lib.hid (HX.out.trans hx2)
    clear hx2
    go_wp2_with fail
    go_ret2
    exact ⟨rfl, HX.out⟩
set_option maxRecDepth 100000 in
set_option maxHeartbeats 2000000 in
theorem fracMade (n d : Bs) (hn : n.length ≤ 90000) (hd : d.length ≤ 90000) (h0 : valI d ≠ 0) :
    Pure 93 #[.string (bs n), .string (bs d)] (fv (ofQ (Rat.divInt (valI n) (valI d)))) := by
  intro w hE
  rw [← frq_ofQ h0]
  have HE := Lib.hid hE
  have HR := Lib.hid (fracReduced n d hn hd h0)
  unfold frq
  have hone : redD (valI n) (valI d) = 1 ↔ ofI (redD (valI n) (valI d)) = [49] := by
    rw [← ofI_one]; exact ⟨fun h => by rw [h], fun h => ofI_inj h⟩
  generalize redN (valI n) (valI d) = rn at *
  generalize redD (valI n) (valI d) = rd at *
  clear h0 hn hd hE
  have HF1 : Hid (rd = 1 → (⟨ofI rn, if rd = 1 then [] else ofI rd⟩ : Fr) = ⟨ofI rn, []⟩) := Lib.hid (fun h => by rw [if_pos h])
  have HF2 : Hid (¬ rd = 1 → (⟨ofI rn, if rd = 1 then [] else ofI rd⟩ : Fr) = ⟨ofI rn, ofI rd⟩) := Lib.hid (fun h => by rw [if_neg h])
  generalize (⟨ofI rn, if rd = 1 then [] else ofI rd⟩ : Fr) = r at *
  have HB := Lib.hid (Blk.new w 26 #[.string ⟨#[]⟩, .string ⟨#[]⟩])
  have HX0 : Hid (Ext w (w.alloc (.cells #[.string ⟨#[]⟩, .string ⟨#[]⟩] 26))) := Lib.hid (Ext.new _ _)
  go_enter Tryz.func93, Tryz.ntmps93
  go_wp2_with fail
  refine (HR.out _ (HE.out.ext HX0.out)).mono ?_
  rintro e w1 ⟨rfl, hx1⟩
  obtain ⟨q0, q1, f0, f1⟩ := frBlk HB.out hx1
  have HB1 := Lib.hid (HB.out.ext hx1)
  have HX := Lib.hid (HX0.out.trans hx1)
  clear hx1
  by_cases h1 : rd = 1
  · have hb : (ofI rd == [49]) = true := by rw [beq_iff_eq]; exact hone.1 h1
    have H1 := Lib.hid h1
    clear hone h1
    go_wp2_with fail
    refine bodyPost_ret (results_fr rfl _ _ w.heap.size (.string (bs (ofI rn))) (.string ⟨#[]⟩) rfl ((HB1.out.set_ 0 _).set_ 1 _)) rfl ?_
    refine ⟨?_, (HX.out.setCell (p := ⟨w.heap.size, 0, none⟩) (Nat.le_refl _) _).setCell (p := ⟨w.heap.size, 1, none⟩) (Nat.le_refl _) _⟩
    rw [HF1.out H1.out]; rfl
  · have hb : (ofI rd == [49]) = false := by rw [beq_eq_false_iff_ne]; exact fun h => h1 (hone.2 h)
    have H1 := Lib.hid h1
    clear hone h1
    go_wp2_with fail
    refine bodyPost_ret (results_fr rfl _ _ w.heap.size (.string (bs (ofI rn))) (.string (bs (ofI rd))) rfl ((HB1.out.set_ 0 _).set_ 1 _)) rfl ?_
    refine ⟨?_, (HX.out.setCell (p := ⟨w.heap.size, 0, none⟩) (Nat.le_refl _) _).setCell (p := ⟨w.heap.size, 1, none⟩) (Nat.le_refl _) _⟩
    rw [HF2.out H1.out]
set_option maxRecDepth 100000 in
set_option maxHeartbeats 2000000 in
theorem fracParts (f : Fr) (hd : f.den.length ≤ 90000) :
    Pure 96 #[fv f] (.tuple #[.string (bs f.num), .string (bs (dn f))]) := by
  intro w hE
  have HE := Lib.hid hE
  obtain ⟨n, d⟩ := f
  have HC := Lib.hid (cmp0P d (by simpa using Nat.le_trans hd (by omega)))
  have HF1 : Hid (valI d = 0 → dn ⟨n, d⟩ = [49]) := Lib.hid (fun h => by unfold dn; rw [if_pos h])
  have HF2 : Hid (¬ valI d = 0 → dn ⟨n, d⟩ = d) := Lib.hid (fun h => by unfold dn; rw [if_neg h])
  generalize dn ⟨n, d⟩ = r at *
  have HB := Lib.hid (Blk.new w 26 #[.string (bs n), .string (bs d)])
  have HX0 : Hid (Ext w (w.alloc (.cells #[.string (bs n), .string (bs d)] 26))) := Lib.hid (Ext.new _ _)
  clear hE hd
  by_cases h0 : valI d = 0
  · have hb : (cmpI (valI d) 0 == 0) = true := by rw [beq_iff_eq, cmpI_zero]; exact h0
    have H0 := Lib.hid h0
    clear h0
    go_enter Tryz.func96, Tryz.ntmps96
    go_wp2_with fail
    refine (HC.out _ (HE.out.ext HX0.out)).mono ?_
    rintro e w1 ⟨rfl, hx1⟩
    obtain ⟨q0, q1, f0, f1⟩ := frBlk HB.out hx1
    have HX := Lib.hid (HX0.out.trans hx1)
    clear hx1
    go_wp2_with fail
    go_ret2
    exact ⟨by rw [HF1.out H0.out]; rfl, HX.out⟩
  · have hb : (cmpI (valI d) 0 == 0) = false := by rw [beq_eq_false_iff_ne, Ne, cmpI_zero]; exact h0
    have H0 := Lib.hid h0
    clear h0
    go_enter Tryz.func96, Tryz.ntmps96
    go_wp2_with fail
    refine (HC.out _ (HE.out.ext HX0.out)).mono ?_
    rintro e w1 ⟨rfl, hx1⟩
    obtain ⟨q0, q1, f0, f1⟩ := frBlk HB.out hx1
    have HX := Lib.hid (HX0.out.trans hx1)
    clear hx1
    go_wp2_with fail
    go_quiet (fail)
    go_wp2_with fail
    go_ret2
    exact ⟨by rw [HF2.out H0.out]; rfl, HX.out.drewN _⟩
end Go.Proofs.YthgpheopnhajaaaGreatDoor

/- The walks over the program's fractions: New, Of, Neg, Parts, the operations. -/
namespace Go.Proofs.YthgpheopnhajaaaGreatDoor
open Go.RowKit
attribute [local go_sem] size_bs toList_bs
set_option maxRecDepth 100000 in
set_option maxHeartbeats 2000000 in
theorem fracOf (a : Bs) (ha : a.length ≤ 90000) : Pure 36 #[.string (bs a)] (fv (ofQ (valI a : Int))) := by
  intro w hE
  have HE := Lib.hid hE
  have hm := fracMade a [49] ha (by simp) (by rw [valI_one]; decide)
  rw [valI_one, divInt_one] at hm
  have HM := Lib.hid hm
  have HB := Lib.hid (Blk.new w 26 #[.string ⟨#[]⟩, .string ⟨#[]⟩])
  have HX0 : Hid (Ext w (w.alloc (.cells #[.string ⟨#[]⟩, .string ⟨#[]⟩] 26))) := Lib.hid (Ext.new _ _)
  generalize ofQ (valI a : Int) = r at *
  clear hE hm
  go_enter Tryz.func36, Tryz.ntmps36
  go_wp2_with fail
  refine (HM.out _ (HE.out.ext HX0.out)).mono ?_
  rintro e w1 ⟨rfl, hx1⟩
  obtain ⟨q0, q1, f0, f1⟩ := frBlk HB.out hx1
  have HB1 := Lib.hid (HB.out.ext hx1)
  have HX := Lib.hid (HX0.out.trans hx1)
  clear hx1
  go_wp2_with fail
  refine bodyPost_ret (results_fr rfl _ _ w.heap.size (.string (bs r.num)) (.string (bs r.den)) rfl ((HB1.out.set_ 0 _).set_ 1 _)) rfl ?_
  exact ⟨rfl, (HX.out.setCell (p := ⟨w.heap.size, 0, none⟩) (Nat.le_refl _) _).setCell (p := ⟨w.heap.size, 1, none⟩) (Nat.le_refl _) _⟩
set_option maxRecDepth 100000 in
set_option maxHeartbeats 2000000 in
/-- numerator and denominator in lowest terms -/
theorem fracPartsR (f : Fr) (h1 : f.num.length ≤ 80000) (h2 : f.den.length ≤ 80000) : Pure 143 #[fv f] (.tuple #[.string (bs (ofI (frQ f).num)), .string (bs (ofI ((frQ f).den : Int)))]) := by
  intro w hE
  have HE := Lib.hid hE
  have HP := Lib.hid (fracParts f (by omega))
  have hm := fracReduced f.num (dn f) (by omega) (dn_len f (by omega) (by omega)) (by rw [valI_dn]; exact frD_ne f)
  rw [valI_dn, redN_num (frD_ne f), redD_den (frD_ne f), show Rat.divInt (valI f.num) (frD f) = frQ f from rfl] at hm
  have HM := Lib.hid hm
  generalize (frQ f).num = rn at *
  generalize ((frQ f).den : Int) = rd at *
  generalize dn f = dd at *
  obtain ⟨n, d⟩ := f
  clear hE hm h1 h2
  have HX0 : Hid (Ext w (w.alloc (.cells #[.string (bs n), .string (bs d)] 26))) := Lib.hid (Ext.new _ _)
  go_enter Tryz.func143, Tryz.ntmps143
  go_wp2_with fail
  refine (HP.out _ (HE.out.ext HX0.out)).mono ?_
  rintro e w1 ⟨rfl, hx1⟩
  have HX := Lib.hid (HX0.out.trans hx1)
  clear hx1
  go_wp2_with fail
  refine (HM.out _ (HE.out.ext HX.out)).mono ?_
  rintro e w2 ⟨rfl, hx1⟩
  replace HX := Lib.hid (HX.out.trans hx1)
  clear hx1
  go_wp2_with fail
  go_ret2
  exact ⟨rfl, HX.out⟩
end Go.Proofs.YthgpheopnhajaaaGreatDoor

/- The walks over the program's fractions: the four operations as closures, apply, Add, Sub, Mul, Compare. -/
namespace Go.Proofs.YthgpheopnhajaaaGreatDoor
open Go.RowKit
attribute [local go_sem] size_bs toList_bs
/-- the variable that holds the product -/
abbrev mulV : Value := .func (.func 160) #[] #[]
abbrev MulAt (W : World) (g : Nat) : Prop := Blk W g 47 #[mulV]
theorem mulCell {W : World} {g : Nat} (h : MulAt W g) : W.cell? ⟨g, 0, none⟩ = some mulV := by
  have := h.cell 0
  simpa using this
/-- an operation: what it makes of a / b and c / d -/
abbrev OpAt (k g : Nat) (a b c d n m : Bs) : Prop := ∀ W, Env W → MulAt W g → Calls Tryz.prog k #[.string (bs a), .string (bs b), .string (bs c), .string (bs d), .pointer (some ⟨g, 0, none⟩)] W fun e w' => e = .returned (.tuple #[.string (bs n), .string (bs m)]) ∧ Ext W w'
set_option maxRecDepth 100000 in
set_option maxHeartbeats 2000000 in
theorem opMinus (g : Nat) (a b c d : Bs) (ha : a.length ≤ 30000) (hb : b.length ≤ 30000) (hc : c.length ≤ 30000) (hd : d.length ≤ 30000) :
    OpAt 162 g a b c d (ofI (valI a * valI d - valI c * valI b)) (ofI (valI b * valI d)) := by
  intro w hE hM
  have HE := Lib.hid hE
  have HM := Lib.hid hM
  have H1 := Lib.hid (mulP a d (by omega) (by omega))
  have H2 := Lib.hid (mulP c b (by omega) (by omega))
  have H3 := Lib.hid (mulP b d (by omega) (by omega))
  have H4 := Lib.hid (subP (ofI (valI a * valI d)) (ofI (valI c * valI b)) (by have := mul_len ha hd; omega) (by have := mul_len hc hb; omega))
  rw [valI_ofI, valI_ofI] at H4
  generalize ofI (valI a * valI d - valI c * valI b) = z at *
  generalize ofI (valI a * valI d) = z1 at *
  generalize ofI (valI c * valI b) = z2 at *
  generalize ofI (valI b * valI d) = z3 at *
  have hq := mulCell hM
  have HX : Hid (Ext w w) := Lib.hid (Ext.refl w)
  clear hE hM ha hb hc hd
  go_enter Tryz.func162, Tryz.ntmps162
  go_wp2_with fail
  replace HX : Hid (Ext w w.drew) := Lib.hid HX.out.drew
  go_region_held3 (fun w' => w'.cell? ⟨g, 0, none⟩ = some mulV)
    (go_keep)
    (first
      | (go_at_call 160; ((with_reducible refine (H1.out _ (HE.out.ext HX.out)).mono ?_); rintro e w1 ⟨rfl, hx⟩); (replace HX := Lib.hid (HX.out.trans hx)); (have q1 := mulCell (HM.out.ext HX.out)); clear hx H1)
      | (go_at_call 160; ((with_reducible refine (H2.out _ (HE.out.ext HX.out)).mono ?_); rintro e w2 ⟨rfl, hx⟩); (replace HX := Lib.hid (HX.out.trans hx)); (have q2 := mulCell (HM.out.ext HX.out)); clear hx H2)
      | (go_at_call 160; ((with_reducible refine (H3.out _ (HE.out.ext HX.out)).mono ?_); rintro e w3 ⟨rfl, hx⟩); (replace HX := Lib.hid (HX.out.trans hx)); (have q3 := mulCell (HM.out.ext HX.out)); clear hx H3)
      | (go_at_call 27; ((with_reducible refine (H4.out _ (HE.out.ext HX.out)).mono ?_); rintro e w4 ⟨rfl, hx⟩); (replace HX := Lib.hid (HX.out.trans hx)); (have q4 := mulCell (HM.out.ext HX.out)); clear hx H4))
  all_goals
    go_wp2_with fail
    go_ret2
    exact ⟨rfl, HX.out⟩
set_option maxRecDepth 100000 in
set_option maxHeartbeats 2000000 in
theorem opTimes (g : Nat) (a b c d : Bs) (ha : a.length ≤ 30000) (hb : b.length ≤ 30000) (hc : c.length ≤ 30000) (hd : d.length ≤ 30000) :
    OpAt 163 g a b c d (ofI (valI a * valI c)) (ofI (valI b * valI d)) := by
  intro w hE hM
  have HE := Lib.hid hE
  have HM := Lib.hid hM
  have H1 := Lib.hid (mulP a c (by omega) (by omega))
  have H3 := Lib.hid (mulP b d (by omega) (by omega))
  generalize ofI (valI a * valI c) = z1 at *
  generalize ofI (valI b * valI d) = z3 at *
  have hq := mulCell hM
  have HX : Hid (Ext w w) := Lib.hid (Ext.refl w)
  clear hE hM ha hb hc hd
  go_enter Tryz.func163, Tryz.ntmps163
  go_wp2_with fail
  replace HX : Hid (Ext w w.drew) := Lib.hid HX.out.drew
  go_region_held3 (fun w' => w'.cell? ⟨g, 0, none⟩ = some mulV)
    (go_keep)
    (first
      | (go_at_call 160; ((with_reducible refine (H1.out _ (HE.out.ext HX.out)).mono ?_); rintro e w1 ⟨rfl, hx⟩); (replace HX := Lib.hid (HX.out.trans hx)); (have q1 := mulCell (HM.out.ext HX.out)); clear hx H1)
      | (go_at_call 160; ((with_reducible refine (H3.out _ (HE.out.ext HX.out)).mono ?_); rintro e w3 ⟨rfl, hx⟩); (replace HX := Lib.hid (HX.out.trans hx)); (have q3 := mulCell (HM.out.ext HX.out)); clear hx H3))
  all_goals
    go_wp2_with fail
    go_ret2
    exact ⟨rfl, HX.out⟩
end Go.Proofs.YthgpheopnhajaaaGreatDoor

/- The walks over the program's fractions: the list of the operations, apply, Add, Sub, Mul, Compare. -/
namespace Go.Proofs.YthgpheopnhajaaaGreatDoor
open Go.RowKit
attribute [local go_sem] size_bs toList_bs
/-- the closure of an operation -/
abbrev opV (k g : Nat) : Value := .func (.func k) #[] #[.pointer (some ⟨g, 0, none⟩)]
theorem results_op4 {fn : Func} {a : Tmp} (h : fn.results = #[.cell a 156]) (tmps : Array Value) (w : World) (g : Nat) (x y z u : Value) (ha : tmps.getD a undef = .pointer (some ⟨g, 0, none⟩)) (hb : Blk w g 156 #[x, y, z, u]) :
    (results fn tmps).run Tryz.prog w = .ok (.agg #[x, y, z, u]) w := by
  have h0 := hb.cell 0
  have h1 := hb.cell 1
  have h2 := hb.cell 2
  have h3 := hb.cell 3
  simp only [List.getElem?_toArray, List.getElem?_cons_zero, List.getElem?_cons_succ] at h0 h1 h2 h3
  unfold results
  rw [h]
  simp only [List.mapM_toArray, List.mapM_cons, List.mapM_nil, ha]
  go_simp
def OpsEnds (w : World) (e : Ending) (w' : World) : Prop :=
  ∃ g, e = .returned (.agg #[opV 161 g, opV 162 g, opV 163 g, opV 164 g]) ∧ Ext w w' ∧ MulAt w' g
set_option maxRecDepth 100000 in
set_option maxHeartbeats 2000000 in
theorem fracOps (w : World) : Calls Tryz.prog 95 #[] w (OpsEnds w) := by
  go_enter Tryz.func95, Tryz.ntmps95
  go_wp2_with fail
  refine bodyPost_ret (results_op4 rfl _ _ w.heap.size _ _ _ _ rfl ((Blk.new w _ _).alloc _)) rfl ⟨w.heap.size + 1, rfl, (Ext.new _ _).alloc _, Blk.newAt _ _ _ _ (by simp)⟩
set_option maxRecDepth 100000 in
set_option maxHeartbeats 2000000 in
/-- an operation applied to two fractions -/
theorem fracApply (k g : Nat) (hk : ∀ args w, (callFunc k args).run Tryz.prog w = .ok (.enter k args) w) (f h : Fr) (n m : Bs) (h2 : f.den.length ≤ 90000) (h4 : h.den.length ≤ 90000) (hO : OpAt k g f.num (dn f) h.num (dn h) n m) (hn : n.length ≤ 90000) (hm : m.length ≤ 90000) (h0 : valI m ≠ 0)
    (w : World) (hE : Env w) (hM : MulAt w g) :
    Calls Tryz.prog 94 #[opV k g, fv f, fv h] w fun e w' => e = .returned (fv (ofQ (Rat.divInt (valI n) (valI m)))) ∧ Ext w w' := by
  have HE := Lib.hid hE
  have HM := Lib.hid hM
  have HP1 := Lib.hid (fracParts f h2)
  have HP2 := Lib.hid (fracParts h h4)
  have HO := Lib.hid hO
  have HMD := Lib.hid (fracMade n m hn hm h0)
  generalize ofQ (Rat.divInt (valI n) (valI m)) = r at *
  generalize dn f = d1 at *
  generalize dn h = d2 at *
  obtain ⟨n1, e1⟩ := f
  obtain ⟨n2, e2⟩ := h
  clear hE hM hO hn hm h0 h2 h4
  have HB := Lib.hid (Blk.newAt ((w.alloc (.cells #[.string (bs n1), .string (bs e1)] 26)).alloc (.cells #[.string (bs n2), .string (bs e2)] 26)) 26 #[.string ⟨#[]⟩, .string ⟨#[]⟩] (w.heap.size + 1 + 1) (by simp))
  have HB2 := Lib.hid ((Blk.newAt (w.alloc (.cells #[.string (bs n1), .string (bs e1)] 26)) 26 #[.string (bs n2), .string (bs e2)] (w.heap.size + 1) (by simp)).alloc (.cells #[.string ⟨#[]⟩, .string ⟨#[]⟩] 26))
  have HX0 : Hid (Ext w (((w.alloc (.cells #[.string (bs n1), .string (bs e1)] 26)).alloc (.cells #[.string (bs n2), .string (bs e2)] 26)).alloc (.cells #[.string ⟨#[]⟩, .string ⟨#[]⟩] 26))) := Lib.hid (((Ext.new _ _).alloc _).alloc _)
  go_enter Tryz.func94, Tryz.ntmps94
  go_wp2_with fail
  refine (HP1.out _ (HE.out.ext HX0.out)).mono ?_
  rintro e w1 ⟨rfl, hx1⟩
  obtain ⟨q0, q1, _, _⟩ := frBlk HB2.out hx1
  replace HB := Lib.hid (HB.out.ext hx1)
  have HX := Lib.hid (HX0.out.trans hx1)
  clear hx1
  go_wp2_with fail
  refine (HP2.out _ (HE.out.ext HX.out)).mono ?_
  rintro e w2 ⟨rfl, hx1⟩
  replace HB := Lib.hid (HB.out.ext hx1)
  replace HX := Lib.hid (HX.out.trans hx1)
  clear hx1
  go_wp2_with fail
  refine (HO.out _ (HE.out.ext HX.out) (HM.out.ext HX.out)).mono ?_
  rintro e w3 ⟨rfl, hx1⟩
  replace HB := Lib.hid (HB.out.ext hx1)
  replace HX := Lib.hid (HX.out.trans hx1)
  clear hx1
  go_wp2_with fail
  refine (HMD.out _ (HE.out.ext HX.out)).mono ?_
  rintro e w4 ⟨rfl, hx1⟩
  obtain ⟨q0, q1, f0, f1⟩ := frBlk HB.out hx1
  replace HB := Lib.hid (HB.out.ext hx1)
  replace HX := Lib.hid (HX.out.trans hx1)
  clear hx1
  go_wp2_with fail
  refine bodyPost_ret (results_fr rfl _ _ (w.heap.size + 1 + 1) (.string (bs r.num)) (.string (bs r.den)) rfl ((HB.out.set_ 0 _).set_ 1 _)) rfl ?_
  exact ⟨rfl, (HX.out.setCell (p := ⟨w.heap.size + 1 + 1, 0, none⟩) (by show w.heap.size ≤ w.heap.size + 1 + 1; omega) _).setCell (p := ⟨w.heap.size + 1 + 1, 1, none⟩) (by show w.heap.size ≤ w.heap.size + 1 + 1; omega) _⟩
theorem idx4_1 (a b c d : Value) (W : World) : (Instr.index 156 (.agg #[a, b, c, d]) (.int .i64 1)).run Tryz.prog W = .ok b W := by kernel_rfl
set_option maxRecDepth 100000 in
set_option maxHeartbeats 2000000 in
theorem fracSub (f h : Fr) (h1 : f.num.length ≤ 20000) (h2 : f.den.length ≤ 20000) (h3 : h.num.length ≤ 20000) (h4 : h.den.length ≤ 20000) :
    Pure 97 #[fv f, fv h] (fv (ofQ (frQ f - frQ h))) := by
  intro w hE
  have HE := Lib.hid hE
  have hd1 : (dn f).length ≤ 30000 := dn_len f (by omega) (by omega)
  have hd2 : (dn h).length ≤ 30000 := dn_len h (by omega) (by omega)
  have hden : (ofI (valI (dn f) * valI (dn h))).length ≤ 90000 := by have := mul_len hd1 hd2; omega
  have hnum : (ofI (valI f.num * valI (dn h) - valI h.num * valI (dn f))).length ≤ 90000 := by
    have k1 := mul_lt10 (valI_lt10 (Nat.le_trans h1 (by omega : 20000 ≤ 30000))) (valI_lt10 hd2)
    have k2 := mul_lt10 (valI_lt10 (Nat.le_trans h3 (by omega : 20000 ≤ 30000))) (valI_lt10 hd1)
    rw [← Int.natAbs_mul] at k1 k2
    have := ofI_lt10 (Nat.lt_of_le_of_lt (Int.natAbs_sub_le (valI f.num * valI (dn h)) (valI h.num * valI (dn f))) (add_lt10 k1 k2))
    omega
  have HA := Lib.hid (fun g => fracApply 162 g (fun _ _ => by rfl) f h _ _ (by omega) (by omega) (opMinus g f.num (dn f) h.num (dn h) (by omega) hd1 (by omega) hd2) hnum hden (by rw [valI_ofI, valI_dn, valI_dn]; exact Int.mul_ne_zero (frD_ne f) (frD_ne h)))
  have he : Rat.divInt (valI f.num * valI (dn h) - valI h.num * valI (dn f)) (valI (dn f) * valI (dn h)) = frQ f - frQ h := by
    rw [valI_dn, valI_dn]; exact (Rat.divInt_sub_divInt _ _ (frD_ne f) (frD_ne h)).symm
  simp only [valI_ofI, he] at HA
  generalize ofQ (frQ f - frQ h) = r at *
  obtain ⟨n1, e1⟩ := f
  obtain ⟨n2, e2⟩ := h
  clear hE hd1 hd2 hden hnum he h1 h2 h3 h4
  have hix := idx4_1
  have hn1 : w.heap.size ≠ w.heap.size + 1 + 1 := by omega
  have hn2 : w.heap.size + 1 + 1 ≠ w.heap.size := by omega
  have hn3 : ¬ (w.heap.size = w.heap.size + 1 + 1) := by omega
  have HB := Lib.hid (Blk.newAt ((w.alloc (.cells #[.string (bs n1), .string (bs e1)] 26)).alloc (.cells #[.string (bs n2), .string (bs e2)] 26)) 26 #[.string ⟨#[]⟩, .string ⟨#[]⟩] (w.heap.size + 1 + 1) (by simp))
  have HB2 := Lib.hid ((Blk.newAt (w.alloc (.cells #[.string (bs n1), .string (bs e1)] 26)) 26 #[.string (bs n2), .string (bs e2)] (w.heap.size + 1) (by simp)).alloc (.cells #[.string ⟨#[]⟩, .string ⟨#[]⟩] 26))
  have HB1 := Lib.hid (((Blk.new w 26 #[.string (bs n1), .string (bs e1)]).alloc (.cells #[.string (bs n2), .string (bs e2)] 26)).alloc (.cells #[.string ⟨#[]⟩, .string ⟨#[]⟩] 26))
  have HX : Hid (Ext w (((w.alloc (.cells #[.string (bs n1), .string (bs e1)] 26)).alloc (.cells #[.string (bs n2), .string (bs e2)] 26)).alloc (.cells #[.string ⟨#[]⟩, .string ⟨#[]⟩] 26))) := Lib.hid (((Ext.new _ _).alloc _).alloc _)
  go_enter Tryz.func97, Tryz.ntmps97
  go_wp2_with fail
  generalize ((w.alloc (.cells #[.string (bs n1), .string (bs e1)] 26)).alloc (.cells #[.string (bs n2), .string (bs e2)] 26)).alloc (.cells #[.string ⟨#[]⟩, .string ⟨#[]⟩] 26) = W0 at *
  obtain ⟨a0, a1, _, _⟩ := frBlk HB1.out (Ext.refl W0)
  obtain ⟨b0, b1, _, _⟩ := frBlk HB2.out (Ext.refl W0)
  obtain ⟨c0, c1, d0, d1⟩ := frBlk HB.out (Ext.refl W0)
  have HD : Hid (Ext W0 W0.drew) := Lib.hid (Ext.refl W0).drew
  go_region_held3 (fun w' => w'.cell? ⟨w.heap.size, 0, none⟩ = some (.string (bs n1)) ∧ w'.cell? ⟨w.heap.size, 1, none⟩ = some (.string (bs e1)) ∧ w'.cell? ⟨w.heap.size + 1, 0, none⟩ = some (.string (bs n2)) ∧ w'.cell? ⟨w.heap.size + 1, 1, none⟩ = some (.string (bs e2)))
    (go_keep)
    (first
      | (go_at_call 95; ((with_reducible refine (fracOps _).mono ?_); rintro e w1 ⟨g, rfl, hx, hm⟩); (replace HD := Lib.hid (HD.out.trans hx)); (have HM := Lib.hid hm); (obtain ⟨a2, a3, _, _⟩ := frBlk HB1.out HD.out); (obtain ⟨b2, b3, _, _⟩ := frBlk HB2.out HD.out); (obtain ⟨c2, c3, d2, d3⟩ := frBlk HB.out HD.out); clear hx hm)
      | (go_at_call 94; ((with_reducible refine (HA.out _ _ (HE.out.ext (HX.out.trans HD.out)) HM.out).mono ?_); rintro e w2 ⟨rfl, hx⟩); (replace HD := Lib.hid (HD.out.trans hx)); (obtain ⟨a2, a3, _, _⟩ := frBlk HB1.out HD.out); (obtain ⟨b2, b3, _, _⟩ := frBlk HB2.out HD.out); (obtain ⟨c2, c3, d2, d3⟩ := frBlk HB.out HD.out); clear hx))
  all_goals
    go_wp2_with fail
    refine bodyPost_ret (results_fr rfl _ _ (w.heap.size + 1 + 1) (.string (bs r.num)) (.string (bs r.den)) rfl (((HB.out.ext HD.out).set_ 0 _).set_ 1 _)) rfl ?_
    exact ⟨rfl, ((HX.out.trans HD.out).setCell (p := ⟨w.heap.size + 1 + 1, 0, none⟩) (by show w.heap.size ≤ w.heap.size + 1 + 1; omega) _).setCell (p := ⟨w.heap.size + 1 + 1, 1, none⟩) (by show w.heap.size ≤ w.heap.size + 1 + 1; omega) _⟩
theorem idx4_2 (a b c d : Value) (W : World) : (Instr.index 156 (.agg #[a, b, c, d]) (.int .i64 2)).run Tryz.prog W = .ok c W := by kernel_rfl
set_option maxRecDepth 100000 in
set_option maxHeartbeats 2000000 in
theorem fracMul (f h : Fr) (h1 : f.num.length ≤ 20000) (h2 : f.den.length ≤ 20000) (h3 : h.num.length ≤ 20000) (h4 : h.den.length ≤ 20000) :
    Pure 38 #[fv f, fv h] (fv (ofQ (frQ f * frQ h))) := by
  intro w hE
  have HE := Lib.hid hE
  have hd1 : (dn f).length ≤ 30000 := dn_len f (by omega) (by omega)
  have hd2 : (dn h).length ≤ 30000 := dn_len h (by omega) (by omega)
  have hden : (ofI (valI (dn f) * valI (dn h))).length ≤ 90000 := by have := mul_len hd1 hd2; omega
  have hnum : (ofI (valI f.num * valI h.num)).length ≤ 90000 := by have := mul_len h1 h3; omega
  have HA := Lib.hid (fun g => fracApply 163 g (fun _ _ => by rfl) f h _ _ (by omega) (by omega) (opTimes g f.num (dn f) h.num (dn h) (by omega) hd1 (by omega) hd2) hnum hden (by rw [valI_ofI, valI_dn, valI_dn]; exact Int.mul_ne_zero (frD_ne f) (frD_ne h)))
  have he : Rat.divInt (valI f.num * valI h.num) (valI (dn f) * valI (dn h)) = frQ f * frQ h := by
    rw [valI_dn, valI_dn]; exact (Rat.divInt_mul_divInt _ _).symm
  simp only [valI_ofI, he] at HA
  generalize ofQ (frQ f * frQ h) = r at *
  obtain ⟨n1, e1⟩ := f
  obtain ⟨n2, e2⟩ := h
  clear hE hd1 hd2 hden hnum he h1 h2 h3 h4
  have hix := idx4_2
  have hn1 : w.heap.size ≠ w.heap.size + 1 + 1 := by omega
  have hn2 : w.heap.size + 1 + 1 ≠ w.heap.size := by omega
  have hn3 : ¬ (w.heap.size = w.heap.size + 1 + 1) := by omega
  have HB := Lib.hid (Blk.newAt ((w.alloc (.cells #[.string (bs n1), .string (bs e1)] 26)).alloc (.cells #[.string (bs n2), .string (bs e2)] 26)) 26 #[.string ⟨#[]⟩, .string ⟨#[]⟩] (w.heap.size + 1 + 1) (by simp))
  have HB2 := Lib.hid ((Blk.newAt (w.alloc (.cells #[.string (bs n1), .string (bs e1)] 26)) 26 #[.string (bs n2), .string (bs e2)] (w.heap.size + 1) (by simp)).alloc (.cells #[.string ⟨#[]⟩, .string ⟨#[]⟩] 26))
  have HB1 := Lib.hid (((Blk.new w 26 #[.string (bs n1), .string (bs e1)]).alloc (.cells #[.string (bs n2), .string (bs e2)] 26)).alloc (.cells #[.string ⟨#[]⟩, .string ⟨#[]⟩] 26))
  have HX : Hid (Ext w (((w.alloc (.cells #[.string (bs n1), .string (bs e1)] 26)).alloc (.cells #[.string (bs n2), .string (bs e2)] 26)).alloc (.cells #[.string ⟨#[]⟩, .string ⟨#[]⟩] 26))) := Lib.hid (((Ext.new _ _).alloc _).alloc _)
  go_enter Tryz.func38, Tryz.ntmps38
  go_wp2_with fail
  generalize ((w.alloc (.cells #[.string (bs n1), .string (bs e1)] 26)).alloc (.cells #[.string (bs n2), .string (bs e2)] 26)).alloc (.cells #[.string ⟨#[]⟩, .string ⟨#[]⟩] 26) = W0 at *
  obtain ⟨a0, a1, _, _⟩ := frBlk HB1.out (Ext.refl W0)
  obtain ⟨b0, b1, _, _⟩ := frBlk HB2.out (Ext.refl W0)
  obtain ⟨c0, c1, d0, d1⟩ := frBlk HB.out (Ext.refl W0)
  have HD : Hid (Ext W0 W0.drew) := Lib.hid (Ext.refl W0).drew
  go_region_held3 (fun w' => w'.cell? ⟨w.heap.size, 0, none⟩ = some (.string (bs n1)) ∧ w'.cell? ⟨w.heap.size, 1, none⟩ = some (.string (bs e1)) ∧ w'.cell? ⟨w.heap.size + 1, 0, none⟩ = some (.string (bs n2)) ∧ w'.cell? ⟨w.heap.size + 1, 1, none⟩ = some (.string (bs e2)))
    (go_keep)
    (first
      | (go_at_call 95; ((with_reducible refine (fracOps _).mono ?_); rintro e w1 ⟨g, rfl, hx, hm⟩); (replace HD := Lib.hid (HD.out.trans hx)); (have HM := Lib.hid hm); (obtain ⟨a2, a3, _, _⟩ := frBlk HB1.out HD.out); (obtain ⟨b2, b3, _, _⟩ := frBlk HB2.out HD.out); (obtain ⟨c2, c3, d2, d3⟩ := frBlk HB.out HD.out); clear hx hm)
      | (go_at_call 94; ((with_reducible refine (HA.out _ _ (HE.out.ext (HX.out.trans HD.out)) HM.out).mono ?_); rintro e w2 ⟨rfl, hx⟩); (replace HD := Lib.hid (HD.out.trans hx)); (obtain ⟨a2, a3, _, _⟩ := frBlk HB1.out HD.out); (obtain ⟨b2, b3, _, _⟩ := frBlk HB2.out HD.out); (obtain ⟨c2, c3, d2, d3⟩ := frBlk HB.out HD.out); clear hx))
  all_goals
    go_wp2_with fail
    refine bodyPost_ret (results_fr rfl _ _ (w.heap.size + 1 + 1) (.string (bs r.num)) (.string (bs r.den)) rfl (((HB.out.ext HD.out).set_ 0 _).set_ 1 _)) rfl ?_
    exact ⟨rfl, ((HX.out.trans HD.out).setCell (p := ⟨w.heap.size + 1 + 1, 0, none⟩) (by show w.heap.size ≤ w.heap.size + 1 + 1; omega) _).setCell (p := ⟨w.heap.size + 1 + 1, 1, none⟩) (by show w.heap.size ≤ w.heap.size + 1 + 1; omega) _⟩
set_option maxRecDepth 100000 in
set_option maxHeartbeats 2000000 in
theorem fracCmp (f h : Fr) (h1 : f.num.length ≤ 20000) (h2 : f.den.length ≤ 20000) (h3 : h.num.length ≤ 20000) (h4 : h.den.length ≤ 20000) :
    Pure 39 #[fv f, fv h] (.int .i64 (cmpQ (frQ f) (frQ h))) := by
  intro w hE
  have HE := Lib.hid hE
  have HS := Lib.hid (fracSub f h h1 h2 h3 h4)
  have hq := (frQ_qb h1 h2 (by omega)).sub (frQ_qb h3 h4 (by omega))
  have hl1 := hq.num_len
  have hl2 := hq.den_len
  have HP := Lib.hid (fracParts (ofQ (frQ f - frQ h)) (by omega))
  have HC := Lib.hid (cmp0P (ofQ (frQ f - frQ h)).num (by omega))
  rw [show valI (ofQ (frQ f - frQ h)).num = (frQ f - frQ h).num from frN_ofQ _, cmpQ_num] at HC
  clear hq hl1 hl2
  generalize cmpQ (frQ f) (frQ h) = cc at *
  generalize dn (ofQ (frQ f - frQ h)) = dd at *
  generalize ofQ (frQ f - frQ h) = r at *
  obtain ⟨n1, e1⟩ := f
  obtain ⟨n2, e2⟩ := h
  clear hE h1 h2 h3 h4
  have HX0 : Hid (Ext w ((w.alloc (.cells #[.string (bs n1), .string (bs e1)] 26)).alloc (.cells #[.string (bs n2), .string (bs e2)] 26))) := Lib.hid ((Ext.new _ _).alloc _)
  go_enter Tryz.func39, Tryz.ntmps39
  go_wp2_with fail
  refine (HS.out _ (HE.out.ext HX0.out)).mono ?_
  rintro e w1 ⟨rfl, hx1⟩
  have HX := Lib.hid (HX0.out.trans hx1)
  clear hx1
  go_wp2_with fail
  refine (HP.out _ (HE.out.ext HX.out)).mono ?_
  rintro e w2 ⟨rfl, hx1⟩
  replace HX := Lib.hid (HX.out.trans hx1)
  clear hx1
  go_wp2_with fail
  refine (HC.out _ (HE.out.ext HX.out)).mono ?_
  rintro e w3 ⟨rfl, hx1⟩
  replace HX := Lib.hid (HX.out.trans hx1)
  clear hx1
  go_wp2_with fail
  go_ret
  exact ⟨rfl, HX.out⟩
end Go.Proofs.YthgpheopnhajaaaGreatDoor

/- The walks over the reference's Compare and Sign. -/
namespace Go.Proofs.YthgpheopnhajaaaGreatDoor
open Go.RowKit
attribute [local go_sem] size_bs toList_bs
theorem cmp_less {m : Bool} {x y : Nat} (h : x < y) : cmpI (sgn m x) (sgn m y) = if m then 1 else -1 := by
  unfold cmpI sgn; cases m <;> simp <;> omega
theorem cmp_more {m : Bool} {x y : Nat} (h : y < x) : cmpI (sgn m x) (sgn m y) = if m then -1 else 1 := by
  unfold cmpI sgn; cases m <;> simp <;> omega
theorem cmp_same (x : Int) : cmpI x x = 0 := by unfold cmpI; simp
theorem cmp_apart {m n : Bool} {x y : Nat} (hm : m = true → 0 < x) (hn : n = true → 0 < y) (h : m ≠ n) : cmpI (sgn m x) (sgn n y) = if m then -1 else 1 := by
  unfold cmpI sgn
  cases m <;> cases n <;> simp at h hm hn <;> simp <;> omega
set_option maxRecDepth 100000 in
set_option maxHeartbeats 2000000 in
theorem refCmp (a b : Bs) (w : World) (ha : a.length ≤ 1000000000) (hb : b.length ≤ 1000000000) :
    Calls Tryz.prog 130 #[.string (bs a), .string (bs b)] w fun e w' => e = .returned (.int .i64 (cmpI (valI a) (valI b))) ∧ w = w' := by
  have HD1 := Lib.hid (fun w => refDigits a w ha)
  have HD2 := Lib.hid (fun w => refDigits b w hb)
  have hla : (mag a).length ≤ 1000000000 := Nat.le_trans (mag_le a) ha
  have hlb : (mag b).length ≤ 1000000000 := Nat.le_trans (mag_le b) hb
  have HAP := Lib.hid (cmp_apart (m := neg a) (n := neg b) (x := natOf (mag a)) (y := natOf (mag b)) neg_pos neg_pos)
  have HS1 := Lib.hid (fun h => shorter_lt (mag_all a) (mag_all b) (mag_lead b) h)
  have HS2 := Lib.hid (fun h => shorter_lt (mag_all b) (mag_all a) (mag_lead a) h)
  have HE1 := Lib.hid (fun h => (lt_digits (mag_all a) (mag_all b) h).1)
  have HE2 := Lib.hid (fun h => (lt_digits (mag_all b) (mag_all a) h).1)
  have HV : Hid (valI a = sgn (neg a) (natOf (mag a)) ∧ valI b = sgn (neg b) (natOf (mag b))) := Lib.hid ⟨rfl, rfl⟩
  rw [HV.out.1, HV.out.2]
  clear HV ha hb
  generalize neg a = m at *
  generalize neg b = n at *
  generalize mag a = s at *
  generalize mag b = t at *
  by_cases hmn : m = n
  · subst hmn
    clear HAP
    rcases Nat.lt_trichotomy s.length t.length with h | h | h
    · have HC := Lib.hid (cmp_less (m := m) (HS1.out h))
      generalize cmpI (sgn m (natOf s)) (sgn m (natOf t)) = z at *
      have hne : ((s.length : Int) != (t.length : Int)) = true := by rw [bne_iff_ne]; omega
      cases m
      all_goals
        go_enter Tryz.func130, Tryz.ntmps130
        go_wp2_with fail
        refine (HD1.out _).mono ?_
        rintro e w1 ⟨rfl, rfl⟩
        go_wp2_with fail
        refine (HD2.out _).mono ?_
        rintro e w1 ⟨rfl, rfl⟩
        go_wp2_with fail
        go_ret
        exact ⟨by rw [HC.out]; rfl, rfl⟩
    · have hne : ((s.length : Int) != (t.length : Int)) = false := by rw [bne_eq_false_iff_eq]; omega
      by_cases h1 : Op.bytesLess s t = true
      · have HC := Lib.hid (cmp_less (m := m) (HE1.out h h1))
        generalize cmpI (sgn m (natOf s)) (sgn m (natOf t)) = z at *
        cases m
        all_goals
          go_enter Tryz.func130, Tryz.ntmps130
          go_wp2_with fail
          refine (HD1.out _).mono ?_
          rintro e w1 ⟨rfl, rfl⟩
          go_wp2_with fail
          refine (HD2.out _).mono ?_
          rintro e w1 ⟨rfl, rfl⟩
          go_wp2_with fail
          go_ret
          exact ⟨by rw [HC.out]; rfl, rfl⟩
      · have h1f : Op.bytesLess s t = false := by simpa using h1
        by_cases h2 : Op.bytesLess t s = true
        · have HC := Lib.hid (cmp_more (m := m) (HE2.out h.symm h2))
          have hst : (s == t) = false := by
            rw [beq_eq_false_iff_ne]; intro e; subst e
            rw [h1f] at h2; cases h2
          generalize cmpI (sgn m (natOf s)) (sgn m (natOf t)) = z at *
          cases m
          all_goals
            go_enter Tryz.func130, Tryz.ntmps130
            go_wp2_with fail
            refine (HD1.out _).mono ?_
            rintro e w1 ⟨rfl, rfl⟩
            go_wp2_with fail
            refine (HD2.out _).mono ?_
            rintro e w1 ⟨rfl, rfl⟩
            go_wp2_with fail
            go_ret
            exact ⟨by rw [HC.out]; rfl, rfl⟩
        · have h2f : Op.bytesLess t s = false := by simpa using h2
          have est : s = t := lt_total s t h1f h2f
          have HC : Hid (cmpI (sgn m (natOf s)) (sgn m (natOf t)) = 0) := Lib.hid (by rw [est, cmp_same])
          generalize cmpI (sgn m (natOf s)) (sgn m (natOf t)) = z at *
          have hst : (s == t) = true := by rw [est]; simp
          clear est
          cases m
          all_goals
            go_enter Tryz.func130, Tryz.ntmps130
            go_wp2_with fail
            refine (HD1.out _).mono ?_
            rintro e w1 ⟨rfl, rfl⟩
            go_wp2_with fail
            refine (HD2.out _).mono ?_
            rintro e w1 ⟨rfl, rfl⟩
            go_wp2_with fail
            go_ret
            exact ⟨by rw [HC.out]; rfl, rfl⟩
    · have HC := Lib.hid (cmp_more (m := m) (HS2.out h))
      generalize cmpI (sgn m (natOf s)) (sgn m (natOf t)) = z at *
      have hne : ((s.length : Int) != (t.length : Int)) = true := by rw [bne_iff_ne]; omega
      cases m
      all_goals
        go_enter Tryz.func130, Tryz.ntmps130
        go_wp2_with fail
        refine (HD1.out _).mono ?_
        rintro e w1 ⟨rfl, rfl⟩
        go_wp2_with fail
        refine (HD2.out _).mono ?_
        rintro e w1 ⟨rfl, rfl⟩
        go_wp2_with fail
        go_ret
        exact ⟨by rw [HC.out]; rfl, rfl⟩
  · have HC := Lib.hid (HAP.out hmn)
    generalize cmpI (sgn m (natOf s)) (sgn n (natOf t)) = z at *
    clear HAP
    cases m <;> cases n <;> simp at hmn
    all_goals
      go_enter Tryz.func130, Tryz.ntmps130
      go_wp2_with fail
      refine (HD1.out _).mono ?_
      rintro e w1 ⟨rfl, rfl⟩
      go_wp2_with fail
      refine (HD2.out _).mono ?_
      rintro e w1 ⟨rfl, rfl⟩
      go_wp2_with fail
      go_ret
      exact ⟨by rw [HC.out]; rfl, rfl⟩
theorem valI_nilR : valI [] = 0 := by decide
set_option maxHeartbeats 1000000 in
theorem refSign (a : Bs) (w : World) (ha : a.length ≤ 1000000000) :
    Calls Tryz.prog 75 #[.string (bs a)] w fun e w' => e = .returned (.int .i64 (cmpI (valI a) 0)) ∧ w = w' := by
  have HC := Lib.hid (refCmp a [] w ha (by simp))
  rw [valI_nilR] at HC
  generalize cmpI (valI a) 0 = z at *
  go_enter Tryz.func75, Tryz.ntmps75
  go_wp2_with fail
  refine HC.out.mono ?_
  rintro e w1 ⟨rfl, rfl⟩
  go_wp2_with fail
  go_ret
  exact ⟨rfl, rfl⟩
end Go.Proofs.YthgpheopnhajaaaGreatDoor

/- Slices of ints that are rewritten in place (as RowU, printed from it); the reference's product of magnitudes. -/
namespace Go.Proofs.YthgpheopnhajaaaGreatDoor
open Go.RowKit
attribute [local go_sem] size_bs toList_bs
def RowI (w : World) (g cap : Nat) (gs : List Nat) : Prop := ∃ cur, Row w g 3 1 gs.length cap (icells gs) cur
theorem RowI.cell {w : World} {g cap : Nat} {gs : List Nat} (h : RowI w g cap gs) {k x : Nat} (hk : gs[k]? = some x) : w.cell? ⟨g, k, none⟩ = some (.int .i64 x) := by
  obtain ⟨cur, h⟩ := h; exact h.cell (by simp [icells, hk])
theorem RowI.frozen {w : World} {g cap : Nat} {gs : List Nat} (h : RowI w g cap gs) (k : Nat) : w.frozen? ⟨g, k, none⟩ = false := by
  obtain ⟨cur, h⟩ := h; exact h.frozen k
theorem RowI.lt {w : World} {g cap : Nat} {gs : List Nat} (h : RowI w g cap gs) : g < w.heap.size := by obtain ⟨cur, h⟩ := h; exact h.blk.lt
theorem RowI.reads {w : World} {g cap : Nat} {gs : List Nat} (h : RowI w g cap gs) : RdI w (some ⟨g, 0, none⟩) gs := by obtain ⟨cur, h⟩ := h; exact h.reads
theorem RowI.caps {w : World} {g cap : Nat} {gs : List Nat} (h : RowI w g cap gs) : gs.length ≤ cap ∧ cap ≤ maxLen := by obtain ⟨cur, h⟩ := h; exact ⟨h.le, h.big⟩
theorem RowI.ext {w w' : World} {g cap : Nat} {gs : List Nat} (h : RowI w g cap gs) (hx : Ext w w') : RowI w' g cap gs := by obtain ⟨cur, h⟩ := h; exact ⟨cur, h.ext hx⟩
theorem RowI.set_ {w : World} {g cap : Nat} {gs : List Nat} (h : RowI w g cap gs) (k x : Nat) (_hk : k < gs.length) : RowI (w.setCell ⟨g, k, none⟩ (.int .i64 x)) g cap (gs.set k x) := by
  obtain ⟨cur, h⟩ := h
  have h1 := h.blk.set_ k (.int .i64 x)
  rw [List.setIfInBounds_toArray] at h1
  refine ⟨cur.set k (.int .i64 x), h1, by simp [icells], by simpa using h.le, h.big, by simpa using h.full, ?_⟩
  rw [List.length_set, List.take_set, h.take]; simp [icells, List.map_set]
theorem RowI.put {w : World} {g cap : Nat} {gs : List Nat} (h : RowI w g cap gs) (k : Nat) (z : Int) (x : Nat) (hk : k < gs.length) (hz : z = (x : Int)) : RowI (w.setCell ⟨g, k, none⟩ (.int .i64 z)) g cap (gs.set k x) := by
  subst hz; exact h.set_ k x hk
theorem RowI.drew {w : World} {g cap : Nat} {gs : List Nat} (h : RowI w g cap gs) : RowI w.drew g cap gs := by obtain ⟨cur, h⟩ := h; exact ⟨cur, h.drew⟩
theorem icells_rep (n : Nat) : icells (List.replicate n 0) = List.replicate n (.int .i64 0) := by simp [icells]
/-- the front of a row, cut -/
theorem RowI.cutOwn {w : World} {g cap : Nat} {R : List Nat} {base : Nat} (h : RowI w g cap R) (hb : base ≤ g) : w.ownsRow base 3 1 (.slice (some ⟨g, 0, none⟩) (cutL R).length cap) (cutL R).length (icells (cutL R)) := by
  obtain ⟨cur, h⟩ := h
  have hp := cutL_prefix R
  have hl := cutL_le R
  refine ⟨by simp [icells], .inr ⟨g, cap, cur.toArray, rfl, hb, h.blk, by have := h.le; omega, h.big, by simpa using h.full, ?_⟩⟩
  have ht := h.take
  rw [Nat.mul_one] at ht ⊢
  have : (cur.take R.length).take (cutL R).length = (icells R).take (cutL R).length := by rw [ht]
  rw [List.take_take, Nat.min_eq_left hl] at this
  show cur.take _ = _
  rw [this]
  conv => rhs; rw [hp]
  simp [icells, List.map_take]
theorem RowI.at0 {w : World} {g cap : Nat} {R : List Nat} (h : RowI w g cap R) {k : Nat} (hk : k < R.length) : w.cell? ⟨g, k, none⟩ = some (.int .i64 (at0 R k : Nat)) := by
  rw [at0_lt hk]; exact h.cell (List.getElem?_eq_getElem hk)
theorem RowI.far {w : World} {g cap : Nat} {gs : List Nat} (h : RowI w g cap gs) {g' : Nat} (hne : g ≠ g') (k : Nat) (u : Value) : RowI (w.setCell ⟨g', k, none⟩ u) g cap gs := by
  obtain ⟨cur, h⟩ := h
  exact ⟨cur, { h with blk := h.blk.far (p := ⟨g', k, none⟩) hne u }⟩
def OwnMagI (n : Nat) (w : World) (e : Ending) (w' : World) : Prop :=
  ∃ A c, e = .returned (.slice A (gr n).length c) ∧ w'.ownsRow w.heap.size 3 1 (.slice A (gr n).length c) (gr n).length (icells (gr n)) ∧ Ext w w'
theorem OwnMagI.mag {n : Nat} {w : World} {e : Ending} {w' : World} (h : OwnMagI n w e w') : MagEndsI n w e w' := by
  obtain ⟨A, c, rfl, ho, hx⟩ := h
  exact ⟨A, c, rfl, Reads.own ho, hx, (own_cap ho).1, (own_cap ho).2⟩
/-- how the inner loop of the reference's product stands -/
def MulR (xi : Nat) (gx gy : List Nat) (L i k ca : Nat) (R : List Nat) : Prop :=
  (k ≤ gy.length ∧ MulIn xi gy (gval (gx.take i) * gval gy) L i k ca R) ∨ (k = gy.length + 1 ∧ ca = 0 ∧ MulOut gx gy L (i + 1) R)
theorem MulR.go {xi : Nat} {gx gy : List Nat} {L i k ca : Nat} {R : List Nat} (h : MulR xi gx gy L i k ca R) (hxi : at0 gx i = xi) (hx : xi < B9) (hy : AllB gy) (hL : i + gy.length < L) :
    (R.length = L ∧ AllB R ∧ ca < B9 ∧ k ≤ gy.length + 1) ∧
    ((k ≤ gy.length ∧ (k < gy.length ∨ (¬ k < gy.length ∧ 0 < ca)) ∧ MulR xi gx gy L i (k + 1) ((ca + at0 R (i + k) + xi * at0 gy k) / B9) (R.set (i + k) ((ca + at0 R (i + k) + xi * at0 gy k) % B9))) ∨ (¬ k < gy.length ∧ ca = 0 ∧ MulOut gx gy L (i + 1) R)) := by
  rcases h with ⟨hk, hm⟩ | ⟨hk, hc, ho⟩
  · refine ⟨⟨hm.len, hm.all, hm.cb, by omega⟩, ?_⟩
    by_cases hlt : k < gy.length
    · exact .inl ⟨hk, .inl hlt, .inl ⟨hlt, hm.step hx hy hlt (by omega)⟩⟩
    · have hkl : k = gy.length := by omega
      subst hkl
      rcases Nat.eq_zero_or_pos ca with h0 | h0
      · subst h0
        refine .inr ⟨hlt, rfl, MulOut.next hm.len hm.all ?_ (fun j hj => hm.tail j (by omega))⟩
        rw [hxi]; exact hm.done0 (Nat.le_refl _)
      · refine .inl ⟨hk, .inr ⟨hlt, h0⟩, .inr ⟨rfl, ?_, ?_⟩⟩
        · have hz := hm.tail _ (Nat.le_refl _)
          rw [hz, at0_ge (Nat.le_refl _), Nat.mul_zero, Nat.add_zero]
          exact Nat.div_eq_of_lt hm.cb
        · obtain ⟨d1, d2, d3, d4⟩ := hm.done hL
          have hz := hm.tail _ (Nat.le_refl _)
          have e : (ca + at0 R (i + gy.length) + xi * at0 gy gy.length) % B9 = at0 R (i + gy.length) + ca := by
            rw [hz, at0_ge (Nat.le_refl _), Nat.mul_zero, Nat.add_zero, Nat.zero_add]
            exact Nat.mod_eq_of_lt hm.cb
          rw [e]
          exact MulOut.next d1 d2 (by rw [hxi]; exact d3) d4
  · exact ⟨⟨ho.len, ho.all, by rw [hc]; decide, by omega⟩, .inr ⟨by omega, hc, ho⟩⟩
end Go.Proofs.YthgpheopnhajaaaGreatDoor



/- Plain: the reference's division of magnitudes (a digit found by halving). No program in sight. -/
namespace Go.Proofs.YthgpheopnhajaaaGreatDoor
open Go.RowKit
/-- how the halving stands: the digit T / y lies in low .. high -/
structure BisAt (T y low high : Nat) : Prop where
  lo : low ≤ T / y
  hi : T / y ≤ high
  top : high < B9
theorem BisAt.start {T y : Nat} (hy : 0 < y) (h : T < B9 * y) : BisAt T y 0 (B9 - 1) :=
  ⟨Nat.zero_le _, by have : T / y < B9 := (Nat.div_lt_iff_lt_mul hy).2 h; omega, by decide⟩
theorem BisAt.down {T y low high : Nat} (h : BisAt T y low high) (hy : 0 < y) (hc : ¬ (low + high + 1) / 2 * y ≤ T) : BisAt T y low ((low + high + 1) / 2 - 1) := by
  have h1 : ¬ (low + high + 1) / 2 ≤ T / y := fun h1 => hc ((Nat.le_div_iff_mul_le hy).1 h1)
  have h2 := h.top
  have h3 := h.hi
  have h4 := h.lo
  exact ⟨h4, by omega, by omega⟩
theorem BisAt.fin {T y low high : Nat} (h : BisAt T y low high) (he : ¬ low < high) : low = T / y := by
  have := h.lo; have := h.hi; omega
end Go.Proofs.YthgpheopnhajaaaGreatDoor







/- The reference's division of long numbers. -/
namespace Go.Proofs.YthgpheopnhajaaaGreatDoor
open Go.RowKit
attribute [local go_sem] size_bs toList_bs
structure DwAt (w : World) (g : Nat) (ba bb : Bool) (A A' A1 A2 : Option Addr) (x y q r c c' : Nat) (W : World) : Prop where
  ext : Ext w W
  b1 : Blk W g 230 #[.bool ba, .slice A (gr x).length c]
  b2 : Blk W (g + 1) 230 #[.bool bb, .slice A' (gr y).length c']
  ry : RdI W A' (gr y)
  rq : RdI W A1 (gr q)
  rr : RdI W A2 (gr r)
theorem DwAt.on {w : World} {g : Nat} {ba bb : Bool} {A A' A1 A2 : Option Addr} {x y q r c c' : Nat} {W W' : World} (h : DwAt w g ba bb A A' A1 A2 x y q r c c' W) (hx : Ext W W') : DwAt w g ba bb A A' A1 A2 x y q r c c' W' :=
  ⟨h.ext.trans hx, h.b1.ext hx, h.b2.ext hx, h.ry.ext hx, h.rq.ext hx, h.rr.ext hx⟩
theorem DwAt.cells {w : World} {g : Nat} {ba bb : Bool} {A A' A1 A2 : Option Addr} {x y q r c c' : Nat} {W : World} (h : DwAt w g ba bb A A' A1 A2 x y q r c c' W) :
    W.cell? ⟨g, 0, none⟩ = some (.bool ba) ∧ W.cell? ⟨g, 1, none⟩ = some (.slice A (gr x).length c) ∧ W.cell? ⟨g + 1, 0, none⟩ = some (.bool bb) ∧ W.cell? ⟨g + 1, 1, none⟩ = some (.slice A' (gr y).length c') :=
  ⟨h.b1.cell 0, h.b1.cell 1, h.b2.cell 0, h.b2.cell 1⟩
/-- where both numbers stand -/
structure MidAt (w : World) (P R G : Nat) (sp sr sg : Bool) (A1 A2 A' : Option Addr) (n1 n2 y c1 c2 c' : Nat) (W : World) : Prop where
  ext : Ext w W
  bp : Blk W P 230 #[.bool sp, .slice A1 (gr n1).length c1]
  br : Blk W R 230 #[.bool sr, .slice A2 (gr n2).length c2]
  bg : Blk W G 230 #[.bool sg, .slice A' (gr y).length c']
  r1 : RdI W A1 (gr n1)
  r2 : RdI W A2 (gr n2)
  ry : RdI W A' (gr y)
section
variable {w W W' : World} {P R G : Nat} {sp sr sg : Bool} {A1 A2 A' : Option Addr} {n1 n2 y c1 c2 c' : Nat}
theorem MidAt.on (h : MidAt w P R G sp sr sg A1 A2 A' n1 n2 y c1 c2 c' W) (hx : Ext W W') : MidAt w P R G sp sr sg A1 A2 A' n1 n2 y c1 c2 c' W' :=
  ⟨h.ext.trans hx, h.bp.ext hx, h.br.ext hx, h.bg.ext hx, h.r1.ext hx, h.r2.ext hx, h.ry.ext hx⟩
theorem MidAt.putP (h : MidAt w P R G sp sr sg A1 A2 A' n1 n2 y c1 c2 c' W) (hP : w.heap.size ≤ P) (hPR : P ≠ R) (hPG : P ≠ G) {A3 : Option Addr} {n3 : Nat} (c3 : Nat) (s : Bool) (h3 : RdI W A3 (gr n3)) :
    MidAt w P R G s sr sg A3 A2 A' n3 n2 y c3 c2 c' ((W.setCell ⟨P, 0, none⟩ (.bool s)).setCell ⟨P, 1, none⟩ (.slice A3 (gr n3).length c3)) :=
  ⟨(h.ext.setCell (p := ⟨P, 0, none⟩) hP _).setCell (p := ⟨P, 1, none⟩) hP _, (h.bp.set_ 0 _).set_ 1 _, (h.br.far (p := ⟨P, 0, none⟩) hPR.symm _).far (p := ⟨P, 1, none⟩) hPR.symm _, (h.bg.far (p := ⟨P, 0, none⟩) hPG.symm _).far (p := ⟨P, 1, none⟩) hPG.symm _,
    (h3.far _ (h3.box h.bp)).far _ (h3.box h.bp), (h.r2.far _ (h.r2.box h.bp)).far _ (h.r2.box h.bp), (h.ry.far _ (h.ry.box h.bp)).far _ (h.ry.box h.bp)⟩
theorem MidAt.putR (h : MidAt w P R G sp sr sg A1 A2 A' n1 n2 y c1 c2 c' W) (hR : w.heap.size ≤ R) (hPR : P ≠ R) (hRG : R ≠ G) {A3 : Option Addr} {n3 : Nat} (c3 : Nat) (s : Bool) (h3 : RdI W A3 (gr n3)) :
    MidAt w P R G sp s sg A1 A3 A' n1 n3 y c1 c3 c' ((W.setCell ⟨R, 0, none⟩ (.bool s)).setCell ⟨R, 1, none⟩ (.slice A3 (gr n3).length c3)) :=
  ⟨(h.ext.setCell (p := ⟨R, 0, none⟩) hR _).setCell (p := ⟨R, 1, none⟩) hR _, (h.bp.far (p := ⟨R, 0, none⟩) hPR _).far (p := ⟨R, 1, none⟩) hPR _, (h.br.set_ 0 _).set_ 1 _, (h.bg.far (p := ⟨R, 0, none⟩) hRG.symm _).far (p := ⟨R, 1, none⟩) hRG.symm _,
    (h.r1.far _ (h.r1.box h.br)).far _ (h.r1.box h.br), (h3.far _ (h3.box h.br)).far _ (h3.box h.br), (h.ry.far _ (h.ry.box h.br)).far _ (h.ry.box h.br)⟩
theorem MidAt.cells (h : MidAt w P R G sp sr sg A1 A2 A' n1 n2 y c1 c2 c' W) :
    W.cell? ⟨P, 0, none⟩ = some (.bool sp) ∧ W.cell? ⟨P, 1, none⟩ = some (.slice A1 (gr n1).length c1) ∧ W.frozen? ⟨P, 0, none⟩ = false ∧ W.frozen? ⟨P, 1, none⟩ = false ∧
    W.cell? ⟨R, 0, none⟩ = some (.bool sr) ∧ W.cell? ⟨R, 1, none⟩ = some (.slice A2 (gr n2).length c2) ∧ W.frozen? ⟨R, 0, none⟩ = false ∧ W.frozen? ⟨R, 1, none⟩ = false ∧
    W.cell? ⟨G, 0, none⟩ = some (.bool sg) ∧ W.cell? ⟨G, 1, none⟩ = some (.slice A' (gr y).length c') :=
  ⟨h.bp.cell 0, h.bp.cell 1, h.bp.frozen 0, h.bp.frozen 1, h.br.cell 0, h.br.cell 1, h.br.frozen 0, h.br.frozen 1, h.bg.cell 0, h.bg.cell 1⟩
end
end Go.Proofs.YthgpheopnhajaaaGreatDoor

/- The reference's quotients, common divisors and small helpers. -/
namespace Go.Proofs.YthgpheopnhajaaaGreatDoor
open Go.RowKit
attribute [local go_sem] size_bs toList_bs
abbrev PureR (f : FuncId) (args : Array Value) (v : Value) : Prop := ∀ W, Calls Tryz.prog f args W fun e w' => e = .returned v ∧ Ext W w'
end Go.Proofs.YthgpheopnhajaaaGreatDoor



/- The reference's fractions: Canonical, New, Of, Neg, Add, Sub, Mul, Compare, Floor. -/
namespace Go.Proofs.YthgpheopnhajaaaGreatDoor
open Go.RowKit
attribute [local go_sem] size_bs toList_bs
theorem addR (a b : Bs) (ha : a.length ≤ 100000) (hb : b.length ≤ 100000) : PureR 121 #[.string (bs a), .string (bs b)] (.string (bs (ofI (valI a + valI b)))) := fun W => refAdd a b W ha hb
theorem subR (a b : Bs) (ha : a.length ≤ 90000) (hb : b.length ≤ 90000) : PureR 65 #[.string (bs a), .string (bs b)] (.string (bs (ofI (valI a - valI b)))) := fun W => refSub a b W ha hb
theorem still {f : FuncId} {args : Array Value} {v : Value} {W : World} (h : Calls Tryz.prog f args W fun e w' => e = .returned v ∧ W = w') : Calls Tryz.prog f args W fun e w' => e = .returned v ∧ Ext W w' :=
  h.mono fun _ _ ⟨h1, h2⟩ => ⟨h1, h2 ▸ Ext.refl _⟩
theorem cmpR (a b : Bs) (ha : a.length ≤ 100000) (hb : b.length ≤ 100000) : PureR 130 #[.string (bs a), .string (bs b)] (.int .i64 (cmpI (valI a) (valI b))) := fun W => still (refCmp a b W (by omega) (by omega))
end Go.Proofs.YthgpheopnhajaaaGreatDoor

/- Plain: rounding to the nearest integer, ties to the even one. No program in sight. -/
namespace Go.Proofs.YthgpheopnhajaaaGreatDoor
open Go.RowKit
/-- rounded to the nearest integer, ties to the even one -/
def roundQ (q : Rat) : Int :=
  let lo := q.num / (q.den : Int)
  let re := q.num % (q.den : Int)
  if 2 * re < q.den then lo else if 2 * re = q.den then (if lo % 2 = 0 then lo else lo + 1) else lo + 1
theorem roundQ_cases (q : Rat) : let lo := q.num / (q.den : Int); let re := q.num % (q.den : Int)
    (re + re < q.den → roundQ q = lo) ∧ (re + re = q.den → lo % 2 = 0 → roundQ q = lo) ∧ (re + re = q.den → lo % 2 ≠ 0 → roundQ q = lo + 1) ∧ ((q.den : Int) < re + re → roundQ q = lo + 1) := by
  simp only
  unfold roundQ
  simp only
  refine ⟨fun h => ?_, fun h h2 => ?_, fun h h2 => ?_, fun h => ?_⟩
  · rw [if_pos (by omega)]
  · rw [if_neg (by omega), if_pos (by omega), if_pos h2]
  · rw [if_neg (by omega), if_pos (by omega), if_neg h2]
  · rw [if_neg (by omega), if_neg (by omega)]
/-- how large a rounded number is -/
theorem roundQ_abs {q : Rat} {L : Nat} (h : QB L q) : (roundQ q).natAbs < 10 ^ (L + 1) := by
  have hd : (0 : Int) < q.den := by have := q.den_pos; omega
  have h1 := Int.natAbs_ediv_le_natAbs q.num (q.den : Int)
  have h2 : (roundQ q).natAbs ≤ (q.num / (q.den : Int)).natAbs + 1 := by
    unfold roundQ; simp only
    split
    · omega
    · split
      · split <;> omega
      · omega
  have h3 := h.1
  have h4 : 0 < 10 ^ L := Nat.pow_pos (by decide)
  rw [Nat.pow_succ]; omega
theorem round_len {q : Rat} {L : Nat} (h : QB L q) : (ofI (roundQ q)).length ≤ L + 2 := ofI_lt10 (roundQ_abs h)
end Go.Proofs.YthgpheopnhajaaaGreatDoor

/- The reference's Sub and Floor of fractions; even; plain: how a ratio is rounded. -/
namespace Go.Proofs.YthgpheopnhajaaaGreatDoor
open Go.RowKit
attribute [local go_sem] size_bs toList_bs
/-- a ratio, rounded down -/
def floorQ (q : Rat) : Int := q.num / (q.den : Int)
theorem floor_div {n d : Int} (hd : 0 < d) : n / d = floorQ (Rat.divInt n d) := by
  have hd' : d ≠ 0 := by omega
  unfold floorQ
  rw [← redN_num hd', ← redD_den hd']
  have h1 := redN_exact (n := n) hd'
  have h2 := redD_exact (n := n) hd'
  have hg : (0 : Int) < ((Int.gcd n d : Nat) : Int) := by have := gcd_pos (n := n) hd'; omega
  rw [if_neg (by omega)] at h1
  rw [Int.natAbs_of_nonneg (by omega)] at h2
  generalize redN n d = a at *
  generalize redD n d = b at *
  generalize ((Int.gcd n d : Nat) : Int) = g at *
  conv => lhs; rw [← h1, ← h2]
  exact Int.mul_ediv_mul_of_pos_left _ _ hg
end Go.Proofs.YthgpheopnhajaaaGreatDoor
