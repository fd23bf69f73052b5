/- The map of the commands. -/
import Derived.Test.YteeampgbmpolfaaGreatDoorStAt
import Derived.WideMake
import Derived.RangeFuncRecord
import Derived.Test.YteeampgbmpolfaaGreatDoorTextP
namespace Go.Proofs.YteeampgbmpolfaaGreatDoor
open Go.RowKit

theorem run_ins {P : Program} {w : World} (mty kt et : TypeId) (r clock : Nat) (es : Array MapEntry) (s : ByteArray) (val : Value) (hm : P.underlying mty = some (.map kt et)) (hk : P.underlying kt = some .string) (hb : w.heap[r]? = some (.map es clock))
    (hf : Instr.findNow .string (.string s) es.toList 0 = some none) :
    (Instr.mapUpdate mty (.map (some r)) (.string s) val).run P w = .ok () (w.putObj r (.map (es.push { key := .string s, val := val, born := clock }) (clock + 1))) := by
  have hc : (Instr.checkKey false 10000 kt (.string s)).run P w = .ok () w := MapKept.run_checkKey (k := .string s) hk (by simp [MapKept.IsKey]) false 9999
  simp [Instr.mapUpdate, run_underlying hm, MapKept.run_getObj_map hb, hc, MapKept.run_findKey hk hf, MapKept.run_setObj_map _ hb, Result.andThen, World.putObj]
theorem run_look {P : Program} {w : World} (mty kt et : TypeId) (r clock : Nat) (es : Array MapEntry) (s : ByteArray) (i : Nat) (val : Value) (hm : P.underlying mty = some (.map kt et)) (hk : P.underlying kt = some .string) (hb : w.heap[r]? = some (.map es clock))
    (hf : Instr.findNow .string (.string s) es.toList 0 = some (some (i, val))) :
    (Instr.lookup mty (.map (some r)) (.string s) true).run P w = .ok (.tuple #[val, .bool true]) w := by
  have hc : (Instr.checkKey es.isEmpty 10000 kt (.string s)).run P w = .ok () w := MapKept.run_checkKey (k := .string s) hk (by simp [MapKept.IsKey]) es.isEmpty 9999
  simp [Instr.lookup, run_underlying hm, MapKept.run_getObj_map hb, hc, MapKept.run_findKey hk hf, Result.andThen]
theorem run_look_no {P : Program} {w : World} (mty kt et : TypeId) (r clock : Nat) (es : Array MapEntry) (s : ByteArray) (z : Value) (hm : P.underlying mty = some (.map kt et)) (hk : P.underlying kt = some .string) (hb : w.heap[r]? = some (.map es clock))
    (hf : Instr.findNow .string (.string s) es.toList 0 = some none) (hz : (zeroValue et).run P w = .ok z w) :
    (Instr.lookup mty (.map (some r)) (.string s) true).run P w = .ok (.tuple #[z, .bool false]) w := by
  have hc : (Instr.checkKey es.isEmpty 10000 kt (.string s)).run P w = .ok () w := MapKept.run_checkKey (k := .string s) hk (by simp [MapKept.IsKey]) es.isEmpty 9999
  simp [Instr.lookup, run_underlying hm, MapKept.run_getObj_map hb, hc, MapKept.run_findKey hk hf, hz, Result.andThen]
theorem zCommand (w : World) : (zeroValue 127).run Tryz.prog w = .ok (.agg #[.int .i64 0, .nilFunc]) w := by
  kernel_rfl
def kSt : ByteArray := { data := #[115, 116, 97, 116, 101, 109, 101, 110, 116] }
def kHo : ByteArray := { data := #[104, 111, 108, 100, 105, 110, 103] }
def kMo : ByteArray := { data := #[109, 111, 118, 101, 109, 101, 110, 116] }
def vSt : Value := .agg #[.int .i64 2, .func (.func 89) #[] #[]]
def vHo : Value := .agg #[.int .i64 3, .func (.func 90) #[] #[]]
def vMo : Value := .agg #[.int .i64 6, .func (.func 91) #[] #[]]
def cmds : Array MapEntry := #[⟨.string kSt, vSt, 0⟩, ⟨.string kHo, vHo, 1⟩, ⟨.string kMo, vMo, 2⟩]
theorem Ext.putObj {a b : World} (h : Ext a b) {r : Nat} (hr : a.heap.size ≤ r) (o : Obj) : Ext a (b.putObj r o) :=
  ⟨h.os, h.tape, h.output, by have := h.size; simpa using this, fun i hi => (World.putObj_heap_other (by omega)).trans (h.block i hi)⟩
theorem cmdMap (w : World) : ∃ W1 W2 W3, (Instr.mapUpdate 128 (.map (some w.heap.size)) (.string kSt) vSt).run Tryz.prog (w.alloc (.map #[] 0)) = .ok () W1 ∧ (Instr.mapUpdate 128 (.map (some w.heap.size)) (.string kHo) vHo).run Tryz.prog W1 = .ok () W2 ∧
    (Instr.mapUpdate 128 (.map (some w.heap.size)) (.string kMo) vMo).run Tryz.prog W2 = .ok () W3 ∧ W3.heap[w.heap.size]? = some (.map cmds 3) ∧ Ext w W3 ∧ W3.heap.size = w.heap.size + 1 := by
  have h0 : (w.alloc (.map #[] 0)).heap[w.heap.size]? = some (.map #[] 0) := heap_alloc_new w _
  have r1 := run_ins (P := Tryz.prog) _ _ _ _ 0 #[] kSt vSt Tryz.underlying128 Tryz.underlying9 h0 (by rfl)
  have hs1 : w.heap.size < (w.alloc (.map #[] 0)).heap.size := by simp
  have h1 := World.putObj_heap_same (o := .map (#[].push { key := .string kSt, val := vSt, born := 0 }) (0 + 1)) hs1
  have r2 := run_ins (P := Tryz.prog) _ _ _ _ _ _ kHo vHo Tryz.underlying128 Tryz.underlying9 h1 (by rfl)
  have hs2 : w.heap.size < ((w.alloc (.map #[] 0)).putObj w.heap.size (.map (#[].push { key := .string kSt, val := vSt, born := 0 }) (0 + 1))).heap.size := by simp
  have h2 := World.putObj_heap_same (o := .map ((#[].push { key := .string kSt, val := vSt, born := 0 }).push { key := .string kHo, val := vHo, born := 1 }) (0 + 1 + 1)) hs2
  have r3 := run_ins (P := Tryz.prog) _ _ _ _ _ _ kMo vMo Tryz.underlying128 Tryz.underlying9 h2 (by rfl)
  refine ⟨_, _, _, r1, r2, r3, ?_, (((Ext.new w _).putObj (Nat.le_refl _) _).putObj (Nat.le_refl _) _).putObj (Nat.le_refl _) _, by simp⟩
  rw [World.putObj_heap_same (by simp)]
  rfl
theorem cmdFind (a : Bs) : Instr.findNow .string (.string (bs a)) cmds.toList 0 = if a = wStatement then some (some (0, vSt)) else if a = wHolding then some (some (1, vHo)) else if a = wMovement then some (some (2, vMo)) else some none := by
  have hb : ∀ (l : Bs), ((bs a : ByteArray) == bs l) = decide (a = l) := fun l => by
    rw [Bool.eq_iff_iff, MapKept.bytes_beq, decide_eq_true_iff]
    constructor
    · intro h; have := congrArg (fun b => b.data.toList) h; simpa [bs] using this
    · intro h; rw [h]
  have e1 : kSt = bs wStatement := rfl
  have e2 : kHo = bs wHolding := rfl
  have e3 : kMo = bs wMovement := rfl
  simp only [cmds, Instr.findNow, Instr.sameNow, e1, e2, e3, hb]
  by_cases h1 : a = wStatement
  · simp [h1]
  · by_cases h2 : a = wHolding
    · simp [h2, show ¬ wHolding = wStatement by decide]
    · by_cases h3 : a = wMovement
      · simp [h3, show ¬ wMovement = wStatement by decide, show ¬ wMovement = wHolding by decide]
      · simp [h1, h2, h3]
end Go.Proofs.YteeampgbmpolfaaGreatDoor
