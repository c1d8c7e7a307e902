/- Laws on a map that the call itself makes, keys integers; no condition. -/
import Derived.Test.YtnjpmmdjaenomaaBase
import Derived.MapKept
namespace Go.Proofs.Ytnjpmmdjaenomaa
set_option linter.unusedVariables false
open Go.RowKit
theorem alloc_set (w : World) (o o' : Obj) : { heap := (w.alloc o).heap.setIfInBounds w.heap.size o', tape := w.tape, drawn := w.drawn, os := (w.alloc o).os, output := (w.alloc o).output : World } = w.alloc o' := by
  show ({ heap := (w.heap.push o).setIfInBounds w.heap.size o', tape := w.tape, drawn := w.drawn, os := w.os, output := w.output } : World) = { heap := w.heap.push o', tape := w.tape, drawn := w.drawn, os := w.os, output := w.output }
  congr 1
  apply Array.ext_getElem?
  intro i
  simp only [Array.getElem?_setIfInBounds, Array.getElem?_push, Array.size_push]
  by_cases h : w.heap.size = i
  · subst h; simp
  · simp [h, Ne.symm h]
theorem run_mapUpdate_new {P : Program} (w : World) (mt kt et : TypeId) (k : IntKind) (es : Array MapEntry) (clock : Nat) (a : Int) (v : Value)
    (hm : P.underlying mt = some (.map kt et)) (hk : P.underlying kt = some (.int k)) (hn : Instr.findNow (.int k) (.int k a) es.toList 0 = some none) :
    (Instr.mapUpdate mt (.map (some w.heap.size)) (.int k a) v).run P (w.alloc (.map es clock)) = .ok () (w.alloc (.map (es.push ⟨.int k a, v, clock⟩) (clock + 1))) := by
  have hb : (w.alloc (.map es clock)).heap[w.heap.size]? = some (.map es clock) := (MapKept.heap_alloc w _).1
  have hc : (Instr.checkKey false 10000 kt (.int k a)).run P (w.alloc (.map es clock)) = .ok () (w.alloc (.map es clock)) := MapKept.run_checkKey hk (by exact rfl) false 9999
  have hf := MapKept.run_findKey (P := P) (w := w.alloc (.map es clock)) hk (k := .int k a) hn
  unfold Instr.mapUpdate
  simp [run_underlying hm, MapKept.run_getObj_map hb, MapKept.run_setObj_map _ hb, hc, hf, Result.andThen]
  exact alloc_set w _ _
theorem run_lookup_hit {P : Program} (w : World) (mt kt et : TypeId) (k : IntKind) (r : Nat) (es : Array MapEntry) (clock : Nat) (a : Int) (v : Value) (i : Nat)
    (hm : P.underlying mt = some (.map kt et)) (hk : P.underlying kt = some (.int k)) (hb : w.heap[r]? = some (.map es clock)) (hn : Instr.findNow (.int k) (.int k a) es.toList 0 = some (some (i, v))) :
    (Instr.lookup mt (.map (some r)) (.int k a) true).run P w = .ok (.tuple #[v, .bool true]) w := by
  have hc : (Instr.checkKey es.isEmpty 10000 kt (.int k a)).run P w = .ok () w := MapKept.run_checkKey hk (by exact rfl) es.isEmpty 9999
  have hf := MapKept.run_findKey (P := P) (w := w) hk (k := .int k a) hn
  unfold Instr.lookup
  simp [run_underlying hm, MapKept.run_getObj_map hb, hc, hf, Result.andThen]
theorem run_lookup_miss {P : Program} (w : World) (mt kt et : TypeId) (k : IntKind) (r : Nat) (es : Array MapEntry) (clock : Nat) (a : Int) (z : Value)
    (hm : P.underlying mt = some (.map kt et)) (hk : P.underlying kt = some (.int k)) (hz : (zeroValue et).run P w = .ok z w) (hb : w.heap[r]? = some (.map es clock)) (hn : Instr.findNow (.int k) (.int k a) es.toList 0 = some none) :
    (Instr.lookup mt (.map (some r)) (.int k a) true).run P w = .ok (.tuple #[z, .bool false]) w := by
  have hc : (Instr.checkKey es.isEmpty 10000 kt (.int k a)).run P w = .ok () w := MapKept.run_checkKey hk (by exact rfl) es.isEmpty 9999
  have hf := MapKept.run_findKey (P := P) (w := w) hk (k := .int k a) hn
  unfold Instr.lookup
  simp [run_underlying hm, MapKept.run_getObj_map hb, hc, hf, hz, Result.andThen]
end Go.Proofs.Ytnjpmmdjaenomaa
