/- Walks: word.Op, babelref01.Op return W.op; no condition but that the words are words. -/
import Derived.Test.YtnjpmmdjaenomaaProg
import Derived.Test.YtnjpmmdjaenomaaWb
import Derived.Test.YtnjpmmdjaenomaaW5
import Derived.Test.YtnjpmmdjaenomaaMap
namespace Go.Proofs.Ytnjpmmdjaenomaa
set_option linter.unusedVariables false
open Go.RowKit
def opsEnt : Array MapEntry := #[⟨.int .i64 3, .func (.func 46) #[] #[], 0⟩, ⟨.int .i64 4, .func (.func 47) #[] #[], 1⟩, ⟨.int .i64 5, .func (.func 48) #[] #[], 2⟩, ⟨.int .i64 6, .func (.func 49) #[] #[], 3⟩, ⟨.int .i64 7, .func (.func 50) #[] #[], 4⟩, ⟨.int .i64 8, .func (.func 51) #[] #[], 5⟩, ⟨.int .i64 9, .func (.func 52) #[] #[], 6⟩, ⟨.int .i64 10, .func (.func 53) #[] #[], 7⟩, ⟨.int .i64 11, .func (.func 54) #[] #[], 8⟩, ⟨.int .i64 12, .func (.func 55) #[] #[], 9⟩, ⟨.int .i64 13, .func (.func 56) #[] #[], 10⟩, ⟨.int .i64 14, .func (.func 58) #[] #[], 11⟩, ⟨.int .i64 15, .func (.func 59) #[] #[], 12⟩]
theorem ops_any (w : World) : Calls Try.prog 43 #[] w fun e w' => e = .returned (.map (some w.heap.size)) ∧ w'.heap[w.heap.size]? = some (.map opsEnt 13) ∧ Bel w w' := by
  have hmm := @run_makeMap Try.prog
  have hu : ∀ (es : Array MapEntry) (clock : Nat) (a : Int) (v : Value), Instr.findNow (.int .i64) (.int .i64 a) es.toList 0 = some none →
    (Instr.mapUpdate 59 (.map (some w.heap.size)) (.int .i64 a) v).run Try.prog (w.alloc (.map es clock)) = .ok () (w.alloc (.map (es.push ⟨.int .i64 a, v, clock⟩) (clock + 1))) :=
    fun es clock a v h => run_mapUpdate_new w 59 3 57 .i64 es clock a v Try.underlying59 Try.underlying3 h
  have h0 : (Instr.mapUpdate 59 (.map (some w.heap.size)) (.int .i64 3) (.func (.func 46) #[] #[])).run Try.prog (w.alloc (.map #[] 0)) = .ok () (w.alloc (.map #[⟨.int .i64 3, .func (.func 46) #[] #[], 0⟩] 1)) := hu _ 0 3 _ (by rfl)
  have h1 : (Instr.mapUpdate 59 (.map (some w.heap.size)) (.int .i64 4) (.func (.func 47) #[] #[])).run Try.prog (w.alloc (.map #[⟨.int .i64 3, .func (.func 46) #[] #[], 0⟩] 1)) = .ok () (w.alloc (.map #[⟨.int .i64 3, .func (.func 46) #[] #[], 0⟩, ⟨.int .i64 4, .func (.func 47) #[] #[], 1⟩] 2)) := hu _ 1 4 _ (by rfl)
  have h2 : (Instr.mapUpdate 59 (.map (some w.heap.size)) (.int .i64 5) (.func (.func 48) #[] #[])).run Try.prog (w.alloc (.map #[⟨.int .i64 3, .func (.func 46) #[] #[], 0⟩, ⟨.int .i64 4, .func (.func 47) #[] #[], 1⟩] 2)) = .ok () (w.alloc (.map #[⟨.int .i64 3, .func (.func 46) #[] #[], 0⟩, ⟨.int .i64 4, .func (.func 47) #[] #[], 1⟩, ⟨.int .i64 5, .func (.func 48) #[] #[], 2⟩] 3)) := hu _ 2 5 _ (by rfl)
  have h3 : (Instr.mapUpdate 59 (.map (some w.heap.size)) (.int .i64 6) (.func (.func 49) #[] #[])).run Try.prog (w.alloc (.map #[⟨.int .i64 3, .func (.func 46) #[] #[], 0⟩, ⟨.int .i64 4, .func (.func 47) #[] #[], 1⟩, ⟨.int .i64 5, .func (.func 48) #[] #[], 2⟩] 3)) = .ok () (w.alloc (.map #[⟨.int .i64 3, .func (.func 46) #[] #[], 0⟩, ⟨.int .i64 4, .func (.func 47) #[] #[], 1⟩, ⟨.int .i64 5, .func (.func 48) #[] #[], 2⟩, ⟨.int .i64 6, .func (.func 49) #[] #[], 3⟩] 4)) := hu _ 3 6 _ (by rfl)
  have h4 : (Instr.mapUpdate 59 (.map (some w.heap.size)) (.int .i64 7) (.func (.func 50) #[] #[])).run Try.prog (w.alloc (.map #[⟨.int .i64 3, .func (.func 46) #[] #[], 0⟩, ⟨.int .i64 4, .func (.func 47) #[] #[], 1⟩, ⟨.int .i64 5, .func (.func 48) #[] #[], 2⟩, ⟨.int .i64 6, .func (.func 49) #[] #[], 3⟩] 4)) = .ok () (w.alloc (.map #[⟨.int .i64 3, .func (.func 46) #[] #[], 0⟩, ⟨.int .i64 4, .func (.func 47) #[] #[], 1⟩, ⟨.int .i64 5, .func (.func 48) #[] #[], 2⟩, ⟨.int .i64 6, .func (.func 49) #[] #[], 3⟩, ⟨.int .i64 7, .func (.func 50) #[] #[], 4⟩] 5)) := hu _ 4 7 _ (by rfl)
  have h5 : (Instr.mapUpdate 59 (.map (some w.heap.size)) (.int .i64 8) (.func (.func 51) #[] #[])).run Try.prog (w.alloc (.map #[⟨.int .i64 3, .func (.func 46) #[] #[], 0⟩, ⟨.int .i64 4, .func (.func 47) #[] #[], 1⟩, ⟨.int .i64 5, .func (.func 48) #[] #[], 2⟩, ⟨.int .i64 6, .func (.func 49) #[] #[], 3⟩, ⟨.int .i64 7, .func (.func 50) #[] #[], 4⟩] 5)) = .ok () (w.alloc (.map #[⟨.int .i64 3, .func (.func 46) #[] #[], 0⟩, ⟨.int .i64 4, .func (.func 47) #[] #[], 1⟩, ⟨.int .i64 5, .func (.func 48) #[] #[], 2⟩, ⟨.int .i64 6, .func (.func 49) #[] #[], 3⟩, ⟨.int .i64 7, .func (.func 50) #[] #[], 4⟩, ⟨.int .i64 8, .func (.func 51) #[] #[], 5⟩] 6)) := hu _ 5 8 _ (by rfl)
  have h6 : (Instr.mapUpdate 59 (.map (some w.heap.size)) (.int .i64 9) (.func (.func 52) #[] #[])).run Try.prog (w.alloc (.map #[⟨.int .i64 3, .func (.func 46) #[] #[], 0⟩, ⟨.int .i64 4, .func (.func 47) #[] #[], 1⟩, ⟨.int .i64 5, .func (.func 48) #[] #[], 2⟩, ⟨.int .i64 6, .func (.func 49) #[] #[], 3⟩, ⟨.int .i64 7, .func (.func 50) #[] #[], 4⟩, ⟨.int .i64 8, .func (.func 51) #[] #[], 5⟩] 6)) = .ok () (w.alloc (.map #[⟨.int .i64 3, .func (.func 46) #[] #[], 0⟩, ⟨.int .i64 4, .func (.func 47) #[] #[], 1⟩, ⟨.int .i64 5, .func (.func 48) #[] #[], 2⟩, ⟨.int .i64 6, .func (.func 49) #[] #[], 3⟩, ⟨.int .i64 7, .func (.func 50) #[] #[], 4⟩, ⟨.int .i64 8, .func (.func 51) #[] #[], 5⟩, ⟨.int .i64 9, .func (.func 52) #[] #[], 6⟩] 7)) := hu _ 6 9 _ (by rfl)
  have h7 : (Instr.mapUpdate 59 (.map (some w.heap.size)) (.int .i64 10) (.func (.func 53) #[] #[])).run Try.prog (w.alloc (.map #[⟨.int .i64 3, .func (.func 46) #[] #[], 0⟩, ⟨.int .i64 4, .func (.func 47) #[] #[], 1⟩, ⟨.int .i64 5, .func (.func 48) #[] #[], 2⟩, ⟨.int .i64 6, .func (.func 49) #[] #[], 3⟩, ⟨.int .i64 7, .func (.func 50) #[] #[], 4⟩, ⟨.int .i64 8, .func (.func 51) #[] #[], 5⟩, ⟨.int .i64 9, .func (.func 52) #[] #[], 6⟩] 7)) = .ok () (w.alloc (.map #[⟨.int .i64 3, .func (.func 46) #[] #[], 0⟩, ⟨.int .i64 4, .func (.func 47) #[] #[], 1⟩, ⟨.int .i64 5, .func (.func 48) #[] #[], 2⟩, ⟨.int .i64 6, .func (.func 49) #[] #[], 3⟩, ⟨.int .i64 7, .func (.func 50) #[] #[], 4⟩, ⟨.int .i64 8, .func (.func 51) #[] #[], 5⟩, ⟨.int .i64 9, .func (.func 52) #[] #[], 6⟩, ⟨.int .i64 10, .func (.func 53) #[] #[], 7⟩] 8)) := hu _ 7 10 _ (by rfl)
  have h8 : (Instr.mapUpdate 59 (.map (some w.heap.size)) (.int .i64 11) (.func (.func 54) #[] #[])).run Try.prog (w.alloc (.map #[⟨.int .i64 3, .func (.func 46) #[] #[], 0⟩, ⟨.int .i64 4, .func (.func 47) #[] #[], 1⟩, ⟨.int .i64 5, .func (.func 48) #[] #[], 2⟩, ⟨.int .i64 6, .func (.func 49) #[] #[], 3⟩, ⟨.int .i64 7, .func (.func 50) #[] #[], 4⟩, ⟨.int .i64 8, .func (.func 51) #[] #[], 5⟩, ⟨.int .i64 9, .func (.func 52) #[] #[], 6⟩, ⟨.int .i64 10, .func (.func 53) #[] #[], 7⟩] 8)) = .ok () (w.alloc (.map #[⟨.int .i64 3, .func (.func 46) #[] #[], 0⟩, ⟨.int .i64 4, .func (.func 47) #[] #[], 1⟩, ⟨.int .i64 5, .func (.func 48) #[] #[], 2⟩, ⟨.int .i64 6, .func (.func 49) #[] #[], 3⟩, ⟨.int .i64 7, .func (.func 50) #[] #[], 4⟩, ⟨.int .i64 8, .func (.func 51) #[] #[], 5⟩, ⟨.int .i64 9, .func (.func 52) #[] #[], 6⟩, ⟨.int .i64 10, .func (.func 53) #[] #[], 7⟩, ⟨.int .i64 11, .func (.func 54) #[] #[], 8⟩] 9)) := hu _ 8 11 _ (by rfl)
  have h9 : (Instr.mapUpdate 59 (.map (some w.heap.size)) (.int .i64 12) (.func (.func 55) #[] #[])).run Try.prog (w.alloc (.map #[⟨.int .i64 3, .func (.func 46) #[] #[], 0⟩, ⟨.int .i64 4, .func (.func 47) #[] #[], 1⟩, ⟨.int .i64 5, .func (.func 48) #[] #[], 2⟩, ⟨.int .i64 6, .func (.func 49) #[] #[], 3⟩, ⟨.int .i64 7, .func (.func 50) #[] #[], 4⟩, ⟨.int .i64 8, .func (.func 51) #[] #[], 5⟩, ⟨.int .i64 9, .func (.func 52) #[] #[], 6⟩, ⟨.int .i64 10, .func (.func 53) #[] #[], 7⟩, ⟨.int .i64 11, .func (.func 54) #[] #[], 8⟩] 9)) = .ok () (w.alloc (.map #[⟨.int .i64 3, .func (.func 46) #[] #[], 0⟩, ⟨.int .i64 4, .func (.func 47) #[] #[], 1⟩, ⟨.int .i64 5, .func (.func 48) #[] #[], 2⟩, ⟨.int .i64 6, .func (.func 49) #[] #[], 3⟩, ⟨.int .i64 7, .func (.func 50) #[] #[], 4⟩, ⟨.int .i64 8, .func (.func 51) #[] #[], 5⟩, ⟨.int .i64 9, .func (.func 52) #[] #[], 6⟩, ⟨.int .i64 10, .func (.func 53) #[] #[], 7⟩, ⟨.int .i64 11, .func (.func 54) #[] #[], 8⟩, ⟨.int .i64 12, .func (.func 55) #[] #[], 9⟩] 10)) := hu _ 9 12 _ (by rfl)
  have h10 : (Instr.mapUpdate 59 (.map (some w.heap.size)) (.int .i64 13) (.func (.func 56) #[] #[])).run Try.prog (w.alloc (.map #[⟨.int .i64 3, .func (.func 46) #[] #[], 0⟩, ⟨.int .i64 4, .func (.func 47) #[] #[], 1⟩, ⟨.int .i64 5, .func (.func 48) #[] #[], 2⟩, ⟨.int .i64 6, .func (.func 49) #[] #[], 3⟩, ⟨.int .i64 7, .func (.func 50) #[] #[], 4⟩, ⟨.int .i64 8, .func (.func 51) #[] #[], 5⟩, ⟨.int .i64 9, .func (.func 52) #[] #[], 6⟩, ⟨.int .i64 10, .func (.func 53) #[] #[], 7⟩, ⟨.int .i64 11, .func (.func 54) #[] #[], 8⟩, ⟨.int .i64 12, .func (.func 55) #[] #[], 9⟩] 10)) = .ok () (w.alloc (.map #[⟨.int .i64 3, .func (.func 46) #[] #[], 0⟩, ⟨.int .i64 4, .func (.func 47) #[] #[], 1⟩, ⟨.int .i64 5, .func (.func 48) #[] #[], 2⟩, ⟨.int .i64 6, .func (.func 49) #[] #[], 3⟩, ⟨.int .i64 7, .func (.func 50) #[] #[], 4⟩, ⟨.int .i64 8, .func (.func 51) #[] #[], 5⟩, ⟨.int .i64 9, .func (.func 52) #[] #[], 6⟩, ⟨.int .i64 10, .func (.func 53) #[] #[], 7⟩, ⟨.int .i64 11, .func (.func 54) #[] #[], 8⟩, ⟨.int .i64 12, .func (.func 55) #[] #[], 9⟩, ⟨.int .i64 13, .func (.func 56) #[] #[], 10⟩] 11)) := hu _ 10 13 _ (by rfl)
  have h11 : (Instr.mapUpdate 59 (.map (some w.heap.size)) (.int .i64 14) (.func (.func 58) #[] #[])).run Try.prog (w.alloc (.map #[⟨.int .i64 3, .func (.func 46) #[] #[], 0⟩, ⟨.int .i64 4, .func (.func 47) #[] #[], 1⟩, ⟨.int .i64 5, .func (.func 48) #[] #[], 2⟩, ⟨.int .i64 6, .func (.func 49) #[] #[], 3⟩, ⟨.int .i64 7, .func (.func 50) #[] #[], 4⟩, ⟨.int .i64 8, .func (.func 51) #[] #[], 5⟩, ⟨.int .i64 9, .func (.func 52) #[] #[], 6⟩, ⟨.int .i64 10, .func (.func 53) #[] #[], 7⟩, ⟨.int .i64 11, .func (.func 54) #[] #[], 8⟩, ⟨.int .i64 12, .func (.func 55) #[] #[], 9⟩, ⟨.int .i64 13, .func (.func 56) #[] #[], 10⟩] 11)) = .ok () (w.alloc (.map #[⟨.int .i64 3, .func (.func 46) #[] #[], 0⟩, ⟨.int .i64 4, .func (.func 47) #[] #[], 1⟩, ⟨.int .i64 5, .func (.func 48) #[] #[], 2⟩, ⟨.int .i64 6, .func (.func 49) #[] #[], 3⟩, ⟨.int .i64 7, .func (.func 50) #[] #[], 4⟩, ⟨.int .i64 8, .func (.func 51) #[] #[], 5⟩, ⟨.int .i64 9, .func (.func 52) #[] #[], 6⟩, ⟨.int .i64 10, .func (.func 53) #[] #[], 7⟩, ⟨.int .i64 11, .func (.func 54) #[] #[], 8⟩, ⟨.int .i64 12, .func (.func 55) #[] #[], 9⟩, ⟨.int .i64 13, .func (.func 56) #[] #[], 10⟩, ⟨.int .i64 14, .func (.func 58) #[] #[], 11⟩] 12)) := hu _ 11 14 _ (by rfl)
  have h12 : (Instr.mapUpdate 59 (.map (some w.heap.size)) (.int .i64 15) (.func (.func 59) #[] #[])).run Try.prog (w.alloc (.map #[⟨.int .i64 3, .func (.func 46) #[] #[], 0⟩, ⟨.int .i64 4, .func (.func 47) #[] #[], 1⟩, ⟨.int .i64 5, .func (.func 48) #[] #[], 2⟩, ⟨.int .i64 6, .func (.func 49) #[] #[], 3⟩, ⟨.int .i64 7, .func (.func 50) #[] #[], 4⟩, ⟨.int .i64 8, .func (.func 51) #[] #[], 5⟩, ⟨.int .i64 9, .func (.func 52) #[] #[], 6⟩, ⟨.int .i64 10, .func (.func 53) #[] #[], 7⟩, ⟨.int .i64 11, .func (.func 54) #[] #[], 8⟩, ⟨.int .i64 12, .func (.func 55) #[] #[], 9⟩, ⟨.int .i64 13, .func (.func 56) #[] #[], 10⟩, ⟨.int .i64 14, .func (.func 58) #[] #[], 11⟩] 12)) = .ok () (w.alloc (.map #[⟨.int .i64 3, .func (.func 46) #[] #[], 0⟩, ⟨.int .i64 4, .func (.func 47) #[] #[], 1⟩, ⟨.int .i64 5, .func (.func 48) #[] #[], 2⟩, ⟨.int .i64 6, .func (.func 49) #[] #[], 3⟩, ⟨.int .i64 7, .func (.func 50) #[] #[], 4⟩, ⟨.int .i64 8, .func (.func 51) #[] #[], 5⟩, ⟨.int .i64 9, .func (.func 52) #[] #[], 6⟩, ⟨.int .i64 10, .func (.func 53) #[] #[], 7⟩, ⟨.int .i64 11, .func (.func 54) #[] #[], 8⟩, ⟨.int .i64 12, .func (.func 55) #[] #[], 9⟩, ⟨.int .i64 13, .func (.func 56) #[] #[], 10⟩, ⟨.int .i64 14, .func (.func 58) #[] #[], 11⟩, ⟨.int .i64 15, .func (.func 59) #[] #[], 12⟩] 13)) := hu _ 12 15 _ (by rfl)
  clear hu
  go_enter Try.func43, Try.ntmps43
  go_wp2
  go_ret
  exact ⟨rfl, (MapKept.heap_alloc w _).1, (by repeat (first | assumption | exact Bel.refl _ | refine Bel.drew ?_ | refine Bel.drewN ?_ _ | refine Bel.alloc ?_ _ | (refine Bel.trans ?_ (by assumption)) | (refine Bel.then ?_ (by assumption) (by intro x hx; first | (subst hx; simp; done) | (simp at *; omega)))))⟩
theorem wbit_any (b : Bool) (w : World) : Calls Try.prog 57 #[.bool b] w fun e w' => e = .returned (.int .u32 (W.b01 b)) ∧ Bel w w' := by
  cases b
  · go_enter Try.func57, Try.ntmps57
    go_wp2
    go_ret
    exact ⟨rfl, (by repeat (first | assumption | exact Bel.refl _ | refine Bel.drew ?_ | refine Bel.drewN ?_ _ | refine Bel.alloc ?_ _ | (refine Bel.trans ?_ (by assumption)) | (refine Bel.then ?_ (by assumption) (by intro x hx; first | (subst hx; simp; done) | (simp at *; omega)))))⟩
  · go_enter Try.func57, Try.ntmps57
    go_wp2
    go_ret
    exact ⟨rfl, (by repeat (first | assumption | exact Bel.refl _ | refine Bel.drew ?_ | refine Bel.drewN ?_ _ | refine Bel.alloc ?_ _ | (refine Bel.trans ?_ (by assumption)) | (refine Bel.then ?_ (by assumption) (by intro x hx; first | (subst hx; simp; done) | (simp at *; omega)))))⟩
theorem rbit_any (b : Bool) (w : World) : Calls Try.prog 44 #[.bool b] w fun e w' => e = .returned (.int .u32 (W.b01 b)) ∧ Bel w w' := by
  cases b
  · go_enter Try.func44, Try.ntmps44
    go_wp2
    go_ret
    exact ⟨rfl, (by repeat (first | assumption | exact Bel.refl _ | refine Bel.drew ?_ | refine Bel.drewN ?_ _ | refine Bel.alloc ?_ _ | (refine Bel.trans ?_ (by assumption)) | (refine Bel.then ?_ (by assumption) (by intro x hx; first | (subst hx; simp; done) | (simp at *; omega)))))⟩
  · go_enter Try.func44, Try.ntmps44
    go_wp2
    go_ret
    exact ⟨rfl, (by repeat (first | assumption | exact Bel.refl _ | refine Bel.drew ?_ | refine Bel.drewN ?_ _ | refine Bel.alloc ?_ _ | (refine Bel.trans ?_ (by assumption)) | (refine Bel.then ?_ (by assumption) (by intro x hx; first | (subst hx; simp; done) | (simp at *; omega)))))⟩
theorem clo_3 (a b : Int) (ha : 0 ≤ a) (ha' : a < 4294967296) (hb : 0 ≤ b) (hb' : b < 4294967296) (w : World) :
    Calls Try.prog 46 #[.int .u32 a, .int .u32 b] w fun e w' => e = .returned (.int .u32 (W.op 3 a b)) ∧ Bel w w' := by
  go_enter Try.func46, Try.ntmps46
  go_wp2
  go_ret
  exact ⟨ret_int (by rw [W.op_3]), (by repeat (first | assumption | exact Bel.refl _ | refine Bel.drew ?_ | refine Bel.drewN ?_ _ | refine Bel.alloc ?_ _ | (refine Bel.trans ?_ (by assumption)) | (refine Bel.then ?_ (by assumption) (by intro x hx; first | (subst hx; simp; done) | (simp at *; omega)))))⟩
theorem clo_4 (a b : Int) (ha : 0 ≤ a) (ha' : a < 4294967296) (hb : 0 ≤ b) (hb' : b < 4294967296) (w : World) :
    Calls Try.prog 47 #[.int .u32 a, .int .u32 b] w fun e w' => e = .returned (.int .u32 (W.op 4 a b)) ∧ Bel w w' := by
  go_enter Try.func47, Try.ntmps47
  go_wp2
  go_ret
  exact ⟨ret_int (by rw [W.op_4]), (by repeat (first | assumption | exact Bel.refl _ | refine Bel.drew ?_ | refine Bel.drewN ?_ _ | refine Bel.alloc ?_ _ | (refine Bel.trans ?_ (by assumption)) | (refine Bel.then ?_ (by assumption) (by intro x hx; first | (subst hx; simp; done) | (simp at *; omega)))))⟩
theorem clo_5 (a b : Int) (ha : 0 ≤ a) (ha' : a < 4294967296) (hb : 0 ≤ b) (hb' : b < 4294967296) (w : World) :
    Calls Try.prog 48 #[.int .u32 a, .int .u32 b] w fun e w' => e = .returned (.int .u32 (W.op 5 a b)) ∧ Bel w w' := by
  go_enter Try.func48, Try.ntmps48
  go_wp2
  go_ret
  exact ⟨ret_int (by rw [W.op_5]), (by repeat (first | assumption | exact Bel.refl _ | refine Bel.drew ?_ | refine Bel.drewN ?_ _ | refine Bel.alloc ?_ _ | (refine Bel.trans ?_ (by assumption)) | (refine Bel.then ?_ (by assumption) (by intro x hx; first | (subst hx; simp; done) | (simp at *; omega)))))⟩
theorem clo_6 (a b : Int) (ha : 0 ≤ a) (ha' : a < 4294967296) (hb : 0 ≤ b) (hb' : b < 4294967296) (w : World) :
    Calls Try.prog 49 #[.int .u32 a, .int .u32 b] w fun e w' => e = .returned (.int .u32 (W.op 6 a b)) ∧ Bel w w' := by
  go_enter Try.func49, Try.ntmps49
  go_wp2
  go_ret
  exact ⟨ret_int (by rw [W.op_6]), (by repeat (first | assumption | exact Bel.refl _ | refine Bel.drew ?_ | refine Bel.drewN ?_ _ | refine Bel.alloc ?_ _ | (refine Bel.trans ?_ (by assumption)) | (refine Bel.then ?_ (by assumption) (by intro x hx; first | (subst hx; simp; done) | (simp at *; omega)))))⟩
theorem clo_7 (a b : Int) (ha : 0 ≤ a) (ha' : a < 4294967296) (hb : 0 ≤ b) (hb' : b < 4294967296) (w : World) :
    Calls Try.prog 50 #[.int .u32 a, .int .u32 b] w fun e w' => e = .returned (.int .u32 (W.op 7 a b)) ∧ Bel w w' := by
  go_enter Try.func50, Try.ntmps50
  go_wp2
  go_ret
  exact ⟨ret_int (by rw [W.op_7]), (by repeat (first | assumption | exact Bel.refl _ | refine Bel.drew ?_ | refine Bel.drewN ?_ _ | refine Bel.alloc ?_ _ | (refine Bel.trans ?_ (by assumption)) | (refine Bel.then ?_ (by assumption) (by intro x hx; first | (subst hx; simp; done) | (simp at *; omega)))))⟩
theorem clo_8 (a b : Int) (ha : 0 ≤ a) (ha' : a < 4294967296) (hb : 0 ≤ b) (hb' : b < 4294967296) (w : World) :
    Calls Try.prog 51 #[.int .u32 a, .int .u32 b] w fun e w' => e = .returned (.int .u32 (W.op 8 a b)) ∧ Bel w w' := by
  have hd : 0 ≤ b % 32 ∧ b % 32 < 32 := by omega
  go_enter Try.func51, Try.ntmps51
  go_wp2
  go_ret
  exact ⟨ret_int (by rw [W.op_8]), (by repeat (first | assumption | exact Bel.refl _ | refine Bel.drew ?_ | refine Bel.drewN ?_ _ | refine Bel.alloc ?_ _ | (refine Bel.trans ?_ (by assumption)) | (refine Bel.then ?_ (by assumption) (by intro x hx; first | (subst hx; simp; done) | (simp at *; omega)))))⟩
theorem clo_9 (a b : Int) (ha : 0 ≤ a) (ha' : a < 4294967296) (hb : 0 ≤ b) (hb' : b < 4294967296) (w : World) :
    Calls Try.prog 52 #[.int .u32 a, .int .u32 b] w fun e w' => e = .returned (.int .u32 (W.op 9 a b)) ∧ Bel w w' := by
  have hd : 0 ≤ b % 32 ∧ b % 32 < 32 := by omega
  go_enter Try.func52, Try.ntmps52
  go_wp2
  go_ret
  exact ⟨ret_int (by rw [W.op_9]), (by repeat (first | assumption | exact Bel.refl _ | refine Bel.drew ?_ | refine Bel.drewN ?_ _ | refine Bel.alloc ?_ _ | (refine Bel.trans ?_ (by assumption)) | (refine Bel.then ?_ (by assumption) (by intro x hx; first | (subst hx; simp; done) | (simp at *; omega)))))⟩
theorem clo_10 (a b : Int) (ha : 0 ≤ a) (ha' : a < 4294967296) (hb : 0 ≤ b) (hb' : b < 4294967296) (w : World) :
    Calls Try.prog 53 #[.int .u32 a, .int .u32 b] w fun e w' => e = .returned (.int .u32 (W.op 10 a b)) ∧ Bel w w' := by
  have hd : 0 ≤ b % 32 ∧ b % 32 < 32 := by omega
  have hs := W.sg_wrap a ha ha'
  go_enter Try.func53, Try.ntmps53
  go_wp2
  go_ret
  exact ⟨ret_int (by rw [W.op_10]), (by repeat (first | assumption | exact Bel.refl _ | refine Bel.drew ?_ | refine Bel.drewN ?_ _ | refine Bel.alloc ?_ _ | (refine Bel.trans ?_ (by assumption)) | (refine Bel.then ?_ (by assumption) (by intro x hx; first | (subst hx; simp; done) | (simp at *; omega)))))⟩
theorem clo_11 (a b : Int) (ha : 0 ≤ a) (ha' : a < 4294967296) (hb : 0 ≤ b) (hb' : b < 4294967296) (w : World) :
    Calls Try.prog 54 #[.int .u32 a, .int .u32 b] w fun e w' => e = .returned (.int .u32 (W.op 11 a b)) ∧ Bel w w' := by
  go_enter Try.func54, Try.ntmps54
  go_wp2
  go_ret
  exact ⟨ret_int (by rw [W.op_11]), (by repeat (first | assumption | exact Bel.refl _ | refine Bel.drew ?_ | refine Bel.drewN ?_ _ | refine Bel.alloc ?_ _ | (refine Bel.trans ?_ (by assumption)) | (refine Bel.then ?_ (by assumption) (by intro x hx; first | (subst hx; simp; done) | (simp at *; omega)))))⟩
theorem clo_12 (a b : Int) (ha : 0 ≤ a) (ha' : a < 4294967296) (hb : 0 ≤ b) (hb' : b < 4294967296) (w : World) :
    Calls Try.prog 55 #[.int .u32 a, .int .u32 b] w fun e w' => e = .returned (.int .u32 (W.op 12 a b)) ∧ Bel w w' := by
  by_cases h : b = 0
  · subst h
    go_enter Try.func55, Try.ntmps55
    go_wp2
    go_ret
    exact ⟨ret_int (by rw [W.op_12]; simp), (by repeat (first | assumption | exact Bel.refl _ | refine Bel.drew ?_ | refine Bel.drewN ?_ _ | refine Bel.alloc ?_ _ | (refine Bel.trans ?_ (by assumption)) | (refine Bel.then ?_ (by assumption) (by intro x hx; first | (subst hx; simp; done) | (simp at *; omega)))))⟩
  · have h0 : (b == 0) = false := by simp [h]
    go_enter Try.func55, Try.ntmps55
    go_wp2
    go_ret
    exact ⟨ret_int (by rw [W.op_12]), (by repeat (first | assumption | exact Bel.refl _ | refine Bel.drew ?_ | refine Bel.drewN ?_ _ | refine Bel.alloc ?_ _ | (refine Bel.trans ?_ (by assumption)) | (refine Bel.then ?_ (by assumption) (by intro x hx; first | (subst hx; simp; done) | (simp at *; omega)))))⟩
theorem clo_13 (a b : Int) (ha : 0 ≤ a) (ha' : a < 4294967296) (hb : 0 ≤ b) (hb' : b < 4294967296) (w : World) :
    Calls Try.prog 56 #[.int .u32 a, .int .u32 b] w fun e w' => e = .returned (.int .u32 (W.op 13 a b)) ∧ Bel w w' := by
  go_enter Try.func56, Try.ntmps56
  go_wp2_with (go_at_call 57; refine (wbit_any _ _).mono ?_; rintro e w' ⟨rfl, hb⟩)
  go_ret
  exact ⟨ret_int (by rw [W.op_13]), (by repeat (first | assumption | exact Bel.refl _ | refine Bel.drew ?_ | refine Bel.drewN ?_ _ | refine Bel.alloc ?_ _ | (refine Bel.trans ?_ (by assumption)) | (refine Bel.then ?_ (by assumption) (by intro x hx; first | (subst hx; simp; done) | (simp at *; omega)))))⟩
theorem clo_14 (a b : Int) (ha : 0 ≤ a) (ha' : a < 4294967296) (hb : 0 ≤ b) (hb' : b < 4294967296) (w : World) :
    Calls Try.prog 58 #[.int .u32 a, .int .u32 b] w fun e w' => e = .returned (.int .u32 (W.op 14 a b)) ∧ Bel w w' := by
  go_enter Try.func58, Try.ntmps58
  go_wp2_with (go_at_call 57; refine (wbit_any _ _).mono ?_; rintro e w' ⟨rfl, hb⟩)
  go_ret
  exact ⟨ret_int (by rw [W.op_14]), (by repeat (first | assumption | exact Bel.refl _ | refine Bel.drew ?_ | refine Bel.drewN ?_ _ | refine Bel.alloc ?_ _ | (refine Bel.trans ?_ (by assumption)) | (refine Bel.then ?_ (by assumption) (by intro x hx; first | (subst hx; simp; done) | (simp at *; omega)))))⟩
theorem clo_15 (a b : Int) (ha : 0 ≤ a) (ha' : a < 4294967296) (hb : 0 ≤ b) (hb' : b < 4294967296) (w : World) :
    Calls Try.prog 59 #[.int .u32 a, .int .u32 b] w fun e w' => e = .returned (.int .u32 (W.op 15 a b)) ∧ Bel w w' := by
  have hs := W.sg_wrap a ha ha'
  have hs' := W.sg_wrap b hb hb'
  go_enter Try.func59, Try.ntmps59
  go_wp2_with (go_at_call 57; refine (wbit_any _ _).mono ?_; rintro e w' ⟨rfl, hb⟩)
  go_ret
  exact ⟨ret_int (by rw [W.op_15]), (by repeat (first | assumption | exact Bel.refl _ | refine Bel.drew ?_ | refine Bel.drewN ?_ _ | refine Bel.alloc ?_ _ | (refine Bel.trans ?_ (by assumption)) | (refine Bel.then ?_ (by assumption) (by intro x hx; first | (subst hx; simp; done) | (simp at *; omega)))))⟩
theorem Op_3 (a b : Int) (ha : 0 ≤ a) (ha' : a < 4294967296) (hb : 0 ≤ b) (hb' : b < 4294967296) (w : World) :
    Calls Try.prog 33 #[.int .i64 3, .int .u32 a, .int .u32 b] w fun e w' => e = .returned (.int .u32 (W.op 3 a b)) ∧ Bel w w' := by
  have hl : ∀ w1 : World, w1.heap[w.heap.size]? = some (.map opsEnt 13) → (Instr.lookup 59 (.map (some w.heap.size)) (.int .i64 3) true).run Try.prog w1 = .ok (.tuple #[.func (.func 46) #[] #[], .bool true]) w1 :=
    fun w1 h => run_lookup_hit w1 59 3 57 .i64 _ opsEnt 13 3 _ 0 Try.underlying59 Try.underlying3 h rfl
  go_enter Try.func33, Try.ntmps33
  go_wp2_with (first
    | (go_at_call 43; refine (ops_any _).mono ?_; rintro e w1 ⟨rfl, hm, hb1⟩)
    | (go_at_call 46; refine (clo_3 a b ha ha' hb hb' _).mono ?_; rintro e w2 ⟨rfl, hb2⟩))
  go_ret
  exact ⟨rfl, (by repeat (first | assumption | exact Bel.refl _ | refine Bel.drew ?_ | refine Bel.drewN ?_ _ | refine Bel.alloc ?_ _ | (refine Bel.trans ?_ (by assumption)) | (refine Bel.then ?_ (by assumption) (by intro x hx; first | (subst hx; simp; done) | (simp at *; omega)))))⟩
theorem Op_4 (a b : Int) (ha : 0 ≤ a) (ha' : a < 4294967296) (hb : 0 ≤ b) (hb' : b < 4294967296) (w : World) :
    Calls Try.prog 33 #[.int .i64 4, .int .u32 a, .int .u32 b] w fun e w' => e = .returned (.int .u32 (W.op 4 a b)) ∧ Bel w w' := by
  have hl : ∀ w1 : World, w1.heap[w.heap.size]? = some (.map opsEnt 13) → (Instr.lookup 59 (.map (some w.heap.size)) (.int .i64 4) true).run Try.prog w1 = .ok (.tuple #[.func (.func 47) #[] #[], .bool true]) w1 :=
    fun w1 h => run_lookup_hit w1 59 3 57 .i64 _ opsEnt 13 4 _ 1 Try.underlying59 Try.underlying3 h rfl
  go_enter Try.func33, Try.ntmps33
  go_wp2_with (first
    | (go_at_call 43; refine (ops_any _).mono ?_; rintro e w1 ⟨rfl, hm, hb1⟩)
    | (go_at_call 47; refine (clo_4 a b ha ha' hb hb' _).mono ?_; rintro e w2 ⟨rfl, hb2⟩))
  go_ret
  exact ⟨rfl, (by repeat (first | assumption | exact Bel.refl _ | refine Bel.drew ?_ | refine Bel.drewN ?_ _ | refine Bel.alloc ?_ _ | (refine Bel.trans ?_ (by assumption)) | (refine Bel.then ?_ (by assumption) (by intro x hx; first | (subst hx; simp; done) | (simp at *; omega)))))⟩
theorem Op_5 (a b : Int) (ha : 0 ≤ a) (ha' : a < 4294967296) (hb : 0 ≤ b) (hb' : b < 4294967296) (w : World) :
    Calls Try.prog 33 #[.int .i64 5, .int .u32 a, .int .u32 b] w fun e w' => e = .returned (.int .u32 (W.op 5 a b)) ∧ Bel w w' := by
  have hl : ∀ w1 : World, w1.heap[w.heap.size]? = some (.map opsEnt 13) → (Instr.lookup 59 (.map (some w.heap.size)) (.int .i64 5) true).run Try.prog w1 = .ok (.tuple #[.func (.func 48) #[] #[], .bool true]) w1 :=
    fun w1 h => run_lookup_hit w1 59 3 57 .i64 _ opsEnt 13 5 _ 2 Try.underlying59 Try.underlying3 h rfl
  go_enter Try.func33, Try.ntmps33
  go_wp2_with (first
    | (go_at_call 43; refine (ops_any _).mono ?_; rintro e w1 ⟨rfl, hm, hb1⟩)
    | (go_at_call 48; refine (clo_5 a b ha ha' hb hb' _).mono ?_; rintro e w2 ⟨rfl, hb2⟩))
  go_ret
  exact ⟨rfl, (by repeat (first | assumption | exact Bel.refl _ | refine Bel.drew ?_ | refine Bel.drewN ?_ _ | refine Bel.alloc ?_ _ | (refine Bel.trans ?_ (by assumption)) | (refine Bel.then ?_ (by assumption) (by intro x hx; first | (subst hx; simp; done) | (simp at *; omega)))))⟩
theorem Op_6 (a b : Int) (ha : 0 ≤ a) (ha' : a < 4294967296) (hb : 0 ≤ b) (hb' : b < 4294967296) (w : World) :
    Calls Try.prog 33 #[.int .i64 6, .int .u32 a, .int .u32 b] w fun e w' => e = .returned (.int .u32 (W.op 6 a b)) ∧ Bel w w' := by
  have hl : ∀ w1 : World, w1.heap[w.heap.size]? = some (.map opsEnt 13) → (Instr.lookup 59 (.map (some w.heap.size)) (.int .i64 6) true).run Try.prog w1 = .ok (.tuple #[.func (.func 49) #[] #[], .bool true]) w1 :=
    fun w1 h => run_lookup_hit w1 59 3 57 .i64 _ opsEnt 13 6 _ 3 Try.underlying59 Try.underlying3 h rfl
  go_enter Try.func33, Try.ntmps33
  go_wp2_with (first
    | (go_at_call 43; refine (ops_any _).mono ?_; rintro e w1 ⟨rfl, hm, hb1⟩)
    | (go_at_call 49; refine (clo_6 a b ha ha' hb hb' _).mono ?_; rintro e w2 ⟨rfl, hb2⟩))
  go_ret
  exact ⟨rfl, (by repeat (first | assumption | exact Bel.refl _ | refine Bel.drew ?_ | refine Bel.drewN ?_ _ | refine Bel.alloc ?_ _ | (refine Bel.trans ?_ (by assumption)) | (refine Bel.then ?_ (by assumption) (by intro x hx; first | (subst hx; simp; done) | (simp at *; omega)))))⟩
theorem Op_7 (a b : Int) (ha : 0 ≤ a) (ha' : a < 4294967296) (hb : 0 ≤ b) (hb' : b < 4294967296) (w : World) :
    Calls Try.prog 33 #[.int .i64 7, .int .u32 a, .int .u32 b] w fun e w' => e = .returned (.int .u32 (W.op 7 a b)) ∧ Bel w w' := by
  have hl : ∀ w1 : World, w1.heap[w.heap.size]? = some (.map opsEnt 13) → (Instr.lookup 59 (.map (some w.heap.size)) (.int .i64 7) true).run Try.prog w1 = .ok (.tuple #[.func (.func 50) #[] #[], .bool true]) w1 :=
    fun w1 h => run_lookup_hit w1 59 3 57 .i64 _ opsEnt 13 7 _ 4 Try.underlying59 Try.underlying3 h rfl
  go_enter Try.func33, Try.ntmps33
  go_wp2_with (first
    | (go_at_call 43; refine (ops_any _).mono ?_; rintro e w1 ⟨rfl, hm, hb1⟩)
    | (go_at_call 50; refine (clo_7 a b ha ha' hb hb' _).mono ?_; rintro e w2 ⟨rfl, hb2⟩))
  go_ret
  exact ⟨rfl, (by repeat (first | assumption | exact Bel.refl _ | refine Bel.drew ?_ | refine Bel.drewN ?_ _ | refine Bel.alloc ?_ _ | (refine Bel.trans ?_ (by assumption)) | (refine Bel.then ?_ (by assumption) (by intro x hx; first | (subst hx; simp; done) | (simp at *; omega)))))⟩
theorem Op_8 (a b : Int) (ha : 0 ≤ a) (ha' : a < 4294967296) (hb : 0 ≤ b) (hb' : b < 4294967296) (w : World) :
    Calls Try.prog 33 #[.int .i64 8, .int .u32 a, .int .u32 b] w fun e w' => e = .returned (.int .u32 (W.op 8 a b)) ∧ Bel w w' := by
  have hl : ∀ w1 : World, w1.heap[w.heap.size]? = some (.map opsEnt 13) → (Instr.lookup 59 (.map (some w.heap.size)) (.int .i64 8) true).run Try.prog w1 = .ok (.tuple #[.func (.func 51) #[] #[], .bool true]) w1 :=
    fun w1 h => run_lookup_hit w1 59 3 57 .i64 _ opsEnt 13 8 _ 5 Try.underlying59 Try.underlying3 h rfl
  go_enter Try.func33, Try.ntmps33
  go_wp2_with (first
    | (go_at_call 43; refine (ops_any _).mono ?_; rintro e w1 ⟨rfl, hm, hb1⟩)
    | (go_at_call 51; refine (clo_8 a b ha ha' hb hb' _).mono ?_; rintro e w2 ⟨rfl, hb2⟩))
  go_ret
  exact ⟨rfl, (by repeat (first | assumption | exact Bel.refl _ | refine Bel.drew ?_ | refine Bel.drewN ?_ _ | refine Bel.alloc ?_ _ | (refine Bel.trans ?_ (by assumption)) | (refine Bel.then ?_ (by assumption) (by intro x hx; first | (subst hx; simp; done) | (simp at *; omega)))))⟩
theorem Op_9 (a b : Int) (ha : 0 ≤ a) (ha' : a < 4294967296) (hb : 0 ≤ b) (hb' : b < 4294967296) (w : World) :
    Calls Try.prog 33 #[.int .i64 9, .int .u32 a, .int .u32 b] w fun e w' => e = .returned (.int .u32 (W.op 9 a b)) ∧ Bel w w' := by
  have hl : ∀ w1 : World, w1.heap[w.heap.size]? = some (.map opsEnt 13) → (Instr.lookup 59 (.map (some w.heap.size)) (.int .i64 9) true).run Try.prog w1 = .ok (.tuple #[.func (.func 52) #[] #[], .bool true]) w1 :=
    fun w1 h => run_lookup_hit w1 59 3 57 .i64 _ opsEnt 13 9 _ 6 Try.underlying59 Try.underlying3 h rfl
  go_enter Try.func33, Try.ntmps33
  go_wp2_with (first
    | (go_at_call 43; refine (ops_any _).mono ?_; rintro e w1 ⟨rfl, hm, hb1⟩)
    | (go_at_call 52; refine (clo_9 a b ha ha' hb hb' _).mono ?_; rintro e w2 ⟨rfl, hb2⟩))
  go_ret
  exact ⟨rfl, (by repeat (first | assumption | exact Bel.refl _ | refine Bel.drew ?_ | refine Bel.drewN ?_ _ | refine Bel.alloc ?_ _ | (refine Bel.trans ?_ (by assumption)) | (refine Bel.then ?_ (by assumption) (by intro x hx; first | (subst hx; simp; done) | (simp at *; omega)))))⟩
theorem Op_10 (a b : Int) (ha : 0 ≤ a) (ha' : a < 4294967296) (hb : 0 ≤ b) (hb' : b < 4294967296) (w : World) :
    Calls Try.prog 33 #[.int .i64 10, .int .u32 a, .int .u32 b] w fun e w' => e = .returned (.int .u32 (W.op 10 a b)) ∧ Bel w w' := by
  have hl : ∀ w1 : World, w1.heap[w.heap.size]? = some (.map opsEnt 13) → (Instr.lookup 59 (.map (some w.heap.size)) (.int .i64 10) true).run Try.prog w1 = .ok (.tuple #[.func (.func 53) #[] #[], .bool true]) w1 :=
    fun w1 h => run_lookup_hit w1 59 3 57 .i64 _ opsEnt 13 10 _ 7 Try.underlying59 Try.underlying3 h rfl
  go_enter Try.func33, Try.ntmps33
  go_wp2_with (first
    | (go_at_call 43; refine (ops_any _).mono ?_; rintro e w1 ⟨rfl, hm, hb1⟩)
    | (go_at_call 53; refine (clo_10 a b ha ha' hb hb' _).mono ?_; rintro e w2 ⟨rfl, hb2⟩))
  go_ret
  exact ⟨rfl, (by repeat (first | assumption | exact Bel.refl _ | refine Bel.drew ?_ | refine Bel.drewN ?_ _ | refine Bel.alloc ?_ _ | (refine Bel.trans ?_ (by assumption)) | (refine Bel.then ?_ (by assumption) (by intro x hx; first | (subst hx; simp; done) | (simp at *; omega)))))⟩
theorem Op_11 (a b : Int) (ha : 0 ≤ a) (ha' : a < 4294967296) (hb : 0 ≤ b) (hb' : b < 4294967296) (w : World) :
    Calls Try.prog 33 #[.int .i64 11, .int .u32 a, .int .u32 b] w fun e w' => e = .returned (.int .u32 (W.op 11 a b)) ∧ Bel w w' := by
  have hl : ∀ w1 : World, w1.heap[w.heap.size]? = some (.map opsEnt 13) → (Instr.lookup 59 (.map (some w.heap.size)) (.int .i64 11) true).run Try.prog w1 = .ok (.tuple #[.func (.func 54) #[] #[], .bool true]) w1 :=
    fun w1 h => run_lookup_hit w1 59 3 57 .i64 _ opsEnt 13 11 _ 8 Try.underlying59 Try.underlying3 h rfl
  go_enter Try.func33, Try.ntmps33
  go_wp2_with (first
    | (go_at_call 43; refine (ops_any _).mono ?_; rintro e w1 ⟨rfl, hm, hb1⟩)
    | (go_at_call 54; refine (clo_11 a b ha ha' hb hb' _).mono ?_; rintro e w2 ⟨rfl, hb2⟩))
  go_ret
  exact ⟨rfl, (by repeat (first | assumption | exact Bel.refl _ | refine Bel.drew ?_ | refine Bel.drewN ?_ _ | refine Bel.alloc ?_ _ | (refine Bel.trans ?_ (by assumption)) | (refine Bel.then ?_ (by assumption) (by intro x hx; first | (subst hx; simp; done) | (simp at *; omega)))))⟩
theorem Op_12 (a b : Int) (ha : 0 ≤ a) (ha' : a < 4294967296) (hb : 0 ≤ b) (hb' : b < 4294967296) (w : World) :
    Calls Try.prog 33 #[.int .i64 12, .int .u32 a, .int .u32 b] w fun e w' => e = .returned (.int .u32 (W.op 12 a b)) ∧ Bel w w' := by
  have hl : ∀ w1 : World, w1.heap[w.heap.size]? = some (.map opsEnt 13) → (Instr.lookup 59 (.map (some w.heap.size)) (.int .i64 12) true).run Try.prog w1 = .ok (.tuple #[.func (.func 55) #[] #[], .bool true]) w1 :=
    fun w1 h => run_lookup_hit w1 59 3 57 .i64 _ opsEnt 13 12 _ 9 Try.underlying59 Try.underlying3 h rfl
  go_enter Try.func33, Try.ntmps33
  go_wp2_with (first
    | (go_at_call 43; refine (ops_any _).mono ?_; rintro e w1 ⟨rfl, hm, hb1⟩)
    | (go_at_call 55; refine (clo_12 a b ha ha' hb hb' _).mono ?_; rintro e w2 ⟨rfl, hb2⟩))
  go_ret
  exact ⟨rfl, (by repeat (first | assumption | exact Bel.refl _ | refine Bel.drew ?_ | refine Bel.drewN ?_ _ | refine Bel.alloc ?_ _ | (refine Bel.trans ?_ (by assumption)) | (refine Bel.then ?_ (by assumption) (by intro x hx; first | (subst hx; simp; done) | (simp at *; omega)))))⟩
theorem Op_13 (a b : Int) (ha : 0 ≤ a) (ha' : a < 4294967296) (hb : 0 ≤ b) (hb' : b < 4294967296) (w : World) :
    Calls Try.prog 33 #[.int .i64 13, .int .u32 a, .int .u32 b] w fun e w' => e = .returned (.int .u32 (W.op 13 a b)) ∧ Bel w w' := by
  have hl : ∀ w1 : World, w1.heap[w.heap.size]? = some (.map opsEnt 13) → (Instr.lookup 59 (.map (some w.heap.size)) (.int .i64 13) true).run Try.prog w1 = .ok (.tuple #[.func (.func 56) #[] #[], .bool true]) w1 :=
    fun w1 h => run_lookup_hit w1 59 3 57 .i64 _ opsEnt 13 13 _ 10 Try.underlying59 Try.underlying3 h rfl
  go_enter Try.func33, Try.ntmps33
  go_wp2_with (first
    | (go_at_call 43; refine (ops_any _).mono ?_; rintro e w1 ⟨rfl, hm, hb1⟩)
    | (go_at_call 56; refine (clo_13 a b ha ha' hb hb' _).mono ?_; rintro e w2 ⟨rfl, hb2⟩))
  go_ret
  exact ⟨rfl, (by repeat (first | assumption | exact Bel.refl _ | refine Bel.drew ?_ | refine Bel.drewN ?_ _ | refine Bel.alloc ?_ _ | (refine Bel.trans ?_ (by assumption)) | (refine Bel.then ?_ (by assumption) (by intro x hx; first | (subst hx; simp; done) | (simp at *; omega)))))⟩
theorem Op_14 (a b : Int) (ha : 0 ≤ a) (ha' : a < 4294967296) (hb : 0 ≤ b) (hb' : b < 4294967296) (w : World) :
    Calls Try.prog 33 #[.int .i64 14, .int .u32 a, .int .u32 b] w fun e w' => e = .returned (.int .u32 (W.op 14 a b)) ∧ Bel w w' := by
  have hl : ∀ w1 : World, w1.heap[w.heap.size]? = some (.map opsEnt 13) → (Instr.lookup 59 (.map (some w.heap.size)) (.int .i64 14) true).run Try.prog w1 = .ok (.tuple #[.func (.func 58) #[] #[], .bool true]) w1 :=
    fun w1 h => run_lookup_hit w1 59 3 57 .i64 _ opsEnt 13 14 _ 11 Try.underlying59 Try.underlying3 h rfl
  go_enter Try.func33, Try.ntmps33
  go_wp2_with (first
    | (go_at_call 43; refine (ops_any _).mono ?_; rintro e w1 ⟨rfl, hm, hb1⟩)
    | (go_at_call 58; refine (clo_14 a b ha ha' hb hb' _).mono ?_; rintro e w2 ⟨rfl, hb2⟩))
  go_ret
  exact ⟨rfl, (by repeat (first | assumption | exact Bel.refl _ | refine Bel.drew ?_ | refine Bel.drewN ?_ _ | refine Bel.alloc ?_ _ | (refine Bel.trans ?_ (by assumption)) | (refine Bel.then ?_ (by assumption) (by intro x hx; first | (subst hx; simp; done) | (simp at *; omega)))))⟩
theorem Op_15 (a b : Int) (ha : 0 ≤ a) (ha' : a < 4294967296) (hb : 0 ≤ b) (hb' : b < 4294967296) (w : World) :
    Calls Try.prog 33 #[.int .i64 15, .int .u32 a, .int .u32 b] w fun e w' => e = .returned (.int .u32 (W.op 15 a b)) ∧ Bel w w' := by
  have hl : ∀ w1 : World, w1.heap[w.heap.size]? = some (.map opsEnt 13) → (Instr.lookup 59 (.map (some w.heap.size)) (.int .i64 15) true).run Try.prog w1 = .ok (.tuple #[.func (.func 59) #[] #[], .bool true]) w1 :=
    fun w1 h => run_lookup_hit w1 59 3 57 .i64 _ opsEnt 13 15 _ 12 Try.underlying59 Try.underlying3 h rfl
  go_enter Try.func33, Try.ntmps33
  go_wp2_with (first
    | (go_at_call 43; refine (ops_any _).mono ?_; rintro e w1 ⟨rfl, hm, hb1⟩)
    | (go_at_call 59; refine (clo_15 a b ha ha' hb hb' _).mono ?_; rintro e w2 ⟨rfl, hb2⟩))
  go_ret
  exact ⟨rfl, (by repeat (first | assumption | exact Bel.refl _ | refine Bel.drew ?_ | refine Bel.drewN ?_ _ | refine Bel.alloc ?_ _ | (refine Bel.trans ?_ (by assumption)) | (refine Bel.then ?_ (by assumption) (by intro x hx; first | (subst hx; simp; done) | (simp at *; omega)))))⟩
theorem opsEnt_miss (c : Int) (h : c < 3 ∨ 15 < c) : Instr.findNow (.int .i64) (.int .i64 c) opsEnt.toList 0 = some none := by
  have e : ∀ k : Int, 3 ≤ k → k ≤ 15 → (c == k) = false := fun k _ _ => by simp; omega
  simp [opsEnt, Instr.findNow, Instr.sameNow, e]
theorem Op_n (c a b : Int) (hc : c < 3 ∨ 15 < c) (w : World) :
    Calls Try.prog 33 #[.int .i64 c, .int .u32 a, .int .u32 b] w fun e w' => e = .returned (.int .u32 (W.op c a b)) ∧ Bel w w' := by
  have hz : ∀ w : World, (zeroValue 57).run Try.prog w = .ok .nilFunc w := fun w => by kernel_rfl
  have hl : ∀ w1 : World, w1.heap[w.heap.size]? = some (.map opsEnt 13) → (Instr.lookup 59 (.map (some w.heap.size)) (.int .i64 c) true).run Try.prog w1 = .ok (.tuple #[.nilFunc, .bool false]) w1 :=
    fun w1 h => run_lookup_miss w1 59 3 57 .i64 _ opsEnt 13 c _ Try.underlying59 Try.underlying3 (hz _) h (opsEnt_miss c hc)
  have HN := hid (W.op_n c a b hc)
  clear hz
  go_enter Try.func33, Try.ntmps33
  go_wp2_with (go_at_call 43; refine (ops_any _).mono ?_; rintro e w1 ⟨rfl, hm, hb1⟩)
  go_ret
  exact ⟨ret_int (by rw [HN.out]), (by repeat (first | assumption | exact Bel.refl _ | refine Bel.drew ?_ | refine Bel.drewN ?_ _ | refine Bel.alloc ?_ _ | (refine Bel.trans ?_ (by assumption)) | (refine Bel.then ?_ (by assumption) (by intro x hx; first | (subst hx; simp; done) | (simp at *; omega)))))⟩
theorem Op_any (c a b : Int) (ha : 0 ≤ a) (ha' : a < 4294967296) (hb : 0 ≤ b) (hb' : b < 4294967296) (w : World) :
    Calls Try.prog 33 #[.int .i64 c, .int .u32 a, .int .u32 b] w fun e w' => e = .returned (.int .u32 (W.op c a b)) ∧ Bel w w' := by
  rcases (by omega : c = 3 ∨ c = 4 ∨ c = 5 ∨ c = 6 ∨ c = 7 ∨ c = 8 ∨ c = 9 ∨ c = 10 ∨ c = 11 ∨ c = 12 ∨ c = 13 ∨ c = 14 ∨ c = 15 ∨ (c < 3 ∨ 15 < c)) with rfl | rfl | rfl | rfl | rfl | rfl | rfl | rfl | rfl | rfl | rfl | rfl | rfl | h
  · exact Op_3 a b ha ha' hb hb' w
  · exact Op_4 a b ha ha' hb hb' w
  · exact Op_5 a b ha ha' hb hb' w
  · exact Op_6 a b ha ha' hb hb' w
  · exact Op_7 a b ha ha' hb hb' w
  · exact Op_8 a b ha ha' hb hb' w
  · exact Op_9 a b ha ha' hb hb' w
  · exact Op_10 a b ha ha' hb hb' w
  · exact Op_11 a b ha ha' hb hb' w
  · exact Op_12 a b ha ha' hb hb' w
  · exact Op_13 a b ha ha' hb hb' w
  · exact Op_14 a b ha ha' hb hb' w
  · exact Op_15 a b ha ha' hb hb' w
  · exact Op_n c a b h w
end Go.Proofs.Ytnjpmmdjaenomaa
