/- Walks: babelref01.Near returns a word; word.Cond, babelref01.Cond return W.cond; no condition but that the words are words. -/
import Derived.Test.YtnjpmmdjaenomaaProg
import Derived.Test.YtnjpmmdjaenomaaBase
import Derived.Test.YtnjpmmdjaenomaaW1
namespace Go.Proofs.Ytnjpmmdjaenomaa
set_option linter.unusedVariables false
open Go.RowKit

def IsU32 (w : World) (e : Ending) (w' : World) : Prop := ∃ x : Int, 0 ≤ x ∧ x < 4294967296 ∧ e = .returned (.int .u32 x) ∧ Bel w w'

theorem near_any (n : Int) (h0 : -9223372036854775808 ≤ n) (h1 : n ≤ 9223372036854775807) (w : World) :
    Calls Try.prog 14 #[.int .i64 n] w (IsU32 w) := by
  have e3 : ∀ n : Int, bits .and .i64 n 3 = n % 4 := W.i64_and3
  have e31 : ∀ n : Int, bits .and .i64 n 31 = n % 32 := W.i64_and31
  go_enter Try.func14, Try.ntmps14
  go_wp2
  all_goals
    go_ret
    exact ⟨_, Int.emod_nonneg _ (by decide), Int.emod_lt_of_pos _ (by decide), rfl, (by repeat (first | assumption | exact Bel.refl _ | refine Bel.drew ?_ | refine Bel.drewN ?_ _ | refine Bel.alloc ?_ _ | (refine Bel.trans ?_ (by assumption)) | (refine Bel.then ?_ (by assumption) (by intro x hx; first | (subst hx; simp; done) | (simp at *; omega)))))⟩

theorem wnames_any (w : World) : Calls Try.prog 40 #[] w fun e w' => e = .returned (.agg #[.string ⟨#[101, 113]⟩, .string ⟨#[110, 101]⟩, .string ⟨#[99, 115]⟩, .string ⟨#[99, 99]⟩, .string ⟨#[109, 105]⟩, .string ⟨#[112, 108]⟩, .string ⟨#[118, 115]⟩, .string ⟨#[118, 99]⟩, .string ⟨#[104, 105]⟩, .string ⟨#[108, 115]⟩, .string ⟨#[103, 101]⟩, .string ⟨#[108, 116]⟩, .string ⟨#[103, 116]⟩, .string ⟨#[108, 101]⟩]) ∧ Bel w w' := by
  go_enter Try.func40, Try.ntmps40
  go_wp2
  exact bodyPost_ret (v := .agg #[.string ⟨#[101, 113]⟩, .string ⟨#[110, 101]⟩, .string ⟨#[99, 115]⟩, .string ⟨#[99, 99]⟩, .string ⟨#[109, 105]⟩, .string ⟨#[112, 108]⟩, .string ⟨#[118, 115]⟩, .string ⟨#[118, 99]⟩, .string ⟨#[104, 105]⟩, .string ⟨#[108, 115]⟩, .string ⟨#[103, 101]⟩, .string ⟨#[108, 116]⟩, .string ⟨#[103, 116]⟩, .string ⟨#[108, 101]⟩]) (by simp [results, Try.results40, go_sem]) rfl ⟨rfl, (by repeat (first | assumption | exact Bel.refl _ | refine Bel.drew ?_ | refine Bel.drewN ?_ _ | refine Bel.alloc ?_ _ | (refine Bel.trans ?_ (by assumption)) | (refine Bel.then ?_ (by assumption) (by intro x hx; first | (subst hx; simp; done) | (simp at *; omega)))))⟩
theorem rnames_any (w : World) : Calls Try.prog 42 #[] w fun e w' => e = .returned (.agg #[.string ⟨#[101, 113]⟩, .string ⟨#[110, 101]⟩, .string ⟨#[99, 115]⟩, .string ⟨#[99, 99]⟩, .string ⟨#[109, 105]⟩, .string ⟨#[112, 108]⟩, .string ⟨#[118, 115]⟩, .string ⟨#[118, 99]⟩, .string ⟨#[104, 105]⟩, .string ⟨#[108, 115]⟩, .string ⟨#[103, 101]⟩, .string ⟨#[108, 116]⟩, .string ⟨#[103, 116]⟩, .string ⟨#[108, 101]⟩]) ∧ Bel w w' := by
  go_enter Try.func42, Try.ntmps42
  go_wp2
  exact bodyPost_ret (v := .agg #[.string ⟨#[101, 113]⟩, .string ⟨#[110, 101]⟩, .string ⟨#[99, 115]⟩, .string ⟨#[99, 99]⟩, .string ⟨#[109, 105]⟩, .string ⟨#[112, 108]⟩, .string ⟨#[118, 115]⟩, .string ⟨#[118, 99]⟩, .string ⟨#[104, 105]⟩, .string ⟨#[108, 115]⟩, .string ⟨#[103, 101]⟩, .string ⟨#[108, 116]⟩, .string ⟨#[103, 116]⟩, .string ⟨#[108, 101]⟩]) (by simp [results, Try.results42, go_sem]) rfl ⟨rfl, (by repeat (first | assumption | exact Bel.refl _ | refine Bel.drew ?_ | refine Bel.drewN ?_ _ | refine Bel.alloc ?_ _ | (refine Bel.trans ?_ (by assumption)) | (refine Bel.then ?_ (by assumption) (by intro x hx; first | (subst hx; simp; done) | (simp at *; omega)))))⟩
end Go.Proofs.Ytnjpmmdjaenomaa
