/- Walks: Made of babelref02, printed by wip/eng. No condition but what is named. -/
import Derived.Test.YtgnekniabedomaaProg
import Derived.Test.YtgnekniabedomaaR2
namespace Go.Proofs.Ytgnekniabedomaa
set_option linter.unusedVariables false
set_option linter.unusedSimpArgs false
open Go.RowKit

def R2.ops : List Int := [0, 1, 2, 3, 4, 96, 100, 106, 109, 112, 113, 128, 129, 130, 32, 48, 64, 16, 80, 88, 33, 49, 65, 17, 81, 89, 34, 50, 66, 18, 82, 90, 35, 51, 67, 19, 83, 91, 36, 52, 68, 20, 84, 92, 37, 53, 69, 21, 85, 93, 38, 54, 70, 86, 94, 39, 55, 71, 40, 56, 72, 41, 57, 73, 42, 58, 74, 43, 59, 75, 44, 60, 76, 45, 61, 77, 46, 62, 78]
def R2.opAt (n : Int) : Int := R2.ops.getD (0 + n.toNat * 1) 0
theorem R2.ops_len : R2.ops.length = 79 := rfl

def R2.ix (a : Int) : Int := Int.tmod (bits .and .i64 a 65535) 79

theorem R2.tm_bd (a m : Int) (h0 : 0 < m) (h1 : m < 1000) : 0 ≤ Int.tmod (bits .and .i64 a 65535) m ∧ Int.tmod (bits .and .i64 a 65535) m < m := by
  have e : bits .and .i64 a 65535 = a % 65536 := W.i64_and_mask 16 (by decide) a
  rw [e]
  have : 0 ≤ a % 65536 := by omega
  rw [Int.tmod_eq_emod_of_nonneg this]
  exact ⟨Int.emod_nonneg _ (by omega), Int.emod_lt_of_pos _ h0⟩

def R2.c17 : List Value := [.int .i64 0, .int .i64 1, .int .i64 2, .int .i64 3, .int .i64 4, .int .i64 96, .int .i64 100, .int .i64 106, .int .i64 109, .int .i64 112, .int .i64 113, .int .i64 128, .int .i64 129, .int .i64 130, .int .i64 32, .int .i64 48, .int .i64 64]
def R2.c18 : List Value := [.int .i64 0, .int .i64 1, .int .i64 2, .int .i64 3, .int .i64 4, .int .i64 96, .int .i64 100, .int .i64 106, .int .i64 109, .int .i64 112, .int .i64 113, .int .i64 128, .int .i64 129, .int .i64 130, .int .i64 32, .int .i64 48, .int .i64 64, .int .i64 16]
def R2.c20 : List Value := [.int .i64 0, .int .i64 1, .int .i64 2, .int .i64 3, .int .i64 4, .int .i64 96, .int .i64 100, .int .i64 106, .int .i64 109, .int .i64 112, .int .i64 113, .int .i64 128, .int .i64 129, .int .i64 130, .int .i64 32, .int .i64 48, .int .i64 64, .int .i64 16, .int .i64 80, .int .i64 88]
def R2.c23 : List Value := [.int .i64 0, .int .i64 1, .int .i64 2, .int .i64 3, .int .i64 4, .int .i64 96, .int .i64 100, .int .i64 106, .int .i64 109, .int .i64 112, .int .i64 113, .int .i64 128, .int .i64 129, .int .i64 130, .int .i64 32, .int .i64 48, .int .i64 64, .int .i64 16, .int .i64 80, .int .i64 88, .int .i64 33, .int .i64 49, .int .i64 65]
def R2.c24 : List Value := [.int .i64 0, .int .i64 1, .int .i64 2, .int .i64 3, .int .i64 4, .int .i64 96, .int .i64 100, .int .i64 106, .int .i64 109, .int .i64 112, .int .i64 113, .int .i64 128, .int .i64 129, .int .i64 130, .int .i64 32, .int .i64 48, .int .i64 64, .int .i64 16, .int .i64 80, .int .i64 88, .int .i64 33, .int .i64 49, .int .i64 65, .int .i64 17]
def R2.c26 : List Value := [.int .i64 0, .int .i64 1, .int .i64 2, .int .i64 3, .int .i64 4, .int .i64 96, .int .i64 100, .int .i64 106, .int .i64 109, .int .i64 112, .int .i64 113, .int .i64 128, .int .i64 129, .int .i64 130, .int .i64 32, .int .i64 48, .int .i64 64, .int .i64 16, .int .i64 80, .int .i64 88, .int .i64 33, .int .i64 49, .int .i64 65, .int .i64 17, .int .i64 81, .int .i64 89]
def R2.c29 : List Value := [.int .i64 0, .int .i64 1, .int .i64 2, .int .i64 3, .int .i64 4, .int .i64 96, .int .i64 100, .int .i64 106, .int .i64 109, .int .i64 112, .int .i64 113, .int .i64 128, .int .i64 129, .int .i64 130, .int .i64 32, .int .i64 48, .int .i64 64, .int .i64 16, .int .i64 80, .int .i64 88, .int .i64 33, .int .i64 49, .int .i64 65, .int .i64 17, .int .i64 81, .int .i64 89, .int .i64 34, .int .i64 50, .int .i64 66]
def R2.c30 : List Value := [.int .i64 0, .int .i64 1, .int .i64 2, .int .i64 3, .int .i64 4, .int .i64 96, .int .i64 100, .int .i64 106, .int .i64 109, .int .i64 112, .int .i64 113, .int .i64 128, .int .i64 129, .int .i64 130, .int .i64 32, .int .i64 48, .int .i64 64, .int .i64 16, .int .i64 80, .int .i64 88, .int .i64 33, .int .i64 49, .int .i64 65, .int .i64 17, .int .i64 81, .int .i64 89, .int .i64 34, .int .i64 50, .int .i64 66, .int .i64 18]
def R2.c32 : List Value := [.int .i64 0, .int .i64 1, .int .i64 2, .int .i64 3, .int .i64 4, .int .i64 96, .int .i64 100, .int .i64 106, .int .i64 109, .int .i64 112, .int .i64 113, .int .i64 128, .int .i64 129, .int .i64 130, .int .i64 32, .int .i64 48, .int .i64 64, .int .i64 16, .int .i64 80, .int .i64 88, .int .i64 33, .int .i64 49, .int .i64 65, .int .i64 17, .int .i64 81, .int .i64 89, .int .i64 34, .int .i64 50, .int .i64 66, .int .i64 18, .int .i64 82, .int .i64 90]
def R2.c35 : List Value := [.int .i64 0, .int .i64 1, .int .i64 2, .int .i64 3, .int .i64 4, .int .i64 96, .int .i64 100, .int .i64 106, .int .i64 109, .int .i64 112, .int .i64 113, .int .i64 128, .int .i64 129, .int .i64 130, .int .i64 32, .int .i64 48, .int .i64 64, .int .i64 16, .int .i64 80, .int .i64 88, .int .i64 33, .int .i64 49, .int .i64 65, .int .i64 17, .int .i64 81, .int .i64 89, .int .i64 34, .int .i64 50, .int .i64 66, .int .i64 18, .int .i64 82, .int .i64 90, .int .i64 35, .int .i64 51, .int .i64 67]
def R2.c36 : List Value := [.int .i64 0, .int .i64 1, .int .i64 2, .int .i64 3, .int .i64 4, .int .i64 96, .int .i64 100, .int .i64 106, .int .i64 109, .int .i64 112, .int .i64 113, .int .i64 128, .int .i64 129, .int .i64 130, .int .i64 32, .int .i64 48, .int .i64 64, .int .i64 16, .int .i64 80, .int .i64 88, .int .i64 33, .int .i64 49, .int .i64 65, .int .i64 17, .int .i64 81, .int .i64 89, .int .i64 34, .int .i64 50, .int .i64 66, .int .i64 18, .int .i64 82, .int .i64 90, .int .i64 35, .int .i64 51, .int .i64 67, .int .i64 19]
def R2.c38 : List Value := [.int .i64 0, .int .i64 1, .int .i64 2, .int .i64 3, .int .i64 4, .int .i64 96, .int .i64 100, .int .i64 106, .int .i64 109, .int .i64 112, .int .i64 113, .int .i64 128, .int .i64 129, .int .i64 130, .int .i64 32, .int .i64 48, .int .i64 64, .int .i64 16, .int .i64 80, .int .i64 88, .int .i64 33, .int .i64 49, .int .i64 65, .int .i64 17, .int .i64 81, .int .i64 89, .int .i64 34, .int .i64 50, .int .i64 66, .int .i64 18, .int .i64 82, .int .i64 90, .int .i64 35, .int .i64 51, .int .i64 67, .int .i64 19, .int .i64 83, .int .i64 91]
def R2.c41 : List Value := [.int .i64 0, .int .i64 1, .int .i64 2, .int .i64 3, .int .i64 4, .int .i64 96, .int .i64 100, .int .i64 106, .int .i64 109, .int .i64 112, .int .i64 113, .int .i64 128, .int .i64 129, .int .i64 130, .int .i64 32, .int .i64 48, .int .i64 64, .int .i64 16, .int .i64 80, .int .i64 88, .int .i64 33, .int .i64 49, .int .i64 65, .int .i64 17, .int .i64 81, .int .i64 89, .int .i64 34, .int .i64 50, .int .i64 66, .int .i64 18, .int .i64 82, .int .i64 90, .int .i64 35, .int .i64 51, .int .i64 67, .int .i64 19, .int .i64 83, .int .i64 91, .int .i64 36, .int .i64 52, .int .i64 68]
def R2.c42 : List Value := [.int .i64 0, .int .i64 1, .int .i64 2, .int .i64 3, .int .i64 4, .int .i64 96, .int .i64 100, .int .i64 106, .int .i64 109, .int .i64 112, .int .i64 113, .int .i64 128, .int .i64 129, .int .i64 130, .int .i64 32, .int .i64 48, .int .i64 64, .int .i64 16, .int .i64 80, .int .i64 88, .int .i64 33, .int .i64 49, .int .i64 65, .int .i64 17, .int .i64 81, .int .i64 89, .int .i64 34, .int .i64 50, .int .i64 66, .int .i64 18, .int .i64 82, .int .i64 90, .int .i64 35, .int .i64 51, .int .i64 67, .int .i64 19, .int .i64 83, .int .i64 91, .int .i64 36, .int .i64 52, .int .i64 68, .int .i64 20]
def R2.c44 : List Value := [.int .i64 0, .int .i64 1, .int .i64 2, .int .i64 3, .int .i64 4, .int .i64 96, .int .i64 100, .int .i64 106, .int .i64 109, .int .i64 112, .int .i64 113, .int .i64 128, .int .i64 129, .int .i64 130, .int .i64 32, .int .i64 48, .int .i64 64, .int .i64 16, .int .i64 80, .int .i64 88, .int .i64 33, .int .i64 49, .int .i64 65, .int .i64 17, .int .i64 81, .int .i64 89, .int .i64 34, .int .i64 50, .int .i64 66, .int .i64 18, .int .i64 82, .int .i64 90, .int .i64 35, .int .i64 51, .int .i64 67, .int .i64 19, .int .i64 83, .int .i64 91, .int .i64 36, .int .i64 52, .int .i64 68, .int .i64 20, .int .i64 84, .int .i64 92]
def R2.c47 : List Value := [.int .i64 0, .int .i64 1, .int .i64 2, .int .i64 3, .int .i64 4, .int .i64 96, .int .i64 100, .int .i64 106, .int .i64 109, .int .i64 112, .int .i64 113, .int .i64 128, .int .i64 129, .int .i64 130, .int .i64 32, .int .i64 48, .int .i64 64, .int .i64 16, .int .i64 80, .int .i64 88, .int .i64 33, .int .i64 49, .int .i64 65, .int .i64 17, .int .i64 81, .int .i64 89, .int .i64 34, .int .i64 50, .int .i64 66, .int .i64 18, .int .i64 82, .int .i64 90, .int .i64 35, .int .i64 51, .int .i64 67, .int .i64 19, .int .i64 83, .int .i64 91, .int .i64 36, .int .i64 52, .int .i64 68, .int .i64 20, .int .i64 84, .int .i64 92, .int .i64 37, .int .i64 53, .int .i64 69]
def R2.c48 : List Value := [.int .i64 0, .int .i64 1, .int .i64 2, .int .i64 3, .int .i64 4, .int .i64 96, .int .i64 100, .int .i64 106, .int .i64 109, .int .i64 112, .int .i64 113, .int .i64 128, .int .i64 129, .int .i64 130, .int .i64 32, .int .i64 48, .int .i64 64, .int .i64 16, .int .i64 80, .int .i64 88, .int .i64 33, .int .i64 49, .int .i64 65, .int .i64 17, .int .i64 81, .int .i64 89, .int .i64 34, .int .i64 50, .int .i64 66, .int .i64 18, .int .i64 82, .int .i64 90, .int .i64 35, .int .i64 51, .int .i64 67, .int .i64 19, .int .i64 83, .int .i64 91, .int .i64 36, .int .i64 52, .int .i64 68, .int .i64 20, .int .i64 84, .int .i64 92, .int .i64 37, .int .i64 53, .int .i64 69, .int .i64 21]
def R2.c50 : List Value := [.int .i64 0, .int .i64 1, .int .i64 2, .int .i64 3, .int .i64 4, .int .i64 96, .int .i64 100, .int .i64 106, .int .i64 109, .int .i64 112, .int .i64 113, .int .i64 128, .int .i64 129, .int .i64 130, .int .i64 32, .int .i64 48, .int .i64 64, .int .i64 16, .int .i64 80, .int .i64 88, .int .i64 33, .int .i64 49, .int .i64 65, .int .i64 17, .int .i64 81, .int .i64 89, .int .i64 34, .int .i64 50, .int .i64 66, .int .i64 18, .int .i64 82, .int .i64 90, .int .i64 35, .int .i64 51, .int .i64 67, .int .i64 19, .int .i64 83, .int .i64 91, .int .i64 36, .int .i64 52, .int .i64 68, .int .i64 20, .int .i64 84, .int .i64 92, .int .i64 37, .int .i64 53, .int .i64 69, .int .i64 21, .int .i64 85, .int .i64 93]
def R2.c53 : List Value := [.int .i64 0, .int .i64 1, .int .i64 2, .int .i64 3, .int .i64 4, .int .i64 96, .int .i64 100, .int .i64 106, .int .i64 109, .int .i64 112, .int .i64 113, .int .i64 128, .int .i64 129, .int .i64 130, .int .i64 32, .int .i64 48, .int .i64 64, .int .i64 16, .int .i64 80, .int .i64 88, .int .i64 33, .int .i64 49, .int .i64 65, .int .i64 17, .int .i64 81, .int .i64 89, .int .i64 34, .int .i64 50, .int .i64 66, .int .i64 18, .int .i64 82, .int .i64 90, .int .i64 35, .int .i64 51, .int .i64 67, .int .i64 19, .int .i64 83, .int .i64 91, .int .i64 36, .int .i64 52, .int .i64 68, .int .i64 20, .int .i64 84, .int .i64 92, .int .i64 37, .int .i64 53, .int .i64 69, .int .i64 21, .int .i64 85, .int .i64 93, .int .i64 38, .int .i64 54, .int .i64 70]
def R2.c55 : List Value := [.int .i64 0, .int .i64 1, .int .i64 2, .int .i64 3, .int .i64 4, .int .i64 96, .int .i64 100, .int .i64 106, .int .i64 109, .int .i64 112, .int .i64 113, .int .i64 128, .int .i64 129, .int .i64 130, .int .i64 32, .int .i64 48, .int .i64 64, .int .i64 16, .int .i64 80, .int .i64 88, .int .i64 33, .int .i64 49, .int .i64 65, .int .i64 17, .int .i64 81, .int .i64 89, .int .i64 34, .int .i64 50, .int .i64 66, .int .i64 18, .int .i64 82, .int .i64 90, .int .i64 35, .int .i64 51, .int .i64 67, .int .i64 19, .int .i64 83, .int .i64 91, .int .i64 36, .int .i64 52, .int .i64 68, .int .i64 20, .int .i64 84, .int .i64 92, .int .i64 37, .int .i64 53, .int .i64 69, .int .i64 21, .int .i64 85, .int .i64 93, .int .i64 38, .int .i64 54, .int .i64 70, .int .i64 86, .int .i64 94]
def R2.c58 : List Value := [.int .i64 0, .int .i64 1, .int .i64 2, .int .i64 3, .int .i64 4, .int .i64 96, .int .i64 100, .int .i64 106, .int .i64 109, .int .i64 112, .int .i64 113, .int .i64 128, .int .i64 129, .int .i64 130, .int .i64 32, .int .i64 48, .int .i64 64, .int .i64 16, .int .i64 80, .int .i64 88, .int .i64 33, .int .i64 49, .int .i64 65, .int .i64 17, .int .i64 81, .int .i64 89, .int .i64 34, .int .i64 50, .int .i64 66, .int .i64 18, .int .i64 82, .int .i64 90, .int .i64 35, .int .i64 51, .int .i64 67, .int .i64 19, .int .i64 83, .int .i64 91, .int .i64 36, .int .i64 52, .int .i64 68, .int .i64 20, .int .i64 84, .int .i64 92, .int .i64 37, .int .i64 53, .int .i64 69, .int .i64 21, .int .i64 85, .int .i64 93, .int .i64 38, .int .i64 54, .int .i64 70, .int .i64 86, .int .i64 94, .int .i64 39, .int .i64 55, .int .i64 71]
def R2.c61 : List Value := [.int .i64 0, .int .i64 1, .int .i64 2, .int .i64 3, .int .i64 4, .int .i64 96, .int .i64 100, .int .i64 106, .int .i64 109, .int .i64 112, .int .i64 113, .int .i64 128, .int .i64 129, .int .i64 130, .int .i64 32, .int .i64 48, .int .i64 64, .int .i64 16, .int .i64 80, .int .i64 88, .int .i64 33, .int .i64 49, .int .i64 65, .int .i64 17, .int .i64 81, .int .i64 89, .int .i64 34, .int .i64 50, .int .i64 66, .int .i64 18, .int .i64 82, .int .i64 90, .int .i64 35, .int .i64 51, .int .i64 67, .int .i64 19, .int .i64 83, .int .i64 91, .int .i64 36, .int .i64 52, .int .i64 68, .int .i64 20, .int .i64 84, .int .i64 92, .int .i64 37, .int .i64 53, .int .i64 69, .int .i64 21, .int .i64 85, .int .i64 93, .int .i64 38, .int .i64 54, .int .i64 70, .int .i64 86, .int .i64 94, .int .i64 39, .int .i64 55, .int .i64 71, .int .i64 40, .int .i64 56, .int .i64 72]
def R2.c64 : List Value := [.int .i64 0, .int .i64 1, .int .i64 2, .int .i64 3, .int .i64 4, .int .i64 96, .int .i64 100, .int .i64 106, .int .i64 109, .int .i64 112, .int .i64 113, .int .i64 128, .int .i64 129, .int .i64 130, .int .i64 32, .int .i64 48, .int .i64 64, .int .i64 16, .int .i64 80, .int .i64 88, .int .i64 33, .int .i64 49, .int .i64 65, .int .i64 17, .int .i64 81, .int .i64 89, .int .i64 34, .int .i64 50, .int .i64 66, .int .i64 18, .int .i64 82, .int .i64 90, .int .i64 35, .int .i64 51, .int .i64 67, .int .i64 19, .int .i64 83, .int .i64 91, .int .i64 36, .int .i64 52, .int .i64 68, .int .i64 20, .int .i64 84, .int .i64 92, .int .i64 37, .int .i64 53, .int .i64 69, .int .i64 21, .int .i64 85, .int .i64 93, .int .i64 38, .int .i64 54, .int .i64 70, .int .i64 86, .int .i64 94, .int .i64 39, .int .i64 55, .int .i64 71, .int .i64 40, .int .i64 56, .int .i64 72, .int .i64 41, .int .i64 57, .int .i64 73]
def R2.c67 : List Value := [.int .i64 0, .int .i64 1, .int .i64 2, .int .i64 3, .int .i64 4, .int .i64 96, .int .i64 100, .int .i64 106, .int .i64 109, .int .i64 112, .int .i64 113, .int .i64 128, .int .i64 129, .int .i64 130, .int .i64 32, .int .i64 48, .int .i64 64, .int .i64 16, .int .i64 80, .int .i64 88, .int .i64 33, .int .i64 49, .int .i64 65, .int .i64 17, .int .i64 81, .int .i64 89, .int .i64 34, .int .i64 50, .int .i64 66, .int .i64 18, .int .i64 82, .int .i64 90, .int .i64 35, .int .i64 51, .int .i64 67, .int .i64 19, .int .i64 83, .int .i64 91, .int .i64 36, .int .i64 52, .int .i64 68, .int .i64 20, .int .i64 84, .int .i64 92, .int .i64 37, .int .i64 53, .int .i64 69, .int .i64 21, .int .i64 85, .int .i64 93, .int .i64 38, .int .i64 54, .int .i64 70, .int .i64 86, .int .i64 94, .int .i64 39, .int .i64 55, .int .i64 71, .int .i64 40, .int .i64 56, .int .i64 72, .int .i64 41, .int .i64 57, .int .i64 73, .int .i64 42, .int .i64 58, .int .i64 74]
def R2.c70 : List Value := [.int .i64 0, .int .i64 1, .int .i64 2, .int .i64 3, .int .i64 4, .int .i64 96, .int .i64 100, .int .i64 106, .int .i64 109, .int .i64 112, .int .i64 113, .int .i64 128, .int .i64 129, .int .i64 130, .int .i64 32, .int .i64 48, .int .i64 64, .int .i64 16, .int .i64 80, .int .i64 88, .int .i64 33, .int .i64 49, .int .i64 65, .int .i64 17, .int .i64 81, .int .i64 89, .int .i64 34, .int .i64 50, .int .i64 66, .int .i64 18, .int .i64 82, .int .i64 90, .int .i64 35, .int .i64 51, .int .i64 67, .int .i64 19, .int .i64 83, .int .i64 91, .int .i64 36, .int .i64 52, .int .i64 68, .int .i64 20, .int .i64 84, .int .i64 92, .int .i64 37, .int .i64 53, .int .i64 69, .int .i64 21, .int .i64 85, .int .i64 93, .int .i64 38, .int .i64 54, .int .i64 70, .int .i64 86, .int .i64 94, .int .i64 39, .int .i64 55, .int .i64 71, .int .i64 40, .int .i64 56, .int .i64 72, .int .i64 41, .int .i64 57, .int .i64 73, .int .i64 42, .int .i64 58, .int .i64 74, .int .i64 43, .int .i64 59, .int .i64 75]
def R2.c73 : List Value := [.int .i64 0, .int .i64 1, .int .i64 2, .int .i64 3, .int .i64 4, .int .i64 96, .int .i64 100, .int .i64 106, .int .i64 109, .int .i64 112, .int .i64 113, .int .i64 128, .int .i64 129, .int .i64 130, .int .i64 32, .int .i64 48, .int .i64 64, .int .i64 16, .int .i64 80, .int .i64 88, .int .i64 33, .int .i64 49, .int .i64 65, .int .i64 17, .int .i64 81, .int .i64 89, .int .i64 34, .int .i64 50, .int .i64 66, .int .i64 18, .int .i64 82, .int .i64 90, .int .i64 35, .int .i64 51, .int .i64 67, .int .i64 19, .int .i64 83, .int .i64 91, .int .i64 36, .int .i64 52, .int .i64 68, .int .i64 20, .int .i64 84, .int .i64 92, .int .i64 37, .int .i64 53, .int .i64 69, .int .i64 21, .int .i64 85, .int .i64 93, .int .i64 38, .int .i64 54, .int .i64 70, .int .i64 86, .int .i64 94, .int .i64 39, .int .i64 55, .int .i64 71, .int .i64 40, .int .i64 56, .int .i64 72, .int .i64 41, .int .i64 57, .int .i64 73, .int .i64 42, .int .i64 58, .int .i64 74, .int .i64 43, .int .i64 59, .int .i64 75, .int .i64 44, .int .i64 60, .int .i64 76]
def R2.c76 : List Value := [.int .i64 0, .int .i64 1, .int .i64 2, .int .i64 3, .int .i64 4, .int .i64 96, .int .i64 100, .int .i64 106, .int .i64 109, .int .i64 112, .int .i64 113, .int .i64 128, .int .i64 129, .int .i64 130, .int .i64 32, .int .i64 48, .int .i64 64, .int .i64 16, .int .i64 80, .int .i64 88, .int .i64 33, .int .i64 49, .int .i64 65, .int .i64 17, .int .i64 81, .int .i64 89, .int .i64 34, .int .i64 50, .int .i64 66, .int .i64 18, .int .i64 82, .int .i64 90, .int .i64 35, .int .i64 51, .int .i64 67, .int .i64 19, .int .i64 83, .int .i64 91, .int .i64 36, .int .i64 52, .int .i64 68, .int .i64 20, .int .i64 84, .int .i64 92, .int .i64 37, .int .i64 53, .int .i64 69, .int .i64 21, .int .i64 85, .int .i64 93, .int .i64 38, .int .i64 54, .int .i64 70, .int .i64 86, .int .i64 94, .int .i64 39, .int .i64 55, .int .i64 71, .int .i64 40, .int .i64 56, .int .i64 72, .int .i64 41, .int .i64 57, .int .i64 73, .int .i64 42, .int .i64 58, .int .i64 74, .int .i64 43, .int .i64 59, .int .i64 75, .int .i64 44, .int .i64 60, .int .i64 76, .int .i64 45, .int .i64 61, .int .i64 77]
def R2.c79 : List Value := [.int .i64 0, .int .i64 1, .int .i64 2, .int .i64 3, .int .i64 4, .int .i64 96, .int .i64 100, .int .i64 106, .int .i64 109, .int .i64 112, .int .i64 113, .int .i64 128, .int .i64 129, .int .i64 130, .int .i64 32, .int .i64 48, .int .i64 64, .int .i64 16, .int .i64 80, .int .i64 88, .int .i64 33, .int .i64 49, .int .i64 65, .int .i64 17, .int .i64 81, .int .i64 89, .int .i64 34, .int .i64 50, .int .i64 66, .int .i64 18, .int .i64 82, .int .i64 90, .int .i64 35, .int .i64 51, .int .i64 67, .int .i64 19, .int .i64 83, .int .i64 91, .int .i64 36, .int .i64 52, .int .i64 68, .int .i64 20, .int .i64 84, .int .i64 92, .int .i64 37, .int .i64 53, .int .i64 69, .int .i64 21, .int .i64 85, .int .i64 93, .int .i64 38, .int .i64 54, .int .i64 70, .int .i64 86, .int .i64 94, .int .i64 39, .int .i64 55, .int .i64 71, .int .i64 40, .int .i64 56, .int .i64 72, .int .i64 41, .int .i64 57, .int .i64 73, .int .i64 42, .int .i64 58, .int .i64 74, .int .i64 43, .int .i64 59, .int .i64 75, .int .i64 44, .int .i64 60, .int .i64 76, .int .i64 45, .int .i64 61, .int .i64 77, .int .i64 46, .int .i64 62, .int .i64 78]


def R2.Made (a b c x y : Int) : K.Ins := (bif ((R2.Format (R2.opAt (R2.ix a))) == 1) then ⟨(R2.opAt (R2.ix a)), 0, 0, -1, 0, 0, (R2.Size (IntKind.wrap .u8 (R2.opAt (R2.ix a))))⟩ else (bif ((R2.Format (R2.opAt (R2.ix a))) == 2) then ⟨(R2.opAt (R2.ix a)), (bits .and .i64 b 7), 0, -1, 0, 0, (R2.Size (IntKind.wrap .u8 (R2.opAt (R2.ix a))))⟩ else (bif ((R2.Format (R2.opAt (R2.ix a))) == 4) then ⟨(R2.opAt (R2.ix a)), (bits .and .i64 b 7), 0, -1, 0, (R2.extend (IntKind.wrap .u8 (IntKind.wrap .u32 x))), (R2.Size (IntKind.wrap .u8 (R2.opAt (R2.ix a))))⟩ else (bif ((R2.Format (R2.opAt (R2.ix a))) == 5) then ⟨(R2.opAt (R2.ix a)), (bits .and .i64 b 7), 0, -1, 0, (IntKind.wrap .u32 x), (R2.Size (IntKind.wrap .u8 (R2.opAt (R2.ix a))))⟩ else (bif ((R2.Format (R2.opAt (R2.ix a))) == 6) then ⟨(R2.opAt (R2.ix a)), (bits .and .i64 b 7), (bits .and .i64 c 7), -1, 0, (R2.extend (IntKind.wrap .u8 (IntKind.wrap .u32 x))), (R2.Size (IntKind.wrap .u8 (R2.opAt (R2.ix a))))⟩ else (bif ((R2.Format (R2.opAt (R2.ix a))) == 7) then (bif ((bits .and .i64 y 1) == 1) then ⟨(R2.opAt (R2.ix a)), (bits .and .i64 b 7), (bits .and .i64 c 7), (bits .and .i64 (Int.fdiv y (2 ^ 1)) 7), (bits .and .i64 (Int.fdiv y (2 ^ 4)) 3), (IntKind.wrap .u32 x), (R2.Size (IntKind.wrap .u8 (R2.opAt (R2.ix a))))⟩ else ⟨(R2.opAt (R2.ix a)), (bits .and .i64 b 7), (bits .and .i64 c 7), -1, 0, (IntKind.wrap .u32 x), (R2.Size (IntKind.wrap .u8 (R2.opAt (R2.ix a))))⟩) else (bif ((R2.Format (R2.opAt (R2.ix a))) == 8) then (bif ((R2.Format (IntKind.wrap .i64 (96 + (Int.tmod (bits .and .i64 y 65535) 14)))) == 10) then ⟨(IntKind.wrap .i64 (96 + (Int.tmod (bits .and .i64 y 65535) 14))), 0, 0, -1, 0, (bits .and .u32 (IntKind.wrap .u32 x) 255), (R2.Size (IntKind.wrap .u8 (R2.opAt (R2.ix a))))⟩ else ⟨(IntKind.wrap .i64 (96 + (Int.tmod (bits .and .i64 y 65535) 14))), 0, 0, -1, 0, (R2.extend (IntKind.wrap .u8 (IntKind.wrap .u32 x))), (R2.Size (IntKind.wrap .u8 (R2.opAt (R2.ix a))))⟩) else (bif ((R2.Format (R2.opAt (R2.ix a))) == 10) then ⟨(R2.opAt (R2.ix a)), 0, 0, -1, 0, (bits .and .u32 (IntKind.wrap .u32 x) 255), (R2.Size (IntKind.wrap .u8 (R2.opAt (R2.ix a))))⟩ else (bif ((R2.Format (R2.opAt (R2.ix a))) == 9) then ⟨(R2.opAt (R2.ix a)), 0, 0, -1, 0, (IntKind.wrap .u32 x), (R2.Size (IntKind.wrap .u8 (R2.opAt (R2.ix a))))⟩ else (bif ((R2.Format (R2.opAt (R2.ix a))) == 11) then ⟨(R2.opAt (R2.ix a)), (bits .and .i64 b 7), (bits .and .i64 c 3), -1, 0, 0, (R2.Size (IntKind.wrap .u8 (R2.opAt (R2.ix a))))⟩ else (bif ((R2.Format (R2.opAt (R2.ix a))) == 12) then ⟨(R2.opAt (R2.ix a)), (bits .and .i64 b 7), (Int.tmod (bits .and .i64 c 7) 5), -1, 0, 0, (R2.Size (IntKind.wrap .u8 (R2.opAt (R2.ix a))))⟩ else ⟨(R2.opAt (R2.ix a)), (bits .and .i64 b 7), (bits .and .i64 c 7), -1, 0, 0, (R2.Size (IntKind.wrap .u8 (R2.opAt (R2.ix a))))⟩)))))))))))
set_option maxHeartbeats 4000000 in
theorem R2_Made (a b c x y : Int) (w : World) : Calls Try.prog 16 #[.agg #[.int .i64 a, .int .i64 b, .int .i64 c, .int .i64 x, .int .i64 y]] w fun e w' => e = .returned (.agg #[.int .i64 (((R2.Made a b c x y)).op), .int .i64 (((R2.Made a b c x y)).d), .int .i64 (((R2.Made a b c x y)).s), .int .i64 (((R2.Made a b c x y)).ix), .int .i64 (((R2.Made a b c x y)).sc), .int .u32 (((R2.Made a b c x y)).imm), .int .i64 (((R2.Made a b c x y)).sz)]) ∧ Bel w w' := by
  have hm : 0 ≤ R2.ix a ∧ R2.ix a < 79 := R2.tm_bd a 79 (by decide) (by decide)
  refine E.enter (n := 153) (S := fun _ => False) Try.func16 rfl rfl (by kernel_rfl) (E.Hp.start w) ?_
  refine E.C.seq ?_
  refine E.C.region ?_
  refine E.G.new (fun g => .pointer (some ⟨g, 0, none⟩)) [.int .i64 a, .int .i64 b, .int .i64 c, .int .i64 x, .int .i64 y] 35 (fun w => by kernel_rfl) (by kernel_rfl) (fun g1 => ?_)
  refine E.G.new (fun g => .pointer (some ⟨g, 0, none⟩)) [.int .i64 0, .int .i64 0, .int .i64 0, .int .i64 0, .int .i64 0, .int .u32 0, .int .i64 0] 27 (fun w => by kernel_rfl) (by kernel_rfl) (fun g2 => ?_)
  refine E.To.code ?_
  refine E.C.seq ?_
  refine E.C.region ?_
  refine E.G.buildSlice [.int .i64 0, .int .i64 1, .int .i64 2, .int .i64 3, .int .i64 4, .int .i64 96, .int .i64 100, .int .i64 106, .int .i64 109, .int .i64 112, .int .i64 113, .int .i64 128, .int .i64 129, .int .i64 130] (by kernel_rfl) (by kernel_rfl) (fun g3 => ?_)
  refine E.G.op (.slice (some ⟨g3, 0, none⟩) 14 14) (fun w => by kernel_rfl) (by kernel_rfl) ?_
  refine E.To.code ?_
  refine E.C.seq ?_
  refine E.C.seq ?_
  refine E.C.region ?_
  refine E.G.op (.int .i64 0) (fun w => by kernel_rfl) (by kernel_rfl) ?_
  refine E.To.code ?_
  refine E.C.block ?_
  refine E.C.rounds 15 ?_
  refine E.C.seq ?_
  refine E.C.seq ?_
  refine E.C.region ?_
  refine E.G.op (.int .i64 0) (fun w => by kernel_rfl) (by kernel_rfl) ?_
  refine E.G.op (.bool true) (fun w => by kernel_rfl) (by kernel_rfl) ?_
  refine E.To.code ?_
  refine E.C.condT (by kernel_rfl) (by kernel_rfl) ?_
  refine E.C.skip (E.To.code ?_)
  refine E.C.seq ?_
  refine E.C.block ?_
  refine E.C.seq ?_
  refine E.C.region ?_
  refine E.G.op (.slice (some ⟨g3, 0, none⟩) 14 14) (fun w => by kernel_rfl) (by kernel_rfl) ?_
  refine E.G.op (.int .i64 0) (fun w => by kernel_rfl) (by kernel_rfl) ?_
  refine E.G.op (.int .i64 32) (fun w => by kernel_rfl) (by kernel_rfl) ?_
  refine E.G.op (.int .i64 0) (fun w => by kernel_rfl) (by kernel_rfl) ?_
  refine E.G.op (.int .i64 48) (fun w => by kernel_rfl) (by kernel_rfl) ?_
  refine E.G.op (.int .i64 0) (fun w => by kernel_rfl) (by kernel_rfl) ?_
  refine E.G.op (.int .i64 64) (fun w => by kernel_rfl) (by kernel_rfl) ?_
  refine E.G.buildSlice [.int .i64 32, .int .i64 48, .int .i64 64] (by kernel_rfl) (by kernel_rfl) (fun g4 => ?_)
  refine E.G.append (e := 3) 1 g3 14 14 0 g4 0 3 3 1 8 [.int .i64 0, .int .i64 1, .int .i64 2, .int .i64 3, .int .i64 4, .int .i64 96, .int .i64 100, .int .i64 106, .int .i64 109, .int .i64 112, .int .i64 113, .int .i64 128, .int .i64 129, .int .i64 130] [] [.int .i64 32, .int .i64 48, .int .i64 64] _ (by kernel_rfl) (by kernel_rfl) (by kernel_rfl) rfl (by kernel_rfl) (by first | rfl | omega | assumption) (by first | omega | decide) (by kernel_rfl) rfl (by kernel_rfl) rfl (by rfl) (by omega) (by omega) (by omega) (by kernel_rfl) (fun g5 c6 r7 hc8 hr9 => ?_)
  refine E.G.relist [(g5, (R2.c17 ++ r7)), (g4, [.int .i64 32, .int .i64 48, .int .i64 64]), (g2, [.int .i64 0, .int .i64 0, .int .i64 0, .int .i64 0, .int .i64 0, .int .u32 0, .int .i64 0]), (g1, [.int .i64 a, .int .i64 b, .int .i64 c, .int .i64 x, .int .i64 y])] (by kernel_rfl) ?_
  refine E.G.op (.slice (some ⟨g5, 0, none⟩) 17 c6) (fun w => by kernel_rfl) (by kernel_rfl) ?_
  refine E.To.code ?_
  refine E.C.seq ?_
  refine E.C.seq ?_
  refine E.C.region ?_
  refine E.G.op (.int .i64 0) (fun w => by kernel_rfl) (by kernel_rfl) ?_
  refine E.G.op (.bool true) (fun w => by kernel_rfl) (by kernel_rfl) ?_
  refine E.To.code ?_
  refine E.C.condT (by kernel_rfl) (by kernel_rfl) ?_
  refine E.C.region ?_
  refine E.G.op (.slice (some ⟨g5, 0, none⟩) 17 c6) (fun w => by kernel_rfl) (by kernel_rfl) ?_
  refine E.G.op (.int .i64 0) (fun w => by kernel_rfl) (by kernel_rfl) ?_
  refine E.G.op (.int .i64 16) (fun w => by kernel_rfl) (by kernel_rfl) ?_
  refine E.G.buildSlice [.int .i64 16] (by kernel_rfl) (by kernel_rfl) (fun g10 => ?_)
  refine E.G.append (e := 3) 1 g5 17 c6 0 g10 0 1 1 1 8 R2.c17 r7 [.int .i64 16] _ (by kernel_rfl) (by kernel_rfl) (by kernel_rfl) rfl (by kernel_rfl) (by first | rfl | omega | assumption) (by first | omega | decide) (by kernel_rfl) rfl (by kernel_rfl) rfl (by rfl) (by omega) (by omega) (by omega) (by kernel_rfl) (fun g11 c12 r13 hc14 hr15 => ?_)
  refine E.G.relist [(g11, (R2.c18 ++ r13)), (g10, [.int .i64 16]), (g4, [.int .i64 32, .int .i64 48, .int .i64 64]), (g2, [.int .i64 0, .int .i64 0, .int .i64 0, .int .i64 0, .int .i64 0, .int .u32 0, .int .i64 0]), (g1, [.int .i64 a, .int .i64 b, .int .i64 c, .int .i64 x, .int .i64 y])] (by kernel_rfl) ?_
  refine E.G.op (.slice (some ⟨g11, 0, none⟩) 18 c12) (fun w => by kernel_rfl) (by kernel_rfl) ?_
  refine E.To.code ?_
  refine E.C.seq ?_
  refine E.C.region ?_
  refine E.G.op (.int .i64 0) (fun w => by kernel_rfl) (by kernel_rfl) ?_
  refine E.G.op (.bool true) (fun w => by kernel_rfl) (by kernel_rfl) ?_
  refine E.To.code ?_
  refine E.C.condT (by kernel_rfl) (by kernel_rfl) ?_
  refine E.C.region ?_
  refine E.G.op (.slice (some ⟨g11, 0, none⟩) 18 c12) (fun w => by kernel_rfl) (by kernel_rfl) ?_
  refine E.G.op (.int .i64 0) (fun w => by kernel_rfl) (by kernel_rfl) ?_
  refine E.G.op (.int .i64 80) (fun w => by kernel_rfl) (by kernel_rfl) ?_
  refine E.G.op (.int .i64 0) (fun w => by kernel_rfl) (by kernel_rfl) ?_
  refine E.G.op (.int .i64 88) (fun w => by kernel_rfl) (by kernel_rfl) ?_
  refine E.G.buildSlice [.int .i64 80, .int .i64 88] (by kernel_rfl) (by kernel_rfl) (fun g16 => ?_)
  refine E.G.append (e := 3) 1 g11 18 c12 0 g16 0 2 2 1 8 R2.c18 r13 [.int .i64 80, .int .i64 88] _ (by kernel_rfl) (by kernel_rfl) (by kernel_rfl) rfl (by kernel_rfl) (by first | rfl | omega | assumption) (by first | omega | decide) (by kernel_rfl) rfl (by kernel_rfl) rfl (by rfl) (by omega) (by omega) (by omega) (by kernel_rfl) (fun g17 c18 r19 hc20 hr21 => ?_)
  refine E.G.relist [(g17, (R2.c20 ++ r19)), (g16, [.int .i64 80, .int .i64 88]), (g10, [.int .i64 16]), (g4, [.int .i64 32, .int .i64 48, .int .i64 64]), (g2, [.int .i64 0, .int .i64 0, .int .i64 0, .int .i64 0, .int .i64 0, .int .u32 0, .int .i64 0]), (g1, [.int .i64 a, .int .i64 b, .int .i64 c, .int .i64 x, .int .i64 y])] (by kernel_rfl) ?_
  refine E.G.op (.slice (some ⟨g17, 0, none⟩) 20 c18) (fun w => by kernel_rfl) (by kernel_rfl) ?_
  refine E.P.nb (E.To.code ?_)
  refine E.C.region ?_
  refine E.G.op (.int .i64 0) (fun w => by kernel_rfl) (by kernel_rfl) ?_
  refine E.G.op (.int .i64 1) (fun w => by kernel_rfl) (by kernel_rfl) ?_
  refine E.G.op (.int .i64 1) (fun w => by kernel_rfl) (by kernel_rfl) ?_
  refine E.To.rounds 14 ?_
  refine E.C.weak [(1, .pointer (some ⟨g1, 0, none⟩)), (2, .pointer (some ⟨g2, 0, none⟩)), (3, .slice (some ⟨g17, 0, none⟩) 20 c18), (4, .int .i64 1), (9, .int .i64 0), (10, .bool true), (11, .int .i64 0), (12, .int .i64 1), (13, .slice (some ⟨g3, 0, none⟩) 14 14), (14, .int .i64 0), (15, .int .i64 32), (16, .int .i64 0), (17, .int .i64 48), (18, .int .i64 0), (19, .int .i64 64), (20, .slice (some ⟨g4, 0, none⟩) 3 3), (21, .slice (some ⟨g5, 0, none⟩) 17 c6), (22, .int .i64 0), (23, .bool true), (24, .slice (some ⟨g5, 0, none⟩) 17 c6), (25, .int .i64 0), (26, .int .i64 16), (27, .slice (some ⟨g10, 0, none⟩) 1 1), (28, .slice (some ⟨g11, 0, none⟩) 18 c12), (29, .int .i64 0), (30, .bool true), (31, .slice (some ⟨g11, 0, none⟩) 18 c12), (32, .int .i64 0), (33, .int .i64 80), (34, .int .i64 0), (35, .int .i64 88), (36, .slice (some ⟨g16, 0, none⟩) 2 2), (37, .slice (some ⟨g17, 0, none⟩) 20 c18)] [(g17, (R2.c20 ++ r19)), (g16, [.int .i64 80, .int .i64 88]), (g10, [.int .i64 16]), (g4, [.int .i64 32, .int .i64 48, .int .i64 64]), (g2, [.int .i64 0, .int .i64 0, .int .i64 0, .int .i64 0, .int .i64 0, .int .u32 0, .int .i64 0]), (g1, [.int .i64 a, .int .i64 b, .int .i64 c, .int .i64 x, .int .i64 y])] ⟨by kernel_rfl, by kernel_rfl⟩ (List.Sublist.refl _) ?_
  refine E.C.seq ?_
  refine E.C.seq ?_
  refine E.C.region ?_
  refine E.G.op (.int .i64 1) (fun w => by kernel_rfl) (by kernel_rfl) ?_
  refine E.G.op (.bool true) (fun w => by kernel_rfl) (by kernel_rfl) ?_
  refine E.To.code ?_
  refine E.C.condT (by kernel_rfl) (by kernel_rfl) ?_
  refine E.C.skip (E.To.code ?_)
  refine E.C.seq ?_
  refine E.C.block ?_
  refine E.C.seq ?_
  refine E.C.region ?_
  refine E.G.op (.slice (some ⟨g17, 0, none⟩) 20 c18) (fun w => by kernel_rfl) (by kernel_rfl) ?_
  refine E.G.op (.int .i64 1) (fun w => by kernel_rfl) (by kernel_rfl) ?_
  refine E.G.op (.int .i64 33) (fun w => by kernel_rfl) (by kernel_rfl) ?_
  refine E.G.op (.int .i64 1) (fun w => by kernel_rfl) (by kernel_rfl) ?_
  refine E.G.op (.int .i64 49) (fun w => by kernel_rfl) (by kernel_rfl) ?_
  refine E.G.op (.int .i64 1) (fun w => by kernel_rfl) (by kernel_rfl) ?_
  refine E.G.op (.int .i64 65) (fun w => by kernel_rfl) (by kernel_rfl) ?_
  refine E.G.buildSlice [.int .i64 33, .int .i64 49, .int .i64 65] (by kernel_rfl) (by kernel_rfl) (fun g22 => ?_)
  refine E.G.append (e := 3) 1 g17 20 c18 0 g22 0 3 3 1 8 R2.c20 r19 [.int .i64 33, .int .i64 49, .int .i64 65] _ (by kernel_rfl) (by kernel_rfl) (by kernel_rfl) rfl (by kernel_rfl) (by first | rfl | omega | assumption) (by first | omega | decide) (by kernel_rfl) rfl (by kernel_rfl) rfl (by rfl) (by omega) (by omega) (by omega) (by kernel_rfl) (fun g23 c24 r25 hc26 hr27 => ?_)
  refine E.G.relist [(g23, (R2.c23 ++ r25)), (g22, [.int .i64 33, .int .i64 49, .int .i64 65]), (g16, [.int .i64 80, .int .i64 88]), (g10, [.int .i64 16]), (g4, [.int .i64 32, .int .i64 48, .int .i64 64]), (g2, [.int .i64 0, .int .i64 0, .int .i64 0, .int .i64 0, .int .i64 0, .int .u32 0, .int .i64 0]), (g1, [.int .i64 a, .int .i64 b, .int .i64 c, .int .i64 x, .int .i64 y])] (by kernel_rfl) ?_
  refine E.G.op (.slice (some ⟨g23, 0, none⟩) 23 c24) (fun w => by kernel_rfl) (by kernel_rfl) ?_
  refine E.To.code ?_
  refine E.C.seq ?_
  refine E.C.seq ?_
  refine E.C.region ?_
  refine E.G.op (.int .i64 1) (fun w => by kernel_rfl) (by kernel_rfl) ?_
  refine E.G.op (.bool true) (fun w => by kernel_rfl) (by kernel_rfl) ?_
  refine E.To.code ?_
  refine E.C.condT (by kernel_rfl) (by kernel_rfl) ?_
  refine E.C.region ?_
  refine E.G.op (.slice (some ⟨g23, 0, none⟩) 23 c24) (fun w => by kernel_rfl) (by kernel_rfl) ?_
  refine E.G.op (.int .i64 1) (fun w => by kernel_rfl) (by kernel_rfl) ?_
  refine E.G.op (.int .i64 17) (fun w => by kernel_rfl) (by kernel_rfl) ?_
  refine E.G.buildSlice [.int .i64 17] (by kernel_rfl) (by kernel_rfl) (fun g28 => ?_)
  refine E.G.append (e := 3) 1 g23 23 c24 0 g28 0 1 1 1 8 R2.c23 r25 [.int .i64 17] _ (by kernel_rfl) (by kernel_rfl) (by kernel_rfl) rfl (by kernel_rfl) (by first | rfl | omega | assumption) (by first | omega | decide) (by kernel_rfl) rfl (by kernel_rfl) rfl (by rfl) (by omega) (by omega) (by omega) (by kernel_rfl) (fun g29 c30 r31 hc32 hr33 => ?_)
  refine E.G.relist [(g29, (R2.c24 ++ r31)), (g28, [.int .i64 17]), (g22, [.int .i64 33, .int .i64 49, .int .i64 65]), (g16, [.int .i64 80, .int .i64 88]), (g10, [.int .i64 16]), (g4, [.int .i64 32, .int .i64 48, .int .i64 64]), (g2, [.int .i64 0, .int .i64 0, .int .i64 0, .int .i64 0, .int .i64 0, .int .u32 0, .int .i64 0]), (g1, [.int .i64 a, .int .i64 b, .int .i64 c, .int .i64 x, .int .i64 y])] (by kernel_rfl) ?_
  refine E.G.op (.slice (some ⟨g29, 0, none⟩) 24 c30) (fun w => by kernel_rfl) (by kernel_rfl) ?_
  refine E.To.code ?_
  refine E.C.seq ?_
  refine E.C.region ?_
  refine E.G.op (.int .i64 1) (fun w => by kernel_rfl) (by kernel_rfl) ?_
  refine E.G.op (.bool true) (fun w => by kernel_rfl) (by kernel_rfl) ?_
  refine E.To.code ?_
  refine E.C.condT (by kernel_rfl) (by kernel_rfl) ?_
  refine E.C.region ?_
  refine E.G.op (.slice (some ⟨g29, 0, none⟩) 24 c30) (fun w => by kernel_rfl) (by kernel_rfl) ?_
  refine E.G.op (.int .i64 1) (fun w => by kernel_rfl) (by kernel_rfl) ?_
  refine E.G.op (.int .i64 81) (fun w => by kernel_rfl) (by kernel_rfl) ?_
  refine E.G.op (.int .i64 1) (fun w => by kernel_rfl) (by kernel_rfl) ?_
  refine E.G.op (.int .i64 89) (fun w => by kernel_rfl) (by kernel_rfl) ?_
  refine E.G.buildSlice [.int .i64 81, .int .i64 89] (by kernel_rfl) (by kernel_rfl) (fun g34 => ?_)
  refine E.G.append (e := 3) 1 g29 24 c30 0 g34 0 2 2 1 8 R2.c24 r31 [.int .i64 81, .int .i64 89] _ (by kernel_rfl) (by kernel_rfl) (by kernel_rfl) rfl (by kernel_rfl) (by first | rfl | omega | assumption) (by first | omega | decide) (by kernel_rfl) rfl (by kernel_rfl) rfl (by rfl) (by omega) (by omega) (by omega) (by kernel_rfl) (fun g35 c36 r37 hc38 hr39 => ?_)
  refine E.G.relist [(g35, (R2.c26 ++ r37)), (g34, [.int .i64 81, .int .i64 89]), (g28, [.int .i64 17]), (g22, [.int .i64 33, .int .i64 49, .int .i64 65]), (g16, [.int .i64 80, .int .i64 88]), (g10, [.int .i64 16]), (g4, [.int .i64 32, .int .i64 48, .int .i64 64]), (g2, [.int .i64 0, .int .i64 0, .int .i64 0, .int .i64 0, .int .i64 0, .int .u32 0, .int .i64 0]), (g1, [.int .i64 a, .int .i64 b, .int .i64 c, .int .i64 x, .int .i64 y])] (by kernel_rfl) ?_
  refine E.G.op (.slice (some ⟨g35, 0, none⟩) 26 c36) (fun w => by kernel_rfl) (by kernel_rfl) ?_
  refine E.P.nb (E.To.code ?_)
  refine E.C.weak [(1, .pointer (some ⟨g1, 0, none⟩)), (2, .pointer (some ⟨g2, 0, none⟩)), (3, .slice (some ⟨g35, 0, none⟩) 26 c36), (4, .int .i64 1), (9, .int .i64 1), (10, .bool true), (11, .int .i64 0), (12, .int .i64 1), (13, .slice (some ⟨g17, 0, none⟩) 20 c18), (14, .int .i64 1), (15, .int .i64 33), (16, .int .i64 1), (17, .int .i64 49), (18, .int .i64 1), (19, .int .i64 65), (20, .slice (some ⟨g22, 0, none⟩) 3 3), (21, .slice (some ⟨g23, 0, none⟩) 23 c24), (22, .int .i64 1), (23, .bool true), (24, .slice (some ⟨g23, 0, none⟩) 23 c24), (25, .int .i64 1), (26, .int .i64 17), (27, .slice (some ⟨g28, 0, none⟩) 1 1), (28, .slice (some ⟨g29, 0, none⟩) 24 c30), (29, .int .i64 1), (30, .bool true), (31, .slice (some ⟨g29, 0, none⟩) 24 c30), (32, .int .i64 1), (33, .int .i64 81), (34, .int .i64 1), (35, .int .i64 89), (36, .slice (some ⟨g34, 0, none⟩) 2 2), (37, .slice (some ⟨g35, 0, none⟩) 26 c36)] [(g35, (R2.c26 ++ r37)), (g34, [.int .i64 81, .int .i64 89]), (g28, [.int .i64 17]), (g22, [.int .i64 33, .int .i64 49, .int .i64 65]), (g2, [.int .i64 0, .int .i64 0, .int .i64 0, .int .i64 0, .int .i64 0, .int .u32 0, .int .i64 0]), (g1, [.int .i64 a, .int .i64 b, .int .i64 c, .int .i64 x, .int .i64 y])] ⟨by kernel_rfl, by kernel_rfl⟩ (List.Sublist.cons_cons _ (List.Sublist.cons_cons _ (List.Sublist.cons_cons _ (List.Sublist.cons_cons _ (List.Sublist.cons _ (List.Sublist.cons _ (List.Sublist.cons _ (List.Sublist.refl _)))))))) ?_
  refine E.C.region ?_
  refine E.G.op (.int .i64 1) (fun w => by kernel_rfl) (by kernel_rfl) ?_
  refine E.G.op (.int .i64 2) (fun w => by kernel_rfl) (by kernel_rfl) ?_
  refine E.G.op (.int .i64 2) (fun w => by kernel_rfl) (by kernel_rfl) ?_
  refine E.To.rounds 13 ?_
  refine E.C.weak [(1, .pointer (some ⟨g1, 0, none⟩)), (2, .pointer (some ⟨g2, 0, none⟩)), (3, .slice (some ⟨g35, 0, none⟩) 26 c36), (4, .int .i64 2), (9, .int .i64 1), (10, .bool true), (11, .int .i64 1), (12, .int .i64 2), (13, .slice (some ⟨g17, 0, none⟩) 20 c18), (14, .int .i64 1), (15, .int .i64 33), (16, .int .i64 1), (17, .int .i64 49), (18, .int .i64 1), (19, .int .i64 65), (20, .slice (some ⟨g22, 0, none⟩) 3 3), (21, .slice (some ⟨g23, 0, none⟩) 23 c24), (22, .int .i64 1), (23, .bool true), (24, .slice (some ⟨g23, 0, none⟩) 23 c24), (25, .int .i64 1), (26, .int .i64 17), (27, .slice (some ⟨g28, 0, none⟩) 1 1), (28, .slice (some ⟨g29, 0, none⟩) 24 c30), (29, .int .i64 1), (30, .bool true), (31, .slice (some ⟨g29, 0, none⟩) 24 c30), (32, .int .i64 1), (33, .int .i64 81), (34, .int .i64 1), (35, .int .i64 89), (36, .slice (some ⟨g34, 0, none⟩) 2 2), (37, .slice (some ⟨g35, 0, none⟩) 26 c36)] [(g35, (R2.c26 ++ r37)), (g34, [.int .i64 81, .int .i64 89]), (g28, [.int .i64 17]), (g22, [.int .i64 33, .int .i64 49, .int .i64 65]), (g2, [.int .i64 0, .int .i64 0, .int .i64 0, .int .i64 0, .int .i64 0, .int .u32 0, .int .i64 0]), (g1, [.int .i64 a, .int .i64 b, .int .i64 c, .int .i64 x, .int .i64 y])] ⟨by kernel_rfl, by kernel_rfl⟩ (List.Sublist.refl _) ?_
  refine E.C.seq ?_
  refine E.C.seq ?_
  refine E.C.region ?_
  refine E.G.op (.int .i64 2) (fun w => by kernel_rfl) (by kernel_rfl) ?_
  refine E.G.op (.bool true) (fun w => by kernel_rfl) (by kernel_rfl) ?_
  refine E.To.code ?_
  refine E.C.condT (by kernel_rfl) (by kernel_rfl) ?_
  refine E.C.skip (E.To.code ?_)
  refine E.C.seq ?_
  refine E.C.block ?_
  refine E.C.seq ?_
  refine E.C.region ?_
  refine E.G.op (.slice (some ⟨g35, 0, none⟩) 26 c36) (fun w => by kernel_rfl) (by kernel_rfl) ?_
  refine E.G.op (.int .i64 2) (fun w => by kernel_rfl) (by kernel_rfl) ?_
  refine E.G.op (.int .i64 34) (fun w => by kernel_rfl) (by kernel_rfl) ?_
  refine E.G.op (.int .i64 2) (fun w => by kernel_rfl) (by kernel_rfl) ?_
  refine E.G.op (.int .i64 50) (fun w => by kernel_rfl) (by kernel_rfl) ?_
  refine E.G.op (.int .i64 2) (fun w => by kernel_rfl) (by kernel_rfl) ?_
  refine E.G.op (.int .i64 66) (fun w => by kernel_rfl) (by kernel_rfl) ?_
  refine E.G.buildSlice [.int .i64 34, .int .i64 50, .int .i64 66] (by kernel_rfl) (by kernel_rfl) (fun g40 => ?_)
  refine E.G.append (e := 3) 1 g35 26 c36 0 g40 0 3 3 1 8 R2.c26 r37 [.int .i64 34, .int .i64 50, .int .i64 66] _ (by kernel_rfl) (by kernel_rfl) (by kernel_rfl) rfl (by kernel_rfl) (by first | rfl | omega | assumption) (by first | omega | decide) (by kernel_rfl) rfl (by kernel_rfl) rfl (by rfl) (by omega) (by omega) (by omega) (by kernel_rfl) (fun g41 c42 r43 hc44 hr45 => ?_)
  refine E.G.relist [(g41, (R2.c29 ++ r43)), (g40, [.int .i64 34, .int .i64 50, .int .i64 66]), (g34, [.int .i64 81, .int .i64 89]), (g28, [.int .i64 17]), (g22, [.int .i64 33, .int .i64 49, .int .i64 65]), (g2, [.int .i64 0, .int .i64 0, .int .i64 0, .int .i64 0, .int .i64 0, .int .u32 0, .int .i64 0]), (g1, [.int .i64 a, .int .i64 b, .int .i64 c, .int .i64 x, .int .i64 y])] (by kernel_rfl) ?_
  refine E.G.op (.slice (some ⟨g41, 0, none⟩) 29 c42) (fun w => by kernel_rfl) (by kernel_rfl) ?_
  refine E.To.code ?_
  refine E.C.seq ?_
  refine E.C.seq ?_
  refine E.C.region ?_
  refine E.G.op (.int .i64 2) (fun w => by kernel_rfl) (by kernel_rfl) ?_
  refine E.G.op (.bool true) (fun w => by kernel_rfl) (by kernel_rfl) ?_
  refine E.To.code ?_
  refine E.C.condT (by kernel_rfl) (by kernel_rfl) ?_
  refine E.C.region ?_
  refine E.G.op (.slice (some ⟨g41, 0, none⟩) 29 c42) (fun w => by kernel_rfl) (by kernel_rfl) ?_
  refine E.G.op (.int .i64 2) (fun w => by kernel_rfl) (by kernel_rfl) ?_
  refine E.G.op (.int .i64 18) (fun w => by kernel_rfl) (by kernel_rfl) ?_
  refine E.G.buildSlice [.int .i64 18] (by kernel_rfl) (by kernel_rfl) (fun g46 => ?_)
  refine E.G.append (e := 3) 1 g41 29 c42 0 g46 0 1 1 1 8 R2.c29 r43 [.int .i64 18] _ (by kernel_rfl) (by kernel_rfl) (by kernel_rfl) rfl (by kernel_rfl) (by first | rfl | omega | assumption) (by first | omega | decide) (by kernel_rfl) rfl (by kernel_rfl) rfl (by rfl) (by omega) (by omega) (by omega) (by kernel_rfl) (fun g47 c48 r49 hc50 hr51 => ?_)
  refine E.G.relist [(g47, (R2.c30 ++ r49)), (g46, [.int .i64 18]), (g40, [.int .i64 34, .int .i64 50, .int .i64 66]), (g34, [.int .i64 81, .int .i64 89]), (g28, [.int .i64 17]), (g22, [.int .i64 33, .int .i64 49, .int .i64 65]), (g2, [.int .i64 0, .int .i64 0, .int .i64 0, .int .i64 0, .int .i64 0, .int .u32 0, .int .i64 0]), (g1, [.int .i64 a, .int .i64 b, .int .i64 c, .int .i64 x, .int .i64 y])] (by kernel_rfl) ?_
  refine E.G.op (.slice (some ⟨g47, 0, none⟩) 30 c48) (fun w => by kernel_rfl) (by kernel_rfl) ?_
  refine E.To.code ?_
  refine E.C.seq ?_
  refine E.C.region ?_
  refine E.G.op (.int .i64 2) (fun w => by kernel_rfl) (by kernel_rfl) ?_
  refine E.G.op (.bool true) (fun w => by kernel_rfl) (by kernel_rfl) ?_
  refine E.To.code ?_
  refine E.C.condT (by kernel_rfl) (by kernel_rfl) ?_
  refine E.C.region ?_
  refine E.G.op (.slice (some ⟨g47, 0, none⟩) 30 c48) (fun w => by kernel_rfl) (by kernel_rfl) ?_
  refine E.G.op (.int .i64 2) (fun w => by kernel_rfl) (by kernel_rfl) ?_
  refine E.G.op (.int .i64 82) (fun w => by kernel_rfl) (by kernel_rfl) ?_
  refine E.G.op (.int .i64 2) (fun w => by kernel_rfl) (by kernel_rfl) ?_
  refine E.G.op (.int .i64 90) (fun w => by kernel_rfl) (by kernel_rfl) ?_
  refine E.G.buildSlice [.int .i64 82, .int .i64 90] (by kernel_rfl) (by kernel_rfl) (fun g52 => ?_)
  refine E.G.append (e := 3) 1 g47 30 c48 0 g52 0 2 2 1 8 R2.c30 r49 [.int .i64 82, .int .i64 90] _ (by kernel_rfl) (by kernel_rfl) (by kernel_rfl) rfl (by kernel_rfl) (by first | rfl | omega | assumption) (by first | omega | decide) (by kernel_rfl) rfl (by kernel_rfl) rfl (by rfl) (by omega) (by omega) (by omega) (by kernel_rfl) (fun g53 c54 r55 hc56 hr57 => ?_)
  refine E.G.relist [(g53, (R2.c32 ++ r55)), (g52, [.int .i64 82, .int .i64 90]), (g46, [.int .i64 18]), (g40, [.int .i64 34, .int .i64 50, .int .i64 66]), (g34, [.int .i64 81, .int .i64 89]), (g28, [.int .i64 17]), (g22, [.int .i64 33, .int .i64 49, .int .i64 65]), (g2, [.int .i64 0, .int .i64 0, .int .i64 0, .int .i64 0, .int .i64 0, .int .u32 0, .int .i64 0]), (g1, [.int .i64 a, .int .i64 b, .int .i64 c, .int .i64 x, .int .i64 y])] (by kernel_rfl) ?_
  refine E.G.op (.slice (some ⟨g53, 0, none⟩) 32 c54) (fun w => by kernel_rfl) (by kernel_rfl) ?_
  refine E.P.nb (E.To.code ?_)
  refine E.C.weak [(1, .pointer (some ⟨g1, 0, none⟩)), (2, .pointer (some ⟨g2, 0, none⟩)), (3, .slice (some ⟨g53, 0, none⟩) 32 c54), (4, .int .i64 2), (9, .int .i64 2), (10, .bool true), (11, .int .i64 1), (12, .int .i64 2), (13, .slice (some ⟨g35, 0, none⟩) 26 c36), (14, .int .i64 2), (15, .int .i64 34), (16, .int .i64 2), (17, .int .i64 50), (18, .int .i64 2), (19, .int .i64 66), (20, .slice (some ⟨g40, 0, none⟩) 3 3), (21, .slice (some ⟨g41, 0, none⟩) 29 c42), (22, .int .i64 2), (23, .bool true), (24, .slice (some ⟨g41, 0, none⟩) 29 c42), (25, .int .i64 2), (26, .int .i64 18), (27, .slice (some ⟨g46, 0, none⟩) 1 1), (28, .slice (some ⟨g47, 0, none⟩) 30 c48), (29, .int .i64 2), (30, .bool true), (31, .slice (some ⟨g47, 0, none⟩) 30 c48), (32, .int .i64 2), (33, .int .i64 82), (34, .int .i64 2), (35, .int .i64 90), (36, .slice (some ⟨g52, 0, none⟩) 2 2), (37, .slice (some ⟨g53, 0, none⟩) 32 c54)] [(g53, (R2.c32 ++ r55)), (g52, [.int .i64 82, .int .i64 90]), (g46, [.int .i64 18]), (g40, [.int .i64 34, .int .i64 50, .int .i64 66]), (g2, [.int .i64 0, .int .i64 0, .int .i64 0, .int .i64 0, .int .i64 0, .int .u32 0, .int .i64 0]), (g1, [.int .i64 a, .int .i64 b, .int .i64 c, .int .i64 x, .int .i64 y])] ⟨by kernel_rfl, by kernel_rfl⟩ (List.Sublist.cons_cons _ (List.Sublist.cons_cons _ (List.Sublist.cons_cons _ (List.Sublist.cons_cons _ (List.Sublist.cons _ (List.Sublist.cons _ (List.Sublist.cons _ (List.Sublist.refl _)))))))) ?_
  refine E.C.region ?_
  refine E.G.op (.int .i64 2) (fun w => by kernel_rfl) (by kernel_rfl) ?_
  refine E.G.op (.int .i64 3) (fun w => by kernel_rfl) (by kernel_rfl) ?_
  refine E.G.op (.int .i64 3) (fun w => by kernel_rfl) (by kernel_rfl) ?_
  refine E.To.rounds 12 ?_
  refine E.C.weak [(1, .pointer (some ⟨g1, 0, none⟩)), (2, .pointer (some ⟨g2, 0, none⟩)), (3, .slice (some ⟨g53, 0, none⟩) 32 c54), (4, .int .i64 3), (9, .int .i64 2), (10, .bool true), (11, .int .i64 2), (12, .int .i64 3), (13, .slice (some ⟨g35, 0, none⟩) 26 c36), (14, .int .i64 2), (15, .int .i64 34), (16, .int .i64 2), (17, .int .i64 50), (18, .int .i64 2), (19, .int .i64 66), (20, .slice (some ⟨g40, 0, none⟩) 3 3), (21, .slice (some ⟨g41, 0, none⟩) 29 c42), (22, .int .i64 2), (23, .bool true), (24, .slice (some ⟨g41, 0, none⟩) 29 c42), (25, .int .i64 2), (26, .int .i64 18), (27, .slice (some ⟨g46, 0, none⟩) 1 1), (28, .slice (some ⟨g47, 0, none⟩) 30 c48), (29, .int .i64 2), (30, .bool true), (31, .slice (some ⟨g47, 0, none⟩) 30 c48), (32, .int .i64 2), (33, .int .i64 82), (34, .int .i64 2), (35, .int .i64 90), (36, .slice (some ⟨g52, 0, none⟩) 2 2), (37, .slice (some ⟨g53, 0, none⟩) 32 c54)] [(g53, (R2.c32 ++ r55)), (g52, [.int .i64 82, .int .i64 90]), (g46, [.int .i64 18]), (g40, [.int .i64 34, .int .i64 50, .int .i64 66]), (g2, [.int .i64 0, .int .i64 0, .int .i64 0, .int .i64 0, .int .i64 0, .int .u32 0, .int .i64 0]), (g1, [.int .i64 a, .int .i64 b, .int .i64 c, .int .i64 x, .int .i64 y])] ⟨by kernel_rfl, by kernel_rfl⟩ (List.Sublist.refl _) ?_
  refine E.C.seq ?_
  refine E.C.seq ?_
  refine E.C.region ?_
  refine E.G.op (.int .i64 3) (fun w => by kernel_rfl) (by kernel_rfl) ?_
  refine E.G.op (.bool true) (fun w => by kernel_rfl) (by kernel_rfl) ?_
  refine E.To.code ?_
  refine E.C.condT (by kernel_rfl) (by kernel_rfl) ?_
  refine E.C.skip (E.To.code ?_)
  refine E.C.seq ?_
  refine E.C.block ?_
  refine E.C.seq ?_
  refine E.C.region ?_
  refine E.G.op (.slice (some ⟨g53, 0, none⟩) 32 c54) (fun w => by kernel_rfl) (by kernel_rfl) ?_
  refine E.G.op (.int .i64 3) (fun w => by kernel_rfl) (by kernel_rfl) ?_
  refine E.G.op (.int .i64 35) (fun w => by kernel_rfl) (by kernel_rfl) ?_
  refine E.G.op (.int .i64 3) (fun w => by kernel_rfl) (by kernel_rfl) ?_
  refine E.G.op (.int .i64 51) (fun w => by kernel_rfl) (by kernel_rfl) ?_
  refine E.G.op (.int .i64 3) (fun w => by kernel_rfl) (by kernel_rfl) ?_
  refine E.G.op (.int .i64 67) (fun w => by kernel_rfl) (by kernel_rfl) ?_
  refine E.G.buildSlice [.int .i64 35, .int .i64 51, .int .i64 67] (by kernel_rfl) (by kernel_rfl) (fun g58 => ?_)
  refine E.G.append (e := 3) 1 g53 32 c54 0 g58 0 3 3 1 8 R2.c32 r55 [.int .i64 35, .int .i64 51, .int .i64 67] _ (by kernel_rfl) (by kernel_rfl) (by kernel_rfl) rfl (by kernel_rfl) (by first | rfl | omega | assumption) (by first | omega | decide) (by kernel_rfl) rfl (by kernel_rfl) rfl (by rfl) (by omega) (by omega) (by omega) (by kernel_rfl) (fun g59 c60 r61 hc62 hr63 => ?_)
  refine E.G.relist [(g59, (R2.c35 ++ r61)), (g58, [.int .i64 35, .int .i64 51, .int .i64 67]), (g52, [.int .i64 82, .int .i64 90]), (g46, [.int .i64 18]), (g40, [.int .i64 34, .int .i64 50, .int .i64 66]), (g2, [.int .i64 0, .int .i64 0, .int .i64 0, .int .i64 0, .int .i64 0, .int .u32 0, .int .i64 0]), (g1, [.int .i64 a, .int .i64 b, .int .i64 c, .int .i64 x, .int .i64 y])] (by kernel_rfl) ?_
  refine E.G.op (.slice (some ⟨g59, 0, none⟩) 35 c60) (fun w => by kernel_rfl) (by kernel_rfl) ?_
  refine E.To.code ?_
  refine E.C.seq ?_
  refine E.C.seq ?_
  refine E.C.region ?_
  refine E.G.op (.int .i64 3) (fun w => by kernel_rfl) (by kernel_rfl) ?_
  refine E.G.op (.bool true) (fun w => by kernel_rfl) (by kernel_rfl) ?_
  refine E.To.code ?_
  refine E.C.condT (by kernel_rfl) (by kernel_rfl) ?_
  refine E.C.region ?_
  refine E.G.op (.slice (some ⟨g59, 0, none⟩) 35 c60) (fun w => by kernel_rfl) (by kernel_rfl) ?_
  refine E.G.op (.int .i64 3) (fun w => by kernel_rfl) (by kernel_rfl) ?_
  refine E.G.op (.int .i64 19) (fun w => by kernel_rfl) (by kernel_rfl) ?_
  refine E.G.buildSlice [.int .i64 19] (by kernel_rfl) (by kernel_rfl) (fun g64 => ?_)
  refine E.G.append (e := 3) 1 g59 35 c60 0 g64 0 1 1 1 8 R2.c35 r61 [.int .i64 19] _ (by kernel_rfl) (by kernel_rfl) (by kernel_rfl) rfl (by kernel_rfl) (by first | rfl | omega | assumption) (by first | omega | decide) (by kernel_rfl) rfl (by kernel_rfl) rfl (by rfl) (by omega) (by omega) (by omega) (by kernel_rfl) (fun g65 c66 r67 hc68 hr69 => ?_)
  refine E.G.relist [(g65, (R2.c36 ++ r67)), (g64, [.int .i64 19]), (g58, [.int .i64 35, .int .i64 51, .int .i64 67]), (g52, [.int .i64 82, .int .i64 90]), (g46, [.int .i64 18]), (g40, [.int .i64 34, .int .i64 50, .int .i64 66]), (g2, [.int .i64 0, .int .i64 0, .int .i64 0, .int .i64 0, .int .i64 0, .int .u32 0, .int .i64 0]), (g1, [.int .i64 a, .int .i64 b, .int .i64 c, .int .i64 x, .int .i64 y])] (by kernel_rfl) ?_
  refine E.G.op (.slice (some ⟨g65, 0, none⟩) 36 c66) (fun w => by kernel_rfl) (by kernel_rfl) ?_
  refine E.To.code ?_
  refine E.C.seq ?_
  refine E.C.region ?_
  refine E.G.op (.int .i64 3) (fun w => by kernel_rfl) (by kernel_rfl) ?_
  refine E.G.op (.bool true) (fun w => by kernel_rfl) (by kernel_rfl) ?_
  refine E.To.code ?_
  refine E.C.condT (by kernel_rfl) (by kernel_rfl) ?_
  refine E.C.region ?_
  refine E.G.op (.slice (some ⟨g65, 0, none⟩) 36 c66) (fun w => by kernel_rfl) (by kernel_rfl) ?_
  refine E.G.op (.int .i64 3) (fun w => by kernel_rfl) (by kernel_rfl) ?_
  refine E.G.op (.int .i64 83) (fun w => by kernel_rfl) (by kernel_rfl) ?_
  refine E.G.op (.int .i64 3) (fun w => by kernel_rfl) (by kernel_rfl) ?_
  refine E.G.op (.int .i64 91) (fun w => by kernel_rfl) (by kernel_rfl) ?_
  refine E.G.buildSlice [.int .i64 83, .int .i64 91] (by kernel_rfl) (by kernel_rfl) (fun g70 => ?_)
  refine E.G.append (e := 3) 1 g65 36 c66 0 g70 0 2 2 1 8 R2.c36 r67 [.int .i64 83, .int .i64 91] _ (by kernel_rfl) (by kernel_rfl) (by kernel_rfl) rfl (by kernel_rfl) (by first | rfl | omega | assumption) (by first | omega | decide) (by kernel_rfl) rfl (by kernel_rfl) rfl (by rfl) (by omega) (by omega) (by omega) (by kernel_rfl) (fun g71 c72 r73 hc74 hr75 => ?_)
  refine E.G.relist [(g71, (R2.c38 ++ r73)), (g70, [.int .i64 83, .int .i64 91]), (g64, [.int .i64 19]), (g58, [.int .i64 35, .int .i64 51, .int .i64 67]), (g52, [.int .i64 82, .int .i64 90]), (g46, [.int .i64 18]), (g40, [.int .i64 34, .int .i64 50, .int .i64 66]), (g2, [.int .i64 0, .int .i64 0, .int .i64 0, .int .i64 0, .int .i64 0, .int .u32 0, .int .i64 0]), (g1, [.int .i64 a, .int .i64 b, .int .i64 c, .int .i64 x, .int .i64 y])] (by kernel_rfl) ?_
  refine E.G.op (.slice (some ⟨g71, 0, none⟩) 38 c72) (fun w => by kernel_rfl) (by kernel_rfl) ?_
  refine E.P.nb (E.To.code ?_)
  refine E.C.weak [(1, .pointer (some ⟨g1, 0, none⟩)), (2, .pointer (some ⟨g2, 0, none⟩)), (3, .slice (some ⟨g71, 0, none⟩) 38 c72), (4, .int .i64 3), (9, .int .i64 3), (10, .bool true), (11, .int .i64 2), (12, .int .i64 3), (13, .slice (some ⟨g53, 0, none⟩) 32 c54), (14, .int .i64 3), (15, .int .i64 35), (16, .int .i64 3), (17, .int .i64 51), (18, .int .i64 3), (19, .int .i64 67), (20, .slice (some ⟨g58, 0, none⟩) 3 3), (21, .slice (some ⟨g59, 0, none⟩) 35 c60), (22, .int .i64 3), (23, .bool true), (24, .slice (some ⟨g59, 0, none⟩) 35 c60), (25, .int .i64 3), (26, .int .i64 19), (27, .slice (some ⟨g64, 0, none⟩) 1 1), (28, .slice (some ⟨g65, 0, none⟩) 36 c66), (29, .int .i64 3), (30, .bool true), (31, .slice (some ⟨g65, 0, none⟩) 36 c66), (32, .int .i64 3), (33, .int .i64 83), (34, .int .i64 3), (35, .int .i64 91), (36, .slice (some ⟨g70, 0, none⟩) 2 2), (37, .slice (some ⟨g71, 0, none⟩) 38 c72)] [(g71, (R2.c38 ++ r73)), (g70, [.int .i64 83, .int .i64 91]), (g64, [.int .i64 19]), (g58, [.int .i64 35, .int .i64 51, .int .i64 67]), (g2, [.int .i64 0, .int .i64 0, .int .i64 0, .int .i64 0, .int .i64 0, .int .u32 0, .int .i64 0]), (g1, [.int .i64 a, .int .i64 b, .int .i64 c, .int .i64 x, .int .i64 y])] ⟨by kernel_rfl, by kernel_rfl⟩ (List.Sublist.cons_cons _ (List.Sublist.cons_cons _ (List.Sublist.cons_cons _ (List.Sublist.cons_cons _ (List.Sublist.cons _ (List.Sublist.cons _ (List.Sublist.cons _ (List.Sublist.refl _)))))))) ?_
  refine E.C.region ?_
  refine E.G.op (.int .i64 3) (fun w => by kernel_rfl) (by kernel_rfl) ?_
  refine E.G.op (.int .i64 4) (fun w => by kernel_rfl) (by kernel_rfl) ?_
  refine E.G.op (.int .i64 4) (fun w => by kernel_rfl) (by kernel_rfl) ?_
  refine E.To.rounds 11 ?_
  refine E.C.weak [(1, .pointer (some ⟨g1, 0, none⟩)), (2, .pointer (some ⟨g2, 0, none⟩)), (3, .slice (some ⟨g71, 0, none⟩) 38 c72), (4, .int .i64 4), (9, .int .i64 3), (10, .bool true), (11, .int .i64 3), (12, .int .i64 4), (13, .slice (some ⟨g53, 0, none⟩) 32 c54), (14, .int .i64 3), (15, .int .i64 35), (16, .int .i64 3), (17, .int .i64 51), (18, .int .i64 3), (19, .int .i64 67), (20, .slice (some ⟨g58, 0, none⟩) 3 3), (21, .slice (some ⟨g59, 0, none⟩) 35 c60), (22, .int .i64 3), (23, .bool true), (24, .slice (some ⟨g59, 0, none⟩) 35 c60), (25, .int .i64 3), (26, .int .i64 19), (27, .slice (some ⟨g64, 0, none⟩) 1 1), (28, .slice (some ⟨g65, 0, none⟩) 36 c66), (29, .int .i64 3), (30, .bool true), (31, .slice (some ⟨g65, 0, none⟩) 36 c66), (32, .int .i64 3), (33, .int .i64 83), (34, .int .i64 3), (35, .int .i64 91), (36, .slice (some ⟨g70, 0, none⟩) 2 2), (37, .slice (some ⟨g71, 0, none⟩) 38 c72)] [(g71, (R2.c38 ++ r73)), (g70, [.int .i64 83, .int .i64 91]), (g64, [.int .i64 19]), (g58, [.int .i64 35, .int .i64 51, .int .i64 67]), (g2, [.int .i64 0, .int .i64 0, .int .i64 0, .int .i64 0, .int .i64 0, .int .u32 0, .int .i64 0]), (g1, [.int .i64 a, .int .i64 b, .int .i64 c, .int .i64 x, .int .i64 y])] ⟨by kernel_rfl, by kernel_rfl⟩ (List.Sublist.refl _) ?_
  refine E.C.seq ?_
  refine E.C.seq ?_
  refine E.C.region ?_
  refine E.G.op (.int .i64 4) (fun w => by kernel_rfl) (by kernel_rfl) ?_
  refine E.G.op (.bool true) (fun w => by kernel_rfl) (by kernel_rfl) ?_
  refine E.To.code ?_
  refine E.C.condT (by kernel_rfl) (by kernel_rfl) ?_
  refine E.C.skip (E.To.code ?_)
  refine E.C.seq ?_
  refine E.C.block ?_
  refine E.C.seq ?_
  refine E.C.region ?_
  refine E.G.op (.slice (some ⟨g71, 0, none⟩) 38 c72) (fun w => by kernel_rfl) (by kernel_rfl) ?_
  refine E.G.op (.int .i64 4) (fun w => by kernel_rfl) (by kernel_rfl) ?_
  refine E.G.op (.int .i64 36) (fun w => by kernel_rfl) (by kernel_rfl) ?_
  refine E.G.op (.int .i64 4) (fun w => by kernel_rfl) (by kernel_rfl) ?_
  refine E.G.op (.int .i64 52) (fun w => by kernel_rfl) (by kernel_rfl) ?_
  refine E.G.op (.int .i64 4) (fun w => by kernel_rfl) (by kernel_rfl) ?_
  refine E.G.op (.int .i64 68) (fun w => by kernel_rfl) (by kernel_rfl) ?_
  refine E.G.buildSlice [.int .i64 36, .int .i64 52, .int .i64 68] (by kernel_rfl) (by kernel_rfl) (fun g76 => ?_)
  refine E.G.append (e := 3) 1 g71 38 c72 0 g76 0 3 3 1 8 R2.c38 r73 [.int .i64 36, .int .i64 52, .int .i64 68] _ (by kernel_rfl) (by kernel_rfl) (by kernel_rfl) rfl (by kernel_rfl) (by first | rfl | omega | assumption) (by first | omega | decide) (by kernel_rfl) rfl (by kernel_rfl) rfl (by rfl) (by omega) (by omega) (by omega) (by kernel_rfl) (fun g77 c78 r79 hc80 hr81 => ?_)
  refine E.G.relist [(g77, (R2.c41 ++ r79)), (g76, [.int .i64 36, .int .i64 52, .int .i64 68]), (g70, [.int .i64 83, .int .i64 91]), (g64, [.int .i64 19]), (g58, [.int .i64 35, .int .i64 51, .int .i64 67]), (g2, [.int .i64 0, .int .i64 0, .int .i64 0, .int .i64 0, .int .i64 0, .int .u32 0, .int .i64 0]), (g1, [.int .i64 a, .int .i64 b, .int .i64 c, .int .i64 x, .int .i64 y])] (by kernel_rfl) ?_
  refine E.G.op (.slice (some ⟨g77, 0, none⟩) 41 c78) (fun w => by kernel_rfl) (by kernel_rfl) ?_
  refine E.To.code ?_
  refine E.C.seq ?_
  refine E.C.seq ?_
  refine E.C.region ?_
  refine E.G.op (.int .i64 4) (fun w => by kernel_rfl) (by kernel_rfl) ?_
  refine E.G.op (.bool true) (fun w => by kernel_rfl) (by kernel_rfl) ?_
  refine E.To.code ?_
  refine E.C.condT (by kernel_rfl) (by kernel_rfl) ?_
  refine E.C.region ?_
  refine E.G.op (.slice (some ⟨g77, 0, none⟩) 41 c78) (fun w => by kernel_rfl) (by kernel_rfl) ?_
  refine E.G.op (.int .i64 4) (fun w => by kernel_rfl) (by kernel_rfl) ?_
  refine E.G.op (.int .i64 20) (fun w => by kernel_rfl) (by kernel_rfl) ?_
  refine E.G.buildSlice [.int .i64 20] (by kernel_rfl) (by kernel_rfl) (fun g82 => ?_)
  refine E.G.append (e := 3) 1 g77 41 c78 0 g82 0 1 1 1 8 R2.c41 r79 [.int .i64 20] _ (by kernel_rfl) (by kernel_rfl) (by kernel_rfl) rfl (by kernel_rfl) (by first | rfl | omega | assumption) (by first | omega | decide) (by kernel_rfl) rfl (by kernel_rfl) rfl (by rfl) (by omega) (by omega) (by omega) (by kernel_rfl) (fun g83 c84 r85 hc86 hr87 => ?_)
  refine E.G.relist [(g83, (R2.c42 ++ r85)), (g82, [.int .i64 20]), (g76, [.int .i64 36, .int .i64 52, .int .i64 68]), (g70, [.int .i64 83, .int .i64 91]), (g64, [.int .i64 19]), (g58, [.int .i64 35, .int .i64 51, .int .i64 67]), (g2, [.int .i64 0, .int .i64 0, .int .i64 0, .int .i64 0, .int .i64 0, .int .u32 0, .int .i64 0]), (g1, [.int .i64 a, .int .i64 b, .int .i64 c, .int .i64 x, .int .i64 y])] (by kernel_rfl) ?_
  refine E.G.op (.slice (some ⟨g83, 0, none⟩) 42 c84) (fun w => by kernel_rfl) (by kernel_rfl) ?_
  refine E.To.code ?_
  refine E.C.seq ?_
  refine E.C.region ?_
  refine E.G.op (.int .i64 4) (fun w => by kernel_rfl) (by kernel_rfl) ?_
  refine E.G.op (.bool true) (fun w => by kernel_rfl) (by kernel_rfl) ?_
  refine E.To.code ?_
  refine E.C.condT (by kernel_rfl) (by kernel_rfl) ?_
  refine E.C.region ?_
  refine E.G.op (.slice (some ⟨g83, 0, none⟩) 42 c84) (fun w => by kernel_rfl) (by kernel_rfl) ?_
  refine E.G.op (.int .i64 4) (fun w => by kernel_rfl) (by kernel_rfl) ?_
  refine E.G.op (.int .i64 84) (fun w => by kernel_rfl) (by kernel_rfl) ?_
  refine E.G.op (.int .i64 4) (fun w => by kernel_rfl) (by kernel_rfl) ?_
  refine E.G.op (.int .i64 92) (fun w => by kernel_rfl) (by kernel_rfl) ?_
  refine E.G.buildSlice [.int .i64 84, .int .i64 92] (by kernel_rfl) (by kernel_rfl) (fun g88 => ?_)
  refine E.G.append (e := 3) 1 g83 42 c84 0 g88 0 2 2 1 8 R2.c42 r85 [.int .i64 84, .int .i64 92] _ (by kernel_rfl) (by kernel_rfl) (by kernel_rfl) rfl (by kernel_rfl) (by first | rfl | omega | assumption) (by first | omega | decide) (by kernel_rfl) rfl (by kernel_rfl) rfl (by rfl) (by omega) (by omega) (by omega) (by kernel_rfl) (fun g89 c90 r91 hc92 hr93 => ?_)
  refine E.G.relist [(g89, (R2.c44 ++ r91)), (g88, [.int .i64 84, .int .i64 92]), (g82, [.int .i64 20]), (g76, [.int .i64 36, .int .i64 52, .int .i64 68]), (g70, [.int .i64 83, .int .i64 91]), (g64, [.int .i64 19]), (g58, [.int .i64 35, .int .i64 51, .int .i64 67]), (g2, [.int .i64 0, .int .i64 0, .int .i64 0, .int .i64 0, .int .i64 0, .int .u32 0, .int .i64 0]), (g1, [.int .i64 a, .int .i64 b, .int .i64 c, .int .i64 x, .int .i64 y])] (by kernel_rfl) ?_
  refine E.G.op (.slice (some ⟨g89, 0, none⟩) 44 c90) (fun w => by kernel_rfl) (by kernel_rfl) ?_
  refine E.P.nb (E.To.code ?_)
  refine E.C.weak [(1, .pointer (some ⟨g1, 0, none⟩)), (2, .pointer (some ⟨g2, 0, none⟩)), (3, .slice (some ⟨g89, 0, none⟩) 44 c90), (4, .int .i64 4), (9, .int .i64 4), (10, .bool true), (11, .int .i64 3), (12, .int .i64 4), (13, .slice (some ⟨g71, 0, none⟩) 38 c72), (14, .int .i64 4), (15, .int .i64 36), (16, .int .i64 4), (17, .int .i64 52), (18, .int .i64 4), (19, .int .i64 68), (20, .slice (some ⟨g76, 0, none⟩) 3 3), (21, .slice (some ⟨g77, 0, none⟩) 41 c78), (22, .int .i64 4), (23, .bool true), (24, .slice (some ⟨g77, 0, none⟩) 41 c78), (25, .int .i64 4), (26, .int .i64 20), (27, .slice (some ⟨g82, 0, none⟩) 1 1), (28, .slice (some ⟨g83, 0, none⟩) 42 c84), (29, .int .i64 4), (30, .bool true), (31, .slice (some ⟨g83, 0, none⟩) 42 c84), (32, .int .i64 4), (33, .int .i64 84), (34, .int .i64 4), (35, .int .i64 92), (36, .slice (some ⟨g88, 0, none⟩) 2 2), (37, .slice (some ⟨g89, 0, none⟩) 44 c90)] [(g89, (R2.c44 ++ r91)), (g88, [.int .i64 84, .int .i64 92]), (g82, [.int .i64 20]), (g76, [.int .i64 36, .int .i64 52, .int .i64 68]), (g2, [.int .i64 0, .int .i64 0, .int .i64 0, .int .i64 0, .int .i64 0, .int .u32 0, .int .i64 0]), (g1, [.int .i64 a, .int .i64 b, .int .i64 c, .int .i64 x, .int .i64 y])] ⟨by kernel_rfl, by kernel_rfl⟩ (List.Sublist.cons_cons _ (List.Sublist.cons_cons _ (List.Sublist.cons_cons _ (List.Sublist.cons_cons _ (List.Sublist.cons _ (List.Sublist.cons _ (List.Sublist.cons _ (List.Sublist.refl _)))))))) ?_
  refine E.C.region ?_
  refine E.G.op (.int .i64 4) (fun w => by kernel_rfl) (by kernel_rfl) ?_
  refine E.G.op (.int .i64 5) (fun w => by kernel_rfl) (by kernel_rfl) ?_
  refine E.G.op (.int .i64 5) (fun w => by kernel_rfl) (by kernel_rfl) ?_
  refine E.To.rounds 10 ?_
  refine E.C.weak [(1, .pointer (some ⟨g1, 0, none⟩)), (2, .pointer (some ⟨g2, 0, none⟩)), (3, .slice (some ⟨g89, 0, none⟩) 44 c90), (4, .int .i64 5), (9, .int .i64 4), (10, .bool true), (11, .int .i64 4), (12, .int .i64 5), (13, .slice (some ⟨g71, 0, none⟩) 38 c72), (14, .int .i64 4), (15, .int .i64 36), (16, .int .i64 4), (17, .int .i64 52), (18, .int .i64 4), (19, .int .i64 68), (20, .slice (some ⟨g76, 0, none⟩) 3 3), (21, .slice (some ⟨g77, 0, none⟩) 41 c78), (22, .int .i64 4), (23, .bool true), (24, .slice (some ⟨g77, 0, none⟩) 41 c78), (25, .int .i64 4), (26, .int .i64 20), (27, .slice (some ⟨g82, 0, none⟩) 1 1), (28, .slice (some ⟨g83, 0, none⟩) 42 c84), (29, .int .i64 4), (30, .bool true), (31, .slice (some ⟨g83, 0, none⟩) 42 c84), (32, .int .i64 4), (33, .int .i64 84), (34, .int .i64 4), (35, .int .i64 92), (36, .slice (some ⟨g88, 0, none⟩) 2 2), (37, .slice (some ⟨g89, 0, none⟩) 44 c90)] [(g89, (R2.c44 ++ r91)), (g88, [.int .i64 84, .int .i64 92]), (g82, [.int .i64 20]), (g76, [.int .i64 36, .int .i64 52, .int .i64 68]), (g2, [.int .i64 0, .int .i64 0, .int .i64 0, .int .i64 0, .int .i64 0, .int .u32 0, .int .i64 0]), (g1, [.int .i64 a, .int .i64 b, .int .i64 c, .int .i64 x, .int .i64 y])] ⟨by kernel_rfl, by kernel_rfl⟩ (List.Sublist.refl _) ?_
  refine E.C.seq ?_
  refine E.C.seq ?_
  refine E.C.region ?_
  refine E.G.op (.int .i64 5) (fun w => by kernel_rfl) (by kernel_rfl) ?_
  refine E.G.op (.bool true) (fun w => by kernel_rfl) (by kernel_rfl) ?_
  refine E.To.code ?_
  refine E.C.condT (by kernel_rfl) (by kernel_rfl) ?_
  refine E.C.skip (E.To.code ?_)
  refine E.C.seq ?_
  refine E.C.block ?_
  refine E.C.seq ?_
  refine E.C.region ?_
  refine E.G.op (.slice (some ⟨g89, 0, none⟩) 44 c90) (fun w => by kernel_rfl) (by kernel_rfl) ?_
  refine E.G.op (.int .i64 5) (fun w => by kernel_rfl) (by kernel_rfl) ?_
  refine E.G.op (.int .i64 37) (fun w => by kernel_rfl) (by kernel_rfl) ?_
  refine E.G.op (.int .i64 5) (fun w => by kernel_rfl) (by kernel_rfl) ?_
  refine E.G.op (.int .i64 53) (fun w => by kernel_rfl) (by kernel_rfl) ?_
  refine E.G.op (.int .i64 5) (fun w => by kernel_rfl) (by kernel_rfl) ?_
  refine E.G.op (.int .i64 69) (fun w => by kernel_rfl) (by kernel_rfl) ?_
  refine E.G.buildSlice [.int .i64 37, .int .i64 53, .int .i64 69] (by kernel_rfl) (by kernel_rfl) (fun g94 => ?_)
  refine E.G.append (e := 3) 1 g89 44 c90 0 g94 0 3 3 1 8 R2.c44 r91 [.int .i64 37, .int .i64 53, .int .i64 69] _ (by kernel_rfl) (by kernel_rfl) (by kernel_rfl) rfl (by kernel_rfl) (by first | rfl | omega | assumption) (by first | omega | decide) (by kernel_rfl) rfl (by kernel_rfl) rfl (by rfl) (by omega) (by omega) (by omega) (by kernel_rfl) (fun g95 c96 r97 hc98 hr99 => ?_)
  refine E.G.relist [(g95, (R2.c47 ++ r97)), (g94, [.int .i64 37, .int .i64 53, .int .i64 69]), (g88, [.int .i64 84, .int .i64 92]), (g82, [.int .i64 20]), (g76, [.int .i64 36, .int .i64 52, .int .i64 68]), (g2, [.int .i64 0, .int .i64 0, .int .i64 0, .int .i64 0, .int .i64 0, .int .u32 0, .int .i64 0]), (g1, [.int .i64 a, .int .i64 b, .int .i64 c, .int .i64 x, .int .i64 y])] (by kernel_rfl) ?_
  refine E.G.op (.slice (some ⟨g95, 0, none⟩) 47 c96) (fun w => by kernel_rfl) (by kernel_rfl) ?_
  refine E.To.code ?_
  refine E.C.seq ?_
  refine E.C.seq ?_
  refine E.C.region ?_
  refine E.G.op (.int .i64 5) (fun w => by kernel_rfl) (by kernel_rfl) ?_
  refine E.G.op (.bool true) (fun w => by kernel_rfl) (by kernel_rfl) ?_
  refine E.To.code ?_
  refine E.C.condT (by kernel_rfl) (by kernel_rfl) ?_
  refine E.C.region ?_
  refine E.G.op (.slice (some ⟨g95, 0, none⟩) 47 c96) (fun w => by kernel_rfl) (by kernel_rfl) ?_
  refine E.G.op (.int .i64 5) (fun w => by kernel_rfl) (by kernel_rfl) ?_
  refine E.G.op (.int .i64 21) (fun w => by kernel_rfl) (by kernel_rfl) ?_
  refine E.G.buildSlice [.int .i64 21] (by kernel_rfl) (by kernel_rfl) (fun g100 => ?_)
  refine E.G.append (e := 3) 1 g95 47 c96 0 g100 0 1 1 1 8 R2.c47 r97 [.int .i64 21] _ (by kernel_rfl) (by kernel_rfl) (by kernel_rfl) rfl (by kernel_rfl) (by first | rfl | omega | assumption) (by first | omega | decide) (by kernel_rfl) rfl (by kernel_rfl) rfl (by rfl) (by omega) (by omega) (by omega) (by kernel_rfl) (fun g101 c102 r103 hc104 hr105 => ?_)
  refine E.G.relist [(g101, (R2.c48 ++ r103)), (g100, [.int .i64 21]), (g94, [.int .i64 37, .int .i64 53, .int .i64 69]), (g88, [.int .i64 84, .int .i64 92]), (g82, [.int .i64 20]), (g76, [.int .i64 36, .int .i64 52, .int .i64 68]), (g2, [.int .i64 0, .int .i64 0, .int .i64 0, .int .i64 0, .int .i64 0, .int .u32 0, .int .i64 0]), (g1, [.int .i64 a, .int .i64 b, .int .i64 c, .int .i64 x, .int .i64 y])] (by kernel_rfl) ?_
  refine E.G.op (.slice (some ⟨g101, 0, none⟩) 48 c102) (fun w => by kernel_rfl) (by kernel_rfl) ?_
  refine E.To.code ?_
  refine E.C.seq ?_
  refine E.C.region ?_
  refine E.G.op (.int .i64 5) (fun w => by kernel_rfl) (by kernel_rfl) ?_
  refine E.G.op (.bool true) (fun w => by kernel_rfl) (by kernel_rfl) ?_
  refine E.To.code ?_
  refine E.C.condT (by kernel_rfl) (by kernel_rfl) ?_
  refine E.C.region ?_
  refine E.G.op (.slice (some ⟨g101, 0, none⟩) 48 c102) (fun w => by kernel_rfl) (by kernel_rfl) ?_
  refine E.G.op (.int .i64 5) (fun w => by kernel_rfl) (by kernel_rfl) ?_
  refine E.G.op (.int .i64 85) (fun w => by kernel_rfl) (by kernel_rfl) ?_
  refine E.G.op (.int .i64 5) (fun w => by kernel_rfl) (by kernel_rfl) ?_
  refine E.G.op (.int .i64 93) (fun w => by kernel_rfl) (by kernel_rfl) ?_
  refine E.G.buildSlice [.int .i64 85, .int .i64 93] (by kernel_rfl) (by kernel_rfl) (fun g106 => ?_)
  refine E.G.append (e := 3) 1 g101 48 c102 0 g106 0 2 2 1 8 R2.c48 r103 [.int .i64 85, .int .i64 93] _ (by kernel_rfl) (by kernel_rfl) (by kernel_rfl) rfl (by kernel_rfl) (by first | rfl | omega | assumption) (by first | omega | decide) (by kernel_rfl) rfl (by kernel_rfl) rfl (by rfl) (by omega) (by omega) (by omega) (by kernel_rfl) (fun g107 c108 r109 hc110 hr111 => ?_)
  refine E.G.relist [(g107, (R2.c50 ++ r109)), (g106, [.int .i64 85, .int .i64 93]), (g100, [.int .i64 21]), (g94, [.int .i64 37, .int .i64 53, .int .i64 69]), (g88, [.int .i64 84, .int .i64 92]), (g82, [.int .i64 20]), (g76, [.int .i64 36, .int .i64 52, .int .i64 68]), (g2, [.int .i64 0, .int .i64 0, .int .i64 0, .int .i64 0, .int .i64 0, .int .u32 0, .int .i64 0]), (g1, [.int .i64 a, .int .i64 b, .int .i64 c, .int .i64 x, .int .i64 y])] (by kernel_rfl) ?_
  refine E.G.op (.slice (some ⟨g107, 0, none⟩) 50 c108) (fun w => by kernel_rfl) (by kernel_rfl) ?_
  refine E.P.nb (E.To.code ?_)
  refine E.C.weak [(1, .pointer (some ⟨g1, 0, none⟩)), (2, .pointer (some ⟨g2, 0, none⟩)), (3, .slice (some ⟨g107, 0, none⟩) 50 c108), (4, .int .i64 5), (9, .int .i64 5), (10, .bool true), (11, .int .i64 4), (12, .int .i64 5), (13, .slice (some ⟨g89, 0, none⟩) 44 c90), (14, .int .i64 5), (15, .int .i64 37), (16, .int .i64 5), (17, .int .i64 53), (18, .int .i64 5), (19, .int .i64 69), (20, .slice (some ⟨g94, 0, none⟩) 3 3), (21, .slice (some ⟨g95, 0, none⟩) 47 c96), (22, .int .i64 5), (23, .bool true), (24, .slice (some ⟨g95, 0, none⟩) 47 c96), (25, .int .i64 5), (26, .int .i64 21), (27, .slice (some ⟨g100, 0, none⟩) 1 1), (28, .slice (some ⟨g101, 0, none⟩) 48 c102), (29, .int .i64 5), (30, .bool true), (31, .slice (some ⟨g101, 0, none⟩) 48 c102), (32, .int .i64 5), (33, .int .i64 85), (34, .int .i64 5), (35, .int .i64 93), (36, .slice (some ⟨g106, 0, none⟩) 2 2), (37, .slice (some ⟨g107, 0, none⟩) 50 c108)] [(g107, (R2.c50 ++ r109)), (g106, [.int .i64 85, .int .i64 93]), (g100, [.int .i64 21]), (g94, [.int .i64 37, .int .i64 53, .int .i64 69]), (g2, [.int .i64 0, .int .i64 0, .int .i64 0, .int .i64 0, .int .i64 0, .int .u32 0, .int .i64 0]), (g1, [.int .i64 a, .int .i64 b, .int .i64 c, .int .i64 x, .int .i64 y])] ⟨by kernel_rfl, by kernel_rfl⟩ (List.Sublist.cons_cons _ (List.Sublist.cons_cons _ (List.Sublist.cons_cons _ (List.Sublist.cons_cons _ (List.Sublist.cons _ (List.Sublist.cons _ (List.Sublist.cons _ (List.Sublist.refl _)))))))) ?_
  refine E.C.region ?_
  refine E.G.op (.int .i64 5) (fun w => by kernel_rfl) (by kernel_rfl) ?_
  refine E.G.op (.int .i64 6) (fun w => by kernel_rfl) (by kernel_rfl) ?_
  refine E.G.op (.int .i64 6) (fun w => by kernel_rfl) (by kernel_rfl) ?_
  refine E.To.rounds 9 ?_
  refine E.C.weak [(1, .pointer (some ⟨g1, 0, none⟩)), (2, .pointer (some ⟨g2, 0, none⟩)), (3, .slice (some ⟨g107, 0, none⟩) 50 c108), (4, .int .i64 6), (9, .int .i64 5), (10, .bool true), (11, .int .i64 5), (12, .int .i64 6), (13, .slice (some ⟨g89, 0, none⟩) 44 c90), (14, .int .i64 5), (15, .int .i64 37), (16, .int .i64 5), (17, .int .i64 53), (18, .int .i64 5), (19, .int .i64 69), (20, .slice (some ⟨g94, 0, none⟩) 3 3), (21, .slice (some ⟨g95, 0, none⟩) 47 c96), (22, .int .i64 5), (23, .bool true), (24, .slice (some ⟨g95, 0, none⟩) 47 c96), (25, .int .i64 5), (26, .int .i64 21), (27, .slice (some ⟨g100, 0, none⟩) 1 1), (28, .slice (some ⟨g101, 0, none⟩) 48 c102), (29, .int .i64 5), (30, .bool true), (31, .slice (some ⟨g101, 0, none⟩) 48 c102), (32, .int .i64 5), (33, .int .i64 85), (34, .int .i64 5), (35, .int .i64 93), (36, .slice (some ⟨g106, 0, none⟩) 2 2), (37, .slice (some ⟨g107, 0, none⟩) 50 c108)] [(g107, (R2.c50 ++ r109)), (g106, [.int .i64 85, .int .i64 93]), (g100, [.int .i64 21]), (g94, [.int .i64 37, .int .i64 53, .int .i64 69]), (g2, [.int .i64 0, .int .i64 0, .int .i64 0, .int .i64 0, .int .i64 0, .int .u32 0, .int .i64 0]), (g1, [.int .i64 a, .int .i64 b, .int .i64 c, .int .i64 x, .int .i64 y])] ⟨by kernel_rfl, by kernel_rfl⟩ (List.Sublist.refl _) ?_
  refine E.C.seq ?_
  refine E.C.seq ?_
  refine E.C.region ?_
  refine E.G.op (.int .i64 6) (fun w => by kernel_rfl) (by kernel_rfl) ?_
  refine E.G.op (.bool true) (fun w => by kernel_rfl) (by kernel_rfl) ?_
  refine E.To.code ?_
  refine E.C.condT (by kernel_rfl) (by kernel_rfl) ?_
  refine E.C.skip (E.To.code ?_)
  refine E.C.seq ?_
  refine E.C.block ?_
  refine E.C.seq ?_
  refine E.C.region ?_
  refine E.G.op (.slice (some ⟨g107, 0, none⟩) 50 c108) (fun w => by kernel_rfl) (by kernel_rfl) ?_
  refine E.G.op (.int .i64 6) (fun w => by kernel_rfl) (by kernel_rfl) ?_
  refine E.G.op (.int .i64 38) (fun w => by kernel_rfl) (by kernel_rfl) ?_
  refine E.G.op (.int .i64 6) (fun w => by kernel_rfl) (by kernel_rfl) ?_
  refine E.G.op (.int .i64 54) (fun w => by kernel_rfl) (by kernel_rfl) ?_
  refine E.G.op (.int .i64 6) (fun w => by kernel_rfl) (by kernel_rfl) ?_
  refine E.G.op (.int .i64 70) (fun w => by kernel_rfl) (by kernel_rfl) ?_
  refine E.G.buildSlice [.int .i64 38, .int .i64 54, .int .i64 70] (by kernel_rfl) (by kernel_rfl) (fun g112 => ?_)
  refine E.G.append (e := 3) 1 g107 50 c108 0 g112 0 3 3 1 8 R2.c50 r109 [.int .i64 38, .int .i64 54, .int .i64 70] _ (by kernel_rfl) (by kernel_rfl) (by kernel_rfl) rfl (by kernel_rfl) (by first | rfl | omega | assumption) (by first | omega | decide) (by kernel_rfl) rfl (by kernel_rfl) rfl (by rfl) (by omega) (by omega) (by omega) (by kernel_rfl) (fun g113 c114 r115 hc116 hr117 => ?_)
  refine E.G.relist [(g113, (R2.c53 ++ r115)), (g112, [.int .i64 38, .int .i64 54, .int .i64 70]), (g106, [.int .i64 85, .int .i64 93]), (g100, [.int .i64 21]), (g94, [.int .i64 37, .int .i64 53, .int .i64 69]), (g2, [.int .i64 0, .int .i64 0, .int .i64 0, .int .i64 0, .int .i64 0, .int .u32 0, .int .i64 0]), (g1, [.int .i64 a, .int .i64 b, .int .i64 c, .int .i64 x, .int .i64 y])] (by kernel_rfl) ?_
  refine E.G.op (.slice (some ⟨g113, 0, none⟩) 53 c114) (fun w => by kernel_rfl) (by kernel_rfl) ?_
  refine E.To.code ?_
  refine E.C.seq ?_
  refine E.C.seq ?_
  refine E.C.region ?_
  refine E.G.op (.int .i64 6) (fun w => by kernel_rfl) (by kernel_rfl) ?_
  refine E.G.op (.bool false) (fun w => by kernel_rfl) (by kernel_rfl) ?_
  refine E.To.code ?_
  refine E.C.condF (by kernel_rfl) (by kernel_rfl) ?_
  refine E.C.skip (E.To.code ?_)
  refine E.C.seq ?_
  refine E.C.region ?_
  refine E.G.op (.int .i64 6) (fun w => by kernel_rfl) (by kernel_rfl) ?_
  refine E.G.op (.bool true) (fun w => by kernel_rfl) (by kernel_rfl) ?_
  refine E.To.code ?_
  refine E.C.condT (by kernel_rfl) (by kernel_rfl) ?_
  refine E.C.region ?_
  refine E.G.op (.slice (some ⟨g113, 0, none⟩) 53 c114) (fun w => by kernel_rfl) (by kernel_rfl) ?_
  refine E.G.op (.int .i64 6) (fun w => by kernel_rfl) (by kernel_rfl) ?_
  refine E.G.op (.int .i64 86) (fun w => by kernel_rfl) (by kernel_rfl) ?_
  refine E.G.op (.int .i64 6) (fun w => by kernel_rfl) (by kernel_rfl) ?_
  refine E.G.op (.int .i64 94) (fun w => by kernel_rfl) (by kernel_rfl) ?_
  refine E.G.buildSlice [.int .i64 86, .int .i64 94] (by kernel_rfl) (by kernel_rfl) (fun g118 => ?_)
  refine E.G.append (e := 3) 1 g113 53 c114 0 g118 0 2 2 1 8 R2.c53 r115 [.int .i64 86, .int .i64 94] _ (by kernel_rfl) (by kernel_rfl) (by kernel_rfl) rfl (by kernel_rfl) (by first | rfl | omega | assumption) (by first | omega | decide) (by kernel_rfl) rfl (by kernel_rfl) rfl (by rfl) (by omega) (by omega) (by omega) (by kernel_rfl) (fun g119 c120 r121 hc122 hr123 => ?_)
  refine E.G.relist [(g119, (R2.c55 ++ r121)), (g118, [.int .i64 86, .int .i64 94]), (g112, [.int .i64 38, .int .i64 54, .int .i64 70]), (g106, [.int .i64 85, .int .i64 93]), (g100, [.int .i64 21]), (g94, [.int .i64 37, .int .i64 53, .int .i64 69]), (g2, [.int .i64 0, .int .i64 0, .int .i64 0, .int .i64 0, .int .i64 0, .int .u32 0, .int .i64 0]), (g1, [.int .i64 a, .int .i64 b, .int .i64 c, .int .i64 x, .int .i64 y])] (by kernel_rfl) ?_
  refine E.G.op (.slice (some ⟨g119, 0, none⟩) 55 c120) (fun w => by kernel_rfl) (by kernel_rfl) ?_
  refine E.P.nb (E.To.code ?_)
  refine E.C.region ?_
  refine E.G.op (.int .i64 6) (fun w => by kernel_rfl) (by kernel_rfl) ?_
  refine E.G.op (.int .i64 7) (fun w => by kernel_rfl) (by kernel_rfl) ?_
  refine E.G.op (.int .i64 7) (fun w => by kernel_rfl) (by kernel_rfl) ?_
  refine E.To.rounds 8 ?_
  refine E.C.weak [(1, .pointer (some ⟨g1, 0, none⟩)), (2, .pointer (some ⟨g2, 0, none⟩)), (3, .slice (some ⟨g119, 0, none⟩) 55 c120), (4, .int .i64 7), (9, .int .i64 6), (10, .bool true), (11, .int .i64 6), (12, .int .i64 7), (13, .slice (some ⟨g107, 0, none⟩) 50 c108), (14, .int .i64 6), (15, .int .i64 38), (16, .int .i64 6), (17, .int .i64 54), (18, .int .i64 6), (19, .int .i64 70), (20, .slice (some ⟨g112, 0, none⟩) 3 3), (21, .slice (some ⟨g113, 0, none⟩) 53 c114), (22, .int .i64 6), (23, .bool false), (24, .slice (some ⟨g95, 0, none⟩) 47 c96), (25, .int .i64 5), (26, .int .i64 21), (27, .slice (some ⟨g100, 0, none⟩) 1 1), (28, .slice (some ⟨g101, 0, none⟩) 48 c102), (29, .int .i64 6), (30, .bool true), (31, .slice (some ⟨g113, 0, none⟩) 53 c114), (32, .int .i64 6), (33, .int .i64 86), (34, .int .i64 6), (35, .int .i64 94), (36, .slice (some ⟨g118, 0, none⟩) 2 2), (37, .slice (some ⟨g119, 0, none⟩) 55 c120)] [(g119, (R2.c55 ++ r121)), (g118, [.int .i64 86, .int .i64 94]), (g112, [.int .i64 38, .int .i64 54, .int .i64 70]), (g100, [.int .i64 21]), (g2, [.int .i64 0, .int .i64 0, .int .i64 0, .int .i64 0, .int .i64 0, .int .u32 0, .int .i64 0]), (g1, [.int .i64 a, .int .i64 b, .int .i64 c, .int .i64 x, .int .i64 y])] ⟨by kernel_rfl, by kernel_rfl⟩ (List.Sublist.cons_cons _ (List.Sublist.cons_cons _ (List.Sublist.cons_cons _ (List.Sublist.cons _ (List.Sublist.cons_cons _ (List.Sublist.cons _ (List.Sublist.refl _))))))) ?_
  refine E.C.seq ?_
  refine E.C.seq ?_
  refine E.C.region ?_
  refine E.G.op (.int .i64 7) (fun w => by kernel_rfl) (by kernel_rfl) ?_
  refine E.G.op (.bool true) (fun w => by kernel_rfl) (by kernel_rfl) ?_
  refine E.To.code ?_
  refine E.C.condT (by kernel_rfl) (by kernel_rfl) ?_
  refine E.C.skip (E.To.code ?_)
  refine E.C.seq ?_
  refine E.C.block ?_
  refine E.C.seq ?_
  refine E.C.region ?_
  refine E.G.op (.slice (some ⟨g119, 0, none⟩) 55 c120) (fun w => by kernel_rfl) (by kernel_rfl) ?_
  refine E.G.op (.int .i64 7) (fun w => by kernel_rfl) (by kernel_rfl) ?_
  refine E.G.op (.int .i64 39) (fun w => by kernel_rfl) (by kernel_rfl) ?_
  refine E.G.op (.int .i64 7) (fun w => by kernel_rfl) (by kernel_rfl) ?_
  refine E.G.op (.int .i64 55) (fun w => by kernel_rfl) (by kernel_rfl) ?_
  refine E.G.op (.int .i64 7) (fun w => by kernel_rfl) (by kernel_rfl) ?_
  refine E.G.op (.int .i64 71) (fun w => by kernel_rfl) (by kernel_rfl) ?_
  refine E.G.buildSlice [.int .i64 39, .int .i64 55, .int .i64 71] (by kernel_rfl) (by kernel_rfl) (fun g124 => ?_)
  refine E.G.append (e := 3) 1 g119 55 c120 0 g124 0 3 3 1 8 R2.c55 r121 [.int .i64 39, .int .i64 55, .int .i64 71] _ (by kernel_rfl) (by kernel_rfl) (by kernel_rfl) rfl (by kernel_rfl) (by first | rfl | omega | assumption) (by first | omega | decide) (by kernel_rfl) rfl (by kernel_rfl) rfl (by rfl) (by omega) (by omega) (by omega) (by kernel_rfl) (fun g125 c126 r127 hc128 hr129 => ?_)
  refine E.G.relist [(g125, (R2.c58 ++ r127)), (g124, [.int .i64 39, .int .i64 55, .int .i64 71]), (g118, [.int .i64 86, .int .i64 94]), (g112, [.int .i64 38, .int .i64 54, .int .i64 70]), (g100, [.int .i64 21]), (g2, [.int .i64 0, .int .i64 0, .int .i64 0, .int .i64 0, .int .i64 0, .int .u32 0, .int .i64 0]), (g1, [.int .i64 a, .int .i64 b, .int .i64 c, .int .i64 x, .int .i64 y])] (by kernel_rfl) ?_
  refine E.G.op (.slice (some ⟨g125, 0, none⟩) 58 c126) (fun w => by kernel_rfl) (by kernel_rfl) ?_
  refine E.To.code ?_
  refine E.C.seq ?_
  refine E.C.seq ?_
  refine E.C.region ?_
  refine E.G.op (.int .i64 7) (fun w => by kernel_rfl) (by kernel_rfl) ?_
  refine E.G.op (.bool false) (fun w => by kernel_rfl) (by kernel_rfl) ?_
  refine E.To.code ?_
  refine E.C.condF (by kernel_rfl) (by kernel_rfl) ?_
  refine E.C.skip (E.To.code ?_)
  refine E.C.seq ?_
  refine E.C.region ?_
  refine E.G.op (.int .i64 7) (fun w => by kernel_rfl) (by kernel_rfl) ?_
  refine E.G.op (.bool false) (fun w => by kernel_rfl) (by kernel_rfl) ?_
  refine E.To.code ?_
  refine E.C.condF (by kernel_rfl) (by kernel_rfl) ?_
  refine E.C.skip (E.P.nb (E.To.code ?_))
  refine E.C.region ?_
  refine E.G.op (.int .i64 7) (fun w => by kernel_rfl) (by kernel_rfl) ?_
  refine E.G.op (.int .i64 8) (fun w => by kernel_rfl) (by kernel_rfl) ?_
  refine E.G.op (.int .i64 8) (fun w => by kernel_rfl) (by kernel_rfl) ?_
  refine E.To.rounds 7 ?_
  refine E.C.weak [(1, .pointer (some ⟨g1, 0, none⟩)), (2, .pointer (some ⟨g2, 0, none⟩)), (3, .slice (some ⟨g125, 0, none⟩) 58 c126), (4, .int .i64 8), (9, .int .i64 7), (10, .bool true), (11, .int .i64 7), (12, .int .i64 8), (13, .slice (some ⟨g119, 0, none⟩) 55 c120), (14, .int .i64 7), (15, .int .i64 39), (16, .int .i64 7), (17, .int .i64 55), (18, .int .i64 7), (19, .int .i64 71), (20, .slice (some ⟨g124, 0, none⟩) 3 3), (21, .slice (some ⟨g125, 0, none⟩) 58 c126), (22, .int .i64 7), (23, .bool false), (24, .slice (some ⟨g95, 0, none⟩) 47 c96), (25, .int .i64 5), (26, .int .i64 21), (27, .slice (some ⟨g100, 0, none⟩) 1 1), (28, .slice (some ⟨g101, 0, none⟩) 48 c102), (29, .int .i64 7), (30, .bool false), (31, .slice (some ⟨g113, 0, none⟩) 53 c114), (32, .int .i64 6), (33, .int .i64 86), (34, .int .i64 6), (35, .int .i64 94), (36, .slice (some ⟨g118, 0, none⟩) 2 2), (37, .slice (some ⟨g119, 0, none⟩) 55 c120)] [(g125, (R2.c58 ++ r127)), (g124, [.int .i64 39, .int .i64 55, .int .i64 71]), (g118, [.int .i64 86, .int .i64 94]), (g100, [.int .i64 21]), (g2, [.int .i64 0, .int .i64 0, .int .i64 0, .int .i64 0, .int .i64 0, .int .u32 0, .int .i64 0]), (g1, [.int .i64 a, .int .i64 b, .int .i64 c, .int .i64 x, .int .i64 y])] ⟨by kernel_rfl, by kernel_rfl⟩ (List.Sublist.cons_cons _ (List.Sublist.cons_cons _ (List.Sublist.cons_cons _ (List.Sublist.cons _ (List.Sublist.refl _))))) ?_
  refine E.C.seq ?_
  refine E.C.seq ?_
  refine E.C.region ?_
  refine E.G.op (.int .i64 8) (fun w => by kernel_rfl) (by kernel_rfl) ?_
  refine E.G.op (.bool true) (fun w => by kernel_rfl) (by kernel_rfl) ?_
  refine E.To.code ?_
  refine E.C.condT (by kernel_rfl) (by kernel_rfl) ?_
  refine E.C.skip (E.To.code ?_)
  refine E.C.seq ?_
  refine E.C.block ?_
  refine E.C.seq ?_
  refine E.C.region ?_
  refine E.G.op (.slice (some ⟨g125, 0, none⟩) 58 c126) (fun w => by kernel_rfl) (by kernel_rfl) ?_
  refine E.G.op (.int .i64 8) (fun w => by kernel_rfl) (by kernel_rfl) ?_
  refine E.G.op (.int .i64 40) (fun w => by kernel_rfl) (by kernel_rfl) ?_
  refine E.G.op (.int .i64 8) (fun w => by kernel_rfl) (by kernel_rfl) ?_
  refine E.G.op (.int .i64 56) (fun w => by kernel_rfl) (by kernel_rfl) ?_
  refine E.G.op (.int .i64 8) (fun w => by kernel_rfl) (by kernel_rfl) ?_
  refine E.G.op (.int .i64 72) (fun w => by kernel_rfl) (by kernel_rfl) ?_
  refine E.G.buildSlice [.int .i64 40, .int .i64 56, .int .i64 72] (by kernel_rfl) (by kernel_rfl) (fun g130 => ?_)
  refine E.G.append (e := 3) 1 g125 58 c126 0 g130 0 3 3 1 8 R2.c58 r127 [.int .i64 40, .int .i64 56, .int .i64 72] _ (by kernel_rfl) (by kernel_rfl) (by kernel_rfl) rfl (by kernel_rfl) (by first | rfl | omega | assumption) (by first | omega | decide) (by kernel_rfl) rfl (by kernel_rfl) rfl (by rfl) (by omega) (by omega) (by omega) (by kernel_rfl) (fun g131 c132 r133 hc134 hr135 => ?_)
  refine E.G.relist [(g131, (R2.c61 ++ r133)), (g130, [.int .i64 40, .int .i64 56, .int .i64 72]), (g124, [.int .i64 39, .int .i64 55, .int .i64 71]), (g118, [.int .i64 86, .int .i64 94]), (g100, [.int .i64 21]), (g2, [.int .i64 0, .int .i64 0, .int .i64 0, .int .i64 0, .int .i64 0, .int .u32 0, .int .i64 0]), (g1, [.int .i64 a, .int .i64 b, .int .i64 c, .int .i64 x, .int .i64 y])] (by kernel_rfl) ?_
  refine E.G.op (.slice (some ⟨g131, 0, none⟩) 61 c132) (fun w => by kernel_rfl) (by kernel_rfl) ?_
  refine E.To.code ?_
  refine E.C.seq ?_
  refine E.C.seq ?_
  refine E.C.region ?_
  refine E.G.op (.int .i64 8) (fun w => by kernel_rfl) (by kernel_rfl) ?_
  refine E.G.op (.bool false) (fun w => by kernel_rfl) (by kernel_rfl) ?_
  refine E.To.code ?_
  refine E.C.condF (by kernel_rfl) (by kernel_rfl) ?_
  refine E.C.skip (E.To.code ?_)
  refine E.C.seq ?_
  refine E.C.region ?_
  refine E.G.op (.int .i64 8) (fun w => by kernel_rfl) (by kernel_rfl) ?_
  refine E.G.op (.bool false) (fun w => by kernel_rfl) (by kernel_rfl) ?_
  refine E.To.code ?_
  refine E.C.condF (by kernel_rfl) (by kernel_rfl) ?_
  refine E.C.skip (E.P.nb (E.To.code ?_))
  refine E.C.region ?_
  refine E.G.op (.int .i64 8) (fun w => by kernel_rfl) (by kernel_rfl) ?_
  refine E.G.op (.int .i64 9) (fun w => by kernel_rfl) (by kernel_rfl) ?_
  refine E.G.op (.int .i64 9) (fun w => by kernel_rfl) (by kernel_rfl) ?_
  refine E.To.rounds 6 ?_
  refine E.C.weak [(1, .pointer (some ⟨g1, 0, none⟩)), (2, .pointer (some ⟨g2, 0, none⟩)), (3, .slice (some ⟨g131, 0, none⟩) 61 c132), (4, .int .i64 9), (9, .int .i64 8), (10, .bool true), (11, .int .i64 8), (12, .int .i64 9), (13, .slice (some ⟨g125, 0, none⟩) 58 c126), (14, .int .i64 8), (15, .int .i64 40), (16, .int .i64 8), (17, .int .i64 56), (18, .int .i64 8), (19, .int .i64 72), (20, .slice (some ⟨g130, 0, none⟩) 3 3), (21, .slice (some ⟨g131, 0, none⟩) 61 c132), (22, .int .i64 8), (23, .bool false), (24, .slice (some ⟨g95, 0, none⟩) 47 c96), (25, .int .i64 5), (26, .int .i64 21), (27, .slice (some ⟨g100, 0, none⟩) 1 1), (28, .slice (some ⟨g101, 0, none⟩) 48 c102), (29, .int .i64 8), (30, .bool false), (31, .slice (some ⟨g113, 0, none⟩) 53 c114), (32, .int .i64 6), (33, .int .i64 86), (34, .int .i64 6), (35, .int .i64 94), (36, .slice (some ⟨g118, 0, none⟩) 2 2), (37, .slice (some ⟨g119, 0, none⟩) 55 c120)] [(g131, (R2.c61 ++ r133)), (g130, [.int .i64 40, .int .i64 56, .int .i64 72]), (g118, [.int .i64 86, .int .i64 94]), (g100, [.int .i64 21]), (g2, [.int .i64 0, .int .i64 0, .int .i64 0, .int .i64 0, .int .i64 0, .int .u32 0, .int .i64 0]), (g1, [.int .i64 a, .int .i64 b, .int .i64 c, .int .i64 x, .int .i64 y])] ⟨by kernel_rfl, by kernel_rfl⟩ (List.Sublist.cons_cons _ (List.Sublist.cons_cons _ (List.Sublist.cons _ (List.Sublist.refl _)))) ?_
  refine E.C.seq ?_
  refine E.C.seq ?_
  refine E.C.region ?_
  refine E.G.op (.int .i64 9) (fun w => by kernel_rfl) (by kernel_rfl) ?_
  refine E.G.op (.bool true) (fun w => by kernel_rfl) (by kernel_rfl) ?_
  refine E.To.code ?_
  refine E.C.condT (by kernel_rfl) (by kernel_rfl) ?_
  refine E.C.skip (E.To.code ?_)
  refine E.C.seq ?_
  refine E.C.block ?_
  refine E.C.seq ?_
  refine E.C.region ?_
  refine E.G.op (.slice (some ⟨g131, 0, none⟩) 61 c132) (fun w => by kernel_rfl) (by kernel_rfl) ?_
  refine E.G.op (.int .i64 9) (fun w => by kernel_rfl) (by kernel_rfl) ?_
  refine E.G.op (.int .i64 41) (fun w => by kernel_rfl) (by kernel_rfl) ?_
  refine E.G.op (.int .i64 9) (fun w => by kernel_rfl) (by kernel_rfl) ?_
  refine E.G.op (.int .i64 57) (fun w => by kernel_rfl) (by kernel_rfl) ?_
  refine E.G.op (.int .i64 9) (fun w => by kernel_rfl) (by kernel_rfl) ?_
  refine E.G.op (.int .i64 73) (fun w => by kernel_rfl) (by kernel_rfl) ?_
  refine E.G.buildSlice [.int .i64 41, .int .i64 57, .int .i64 73] (by kernel_rfl) (by kernel_rfl) (fun g136 => ?_)
  refine E.G.append (e := 3) 1 g131 61 c132 0 g136 0 3 3 1 8 R2.c61 r133 [.int .i64 41, .int .i64 57, .int .i64 73] _ (by kernel_rfl) (by kernel_rfl) (by kernel_rfl) rfl (by kernel_rfl) (by first | rfl | omega | assumption) (by first | omega | decide) (by kernel_rfl) rfl (by kernel_rfl) rfl (by rfl) (by omega) (by omega) (by omega) (by kernel_rfl) (fun g137 c138 r139 hc140 hr141 => ?_)
  refine E.G.relist [(g137, (R2.c64 ++ r139)), (g136, [.int .i64 41, .int .i64 57, .int .i64 73]), (g130, [.int .i64 40, .int .i64 56, .int .i64 72]), (g118, [.int .i64 86, .int .i64 94]), (g100, [.int .i64 21]), (g2, [.int .i64 0, .int .i64 0, .int .i64 0, .int .i64 0, .int .i64 0, .int .u32 0, .int .i64 0]), (g1, [.int .i64 a, .int .i64 b, .int .i64 c, .int .i64 x, .int .i64 y])] (by kernel_rfl) ?_
  refine E.G.op (.slice (some ⟨g137, 0, none⟩) 64 c138) (fun w => by kernel_rfl) (by kernel_rfl) ?_
  refine E.To.code ?_
  refine E.C.seq ?_
  refine E.C.seq ?_
  refine E.C.region ?_
  refine E.G.op (.int .i64 9) (fun w => by kernel_rfl) (by kernel_rfl) ?_
  refine E.G.op (.bool false) (fun w => by kernel_rfl) (by kernel_rfl) ?_
  refine E.To.code ?_
  refine E.C.condF (by kernel_rfl) (by kernel_rfl) ?_
  refine E.C.skip (E.To.code ?_)
  refine E.C.seq ?_
  refine E.C.region ?_
  refine E.G.op (.int .i64 9) (fun w => by kernel_rfl) (by kernel_rfl) ?_
  refine E.G.op (.bool false) (fun w => by kernel_rfl) (by kernel_rfl) ?_
  refine E.To.code ?_
  refine E.C.condF (by kernel_rfl) (by kernel_rfl) ?_
  refine E.C.skip (E.P.nb (E.To.code ?_))
  refine E.C.region ?_
  refine E.G.op (.int .i64 9) (fun w => by kernel_rfl) (by kernel_rfl) ?_
  refine E.G.op (.int .i64 10) (fun w => by kernel_rfl) (by kernel_rfl) ?_
  refine E.G.op (.int .i64 10) (fun w => by kernel_rfl) (by kernel_rfl) ?_
  refine E.To.rounds 5 ?_
  refine E.C.weak [(1, .pointer (some ⟨g1, 0, none⟩)), (2, .pointer (some ⟨g2, 0, none⟩)), (3, .slice (some ⟨g137, 0, none⟩) 64 c138), (4, .int .i64 10), (9, .int .i64 9), (10, .bool true), (11, .int .i64 9), (12, .int .i64 10), (13, .slice (some ⟨g131, 0, none⟩) 61 c132), (14, .int .i64 9), (15, .int .i64 41), (16, .int .i64 9), (17, .int .i64 57), (18, .int .i64 9), (19, .int .i64 73), (20, .slice (some ⟨g136, 0, none⟩) 3 3), (21, .slice (some ⟨g137, 0, none⟩) 64 c138), (22, .int .i64 9), (23, .bool false), (24, .slice (some ⟨g95, 0, none⟩) 47 c96), (25, .int .i64 5), (26, .int .i64 21), (27, .slice (some ⟨g100, 0, none⟩) 1 1), (28, .slice (some ⟨g101, 0, none⟩) 48 c102), (29, .int .i64 9), (30, .bool false), (31, .slice (some ⟨g113, 0, none⟩) 53 c114), (32, .int .i64 6), (33, .int .i64 86), (34, .int .i64 6), (35, .int .i64 94), (36, .slice (some ⟨g118, 0, none⟩) 2 2), (37, .slice (some ⟨g119, 0, none⟩) 55 c120)] [(g137, (R2.c64 ++ r139)), (g136, [.int .i64 41, .int .i64 57, .int .i64 73]), (g118, [.int .i64 86, .int .i64 94]), (g100, [.int .i64 21]), (g2, [.int .i64 0, .int .i64 0, .int .i64 0, .int .i64 0, .int .i64 0, .int .u32 0, .int .i64 0]), (g1, [.int .i64 a, .int .i64 b, .int .i64 c, .int .i64 x, .int .i64 y])] ⟨by kernel_rfl, by kernel_rfl⟩ (List.Sublist.cons_cons _ (List.Sublist.cons_cons _ (List.Sublist.cons _ (List.Sublist.refl _)))) ?_
  refine E.C.seq ?_
  refine E.C.seq ?_
  refine E.C.region ?_
  refine E.G.op (.int .i64 10) (fun w => by kernel_rfl) (by kernel_rfl) ?_
  refine E.G.op (.bool true) (fun w => by kernel_rfl) (by kernel_rfl) ?_
  refine E.To.code ?_
  refine E.C.condT (by kernel_rfl) (by kernel_rfl) ?_
  refine E.C.skip (E.To.code ?_)
  refine E.C.seq ?_
  refine E.C.block ?_
  refine E.C.seq ?_
  refine E.C.region ?_
  refine E.G.op (.slice (some ⟨g137, 0, none⟩) 64 c138) (fun w => by kernel_rfl) (by kernel_rfl) ?_
  refine E.G.op (.int .i64 10) (fun w => by kernel_rfl) (by kernel_rfl) ?_
  refine E.G.op (.int .i64 42) (fun w => by kernel_rfl) (by kernel_rfl) ?_
  refine E.G.op (.int .i64 10) (fun w => by kernel_rfl) (by kernel_rfl) ?_
  refine E.G.op (.int .i64 58) (fun w => by kernel_rfl) (by kernel_rfl) ?_
  refine E.G.op (.int .i64 10) (fun w => by kernel_rfl) (by kernel_rfl) ?_
  refine E.G.op (.int .i64 74) (fun w => by kernel_rfl) (by kernel_rfl) ?_
  refine E.G.buildSlice [.int .i64 42, .int .i64 58, .int .i64 74] (by kernel_rfl) (by kernel_rfl) (fun g142 => ?_)
  refine E.G.append (e := 3) 1 g137 64 c138 0 g142 0 3 3 1 8 R2.c64 r139 [.int .i64 42, .int .i64 58, .int .i64 74] _ (by kernel_rfl) (by kernel_rfl) (by kernel_rfl) rfl (by kernel_rfl) (by first | rfl | omega | assumption) (by first | omega | decide) (by kernel_rfl) rfl (by kernel_rfl) rfl (by rfl) (by omega) (by omega) (by omega) (by kernel_rfl) (fun g143 c144 r145 hc146 hr147 => ?_)
  refine E.G.relist [(g143, (R2.c67 ++ r145)), (g142, [.int .i64 42, .int .i64 58, .int .i64 74]), (g136, [.int .i64 41, .int .i64 57, .int .i64 73]), (g118, [.int .i64 86, .int .i64 94]), (g100, [.int .i64 21]), (g2, [.int .i64 0, .int .i64 0, .int .i64 0, .int .i64 0, .int .i64 0, .int .u32 0, .int .i64 0]), (g1, [.int .i64 a, .int .i64 b, .int .i64 c, .int .i64 x, .int .i64 y])] (by kernel_rfl) ?_
  refine E.G.op (.slice (some ⟨g143, 0, none⟩) 67 c144) (fun w => by kernel_rfl) (by kernel_rfl) ?_
  refine E.To.code ?_
  refine E.C.seq ?_
  refine E.C.seq ?_
  refine E.C.region ?_
  refine E.G.op (.int .i64 10) (fun w => by kernel_rfl) (by kernel_rfl) ?_
  refine E.G.op (.bool false) (fun w => by kernel_rfl) (by kernel_rfl) ?_
  refine E.To.code ?_
  refine E.C.condF (by kernel_rfl) (by kernel_rfl) ?_
  refine E.C.skip (E.To.code ?_)
  refine E.C.seq ?_
  refine E.C.region ?_
  refine E.G.op (.int .i64 10) (fun w => by kernel_rfl) (by kernel_rfl) ?_
  refine E.G.op (.bool false) (fun w => by kernel_rfl) (by kernel_rfl) ?_
  refine E.To.code ?_
  refine E.C.condF (by kernel_rfl) (by kernel_rfl) ?_
  refine E.C.skip (E.P.nb (E.To.code ?_))
  refine E.C.region ?_
  refine E.G.op (.int .i64 10) (fun w => by kernel_rfl) (by kernel_rfl) ?_
  refine E.G.op (.int .i64 11) (fun w => by kernel_rfl) (by kernel_rfl) ?_
  refine E.G.op (.int .i64 11) (fun w => by kernel_rfl) (by kernel_rfl) ?_
  refine E.To.rounds 4 ?_
  refine E.C.weak [(1, .pointer (some ⟨g1, 0, none⟩)), (2, .pointer (some ⟨g2, 0, none⟩)), (3, .slice (some ⟨g143, 0, none⟩) 67 c144), (4, .int .i64 11), (9, .int .i64 10), (10, .bool true), (11, .int .i64 10), (12, .int .i64 11), (13, .slice (some ⟨g137, 0, none⟩) 64 c138), (14, .int .i64 10), (15, .int .i64 42), (16, .int .i64 10), (17, .int .i64 58), (18, .int .i64 10), (19, .int .i64 74), (20, .slice (some ⟨g142, 0, none⟩) 3 3), (21, .slice (some ⟨g143, 0, none⟩) 67 c144), (22, .int .i64 10), (23, .bool false), (24, .slice (some ⟨g95, 0, none⟩) 47 c96), (25, .int .i64 5), (26, .int .i64 21), (27, .slice (some ⟨g100, 0, none⟩) 1 1), (28, .slice (some ⟨g101, 0, none⟩) 48 c102), (29, .int .i64 10), (30, .bool false), (31, .slice (some ⟨g113, 0, none⟩) 53 c114), (32, .int .i64 6), (33, .int .i64 86), (34, .int .i64 6), (35, .int .i64 94), (36, .slice (some ⟨g118, 0, none⟩) 2 2), (37, .slice (some ⟨g119, 0, none⟩) 55 c120)] [(g143, (R2.c67 ++ r145)), (g142, [.int .i64 42, .int .i64 58, .int .i64 74]), (g118, [.int .i64 86, .int .i64 94]), (g100, [.int .i64 21]), (g2, [.int .i64 0, .int .i64 0, .int .i64 0, .int .i64 0, .int .i64 0, .int .u32 0, .int .i64 0]), (g1, [.int .i64 a, .int .i64 b, .int .i64 c, .int .i64 x, .int .i64 y])] ⟨by kernel_rfl, by kernel_rfl⟩ (List.Sublist.cons_cons _ (List.Sublist.cons_cons _ (List.Sublist.cons _ (List.Sublist.refl _)))) ?_
  refine E.C.seq ?_
  refine E.C.seq ?_
  refine E.C.region ?_
  refine E.G.op (.int .i64 11) (fun w => by kernel_rfl) (by kernel_rfl) ?_
  refine E.G.op (.bool true) (fun w => by kernel_rfl) (by kernel_rfl) ?_
  refine E.To.code ?_
  refine E.C.condT (by kernel_rfl) (by kernel_rfl) ?_
  refine E.C.skip (E.To.code ?_)
  refine E.C.seq ?_
  refine E.C.block ?_
  refine E.C.seq ?_
  refine E.C.region ?_
  refine E.G.op (.slice (some ⟨g143, 0, none⟩) 67 c144) (fun w => by kernel_rfl) (by kernel_rfl) ?_
  refine E.G.op (.int .i64 11) (fun w => by kernel_rfl) (by kernel_rfl) ?_
  refine E.G.op (.int .i64 43) (fun w => by kernel_rfl) (by kernel_rfl) ?_
  refine E.G.op (.int .i64 11) (fun w => by kernel_rfl) (by kernel_rfl) ?_
  refine E.G.op (.int .i64 59) (fun w => by kernel_rfl) (by kernel_rfl) ?_
  refine E.G.op (.int .i64 11) (fun w => by kernel_rfl) (by kernel_rfl) ?_
  refine E.G.op (.int .i64 75) (fun w => by kernel_rfl) (by kernel_rfl) ?_
  refine E.G.buildSlice [.int .i64 43, .int .i64 59, .int .i64 75] (by kernel_rfl) (by kernel_rfl) (fun g148 => ?_)
  refine E.G.append (e := 3) 1 g143 67 c144 0 g148 0 3 3 1 8 R2.c67 r145 [.int .i64 43, .int .i64 59, .int .i64 75] _ (by kernel_rfl) (by kernel_rfl) (by kernel_rfl) rfl (by kernel_rfl) (by first | rfl | omega | assumption) (by first | omega | decide) (by kernel_rfl) rfl (by kernel_rfl) rfl (by rfl) (by omega) (by omega) (by omega) (by kernel_rfl) (fun g149 c150 r151 hc152 hr153 => ?_)
  refine E.G.relist [(g149, (R2.c70 ++ r151)), (g148, [.int .i64 43, .int .i64 59, .int .i64 75]), (g142, [.int .i64 42, .int .i64 58, .int .i64 74]), (g118, [.int .i64 86, .int .i64 94]), (g100, [.int .i64 21]), (g2, [.int .i64 0, .int .i64 0, .int .i64 0, .int .i64 0, .int .i64 0, .int .u32 0, .int .i64 0]), (g1, [.int .i64 a, .int .i64 b, .int .i64 c, .int .i64 x, .int .i64 y])] (by kernel_rfl) ?_
  refine E.G.op (.slice (some ⟨g149, 0, none⟩) 70 c150) (fun w => by kernel_rfl) (by kernel_rfl) ?_
  refine E.To.code ?_
  refine E.C.seq ?_
  refine E.C.seq ?_
  refine E.C.region ?_
  refine E.G.op (.int .i64 11) (fun w => by kernel_rfl) (by kernel_rfl) ?_
  refine E.G.op (.bool false) (fun w => by kernel_rfl) (by kernel_rfl) ?_
  refine E.To.code ?_
  refine E.C.condF (by kernel_rfl) (by kernel_rfl) ?_
  refine E.C.skip (E.To.code ?_)
  refine E.C.seq ?_
  refine E.C.region ?_
  refine E.G.op (.int .i64 11) (fun w => by kernel_rfl) (by kernel_rfl) ?_
  refine E.G.op (.bool false) (fun w => by kernel_rfl) (by kernel_rfl) ?_
  refine E.To.code ?_
  refine E.C.condF (by kernel_rfl) (by kernel_rfl) ?_
  refine E.C.skip (E.P.nb (E.To.code ?_))
  refine E.C.region ?_
  refine E.G.op (.int .i64 11) (fun w => by kernel_rfl) (by kernel_rfl) ?_
  refine E.G.op (.int .i64 12) (fun w => by kernel_rfl) (by kernel_rfl) ?_
  refine E.G.op (.int .i64 12) (fun w => by kernel_rfl) (by kernel_rfl) ?_
  refine E.To.rounds 3 ?_
  refine E.C.weak [(1, .pointer (some ⟨g1, 0, none⟩)), (2, .pointer (some ⟨g2, 0, none⟩)), (3, .slice (some ⟨g149, 0, none⟩) 70 c150), (4, .int .i64 12), (9, .int .i64 11), (10, .bool true), (11, .int .i64 11), (12, .int .i64 12), (13, .slice (some ⟨g143, 0, none⟩) 67 c144), (14, .int .i64 11), (15, .int .i64 43), (16, .int .i64 11), (17, .int .i64 59), (18, .int .i64 11), (19, .int .i64 75), (20, .slice (some ⟨g148, 0, none⟩) 3 3), (21, .slice (some ⟨g149, 0, none⟩) 70 c150), (22, .int .i64 11), (23, .bool false), (24, .slice (some ⟨g95, 0, none⟩) 47 c96), (25, .int .i64 5), (26, .int .i64 21), (27, .slice (some ⟨g100, 0, none⟩) 1 1), (28, .slice (some ⟨g101, 0, none⟩) 48 c102), (29, .int .i64 11), (30, .bool false), (31, .slice (some ⟨g113, 0, none⟩) 53 c114), (32, .int .i64 6), (33, .int .i64 86), (34, .int .i64 6), (35, .int .i64 94), (36, .slice (some ⟨g118, 0, none⟩) 2 2), (37, .slice (some ⟨g119, 0, none⟩) 55 c120)] [(g149, (R2.c70 ++ r151)), (g148, [.int .i64 43, .int .i64 59, .int .i64 75]), (g118, [.int .i64 86, .int .i64 94]), (g100, [.int .i64 21]), (g2, [.int .i64 0, .int .i64 0, .int .i64 0, .int .i64 0, .int .i64 0, .int .u32 0, .int .i64 0]), (g1, [.int .i64 a, .int .i64 b, .int .i64 c, .int .i64 x, .int .i64 y])] ⟨by kernel_rfl, by kernel_rfl⟩ (List.Sublist.cons_cons _ (List.Sublist.cons_cons _ (List.Sublist.cons _ (List.Sublist.refl _)))) ?_
  refine E.C.seq ?_
  refine E.C.seq ?_
  refine E.C.region ?_
  refine E.G.op (.int .i64 12) (fun w => by kernel_rfl) (by kernel_rfl) ?_
  refine E.G.op (.bool true) (fun w => by kernel_rfl) (by kernel_rfl) ?_
  refine E.To.code ?_
  refine E.C.condT (by kernel_rfl) (by kernel_rfl) ?_
  refine E.C.skip (E.To.code ?_)
  refine E.C.seq ?_
  refine E.C.block ?_
  refine E.C.seq ?_
  refine E.C.region ?_
  refine E.G.op (.slice (some ⟨g149, 0, none⟩) 70 c150) (fun w => by kernel_rfl) (by kernel_rfl) ?_
  refine E.G.op (.int .i64 12) (fun w => by kernel_rfl) (by kernel_rfl) ?_
  refine E.G.op (.int .i64 44) (fun w => by kernel_rfl) (by kernel_rfl) ?_
  refine E.G.op (.int .i64 12) (fun w => by kernel_rfl) (by kernel_rfl) ?_
  refine E.G.op (.int .i64 60) (fun w => by kernel_rfl) (by kernel_rfl) ?_
  refine E.G.op (.int .i64 12) (fun w => by kernel_rfl) (by kernel_rfl) ?_
  refine E.G.op (.int .i64 76) (fun w => by kernel_rfl) (by kernel_rfl) ?_
  refine E.G.buildSlice [.int .i64 44, .int .i64 60, .int .i64 76] (by kernel_rfl) (by kernel_rfl) (fun g154 => ?_)
  refine E.G.append (e := 3) 1 g149 70 c150 0 g154 0 3 3 1 8 R2.c70 r151 [.int .i64 44, .int .i64 60, .int .i64 76] _ (by kernel_rfl) (by kernel_rfl) (by kernel_rfl) rfl (by kernel_rfl) (by first | rfl | omega | assumption) (by first | omega | decide) (by kernel_rfl) rfl (by kernel_rfl) rfl (by rfl) (by omega) (by omega) (by omega) (by kernel_rfl) (fun g155 c156 r157 hc158 hr159 => ?_)
  refine E.G.relist [(g155, (R2.c73 ++ r157)), (g154, [.int .i64 44, .int .i64 60, .int .i64 76]), (g148, [.int .i64 43, .int .i64 59, .int .i64 75]), (g118, [.int .i64 86, .int .i64 94]), (g100, [.int .i64 21]), (g2, [.int .i64 0, .int .i64 0, .int .i64 0, .int .i64 0, .int .i64 0, .int .u32 0, .int .i64 0]), (g1, [.int .i64 a, .int .i64 b, .int .i64 c, .int .i64 x, .int .i64 y])] (by kernel_rfl) ?_
  refine E.G.op (.slice (some ⟨g155, 0, none⟩) 73 c156) (fun w => by kernel_rfl) (by kernel_rfl) ?_
  refine E.To.code ?_
  refine E.C.seq ?_
  refine E.C.seq ?_
  refine E.C.region ?_
  refine E.G.op (.int .i64 12) (fun w => by kernel_rfl) (by kernel_rfl) ?_
  refine E.G.op (.bool false) (fun w => by kernel_rfl) (by kernel_rfl) ?_
  refine E.To.code ?_
  refine E.C.condF (by kernel_rfl) (by kernel_rfl) ?_
  refine E.C.skip (E.To.code ?_)
  refine E.C.seq ?_
  refine E.C.region ?_
  refine E.G.op (.int .i64 12) (fun w => by kernel_rfl) (by kernel_rfl) ?_
  refine E.G.op (.bool false) (fun w => by kernel_rfl) (by kernel_rfl) ?_
  refine E.To.code ?_
  refine E.C.condF (by kernel_rfl) (by kernel_rfl) ?_
  refine E.C.skip (E.P.nb (E.To.code ?_))
  refine E.C.region ?_
  refine E.G.op (.int .i64 12) (fun w => by kernel_rfl) (by kernel_rfl) ?_
  refine E.G.op (.int .i64 13) (fun w => by kernel_rfl) (by kernel_rfl) ?_
  refine E.G.op (.int .i64 13) (fun w => by kernel_rfl) (by kernel_rfl) ?_
  refine E.To.rounds 2 ?_
  refine E.C.weak [(1, .pointer (some ⟨g1, 0, none⟩)), (2, .pointer (some ⟨g2, 0, none⟩)), (3, .slice (some ⟨g155, 0, none⟩) 73 c156), (4, .int .i64 13), (9, .int .i64 12), (10, .bool true), (11, .int .i64 12), (12, .int .i64 13), (13, .slice (some ⟨g149, 0, none⟩) 70 c150), (14, .int .i64 12), (15, .int .i64 44), (16, .int .i64 12), (17, .int .i64 60), (18, .int .i64 12), (19, .int .i64 76), (20, .slice (some ⟨g154, 0, none⟩) 3 3), (21, .slice (some ⟨g155, 0, none⟩) 73 c156), (22, .int .i64 12), (23, .bool false), (24, .slice (some ⟨g95, 0, none⟩) 47 c96), (25, .int .i64 5), (26, .int .i64 21), (27, .slice (some ⟨g100, 0, none⟩) 1 1), (28, .slice (some ⟨g101, 0, none⟩) 48 c102), (29, .int .i64 12), (30, .bool false), (31, .slice (some ⟨g113, 0, none⟩) 53 c114), (32, .int .i64 6), (33, .int .i64 86), (34, .int .i64 6), (35, .int .i64 94), (36, .slice (some ⟨g118, 0, none⟩) 2 2), (37, .slice (some ⟨g119, 0, none⟩) 55 c120)] [(g155, (R2.c73 ++ r157)), (g154, [.int .i64 44, .int .i64 60, .int .i64 76]), (g118, [.int .i64 86, .int .i64 94]), (g100, [.int .i64 21]), (g2, [.int .i64 0, .int .i64 0, .int .i64 0, .int .i64 0, .int .i64 0, .int .u32 0, .int .i64 0]), (g1, [.int .i64 a, .int .i64 b, .int .i64 c, .int .i64 x, .int .i64 y])] ⟨by kernel_rfl, by kernel_rfl⟩ (List.Sublist.cons_cons _ (List.Sublist.cons_cons _ (List.Sublist.cons _ (List.Sublist.refl _)))) ?_
  refine E.C.seq ?_
  refine E.C.seq ?_
  refine E.C.region ?_
  refine E.G.op (.int .i64 13) (fun w => by kernel_rfl) (by kernel_rfl) ?_
  refine E.G.op (.bool true) (fun w => by kernel_rfl) (by kernel_rfl) ?_
  refine E.To.code ?_
  refine E.C.condT (by kernel_rfl) (by kernel_rfl) ?_
  refine E.C.skip (E.To.code ?_)
  refine E.C.seq ?_
  refine E.C.block ?_
  refine E.C.seq ?_
  refine E.C.region ?_
  refine E.G.op (.slice (some ⟨g155, 0, none⟩) 73 c156) (fun w => by kernel_rfl) (by kernel_rfl) ?_
  refine E.G.op (.int .i64 13) (fun w => by kernel_rfl) (by kernel_rfl) ?_
  refine E.G.op (.int .i64 45) (fun w => by kernel_rfl) (by kernel_rfl) ?_
  refine E.G.op (.int .i64 13) (fun w => by kernel_rfl) (by kernel_rfl) ?_
  refine E.G.op (.int .i64 61) (fun w => by kernel_rfl) (by kernel_rfl) ?_
  refine E.G.op (.int .i64 13) (fun w => by kernel_rfl) (by kernel_rfl) ?_
  refine E.G.op (.int .i64 77) (fun w => by kernel_rfl) (by kernel_rfl) ?_
  refine E.G.buildSlice [.int .i64 45, .int .i64 61, .int .i64 77] (by kernel_rfl) (by kernel_rfl) (fun g160 => ?_)
  refine E.G.append (e := 3) 1 g155 73 c156 0 g160 0 3 3 1 8 R2.c73 r157 [.int .i64 45, .int .i64 61, .int .i64 77] _ (by kernel_rfl) (by kernel_rfl) (by kernel_rfl) rfl (by kernel_rfl) (by first | rfl | omega | assumption) (by first | omega | decide) (by kernel_rfl) rfl (by kernel_rfl) rfl (by rfl) (by omega) (by omega) (by omega) (by kernel_rfl) (fun g161 c162 r163 hc164 hr165 => ?_)
  refine E.G.relist [(g161, (R2.c76 ++ r163)), (g160, [.int .i64 45, .int .i64 61, .int .i64 77]), (g154, [.int .i64 44, .int .i64 60, .int .i64 76]), (g118, [.int .i64 86, .int .i64 94]), (g100, [.int .i64 21]), (g2, [.int .i64 0, .int .i64 0, .int .i64 0, .int .i64 0, .int .i64 0, .int .u32 0, .int .i64 0]), (g1, [.int .i64 a, .int .i64 b, .int .i64 c, .int .i64 x, .int .i64 y])] (by kernel_rfl) ?_
  refine E.G.op (.slice (some ⟨g161, 0, none⟩) 76 c162) (fun w => by kernel_rfl) (by kernel_rfl) ?_
  refine E.To.code ?_
  refine E.C.seq ?_
  refine E.C.seq ?_
  refine E.C.region ?_
  refine E.G.op (.int .i64 13) (fun w => by kernel_rfl) (by kernel_rfl) ?_
  refine E.G.op (.bool false) (fun w => by kernel_rfl) (by kernel_rfl) ?_
  refine E.To.code ?_
  refine E.C.condF (by kernel_rfl) (by kernel_rfl) ?_
  refine E.C.skip (E.To.code ?_)
  refine E.C.seq ?_
  refine E.C.region ?_
  refine E.G.op (.int .i64 13) (fun w => by kernel_rfl) (by kernel_rfl) ?_
  refine E.G.op (.bool false) (fun w => by kernel_rfl) (by kernel_rfl) ?_
  refine E.To.code ?_
  refine E.C.condF (by kernel_rfl) (by kernel_rfl) ?_
  refine E.C.skip (E.P.nb (E.To.code ?_))
  refine E.C.region ?_
  refine E.G.op (.int .i64 13) (fun w => by kernel_rfl) (by kernel_rfl) ?_
  refine E.G.op (.int .i64 14) (fun w => by kernel_rfl) (by kernel_rfl) ?_
  refine E.G.op (.int .i64 14) (fun w => by kernel_rfl) (by kernel_rfl) ?_
  refine E.To.rounds 1 ?_
  refine E.C.weak [(1, .pointer (some ⟨g1, 0, none⟩)), (2, .pointer (some ⟨g2, 0, none⟩)), (3, .slice (some ⟨g161, 0, none⟩) 76 c162), (4, .int .i64 14), (9, .int .i64 13), (10, .bool true), (11, .int .i64 13), (12, .int .i64 14), (13, .slice (some ⟨g155, 0, none⟩) 73 c156), (14, .int .i64 13), (15, .int .i64 45), (16, .int .i64 13), (17, .int .i64 61), (18, .int .i64 13), (19, .int .i64 77), (20, .slice (some ⟨g160, 0, none⟩) 3 3), (21, .slice (some ⟨g161, 0, none⟩) 76 c162), (22, .int .i64 13), (23, .bool false), (24, .slice (some ⟨g95, 0, none⟩) 47 c96), (25, .int .i64 5), (26, .int .i64 21), (27, .slice (some ⟨g100, 0, none⟩) 1 1), (28, .slice (some ⟨g101, 0, none⟩) 48 c102), (29, .int .i64 13), (30, .bool false), (31, .slice (some ⟨g113, 0, none⟩) 53 c114), (32, .int .i64 6), (33, .int .i64 86), (34, .int .i64 6), (35, .int .i64 94), (36, .slice (some ⟨g118, 0, none⟩) 2 2), (37, .slice (some ⟨g119, 0, none⟩) 55 c120)] [(g161, (R2.c76 ++ r163)), (g160, [.int .i64 45, .int .i64 61, .int .i64 77]), (g118, [.int .i64 86, .int .i64 94]), (g100, [.int .i64 21]), (g2, [.int .i64 0, .int .i64 0, .int .i64 0, .int .i64 0, .int .i64 0, .int .u32 0, .int .i64 0]), (g1, [.int .i64 a, .int .i64 b, .int .i64 c, .int .i64 x, .int .i64 y])] ⟨by kernel_rfl, by kernel_rfl⟩ (List.Sublist.cons_cons _ (List.Sublist.cons_cons _ (List.Sublist.cons _ (List.Sublist.refl _)))) ?_
  refine E.C.seq ?_
  refine E.C.seq ?_
  refine E.C.region ?_
  refine E.G.op (.int .i64 14) (fun w => by kernel_rfl) (by kernel_rfl) ?_
  refine E.G.op (.bool true) (fun w => by kernel_rfl) (by kernel_rfl) ?_
  refine E.To.code ?_
  refine E.C.condT (by kernel_rfl) (by kernel_rfl) ?_
  refine E.C.skip (E.To.code ?_)
  refine E.C.seq ?_
  refine E.C.block ?_
  refine E.C.seq ?_
  refine E.C.region ?_
  refine E.G.op (.slice (some ⟨g161, 0, none⟩) 76 c162) (fun w => by kernel_rfl) (by kernel_rfl) ?_
  refine E.G.op (.int .i64 14) (fun w => by kernel_rfl) (by kernel_rfl) ?_
  refine E.G.op (.int .i64 46) (fun w => by kernel_rfl) (by kernel_rfl) ?_
  refine E.G.op (.int .i64 14) (fun w => by kernel_rfl) (by kernel_rfl) ?_
  refine E.G.op (.int .i64 62) (fun w => by kernel_rfl) (by kernel_rfl) ?_
  refine E.G.op (.int .i64 14) (fun w => by kernel_rfl) (by kernel_rfl) ?_
  refine E.G.op (.int .i64 78) (fun w => by kernel_rfl) (by kernel_rfl) ?_
  refine E.G.buildSlice [.int .i64 46, .int .i64 62, .int .i64 78] (by kernel_rfl) (by kernel_rfl) (fun g166 => ?_)
  refine E.G.append (e := 3) 1 g161 76 c162 0 g166 0 3 3 1 8 R2.c76 r163 [.int .i64 46, .int .i64 62, .int .i64 78] _ (by kernel_rfl) (by kernel_rfl) (by kernel_rfl) rfl (by kernel_rfl) (by first | rfl | omega | assumption) (by first | omega | decide) (by kernel_rfl) rfl (by kernel_rfl) rfl (by rfl) (by omega) (by omega) (by omega) (by kernel_rfl) (fun g167 c168 r169 hc170 hr171 => ?_)
  refine E.G.relist [(g167, (R2.c79 ++ r169)), (g166, [.int .i64 46, .int .i64 62, .int .i64 78]), (g160, [.int .i64 45, .int .i64 61, .int .i64 77]), (g118, [.int .i64 86, .int .i64 94]), (g100, [.int .i64 21]), (g2, [.int .i64 0, .int .i64 0, .int .i64 0, .int .i64 0, .int .i64 0, .int .u32 0, .int .i64 0]), (g1, [.int .i64 a, .int .i64 b, .int .i64 c, .int .i64 x, .int .i64 y])] (by kernel_rfl) ?_
  refine E.G.op (.slice (some ⟨g167, 0, none⟩) 79 c168) (fun w => by kernel_rfl) (by kernel_rfl) ?_
  refine E.To.code ?_
  refine E.C.seq ?_
  refine E.C.seq ?_
  refine E.C.region ?_
  refine E.G.op (.int .i64 14) (fun w => by kernel_rfl) (by kernel_rfl) ?_
  refine E.G.op (.bool false) (fun w => by kernel_rfl) (by kernel_rfl) ?_
  refine E.To.code ?_
  refine E.C.condF (by kernel_rfl) (by kernel_rfl) ?_
  refine E.C.skip (E.To.code ?_)
  refine E.C.seq ?_
  refine E.C.region ?_
  refine E.G.op (.int .i64 14) (fun w => by kernel_rfl) (by kernel_rfl) ?_
  refine E.G.op (.bool false) (fun w => by kernel_rfl) (by kernel_rfl) ?_
  refine E.To.code ?_
  refine E.C.condF (by kernel_rfl) (by kernel_rfl) ?_
  refine E.C.skip (E.P.nb (E.To.code ?_))
  refine E.C.region ?_
  refine E.G.op (.int .i64 14) (fun w => by kernel_rfl) (by kernel_rfl) ?_
  refine E.G.op (.int .i64 15) (fun w => by kernel_rfl) (by kernel_rfl) ?_
  refine E.G.op (.int .i64 15) (fun w => by kernel_rfl) (by kernel_rfl) ?_
  refine E.To.rounds 0 ?_
  refine E.C.weak [(1, .pointer (some ⟨g1, 0, none⟩)), (2, .pointer (some ⟨g2, 0, none⟩)), (3, .slice (some ⟨g167, 0, none⟩) 79 c168), (4, .int .i64 15), (9, .int .i64 14), (10, .bool true), (11, .int .i64 14), (12, .int .i64 15), (13, .slice (some ⟨g161, 0, none⟩) 76 c162), (14, .int .i64 14), (15, .int .i64 46), (16, .int .i64 14), (17, .int .i64 62), (18, .int .i64 14), (19, .int .i64 78), (20, .slice (some ⟨g166, 0, none⟩) 3 3), (21, .slice (some ⟨g167, 0, none⟩) 79 c168), (22, .int .i64 14), (23, .bool false), (24, .slice (some ⟨g95, 0, none⟩) 47 c96), (25, .int .i64 5), (26, .int .i64 21), (27, .slice (some ⟨g100, 0, none⟩) 1 1), (28, .slice (some ⟨g101, 0, none⟩) 48 c102), (29, .int .i64 14), (30, .bool false), (31, .slice (some ⟨g113, 0, none⟩) 53 c114), (32, .int .i64 6), (33, .int .i64 86), (34, .int .i64 6), (35, .int .i64 94), (36, .slice (some ⟨g118, 0, none⟩) 2 2), (37, .slice (some ⟨g119, 0, none⟩) 55 c120)] [(g167, (R2.c79 ++ r169)), (g166, [.int .i64 46, .int .i64 62, .int .i64 78]), (g118, [.int .i64 86, .int .i64 94]), (g100, [.int .i64 21]), (g2, [.int .i64 0, .int .i64 0, .int .i64 0, .int .i64 0, .int .i64 0, .int .u32 0, .int .i64 0]), (g1, [.int .i64 a, .int .i64 b, .int .i64 c, .int .i64 x, .int .i64 y])] ⟨by kernel_rfl, by kernel_rfl⟩ (List.Sublist.cons_cons _ (List.Sublist.cons_cons _ (List.Sublist.cons _ (List.Sublist.refl _)))) ?_
  refine E.C.seq ?_
  refine E.C.seq ?_
  refine E.C.region ?_
  refine E.G.op (.int .i64 15) (fun w => by kernel_rfl) (by kernel_rfl) ?_
  refine E.G.op (.bool false) (fun w => by kernel_rfl) (by kernel_rfl) ?_
  refine E.To.code ?_
  refine E.C.condF (by kernel_rfl) (by kernel_rfl) ?_
  refine E.C.exit (E.P.et (E.P.et (E.P.eh (E.To.code ?_))))
  refine E.C.weak [(1, .pointer (some ⟨g1, 0, none⟩)), (2, .pointer (some ⟨g2, 0, none⟩)), (3, .slice (some ⟨g167, 0, none⟩) 79 c168)] [(g167, (R2.c79 ++ r169)), (g2, [.int .i64 0, .int .i64 0, .int .i64 0, .int .i64 0, .int .i64 0, .int .u32 0, .int .i64 0]), (g1, [.int .i64 a, .int .i64 b, .int .i64 c, .int .i64 x, .int .i64 y])] ⟨by kernel_rfl, by kernel_rfl⟩ (List.Sublist.cons_cons _ (List.Sublist.cons _ (List.Sublist.cons _ (List.Sublist.cons _ (List.Sublist.refl _))))) ?_
  refine E.C.seq ?_
  refine E.C.region ?_
  refine E.G.op (.pointer (some ⟨g1, 0, none⟩)) (fun w => by kernel_rfl) (by kernel_rfl) ?_
  refine E.G.val (.int .i64 a) (by kernel_rfl) (fun w h => E.run_load h 2 rfl rfl (by kernel_rfl)) ?_
  refine E.G.op (.int .i64 (bits .and .i64 a 65535)) (fun w => by kernel_rfl) (by kernel_rfl) ?_
  refine E.G.op (.slice (some ⟨g167, 0, none⟩) 79 c168) (fun w => by kernel_rfl) (by kernel_rfl) ?_
  refine E.G.op (.int .i64 79) (fun w => by kernel_rfl) (by kernel_rfl) ?_
  refine E.G.op (.int .i64 (R2.ix a)) (fun w => by kernel_rfl) (by kernel_rfl) ?_
  refine E.G.op (.int .i64 (R2.ix a)) (fun w => by kernel_rfl) (by kernel_rfl) ?_
  refine E.To.code ?_
  refine E.C.seq ?_
  refine E.C.held (E.Hp (fun _ => False) w (fun _ => True) [(g167, (R2.c79 ++ r169)), (g2, [.int .i64 0, .int .i64 0, .int .i64 0, .int .i64 0, .int .i64 0, .int .u32 0, .int .i64 0]), (g1, [.int .i64 a, .int .i64 b, .int .i64 c, .int .i64 x, .int .i64 y])]) (by kernel_rfl) ?_
  refine E.H.take 0 (.slice (some ⟨g167, 0, none⟩) 79 c168) rfl (by kernel_rfl) (by kernel_rfl) (by kernel_rfl) (fun _ _ _ h => h) (fun w h => h) (.inl ⟨by kernel_rfl, by kernel_rfl, fun w h => by kernel_rfl⟩) (by kernel_rfl) ?_
  refine E.H.take 1 (.int .i64 (R2.ix a)) rfl (by kernel_rfl) (by kernel_rfl) (by kernel_rfl) (fun _ _ _ h => h) (fun w h => h) (.inl ⟨by kernel_rfl, by kernel_rfl, fun w h => by kernel_rfl⟩) (by kernel_rfl) ?_
  refine E.H.take 2 (.pointer (some ⟨g167, 0 + ((R2.ix a)).toNat * 1, none⟩)) rfl (by kernel_rfl) (by kernel_rfl) (by kernel_rfl) (fun _ _ _ h => h) (fun w h => h) (.inl ⟨by kernel_rfl, by kernel_rfl, fun w h => E.idxS (e := 3) g167 0 79 c168 1 .i64 ((R2.ix a)) (by kernel_rfl) (by kernel_rfl) (by kernel_rfl) (by kernel_rfl) (by omega) (by omega) w⟩) (by kernel_rfl) ?_
  refine E.H.take 3 (.int .i64 (R2.opAt (R2.ix a))) rfl (by kernel_rfl) (by kernel_rfl) (by kernel_rfl) (fun _ _ _ h => h) (fun w h => h) (.inl ⟨by kernel_rfl, by kernel_rfl, fun w h => E.run_load h 0 rfl rfl (E.ld_rowA (xs := R2.ops) (by kernel_rfl) (by rw [R2.ops_len]; omega))⟩) (by kernel_rfl) ?_
  refine E.H.take 4 (.slice (some ⟨g167, 0, none⟩) 79 c168) rfl (by kernel_rfl) (by kernel_rfl) (by kernel_rfl) (fun _ _ _ h => h) (fun w h => h) (.inl ⟨by kernel_rfl, by kernel_rfl, fun w h => by kernel_rfl⟩) (by kernel_rfl) ?_
  refine E.H.take 5 (.int .i64 (R2.ix a)) rfl (by kernel_rfl) (by kernel_rfl) (by kernel_rfl) (fun _ _ _ h => h) (fun w h => h) (.inl ⟨by kernel_rfl, by kernel_rfl, fun w h => by kernel_rfl⟩) (by kernel_rfl) ?_
  refine E.H.take 6 (.pointer (some ⟨g167, 0 + ((R2.ix a)).toNat * 1, none⟩)) rfl (by kernel_rfl) (by kernel_rfl) (by kernel_rfl) (fun _ _ _ h => h) (fun w h => h) (.inl ⟨by kernel_rfl, by kernel_rfl, fun w h => E.idxS (e := 3) g167 0 79 c168 1 .i64 ((R2.ix a)) (by kernel_rfl) (by kernel_rfl) (by kernel_rfl) (by kernel_rfl) (by omega) (by omega) w⟩) (by kernel_rfl) ?_
  refine E.H.take 7 (.int .i64 (R2.opAt (R2.ix a))) rfl (by kernel_rfl) (by kernel_rfl) (by kernel_rfl) (fun _ _ _ h => h) (fun w h => h) (.inl ⟨by kernel_rfl, by kernel_rfl, fun w h => E.run_load h 0 rfl rfl (E.ld_rowA (xs := R2.ops) (by kernel_rfl) (by rw [R2.ops_len]; omega))⟩) (by kernel_rfl) ?_
  refine E.H.take 8 (.int .u8 (IntKind.wrap .u8 (R2.opAt (R2.ix a)))) rfl (by kernel_rfl) (by kernel_rfl) (by kernel_rfl) (fun _ _ _ h => h) (fun w h => h) (.inl ⟨by kernel_rfl, by kernel_rfl, fun w h => by kernel_rfl⟩) (by kernel_rfl) ?_
  refine E.H.take 10 (.pointer (some ⟨g1, 1, none⟩)) rfl (by kernel_rfl) (by kernel_rfl) (by kernel_rfl) (fun _ _ _ h => h) (fun w h => h) (.inl ⟨by kernel_rfl, by kernel_rfl, fun w h => by kernel_rfl⟩) (by kernel_rfl) ?_
  refine E.H.take 11 (.int .i64 b) rfl (by kernel_rfl) (by kernel_rfl) (by kernel_rfl) (fun _ _ _ h => h) (fun w h => h) (.inl ⟨by kernel_rfl, by kernel_rfl, fun w h => E.run_load h 2 rfl rfl (by kernel_rfl)⟩) (by kernel_rfl) ?_
  refine E.H.take 12 (.int .i64 (bits .and .i64 b 7)) rfl (by kernel_rfl) (by kernel_rfl) (by kernel_rfl) (fun _ _ _ h => h) (fun w h => h) (.inl ⟨by kernel_rfl, by kernel_rfl, fun w h => by kernel_rfl⟩) (by kernel_rfl) ?_
  refine E.H.take 13 (.pointer (some ⟨g1, 2, none⟩)) rfl (by kernel_rfl) (by kernel_rfl) (by kernel_rfl) (fun _ _ _ h => h) (fun w h => h) (.inl ⟨by kernel_rfl, by kernel_rfl, fun w h => by kernel_rfl⟩) (by kernel_rfl) ?_
  refine E.H.take 14 (.int .i64 c) rfl (by kernel_rfl) (by kernel_rfl) (by kernel_rfl) (fun _ _ _ h => h) (fun w h => h) (.inl ⟨by kernel_rfl, by kernel_rfl, fun w h => E.run_load h 2 rfl rfl (by kernel_rfl)⟩) (by kernel_rfl) ?_
  refine E.H.take 15 (.int .i64 (bits .and .i64 c 7)) rfl (by kernel_rfl) (by kernel_rfl) (by kernel_rfl) (fun _ _ _ h => h) (fun w h => h) (.inl ⟨by kernel_rfl, by kernel_rfl, fun w h => by kernel_rfl⟩) (by kernel_rfl) ?_
  refine E.H.all [9, 17] (by kernel_rfl) (by simp) (List.forall_mem_cons.2 ⟨⟨_, rfl, ?_⟩, List.forall_mem_cons.2 ⟨⟨_, rfl, ?_⟩, fun _ h => (List.not_mem_nil h).elim⟩⟩)
  · skip
    refine E.G.call (.int .i64 (R2.Size (IntKind.wrap .u8 (R2.opAt (R2.ix a))))) (fun w h => R2_Size _ w) (fun w _ => by kernel_rfl) (by kernel_rfl) ?_
    refine E.H.back (fun w h => h) ?_
    refine E.H.take 16 (.agg #[.int .i64 (R2.opAt (R2.ix a)), .int .i64 (bits .and .i64 b 7), .int .i64 (bits .and .i64 c 7), .int .i64 (-1), .int .i64 0, .int .u32 0, .int .i64 (R2.Size (IntKind.wrap .u8 (R2.opAt (R2.ix a))))]) rfl (by kernel_rfl) (by kernel_rfl) (by kernel_rfl) (fun _ _ _ h => h) (fun w h => h) (.inl ⟨by kernel_rfl, by kernel_rfl, fun w h => E.run_build #[.int .i64 (R2.opAt (R2.ix a)), .int .i64 (bits .and .i64 b 7), .int .i64 (bits .and .i64 c 7), .int .i64 (-1), .int .i64 0, .int .u32 0, .int .i64 (R2.Size (IntKind.wrap .u8 (R2.opAt (R2.ix a))))] (by kernel_rfl) w⟩) (by kernel_rfl) ?_
    refine E.H.all [17] (by kernel_rfl) (by simp) (List.forall_mem_cons.2 ⟨⟨_, rfl, ?_⟩, fun _ h => (List.not_mem_nil h).elim⟩)
    · skip
      refine E.G.new (fun g => .pointer (some ⟨g, 0, none⟩)) [.int .i64 0, .int .i64 0, .int .i64 0, .int .i64 0, .int .i64 0, .int .u32 0, .int .i64 0] 27 (fun w => by kernel_rfl) (by kernel_rfl) (fun g172 => ?_)
      refine E.H.back (fun w h => h.less (List.Sublist.cons _ (List.Sublist.refl _))) ?_
      refine E.H.all [18] (by kernel_rfl) (by simp) (List.forall_mem_cons.2 ⟨⟨_, rfl, ?_⟩, fun _ h => (List.not_mem_nil h).elim⟩)
      · skip
        refine E.G.store 0 [.int .i64 (R2.opAt (R2.ix a)), .int .i64 (bits .and .i64 b 7), .int .i64 (bits .and .i64 c 7), .int .i64 (-1), .int .i64 0, .int .u32 0, .int .i64 (R2.Size (IntKind.wrap .u8 (R2.opAt (R2.ix a))))] rfl rfl (by kernel_rfl) (by kernel_rfl) ?_
        refine E.H.back (fun w h => h.less (List.Sublist.cons _ (List.Sublist.refl _))) ?_
        refine E.H.done (by kernel_rfl) ?_
        refine E.To.code ?_
        refine E.C.weak [(1, .pointer (some ⟨g1, 0, none⟩)), (2, .pointer (some ⟨g2, 0, none⟩)), (6, .pointer (some ⟨g172, 0, none⟩))] [(g172, [.int .i64 (R2.opAt (R2.ix a)), .int .i64 (bits .and .i64 b 7), .int .i64 (bits .and .i64 c 7), .int .i64 (-1), .int .i64 0, .int .u32 0, .int .i64 (R2.Size (IntKind.wrap .u8 (R2.opAt (R2.ix a))))]), (g2, [.int .i64 0, .int .i64 0, .int .i64 0, .int .i64 0, .int .i64 0, .int .u32 0, .int .i64 0]), (g1, [.int .i64 a, .int .i64 b, .int .i64 c, .int .i64 x, .int .i64 y])] ⟨by kernel_rfl, by kernel_rfl⟩ (List.Sublist.cons_cons _ (List.Sublist.cons _ (List.Sublist.refl _))) ?_
        refine E.C.seq ?_
        refine E.C.region ?_
        refine E.G.op (.pointer (some ⟨g1, 3, none⟩)) (fun w => by kernel_rfl) (by kernel_rfl) ?_
        refine E.G.val (.int .i64 x) (by kernel_rfl) (fun w h => E.run_load h 2 rfl rfl (by kernel_rfl)) ?_
        refine E.G.op (.int .u32 (IntKind.wrap .u32 x)) (fun w => by kernel_rfl) (by kernel_rfl) ?_
        refine E.G.op (.int .u32 (IntKind.wrap .u32 x)) (fun w => by kernel_rfl) (by kernel_rfl) ?_
        refine E.To.code ?_
        refine E.C.seq ?_
        refine E.C.seq ?_
        refine E.C.region ?_
        refine E.G.op (.pointer (some ⟨g172, 0, none⟩)) (fun w => by kernel_rfl) (by kernel_rfl) ?_
        refine E.G.val (.int .i64 (R2.opAt (R2.ix a))) (by kernel_rfl) (fun w h => E.run_load h 0 rfl rfl (by kernel_rfl)) ?_
        refine E.G.call (.int .i64 (R2.Format (R2.opAt (R2.ix a)))) (fun w h => R2_Format _ w) (fun w _ => by kernel_rfl) (by kernel_rfl) ?_
        refine E.To.code ?_
        refine E.C.block ?_
        refine E.C.seq ?_
        refine E.C.region ?_
        refine E.G.op (.bool ((R2.Format (R2.opAt (R2.ix a))) == 1)) (fun w => by kernel_rfl) (by kernel_rfl) ?_
        refine E.G.op (.bool ((R2.Format (R2.opAt (R2.ix a))) == 1)) (fun w => by kernel_rfl) (by kernel_rfl) ?_
        refine E.To.code ?_
        refine E.C.cond ((R2.Format (R2.opAt (R2.ix a))) == 1) (by kernel_rfl) (by kernel_rfl) (fun hc173 => ?_) (fun hc173 => ?_)
        · skip
          refine E.C.seq ?_
          refine E.C.region ?_
          refine E.G.op (.pointer (some ⟨g172, 1, none⟩)) (fun w => by kernel_rfl) (by kernel_rfl) ?_
          refine E.G.store 0 [.int .i64 (R2.opAt (R2.ix a)), .int .i64 0, .int .i64 (bits .and .i64 c 7), .int .i64 (-1), .int .i64 0, .int .u32 0, .int .i64 (R2.Size (IntKind.wrap .u8 (R2.opAt (R2.ix a))))] rfl rfl (by kernel_rfl) (by kernel_rfl) ?_
          refine E.To.code ?_
          refine E.C.weak [(2, .pointer (some ⟨g2, 0, none⟩)), (6, .pointer (some ⟨g172, 0, none⟩))] [(g172, [.int .i64 (R2.opAt (R2.ix a)), .int .i64 0, .int .i64 (bits .and .i64 c 7), .int .i64 (-1), .int .i64 0, .int .u32 0, .int .i64 (R2.Size (IntKind.wrap .u8 (R2.opAt (R2.ix a))))]), (g2, [.int .i64 0, .int .i64 0, .int .i64 0, .int .i64 0, .int .i64 0, .int .u32 0, .int .i64 0])] ⟨by kernel_rfl, by kernel_rfl⟩ (List.Sublist.cons_cons _ (List.Sublist.cons_cons _ (List.nil_sublist _))) ?_
          refine E.C.region ?_
          refine E.G.op (.pointer (some ⟨g172, 2, none⟩)) (fun w => by kernel_rfl) (by kernel_rfl) ?_
          refine E.G.store 0 [.int .i64 (R2.opAt (R2.ix a)), .int .i64 0, .int .i64 0, .int .i64 (-1), .int .i64 0, .int .u32 0, .int .i64 (R2.Size (IntKind.wrap .u8 (R2.opAt (R2.ix a))))] rfl rfl (by kernel_rfl) (by kernel_rfl) ?_
          refine E.P.nb (E.To.code ?_)
          refine E.C.seq ?_
          refine E.C.region ?_
          refine E.G.val (.agg #[.int .i64 (R2.opAt (R2.ix a)), .int .i64 0, .int .i64 0, .int .i64 (-1), .int .i64 0, .int .u32 0, .int .i64 (R2.Size (IntKind.wrap .u8 (R2.opAt (R2.ix a))))]) (by kernel_rfl) (fun w h => E.run_load h 0 rfl rfl (by kernel_rfl)) ?_
          refine E.G.store 1 [.int .i64 (R2.opAt (R2.ix a)), .int .i64 0, .int .i64 0, .int .i64 (-1), .int .i64 0, .int .u32 0, .int .i64 (R2.Size (IntKind.wrap .u8 (R2.opAt (R2.ix a))))] rfl rfl (by kernel_rfl) (by kernel_rfl) ?_
          refine E.To.code ?_
          refine E.C.ret (E.To.body (fn := Try.f16) [.agg #[.int .i64 (R2.opAt (R2.ix a)), .int .i64 0, .int .i64 0, .int .i64 (-1), .int .i64 0, .int .u32 0, .int .i64 (R2.Size (IntKind.wrap .u8 (R2.opAt (R2.ix a))))]] ?_ ?_)
          · exact ⟨⟨by kernel_rfl, _, _, 1, _, rfl, rfl, by kernel_rfl⟩, trivial⟩
          · intro w h
            exact ⟨by show Ending.returned (.agg #[.int .i64 (R2.opAt (R2.ix a)), .int .i64 0, .int .i64 0, .int .i64 (-1), .int .i64 0, .int .u32 0, .int .i64 (R2.Size (IntKind.wrap .u8 (R2.opAt (R2.ix a))))]) = _; unfold R2.Made; rw [hc173, cond_true], h.ch.bel (fun _ h => h.elim)⟩
        · skip
          refine E.C.seq ?_
          refine E.C.region ?_
          refine E.G.op (.bool ((R2.Format (R2.opAt (R2.ix a))) == 2)) (fun w => by kernel_rfl) (by kernel_rfl) ?_
          refine E.G.op (.bool ((R2.Format (R2.opAt (R2.ix a))) == 2)) (fun w => by kernel_rfl) (by kernel_rfl) ?_
          refine E.To.code ?_
          refine E.C.weak [(1, .pointer (some ⟨g1, 0, none⟩)), (2, .pointer (some ⟨g2, 0, none⟩)), (6, .pointer (some ⟨g172, 0, none⟩)), (7, .int .u32 (IntKind.wrap .u32 x)), (66, .int .i64 (R2.Format (R2.opAt (R2.ix a)))), (71, .bool ((R2.Format (R2.opAt (R2.ix a))) == 2))] [(g172, [.int .i64 (R2.opAt (R2.ix a)), .int .i64 (bits .and .i64 b 7), .int .i64 (bits .and .i64 c 7), .int .i64 (-1), .int .i64 0, .int .u32 0, .int .i64 (R2.Size (IntKind.wrap .u8 (R2.opAt (R2.ix a))))]), (g2, [.int .i64 0, .int .i64 0, .int .i64 0, .int .i64 0, .int .i64 0, .int .u32 0, .int .i64 0]), (g1, [.int .i64 a, .int .i64 b, .int .i64 c, .int .i64 x, .int .i64 y])] ⟨by kernel_rfl, by kernel_rfl⟩ (List.Sublist.refl _) ?_
          refine E.C.cond ((R2.Format (R2.opAt (R2.ix a))) == 2) (by kernel_rfl) (by kernel_rfl) (fun hc174 => ?_) (fun hc174 => ?_)
          · skip
            refine E.C.region ?_
            refine E.G.op (.pointer (some ⟨g172, 2, none⟩)) (fun w => by kernel_rfl) (by kernel_rfl) ?_
            refine E.G.store 0 [.int .i64 (R2.opAt (R2.ix a)), .int .i64 (bits .and .i64 b 7), .int .i64 0, .int .i64 (-1), .int .i64 0, .int .u32 0, .int .i64 (R2.Size (IntKind.wrap .u8 (R2.opAt (R2.ix a))))] rfl rfl (by kernel_rfl) (by kernel_rfl) ?_
            refine E.P.nb (E.To.code ?_)
            refine E.C.seq ?_
            refine E.C.region ?_
            refine E.G.val (.agg #[.int .i64 (R2.opAt (R2.ix a)), .int .i64 (bits .and .i64 b 7), .int .i64 0, .int .i64 (-1), .int .i64 0, .int .u32 0, .int .i64 (R2.Size (IntKind.wrap .u8 (R2.opAt (R2.ix a))))]) (by kernel_rfl) (fun w h => E.run_load h 0 rfl rfl (by kernel_rfl)) ?_
            refine E.G.store 1 [.int .i64 (R2.opAt (R2.ix a)), .int .i64 (bits .and .i64 b 7), .int .i64 0, .int .i64 (-1), .int .i64 0, .int .u32 0, .int .i64 (R2.Size (IntKind.wrap .u8 (R2.opAt (R2.ix a))))] rfl rfl (by kernel_rfl) (by kernel_rfl) ?_
            refine E.To.code ?_
            refine E.C.ret (E.To.body (fn := Try.f16) [.agg #[.int .i64 (R2.opAt (R2.ix a)), .int .i64 (bits .and .i64 b 7), .int .i64 0, .int .i64 (-1), .int .i64 0, .int .u32 0, .int .i64 (R2.Size (IntKind.wrap .u8 (R2.opAt (R2.ix a))))]] ?_ ?_)
            · exact ⟨⟨by kernel_rfl, _, _, 1, _, rfl, rfl, by kernel_rfl⟩, trivial⟩
            · intro w h
              exact ⟨by show Ending.returned (.agg #[.int .i64 (R2.opAt (R2.ix a)), .int .i64 (bits .and .i64 b 7), .int .i64 0, .int .i64 (-1), .int .i64 0, .int .u32 0, .int .i64 (R2.Size (IntKind.wrap .u8 (R2.opAt (R2.ix a))))]) = _; unfold R2.Made; rw [hc173, cond_false, hc174, cond_true], h.ch.bel (fun _ h => h.elim)⟩
          · skip
            refine E.C.seq ?_
            refine E.C.region ?_
            refine E.G.op (.bool ((R2.Format (R2.opAt (R2.ix a))) == 4)) (fun w => by kernel_rfl) (by kernel_rfl) ?_
            refine E.G.op (.bool ((R2.Format (R2.opAt (R2.ix a))) == 4)) (fun w => by kernel_rfl) (by kernel_rfl) ?_
            refine E.To.code ?_
            refine E.C.cond ((R2.Format (R2.opAt (R2.ix a))) == 4) (by kernel_rfl) (by kernel_rfl) (fun hc175 => ?_) (fun hc175 => ?_)
            · skip
              refine E.C.seq ?_
              refine E.C.region ?_
              refine E.G.op (.pointer (some ⟨g172, 2, none⟩)) (fun w => by kernel_rfl) (by kernel_rfl) ?_
              refine E.G.store 0 [.int .i64 (R2.opAt (R2.ix a)), .int .i64 (bits .and .i64 b 7), .int .i64 0, .int .i64 (-1), .int .i64 0, .int .u32 0, .int .i64 (R2.Size (IntKind.wrap .u8 (R2.opAt (R2.ix a))))] rfl rfl (by kernel_rfl) (by kernel_rfl) ?_
              refine E.To.code ?_
              refine E.C.region ?_
              refine E.G.op (.int .u32 (IntKind.wrap .u32 x)) (fun w => by kernel_rfl) (by kernel_rfl) ?_
              refine E.G.op (.int .u8 (IntKind.wrap .u8 (IntKind.wrap .u32 x))) (fun w => by kernel_rfl) (by kernel_rfl) ?_
              refine E.G.call (.int .u32 (R2.extend (IntKind.wrap .u8 (IntKind.wrap .u32 x)))) (fun w h => R2_extend _ w) (fun w _ => by kernel_rfl) (by kernel_rfl) ?_
              refine E.G.op (.pointer (some ⟨g172, 5, none⟩)) (fun w => by kernel_rfl) (by kernel_rfl) ?_
              refine E.G.store 0 [.int .i64 (R2.opAt (R2.ix a)), .int .i64 (bits .and .i64 b 7), .int .i64 0, .int .i64 (-1), .int .i64 0, .int .u32 (R2.extend (IntKind.wrap .u8 (IntKind.wrap .u32 x))), .int .i64 (R2.Size (IntKind.wrap .u8 (R2.opAt (R2.ix a))))] rfl rfl (by kernel_rfl) (by kernel_rfl) ?_
              refine E.P.nb (E.To.code ?_)
              refine E.C.weak [(2, .pointer (some ⟨g2, 0, none⟩)), (6, .pointer (some ⟨g172, 0, none⟩))] [(g172, [.int .i64 (R2.opAt (R2.ix a)), .int .i64 (bits .and .i64 b 7), .int .i64 0, .int .i64 (-1), .int .i64 0, .int .u32 (R2.extend (IntKind.wrap .u8 (IntKind.wrap .u32 x))), .int .i64 (R2.Size (IntKind.wrap .u8 (R2.opAt (R2.ix a))))]), (g2, [.int .i64 0, .int .i64 0, .int .i64 0, .int .i64 0, .int .i64 0, .int .u32 0, .int .i64 0])] ⟨by kernel_rfl, by kernel_rfl⟩ (List.Sublist.cons_cons _ (List.Sublist.cons_cons _ (List.nil_sublist _))) ?_
              refine E.C.seq ?_
              refine E.C.region ?_
              refine E.G.val (.agg #[.int .i64 (R2.opAt (R2.ix a)), .int .i64 (bits .and .i64 b 7), .int .i64 0, .int .i64 (-1), .int .i64 0, .int .u32 (R2.extend (IntKind.wrap .u8 (IntKind.wrap .u32 x))), .int .i64 (R2.Size (IntKind.wrap .u8 (R2.opAt (R2.ix a))))]) (by kernel_rfl) (fun w h => E.run_load h 0 rfl rfl (by kernel_rfl)) ?_
              refine E.G.store 1 [.int .i64 (R2.opAt (R2.ix a)), .int .i64 (bits .and .i64 b 7), .int .i64 0, .int .i64 (-1), .int .i64 0, .int .u32 (R2.extend (IntKind.wrap .u8 (IntKind.wrap .u32 x))), .int .i64 (R2.Size (IntKind.wrap .u8 (R2.opAt (R2.ix a))))] rfl rfl (by kernel_rfl) (by kernel_rfl) ?_
              refine E.To.code ?_
              refine E.C.ret (E.To.body (fn := Try.f16) [.agg #[.int .i64 (R2.opAt (R2.ix a)), .int .i64 (bits .and .i64 b 7), .int .i64 0, .int .i64 (-1), .int .i64 0, .int .u32 (R2.extend (IntKind.wrap .u8 (IntKind.wrap .u32 x))), .int .i64 (R2.Size (IntKind.wrap .u8 (R2.opAt (R2.ix a))))]] ?_ ?_)
              · exact ⟨⟨by kernel_rfl, _, _, 1, _, rfl, rfl, by kernel_rfl⟩, trivial⟩
              · intro w h
                exact ⟨by show Ending.returned (.agg #[.int .i64 (R2.opAt (R2.ix a)), .int .i64 (bits .and .i64 b 7), .int .i64 0, .int .i64 (-1), .int .i64 0, .int .u32 (R2.extend (IntKind.wrap .u8 (IntKind.wrap .u32 x))), .int .i64 (R2.Size (IntKind.wrap .u8 (R2.opAt (R2.ix a))))]) = _; unfold R2.Made; rw [hc173, cond_false, hc174, cond_false, hc175, cond_true], h.ch.bel (fun _ h => h.elim)⟩
            · skip
              refine E.C.seq ?_
              refine E.C.region ?_
              refine E.G.op (.bool ((R2.Format (R2.opAt (R2.ix a))) == 5)) (fun w => by kernel_rfl) (by kernel_rfl) ?_
              refine E.G.op (.bool ((R2.Format (R2.opAt (R2.ix a))) == 5)) (fun w => by kernel_rfl) (by kernel_rfl) ?_
              refine E.To.code ?_
              refine E.C.cond ((R2.Format (R2.opAt (R2.ix a))) == 5) (by kernel_rfl) (by kernel_rfl) (fun hc176 => ?_) (fun hc176 => ?_)
              · skip
                refine E.C.seq ?_
                refine E.C.region ?_
                refine E.G.op (.pointer (some ⟨g172, 2, none⟩)) (fun w => by kernel_rfl) (by kernel_rfl) ?_
                refine E.G.store 0 [.int .i64 (R2.opAt (R2.ix a)), .int .i64 (bits .and .i64 b 7), .int .i64 0, .int .i64 (-1), .int .i64 0, .int .u32 0, .int .i64 (R2.Size (IntKind.wrap .u8 (R2.opAt (R2.ix a))))] rfl rfl (by kernel_rfl) (by kernel_rfl) ?_
                refine E.To.code ?_
                refine E.C.weak [(2, .pointer (some ⟨g2, 0, none⟩)), (6, .pointer (some ⟨g172, 0, none⟩)), (7, .int .u32 (IntKind.wrap .u32 x))] [(g172, [.int .i64 (R2.opAt (R2.ix a)), .int .i64 (bits .and .i64 b 7), .int .i64 0, .int .i64 (-1), .int .i64 0, .int .u32 0, .int .i64 (R2.Size (IntKind.wrap .u8 (R2.opAt (R2.ix a))))]), (g2, [.int .i64 0, .int .i64 0, .int .i64 0, .int .i64 0, .int .i64 0, .int .u32 0, .int .i64 0])] ⟨by kernel_rfl, by kernel_rfl⟩ (List.Sublist.cons_cons _ (List.Sublist.cons_cons _ (List.nil_sublist _))) ?_
                refine E.C.region ?_
                refine E.G.op (.int .u32 (IntKind.wrap .u32 x)) (fun w => by kernel_rfl) (by kernel_rfl) ?_
                refine E.G.op (.pointer (some ⟨g172, 5, none⟩)) (fun w => by kernel_rfl) (by kernel_rfl) ?_
                refine E.G.store 0 [.int .i64 (R2.opAt (R2.ix a)), .int .i64 (bits .and .i64 b 7), .int .i64 0, .int .i64 (-1), .int .i64 0, .int .u32 (IntKind.wrap .u32 x), .int .i64 (R2.Size (IntKind.wrap .u8 (R2.opAt (R2.ix a))))] rfl rfl (by kernel_rfl) (by kernel_rfl) ?_
                refine E.P.nb (E.To.code ?_)
                refine E.C.seq ?_
                refine E.C.region ?_
                refine E.G.val (.agg #[.int .i64 (R2.opAt (R2.ix a)), .int .i64 (bits .and .i64 b 7), .int .i64 0, .int .i64 (-1), .int .i64 0, .int .u32 (IntKind.wrap .u32 x), .int .i64 (R2.Size (IntKind.wrap .u8 (R2.opAt (R2.ix a))))]) (by kernel_rfl) (fun w h => E.run_load h 0 rfl rfl (by kernel_rfl)) ?_
                refine E.G.store 1 [.int .i64 (R2.opAt (R2.ix a)), .int .i64 (bits .and .i64 b 7), .int .i64 0, .int .i64 (-1), .int .i64 0, .int .u32 (IntKind.wrap .u32 x), .int .i64 (R2.Size (IntKind.wrap .u8 (R2.opAt (R2.ix a))))] rfl rfl (by kernel_rfl) (by kernel_rfl) ?_
                refine E.To.code ?_
                refine E.C.ret (E.To.body (fn := Try.f16) [.agg #[.int .i64 (R2.opAt (R2.ix a)), .int .i64 (bits .and .i64 b 7), .int .i64 0, .int .i64 (-1), .int .i64 0, .int .u32 (IntKind.wrap .u32 x), .int .i64 (R2.Size (IntKind.wrap .u8 (R2.opAt (R2.ix a))))]] ?_ ?_)
                · exact ⟨⟨by kernel_rfl, _, _, 1, _, rfl, rfl, by kernel_rfl⟩, trivial⟩
                · intro w h
                  exact ⟨by show Ending.returned (.agg #[.int .i64 (R2.opAt (R2.ix a)), .int .i64 (bits .and .i64 b 7), .int .i64 0, .int .i64 (-1), .int .i64 0, .int .u32 (IntKind.wrap .u32 x), .int .i64 (R2.Size (IntKind.wrap .u8 (R2.opAt (R2.ix a))))]) = _; unfold R2.Made; rw [hc173, cond_false, hc174, cond_false, hc175, cond_false, hc176, cond_true], h.ch.bel (fun _ h => h.elim)⟩
              · skip
                refine E.C.seq ?_
                refine E.C.region ?_
                refine E.G.op (.bool ((R2.Format (R2.opAt (R2.ix a))) == 6)) (fun w => by kernel_rfl) (by kernel_rfl) ?_
                refine E.G.op (.bool ((R2.Format (R2.opAt (R2.ix a))) == 6)) (fun w => by kernel_rfl) (by kernel_rfl) ?_
                refine E.To.code ?_
                refine E.C.cond ((R2.Format (R2.opAt (R2.ix a))) == 6) (by kernel_rfl) (by kernel_rfl) (fun hc177 => ?_) (fun hc177 => ?_)
                · skip
                  refine E.C.region ?_
                  refine E.G.op (.int .u32 (IntKind.wrap .u32 x)) (fun w => by kernel_rfl) (by kernel_rfl) ?_
                  refine E.G.op (.int .u8 (IntKind.wrap .u8 (IntKind.wrap .u32 x))) (fun w => by kernel_rfl) (by kernel_rfl) ?_
                  refine E.G.call (.int .u32 (R2.extend (IntKind.wrap .u8 (IntKind.wrap .u32 x)))) (fun w h => R2_extend _ w) (fun w _ => by kernel_rfl) (by kernel_rfl) ?_
                  refine E.G.op (.pointer (some ⟨g172, 5, none⟩)) (fun w => by kernel_rfl) (by kernel_rfl) ?_
                  refine E.G.store 0 [.int .i64 (R2.opAt (R2.ix a)), .int .i64 (bits .and .i64 b 7), .int .i64 (bits .and .i64 c 7), .int .i64 (-1), .int .i64 0, .int .u32 (R2.extend (IntKind.wrap .u8 (IntKind.wrap .u32 x))), .int .i64 (R2.Size (IntKind.wrap .u8 (R2.opAt (R2.ix a))))] rfl rfl (by kernel_rfl) (by kernel_rfl) ?_
                  refine E.P.nb (E.To.code ?_)
                  refine E.C.weak [(2, .pointer (some ⟨g2, 0, none⟩)), (6, .pointer (some ⟨g172, 0, none⟩))] [(g172, [.int .i64 (R2.opAt (R2.ix a)), .int .i64 (bits .and .i64 b 7), .int .i64 (bits .and .i64 c 7), .int .i64 (-1), .int .i64 0, .int .u32 (R2.extend (IntKind.wrap .u8 (IntKind.wrap .u32 x))), .int .i64 (R2.Size (IntKind.wrap .u8 (R2.opAt (R2.ix a))))]), (g2, [.int .i64 0, .int .i64 0, .int .i64 0, .int .i64 0, .int .i64 0, .int .u32 0, .int .i64 0])] ⟨by kernel_rfl, by kernel_rfl⟩ (List.Sublist.cons_cons _ (List.Sublist.cons_cons _ (List.nil_sublist _))) ?_
                  refine E.C.seq ?_
                  refine E.C.region ?_
                  refine E.G.val (.agg #[.int .i64 (R2.opAt (R2.ix a)), .int .i64 (bits .and .i64 b 7), .int .i64 (bits .and .i64 c 7), .int .i64 (-1), .int .i64 0, .int .u32 (R2.extend (IntKind.wrap .u8 (IntKind.wrap .u32 x))), .int .i64 (R2.Size (IntKind.wrap .u8 (R2.opAt (R2.ix a))))]) (by kernel_rfl) (fun w h => E.run_load h 0 rfl rfl (by kernel_rfl)) ?_
                  refine E.G.store 1 [.int .i64 (R2.opAt (R2.ix a)), .int .i64 (bits .and .i64 b 7), .int .i64 (bits .and .i64 c 7), .int .i64 (-1), .int .i64 0, .int .u32 (R2.extend (IntKind.wrap .u8 (IntKind.wrap .u32 x))), .int .i64 (R2.Size (IntKind.wrap .u8 (R2.opAt (R2.ix a))))] rfl rfl (by kernel_rfl) (by kernel_rfl) ?_
                  refine E.To.code ?_
                  refine E.C.ret (E.To.body (fn := Try.f16) [.agg #[.int .i64 (R2.opAt (R2.ix a)), .int .i64 (bits .and .i64 b 7), .int .i64 (bits .and .i64 c 7), .int .i64 (-1), .int .i64 0, .int .u32 (R2.extend (IntKind.wrap .u8 (IntKind.wrap .u32 x))), .int .i64 (R2.Size (IntKind.wrap .u8 (R2.opAt (R2.ix a))))]] ?_ ?_)
                  · exact ⟨⟨by kernel_rfl, _, _, 1, _, rfl, rfl, by kernel_rfl⟩, trivial⟩
                  · intro w h
                    exact ⟨by show Ending.returned (.agg #[.int .i64 (R2.opAt (R2.ix a)), .int .i64 (bits .and .i64 b 7), .int .i64 (bits .and .i64 c 7), .int .i64 (-1), .int .i64 0, .int .u32 (R2.extend (IntKind.wrap .u8 (IntKind.wrap .u32 x))), .int .i64 (R2.Size (IntKind.wrap .u8 (R2.opAt (R2.ix a))))]) = _; unfold R2.Made; rw [hc173, cond_false, hc174, cond_false, hc175, cond_false, hc176, cond_false, hc177, cond_true], h.ch.bel (fun _ h => h.elim)⟩
                · skip
                  refine E.C.seq ?_
                  refine E.C.region ?_
                  refine E.G.op (.bool ((R2.Format (R2.opAt (R2.ix a))) == 7)) (fun w => by kernel_rfl) (by kernel_rfl) ?_
                  refine E.G.op (.bool ((R2.Format (R2.opAt (R2.ix a))) == 7)) (fun w => by kernel_rfl) (by kernel_rfl) ?_
                  refine E.To.code ?_
                  refine E.C.weak [(1, .pointer (some ⟨g1, 0, none⟩)), (2, .pointer (some ⟨g2, 0, none⟩)), (6, .pointer (some ⟨g172, 0, none⟩)), (7, .int .u32 (IntKind.wrap .u32 x)), (66, .int .i64 (R2.Format (R2.opAt (R2.ix a)))), (92, .bool ((R2.Format (R2.opAt (R2.ix a))) == 7))] [(g172, [.int .i64 (R2.opAt (R2.ix a)), .int .i64 (bits .and .i64 b 7), .int .i64 (bits .and .i64 c 7), .int .i64 (-1), .int .i64 0, .int .u32 0, .int .i64 (R2.Size (IntKind.wrap .u8 (R2.opAt (R2.ix a))))]), (g2, [.int .i64 0, .int .i64 0, .int .i64 0, .int .i64 0, .int .i64 0, .int .u32 0, .int .i64 0]), (g1, [.int .i64 a, .int .i64 b, .int .i64 c, .int .i64 x, .int .i64 y])] ⟨by kernel_rfl, by kernel_rfl⟩ (List.Sublist.refl _) ?_
                  refine E.C.cond ((R2.Format (R2.opAt (R2.ix a))) == 7) (by kernel_rfl) (by kernel_rfl) (fun hc178 => ?_) (fun hc178 => ?_)
                  · skip
                    refine E.C.seq ?_
                    refine E.C.region ?_
                    refine E.G.op (.int .u32 (IntKind.wrap .u32 x)) (fun w => by kernel_rfl) (by kernel_rfl) ?_
                    refine E.G.op (.pointer (some ⟨g172, 5, none⟩)) (fun w => by kernel_rfl) (by kernel_rfl) ?_
                    refine E.G.store 0 [.int .i64 (R2.opAt (R2.ix a)), .int .i64 (bits .and .i64 b 7), .int .i64 (bits .and .i64 c 7), .int .i64 (-1), .int .i64 0, .int .u32 (IntKind.wrap .u32 x), .int .i64 (R2.Size (IntKind.wrap .u8 (R2.opAt (R2.ix a))))] rfl rfl (by kernel_rfl) (by kernel_rfl) ?_
                    refine E.To.code ?_
                    refine E.C.seq ?_
                    refine E.C.region ?_
                    refine E.G.op (.pointer (some ⟨g1, 4, none⟩)) (fun w => by kernel_rfl) (by kernel_rfl) ?_
                    refine E.G.val (.int .i64 y) (by kernel_rfl) (fun w h => E.run_load h 2 rfl rfl (by kernel_rfl)) ?_
                    refine E.G.op (.int .i64 (bits .and .i64 y 1)) (fun w => by kernel_rfl) (by kernel_rfl) ?_
                    refine E.G.op (.bool ((bits .and .i64 y 1) == 1)) (fun w => by kernel_rfl) (by kernel_rfl) ?_
                    refine E.To.code ?_
                    refine E.C.weak [(1, .pointer (some ⟨g1, 0, none⟩)), (2, .pointer (some ⟨g2, 0, none⟩)), (6, .pointer (some ⟨g172, 0, none⟩)), (99, .bool ((bits .and .i64 y 1) == 1))] [(g172, [.int .i64 (R2.opAt (R2.ix a)), .int .i64 (bits .and .i64 b 7), .int .i64 (bits .and .i64 c 7), .int .i64 (-1), .int .i64 0, .int .u32 (IntKind.wrap .u32 x), .int .i64 (R2.Size (IntKind.wrap .u8 (R2.opAt (R2.ix a))))]), (g2, [.int .i64 0, .int .i64 0, .int .i64 0, .int .i64 0, .int .i64 0, .int .u32 0, .int .i64 0]), (g1, [.int .i64 a, .int .i64 b, .int .i64 c, .int .i64 x, .int .i64 y])] ⟨by kernel_rfl, by kernel_rfl⟩ (List.Sublist.refl _) ?_
                    refine E.C.cond ((bits .and .i64 y 1) == 1) (by kernel_rfl) (by kernel_rfl) (fun hc179 => ?_) (fun hc179 => ?_)
                    · skip
                      refine E.C.seq ?_
                      refine E.C.region ?_
                      refine E.G.op (.pointer (some ⟨g1, 4, none⟩)) (fun w => by kernel_rfl) (by kernel_rfl) ?_
                      refine E.G.val (.int .i64 y) (by kernel_rfl) (fun w h => E.run_load h 2 rfl rfl (by kernel_rfl)) ?_
                      refine E.G.op (.int .i64 (Int.fdiv y (2 ^ 1))) (fun w => by kernel_rfl) (by kernel_rfl) ?_
                      refine E.G.op (.int .i64 (bits .and .i64 (Int.fdiv y (2 ^ 1)) 7)) (fun w => by kernel_rfl) (by kernel_rfl) ?_
                      refine E.G.op (.pointer (some ⟨g172, 3, none⟩)) (fun w => by kernel_rfl) (by kernel_rfl) ?_
                      refine E.G.store 0 [.int .i64 (R2.opAt (R2.ix a)), .int .i64 (bits .and .i64 b 7), .int .i64 (bits .and .i64 c 7), .int .i64 (bits .and .i64 (Int.fdiv y (2 ^ 1)) 7), .int .i64 0, .int .u32 (IntKind.wrap .u32 x), .int .i64 (R2.Size (IntKind.wrap .u8 (R2.opAt (R2.ix a))))] rfl rfl (by kernel_rfl) (by kernel_rfl) ?_
                      refine E.To.code ?_
                      refine E.C.region ?_
                      refine E.G.op (.pointer (some ⟨g1, 4, none⟩)) (fun w => by kernel_rfl) (by kernel_rfl) ?_
                      refine E.G.val (.int .i64 y) (by kernel_rfl) (fun w h => E.run_load h 2 rfl rfl (by kernel_rfl)) ?_
                      refine E.G.op (.int .i64 (Int.fdiv y (2 ^ 4))) (fun w => by kernel_rfl) (by kernel_rfl) ?_
                      refine E.G.op (.int .i64 (bits .and .i64 (Int.fdiv y (2 ^ 4)) 3)) (fun w => by kernel_rfl) (by kernel_rfl) ?_
                      refine E.G.op (.pointer (some ⟨g172, 4, none⟩)) (fun w => by kernel_rfl) (by kernel_rfl) ?_
                      refine E.G.store 0 [.int .i64 (R2.opAt (R2.ix a)), .int .i64 (bits .and .i64 b 7), .int .i64 (bits .and .i64 c 7), .int .i64 (bits .and .i64 (Int.fdiv y (2 ^ 1)) 7), .int .i64 (bits .and .i64 (Int.fdiv y (2 ^ 4)) 3), .int .u32 (IntKind.wrap .u32 x), .int .i64 (R2.Size (IntKind.wrap .u8 (R2.opAt (R2.ix a))))] rfl rfl (by kernel_rfl) (by kernel_rfl) ?_
                      refine E.P.nb (E.To.code ?_)
                      refine E.C.weak [(2, .pointer (some ⟨g2, 0, none⟩)), (6, .pointer (some ⟨g172, 0, none⟩))] [(g172, [.int .i64 (R2.opAt (R2.ix a)), .int .i64 (bits .and .i64 b 7), .int .i64 (bits .and .i64 c 7), .int .i64 (bits .and .i64 (Int.fdiv y (2 ^ 1)) 7), .int .i64 (bits .and .i64 (Int.fdiv y (2 ^ 4)) 3), .int .u32 (IntKind.wrap .u32 x), .int .i64 (R2.Size (IntKind.wrap .u8 (R2.opAt (R2.ix a))))]), (g2, [.int .i64 0, .int .i64 0, .int .i64 0, .int .i64 0, .int .i64 0, .int .u32 0, .int .i64 0])] ⟨by kernel_rfl, by kernel_rfl⟩ (List.Sublist.cons_cons _ (List.Sublist.cons_cons _ (List.nil_sublist _))) ?_
                      refine E.C.seq ?_
                      refine E.C.region ?_
                      refine E.G.val (.agg #[.int .i64 (R2.opAt (R2.ix a)), .int .i64 (bits .and .i64 b 7), .int .i64 (bits .and .i64 c 7), .int .i64 (bits .and .i64 (Int.fdiv y (2 ^ 1)) 7), .int .i64 (bits .and .i64 (Int.fdiv y (2 ^ 4)) 3), .int .u32 (IntKind.wrap .u32 x), .int .i64 (R2.Size (IntKind.wrap .u8 (R2.opAt (R2.ix a))))]) (by kernel_rfl) (fun w h => E.run_load h 0 rfl rfl (by kernel_rfl)) ?_
                      refine E.G.store 1 [.int .i64 (R2.opAt (R2.ix a)), .int .i64 (bits .and .i64 b 7), .int .i64 (bits .and .i64 c 7), .int .i64 (bits .and .i64 (Int.fdiv y (2 ^ 1)) 7), .int .i64 (bits .and .i64 (Int.fdiv y (2 ^ 4)) 3), .int .u32 (IntKind.wrap .u32 x), .int .i64 (R2.Size (IntKind.wrap .u8 (R2.opAt (R2.ix a))))] rfl rfl (by kernel_rfl) (by kernel_rfl) ?_
                      refine E.To.code ?_
                      refine E.C.ret (E.To.body (fn := Try.f16) [.agg #[.int .i64 (R2.opAt (R2.ix a)), .int .i64 (bits .and .i64 b 7), .int .i64 (bits .and .i64 c 7), .int .i64 (bits .and .i64 (Int.fdiv y (2 ^ 1)) 7), .int .i64 (bits .and .i64 (Int.fdiv y (2 ^ 4)) 3), .int .u32 (IntKind.wrap .u32 x), .int .i64 (R2.Size (IntKind.wrap .u8 (R2.opAt (R2.ix a))))]] ?_ ?_)
                      · exact ⟨⟨by kernel_rfl, _, _, 1, _, rfl, rfl, by kernel_rfl⟩, trivial⟩
                      · intro w h
                        exact ⟨by show Ending.returned (.agg #[.int .i64 (R2.opAt (R2.ix a)), .int .i64 (bits .and .i64 b 7), .int .i64 (bits .and .i64 c 7), .int .i64 (bits .and .i64 (Int.fdiv y (2 ^ 1)) 7), .int .i64 (bits .and .i64 (Int.fdiv y (2 ^ 4)) 3), .int .u32 (IntKind.wrap .u32 x), .int .i64 (R2.Size (IntKind.wrap .u8 (R2.opAt (R2.ix a))))]) = _; unfold R2.Made; rw [hc173, cond_false, hc174, cond_false, hc175, cond_false, hc176, cond_false, hc177, cond_false, hc178, cond_true, hc179, cond_true], h.ch.bel (fun _ h => h.elim)⟩
                    · skip
                      refine E.C.skip (E.P.nb (E.To.code ?_))
                      refine E.C.seq ?_
                      refine E.C.region ?_
                      refine E.G.val (.agg #[.int .i64 (R2.opAt (R2.ix a)), .int .i64 (bits .and .i64 b 7), .int .i64 (bits .and .i64 c 7), .int .i64 (-1), .int .i64 0, .int .u32 (IntKind.wrap .u32 x), .int .i64 (R2.Size (IntKind.wrap .u8 (R2.opAt (R2.ix a))))]) (by kernel_rfl) (fun w h => E.run_load h 0 rfl rfl (by kernel_rfl)) ?_
                      refine E.G.store 1 [.int .i64 (R2.opAt (R2.ix a)), .int .i64 (bits .and .i64 b 7), .int .i64 (bits .and .i64 c 7), .int .i64 (-1), .int .i64 0, .int .u32 (IntKind.wrap .u32 x), .int .i64 (R2.Size (IntKind.wrap .u8 (R2.opAt (R2.ix a))))] rfl rfl (by kernel_rfl) (by kernel_rfl) ?_
                      refine E.To.code ?_
                      refine E.C.ret (E.To.body (fn := Try.f16) [.agg #[.int .i64 (R2.opAt (R2.ix a)), .int .i64 (bits .and .i64 b 7), .int .i64 (bits .and .i64 c 7), .int .i64 (-1), .int .i64 0, .int .u32 (IntKind.wrap .u32 x), .int .i64 (R2.Size (IntKind.wrap .u8 (R2.opAt (R2.ix a))))]] ?_ ?_)
                      · exact ⟨⟨by kernel_rfl, _, _, 1, _, rfl, rfl, by kernel_rfl⟩, trivial⟩
                      · intro w h
                        exact ⟨by show Ending.returned (.agg #[.int .i64 (R2.opAt (R2.ix a)), .int .i64 (bits .and .i64 b 7), .int .i64 (bits .and .i64 c 7), .int .i64 (-1), .int .i64 0, .int .u32 (IntKind.wrap .u32 x), .int .i64 (R2.Size (IntKind.wrap .u8 (R2.opAt (R2.ix a))))]) = _; unfold R2.Made; rw [hc173, cond_false, hc174, cond_false, hc175, cond_false, hc176, cond_false, hc177, cond_false, hc178, cond_true, hc179, cond_false], h.ch.bel (fun _ h => h.elim)⟩
                  · skip
                    refine E.C.seq ?_
                    refine E.C.seq ?_
                    refine E.C.region ?_
                    refine E.G.op (.bool ((R2.Format (R2.opAt (R2.ix a))) == 8)) (fun w => by kernel_rfl) (by kernel_rfl) ?_
                    refine E.G.op (.bool ((R2.Format (R2.opAt (R2.ix a))) == 8)) (fun w => by kernel_rfl) (by kernel_rfl) ?_
                    refine E.To.code ?_
                    refine E.C.cond ((R2.Format (R2.opAt (R2.ix a))) == 8) (by kernel_rfl) (by kernel_rfl) (fun hc180 => ?_) (fun hc180 => ?_)
                    · skip
                      refine E.C.skip (E.To.code ?_)
                      refine E.C.cond ((R2.Format (R2.opAt (R2.ix a))) == 8) (by kernel_rfl) (by kernel_rfl) (fun hc181 => ?_) (fun hc181 => absurd (hc180.symm.trans hc181) (by decide))
                      refine E.C.seq ?_
                      refine E.C.region ?_
                      refine E.G.op (.pointer (some ⟨g172, 1, none⟩)) (fun w => by kernel_rfl) (by kernel_rfl) ?_
                      refine E.G.store 0 [.int .i64 (R2.opAt (R2.ix a)), .int .i64 0, .int .i64 (bits .and .i64 c 7), .int .i64 (-1), .int .i64 0, .int .u32 0, .int .i64 (R2.Size (IntKind.wrap .u8 (R2.opAt (R2.ix a))))] rfl rfl (by kernel_rfl) (by kernel_rfl) ?_
                      refine E.To.code ?_
                      refine E.C.seq ?_
                      refine E.C.region ?_
                      refine E.G.op (.pointer (some ⟨g172, 2, none⟩)) (fun w => by kernel_rfl) (by kernel_rfl) ?_
                      refine E.G.store 0 [.int .i64 (R2.opAt (R2.ix a)), .int .i64 0, .int .i64 0, .int .i64 (-1), .int .i64 0, .int .u32 0, .int .i64 (R2.Size (IntKind.wrap .u8 (R2.opAt (R2.ix a))))] rfl rfl (by kernel_rfl) (by kernel_rfl) ?_
                      refine E.To.code ?_
                      refine E.C.seq ?_
                      refine E.C.region ?_
                      refine E.G.op (.int .u32 (IntKind.wrap .u32 x)) (fun w => by kernel_rfl) (by kernel_rfl) ?_
                      refine E.G.op (.pointer (some ⟨g172, 5, none⟩)) (fun w => by kernel_rfl) (by kernel_rfl) ?_
                      refine E.G.store 0 [.int .i64 (R2.opAt (R2.ix a)), .int .i64 0, .int .i64 0, .int .i64 (-1), .int .i64 0, .int .u32 (IntKind.wrap .u32 x), .int .i64 (R2.Size (IntKind.wrap .u8 (R2.opAt (R2.ix a))))] rfl rfl (by kernel_rfl) (by kernel_rfl) ?_
                      refine E.To.code ?_
                      refine E.C.weak [(1, .pointer (some ⟨g1, 0, none⟩)), (2, .pointer (some ⟨g2, 0, none⟩)), (6, .pointer (some ⟨g172, 0, none⟩)), (7, .int .u32 (IntKind.wrap .u32 x))] [(g172, [.int .i64 (R2.opAt (R2.ix a)), .int .i64 0, .int .i64 0, .int .i64 (-1), .int .i64 0, .int .u32 (IntKind.wrap .u32 x), .int .i64 (R2.Size (IntKind.wrap .u8 (R2.opAt (R2.ix a))))]), (g2, [.int .i64 0, .int .i64 0, .int .i64 0, .int .i64 0, .int .i64 0, .int .u32 0, .int .i64 0]), (g1, [.int .i64 a, .int .i64 b, .int .i64 c, .int .i64 x, .int .i64 y])] ⟨by kernel_rfl, by kernel_rfl⟩ (List.Sublist.refl _) ?_
                      refine E.C.seq ?_
                      refine E.C.seq ?_
                      refine E.C.region ?_
                      refine E.G.op (.pointer (some ⟨g172, 0, none⟩)) (fun w => by kernel_rfl) (by kernel_rfl) ?_
                      refine E.G.val (.int .i64 (R2.opAt (R2.ix a))) (by kernel_rfl) (fun w h => E.run_load h 0 rfl rfl (by kernel_rfl)) ?_
                      refine E.G.call (.int .i64 (R2.Format (R2.opAt (R2.ix a)))) (fun w h => R2_Format _ w) (fun w _ => by kernel_rfl) (by kernel_rfl) ?_
                      refine E.G.op (.bool ((R2.Format (R2.opAt (R2.ix a))) == 8)) (fun w => by kernel_rfl) (by kernel_rfl) ?_
                      refine E.To.code ?_
                      refine E.C.cond ((R2.Format (R2.opAt (R2.ix a))) == 8) (by kernel_rfl) (by kernel_rfl) (fun hc182 => ?_) (fun hc182 => absurd (hc180.symm.trans hc182) (by decide))
                      refine E.C.seq ?_
                      refine E.C.region ?_
                      refine E.G.op (.pointer (some ⟨g1, 4, none⟩)) (fun w => by kernel_rfl) (by kernel_rfl) ?_
                      refine E.G.val (.int .i64 y) (by kernel_rfl) (fun w h => E.run_load h 2 rfl rfl (by kernel_rfl)) ?_
                      refine E.G.op (.int .i64 (bits .and .i64 y 65535)) (fun w => by kernel_rfl) (by kernel_rfl) ?_
                      refine E.G.op (.int .i64 (Int.tmod (bits .and .i64 y 65535) 14)) (fun w => by kernel_rfl) (by kernel_rfl) ?_
                      refine E.G.op (.int .i64 (IntKind.wrap .i64 (96 + (Int.tmod (bits .and .i64 y 65535) 14)))) (fun w => by kernel_rfl) (by kernel_rfl) ?_
                      refine E.G.op (.pointer (some ⟨g172, 0, none⟩)) (fun w => by kernel_rfl) (by kernel_rfl) ?_
                      refine E.G.store 0 [.int .i64 (IntKind.wrap .i64 (96 + (Int.tmod (bits .and .i64 y 65535) 14))), .int .i64 0, .int .i64 0, .int .i64 (-1), .int .i64 0, .int .u32 (IntKind.wrap .u32 x), .int .i64 (R2.Size (IntKind.wrap .u8 (R2.opAt (R2.ix a))))] rfl rfl (by kernel_rfl) (by kernel_rfl) ?_
                      refine E.To.code ?_
                      refine E.C.weak [(2, .pointer (some ⟨g2, 0, none⟩)), (6, .pointer (some ⟨g172, 0, none⟩)), (7, .int .u32 (IntKind.wrap .u32 x))] [(g172, [.int .i64 (IntKind.wrap .i64 (96 + (Int.tmod (bits .and .i64 y 65535) 14))), .int .i64 0, .int .i64 0, .int .i64 (-1), .int .i64 0, .int .u32 (IntKind.wrap .u32 x), .int .i64 (R2.Size (IntKind.wrap .u8 (R2.opAt (R2.ix a))))]), (g2, [.int .i64 0, .int .i64 0, .int .i64 0, .int .i64 0, .int .i64 0, .int .u32 0, .int .i64 0])] ⟨by kernel_rfl, by kernel_rfl⟩ (List.Sublist.cons_cons _ (List.Sublist.cons_cons _ (List.nil_sublist _))) ?_
                      refine E.C.region ?_
                      refine E.G.op (.int .u32 (IntKind.wrap .u32 x)) (fun w => by kernel_rfl) (by kernel_rfl) ?_
                      refine E.G.op (.int .u8 (IntKind.wrap .u8 (IntKind.wrap .u32 x))) (fun w => by kernel_rfl) (by kernel_rfl) ?_
                      refine E.G.call (.int .u32 (R2.extend (IntKind.wrap .u8 (IntKind.wrap .u32 x)))) (fun w h => R2_extend _ w) (fun w _ => by kernel_rfl) (by kernel_rfl) ?_
                      refine E.G.op (.pointer (some ⟨g172, 5, none⟩)) (fun w => by kernel_rfl) (by kernel_rfl) ?_
                      refine E.G.store 0 [.int .i64 (IntKind.wrap .i64 (96 + (Int.tmod (bits .and .i64 y 65535) 14))), .int .i64 0, .int .i64 0, .int .i64 (-1), .int .i64 0, .int .u32 (R2.extend (IntKind.wrap .u8 (IntKind.wrap .u32 x))), .int .i64 (R2.Size (IntKind.wrap .u8 (R2.opAt (R2.ix a))))] rfl rfl (by kernel_rfl) (by kernel_rfl) ?_
                      refine E.To.code ?_
                      refine E.C.seq ?_
                      refine E.C.region ?_
                      refine E.G.op (.pointer (some ⟨g172, 0, none⟩)) (fun w => by kernel_rfl) (by kernel_rfl) ?_
                      refine E.G.val (.int .i64 (IntKind.wrap .i64 (96 + (Int.tmod (bits .and .i64 y 65535) 14)))) (by kernel_rfl) (fun w h => E.run_load h 0 rfl rfl (by kernel_rfl)) ?_
                      refine E.G.call (.int .i64 (R2.Format (IntKind.wrap .i64 (96 + (Int.tmod (bits .and .i64 y 65535) 14))))) (fun w h => R2_Format _ w) (fun w _ => by kernel_rfl) (by kernel_rfl) ?_
                      refine E.G.op (.bool ((R2.Format (IntKind.wrap .i64 (96 + (Int.tmod (bits .and .i64 y 65535) 14)))) == 10)) (fun w => by kernel_rfl) (by kernel_rfl) ?_
                      refine E.To.code ?_
                      refine E.C.cond ((R2.Format (IntKind.wrap .i64 (96 + (Int.tmod (bits .and .i64 y 65535) 14)))) == 10) (by kernel_rfl) (by kernel_rfl) (fun hc183 => ?_) (fun hc183 => ?_)
                      · skip
                        refine E.C.region ?_
                        refine E.G.op (.int .u32 (IntKind.wrap .u32 x)) (fun w => by kernel_rfl) (by kernel_rfl) ?_
                        refine E.G.op (.int .u32 (bits .and .u32 (IntKind.wrap .u32 x) 255)) (fun w => by kernel_rfl) (by kernel_rfl) ?_
                        refine E.G.op (.pointer (some ⟨g172, 5, none⟩)) (fun w => by kernel_rfl) (by kernel_rfl) ?_
                        refine E.G.store 0 [.int .i64 (IntKind.wrap .i64 (96 + (Int.tmod (bits .and .i64 y 65535) 14))), .int .i64 0, .int .i64 0, .int .i64 (-1), .int .i64 0, .int .u32 (bits .and .u32 (IntKind.wrap .u32 x) 255), .int .i64 (R2.Size (IntKind.wrap .u8 (R2.opAt (R2.ix a))))] rfl rfl (by kernel_rfl) (by kernel_rfl) ?_
                        refine E.P.nb (E.To.code ?_)
                        refine E.C.weak [(2, .pointer (some ⟨g2, 0, none⟩)), (6, .pointer (some ⟨g172, 0, none⟩))] [(g172, [.int .i64 (IntKind.wrap .i64 (96 + (Int.tmod (bits .and .i64 y 65535) 14))), .int .i64 0, .int .i64 0, .int .i64 (-1), .int .i64 0, .int .u32 (bits .and .u32 (IntKind.wrap .u32 x) 255), .int .i64 (R2.Size (IntKind.wrap .u8 (R2.opAt (R2.ix a))))]), (g2, [.int .i64 0, .int .i64 0, .int .i64 0, .int .i64 0, .int .i64 0, .int .u32 0, .int .i64 0])] ⟨by kernel_rfl, by kernel_rfl⟩ (List.Sublist.refl _) ?_
                        refine E.C.seq ?_
                        refine E.C.region ?_
                        refine E.G.val (.agg #[.int .i64 (IntKind.wrap .i64 (96 + (Int.tmod (bits .and .i64 y 65535) 14))), .int .i64 0, .int .i64 0, .int .i64 (-1), .int .i64 0, .int .u32 (bits .and .u32 (IntKind.wrap .u32 x) 255), .int .i64 (R2.Size (IntKind.wrap .u8 (R2.opAt (R2.ix a))))]) (by kernel_rfl) (fun w h => E.run_load h 0 rfl rfl (by kernel_rfl)) ?_
                        refine E.G.store 1 [.int .i64 (IntKind.wrap .i64 (96 + (Int.tmod (bits .and .i64 y 65535) 14))), .int .i64 0, .int .i64 0, .int .i64 (-1), .int .i64 0, .int .u32 (bits .and .u32 (IntKind.wrap .u32 x) 255), .int .i64 (R2.Size (IntKind.wrap .u8 (R2.opAt (R2.ix a))))] rfl rfl (by kernel_rfl) (by kernel_rfl) ?_
                        refine E.To.code ?_
                        refine E.C.ret (E.To.body (fn := Try.f16) [.agg #[.int .i64 (IntKind.wrap .i64 (96 + (Int.tmod (bits .and .i64 y 65535) 14))), .int .i64 0, .int .i64 0, .int .i64 (-1), .int .i64 0, .int .u32 (bits .and .u32 (IntKind.wrap .u32 x) 255), .int .i64 (R2.Size (IntKind.wrap .u8 (R2.opAt (R2.ix a))))]] ?_ ?_)
                        · exact ⟨⟨by kernel_rfl, _, _, 1, _, rfl, rfl, by kernel_rfl⟩, trivial⟩
                        · intro w h
                          exact ⟨by show Ending.returned (.agg #[.int .i64 (IntKind.wrap .i64 (96 + (Int.tmod (bits .and .i64 y 65535) 14))), .int .i64 0, .int .i64 0, .int .i64 (-1), .int .i64 0, .int .u32 (bits .and .u32 (IntKind.wrap .u32 x) 255), .int .i64 (R2.Size (IntKind.wrap .u8 (R2.opAt (R2.ix a))))]) = _; unfold R2.Made; rw [hc173, cond_false, hc174, cond_false, hc175, cond_false, hc176, cond_false, hc177, cond_false, hc178, cond_false, hc180, cond_true, hc183, cond_true], h.ch.bel (fun _ h => h.elim)⟩
                      · skip
                        refine E.C.skip (E.P.nb (E.To.code ?_))
                        refine E.C.weak [(2, .pointer (some ⟨g2, 0, none⟩)), (6, .pointer (some ⟨g172, 0, none⟩))] [(g172, [.int .i64 (IntKind.wrap .i64 (96 + (Int.tmod (bits .and .i64 y 65535) 14))), .int .i64 0, .int .i64 0, .int .i64 (-1), .int .i64 0, .int .u32 (R2.extend (IntKind.wrap .u8 (IntKind.wrap .u32 x))), .int .i64 (R2.Size (IntKind.wrap .u8 (R2.opAt (R2.ix a))))]), (g2, [.int .i64 0, .int .i64 0, .int .i64 0, .int .i64 0, .int .i64 0, .int .u32 0, .int .i64 0])] ⟨by kernel_rfl, by kernel_rfl⟩ (List.Sublist.refl _) ?_
                        refine E.C.seq ?_
                        refine E.C.region ?_
                        refine E.G.val (.agg #[.int .i64 (IntKind.wrap .i64 (96 + (Int.tmod (bits .and .i64 y 65535) 14))), .int .i64 0, .int .i64 0, .int .i64 (-1), .int .i64 0, .int .u32 (R2.extend (IntKind.wrap .u8 (IntKind.wrap .u32 x))), .int .i64 (R2.Size (IntKind.wrap .u8 (R2.opAt (R2.ix a))))]) (by kernel_rfl) (fun w h => E.run_load h 0 rfl rfl (by kernel_rfl)) ?_
                        refine E.G.store 1 [.int .i64 (IntKind.wrap .i64 (96 + (Int.tmod (bits .and .i64 y 65535) 14))), .int .i64 0, .int .i64 0, .int .i64 (-1), .int .i64 0, .int .u32 (R2.extend (IntKind.wrap .u8 (IntKind.wrap .u32 x))), .int .i64 (R2.Size (IntKind.wrap .u8 (R2.opAt (R2.ix a))))] rfl rfl (by kernel_rfl) (by kernel_rfl) ?_
                        refine E.To.code ?_
                        refine E.C.ret (E.To.body (fn := Try.f16) [.agg #[.int .i64 (IntKind.wrap .i64 (96 + (Int.tmod (bits .and .i64 y 65535) 14))), .int .i64 0, .int .i64 0, .int .i64 (-1), .int .i64 0, .int .u32 (R2.extend (IntKind.wrap .u8 (IntKind.wrap .u32 x))), .int .i64 (R2.Size (IntKind.wrap .u8 (R2.opAt (R2.ix a))))]] ?_ ?_)
                        · exact ⟨⟨by kernel_rfl, _, _, 1, _, rfl, rfl, by kernel_rfl⟩, trivial⟩
                        · intro w h
                          exact ⟨by show Ending.returned (.agg #[.int .i64 (IntKind.wrap .i64 (96 + (Int.tmod (bits .and .i64 y 65535) 14))), .int .i64 0, .int .i64 0, .int .i64 (-1), .int .i64 0, .int .u32 (R2.extend (IntKind.wrap .u8 (IntKind.wrap .u32 x))), .int .i64 (R2.Size (IntKind.wrap .u8 (R2.opAt (R2.ix a))))]) = _; unfold R2.Made; rw [hc173, cond_false, hc174, cond_false, hc175, cond_false, hc176, cond_false, hc177, cond_false, hc178, cond_false, hc180, cond_true, hc183, cond_false], h.ch.bel (fun _ h => h.elim)⟩
                    · skip
                      refine E.C.seq ?_
                      refine E.C.region ?_
                      refine E.G.op (.bool ((R2.Format (R2.opAt (R2.ix a))) == 10)) (fun w => by kernel_rfl) (by kernel_rfl) ?_
                      refine E.G.op (.bool ((R2.Format (R2.opAt (R2.ix a))) == 10)) (fun w => by kernel_rfl) (by kernel_rfl) ?_
                      refine E.To.code ?_
                      refine E.C.cond ((R2.Format (R2.opAt (R2.ix a))) == 10) (by kernel_rfl) (by kernel_rfl) (fun hc184 => ?_) (fun hc184 => ?_)
                      · skip
                        refine E.C.skip (E.To.code ?_)
                        refine E.C.cond ((R2.Format (R2.opAt (R2.ix a))) == 10) (by kernel_rfl) (by kernel_rfl) (fun hc185 => ?_) (fun hc185 => absurd (hc184.symm.trans hc185) (by decide))
                        refine E.C.seq ?_
                        refine E.C.region ?_
                        refine E.G.op (.pointer (some ⟨g172, 1, none⟩)) (fun w => by kernel_rfl) (by kernel_rfl) ?_
                        refine E.G.store 0 [.int .i64 (R2.opAt (R2.ix a)), .int .i64 0, .int .i64 (bits .and .i64 c 7), .int .i64 (-1), .int .i64 0, .int .u32 0, .int .i64 (R2.Size (IntKind.wrap .u8 (R2.opAt (R2.ix a))))] rfl rfl (by kernel_rfl) (by kernel_rfl) ?_
                        refine E.To.code ?_
                        refine E.C.seq ?_
                        refine E.C.region ?_
                        refine E.G.op (.pointer (some ⟨g172, 2, none⟩)) (fun w => by kernel_rfl) (by kernel_rfl) ?_
                        refine E.G.store 0 [.int .i64 (R2.opAt (R2.ix a)), .int .i64 0, .int .i64 0, .int .i64 (-1), .int .i64 0, .int .u32 0, .int .i64 (R2.Size (IntKind.wrap .u8 (R2.opAt (R2.ix a))))] rfl rfl (by kernel_rfl) (by kernel_rfl) ?_
                        refine E.To.code ?_
                        refine E.C.seq ?_
                        refine E.C.region ?_
                        refine E.G.op (.int .u32 (IntKind.wrap .u32 x)) (fun w => by kernel_rfl) (by kernel_rfl) ?_
                        refine E.G.op (.pointer (some ⟨g172, 5, none⟩)) (fun w => by kernel_rfl) (by kernel_rfl) ?_
                        refine E.G.store 0 [.int .i64 (R2.opAt (R2.ix a)), .int .i64 0, .int .i64 0, .int .i64 (-1), .int .i64 0, .int .u32 (IntKind.wrap .u32 x), .int .i64 (R2.Size (IntKind.wrap .u8 (R2.opAt (R2.ix a))))] rfl rfl (by kernel_rfl) (by kernel_rfl) ?_
                        refine E.To.code ?_
                        refine E.C.weak [(1, .pointer (some ⟨g1, 0, none⟩)), (2, .pointer (some ⟨g2, 0, none⟩)), (6, .pointer (some ⟨g172, 0, none⟩)), (7, .int .u32 (IntKind.wrap .u32 x))] [(g172, [.int .i64 (R2.opAt (R2.ix a)), .int .i64 0, .int .i64 0, .int .i64 (-1), .int .i64 0, .int .u32 (IntKind.wrap .u32 x), .int .i64 (R2.Size (IntKind.wrap .u8 (R2.opAt (R2.ix a))))]), (g2, [.int .i64 0, .int .i64 0, .int .i64 0, .int .i64 0, .int .i64 0, .int .u32 0, .int .i64 0]), (g1, [.int .i64 a, .int .i64 b, .int .i64 c, .int .i64 x, .int .i64 y])] ⟨by kernel_rfl, by kernel_rfl⟩ (List.Sublist.refl _) ?_
                        refine E.C.seq ?_
                        refine E.C.seq ?_
                        refine E.C.region ?_
                        refine E.G.op (.pointer (some ⟨g172, 0, none⟩)) (fun w => by kernel_rfl) (by kernel_rfl) ?_
                        refine E.G.val (.int .i64 (R2.opAt (R2.ix a))) (by kernel_rfl) (fun w h => E.run_load h 0 rfl rfl (by kernel_rfl)) ?_
                        refine E.G.call (.int .i64 (R2.Format (R2.opAt (R2.ix a)))) (fun w h => R2_Format _ w) (fun w _ => by kernel_rfl) (by kernel_rfl) ?_
                        refine E.G.op (.bool ((R2.Format (R2.opAt (R2.ix a))) == 8)) (fun w => by kernel_rfl) (by kernel_rfl) ?_
                        refine E.To.code ?_
                        refine E.C.cond ((R2.Format (R2.opAt (R2.ix a))) == 8) (by kernel_rfl) (by kernel_rfl) (fun hc186 => absurd (hc180.symm.trans hc186) (by decide)) (fun hc186 => ?_)
                        refine E.C.skip (E.To.code ?_)
                        refine E.C.seq ?_
                        refine E.C.region ?_
                        refine E.G.op (.pointer (some ⟨g172, 0, none⟩)) (fun w => by kernel_rfl) (by kernel_rfl) ?_
                        refine E.G.val (.int .i64 (R2.opAt (R2.ix a))) (by kernel_rfl) (fun w h => E.run_load h 0 rfl rfl (by kernel_rfl)) ?_
                        refine E.G.call (.int .i64 (R2.Format (R2.opAt (R2.ix a)))) (fun w h => R2_Format _ w) (fun w _ => by kernel_rfl) (by kernel_rfl) ?_
                        refine E.G.op (.bool ((R2.Format (R2.opAt (R2.ix a))) == 10)) (fun w => by kernel_rfl) (by kernel_rfl) ?_
                        refine E.To.code ?_
                        refine E.C.weak [(2, .pointer (some ⟨g2, 0, none⟩)), (6, .pointer (some ⟨g172, 0, none⟩)), (7, .int .u32 (IntKind.wrap .u32 x)), (135, .bool ((R2.Format (R2.opAt (R2.ix a))) == 10))] [(g172, [.int .i64 (R2.opAt (R2.ix a)), .int .i64 0, .int .i64 0, .int .i64 (-1), .int .i64 0, .int .u32 (IntKind.wrap .u32 x), .int .i64 (R2.Size (IntKind.wrap .u8 (R2.opAt (R2.ix a))))]), (g2, [.int .i64 0, .int .i64 0, .int .i64 0, .int .i64 0, .int .i64 0, .int .u32 0, .int .i64 0])] ⟨by kernel_rfl, by kernel_rfl⟩ (List.Sublist.cons_cons _ (List.Sublist.cons_cons _ (List.nil_sublist _))) ?_
                        refine E.C.cond ((R2.Format (R2.opAt (R2.ix a))) == 10) (by kernel_rfl) (by kernel_rfl) (fun hc187 => ?_) (fun hc187 => absurd (hc184.symm.trans hc187) (by decide))
                        refine E.C.region ?_
                        refine E.G.op (.int .u32 (IntKind.wrap .u32 x)) (fun w => by kernel_rfl) (by kernel_rfl) ?_
                        refine E.G.op (.int .u32 (bits .and .u32 (IntKind.wrap .u32 x) 255)) (fun w => by kernel_rfl) (by kernel_rfl) ?_
                        refine E.G.op (.pointer (some ⟨g172, 5, none⟩)) (fun w => by kernel_rfl) (by kernel_rfl) ?_
                        refine E.G.store 0 [.int .i64 (R2.opAt (R2.ix a)), .int .i64 0, .int .i64 0, .int .i64 (-1), .int .i64 0, .int .u32 (bits .and .u32 (IntKind.wrap .u32 x) 255), .int .i64 (R2.Size (IntKind.wrap .u8 (R2.opAt (R2.ix a))))] rfl rfl (by kernel_rfl) (by kernel_rfl) ?_
                        refine E.P.nb (E.To.code ?_)
                        refine E.C.seq ?_
                        refine E.C.region ?_
                        refine E.G.val (.agg #[.int .i64 (R2.opAt (R2.ix a)), .int .i64 0, .int .i64 0, .int .i64 (-1), .int .i64 0, .int .u32 (bits .and .u32 (IntKind.wrap .u32 x) 255), .int .i64 (R2.Size (IntKind.wrap .u8 (R2.opAt (R2.ix a))))]) (by kernel_rfl) (fun w h => E.run_load h 0 rfl rfl (by kernel_rfl)) ?_
                        refine E.G.store 1 [.int .i64 (R2.opAt (R2.ix a)), .int .i64 0, .int .i64 0, .int .i64 (-1), .int .i64 0, .int .u32 (bits .and .u32 (IntKind.wrap .u32 x) 255), .int .i64 (R2.Size (IntKind.wrap .u8 (R2.opAt (R2.ix a))))] rfl rfl (by kernel_rfl) (by kernel_rfl) ?_
                        refine E.To.code ?_
                        refine E.C.ret (E.To.body (fn := Try.f16) [.agg #[.int .i64 (R2.opAt (R2.ix a)), .int .i64 0, .int .i64 0, .int .i64 (-1), .int .i64 0, .int .u32 (bits .and .u32 (IntKind.wrap .u32 x) 255), .int .i64 (R2.Size (IntKind.wrap .u8 (R2.opAt (R2.ix a))))]] ?_ ?_)
                        · exact ⟨⟨by kernel_rfl, _, _, 1, _, rfl, rfl, by kernel_rfl⟩, trivial⟩
                        · intro w h
                          exact ⟨by show Ending.returned (.agg #[.int .i64 (R2.opAt (R2.ix a)), .int .i64 0, .int .i64 0, .int .i64 (-1), .int .i64 0, .int .u32 (bits .and .u32 (IntKind.wrap .u32 x) 255), .int .i64 (R2.Size (IntKind.wrap .u8 (R2.opAt (R2.ix a))))]) = _; unfold R2.Made; rw [hc173, cond_false, hc174, cond_false, hc175, cond_false, hc176, cond_false, hc177, cond_false, hc178, cond_false, hc180, cond_false, hc184, cond_true], h.ch.bel (fun _ h => h.elim)⟩
                      · skip
                        refine E.C.region ?_
                        refine E.G.op (.bool ((R2.Format (R2.opAt (R2.ix a))) == 9)) (fun w => by kernel_rfl) (by kernel_rfl) ?_
                        refine E.G.op (.bool ((R2.Format (R2.opAt (R2.ix a))) == 9)) (fun w => by kernel_rfl) (by kernel_rfl) ?_
                        refine E.To.code ?_
                        refine E.C.cond ((R2.Format (R2.opAt (R2.ix a))) == 9) (by kernel_rfl) (by kernel_rfl) (fun hc188 => ?_) (fun hc188 => ?_)
                        · skip
                          refine E.C.seq ?_
                          refine E.C.region ?_
                          refine E.G.op (.pointer (some ⟨g172, 1, none⟩)) (fun w => by kernel_rfl) (by kernel_rfl) ?_
                          refine E.G.store 0 [.int .i64 (R2.opAt (R2.ix a)), .int .i64 0, .int .i64 (bits .and .i64 c 7), .int .i64 (-1), .int .i64 0, .int .u32 0, .int .i64 (R2.Size (IntKind.wrap .u8 (R2.opAt (R2.ix a))))] rfl rfl (by kernel_rfl) (by kernel_rfl) ?_
                          refine E.To.code ?_
                          refine E.C.seq ?_
                          refine E.C.region ?_
                          refine E.G.op (.pointer (some ⟨g172, 2, none⟩)) (fun w => by kernel_rfl) (by kernel_rfl) ?_
                          refine E.G.store 0 [.int .i64 (R2.opAt (R2.ix a)), .int .i64 0, .int .i64 0, .int .i64 (-1), .int .i64 0, .int .u32 0, .int .i64 (R2.Size (IntKind.wrap .u8 (R2.opAt (R2.ix a))))] rfl rfl (by kernel_rfl) (by kernel_rfl) ?_
                          refine E.To.code ?_
                          refine E.C.weak [(1, .pointer (some ⟨g1, 0, none⟩)), (2, .pointer (some ⟨g2, 0, none⟩)), (6, .pointer (some ⟨g172, 0, none⟩)), (7, .int .u32 (IntKind.wrap .u32 x))] [(g172, [.int .i64 (R2.opAt (R2.ix a)), .int .i64 0, .int .i64 0, .int .i64 (-1), .int .i64 0, .int .u32 0, .int .i64 (R2.Size (IntKind.wrap .u8 (R2.opAt (R2.ix a))))]), (g2, [.int .i64 0, .int .i64 0, .int .i64 0, .int .i64 0, .int .i64 0, .int .u32 0, .int .i64 0]), (g1, [.int .i64 a, .int .i64 b, .int .i64 c, .int .i64 x, .int .i64 y])] ⟨by kernel_rfl, by kernel_rfl⟩ (List.Sublist.refl _) ?_
                          refine E.C.seq ?_
                          refine E.C.region ?_
                          refine E.G.op (.int .u32 (IntKind.wrap .u32 x)) (fun w => by kernel_rfl) (by kernel_rfl) ?_
                          refine E.G.op (.pointer (some ⟨g172, 5, none⟩)) (fun w => by kernel_rfl) (by kernel_rfl) ?_
                          refine E.G.store 0 [.int .i64 (R2.opAt (R2.ix a)), .int .i64 0, .int .i64 0, .int .i64 (-1), .int .i64 0, .int .u32 (IntKind.wrap .u32 x), .int .i64 (R2.Size (IntKind.wrap .u8 (R2.opAt (R2.ix a))))] rfl rfl (by kernel_rfl) (by kernel_rfl) ?_
                          refine E.To.code ?_
                          refine E.C.seq ?_
                          refine E.C.seq ?_
                          refine E.C.region ?_
                          refine E.G.op (.pointer (some ⟨g172, 0, none⟩)) (fun w => by kernel_rfl) (by kernel_rfl) ?_
                          refine E.G.val (.int .i64 (R2.opAt (R2.ix a))) (by kernel_rfl) (fun w h => E.run_load h 0 rfl rfl (by kernel_rfl)) ?_
                          refine E.G.call (.int .i64 (R2.Format (R2.opAt (R2.ix a)))) (fun w h => R2_Format _ w) (fun w _ => by kernel_rfl) (by kernel_rfl) ?_
                          refine E.G.op (.bool ((R2.Format (R2.opAt (R2.ix a))) == 8)) (fun w => by kernel_rfl) (by kernel_rfl) ?_
                          refine E.To.code ?_
                          refine E.C.cond ((R2.Format (R2.opAt (R2.ix a))) == 8) (by kernel_rfl) (by kernel_rfl) (fun hc189 => absurd (hc180.symm.trans hc189) (by decide)) (fun hc189 => ?_)
                          refine E.C.skip (E.To.code ?_)
                          refine E.C.seq ?_
                          refine E.C.region ?_
                          refine E.G.op (.pointer (some ⟨g172, 0, none⟩)) (fun w => by kernel_rfl) (by kernel_rfl) ?_
                          refine E.G.val (.int .i64 (R2.opAt (R2.ix a))) (by kernel_rfl) (fun w h => E.run_load h 0 rfl rfl (by kernel_rfl)) ?_
                          refine E.G.call (.int .i64 (R2.Format (R2.opAt (R2.ix a)))) (fun w h => R2_Format _ w) (fun w _ => by kernel_rfl) (by kernel_rfl) ?_
                          refine E.G.op (.bool ((R2.Format (R2.opAt (R2.ix a))) == 10)) (fun w => by kernel_rfl) (by kernel_rfl) ?_
                          refine E.To.code ?_
                          refine E.C.weak [(2, .pointer (some ⟨g2, 0, none⟩)), (6, .pointer (some ⟨g172, 0, none⟩)), (7, .int .u32 (IntKind.wrap .u32 x)), (135, .bool ((R2.Format (R2.opAt (R2.ix a))) == 10))] [(g172, [.int .i64 (R2.opAt (R2.ix a)), .int .i64 0, .int .i64 0, .int .i64 (-1), .int .i64 0, .int .u32 (IntKind.wrap .u32 x), .int .i64 (R2.Size (IntKind.wrap .u8 (R2.opAt (R2.ix a))))]), (g2, [.int .i64 0, .int .i64 0, .int .i64 0, .int .i64 0, .int .i64 0, .int .u32 0, .int .i64 0])] ⟨by kernel_rfl, by kernel_rfl⟩ (List.Sublist.cons_cons _ (List.Sublist.cons_cons _ (List.nil_sublist _))) ?_
                          refine E.C.cond ((R2.Format (R2.opAt (R2.ix a))) == 10) (by kernel_rfl) (by kernel_rfl) (fun hc190 => absurd (hc184.symm.trans hc190) (by decide)) (fun hc190 => ?_)
                          refine E.C.skip (E.P.nb (E.To.code ?_))
                          refine E.C.seq ?_
                          refine E.C.region ?_
                          refine E.G.val (.agg #[.int .i64 (R2.opAt (R2.ix a)), .int .i64 0, .int .i64 0, .int .i64 (-1), .int .i64 0, .int .u32 (IntKind.wrap .u32 x), .int .i64 (R2.Size (IntKind.wrap .u8 (R2.opAt (R2.ix a))))]) (by kernel_rfl) (fun w h => E.run_load h 0 rfl rfl (by kernel_rfl)) ?_
                          refine E.G.store 1 [.int .i64 (R2.opAt (R2.ix a)), .int .i64 0, .int .i64 0, .int .i64 (-1), .int .i64 0, .int .u32 (IntKind.wrap .u32 x), .int .i64 (R2.Size (IntKind.wrap .u8 (R2.opAt (R2.ix a))))] rfl rfl (by kernel_rfl) (by kernel_rfl) ?_
                          refine E.To.code ?_
                          refine E.C.ret (E.To.body (fn := Try.f16) [.agg #[.int .i64 (R2.opAt (R2.ix a)), .int .i64 0, .int .i64 0, .int .i64 (-1), .int .i64 0, .int .u32 (IntKind.wrap .u32 x), .int .i64 (R2.Size (IntKind.wrap .u8 (R2.opAt (R2.ix a))))]] ?_ ?_)
                          · exact ⟨⟨by kernel_rfl, _, _, 1, _, rfl, rfl, by kernel_rfl⟩, trivial⟩
                          · intro w h
                            exact ⟨by show Ending.returned (.agg #[.int .i64 (R2.opAt (R2.ix a)), .int .i64 0, .int .i64 0, .int .i64 (-1), .int .i64 0, .int .u32 (IntKind.wrap .u32 x), .int .i64 (R2.Size (IntKind.wrap .u8 (R2.opAt (R2.ix a))))]) = _; unfold R2.Made; rw [hc173, cond_false, hc174, cond_false, hc175, cond_false, hc176, cond_false, hc177, cond_false, hc178, cond_false, hc180, cond_false, hc184, cond_false, hc188, cond_true], h.ch.bel (fun _ h => h.elim)⟩
                        · skip
                          refine E.C.seq ?_
                          refine E.C.region ?_
                          refine E.G.op (.bool ((R2.Format (R2.opAt (R2.ix a))) == 11)) (fun w => by kernel_rfl) (by kernel_rfl) ?_
                          refine E.G.op (.bool ((R2.Format (R2.opAt (R2.ix a))) == 11)) (fun w => by kernel_rfl) (by kernel_rfl) ?_
                          refine E.To.code ?_
                          refine E.C.cond ((R2.Format (R2.opAt (R2.ix a))) == 11) (by kernel_rfl) (by kernel_rfl) (fun hc191 => ?_) (fun hc191 => ?_)
                          · skip
                            refine E.C.region ?_
                            refine E.G.op (.pointer (some ⟨g1, 2, none⟩)) (fun w => by kernel_rfl) (by kernel_rfl) ?_
                            refine E.G.val (.int .i64 c) (by kernel_rfl) (fun w h => E.run_load h 2 rfl rfl (by kernel_rfl)) ?_
                            refine E.G.op (.int .i64 (bits .and .i64 c 3)) (fun w => by kernel_rfl) (by kernel_rfl) ?_
                            refine E.G.op (.pointer (some ⟨g172, 2, none⟩)) (fun w => by kernel_rfl) (by kernel_rfl) ?_
                            refine E.G.store 0 [.int .i64 (R2.opAt (R2.ix a)), .int .i64 (bits .and .i64 b 7), .int .i64 (bits .and .i64 c 3), .int .i64 (-1), .int .i64 0, .int .u32 0, .int .i64 (R2.Size (IntKind.wrap .u8 (R2.opAt (R2.ix a))))] rfl rfl (by kernel_rfl) (by kernel_rfl) ?_
                            refine E.P.nb (E.To.code ?_)
                            refine E.C.weak [(2, .pointer (some ⟨g2, 0, none⟩)), (6, .pointer (some ⟨g172, 0, none⟩))] [(g172, [.int .i64 (R2.opAt (R2.ix a)), .int .i64 (bits .and .i64 b 7), .int .i64 (bits .and .i64 c 3), .int .i64 (-1), .int .i64 0, .int .u32 0, .int .i64 (R2.Size (IntKind.wrap .u8 (R2.opAt (R2.ix a))))]), (g2, [.int .i64 0, .int .i64 0, .int .i64 0, .int .i64 0, .int .i64 0, .int .u32 0, .int .i64 0])] ⟨by kernel_rfl, by kernel_rfl⟩ (List.Sublist.cons_cons _ (List.Sublist.cons_cons _ (List.nil_sublist _))) ?_
                            refine E.C.seq ?_
                            refine E.C.region ?_
                            refine E.G.val (.agg #[.int .i64 (R2.opAt (R2.ix a)), .int .i64 (bits .and .i64 b 7), .int .i64 (bits .and .i64 c 3), .int .i64 (-1), .int .i64 0, .int .u32 0, .int .i64 (R2.Size (IntKind.wrap .u8 (R2.opAt (R2.ix a))))]) (by kernel_rfl) (fun w h => E.run_load h 0 rfl rfl (by kernel_rfl)) ?_
                            refine E.G.store 1 [.int .i64 (R2.opAt (R2.ix a)), .int .i64 (bits .and .i64 b 7), .int .i64 (bits .and .i64 c 3), .int .i64 (-1), .int .i64 0, .int .u32 0, .int .i64 (R2.Size (IntKind.wrap .u8 (R2.opAt (R2.ix a))))] rfl rfl (by kernel_rfl) (by kernel_rfl) ?_
                            refine E.To.code ?_
                            refine E.C.ret (E.To.body (fn := Try.f16) [.agg #[.int .i64 (R2.opAt (R2.ix a)), .int .i64 (bits .and .i64 b 7), .int .i64 (bits .and .i64 c 3), .int .i64 (-1), .int .i64 0, .int .u32 0, .int .i64 (R2.Size (IntKind.wrap .u8 (R2.opAt (R2.ix a))))]] ?_ ?_)
                            · exact ⟨⟨by kernel_rfl, _, _, 1, _, rfl, rfl, by kernel_rfl⟩, trivial⟩
                            · intro w h
                              exact ⟨by show Ending.returned (.agg #[.int .i64 (R2.opAt (R2.ix a)), .int .i64 (bits .and .i64 b 7), .int .i64 (bits .and .i64 c 3), .int .i64 (-1), .int .i64 0, .int .u32 0, .int .i64 (R2.Size (IntKind.wrap .u8 (R2.opAt (R2.ix a))))]) = _; unfold R2.Made; rw [hc173, cond_false, hc174, cond_false, hc175, cond_false, hc176, cond_false, hc177, cond_false, hc178, cond_false, hc180, cond_false, hc184, cond_false, hc188, cond_false, hc191, cond_true], h.ch.bel (fun _ h => h.elim)⟩
                          · skip
                            refine E.C.seq ?_
                            refine E.C.region ?_
                            refine E.G.op (.bool ((R2.Format (R2.opAt (R2.ix a))) == 12)) (fun w => by kernel_rfl) (by kernel_rfl) ?_
                            refine E.G.op (.bool ((R2.Format (R2.opAt (R2.ix a))) == 12)) (fun w => by kernel_rfl) (by kernel_rfl) ?_
                            refine E.To.code ?_
                            refine E.C.weak [(1, .pointer (some ⟨g1, 0, none⟩)), (2, .pointer (some ⟨g2, 0, none⟩)), (6, .pointer (some ⟨g172, 0, none⟩)), (145, .bool ((R2.Format (R2.opAt (R2.ix a))) == 12))] [(g172, [.int .i64 (R2.opAt (R2.ix a)), .int .i64 (bits .and .i64 b 7), .int .i64 (bits .and .i64 c 7), .int .i64 (-1), .int .i64 0, .int .u32 0, .int .i64 (R2.Size (IntKind.wrap .u8 (R2.opAt (R2.ix a))))]), (g2, [.int .i64 0, .int .i64 0, .int .i64 0, .int .i64 0, .int .i64 0, .int .u32 0, .int .i64 0]), (g1, [.int .i64 a, .int .i64 b, .int .i64 c, .int .i64 x, .int .i64 y])] ⟨by kernel_rfl, by kernel_rfl⟩ (List.Sublist.refl _) ?_
                            refine E.C.cond ((R2.Format (R2.opAt (R2.ix a))) == 12) (by kernel_rfl) (by kernel_rfl) (fun hc192 => ?_) (fun hc192 => ?_)
                            · skip
                              refine E.C.region ?_
                              refine E.G.op (.pointer (some ⟨g1, 2, none⟩)) (fun w => by kernel_rfl) (by kernel_rfl) ?_
                              refine E.G.val (.int .i64 c) (by kernel_rfl) (fun w h => E.run_load h 2 rfl rfl (by kernel_rfl)) ?_
                              refine E.G.op (.int .i64 (bits .and .i64 c 7)) (fun w => by kernel_rfl) (by kernel_rfl) ?_
                              refine E.G.op (.int .i64 (Int.tmod (bits .and .i64 c 7) 5)) (fun w => by kernel_rfl) (by kernel_rfl) ?_
                              refine E.G.op (.pointer (some ⟨g172, 2, none⟩)) (fun w => by kernel_rfl) (by kernel_rfl) ?_
                              refine E.G.store 0 [.int .i64 (R2.opAt (R2.ix a)), .int .i64 (bits .and .i64 b 7), .int .i64 (Int.tmod (bits .and .i64 c 7) 5), .int .i64 (-1), .int .i64 0, .int .u32 0, .int .i64 (R2.Size (IntKind.wrap .u8 (R2.opAt (R2.ix a))))] rfl rfl (by kernel_rfl) (by kernel_rfl) ?_
                              refine E.P.nb (E.To.code ?_)
                              refine E.C.seq ?_
                              refine E.C.region ?_
                              refine E.G.val (.agg #[.int .i64 (R2.opAt (R2.ix a)), .int .i64 (bits .and .i64 b 7), .int .i64 (Int.tmod (bits .and .i64 c 7) 5), .int .i64 (-1), .int .i64 0, .int .u32 0, .int .i64 (R2.Size (IntKind.wrap .u8 (R2.opAt (R2.ix a))))]) (by kernel_rfl) (fun w h => E.run_load h 0 rfl rfl (by kernel_rfl)) ?_
                              refine E.G.store 1 [.int .i64 (R2.opAt (R2.ix a)), .int .i64 (bits .and .i64 b 7), .int .i64 (Int.tmod (bits .and .i64 c 7) 5), .int .i64 (-1), .int .i64 0, .int .u32 0, .int .i64 (R2.Size (IntKind.wrap .u8 (R2.opAt (R2.ix a))))] rfl rfl (by kernel_rfl) (by kernel_rfl) ?_
                              refine E.To.code ?_
                              refine E.C.weak [(2, .pointer (some ⟨g2, 0, none⟩))] [(g2, [.int .i64 (R2.opAt (R2.ix a)), .int .i64 (bits .and .i64 b 7), .int .i64 (Int.tmod (bits .and .i64 c 7) 5), .int .i64 (-1), .int .i64 0, .int .u32 0, .int .i64 (R2.Size (IntKind.wrap .u8 (R2.opAt (R2.ix a))))])] ⟨by kernel_rfl, by kernel_rfl⟩ (List.Sublist.cons _ (List.Sublist.cons_cons _ (List.nil_sublist _))) ?_
                              refine E.C.ret (E.To.body (fn := Try.f16) [.agg #[.int .i64 (R2.opAt (R2.ix a)), .int .i64 (bits .and .i64 b 7), .int .i64 (Int.tmod (bits .and .i64 c 7) 5), .int .i64 (-1), .int .i64 0, .int .u32 0, .int .i64 (R2.Size (IntKind.wrap .u8 (R2.opAt (R2.ix a))))]] ?_ ?_)
                              · exact ⟨⟨by kernel_rfl, _, _, 0, _, rfl, rfl, by kernel_rfl⟩, trivial⟩
                              · intro w h
                                exact ⟨by show Ending.returned (.agg #[.int .i64 (R2.opAt (R2.ix a)), .int .i64 (bits .and .i64 b 7), .int .i64 (Int.tmod (bits .and .i64 c 7) 5), .int .i64 (-1), .int .i64 0, .int .u32 0, .int .i64 (R2.Size (IntKind.wrap .u8 (R2.opAt (R2.ix a))))]) = _; unfold R2.Made; rw [hc173, cond_false, hc174, cond_false, hc175, cond_false, hc176, cond_false, hc177, cond_false, hc178, cond_false, hc180, cond_false, hc184, cond_false, hc188, cond_false, hc191, cond_false, hc192, cond_true], h.ch.bel (fun _ h => h.elim)⟩
                            · skip
                              refine E.C.skip (E.P.nb (E.To.code ?_))
                              refine E.C.seq ?_
                              refine E.C.region ?_
                              refine E.G.val (.agg #[.int .i64 (R2.opAt (R2.ix a)), .int .i64 (bits .and .i64 b 7), .int .i64 (bits .and .i64 c 7), .int .i64 (-1), .int .i64 0, .int .u32 0, .int .i64 (R2.Size (IntKind.wrap .u8 (R2.opAt (R2.ix a))))]) (by kernel_rfl) (fun w h => E.run_load h 0 rfl rfl (by kernel_rfl)) ?_
                              refine E.G.store 1 [.int .i64 (R2.opAt (R2.ix a)), .int .i64 (bits .and .i64 b 7), .int .i64 (bits .and .i64 c 7), .int .i64 (-1), .int .i64 0, .int .u32 0, .int .i64 (R2.Size (IntKind.wrap .u8 (R2.opAt (R2.ix a))))] rfl rfl (by kernel_rfl) (by kernel_rfl) ?_
                              refine E.To.code ?_
                              refine E.C.ret (E.To.body (fn := Try.f16) [.agg #[.int .i64 (R2.opAt (R2.ix a)), .int .i64 (bits .and .i64 b 7), .int .i64 (bits .and .i64 c 7), .int .i64 (-1), .int .i64 0, .int .u32 0, .int .i64 (R2.Size (IntKind.wrap .u8 (R2.opAt (R2.ix a))))]] ?_ ?_)
                              · exact ⟨⟨by kernel_rfl, _, _, 1, _, rfl, rfl, by kernel_rfl⟩, trivial⟩
                              · intro w h
                                exact ⟨by show Ending.returned (.agg #[.int .i64 (R2.opAt (R2.ix a)), .int .i64 (bits .and .i64 b 7), .int .i64 (bits .and .i64 c 7), .int .i64 (-1), .int .i64 0, .int .u32 0, .int .i64 (R2.Size (IntKind.wrap .u8 (R2.opAt (R2.ix a))))]) = _; unfold R2.Made; rw [hc173, cond_false, hc174, cond_false, hc175, cond_false, hc176, cond_false, hc177, cond_false, hc178, cond_false, hc180, cond_false, hc184, cond_false, hc188, cond_false, hc191, cond_false, hc192, cond_false], h.ch.bel (fun _ h => h.elim)⟩
  · skip
    refine E.G.new (fun g => .pointer (some ⟨g, 0, none⟩)) [.int .i64 0, .int .i64 0, .int .i64 0, .int .i64 0, .int .i64 0, .int .u32 0, .int .i64 0] 27 (fun w => by kernel_rfl) (by kernel_rfl) (fun g193 => ?_)
    refine E.H.back (fun w h => h.less (List.Sublist.cons _ (List.Sublist.refl _))) ?_
    refine E.H.all [9] (by kernel_rfl) (by simp) (List.forall_mem_cons.2 ⟨⟨_, rfl, ?_⟩, fun _ h => (List.not_mem_nil h).elim⟩)
    · skip
      refine E.G.call (.int .i64 (R2.Size (IntKind.wrap .u8 (R2.opAt (R2.ix a))))) (fun w h => R2_Size _ w) (fun w _ => by kernel_rfl) (by kernel_rfl) ?_
      refine E.H.back (fun w h => h.less (List.Sublist.cons _ (List.Sublist.refl _))) ?_
      refine E.H.take 16 (.agg #[.int .i64 (R2.opAt (R2.ix a)), .int .i64 (bits .and .i64 b 7), .int .i64 (bits .and .i64 c 7), .int .i64 (-1), .int .i64 0, .int .u32 0, .int .i64 (R2.Size (IntKind.wrap .u8 (R2.opAt (R2.ix a))))]) rfl (by kernel_rfl) (by kernel_rfl) (by kernel_rfl) (fun _ _ _ h => h) (fun w h => h.less (List.Sublist.cons _ (List.Sublist.refl _))) (.inl ⟨by kernel_rfl, by kernel_rfl, fun w h => E.run_build #[.int .i64 (R2.opAt (R2.ix a)), .int .i64 (bits .and .i64 b 7), .int .i64 (bits .and .i64 c 7), .int .i64 (-1), .int .i64 0, .int .u32 0, .int .i64 (R2.Size (IntKind.wrap .u8 (R2.opAt (R2.ix a))))] (by kernel_rfl) w⟩) (by kernel_rfl) ?_
      refine E.H.all [18] (by kernel_rfl) (by simp) (List.forall_mem_cons.2 ⟨⟨_, rfl, ?_⟩, fun _ h => (List.not_mem_nil h).elim⟩)
      · skip
        refine E.G.store 0 [.int .i64 (R2.opAt (R2.ix a)), .int .i64 (bits .and .i64 b 7), .int .i64 (bits .and .i64 c 7), .int .i64 (-1), .int .i64 0, .int .u32 0, .int .i64 (R2.Size (IntKind.wrap .u8 (R2.opAt (R2.ix a))))] rfl rfl (by kernel_rfl) (by kernel_rfl) ?_
        refine E.H.back (fun w h => h.less (List.Sublist.cons _ (List.Sublist.refl _))) ?_
        refine E.H.done (by kernel_rfl) ?_
        refine E.To.code ?_
        refine E.C.weak [(1, .pointer (some ⟨g1, 0, none⟩)), (2, .pointer (some ⟨g2, 0, none⟩)), (6, .pointer (some ⟨g193, 0, none⟩))] [(g193, [.int .i64 (R2.opAt (R2.ix a)), .int .i64 (bits .and .i64 b 7), .int .i64 (bits .and .i64 c 7), .int .i64 (-1), .int .i64 0, .int .u32 0, .int .i64 (R2.Size (IntKind.wrap .u8 (R2.opAt (R2.ix a))))]), (g2, [.int .i64 0, .int .i64 0, .int .i64 0, .int .i64 0, .int .i64 0, .int .u32 0, .int .i64 0]), (g1, [.int .i64 a, .int .i64 b, .int .i64 c, .int .i64 x, .int .i64 y])] ⟨by kernel_rfl, by kernel_rfl⟩ (List.Sublist.cons_cons _ (List.Sublist.cons _ (List.Sublist.refl _))) ?_
        refine E.C.seq ?_
        refine E.C.region ?_
        refine E.G.op (.pointer (some ⟨g1, 3, none⟩)) (fun w => by kernel_rfl) (by kernel_rfl) ?_
        refine E.G.val (.int .i64 x) (by kernel_rfl) (fun w h => E.run_load h 2 rfl rfl (by kernel_rfl)) ?_
        refine E.G.op (.int .u32 (IntKind.wrap .u32 x)) (fun w => by kernel_rfl) (by kernel_rfl) ?_
        refine E.G.op (.int .u32 (IntKind.wrap .u32 x)) (fun w => by kernel_rfl) (by kernel_rfl) ?_
        refine E.To.code ?_
        refine E.C.seq ?_
        refine E.C.seq ?_
        refine E.C.region ?_
        refine E.G.op (.pointer (some ⟨g193, 0, none⟩)) (fun w => by kernel_rfl) (by kernel_rfl) ?_
        refine E.G.val (.int .i64 (R2.opAt (R2.ix a))) (by kernel_rfl) (fun w h => E.run_load h 0 rfl rfl (by kernel_rfl)) ?_
        refine E.G.call (.int .i64 (R2.Format (R2.opAt (R2.ix a)))) (fun w h => R2_Format _ w) (fun w _ => by kernel_rfl) (by kernel_rfl) ?_
        refine E.To.code ?_
        refine E.C.block ?_
        refine E.C.seq ?_
        refine E.C.region ?_
        refine E.G.op (.bool ((R2.Format (R2.opAt (R2.ix a))) == 1)) (fun w => by kernel_rfl) (by kernel_rfl) ?_
        refine E.G.op (.bool ((R2.Format (R2.opAt (R2.ix a))) == 1)) (fun w => by kernel_rfl) (by kernel_rfl) ?_
        refine E.To.code ?_
        refine E.C.cond ((R2.Format (R2.opAt (R2.ix a))) == 1) (by kernel_rfl) (by kernel_rfl) (fun hc194 => ?_) (fun hc194 => ?_)
        · skip
          refine E.C.seq ?_
          refine E.C.region ?_
          refine E.G.op (.pointer (some ⟨g193, 1, none⟩)) (fun w => by kernel_rfl) (by kernel_rfl) ?_
          refine E.G.store 0 [.int .i64 (R2.opAt (R2.ix a)), .int .i64 0, .int .i64 (bits .and .i64 c 7), .int .i64 (-1), .int .i64 0, .int .u32 0, .int .i64 (R2.Size (IntKind.wrap .u8 (R2.opAt (R2.ix a))))] rfl rfl (by kernel_rfl) (by kernel_rfl) ?_
          refine E.To.code ?_
          refine E.C.weak [(2, .pointer (some ⟨g2, 0, none⟩)), (6, .pointer (some ⟨g193, 0, none⟩))] [(g193, [.int .i64 (R2.opAt (R2.ix a)), .int .i64 0, .int .i64 (bits .and .i64 c 7), .int .i64 (-1), .int .i64 0, .int .u32 0, .int .i64 (R2.Size (IntKind.wrap .u8 (R2.opAt (R2.ix a))))]), (g2, [.int .i64 0, .int .i64 0, .int .i64 0, .int .i64 0, .int .i64 0, .int .u32 0, .int .i64 0])] ⟨by kernel_rfl, by kernel_rfl⟩ (List.Sublist.cons_cons _ (List.Sublist.cons_cons _ (List.nil_sublist _))) ?_
          refine E.C.region ?_
          refine E.G.op (.pointer (some ⟨g193, 2, none⟩)) (fun w => by kernel_rfl) (by kernel_rfl) ?_
          refine E.G.store 0 [.int .i64 (R2.opAt (R2.ix a)), .int .i64 0, .int .i64 0, .int .i64 (-1), .int .i64 0, .int .u32 0, .int .i64 (R2.Size (IntKind.wrap .u8 (R2.opAt (R2.ix a))))] rfl rfl (by kernel_rfl) (by kernel_rfl) ?_
          refine E.P.nb (E.To.code ?_)
          refine E.C.seq ?_
          refine E.C.region ?_
          refine E.G.val (.agg #[.int .i64 (R2.opAt (R2.ix a)), .int .i64 0, .int .i64 0, .int .i64 (-1), .int .i64 0, .int .u32 0, .int .i64 (R2.Size (IntKind.wrap .u8 (R2.opAt (R2.ix a))))]) (by kernel_rfl) (fun w h => E.run_load h 0 rfl rfl (by kernel_rfl)) ?_
          refine E.G.store 1 [.int .i64 (R2.opAt (R2.ix a)), .int .i64 0, .int .i64 0, .int .i64 (-1), .int .i64 0, .int .u32 0, .int .i64 (R2.Size (IntKind.wrap .u8 (R2.opAt (R2.ix a))))] rfl rfl (by kernel_rfl) (by kernel_rfl) ?_
          refine E.To.code ?_
          refine E.C.ret (E.To.body (fn := Try.f16) [.agg #[.int .i64 (R2.opAt (R2.ix a)), .int .i64 0, .int .i64 0, .int .i64 (-1), .int .i64 0, .int .u32 0, .int .i64 (R2.Size (IntKind.wrap .u8 (R2.opAt (R2.ix a))))]] ?_ ?_)
          · exact ⟨⟨by kernel_rfl, _, _, 1, _, rfl, rfl, by kernel_rfl⟩, trivial⟩
          · intro w h
            exact ⟨by show Ending.returned (.agg #[.int .i64 (R2.opAt (R2.ix a)), .int .i64 0, .int .i64 0, .int .i64 (-1), .int .i64 0, .int .u32 0, .int .i64 (R2.Size (IntKind.wrap .u8 (R2.opAt (R2.ix a))))]) = _; unfold R2.Made; rw [hc194, cond_true], h.ch.bel (fun _ h => h.elim)⟩
        · skip
          refine E.C.seq ?_
          refine E.C.region ?_
          refine E.G.op (.bool ((R2.Format (R2.opAt (R2.ix a))) == 2)) (fun w => by kernel_rfl) (by kernel_rfl) ?_
          refine E.G.op (.bool ((R2.Format (R2.opAt (R2.ix a))) == 2)) (fun w => by kernel_rfl) (by kernel_rfl) ?_
          refine E.To.code ?_
          refine E.C.weak [(1, .pointer (some ⟨g1, 0, none⟩)), (2, .pointer (some ⟨g2, 0, none⟩)), (6, .pointer (some ⟨g193, 0, none⟩)), (7, .int .u32 (IntKind.wrap .u32 x)), (66, .int .i64 (R2.Format (R2.opAt (R2.ix a)))), (71, .bool ((R2.Format (R2.opAt (R2.ix a))) == 2))] [(g193, [.int .i64 (R2.opAt (R2.ix a)), .int .i64 (bits .and .i64 b 7), .int .i64 (bits .and .i64 c 7), .int .i64 (-1), .int .i64 0, .int .u32 0, .int .i64 (R2.Size (IntKind.wrap .u8 (R2.opAt (R2.ix a))))]), (g2, [.int .i64 0, .int .i64 0, .int .i64 0, .int .i64 0, .int .i64 0, .int .u32 0, .int .i64 0]), (g1, [.int .i64 a, .int .i64 b, .int .i64 c, .int .i64 x, .int .i64 y])] ⟨by kernel_rfl, by kernel_rfl⟩ (List.Sublist.refl _) ?_
          refine E.C.cond ((R2.Format (R2.opAt (R2.ix a))) == 2) (by kernel_rfl) (by kernel_rfl) (fun hc195 => ?_) (fun hc195 => ?_)
          · skip
            refine E.C.region ?_
            refine E.G.op (.pointer (some ⟨g193, 2, none⟩)) (fun w => by kernel_rfl) (by kernel_rfl) ?_
            refine E.G.store 0 [.int .i64 (R2.opAt (R2.ix a)), .int .i64 (bits .and .i64 b 7), .int .i64 0, .int .i64 (-1), .int .i64 0, .int .u32 0, .int .i64 (R2.Size (IntKind.wrap .u8 (R2.opAt (R2.ix a))))] rfl rfl (by kernel_rfl) (by kernel_rfl) ?_
            refine E.P.nb (E.To.code ?_)
            refine E.C.seq ?_
            refine E.C.region ?_
            refine E.G.val (.agg #[.int .i64 (R2.opAt (R2.ix a)), .int .i64 (bits .and .i64 b 7), .int .i64 0, .int .i64 (-1), .int .i64 0, .int .u32 0, .int .i64 (R2.Size (IntKind.wrap .u8 (R2.opAt (R2.ix a))))]) (by kernel_rfl) (fun w h => E.run_load h 0 rfl rfl (by kernel_rfl)) ?_
            refine E.G.store 1 [.int .i64 (R2.opAt (R2.ix a)), .int .i64 (bits .and .i64 b 7), .int .i64 0, .int .i64 (-1), .int .i64 0, .int .u32 0, .int .i64 (R2.Size (IntKind.wrap .u8 (R2.opAt (R2.ix a))))] rfl rfl (by kernel_rfl) (by kernel_rfl) ?_
            refine E.To.code ?_
            refine E.C.ret (E.To.body (fn := Try.f16) [.agg #[.int .i64 (R2.opAt (R2.ix a)), .int .i64 (bits .and .i64 b 7), .int .i64 0, .int .i64 (-1), .int .i64 0, .int .u32 0, .int .i64 (R2.Size (IntKind.wrap .u8 (R2.opAt (R2.ix a))))]] ?_ ?_)
            · exact ⟨⟨by kernel_rfl, _, _, 1, _, rfl, rfl, by kernel_rfl⟩, trivial⟩
            · intro w h
              exact ⟨by show Ending.returned (.agg #[.int .i64 (R2.opAt (R2.ix a)), .int .i64 (bits .and .i64 b 7), .int .i64 0, .int .i64 (-1), .int .i64 0, .int .u32 0, .int .i64 (R2.Size (IntKind.wrap .u8 (R2.opAt (R2.ix a))))]) = _; unfold R2.Made; rw [hc194, cond_false, hc195, cond_true], h.ch.bel (fun _ h => h.elim)⟩
          · skip
            refine E.C.seq ?_
            refine E.C.region ?_
            refine E.G.op (.bool ((R2.Format (R2.opAt (R2.ix a))) == 4)) (fun w => by kernel_rfl) (by kernel_rfl) ?_
            refine E.G.op (.bool ((R2.Format (R2.opAt (R2.ix a))) == 4)) (fun w => by kernel_rfl) (by kernel_rfl) ?_
            refine E.To.code ?_
            refine E.C.cond ((R2.Format (R2.opAt (R2.ix a))) == 4) (by kernel_rfl) (by kernel_rfl) (fun hc196 => ?_) (fun hc196 => ?_)
            · skip
              refine E.C.seq ?_
              refine E.C.region ?_
              refine E.G.op (.pointer (some ⟨g193, 2, none⟩)) (fun w => by kernel_rfl) (by kernel_rfl) ?_
              refine E.G.store 0 [.int .i64 (R2.opAt (R2.ix a)), .int .i64 (bits .and .i64 b 7), .int .i64 0, .int .i64 (-1), .int .i64 0, .int .u32 0, .int .i64 (R2.Size (IntKind.wrap .u8 (R2.opAt (R2.ix a))))] rfl rfl (by kernel_rfl) (by kernel_rfl) ?_
              refine E.To.code ?_
              refine E.C.region ?_
              refine E.G.op (.int .u32 (IntKind.wrap .u32 x)) (fun w => by kernel_rfl) (by kernel_rfl) ?_
              refine E.G.op (.int .u8 (IntKind.wrap .u8 (IntKind.wrap .u32 x))) (fun w => by kernel_rfl) (by kernel_rfl) ?_
              refine E.G.call (.int .u32 (R2.extend (IntKind.wrap .u8 (IntKind.wrap .u32 x)))) (fun w h => R2_extend _ w) (fun w _ => by kernel_rfl) (by kernel_rfl) ?_
              refine E.G.op (.pointer (some ⟨g193, 5, none⟩)) (fun w => by kernel_rfl) (by kernel_rfl) ?_
              refine E.G.store 0 [.int .i64 (R2.opAt (R2.ix a)), .int .i64 (bits .and .i64 b 7), .int .i64 0, .int .i64 (-1), .int .i64 0, .int .u32 (R2.extend (IntKind.wrap .u8 (IntKind.wrap .u32 x))), .int .i64 (R2.Size (IntKind.wrap .u8 (R2.opAt (R2.ix a))))] rfl rfl (by kernel_rfl) (by kernel_rfl) ?_
              refine E.P.nb (E.To.code ?_)
              refine E.C.weak [(2, .pointer (some ⟨g2, 0, none⟩)), (6, .pointer (some ⟨g193, 0, none⟩))] [(g193, [.int .i64 (R2.opAt (R2.ix a)), .int .i64 (bits .and .i64 b 7), .int .i64 0, .int .i64 (-1), .int .i64 0, .int .u32 (R2.extend (IntKind.wrap .u8 (IntKind.wrap .u32 x))), .int .i64 (R2.Size (IntKind.wrap .u8 (R2.opAt (R2.ix a))))]), (g2, [.int .i64 0, .int .i64 0, .int .i64 0, .int .i64 0, .int .i64 0, .int .u32 0, .int .i64 0])] ⟨by kernel_rfl, by kernel_rfl⟩ (List.Sublist.cons_cons _ (List.Sublist.cons_cons _ (List.nil_sublist _))) ?_
              refine E.C.seq ?_
              refine E.C.region ?_
              refine E.G.val (.agg #[.int .i64 (R2.opAt (R2.ix a)), .int .i64 (bits .and .i64 b 7), .int .i64 0, .int .i64 (-1), .int .i64 0, .int .u32 (R2.extend (IntKind.wrap .u8 (IntKind.wrap .u32 x))), .int .i64 (R2.Size (IntKind.wrap .u8 (R2.opAt (R2.ix a))))]) (by kernel_rfl) (fun w h => E.run_load h 0 rfl rfl (by kernel_rfl)) ?_
              refine E.G.store 1 [.int .i64 (R2.opAt (R2.ix a)), .int .i64 (bits .and .i64 b 7), .int .i64 0, .int .i64 (-1), .int .i64 0, .int .u32 (R2.extend (IntKind.wrap .u8 (IntKind.wrap .u32 x))), .int .i64 (R2.Size (IntKind.wrap .u8 (R2.opAt (R2.ix a))))] rfl rfl (by kernel_rfl) (by kernel_rfl) ?_
              refine E.To.code ?_
              refine E.C.ret (E.To.body (fn := Try.f16) [.agg #[.int .i64 (R2.opAt (R2.ix a)), .int .i64 (bits .and .i64 b 7), .int .i64 0, .int .i64 (-1), .int .i64 0, .int .u32 (R2.extend (IntKind.wrap .u8 (IntKind.wrap .u32 x))), .int .i64 (R2.Size (IntKind.wrap .u8 (R2.opAt (R2.ix a))))]] ?_ ?_)
              · exact ⟨⟨by kernel_rfl, _, _, 1, _, rfl, rfl, by kernel_rfl⟩, trivial⟩
              · intro w h
                exact ⟨by show Ending.returned (.agg #[.int .i64 (R2.opAt (R2.ix a)), .int .i64 (bits .and .i64 b 7), .int .i64 0, .int .i64 (-1), .int .i64 0, .int .u32 (R2.extend (IntKind.wrap .u8 (IntKind.wrap .u32 x))), .int .i64 (R2.Size (IntKind.wrap .u8 (R2.opAt (R2.ix a))))]) = _; unfold R2.Made; rw [hc194, cond_false, hc195, cond_false, hc196, cond_true], h.ch.bel (fun _ h => h.elim)⟩
            · skip
              refine E.C.seq ?_
              refine E.C.region ?_
              refine E.G.op (.bool ((R2.Format (R2.opAt (R2.ix a))) == 5)) (fun w => by kernel_rfl) (by kernel_rfl) ?_
              refine E.G.op (.bool ((R2.Format (R2.opAt (R2.ix a))) == 5)) (fun w => by kernel_rfl) (by kernel_rfl) ?_
              refine E.To.code ?_
              refine E.C.cond ((R2.Format (R2.opAt (R2.ix a))) == 5) (by kernel_rfl) (by kernel_rfl) (fun hc197 => ?_) (fun hc197 => ?_)
              · skip
                refine E.C.seq ?_
                refine E.C.region ?_
                refine E.G.op (.pointer (some ⟨g193, 2, none⟩)) (fun w => by kernel_rfl) (by kernel_rfl) ?_
                refine E.G.store 0 [.int .i64 (R2.opAt (R2.ix a)), .int .i64 (bits .and .i64 b 7), .int .i64 0, .int .i64 (-1), .int .i64 0, .int .u32 0, .int .i64 (R2.Size (IntKind.wrap .u8 (R2.opAt (R2.ix a))))] rfl rfl (by kernel_rfl) (by kernel_rfl) ?_
                refine E.To.code ?_
                refine E.C.weak [(2, .pointer (some ⟨g2, 0, none⟩)), (6, .pointer (some ⟨g193, 0, none⟩)), (7, .int .u32 (IntKind.wrap .u32 x))] [(g193, [.int .i64 (R2.opAt (R2.ix a)), .int .i64 (bits .and .i64 b 7), .int .i64 0, .int .i64 (-1), .int .i64 0, .int .u32 0, .int .i64 (R2.Size (IntKind.wrap .u8 (R2.opAt (R2.ix a))))]), (g2, [.int .i64 0, .int .i64 0, .int .i64 0, .int .i64 0, .int .i64 0, .int .u32 0, .int .i64 0])] ⟨by kernel_rfl, by kernel_rfl⟩ (List.Sublist.cons_cons _ (List.Sublist.cons_cons _ (List.nil_sublist _))) ?_
                refine E.C.region ?_
                refine E.G.op (.int .u32 (IntKind.wrap .u32 x)) (fun w => by kernel_rfl) (by kernel_rfl) ?_
                refine E.G.op (.pointer (some ⟨g193, 5, none⟩)) (fun w => by kernel_rfl) (by kernel_rfl) ?_
                refine E.G.store 0 [.int .i64 (R2.opAt (R2.ix a)), .int .i64 (bits .and .i64 b 7), .int .i64 0, .int .i64 (-1), .int .i64 0, .int .u32 (IntKind.wrap .u32 x), .int .i64 (R2.Size (IntKind.wrap .u8 (R2.opAt (R2.ix a))))] rfl rfl (by kernel_rfl) (by kernel_rfl) ?_
                refine E.P.nb (E.To.code ?_)
                refine E.C.seq ?_
                refine E.C.region ?_
                refine E.G.val (.agg #[.int .i64 (R2.opAt (R2.ix a)), .int .i64 (bits .and .i64 b 7), .int .i64 0, .int .i64 (-1), .int .i64 0, .int .u32 (IntKind.wrap .u32 x), .int .i64 (R2.Size (IntKind.wrap .u8 (R2.opAt (R2.ix a))))]) (by kernel_rfl) (fun w h => E.run_load h 0 rfl rfl (by kernel_rfl)) ?_
                refine E.G.store 1 [.int .i64 (R2.opAt (R2.ix a)), .int .i64 (bits .and .i64 b 7), .int .i64 0, .int .i64 (-1), .int .i64 0, .int .u32 (IntKind.wrap .u32 x), .int .i64 (R2.Size (IntKind.wrap .u8 (R2.opAt (R2.ix a))))] rfl rfl (by kernel_rfl) (by kernel_rfl) ?_
                refine E.To.code ?_
                refine E.C.ret (E.To.body (fn := Try.f16) [.agg #[.int .i64 (R2.opAt (R2.ix a)), .int .i64 (bits .and .i64 b 7), .int .i64 0, .int .i64 (-1), .int .i64 0, .int .u32 (IntKind.wrap .u32 x), .int .i64 (R2.Size (IntKind.wrap .u8 (R2.opAt (R2.ix a))))]] ?_ ?_)
                · exact ⟨⟨by kernel_rfl, _, _, 1, _, rfl, rfl, by kernel_rfl⟩, trivial⟩
                · intro w h
                  exact ⟨by show Ending.returned (.agg #[.int .i64 (R2.opAt (R2.ix a)), .int .i64 (bits .and .i64 b 7), .int .i64 0, .int .i64 (-1), .int .i64 0, .int .u32 (IntKind.wrap .u32 x), .int .i64 (R2.Size (IntKind.wrap .u8 (R2.opAt (R2.ix a))))]) = _; unfold R2.Made; rw [hc194, cond_false, hc195, cond_false, hc196, cond_false, hc197, cond_true], h.ch.bel (fun _ h => h.elim)⟩
              · skip
                refine E.C.seq ?_
                refine E.C.region ?_
                refine E.G.op (.bool ((R2.Format (R2.opAt (R2.ix a))) == 6)) (fun w => by kernel_rfl) (by kernel_rfl) ?_
                refine E.G.op (.bool ((R2.Format (R2.opAt (R2.ix a))) == 6)) (fun w => by kernel_rfl) (by kernel_rfl) ?_
                refine E.To.code ?_
                refine E.C.cond ((R2.Format (R2.opAt (R2.ix a))) == 6) (by kernel_rfl) (by kernel_rfl) (fun hc198 => ?_) (fun hc198 => ?_)
                · skip
                  refine E.C.region ?_
                  refine E.G.op (.int .u32 (IntKind.wrap .u32 x)) (fun w => by kernel_rfl) (by kernel_rfl) ?_
                  refine E.G.op (.int .u8 (IntKind.wrap .u8 (IntKind.wrap .u32 x))) (fun w => by kernel_rfl) (by kernel_rfl) ?_
                  refine E.G.call (.int .u32 (R2.extend (IntKind.wrap .u8 (IntKind.wrap .u32 x)))) (fun w h => R2_extend _ w) (fun w _ => by kernel_rfl) (by kernel_rfl) ?_
                  refine E.G.op (.pointer (some ⟨g193, 5, none⟩)) (fun w => by kernel_rfl) (by kernel_rfl) ?_
                  refine E.G.store 0 [.int .i64 (R2.opAt (R2.ix a)), .int .i64 (bits .and .i64 b 7), .int .i64 (bits .and .i64 c 7), .int .i64 (-1), .int .i64 0, .int .u32 (R2.extend (IntKind.wrap .u8 (IntKind.wrap .u32 x))), .int .i64 (R2.Size (IntKind.wrap .u8 (R2.opAt (R2.ix a))))] rfl rfl (by kernel_rfl) (by kernel_rfl) ?_
                  refine E.P.nb (E.To.code ?_)
                  refine E.C.weak [(2, .pointer (some ⟨g2, 0, none⟩)), (6, .pointer (some ⟨g193, 0, none⟩))] [(g193, [.int .i64 (R2.opAt (R2.ix a)), .int .i64 (bits .and .i64 b 7), .int .i64 (bits .and .i64 c 7), .int .i64 (-1), .int .i64 0, .int .u32 (R2.extend (IntKind.wrap .u8 (IntKind.wrap .u32 x))), .int .i64 (R2.Size (IntKind.wrap .u8 (R2.opAt (R2.ix a))))]), (g2, [.int .i64 0, .int .i64 0, .int .i64 0, .int .i64 0, .int .i64 0, .int .u32 0, .int .i64 0])] ⟨by kernel_rfl, by kernel_rfl⟩ (List.Sublist.cons_cons _ (List.Sublist.cons_cons _ (List.nil_sublist _))) ?_
                  refine E.C.seq ?_
                  refine E.C.region ?_
                  refine E.G.val (.agg #[.int .i64 (R2.opAt (R2.ix a)), .int .i64 (bits .and .i64 b 7), .int .i64 (bits .and .i64 c 7), .int .i64 (-1), .int .i64 0, .int .u32 (R2.extend (IntKind.wrap .u8 (IntKind.wrap .u32 x))), .int .i64 (R2.Size (IntKind.wrap .u8 (R2.opAt (R2.ix a))))]) (by kernel_rfl) (fun w h => E.run_load h 0 rfl rfl (by kernel_rfl)) ?_
                  refine E.G.store 1 [.int .i64 (R2.opAt (R2.ix a)), .int .i64 (bits .and .i64 b 7), .int .i64 (bits .and .i64 c 7), .int .i64 (-1), .int .i64 0, .int .u32 (R2.extend (IntKind.wrap .u8 (IntKind.wrap .u32 x))), .int .i64 (R2.Size (IntKind.wrap .u8 (R2.opAt (R2.ix a))))] rfl rfl (by kernel_rfl) (by kernel_rfl) ?_
                  refine E.To.code ?_
                  refine E.C.ret (E.To.body (fn := Try.f16) [.agg #[.int .i64 (R2.opAt (R2.ix a)), .int .i64 (bits .and .i64 b 7), .int .i64 (bits .and .i64 c 7), .int .i64 (-1), .int .i64 0, .int .u32 (R2.extend (IntKind.wrap .u8 (IntKind.wrap .u32 x))), .int .i64 (R2.Size (IntKind.wrap .u8 (R2.opAt (R2.ix a))))]] ?_ ?_)
                  · exact ⟨⟨by kernel_rfl, _, _, 1, _, rfl, rfl, by kernel_rfl⟩, trivial⟩
                  · intro w h
                    exact ⟨by show Ending.returned (.agg #[.int .i64 (R2.opAt (R2.ix a)), .int .i64 (bits .and .i64 b 7), .int .i64 (bits .and .i64 c 7), .int .i64 (-1), .int .i64 0, .int .u32 (R2.extend (IntKind.wrap .u8 (IntKind.wrap .u32 x))), .int .i64 (R2.Size (IntKind.wrap .u8 (R2.opAt (R2.ix a))))]) = _; unfold R2.Made; rw [hc194, cond_false, hc195, cond_false, hc196, cond_false, hc197, cond_false, hc198, cond_true], h.ch.bel (fun _ h => h.elim)⟩
                · skip
                  refine E.C.seq ?_
                  refine E.C.region ?_
                  refine E.G.op (.bool ((R2.Format (R2.opAt (R2.ix a))) == 7)) (fun w => by kernel_rfl) (by kernel_rfl) ?_
                  refine E.G.op (.bool ((R2.Format (R2.opAt (R2.ix a))) == 7)) (fun w => by kernel_rfl) (by kernel_rfl) ?_
                  refine E.To.code ?_
                  refine E.C.weak [(1, .pointer (some ⟨g1, 0, none⟩)), (2, .pointer (some ⟨g2, 0, none⟩)), (6, .pointer (some ⟨g193, 0, none⟩)), (7, .int .u32 (IntKind.wrap .u32 x)), (66, .int .i64 (R2.Format (R2.opAt (R2.ix a)))), (92, .bool ((R2.Format (R2.opAt (R2.ix a))) == 7))] [(g193, [.int .i64 (R2.opAt (R2.ix a)), .int .i64 (bits .and .i64 b 7), .int .i64 (bits .and .i64 c 7), .int .i64 (-1), .int .i64 0, .int .u32 0, .int .i64 (R2.Size (IntKind.wrap .u8 (R2.opAt (R2.ix a))))]), (g2, [.int .i64 0, .int .i64 0, .int .i64 0, .int .i64 0, .int .i64 0, .int .u32 0, .int .i64 0]), (g1, [.int .i64 a, .int .i64 b, .int .i64 c, .int .i64 x, .int .i64 y])] ⟨by kernel_rfl, by kernel_rfl⟩ (List.Sublist.refl _) ?_
                  refine E.C.cond ((R2.Format (R2.opAt (R2.ix a))) == 7) (by kernel_rfl) (by kernel_rfl) (fun hc199 => ?_) (fun hc199 => ?_)
                  · skip
                    refine E.C.seq ?_
                    refine E.C.region ?_
                    refine E.G.op (.int .u32 (IntKind.wrap .u32 x)) (fun w => by kernel_rfl) (by kernel_rfl) ?_
                    refine E.G.op (.pointer (some ⟨g193, 5, none⟩)) (fun w => by kernel_rfl) (by kernel_rfl) ?_
                    refine E.G.store 0 [.int .i64 (R2.opAt (R2.ix a)), .int .i64 (bits .and .i64 b 7), .int .i64 (bits .and .i64 c 7), .int .i64 (-1), .int .i64 0, .int .u32 (IntKind.wrap .u32 x), .int .i64 (R2.Size (IntKind.wrap .u8 (R2.opAt (R2.ix a))))] rfl rfl (by kernel_rfl) (by kernel_rfl) ?_
                    refine E.To.code ?_
                    refine E.C.seq ?_
                    refine E.C.region ?_
                    refine E.G.op (.pointer (some ⟨g1, 4, none⟩)) (fun w => by kernel_rfl) (by kernel_rfl) ?_
                    refine E.G.val (.int .i64 y) (by kernel_rfl) (fun w h => E.run_load h 2 rfl rfl (by kernel_rfl)) ?_
                    refine E.G.op (.int .i64 (bits .and .i64 y 1)) (fun w => by kernel_rfl) (by kernel_rfl) ?_
                    refine E.G.op (.bool ((bits .and .i64 y 1) == 1)) (fun w => by kernel_rfl) (by kernel_rfl) ?_
                    refine E.To.code ?_
                    refine E.C.weak [(1, .pointer (some ⟨g1, 0, none⟩)), (2, .pointer (some ⟨g2, 0, none⟩)), (6, .pointer (some ⟨g193, 0, none⟩)), (99, .bool ((bits .and .i64 y 1) == 1))] [(g193, [.int .i64 (R2.opAt (R2.ix a)), .int .i64 (bits .and .i64 b 7), .int .i64 (bits .and .i64 c 7), .int .i64 (-1), .int .i64 0, .int .u32 (IntKind.wrap .u32 x), .int .i64 (R2.Size (IntKind.wrap .u8 (R2.opAt (R2.ix a))))]), (g2, [.int .i64 0, .int .i64 0, .int .i64 0, .int .i64 0, .int .i64 0, .int .u32 0, .int .i64 0]), (g1, [.int .i64 a, .int .i64 b, .int .i64 c, .int .i64 x, .int .i64 y])] ⟨by kernel_rfl, by kernel_rfl⟩ (List.Sublist.refl _) ?_
                    refine E.C.cond ((bits .and .i64 y 1) == 1) (by kernel_rfl) (by kernel_rfl) (fun hc200 => ?_) (fun hc200 => ?_)
                    · skip
                      refine E.C.seq ?_
                      refine E.C.region ?_
                      refine E.G.op (.pointer (some ⟨g1, 4, none⟩)) (fun w => by kernel_rfl) (by kernel_rfl) ?_
                      refine E.G.val (.int .i64 y) (by kernel_rfl) (fun w h => E.run_load h 2 rfl rfl (by kernel_rfl)) ?_
                      refine E.G.op (.int .i64 (Int.fdiv y (2 ^ 1))) (fun w => by kernel_rfl) (by kernel_rfl) ?_
                      refine E.G.op (.int .i64 (bits .and .i64 (Int.fdiv y (2 ^ 1)) 7)) (fun w => by kernel_rfl) (by kernel_rfl) ?_
                      refine E.G.op (.pointer (some ⟨g193, 3, none⟩)) (fun w => by kernel_rfl) (by kernel_rfl) ?_
                      refine E.G.store 0 [.int .i64 (R2.opAt (R2.ix a)), .int .i64 (bits .and .i64 b 7), .int .i64 (bits .and .i64 c 7), .int .i64 (bits .and .i64 (Int.fdiv y (2 ^ 1)) 7), .int .i64 0, .int .u32 (IntKind.wrap .u32 x), .int .i64 (R2.Size (IntKind.wrap .u8 (R2.opAt (R2.ix a))))] rfl rfl (by kernel_rfl) (by kernel_rfl) ?_
                      refine E.To.code ?_
                      refine E.C.region ?_
                      refine E.G.op (.pointer (some ⟨g1, 4, none⟩)) (fun w => by kernel_rfl) (by kernel_rfl) ?_
                      refine E.G.val (.int .i64 y) (by kernel_rfl) (fun w h => E.run_load h 2 rfl rfl (by kernel_rfl)) ?_
                      refine E.G.op (.int .i64 (Int.fdiv y (2 ^ 4))) (fun w => by kernel_rfl) (by kernel_rfl) ?_
                      refine E.G.op (.int .i64 (bits .and .i64 (Int.fdiv y (2 ^ 4)) 3)) (fun w => by kernel_rfl) (by kernel_rfl) ?_
                      refine E.G.op (.pointer (some ⟨g193, 4, none⟩)) (fun w => by kernel_rfl) (by kernel_rfl) ?_
                      refine E.G.store 0 [.int .i64 (R2.opAt (R2.ix a)), .int .i64 (bits .and .i64 b 7), .int .i64 (bits .and .i64 c 7), .int .i64 (bits .and .i64 (Int.fdiv y (2 ^ 1)) 7), .int .i64 (bits .and .i64 (Int.fdiv y (2 ^ 4)) 3), .int .u32 (IntKind.wrap .u32 x), .int .i64 (R2.Size (IntKind.wrap .u8 (R2.opAt (R2.ix a))))] rfl rfl (by kernel_rfl) (by kernel_rfl) ?_
                      refine E.P.nb (E.To.code ?_)
                      refine E.C.weak [(2, .pointer (some ⟨g2, 0, none⟩)), (6, .pointer (some ⟨g193, 0, none⟩))] [(g193, [.int .i64 (R2.opAt (R2.ix a)), .int .i64 (bits .and .i64 b 7), .int .i64 (bits .and .i64 c 7), .int .i64 (bits .and .i64 (Int.fdiv y (2 ^ 1)) 7), .int .i64 (bits .and .i64 (Int.fdiv y (2 ^ 4)) 3), .int .u32 (IntKind.wrap .u32 x), .int .i64 (R2.Size (IntKind.wrap .u8 (R2.opAt (R2.ix a))))]), (g2, [.int .i64 0, .int .i64 0, .int .i64 0, .int .i64 0, .int .i64 0, .int .u32 0, .int .i64 0])] ⟨by kernel_rfl, by kernel_rfl⟩ (List.Sublist.cons_cons _ (List.Sublist.cons_cons _ (List.nil_sublist _))) ?_
                      refine E.C.seq ?_
                      refine E.C.region ?_
                      refine E.G.val (.agg #[.int .i64 (R2.opAt (R2.ix a)), .int .i64 (bits .and .i64 b 7), .int .i64 (bits .and .i64 c 7), .int .i64 (bits .and .i64 (Int.fdiv y (2 ^ 1)) 7), .int .i64 (bits .and .i64 (Int.fdiv y (2 ^ 4)) 3), .int .u32 (IntKind.wrap .u32 x), .int .i64 (R2.Size (IntKind.wrap .u8 (R2.opAt (R2.ix a))))]) (by kernel_rfl) (fun w h => E.run_load h 0 rfl rfl (by kernel_rfl)) ?_
                      refine E.G.store 1 [.int .i64 (R2.opAt (R2.ix a)), .int .i64 (bits .and .i64 b 7), .int .i64 (bits .and .i64 c 7), .int .i64 (bits .and .i64 (Int.fdiv y (2 ^ 1)) 7), .int .i64 (bits .and .i64 (Int.fdiv y (2 ^ 4)) 3), .int .u32 (IntKind.wrap .u32 x), .int .i64 (R2.Size (IntKind.wrap .u8 (R2.opAt (R2.ix a))))] rfl rfl (by kernel_rfl) (by kernel_rfl) ?_
                      refine E.To.code ?_
                      refine E.C.ret (E.To.body (fn := Try.f16) [.agg #[.int .i64 (R2.opAt (R2.ix a)), .int .i64 (bits .and .i64 b 7), .int .i64 (bits .and .i64 c 7), .int .i64 (bits .and .i64 (Int.fdiv y (2 ^ 1)) 7), .int .i64 (bits .and .i64 (Int.fdiv y (2 ^ 4)) 3), .int .u32 (IntKind.wrap .u32 x), .int .i64 (R2.Size (IntKind.wrap .u8 (R2.opAt (R2.ix a))))]] ?_ ?_)
                      · exact ⟨⟨by kernel_rfl, _, _, 1, _, rfl, rfl, by kernel_rfl⟩, trivial⟩
                      · intro w h
                        exact ⟨by show Ending.returned (.agg #[.int .i64 (R2.opAt (R2.ix a)), .int .i64 (bits .and .i64 b 7), .int .i64 (bits .and .i64 c 7), .int .i64 (bits .and .i64 (Int.fdiv y (2 ^ 1)) 7), .int .i64 (bits .and .i64 (Int.fdiv y (2 ^ 4)) 3), .int .u32 (IntKind.wrap .u32 x), .int .i64 (R2.Size (IntKind.wrap .u8 (R2.opAt (R2.ix a))))]) = _; unfold R2.Made; rw [hc194, cond_false, hc195, cond_false, hc196, cond_false, hc197, cond_false, hc198, cond_false, hc199, cond_true, hc200, cond_true], h.ch.bel (fun _ h => h.elim)⟩
                    · skip
                      refine E.C.skip (E.P.nb (E.To.code ?_))
                      refine E.C.seq ?_
                      refine E.C.region ?_
                      refine E.G.val (.agg #[.int .i64 (R2.opAt (R2.ix a)), .int .i64 (bits .and .i64 b 7), .int .i64 (bits .and .i64 c 7), .int .i64 (-1), .int .i64 0, .int .u32 (IntKind.wrap .u32 x), .int .i64 (R2.Size (IntKind.wrap .u8 (R2.opAt (R2.ix a))))]) (by kernel_rfl) (fun w h => E.run_load h 0 rfl rfl (by kernel_rfl)) ?_
                      refine E.G.store 1 [.int .i64 (R2.opAt (R2.ix a)), .int .i64 (bits .and .i64 b 7), .int .i64 (bits .and .i64 c 7), .int .i64 (-1), .int .i64 0, .int .u32 (IntKind.wrap .u32 x), .int .i64 (R2.Size (IntKind.wrap .u8 (R2.opAt (R2.ix a))))] rfl rfl (by kernel_rfl) (by kernel_rfl) ?_
                      refine E.To.code ?_
                      refine E.C.ret (E.To.body (fn := Try.f16) [.agg #[.int .i64 (R2.opAt (R2.ix a)), .int .i64 (bits .and .i64 b 7), .int .i64 (bits .and .i64 c 7), .int .i64 (-1), .int .i64 0, .int .u32 (IntKind.wrap .u32 x), .int .i64 (R2.Size (IntKind.wrap .u8 (R2.opAt (R2.ix a))))]] ?_ ?_)
                      · exact ⟨⟨by kernel_rfl, _, _, 1, _, rfl, rfl, by kernel_rfl⟩, trivial⟩
                      · intro w h
                        exact ⟨by show Ending.returned (.agg #[.int .i64 (R2.opAt (R2.ix a)), .int .i64 (bits .and .i64 b 7), .int .i64 (bits .and .i64 c 7), .int .i64 (-1), .int .i64 0, .int .u32 (IntKind.wrap .u32 x), .int .i64 (R2.Size (IntKind.wrap .u8 (R2.opAt (R2.ix a))))]) = _; unfold R2.Made; rw [hc194, cond_false, hc195, cond_false, hc196, cond_false, hc197, cond_false, hc198, cond_false, hc199, cond_true, hc200, cond_false], h.ch.bel (fun _ h => h.elim)⟩
                  · skip
                    refine E.C.seq ?_
                    refine E.C.seq ?_
                    refine E.C.region ?_
                    refine E.G.op (.bool ((R2.Format (R2.opAt (R2.ix a))) == 8)) (fun w => by kernel_rfl) (by kernel_rfl) ?_
                    refine E.G.op (.bool ((R2.Format (R2.opAt (R2.ix a))) == 8)) (fun w => by kernel_rfl) (by kernel_rfl) ?_
                    refine E.To.code ?_
                    refine E.C.cond ((R2.Format (R2.opAt (R2.ix a))) == 8) (by kernel_rfl) (by kernel_rfl) (fun hc201 => ?_) (fun hc201 => ?_)
                    · skip
                      refine E.C.skip (E.To.code ?_)
                      refine E.C.cond ((R2.Format (R2.opAt (R2.ix a))) == 8) (by kernel_rfl) (by kernel_rfl) (fun hc202 => ?_) (fun hc202 => absurd (hc201.symm.trans hc202) (by decide))
                      refine E.C.seq ?_
                      refine E.C.region ?_
                      refine E.G.op (.pointer (some ⟨g193, 1, none⟩)) (fun w => by kernel_rfl) (by kernel_rfl) ?_
                      refine E.G.store 0 [.int .i64 (R2.opAt (R2.ix a)), .int .i64 0, .int .i64 (bits .and .i64 c 7), .int .i64 (-1), .int .i64 0, .int .u32 0, .int .i64 (R2.Size (IntKind.wrap .u8 (R2.opAt (R2.ix a))))] rfl rfl (by kernel_rfl) (by kernel_rfl) ?_
                      refine E.To.code ?_
                      refine E.C.seq ?_
                      refine E.C.region ?_
                      refine E.G.op (.pointer (some ⟨g193, 2, none⟩)) (fun w => by kernel_rfl) (by kernel_rfl) ?_
                      refine E.G.store 0 [.int .i64 (R2.opAt (R2.ix a)), .int .i64 0, .int .i64 0, .int .i64 (-1), .int .i64 0, .int .u32 0, .int .i64 (R2.Size (IntKind.wrap .u8 (R2.opAt (R2.ix a))))] rfl rfl (by kernel_rfl) (by kernel_rfl) ?_
                      refine E.To.code ?_
                      refine E.C.seq ?_
                      refine E.C.region ?_
                      refine E.G.op (.int .u32 (IntKind.wrap .u32 x)) (fun w => by kernel_rfl) (by kernel_rfl) ?_
                      refine E.G.op (.pointer (some ⟨g193, 5, none⟩)) (fun w => by kernel_rfl) (by kernel_rfl) ?_
                      refine E.G.store 0 [.int .i64 (R2.opAt (R2.ix a)), .int .i64 0, .int .i64 0, .int .i64 (-1), .int .i64 0, .int .u32 (IntKind.wrap .u32 x), .int .i64 (R2.Size (IntKind.wrap .u8 (R2.opAt (R2.ix a))))] rfl rfl (by kernel_rfl) (by kernel_rfl) ?_
                      refine E.To.code ?_
                      refine E.C.weak [(1, .pointer (some ⟨g1, 0, none⟩)), (2, .pointer (some ⟨g2, 0, none⟩)), (6, .pointer (some ⟨g193, 0, none⟩)), (7, .int .u32 (IntKind.wrap .u32 x))] [(g193, [.int .i64 (R2.opAt (R2.ix a)), .int .i64 0, .int .i64 0, .int .i64 (-1), .int .i64 0, .int .u32 (IntKind.wrap .u32 x), .int .i64 (R2.Size (IntKind.wrap .u8 (R2.opAt (R2.ix a))))]), (g2, [.int .i64 0, .int .i64 0, .int .i64 0, .int .i64 0, .int .i64 0, .int .u32 0, .int .i64 0]), (g1, [.int .i64 a, .int .i64 b, .int .i64 c, .int .i64 x, .int .i64 y])] ⟨by kernel_rfl, by kernel_rfl⟩ (List.Sublist.refl _) ?_
                      refine E.C.seq ?_
                      refine E.C.seq ?_
                      refine E.C.region ?_
                      refine E.G.op (.pointer (some ⟨g193, 0, none⟩)) (fun w => by kernel_rfl) (by kernel_rfl) ?_
                      refine E.G.val (.int .i64 (R2.opAt (R2.ix a))) (by kernel_rfl) (fun w h => E.run_load h 0 rfl rfl (by kernel_rfl)) ?_
                      refine E.G.call (.int .i64 (R2.Format (R2.opAt (R2.ix a)))) (fun w h => R2_Format _ w) (fun w _ => by kernel_rfl) (by kernel_rfl) ?_
                      refine E.G.op (.bool ((R2.Format (R2.opAt (R2.ix a))) == 8)) (fun w => by kernel_rfl) (by kernel_rfl) ?_
                      refine E.To.code ?_
                      refine E.C.cond ((R2.Format (R2.opAt (R2.ix a))) == 8) (by kernel_rfl) (by kernel_rfl) (fun hc203 => ?_) (fun hc203 => absurd (hc201.symm.trans hc203) (by decide))
                      refine E.C.seq ?_
                      refine E.C.region ?_
                      refine E.G.op (.pointer (some ⟨g1, 4, none⟩)) (fun w => by kernel_rfl) (by kernel_rfl) ?_
                      refine E.G.val (.int .i64 y) (by kernel_rfl) (fun w h => E.run_load h 2 rfl rfl (by kernel_rfl)) ?_
                      refine E.G.op (.int .i64 (bits .and .i64 y 65535)) (fun w => by kernel_rfl) (by kernel_rfl) ?_
                      refine E.G.op (.int .i64 (Int.tmod (bits .and .i64 y 65535) 14)) (fun w => by kernel_rfl) (by kernel_rfl) ?_
                      refine E.G.op (.int .i64 (IntKind.wrap .i64 (96 + (Int.tmod (bits .and .i64 y 65535) 14)))) (fun w => by kernel_rfl) (by kernel_rfl) ?_
                      refine E.G.op (.pointer (some ⟨g193, 0, none⟩)) (fun w => by kernel_rfl) (by kernel_rfl) ?_
                      refine E.G.store 0 [.int .i64 (IntKind.wrap .i64 (96 + (Int.tmod (bits .and .i64 y 65535) 14))), .int .i64 0, .int .i64 0, .int .i64 (-1), .int .i64 0, .int .u32 (IntKind.wrap .u32 x), .int .i64 (R2.Size (IntKind.wrap .u8 (R2.opAt (R2.ix a))))] rfl rfl (by kernel_rfl) (by kernel_rfl) ?_
                      refine E.To.code ?_
                      refine E.C.weak [(2, .pointer (some ⟨g2, 0, none⟩)), (6, .pointer (some ⟨g193, 0, none⟩)), (7, .int .u32 (IntKind.wrap .u32 x))] [(g193, [.int .i64 (IntKind.wrap .i64 (96 + (Int.tmod (bits .and .i64 y 65535) 14))), .int .i64 0, .int .i64 0, .int .i64 (-1), .int .i64 0, .int .u32 (IntKind.wrap .u32 x), .int .i64 (R2.Size (IntKind.wrap .u8 (R2.opAt (R2.ix a))))]), (g2, [.int .i64 0, .int .i64 0, .int .i64 0, .int .i64 0, .int .i64 0, .int .u32 0, .int .i64 0])] ⟨by kernel_rfl, by kernel_rfl⟩ (List.Sublist.cons_cons _ (List.Sublist.cons_cons _ (List.nil_sublist _))) ?_
                      refine E.C.region ?_
                      refine E.G.op (.int .u32 (IntKind.wrap .u32 x)) (fun w => by kernel_rfl) (by kernel_rfl) ?_
                      refine E.G.op (.int .u8 (IntKind.wrap .u8 (IntKind.wrap .u32 x))) (fun w => by kernel_rfl) (by kernel_rfl) ?_
                      refine E.G.call (.int .u32 (R2.extend (IntKind.wrap .u8 (IntKind.wrap .u32 x)))) (fun w h => R2_extend _ w) (fun w _ => by kernel_rfl) (by kernel_rfl) ?_
                      refine E.G.op (.pointer (some ⟨g193, 5, none⟩)) (fun w => by kernel_rfl) (by kernel_rfl) ?_
                      refine E.G.store 0 [.int .i64 (IntKind.wrap .i64 (96 + (Int.tmod (bits .and .i64 y 65535) 14))), .int .i64 0, .int .i64 0, .int .i64 (-1), .int .i64 0, .int .u32 (R2.extend (IntKind.wrap .u8 (IntKind.wrap .u32 x))), .int .i64 (R2.Size (IntKind.wrap .u8 (R2.opAt (R2.ix a))))] rfl rfl (by kernel_rfl) (by kernel_rfl) ?_
                      refine E.To.code ?_
                      refine E.C.seq ?_
                      refine E.C.region ?_
                      refine E.G.op (.pointer (some ⟨g193, 0, none⟩)) (fun w => by kernel_rfl) (by kernel_rfl) ?_
                      refine E.G.val (.int .i64 (IntKind.wrap .i64 (96 + (Int.tmod (bits .and .i64 y 65535) 14)))) (by kernel_rfl) (fun w h => E.run_load h 0 rfl rfl (by kernel_rfl)) ?_
                      refine E.G.call (.int .i64 (R2.Format (IntKind.wrap .i64 (96 + (Int.tmod (bits .and .i64 y 65535) 14))))) (fun w h => R2_Format _ w) (fun w _ => by kernel_rfl) (by kernel_rfl) ?_
                      refine E.G.op (.bool ((R2.Format (IntKind.wrap .i64 (96 + (Int.tmod (bits .and .i64 y 65535) 14)))) == 10)) (fun w => by kernel_rfl) (by kernel_rfl) ?_
                      refine E.To.code ?_
                      refine E.C.cond ((R2.Format (IntKind.wrap .i64 (96 + (Int.tmod (bits .and .i64 y 65535) 14)))) == 10) (by kernel_rfl) (by kernel_rfl) (fun hc204 => ?_) (fun hc204 => ?_)
                      · skip
                        refine E.C.region ?_
                        refine E.G.op (.int .u32 (IntKind.wrap .u32 x)) (fun w => by kernel_rfl) (by kernel_rfl) ?_
                        refine E.G.op (.int .u32 (bits .and .u32 (IntKind.wrap .u32 x) 255)) (fun w => by kernel_rfl) (by kernel_rfl) ?_
                        refine E.G.op (.pointer (some ⟨g193, 5, none⟩)) (fun w => by kernel_rfl) (by kernel_rfl) ?_
                        refine E.G.store 0 [.int .i64 (IntKind.wrap .i64 (96 + (Int.tmod (bits .and .i64 y 65535) 14))), .int .i64 0, .int .i64 0, .int .i64 (-1), .int .i64 0, .int .u32 (bits .and .u32 (IntKind.wrap .u32 x) 255), .int .i64 (R2.Size (IntKind.wrap .u8 (R2.opAt (R2.ix a))))] rfl rfl (by kernel_rfl) (by kernel_rfl) ?_
                        refine E.P.nb (E.To.code ?_)
                        refine E.C.weak [(2, .pointer (some ⟨g2, 0, none⟩)), (6, .pointer (some ⟨g193, 0, none⟩))] [(g193, [.int .i64 (IntKind.wrap .i64 (96 + (Int.tmod (bits .and .i64 y 65535) 14))), .int .i64 0, .int .i64 0, .int .i64 (-1), .int .i64 0, .int .u32 (bits .and .u32 (IntKind.wrap .u32 x) 255), .int .i64 (R2.Size (IntKind.wrap .u8 (R2.opAt (R2.ix a))))]), (g2, [.int .i64 0, .int .i64 0, .int .i64 0, .int .i64 0, .int .i64 0, .int .u32 0, .int .i64 0])] ⟨by kernel_rfl, by kernel_rfl⟩ (List.Sublist.refl _) ?_
                        refine E.C.seq ?_
                        refine E.C.region ?_
                        refine E.G.val (.agg #[.int .i64 (IntKind.wrap .i64 (96 + (Int.tmod (bits .and .i64 y 65535) 14))), .int .i64 0, .int .i64 0, .int .i64 (-1), .int .i64 0, .int .u32 (bits .and .u32 (IntKind.wrap .u32 x) 255), .int .i64 (R2.Size (IntKind.wrap .u8 (R2.opAt (R2.ix a))))]) (by kernel_rfl) (fun w h => E.run_load h 0 rfl rfl (by kernel_rfl)) ?_
                        refine E.G.store 1 [.int .i64 (IntKind.wrap .i64 (96 + (Int.tmod (bits .and .i64 y 65535) 14))), .int .i64 0, .int .i64 0, .int .i64 (-1), .int .i64 0, .int .u32 (bits .and .u32 (IntKind.wrap .u32 x) 255), .int .i64 (R2.Size (IntKind.wrap .u8 (R2.opAt (R2.ix a))))] rfl rfl (by kernel_rfl) (by kernel_rfl) ?_
                        refine E.To.code ?_
                        refine E.C.ret (E.To.body (fn := Try.f16) [.agg #[.int .i64 (IntKind.wrap .i64 (96 + (Int.tmod (bits .and .i64 y 65535) 14))), .int .i64 0, .int .i64 0, .int .i64 (-1), .int .i64 0, .int .u32 (bits .and .u32 (IntKind.wrap .u32 x) 255), .int .i64 (R2.Size (IntKind.wrap .u8 (R2.opAt (R2.ix a))))]] ?_ ?_)
                        · exact ⟨⟨by kernel_rfl, _, _, 1, _, rfl, rfl, by kernel_rfl⟩, trivial⟩
                        · intro w h
                          exact ⟨by show Ending.returned (.agg #[.int .i64 (IntKind.wrap .i64 (96 + (Int.tmod (bits .and .i64 y 65535) 14))), .int .i64 0, .int .i64 0, .int .i64 (-1), .int .i64 0, .int .u32 (bits .and .u32 (IntKind.wrap .u32 x) 255), .int .i64 (R2.Size (IntKind.wrap .u8 (R2.opAt (R2.ix a))))]) = _; unfold R2.Made; rw [hc194, cond_false, hc195, cond_false, hc196, cond_false, hc197, cond_false, hc198, cond_false, hc199, cond_false, hc201, cond_true, hc204, cond_true], h.ch.bel (fun _ h => h.elim)⟩
                      · skip
                        refine E.C.skip (E.P.nb (E.To.code ?_))
                        refine E.C.weak [(2, .pointer (some ⟨g2, 0, none⟩)), (6, .pointer (some ⟨g193, 0, none⟩))] [(g193, [.int .i64 (IntKind.wrap .i64 (96 + (Int.tmod (bits .and .i64 y 65535) 14))), .int .i64 0, .int .i64 0, .int .i64 (-1), .int .i64 0, .int .u32 (R2.extend (IntKind.wrap .u8 (IntKind.wrap .u32 x))), .int .i64 (R2.Size (IntKind.wrap .u8 (R2.opAt (R2.ix a))))]), (g2, [.int .i64 0, .int .i64 0, .int .i64 0, .int .i64 0, .int .i64 0, .int .u32 0, .int .i64 0])] ⟨by kernel_rfl, by kernel_rfl⟩ (List.Sublist.refl _) ?_
                        refine E.C.seq ?_
                        refine E.C.region ?_
                        refine E.G.val (.agg #[.int .i64 (IntKind.wrap .i64 (96 + (Int.tmod (bits .and .i64 y 65535) 14))), .int .i64 0, .int .i64 0, .int .i64 (-1), .int .i64 0, .int .u32 (R2.extend (IntKind.wrap .u8 (IntKind.wrap .u32 x))), .int .i64 (R2.Size (IntKind.wrap .u8 (R2.opAt (R2.ix a))))]) (by kernel_rfl) (fun w h => E.run_load h 0 rfl rfl (by kernel_rfl)) ?_
                        refine E.G.store 1 [.int .i64 (IntKind.wrap .i64 (96 + (Int.tmod (bits .and .i64 y 65535) 14))), .int .i64 0, .int .i64 0, .int .i64 (-1), .int .i64 0, .int .u32 (R2.extend (IntKind.wrap .u8 (IntKind.wrap .u32 x))), .int .i64 (R2.Size (IntKind.wrap .u8 (R2.opAt (R2.ix a))))] rfl rfl (by kernel_rfl) (by kernel_rfl) ?_
                        refine E.To.code ?_
                        refine E.C.ret (E.To.body (fn := Try.f16) [.agg #[.int .i64 (IntKind.wrap .i64 (96 + (Int.tmod (bits .and .i64 y 65535) 14))), .int .i64 0, .int .i64 0, .int .i64 (-1), .int .i64 0, .int .u32 (R2.extend (IntKind.wrap .u8 (IntKind.wrap .u32 x))), .int .i64 (R2.Size (IntKind.wrap .u8 (R2.opAt (R2.ix a))))]] ?_ ?_)
                        · exact ⟨⟨by kernel_rfl, _, _, 1, _, rfl, rfl, by kernel_rfl⟩, trivial⟩
                        · intro w h
                          exact ⟨by show Ending.returned (.agg #[.int .i64 (IntKind.wrap .i64 (96 + (Int.tmod (bits .and .i64 y 65535) 14))), .int .i64 0, .int .i64 0, .int .i64 (-1), .int .i64 0, .int .u32 (R2.extend (IntKind.wrap .u8 (IntKind.wrap .u32 x))), .int .i64 (R2.Size (IntKind.wrap .u8 (R2.opAt (R2.ix a))))]) = _; unfold R2.Made; rw [hc194, cond_false, hc195, cond_false, hc196, cond_false, hc197, cond_false, hc198, cond_false, hc199, cond_false, hc201, cond_true, hc204, cond_false], h.ch.bel (fun _ h => h.elim)⟩
                    · skip
                      refine E.C.seq ?_
                      refine E.C.region ?_
                      refine E.G.op (.bool ((R2.Format (R2.opAt (R2.ix a))) == 10)) (fun w => by kernel_rfl) (by kernel_rfl) ?_
                      refine E.G.op (.bool ((R2.Format (R2.opAt (R2.ix a))) == 10)) (fun w => by kernel_rfl) (by kernel_rfl) ?_
                      refine E.To.code ?_
                      refine E.C.cond ((R2.Format (R2.opAt (R2.ix a))) == 10) (by kernel_rfl) (by kernel_rfl) (fun hc205 => ?_) (fun hc205 => ?_)
                      · skip
                        refine E.C.skip (E.To.code ?_)
                        refine E.C.cond ((R2.Format (R2.opAt (R2.ix a))) == 10) (by kernel_rfl) (by kernel_rfl) (fun hc206 => ?_) (fun hc206 => absurd (hc205.symm.trans hc206) (by decide))
                        refine E.C.seq ?_
                        refine E.C.region ?_
                        refine E.G.op (.pointer (some ⟨g193, 1, none⟩)) (fun w => by kernel_rfl) (by kernel_rfl) ?_
                        refine E.G.store 0 [.int .i64 (R2.opAt (R2.ix a)), .int .i64 0, .int .i64 (bits .and .i64 c 7), .int .i64 (-1), .int .i64 0, .int .u32 0, .int .i64 (R2.Size (IntKind.wrap .u8 (R2.opAt (R2.ix a))))] rfl rfl (by kernel_rfl) (by kernel_rfl) ?_
                        refine E.To.code ?_
                        refine E.C.seq ?_
                        refine E.C.region ?_
                        refine E.G.op (.pointer (some ⟨g193, 2, none⟩)) (fun w => by kernel_rfl) (by kernel_rfl) ?_
                        refine E.G.store 0 [.int .i64 (R2.opAt (R2.ix a)), .int .i64 0, .int .i64 0, .int .i64 (-1), .int .i64 0, .int .u32 0, .int .i64 (R2.Size (IntKind.wrap .u8 (R2.opAt (R2.ix a))))] rfl rfl (by kernel_rfl) (by kernel_rfl) ?_
                        refine E.To.code ?_
                        refine E.C.seq ?_
                        refine E.C.region ?_
                        refine E.G.op (.int .u32 (IntKind.wrap .u32 x)) (fun w => by kernel_rfl) (by kernel_rfl) ?_
                        refine E.G.op (.pointer (some ⟨g193, 5, none⟩)) (fun w => by kernel_rfl) (by kernel_rfl) ?_
                        refine E.G.store 0 [.int .i64 (R2.opAt (R2.ix a)), .int .i64 0, .int .i64 0, .int .i64 (-1), .int .i64 0, .int .u32 (IntKind.wrap .u32 x), .int .i64 (R2.Size (IntKind.wrap .u8 (R2.opAt (R2.ix a))))] rfl rfl (by kernel_rfl) (by kernel_rfl) ?_
                        refine E.To.code ?_
                        refine E.C.weak [(1, .pointer (some ⟨g1, 0, none⟩)), (2, .pointer (some ⟨g2, 0, none⟩)), (6, .pointer (some ⟨g193, 0, none⟩)), (7, .int .u32 (IntKind.wrap .u32 x))] [(g193, [.int .i64 (R2.opAt (R2.ix a)), .int .i64 0, .int .i64 0, .int .i64 (-1), .int .i64 0, .int .u32 (IntKind.wrap .u32 x), .int .i64 (R2.Size (IntKind.wrap .u8 (R2.opAt (R2.ix a))))]), (g2, [.int .i64 0, .int .i64 0, .int .i64 0, .int .i64 0, .int .i64 0, .int .u32 0, .int .i64 0]), (g1, [.int .i64 a, .int .i64 b, .int .i64 c, .int .i64 x, .int .i64 y])] ⟨by kernel_rfl, by kernel_rfl⟩ (List.Sublist.refl _) ?_
                        refine E.C.seq ?_
                        refine E.C.seq ?_
                        refine E.C.region ?_
                        refine E.G.op (.pointer (some ⟨g193, 0, none⟩)) (fun w => by kernel_rfl) (by kernel_rfl) ?_
                        refine E.G.val (.int .i64 (R2.opAt (R2.ix a))) (by kernel_rfl) (fun w h => E.run_load h 0 rfl rfl (by kernel_rfl)) ?_
                        refine E.G.call (.int .i64 (R2.Format (R2.opAt (R2.ix a)))) (fun w h => R2_Format _ w) (fun w _ => by kernel_rfl) (by kernel_rfl) ?_
                        refine E.G.op (.bool ((R2.Format (R2.opAt (R2.ix a))) == 8)) (fun w => by kernel_rfl) (by kernel_rfl) ?_
                        refine E.To.code ?_
                        refine E.C.cond ((R2.Format (R2.opAt (R2.ix a))) == 8) (by kernel_rfl) (by kernel_rfl) (fun hc207 => absurd (hc201.symm.trans hc207) (by decide)) (fun hc207 => ?_)
                        refine E.C.skip (E.To.code ?_)
                        refine E.C.seq ?_
                        refine E.C.region ?_
                        refine E.G.op (.pointer (some ⟨g193, 0, none⟩)) (fun w => by kernel_rfl) (by kernel_rfl) ?_
                        refine E.G.val (.int .i64 (R2.opAt (R2.ix a))) (by kernel_rfl) (fun w h => E.run_load h 0 rfl rfl (by kernel_rfl)) ?_
                        refine E.G.call (.int .i64 (R2.Format (R2.opAt (R2.ix a)))) (fun w h => R2_Format _ w) (fun w _ => by kernel_rfl) (by kernel_rfl) ?_
                        refine E.G.op (.bool ((R2.Format (R2.opAt (R2.ix a))) == 10)) (fun w => by kernel_rfl) (by kernel_rfl) ?_
                        refine E.To.code ?_
                        refine E.C.weak [(2, .pointer (some ⟨g2, 0, none⟩)), (6, .pointer (some ⟨g193, 0, none⟩)), (7, .int .u32 (IntKind.wrap .u32 x)), (135, .bool ((R2.Format (R2.opAt (R2.ix a))) == 10))] [(g193, [.int .i64 (R2.opAt (R2.ix a)), .int .i64 0, .int .i64 0, .int .i64 (-1), .int .i64 0, .int .u32 (IntKind.wrap .u32 x), .int .i64 (R2.Size (IntKind.wrap .u8 (R2.opAt (R2.ix a))))]), (g2, [.int .i64 0, .int .i64 0, .int .i64 0, .int .i64 0, .int .i64 0, .int .u32 0, .int .i64 0])] ⟨by kernel_rfl, by kernel_rfl⟩ (List.Sublist.cons_cons _ (List.Sublist.cons_cons _ (List.nil_sublist _))) ?_
                        refine E.C.cond ((R2.Format (R2.opAt (R2.ix a))) == 10) (by kernel_rfl) (by kernel_rfl) (fun hc208 => ?_) (fun hc208 => absurd (hc205.symm.trans hc208) (by decide))
                        refine E.C.region ?_
                        refine E.G.op (.int .u32 (IntKind.wrap .u32 x)) (fun w => by kernel_rfl) (by kernel_rfl) ?_
                        refine E.G.op (.int .u32 (bits .and .u32 (IntKind.wrap .u32 x) 255)) (fun w => by kernel_rfl) (by kernel_rfl) ?_
                        refine E.G.op (.pointer (some ⟨g193, 5, none⟩)) (fun w => by kernel_rfl) (by kernel_rfl) ?_
                        refine E.G.store 0 [.int .i64 (R2.opAt (R2.ix a)), .int .i64 0, .int .i64 0, .int .i64 (-1), .int .i64 0, .int .u32 (bits .and .u32 (IntKind.wrap .u32 x) 255), .int .i64 (R2.Size (IntKind.wrap .u8 (R2.opAt (R2.ix a))))] rfl rfl (by kernel_rfl) (by kernel_rfl) ?_
                        refine E.P.nb (E.To.code ?_)
                        refine E.C.seq ?_
                        refine E.C.region ?_
                        refine E.G.val (.agg #[.int .i64 (R2.opAt (R2.ix a)), .int .i64 0, .int .i64 0, .int .i64 (-1), .int .i64 0, .int .u32 (bits .and .u32 (IntKind.wrap .u32 x) 255), .int .i64 (R2.Size (IntKind.wrap .u8 (R2.opAt (R2.ix a))))]) (by kernel_rfl) (fun w h => E.run_load h 0 rfl rfl (by kernel_rfl)) ?_
                        refine E.G.store 1 [.int .i64 (R2.opAt (R2.ix a)), .int .i64 0, .int .i64 0, .int .i64 (-1), .int .i64 0, .int .u32 (bits .and .u32 (IntKind.wrap .u32 x) 255), .int .i64 (R2.Size (IntKind.wrap .u8 (R2.opAt (R2.ix a))))] rfl rfl (by kernel_rfl) (by kernel_rfl) ?_
                        refine E.To.code ?_
                        refine E.C.ret (E.To.body (fn := Try.f16) [.agg #[.int .i64 (R2.opAt (R2.ix a)), .int .i64 0, .int .i64 0, .int .i64 (-1), .int .i64 0, .int .u32 (bits .and .u32 (IntKind.wrap .u32 x) 255), .int .i64 (R2.Size (IntKind.wrap .u8 (R2.opAt (R2.ix a))))]] ?_ ?_)
                        · exact ⟨⟨by kernel_rfl, _, _, 1, _, rfl, rfl, by kernel_rfl⟩, trivial⟩
                        · intro w h
                          exact ⟨by show Ending.returned (.agg #[.int .i64 (R2.opAt (R2.ix a)), .int .i64 0, .int .i64 0, .int .i64 (-1), .int .i64 0, .int .u32 (bits .and .u32 (IntKind.wrap .u32 x) 255), .int .i64 (R2.Size (IntKind.wrap .u8 (R2.opAt (R2.ix a))))]) = _; unfold R2.Made; rw [hc194, cond_false, hc195, cond_false, hc196, cond_false, hc197, cond_false, hc198, cond_false, hc199, cond_false, hc201, cond_false, hc205, cond_true], h.ch.bel (fun _ h => h.elim)⟩
                      · skip
                        refine E.C.region ?_
                        refine E.G.op (.bool ((R2.Format (R2.opAt (R2.ix a))) == 9)) (fun w => by kernel_rfl) (by kernel_rfl) ?_
                        refine E.G.op (.bool ((R2.Format (R2.opAt (R2.ix a))) == 9)) (fun w => by kernel_rfl) (by kernel_rfl) ?_
                        refine E.To.code ?_
                        refine E.C.cond ((R2.Format (R2.opAt (R2.ix a))) == 9) (by kernel_rfl) (by kernel_rfl) (fun hc209 => ?_) (fun hc209 => ?_)
                        · skip
                          refine E.C.seq ?_
                          refine E.C.region ?_
                          refine E.G.op (.pointer (some ⟨g193, 1, none⟩)) (fun w => by kernel_rfl) (by kernel_rfl) ?_
                          refine E.G.store 0 [.int .i64 (R2.opAt (R2.ix a)), .int .i64 0, .int .i64 (bits .and .i64 c 7), .int .i64 (-1), .int .i64 0, .int .u32 0, .int .i64 (R2.Size (IntKind.wrap .u8 (R2.opAt (R2.ix a))))] rfl rfl (by kernel_rfl) (by kernel_rfl) ?_
                          refine E.To.code ?_
                          refine E.C.seq ?_
                          refine E.C.region ?_
                          refine E.G.op (.pointer (some ⟨g193, 2, none⟩)) (fun w => by kernel_rfl) (by kernel_rfl) ?_
                          refine E.G.store 0 [.int .i64 (R2.opAt (R2.ix a)), .int .i64 0, .int .i64 0, .int .i64 (-1), .int .i64 0, .int .u32 0, .int .i64 (R2.Size (IntKind.wrap .u8 (R2.opAt (R2.ix a))))] rfl rfl (by kernel_rfl) (by kernel_rfl) ?_
                          refine E.To.code ?_
                          refine E.C.weak [(1, .pointer (some ⟨g1, 0, none⟩)), (2, .pointer (some ⟨g2, 0, none⟩)), (6, .pointer (some ⟨g193, 0, none⟩)), (7, .int .u32 (IntKind.wrap .u32 x))] [(g193, [.int .i64 (R2.opAt (R2.ix a)), .int .i64 0, .int .i64 0, .int .i64 (-1), .int .i64 0, .int .u32 0, .int .i64 (R2.Size (IntKind.wrap .u8 (R2.opAt (R2.ix a))))]), (g2, [.int .i64 0, .int .i64 0, .int .i64 0, .int .i64 0, .int .i64 0, .int .u32 0, .int .i64 0]), (g1, [.int .i64 a, .int .i64 b, .int .i64 c, .int .i64 x, .int .i64 y])] ⟨by kernel_rfl, by kernel_rfl⟩ (List.Sublist.refl _) ?_
                          refine E.C.seq ?_
                          refine E.C.region ?_
                          refine E.G.op (.int .u32 (IntKind.wrap .u32 x)) (fun w => by kernel_rfl) (by kernel_rfl) ?_
                          refine E.G.op (.pointer (some ⟨g193, 5, none⟩)) (fun w => by kernel_rfl) (by kernel_rfl) ?_
                          refine E.G.store 0 [.int .i64 (R2.opAt (R2.ix a)), .int .i64 0, .int .i64 0, .int .i64 (-1), .int .i64 0, .int .u32 (IntKind.wrap .u32 x), .int .i64 (R2.Size (IntKind.wrap .u8 (R2.opAt (R2.ix a))))] rfl rfl (by kernel_rfl) (by kernel_rfl) ?_
                          refine E.To.code ?_
                          refine E.C.seq ?_
                          refine E.C.seq ?_
                          refine E.C.region ?_
                          refine E.G.op (.pointer (some ⟨g193, 0, none⟩)) (fun w => by kernel_rfl) (by kernel_rfl) ?_
                          refine E.G.val (.int .i64 (R2.opAt (R2.ix a))) (by kernel_rfl) (fun w h => E.run_load h 0 rfl rfl (by kernel_rfl)) ?_
                          refine E.G.call (.int .i64 (R2.Format (R2.opAt (R2.ix a)))) (fun w h => R2_Format _ w) (fun w _ => by kernel_rfl) (by kernel_rfl) ?_
                          refine E.G.op (.bool ((R2.Format (R2.opAt (R2.ix a))) == 8)) (fun w => by kernel_rfl) (by kernel_rfl) ?_
                          refine E.To.code ?_
                          refine E.C.cond ((R2.Format (R2.opAt (R2.ix a))) == 8) (by kernel_rfl) (by kernel_rfl) (fun hc210 => absurd (hc201.symm.trans hc210) (by decide)) (fun hc210 => ?_)
                          refine E.C.skip (E.To.code ?_)
                          refine E.C.seq ?_
                          refine E.C.region ?_
                          refine E.G.op (.pointer (some ⟨g193, 0, none⟩)) (fun w => by kernel_rfl) (by kernel_rfl) ?_
                          refine E.G.val (.int .i64 (R2.opAt (R2.ix a))) (by kernel_rfl) (fun w h => E.run_load h 0 rfl rfl (by kernel_rfl)) ?_
                          refine E.G.call (.int .i64 (R2.Format (R2.opAt (R2.ix a)))) (fun w h => R2_Format _ w) (fun w _ => by kernel_rfl) (by kernel_rfl) ?_
                          refine E.G.op (.bool ((R2.Format (R2.opAt (R2.ix a))) == 10)) (fun w => by kernel_rfl) (by kernel_rfl) ?_
                          refine E.To.code ?_
                          refine E.C.weak [(2, .pointer (some ⟨g2, 0, none⟩)), (6, .pointer (some ⟨g193, 0, none⟩)), (7, .int .u32 (IntKind.wrap .u32 x)), (135, .bool ((R2.Format (R2.opAt (R2.ix a))) == 10))] [(g193, [.int .i64 (R2.opAt (R2.ix a)), .int .i64 0, .int .i64 0, .int .i64 (-1), .int .i64 0, .int .u32 (IntKind.wrap .u32 x), .int .i64 (R2.Size (IntKind.wrap .u8 (R2.opAt (R2.ix a))))]), (g2, [.int .i64 0, .int .i64 0, .int .i64 0, .int .i64 0, .int .i64 0, .int .u32 0, .int .i64 0])] ⟨by kernel_rfl, by kernel_rfl⟩ (List.Sublist.cons_cons _ (List.Sublist.cons_cons _ (List.nil_sublist _))) ?_
                          refine E.C.cond ((R2.Format (R2.opAt (R2.ix a))) == 10) (by kernel_rfl) (by kernel_rfl) (fun hc211 => absurd (hc205.symm.trans hc211) (by decide)) (fun hc211 => ?_)
                          refine E.C.skip (E.P.nb (E.To.code ?_))
                          refine E.C.seq ?_
                          refine E.C.region ?_
                          refine E.G.val (.agg #[.int .i64 (R2.opAt (R2.ix a)), .int .i64 0, .int .i64 0, .int .i64 (-1), .int .i64 0, .int .u32 (IntKind.wrap .u32 x), .int .i64 (R2.Size (IntKind.wrap .u8 (R2.opAt (R2.ix a))))]) (by kernel_rfl) (fun w h => E.run_load h 0 rfl rfl (by kernel_rfl)) ?_
                          refine E.G.store 1 [.int .i64 (R2.opAt (R2.ix a)), .int .i64 0, .int .i64 0, .int .i64 (-1), .int .i64 0, .int .u32 (IntKind.wrap .u32 x), .int .i64 (R2.Size (IntKind.wrap .u8 (R2.opAt (R2.ix a))))] rfl rfl (by kernel_rfl) (by kernel_rfl) ?_
                          refine E.To.code ?_
                          refine E.C.ret (E.To.body (fn := Try.f16) [.agg #[.int .i64 (R2.opAt (R2.ix a)), .int .i64 0, .int .i64 0, .int .i64 (-1), .int .i64 0, .int .u32 (IntKind.wrap .u32 x), .int .i64 (R2.Size (IntKind.wrap .u8 (R2.opAt (R2.ix a))))]] ?_ ?_)
                          · exact ⟨⟨by kernel_rfl, _, _, 1, _, rfl, rfl, by kernel_rfl⟩, trivial⟩
                          · intro w h
                            exact ⟨by show Ending.returned (.agg #[.int .i64 (R2.opAt (R2.ix a)), .int .i64 0, .int .i64 0, .int .i64 (-1), .int .i64 0, .int .u32 (IntKind.wrap .u32 x), .int .i64 (R2.Size (IntKind.wrap .u8 (R2.opAt (R2.ix a))))]) = _; unfold R2.Made; rw [hc194, cond_false, hc195, cond_false, hc196, cond_false, hc197, cond_false, hc198, cond_false, hc199, cond_false, hc201, cond_false, hc205, cond_false, hc209, cond_true], h.ch.bel (fun _ h => h.elim)⟩
                        · skip
                          refine E.C.seq ?_
                          refine E.C.region ?_
                          refine E.G.op (.bool ((R2.Format (R2.opAt (R2.ix a))) == 11)) (fun w => by kernel_rfl) (by kernel_rfl) ?_
                          refine E.G.op (.bool ((R2.Format (R2.opAt (R2.ix a))) == 11)) (fun w => by kernel_rfl) (by kernel_rfl) ?_
                          refine E.To.code ?_
                          refine E.C.cond ((R2.Format (R2.opAt (R2.ix a))) == 11) (by kernel_rfl) (by kernel_rfl) (fun hc212 => ?_) (fun hc212 => ?_)
                          · skip
                            refine E.C.region ?_
                            refine E.G.op (.pointer (some ⟨g1, 2, none⟩)) (fun w => by kernel_rfl) (by kernel_rfl) ?_
                            refine E.G.val (.int .i64 c) (by kernel_rfl) (fun w h => E.run_load h 2 rfl rfl (by kernel_rfl)) ?_
                            refine E.G.op (.int .i64 (bits .and .i64 c 3)) (fun w => by kernel_rfl) (by kernel_rfl) ?_
                            refine E.G.op (.pointer (some ⟨g193, 2, none⟩)) (fun w => by kernel_rfl) (by kernel_rfl) ?_
                            refine E.G.store 0 [.int .i64 (R2.opAt (R2.ix a)), .int .i64 (bits .and .i64 b 7), .int .i64 (bits .and .i64 c 3), .int .i64 (-1), .int .i64 0, .int .u32 0, .int .i64 (R2.Size (IntKind.wrap .u8 (R2.opAt (R2.ix a))))] rfl rfl (by kernel_rfl) (by kernel_rfl) ?_
                            refine E.P.nb (E.To.code ?_)
                            refine E.C.weak [(2, .pointer (some ⟨g2, 0, none⟩)), (6, .pointer (some ⟨g193, 0, none⟩))] [(g193, [.int .i64 (R2.opAt (R2.ix a)), .int .i64 (bits .and .i64 b 7), .int .i64 (bits .and .i64 c 3), .int .i64 (-1), .int .i64 0, .int .u32 0, .int .i64 (R2.Size (IntKind.wrap .u8 (R2.opAt (R2.ix a))))]), (g2, [.int .i64 0, .int .i64 0, .int .i64 0, .int .i64 0, .int .i64 0, .int .u32 0, .int .i64 0])] ⟨by kernel_rfl, by kernel_rfl⟩ (List.Sublist.cons_cons _ (List.Sublist.cons_cons _ (List.nil_sublist _))) ?_
                            refine E.C.seq ?_
                            refine E.C.region ?_
                            refine E.G.val (.agg #[.int .i64 (R2.opAt (R2.ix a)), .int .i64 (bits .and .i64 b 7), .int .i64 (bits .and .i64 c 3), .int .i64 (-1), .int .i64 0, .int .u32 0, .int .i64 (R2.Size (IntKind.wrap .u8 (R2.opAt (R2.ix a))))]) (by kernel_rfl) (fun w h => E.run_load h 0 rfl rfl (by kernel_rfl)) ?_
                            refine E.G.store 1 [.int .i64 (R2.opAt (R2.ix a)), .int .i64 (bits .and .i64 b 7), .int .i64 (bits .and .i64 c 3), .int .i64 (-1), .int .i64 0, .int .u32 0, .int .i64 (R2.Size (IntKind.wrap .u8 (R2.opAt (R2.ix a))))] rfl rfl (by kernel_rfl) (by kernel_rfl) ?_
                            refine E.To.code ?_
                            refine E.C.ret (E.To.body (fn := Try.f16) [.agg #[.int .i64 (R2.opAt (R2.ix a)), .int .i64 (bits .and .i64 b 7), .int .i64 (bits .and .i64 c 3), .int .i64 (-1), .int .i64 0, .int .u32 0, .int .i64 (R2.Size (IntKind.wrap .u8 (R2.opAt (R2.ix a))))]] ?_ ?_)
                            · exact ⟨⟨by kernel_rfl, _, _, 1, _, rfl, rfl, by kernel_rfl⟩, trivial⟩
                            · intro w h
                              exact ⟨by show Ending.returned (.agg #[.int .i64 (R2.opAt (R2.ix a)), .int .i64 (bits .and .i64 b 7), .int .i64 (bits .and .i64 c 3), .int .i64 (-1), .int .i64 0, .int .u32 0, .int .i64 (R2.Size (IntKind.wrap .u8 (R2.opAt (R2.ix a))))]) = _; unfold R2.Made; rw [hc194, cond_false, hc195, cond_false, hc196, cond_false, hc197, cond_false, hc198, cond_false, hc199, cond_false, hc201, cond_false, hc205, cond_false, hc209, cond_false, hc212, cond_true], h.ch.bel (fun _ h => h.elim)⟩
                          · skip
                            refine E.C.seq ?_
                            refine E.C.region ?_
                            refine E.G.op (.bool ((R2.Format (R2.opAt (R2.ix a))) == 12)) (fun w => by kernel_rfl) (by kernel_rfl) ?_
                            refine E.G.op (.bool ((R2.Format (R2.opAt (R2.ix a))) == 12)) (fun w => by kernel_rfl) (by kernel_rfl) ?_
                            refine E.To.code ?_
                            refine E.C.weak [(1, .pointer (some ⟨g1, 0, none⟩)), (2, .pointer (some ⟨g2, 0, none⟩)), (6, .pointer (some ⟨g193, 0, none⟩)), (145, .bool ((R2.Format (R2.opAt (R2.ix a))) == 12))] [(g193, [.int .i64 (R2.opAt (R2.ix a)), .int .i64 (bits .and .i64 b 7), .int .i64 (bits .and .i64 c 7), .int .i64 (-1), .int .i64 0, .int .u32 0, .int .i64 (R2.Size (IntKind.wrap .u8 (R2.opAt (R2.ix a))))]), (g2, [.int .i64 0, .int .i64 0, .int .i64 0, .int .i64 0, .int .i64 0, .int .u32 0, .int .i64 0]), (g1, [.int .i64 a, .int .i64 b, .int .i64 c, .int .i64 x, .int .i64 y])] ⟨by kernel_rfl, by kernel_rfl⟩ (List.Sublist.refl _) ?_
                            refine E.C.cond ((R2.Format (R2.opAt (R2.ix a))) == 12) (by kernel_rfl) (by kernel_rfl) (fun hc213 => ?_) (fun hc213 => ?_)
                            · skip
                              refine E.C.region ?_
                              refine E.G.op (.pointer (some ⟨g1, 2, none⟩)) (fun w => by kernel_rfl) (by kernel_rfl) ?_
                              refine E.G.val (.int .i64 c) (by kernel_rfl) (fun w h => E.run_load h 2 rfl rfl (by kernel_rfl)) ?_
                              refine E.G.op (.int .i64 (bits .and .i64 c 7)) (fun w => by kernel_rfl) (by kernel_rfl) ?_
                              refine E.G.op (.int .i64 (Int.tmod (bits .and .i64 c 7) 5)) (fun w => by kernel_rfl) (by kernel_rfl) ?_
                              refine E.G.op (.pointer (some ⟨g193, 2, none⟩)) (fun w => by kernel_rfl) (by kernel_rfl) ?_
                              refine E.G.store 0 [.int .i64 (R2.opAt (R2.ix a)), .int .i64 (bits .and .i64 b 7), .int .i64 (Int.tmod (bits .and .i64 c 7) 5), .int .i64 (-1), .int .i64 0, .int .u32 0, .int .i64 (R2.Size (IntKind.wrap .u8 (R2.opAt (R2.ix a))))] rfl rfl (by kernel_rfl) (by kernel_rfl) ?_
                              refine E.P.nb (E.To.code ?_)
                              refine E.C.seq ?_
                              refine E.C.region ?_
                              refine E.G.val (.agg #[.int .i64 (R2.opAt (R2.ix a)), .int .i64 (bits .and .i64 b 7), .int .i64 (Int.tmod (bits .and .i64 c 7) 5), .int .i64 (-1), .int .i64 0, .int .u32 0, .int .i64 (R2.Size (IntKind.wrap .u8 (R2.opAt (R2.ix a))))]) (by kernel_rfl) (fun w h => E.run_load h 0 rfl rfl (by kernel_rfl)) ?_
                              refine E.G.store 1 [.int .i64 (R2.opAt (R2.ix a)), .int .i64 (bits .and .i64 b 7), .int .i64 (Int.tmod (bits .and .i64 c 7) 5), .int .i64 (-1), .int .i64 0, .int .u32 0, .int .i64 (R2.Size (IntKind.wrap .u8 (R2.opAt (R2.ix a))))] rfl rfl (by kernel_rfl) (by kernel_rfl) ?_
                              refine E.To.code ?_
                              refine E.C.weak [(2, .pointer (some ⟨g2, 0, none⟩))] [(g2, [.int .i64 (R2.opAt (R2.ix a)), .int .i64 (bits .and .i64 b 7), .int .i64 (Int.tmod (bits .and .i64 c 7) 5), .int .i64 (-1), .int .i64 0, .int .u32 0, .int .i64 (R2.Size (IntKind.wrap .u8 (R2.opAt (R2.ix a))))])] ⟨by kernel_rfl, by kernel_rfl⟩ (List.Sublist.cons _ (List.Sublist.cons_cons _ (List.nil_sublist _))) ?_
                              refine E.C.ret (E.To.body (fn := Try.f16) [.agg #[.int .i64 (R2.opAt (R2.ix a)), .int .i64 (bits .and .i64 b 7), .int .i64 (Int.tmod (bits .and .i64 c 7) 5), .int .i64 (-1), .int .i64 0, .int .u32 0, .int .i64 (R2.Size (IntKind.wrap .u8 (R2.opAt (R2.ix a))))]] ?_ ?_)
                              · exact ⟨⟨by kernel_rfl, _, _, 0, _, rfl, rfl, by kernel_rfl⟩, trivial⟩
                              · intro w h
                                exact ⟨by show Ending.returned (.agg #[.int .i64 (R2.opAt (R2.ix a)), .int .i64 (bits .and .i64 b 7), .int .i64 (Int.tmod (bits .and .i64 c 7) 5), .int .i64 (-1), .int .i64 0, .int .u32 0, .int .i64 (R2.Size (IntKind.wrap .u8 (R2.opAt (R2.ix a))))]) = _; unfold R2.Made; rw [hc194, cond_false, hc195, cond_false, hc196, cond_false, hc197, cond_false, hc198, cond_false, hc199, cond_false, hc201, cond_false, hc205, cond_false, hc209, cond_false, hc212, cond_false, hc213, cond_true], h.ch.bel (fun _ h => h.elim)⟩
                            · skip
                              refine E.C.skip (E.P.nb (E.To.code ?_))
                              refine E.C.seq ?_
                              refine E.C.region ?_
                              refine E.G.val (.agg #[.int .i64 (R2.opAt (R2.ix a)), .int .i64 (bits .and .i64 b 7), .int .i64 (bits .and .i64 c 7), .int .i64 (-1), .int .i64 0, .int .u32 0, .int .i64 (R2.Size (IntKind.wrap .u8 (R2.opAt (R2.ix a))))]) (by kernel_rfl) (fun w h => E.run_load h 0 rfl rfl (by kernel_rfl)) ?_
                              refine E.G.store 1 [.int .i64 (R2.opAt (R2.ix a)), .int .i64 (bits .and .i64 b 7), .int .i64 (bits .and .i64 c 7), .int .i64 (-1), .int .i64 0, .int .u32 0, .int .i64 (R2.Size (IntKind.wrap .u8 (R2.opAt (R2.ix a))))] rfl rfl (by kernel_rfl) (by kernel_rfl) ?_
                              refine E.To.code ?_
                              refine E.C.ret (E.To.body (fn := Try.f16) [.agg #[.int .i64 (R2.opAt (R2.ix a)), .int .i64 (bits .and .i64 b 7), .int .i64 (bits .and .i64 c 7), .int .i64 (-1), .int .i64 0, .int .u32 0, .int .i64 (R2.Size (IntKind.wrap .u8 (R2.opAt (R2.ix a))))]] ?_ ?_)
                              · exact ⟨⟨by kernel_rfl, _, _, 1, _, rfl, rfl, by kernel_rfl⟩, trivial⟩
                              · intro w h
                                exact ⟨by show Ending.returned (.agg #[.int .i64 (R2.opAt (R2.ix a)), .int .i64 (bits .and .i64 b 7), .int .i64 (bits .and .i64 c 7), .int .i64 (-1), .int .i64 0, .int .u32 0, .int .i64 (R2.Size (IntKind.wrap .u8 (R2.opAt (R2.ix a))))]) = _; unfold R2.Made; rw [hc194, cond_false, hc195, cond_false, hc196, cond_false, hc197, cond_false, hc198, cond_false, hc199, cond_false, hc201, cond_false, hc205, cond_false, hc209, cond_false, hc212, cond_false, hc213, cond_false], h.ch.bel (fun _ h => h.elim)⟩
end Go.Proofs.Ytgnekniabedomaa
