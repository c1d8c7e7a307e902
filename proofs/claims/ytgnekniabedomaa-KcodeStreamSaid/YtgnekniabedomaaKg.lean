/- Walks: kcode.formats; no condition. -/
import Derived.Test.YtgnekniabedomaaKh
import Derived.Great.BuildSlice
namespace Go.Proofs.Ytgnekniabedomaa
set_option linter.unusedVariables false
set_option linter.unusedSimpArgs false
open Go.RowKit
@[go_sem] theorem K.build2 (a b : Int) (w : World) : (Instr.build 36 #[(0, .int .i64 a), (1, .int .i64 b)]).run Try.prog w = .ok (.agg #[.int .i64 a, .int .i64 b]) w := run_build w 36 _ _ (by kernel_rfl)
@[go_sem] theorem K.build5 (a b c : Int) (f1 f2 : Fn) (c1 c2 : Array Value) (w : World) : (Instr.build 66 #[(0, .agg #[.int .i64 a, .int .i64 b]), (1, .int .i64 c), (2, .func f1 #[] c1), (3, .func f2 #[] c2)]).run Try.prog w = .ok (.agg #[.int .i64 a, .int .i64 b, .int .i64 c, .func f1 #[] c1, .func f2 #[] c2]) w := run_build w 66 _ _ (by kernel_rfl)
theorem takes2_c (f1 f2 : FuncId) (w : World) (T : TypeId) :
    Calls Try.prog 46 #[.slice (some ⟨w.heap.size, 0, none⟩) 2 2] (w.alloc (.cells #[.func (.func f1) #[] #[], .func (.func f2) #[] #[]] T)) fun e w' => ∃ c, e = .returned (.func (.func 55) #[] #[.pointer (some ⟨c, 0, none⟩)]) ∧ K.Cl 55 [f1, f2] (.func (.func 55) #[] #[.pointer (some ⟨c, 0, none⟩)]) w' ∧ Bel w w' :=
  (takes2_any f1 f2 w T).mono fun e w' ⟨v, he, ⟨c, h, cap, hv, h1, h2⟩, hb⟩ => ⟨c, by rw [he, hv], ⟨c, h, cap, rfl, h1, h2⟩, hb⟩
theorem puts2_c (f1 f2 : FuncId) (w : World) (T : TypeId) :
    Calls Try.prog 48 #[.slice (some ⟨w.heap.size, 0, none⟩) 2 2] (w.alloc (.cells #[.func (.func f1) #[] #[], .func (.func f2) #[] #[]] T)) fun e w' => ∃ c, e = .returned (.func (.func 57) #[] #[.pointer (some ⟨c, 0, none⟩)]) ∧ K.Cl 57 [f1, f2] (.func (.func 57) #[] #[.pointer (some ⟨c, 0, none⟩)]) w' ∧ Bel w w' :=
  (puts2_any f1 f2 w T).mono fun e w' ⟨v, he, ⟨c, h, cap, hv, h1, h2⟩, hb⟩ => ⟨c, by rw [he, hv], ⟨c, h, cap, rfl, h1, h2⟩, hb⟩
theorem takes3_c (f1 f2 f3 : FuncId) (w : World) (T : TypeId) :
    Calls Try.prog 46 #[.slice (some ⟨w.heap.size, 0, none⟩) 3 3] (w.alloc (.cells #[.func (.func f1) #[] #[], .func (.func f2) #[] #[], .func (.func f3) #[] #[]] T)) fun e w' => ∃ c, e = .returned (.func (.func 55) #[] #[.pointer (some ⟨c, 0, none⟩)]) ∧ K.Cl 55 [f1, f2, f3] (.func (.func 55) #[] #[.pointer (some ⟨c, 0, none⟩)]) w' ∧ Bel w w' :=
  (takes3_any f1 f2 f3 w T).mono fun e w' ⟨v, he, ⟨c, h, cap, hv, h1, h2⟩, hb⟩ => ⟨c, by rw [he, hv], ⟨c, h, cap, rfl, h1, h2⟩, hb⟩
theorem puts3_c (f1 f2 f3 : FuncId) (w : World) (T : TypeId) :
    Calls Try.prog 48 #[.slice (some ⟨w.heap.size, 0, none⟩) 3 3] (w.alloc (.cells #[.func (.func f1) #[] #[], .func (.func f2) #[] #[], .func (.func f3) #[] #[]] T)) fun e w' => ∃ c, e = .returned (.func (.func 57) #[] #[.pointer (some ⟨c, 0, none⟩)]) ∧ K.Cl 57 [f1, f2, f3] (.func (.func 57) #[] #[.pointer (some ⟨c, 0, none⟩)]) w' ∧ Bel w w' :=
  (puts3_any f1 f2 f3 w T).mono fun e w' ⟨v, he, ⟨c, h, cap, hv, h1, h2⟩, hb⟩ => ⟨c, by rw [he, hv], ⟨c, h, cap, rfl, h1, h2⟩, hb⟩
theorem cell_new (w : World) (cs : Array Value) (T : TypeId) (j : Nat) (v : Value) (h : cs[j]? = some v) : (w.alloc (.cells cs T)).cell? ⟨w.heap.size, j, none⟩ = some v := by
  rw [← h]; unfold World.cell? World.alloc; simp
set_option maxHeartbeats 2000000 in
theorem formats_any : K.FmtsOK := by
  intro w
  go_enter Try.func37, Try.ntmps37
  go_wp2_with fail
  refine (takes2_c _ _ _ _).mono ?_
  rintro e w1 ⟨c1, rfl, hv1, hb1⟩
  have H1 := hid hv1; have B1 := hid hb1; clear hv1 hb1
  go_wp2_with fail
  refine (puts2_c _ _ _ _).mono ?_
  rintro e w2 ⟨c2, rfl, hv2, hb2⟩
  have H2 := hid hv2; have B2 := hid hb2; clear hv2 hb2
  go_wp2_with fail
  refine (takes2_c _ _ _ _).mono ?_
  rintro e w3 ⟨c3, rfl, hv3, hb3⟩
  have H3 := hid hv3; have B3 := hid hb3; clear hv3 hb3
  go_wp2_with fail
  refine (puts2_c _ _ _ _).mono ?_
  rintro e w4 ⟨c4, rfl, hv4, hb4⟩
  have H4 := hid hv4; have B4 := hid hb4; clear hv4 hb4
  go_wp2_with fail
  refine (takes2_c _ _ _ _).mono ?_
  rintro e w5 ⟨c5, rfl, hv5, hb5⟩
  have H5 := hid hv5; have B5 := hid hb5; clear hv5 hb5
  go_wp2_with fail
  refine (puts2_c _ _ _ _).mono ?_
  rintro e w6 ⟨c6, rfl, hv6, hb6⟩
  have H6 := hid hv6; have B6 := hid hb6; clear hv6 hb6
  go_wp2_with fail
  refine (takes3_c _ _ _ _ _).mono ?_
  rintro e w7 ⟨c7, rfl, hv7, hb7⟩
  have H7 := hid hv7; have B7 := hid hb7; clear hv7 hb7
  go_wp2_with fail
  refine (puts3_c _ _ _ _ _).mono ?_
  rintro e w8 ⟨c8, rfl, hv8, hb8⟩
  have H8 := hid hv8; have B8 := hid hb8; clear hv8 hb8
  go_wp2_with fail
  go_ret
  refine ⟨w8.heap.size, fun k => [.func (.func 40) #[] #[], .func (.func 42) #[] #[], .func (.func 44) #[] #[], .func (.func 55) #[] #[.pointer (some ⟨c1, 0, none⟩)], .func (.func 55) #[] #[.pointer (some ⟨c3, 0, none⟩)], .func (.func 55) #[] #[.pointer (some ⟨c5, 0, none⟩)], .func (.func 55) #[] #[.pointer (some ⟨c7, 0, none⟩)], .func (.func 47) #[] #[], .func (.func 50) #[] #[], .func (.func 54) #[] #[], .func (.func 44) #[] #[]].getD k .nilFunc, fun k => [.func (.func 41) #[] #[], .func (.func 43) #[] #[], .func (.func 45) #[] #[], .func (.func 57) #[] #[.pointer (some ⟨c2, 0, none⟩)], .func (.func 57) #[] #[.pointer (some ⟨c4, 0, none⟩)], .func (.func 57) #[] #[.pointer (some ⟨c6, 0, none⟩)], .func (.func 57) #[] #[.pointer (some ⟨c8, 0, none⟩)], .func (.func 49) #[] #[], .func (.func 51) #[] #[], .func (.func 49) #[] #[], .func (.func 45) #[] #[]].getD k .nilFunc, rfl, ?_, ?_⟩
  · have b8 : ∀ o, Bel w8 (w8.alloc o) := fun o => Bel.alloc (Bel.refl _) o
    have b7 := fun o => B8.out.trans (b8 o)
    have b6 := fun o => B7.out.trans (b7 o)
    have b5 := fun o => B6.out.trans (b6 o)
    have b4 := fun o => B5.out.trans (b5 o)
    have b3 := fun o => B4.out.trans (b4 o)
    have b2 := fun o => B3.out.trans (b3 o)
    have b1 := fun o => B2.out.trans (b2 o)
    intro k hk
    rcases (by omega : k = 0 ∨ k = 1 ∨ k = 2 ∨ k = 3 ∨ k = 4 ∨ k = 5 ∨ k = 6 ∨ k = 7 ∨ k = 8 ∨ k = 9 ∨ k = 10) with rfl | rfl | rfl | rfl | rfl | rfl | rfl | rfl | rfl | rfl | rfl
    · exact ⟨cell_new _ _ _ _ _ rfl, cell_new _ _ _ _ _ rfl, cell_new _ _ _ _ _ rfl, cell_new _ _ _ _ _ rfl, cell_new _ _ _ _ _ rfl, ⟨rfl, rfl⟩⟩
    · exact ⟨cell_new _ _ _ _ _ rfl, cell_new _ _ _ _ _ rfl, cell_new _ _ _ _ _ rfl, cell_new _ _ _ _ _ rfl, cell_new _ _ _ _ _ rfl, ⟨rfl, rfl⟩⟩
    · exact ⟨cell_new _ _ _ _ _ rfl, cell_new _ _ _ _ _ rfl, cell_new _ _ _ _ _ rfl, cell_new _ _ _ _ _ rfl, cell_new _ _ _ _ _ rfl, ⟨rfl, rfl⟩⟩
    · exact ⟨cell_new _ _ _ _ _ rfl, cell_new _ _ _ _ _ rfl, cell_new _ _ _ _ _ rfl, cell_new _ _ _ _ _ rfl, cell_new _ _ _ _ _ rfl, ⟨H1.out.bel (b1 _), H2.out.bel (b2 _)⟩⟩
    · exact ⟨cell_new _ _ _ _ _ rfl, cell_new _ _ _ _ _ rfl, cell_new _ _ _ _ _ rfl, cell_new _ _ _ _ _ rfl, cell_new _ _ _ _ _ rfl, ⟨H3.out.bel (b3 _), H4.out.bel (b4 _)⟩⟩
    · exact ⟨cell_new _ _ _ _ _ rfl, cell_new _ _ _ _ _ rfl, cell_new _ _ _ _ _ rfl, cell_new _ _ _ _ _ rfl, cell_new _ _ _ _ _ rfl, ⟨H5.out.bel (b5 _), H6.out.bel (b6 _)⟩⟩
    · exact ⟨cell_new _ _ _ _ _ rfl, cell_new _ _ _ _ _ rfl, cell_new _ _ _ _ _ rfl, cell_new _ _ _ _ _ rfl, cell_new _ _ _ _ _ rfl, ⟨H7.out.bel (b7 _), H8.out.bel (b8 _)⟩⟩
    · exact ⟨cell_new _ _ _ _ _ rfl, cell_new _ _ _ _ _ rfl, cell_new _ _ _ _ _ rfl, cell_new _ _ _ _ _ rfl, cell_new _ _ _ _ _ rfl, ⟨rfl, rfl⟩⟩
    · exact ⟨cell_new _ _ _ _ _ rfl, cell_new _ _ _ _ _ rfl, cell_new _ _ _ _ _ rfl, cell_new _ _ _ _ _ rfl, cell_new _ _ _ _ _ rfl, ⟨rfl, rfl⟩⟩
    · exact ⟨cell_new _ _ _ _ _ rfl, cell_new _ _ _ _ _ rfl, cell_new _ _ _ _ _ rfl, cell_new _ _ _ _ _ rfl, cell_new _ _ _ _ _ rfl, ⟨rfl, rfl⟩⟩
    · exact ⟨cell_new _ _ _ _ _ rfl, cell_new _ _ _ _ _ rfl, cell_new _ _ _ _ _ rfl, cell_new _ _ _ _ _ rfl, cell_new _ _ _ _ _ rfl, ⟨rfl, rfl⟩⟩
  · exact (((((((B1.out.trans B2.out).trans B3.out).trans B4.out).trans B5.out).trans B6.out).trans B7.out).trans B8.out).alloc _
end Go.Proofs.Ytgnekniabedomaa
