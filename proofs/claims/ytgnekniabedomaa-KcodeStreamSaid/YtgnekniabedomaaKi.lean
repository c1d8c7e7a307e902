/- Walks: kcode.read, from what the format's reader does. -/
import Derived.Test.YtgnekniabedomaaKh
import Derived.Deep.RegionWith
import Derived.Deep.CutRange
namespace Go.Proofs.Ytgnekniabedomaa
set_option linter.unusedVariables false
set_option linter.unusedSimpArgs false
open Go.RowKit
theorem Ch.kept1 {ga g j : Nat} {a b : World} {v : Value} (k : Ch (fun x => x = ga) a b) (h : g ≠ ga) (hc : a.cell? ⟨g, j, none⟩ = some v) : b.cell? ⟨g, j, none⟩ = some v := (k.cell g j (lt_of_cell hc) h).trans hc
theorem Ki.new (x : World) : Ki x.heap.size ⟨0, 0, 0, 0, 0, 0, 0⟩ (x.alloc (.cells #[.int .i64 0, .int .i64 0, .int .i64 0, .int .i64 0, .int .i64 0, .int .u32 0, .int .i64 0] 27)) := ⟨by go_simp, by go_simp, by go_simp, by go_simp, by go_simp, by go_simp, by go_simp, fun j => by go_simp⟩
theorem Ki.new7 (x : World) (i : K.Ins) : Ki x.heap.size i (x.alloc (.cells #[.int .i64 i.op, .int .i64 i.d, .int .i64 i.s, .int .i64 i.ix, .int .i64 i.sc, .int .u32 i.imm, .int .i64 i.sz] 27)) := ⟨by go_simp, by go_simp, by go_simp, by go_simp, by go_simp, by go_simp, by go_simp, fun j => by go_simp⟩
theorem Ki.put7 {g : Nat} {i : K.Ins} {w : World} (h : Ki g i w) (k : K.Ins) : Ki g k (((((((w.setCell ⟨g, 0, none⟩ (.int .i64 k.op)).setCell ⟨g, 1, none⟩ (.int .i64 k.d)).setCell ⟨g, 2, none⟩ (.int .i64 k.s)).setCell ⟨g, 3, none⟩ (.int .i64 k.ix)).setCell ⟨g, 4, none⟩ (.int .i64 k.sc)).setCell ⟨g, 5, none⟩ (.int .u32 k.imm)).setCell ⟨g, 6, none⟩ (.int .i64 k.sz)) := by
  obtain ⟨c0, c1, c2, c3, c4, c5, c6, fz⟩ := h
  have hh : ∀ {x : World} {j j' : Nat} {v : Value} {u : Value}, j ≠ j' → x.cell? ⟨g, j', none⟩ = some u → (x.setCell ⟨g, j, none⟩ v).cell? ⟨g, j', none⟩ = some u := fun hn hc => (other_cell _ _ (.inr hn)).trans hc
  have s0 := cell_set (v := .int .i64 k.op) c0
  have s1 := cell_set (v := .int .i64 k.d) (hh (v := .int .i64 k.op) (show 0 ≠ 1 by decide) c1)
  refine ⟨?_, ?_, ?_, ?_, ?_, ?_, ?_, fun j => by simp only [frozen_set]; exact fz j⟩
  · exact hh (by decide) (hh (by decide) (hh (by decide) (hh (by decide) (hh (by decide) (hh (by decide) (cell_set c0))))))
  · exact hh (by decide) (hh (by decide) (hh (by decide) (hh (by decide) (hh (by decide) (cell_set (hh (by decide) c1))))))
  · exact hh (by decide) (hh (by decide) (hh (by decide) (hh (by decide) (cell_set (hh (by decide) (hh (by decide) c2))))))
  · exact hh (by decide) (hh (by decide) (hh (by decide) (cell_set (hh (by decide) (hh (by decide) (hh (by decide) c3))))))
  · exact hh (by decide) (hh (by decide) (cell_set (hh (by decide) (hh (by decide) (hh (by decide) (hh (by decide) c4))))))
  · exact hh (by decide) (cell_set (hh (by decide) (hh (by decide) (hh (by decide) (hh (by decide) (hh (by decide) c5))))))
  · exact cell_set (hh (by decide) (hh (by decide) (hh (by decide) (hh (by decide) (hh (by decide) (hh (by decide) c6))))))
theorem Ch.undrew {S : Nat → Prop} {a b : World} (h : Ch S a.drew b) : Ch S a b := ⟨h.os, h.tape, h.output, h.size, h.block⟩
theorem Ch.unalloc {S : Nat → Prop} {a b : World} {o : Obj} (h : Ch S (a.alloc o) b) : Ch S a b := ((Bel.alloc (Bel.refl a) o).ch S).trans h
theorem Ch.at_new {ga g j : Nat} {a b : World} {v : Value} (h : Ch (fun x => x = ga) a b) (hg : a.heap.size ≤ g) : Ch (fun x => x = ga) a (b.setCell ⟨g, j, none⟩ v) := h.setCell (p := ⟨g, j, none⟩) (fun hl => absurd hl (Nat.not_lt.2 hg)) v
set_option maxHeartbeats 2000000 in
theorem read_of (lo hi sz : Int) (F G : FuncId) (cs ds : Array Value) (s : ByteArray) (j : K.Ins) (w : World) (hs : s.size ≤ maxLen) (h0 : 0 < s.size) (HE : ∀ (args : Array Value) (w : World), (callFunc F args).run Try.prog w = .ok (.enter F args) w)
    (HT : ∀ (ga gs gi : Nat) (wx : World), Rd ga gs s 1 wx → Ki gi ⟨W.byt s.data.toList 0, 0, 0, -1, 0, 0, sz⟩ wx → ga ≠ gi → gs ≠ gi → w.heap.size ≤ ga → w.heap.size ≤ gi → Bel w wx →
      Calls Try.prog F (#[.func (.func 38) #[] #[.pointer (some ⟨ga, 0, none⟩), .pointer (some ⟨gs, 0, none⟩)], .pointer (some ⟨gi, 0, none⟩)] ++ cs) wx fun e w' => e = .returned (.tuple #[]) ∧ Ki gi j w' ∧ Ch (fun x => x = ga ∨ x = gi) wx w') :
    Calls Try.prog 28 #[.agg #[.int .i64 lo, .int .i64 hi, .int .i64 sz, .func (.func F) #[] cs, .func (.func G) #[] ds], .string s] w fun e w' => e = .returned (.agg #[.int .i64 j.op, .int .i64 j.d, .int .i64 j.s, .int .i64 j.ix, .int .i64 j.sc, .int .u32 j.imm, .int .i64 j.sz]) ∧ Bel w w' := by
  go_enter Try.func28, Try.ntmps28
  go_upto_region 3 with fail
  obtain ⟨ga, hga⟩ : ∃ x, x = w.heap.size + 1 + 1 + 1 := ⟨_, rfl⟩
  obtain ⟨gs, hgs⟩ : ∃ x, x = w.heap.size + 1 := ⟨_, rfl⟩
  obtain ⟨gr, hgr⟩ : ∃ x, x = w.heap.size + 1 + 1 := ⟨_, rfl⟩
  have hi1 : w.heap.size ≠ ga := by omega
  have hi2 : gs ≠ ga := by omega
  have hi3 : gr ≠ ga := by omega
  have hi4 : gr ≠ gs := by omega
  have hi5 : w.heap.size ≤ ga := by omega
  have hi6 : w.heap.size ≤ gr := by omega
  have R0 : Rd (w.heap.size + 1 + 1 + 1) (w.heap.size + 1) s 0 ((((w.alloc (.cells #[.int .i64 lo, .int .i64 hi, .int .i64 sz, .func (.func F) #[] cs, .func (.func G) #[] ds] 66)).alloc (.cells #[.string s] 9)).alloc (.cells #[.int .i64 0, .int .i64 0, .int .i64 0, .int .i64 0, .int .i64 0, .int .u32 0, .int .i64 0] 27)).alloc (.cells #[.int .i64 0] 3)) := ⟨by go_simp, by go_simp, by go_simp, by omega⟩
  have Q0 : Ki (w.heap.size + 1 + 1) ⟨0, 0, 0, 0, 0, 0, 0⟩ ((((w.alloc (.cells #[.int .i64 lo, .int .i64 hi, .int .i64 sz, .func (.func F) #[] cs, .func (.func G) #[] ds] 66)).alloc (.cells #[.string s] 9)).alloc (.cells #[.int .i64 0, .int .i64 0, .int .i64 0, .int .i64 0, .int .i64 0, .int .u32 0, .int .i64 0] 27)).alloc (.cells #[.int .i64 0] 3)) := ⟨by go_simp, by go_simp, by go_simp, by go_simp, by go_simp, by go_simp, by go_simp, fun j => by go_simp⟩
  have B2 : ((((w.alloc (.cells #[.int .i64 lo, .int .i64 hi, .int .i64 sz, .func (.func F) #[] cs, .func (.func G) #[] ds] 66)).alloc (.cells #[.string s] 9)).alloc (.cells #[.int .i64 0, .int .i64 0, .int .i64 0, .int .i64 0, .int .i64 0, .int .u32 0, .int .i64 0] 27)).alloc (.cells #[.int .i64 0] 3)).cell? ⟨w.heap.size, 2, none⟩ = some (.int .i64 sz) := by go_simp
  have B3 : ((((w.alloc (.cells #[.int .i64 lo, .int .i64 hi, .int .i64 sz, .func (.func F) #[] cs, .func (.func G) #[] ds] 66)).alloc (.cells #[.string s] 9)).alloc (.cells #[.int .i64 0, .int .i64 0, .int .i64 0, .int .i64 0, .int .i64 0, .int .u32 0, .int .i64 0] 27)).alloc (.cells #[.int .i64 0] 3)).cell? ⟨w.heap.size, 3, none⟩ = some (.func (.func F) #[] cs) := by go_simp
  have hb : Bel w ((((w.alloc (.cells #[.int .i64 lo, .int .i64 hi, .int .i64 sz, .func (.func F) #[] cs, .func (.func G) #[] ds] 66)).alloc (.cells #[.string s] 9)).alloc (.cells #[.int .i64 0, .int .i64 0, .int .i64 0, .int .i64 0, .int .i64 0, .int .u32 0, .int .i64 0] 27)).alloc (.cells #[.int .i64 0] 3)) := (by repeat (first | assumption | exact Bel.refl _ | refine Bel.drew ?_ | refine Bel.drewN ?_ _ | refine Bel.alloc ?_ _ | (refine Bel.trans ?_ (by assumption)) | (refine Bel.then ?_ (by assumption) (by intro x hx; first | (subst hx; simp; done) | (simp at *; omega)))))
  generalize ((((w.alloc (.cells #[.int .i64 lo, .int .i64 hi, .int .i64 sz, .func (.func F) #[] cs, .func (.func G) #[] ds] 66)).alloc (.cells #[.string s] 9)).alloc (.cells #[.int .i64 0, .int .i64 0, .int .i64 0, .int .i64 0, .int .i64 0, .int .u32 0, .int .i64 0] 27)).alloc (.cells #[.int .i64 0] 3)) = wA at *
  rw [← hga, ← hgr, ← hgs] at *
  have hA : ga < wA.heap.size := lt_of_cell R0.at'
  have hS : gs < wA.heap.size := lt_of_cell R0.str
  have hR : gr < wA.heap.size := lt_of_cell Q0.c0
  have hF : w.heap.size < wA.heap.size := lt_of_cell B2
  have hwr : IntKind.i64.wrap (W.byt s.data.toList 0) = W.byt s.data.toList 0 := IntWalk.i64_in _ (by have := W.byt_bd s.data.toList 0; omega)
  have hgB : ga ≠ wA.heap.size := by omega
  have hgC : gs ≠ wA.heap.size := by omega
  have hgA : ¬ wA.heap.size = ga := by omega
  clear hga hgr hgs
  have B2d : ∀ o, (wA.drew.alloc o).cell? ⟨w.heap.size, 2, none⟩ = some (.int .i64 sz) := fun o => Bel.at (Bel.alloc (Bel.drew (Bel.refl _)) o) B2
  have B2e : wA.drew.cell? ⟨w.heap.size, 2, none⟩ = some (.int .i64 sz) := Bel.at (Bel.drew (Bel.refl _)) B2
  go_cut [7] from 9 to 14 (fun s7 wx => ∃ gi, s7 = .pointer (some ⟨gi, 0, none⟩) ∧ wA.heap.size ≤ gi ∧ Rd ga gs s 1 wx ∧ Ki gi ⟨W.byt s.data.toList 0, 0, 0, -1, 0, 0, sz⟩ wx ∧ Ch (fun x => x = ga) wA wx)
  case first =>
    go_region_with (go_at_call 38; refine (next_any _ _ _ 0 _ ?_ h0 hs).mono ?_; (first | exact R0 | exact R0.bel (Bel.alloc (Bel.drew (Bel.refl _)) _) | exact R0.bel (Bel.alloc (Bel.refl _) _) | exact R0.bel (Bel.drew (Bel.refl _))); rintro e w2 ⟨rfl, hr1, hch⟩; (first | (have B2' : w2.cell? ⟨w.heap.size, 2, none⟩ = some (.int .i64 sz) := Ch.kept1 hch hi1 B2) | (have B2' : w2.cell? ⟨w.heap.size, 2, none⟩ = some (.int .i64 sz) := Ch.kept1 hch hi1 (Bel.at (Bel.alloc (Bel.refl _) _) B2)) | (have B2' : w2.cell? ⟨w.heap.size, 2, none⟩ = some (.int .i64 sz) := Ch.kept1 hch hi1 (Bel.at (Bel.drew (Bel.refl _)) B2)) | (have B2' : w2.cell? ⟨w.heap.size, 2, none⟩ = some (.int .i64 sz) := Ch.kept1 hch hi1 (Bel.at (Bel.alloc (Bel.drew (Bel.refl _)) _) B2))); have B2'' : ∀ o, (w2.alloc o).cell? ⟨w.heap.size, 2, none⟩ = some (.int .i64 sz) := (fun o => Bel.at (Bel.alloc (Bel.refl _) o) B2'); try (obtain ⟨A0, A1, A2, A3, A4, A5, A6, AF⟩ := (show Ki wA.heap.size _ (wA.drew.alloc _) from Ki.new wA.drew).ch hch hgA))
    all_goals
      go_wp2_with fail
      go_meet
      first
        | exact ⟨w2.heap.size, rfl, hch.size, hr1.bel (Bel.alloc (Bel.refl _) _), Ki.new7 w2 ⟨W.byt s.data.toList 0, 0, 0, -1, 0, 0, sz⟩, hch.undrew.alloc _⟩
        | exact ⟨wA.heap.size, rfl, Nat.le_refl _, ((((((hr1.set hgB hgC).set hgB hgC).set hgB hgC).set hgB hgC).set hgB hgC).set hgB hgC).set hgB hgC, Ki.put7 (i := ⟨0, 0, 0, 0, 0, 0, 0⟩) ⟨A0, A1, A2, A3, A4, A5, A6, AF⟩ ⟨W.byt s.data.toList 0, 0, 0, -1, 0, 0, sz⟩, ((((((hch.unalloc.undrew.at_new (Nat.le_refl _)).at_new (Nat.le_refl _)).at_new (Nat.le_refl _)).at_new (Nat.le_refl _)).at_new (Nat.le_refl _)).at_new (Nat.le_refl _)).at_new (Nat.le_refl _)⟩
  case rest =>
    obtain ⟨gi, rfl, hgi, hr, hk, hch⟩ := hcut
    have b3 := Ch.kept1 hch hi1 B3
    have Q1 := Q0.ch hch hi3
    have hbc : Bel w wc := Bel.then hb hch (by rintro x rfl; exact hi5)
    have n1 : ga ≠ gi := by omega
    have n2 : gs ≠ gi := by omega
    have n3 : ¬ (gr = ga ∨ gr = gi) := by omega
    have n4 : w.heap.size ≤ gi := by omega
    clear B2 B3 B2d B2e R0 Q0 hgA hgB hgC hA hS hR hF hb hch
    go_wp2_with (refine (HT ga gs gi wc hr hk n1 n2 hi5 n4 hbc).mono ?_; rintro e w3 ⟨rfl, hk3, hch3⟩; obtain ⟨q0, q1, q2, q3, q4, q5, q6, qf⟩ := hk3; obtain ⟨r0, r1, r2, r3, r4, r5, r6, rf⟩ := Q1.ch hch3 n3)
    have hb3 : Bel w w3 := Bel.then hbc hch3 (fun x hx => hx.elim (fun e => e ▸ hi5) (fun e => e ▸ n4))
    refine bodyPost_ret (v := .agg #[.int .i64 j.op, .int .i64 j.d, .int .i64 j.s, .int .i64 j.ix, .int .i64 j.sc, .int .u32 j.imm, .int .i64 j.sz]) (by simp [results, Try.results28, go_sem, r0, r1, r2, r3, r4, r5, r6]) rfl ⟨rfl, ?_⟩
    repeat (first | refine Bel.setCell ?_ hi6 _ | exact hb3)
end Go.Proofs.Ytgnekniabedomaa
